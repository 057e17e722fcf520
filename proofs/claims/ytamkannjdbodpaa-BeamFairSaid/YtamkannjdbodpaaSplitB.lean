import Derived.Test.YtamkannjdbodpaaSplitA
namespace Go.Proofs.Ytamkannjdbodpaa
open Go.RowKit Go.WideShapes Go.ChangeShapes

theorem panelErr_ref (p m : Int) (w : World) : Calls Try.prog 119 #[.agg #[.int .i64 p, .int .i64 m]] w fun x w' => x = .returned (.int .i64 (unlessE (isPow p && isPow m) 2)) ∧ Below w.heap.size w w' := by
  unfold isPow
  rcases (by cases withinB p 0 1000000 <;> cases withinB m 0 1000000 <;> simp : (withinB p 0 1000000 = false) ∨ (withinB p 0 1000000 = true ∧ withinB m 0 1000000 = false) ∨ (withinB p 0 1000000 = true ∧ withinB m 0 1000000 = true)) with k1 | ⟨k1, k2⟩ | ⟨k1, k2⟩
  · rw [k1, Bool.false_and]
    go_enter Try.func119, Try.ntmps119
    go_wp2_with (go_at_call 24; refine (within_base _ _ _ _).mono ?_; rintro e w' ⟨rfl, rfl⟩; simp only [])
    go_ret
    exact ⟨rfl, by go_grown⟩
  all_goals
    rw [k1, k2]
    go_enter Try.func119, Try.ntmps119
    go_wp2_with (go_at_call 24; refine (within_base _ _ _ _).mono ?_; rintro e w' ⟨rfl, rfl⟩; simp only [])
    go_ret
    exact ⟨rfl, by go_grown⟩

theorem pan_cases (p m : Int) (n : Nat) : ((isPow p && isPow m) = false ∧ panE p m n = 2) ∨ ((isPow p && isPow m) = true ∧ 12 < n ∧ panE p m n = 8) ∨ ((isPow p && isPow m) = true ∧ n ≤ 12 ∧ panE p m n = 0) := by
  unfold panE
  cases h : (isPow p && isPow m)
  · exact .inl ⟨rfl, rfl⟩
  · by_cases hn : n ≤ 12
    · exact .inr (.inr ⟨rfl, hn, by rw [decide_eq_true (by omega)]; rfl⟩)
    · exact .inr (.inl ⟨rfl, by omega, by rw [decide_eq_false (by omega)]; rfl⟩)
theorem firstOf_pan {a b : Int} (h : a ≠ 0) : firstOf [a, b] = a := by simp [firstOf, h]
theorem firstOf_zero (b : Int) : firstOf [0, b] = b := by simp only [firstOf]; simp; intro h; exact h.symm

theorem Calls.flip {P : Program} {f : FuncId} {args : Array Value} {w : World} {v : Ending} (h : Calls P f args w fun e w' => e = v ∧ w = w') : Calls P f args w fun e w' => e = v ∧ w' = w := h.mono fun _ _ ⟨he, hw⟩ => ⟨he, hw.symm⟩
theorem within_is {n lo hi : Int} {b : Bool} (h : withinB n lo hi = b) (w : World) : Calls Try.prog 24 #[.int .i64 n, .int .i64 lo, .int .i64 hi] w fun x w' => x = .returned (.bool b) ∧ w' = w := by
  subst h
  exact Calls.flip (within_base _ _ _ _)

set_option maxHeartbeats 600000 in
theorem wantsErr_ref (A : Option Addr) (c : Nat) (l : List Int) (p m : Int) (w : World) (hs : Sl w A (iv l)) :
    Calls Try.prog 44 #[.agg #[.int .i64 p, .int .i64 m], .slice A l.length c] w fun e w' => e = .returned (.int .i64 (spE p m l)) ∧ Below w.heap.size w w' := by
  have HS := hide hs; clear hs
  rcases pan_cases p m l.length with ⟨k1, k2⟩ | ⟨k1, hn, k2⟩ | ⟨k1, hn, k2⟩
  · have e : spE p m l = 2 := by unfold spE; rw [k2]; rfl
    rw [e]
    clear e
    have hu : unlessE (isPow p && isPow m) 2 = 2 := by rw [k1]; rfl
    have HU := hide hu; clear hu
    clear k1 k2
    go_enter Try.func44, Try.ntmps44
    go_wp2_with (go_at_call 119; go_must (refine (panelErr_ref _ _ _).mono ?_; rintro e w1 ⟨rfl, hb1⟩; rw [HU.out]; have b1 : Below w.heap.size w w1 := Below.step (by go_grown) hb1; obtain ⟨hc1, hf1, y10⟩ := bloc1 w hb1 (by first | omega | (simp; done) | (simp; omega)); simp only []))
    go_ret
    exact ⟨rfl, by go_grown⟩
  · have e : spE p m l = 8 := by unfold spE; rw [k2]; rfl
    rw [e]
    clear e
    have hu : unlessE (isPow p && isPow m) 2 = 0 := by rw [k1]; rfl
    have HU := hide hu; clear hu
    clear k1 k2
    go_enter Try.func44, Try.ntmps44
    go_wp2_with (go_at_call 119; go_must (refine (panelErr_ref _ _ _).mono ?_; rintro e w1 ⟨rfl, hb1⟩; rw [HU.out]; have b1 : Below w.heap.size w w1 := Below.step (by go_grown) hb1; obtain ⟨hc1, hf1, y10⟩ := bloc1 w hb1 (by first | omega | (simp; done) | (simp; omega)); simp only []))
    go_ret
    exact ⟨rfl, by go_grown⟩
  · have e : spE p m l = unlessE (!(decide (0 ≤ idxFrom noPow l 0))) 2 := by unfold spE; rw [k2, firstOf_zero]
    have E := hide e; clear e
    have hu : unlessE (isPow p && isPow m) 2 = 0 := by rw [k1]; rfl
    have HU := hide hu; clear hu
    clear k1 k2
    go_enter Try.func44, Try.ntmps44
    go_wp2_with (go_at_call 119; go_must (refine (panelErr_ref _ _ _).mono ?_; rintro e w1 ⟨rfl, hb1⟩; rw [HU.out]; have b1 : Below w.heap.size w w1 := Below.step (by go_grown) hb1; obtain ⟨hc1, hf1, y10⟩ := bloc1 w hb1 (by first | omega | (simp; done) | (simp; omega)); clear hb1; simp only []))
    go_loopw [6] (fun i wr => ∃ k : Nat, k ≤ l.length ∧ i = .int .i64 k ∧ idxFrom noPow l 0 = idxFrom noPow (l.drop k) k ∧ Below w.heap.size w wr) (fun i _ => l.length - (intOf i).toNat)
    case atStart => exact ⟨0, Nat.zero_le _, rfl, by simp, by go_grown⟩
    case round =>
      obtain ⟨k, hk, rfl, he, hbel⟩ := hrel
      have HE := hide he; clear he
      by_cases hlt : k < l.length
      · obtain ⟨b, off, rfl, hc⟩ := HS.out.int hlt
        have hcw : wr.cell? ⟨b, off + k, none⟩ = some (.int .i64 l[k]) := (hbel.cell (p := ⟨b, off + k, none⟩) (lt_of_cell hc)).trans hc
        clear hc
        cases hw : withinB l[k] 0 1000000
        · have hh := idx_hit noPow l k hlt (by simp [noPow, isPow, hw]) k
          have HH := hide hh; clear hh
          have HW := hide hw; clear hw
          go_wp2_with (go_at_call 24; refine (within_base _ _ _ _).mono ?_; rintro e w' ⟨rfl, rfl⟩; rw [HW.out]; simp only [])
          go_ret
          exact ⟨by rw [E.out, HE.out, HH.out, decide_eq_true (by omega : (0 : Int) ≤ (k : Int))]; rfl, hbel⟩
        · have hh := idx_skip noPow l k hlt (by simp [noPow, isPow, hw]) k
          have HH := hide hh; clear hh
          have HW := hide hw; clear hw
          go_wp2_with (go_at_call 24; refine (within_base _ _ _ _).mono ?_; rintro e w' ⟨rfl, rfl⟩; rw [HW.out]; simp only [])
          go_roundw
          case rel => exact ⟨k + 1, by omega, by go_num, by rw [HE.out, HH.out]; simp, hbel⟩
          case measure => simp [intOf]; omega
      · go_wp2
        go_ret
        exact ⟨by rw [E.out, HE.out, List.drop_eq_nil_of_le (by omega)]; rfl, hbel⟩

set_option maxHeartbeats 1000000 in
theorem checkSplit_ref (A : Option Addr) (c : Nat) (l : List Int) (p m : Int) (w : World) (hs : Sl w A (iv l)) (hl : l.length ≤ 1000000) :
    Calls Try.prog 43 #[.agg #[.int .i64 p, .int .i64 m], .slice A l.length c] w fun e w' => e = .returned (.tuple #[.int .i64 (csV p m l), .int .i64 (csE p m l)]) ∧ Below w.heap.size w w' := by
  have HS := hide hs; clear hs
  rcases pan_cases p m l.length with ⟨k1, k2⟩ | ⟨k1, hn, k2⟩ | ⟨k1, hn, k2⟩
  · have e0 : csE.spE' p m l = 2 := by unfold csE.spE'; rw [k2]; rfl
    have e : csE p m l = 2 := by unfold csE; rw [e0]; rfl
    have v : csV p m l = 0 := by unfold csV; rw [e]; rfl
    rw [e, v]
    clear e v e0
    have hu : unlessE (isPow p && isPow m) 2 = 2 := by rw [k1]; rfl
    have HU := hide hu; clear hu
    clear k1 k2
    go_enter Try.func43, Try.ntmps43
    go_wp2_with (go_at_call 119; go_must (refine (panelErr_ref _ _ _).mono ?_; rintro e w1 ⟨rfl, hb1⟩; rw [HU.out]; have b1 : Below w.heap.size w w1 := Below.step (by go_grown) hb1; obtain ⟨hc1, hf1, y10⟩ := bloc1 w hb1 (by first | omega | (simp; done) | (simp; omega)); simp only []))
    go_ret2
    exact ⟨rfl, by go_grown⟩
  · have e0 : csE.spE' p m l = 8 := by unfold csE.spE'; rw [k2]; rfl
    have e : csE p m l = 8 := by unfold csE; rw [e0]; rfl
    have v : csV p m l = 0 := by unfold csV; rw [e]; rfl
    rw [e, v]
    clear e v e0
    have hu : unlessE (isPow p && isPow m) 2 = 0 := by rw [k1]; rfl
    have HU := hide hu; clear hu
    clear k1 k2
    go_enter Try.func43, Try.ntmps43
    go_wp2_with (go_at_call 119; go_must (refine (panelErr_ref _ _ _).mono ?_; rintro e w1 ⟨rfl, hb1⟩; rw [HU.out]; have b1 : Below w.heap.size w w1 := Below.step (by go_grown) hb1; obtain ⟨hc1, hf1, y10⟩ := bloc1 w hb1 (by first | omega | (simp; done) | (simp; omega)); simp only []))
    go_ret2
    exact ⟨rfl, by go_grown⟩
  · have e0 : csE.spE' p m l = unlessE (!(decide (0 ≤ idxFrom (offB m) l 0))) 2 := by unfold csE.spE'; rw [k2, firstOf_zero]
    have E := hide e0; clear e0
    obtain ⟨p0, p1, m0, m1, _⟩ := panE_ok k2
    have hu : unlessE (isPow p && isPow m) 2 = 0 := by rw [k1]; rfl
    have HU := hide hu; clear hu
    clear k1 k2
    go_enter Try.func43, Try.ntmps43
    go_wp2_with (go_at_call 119; go_must (refine (panelErr_ref _ _ _).mono ?_; rintro e w1 ⟨rfl, hb1⟩; rw [HU.out]; have b1 : Below w.heap.size w w1 := Below.step (by go_grown) hb1; obtain ⟨hc1, hf1, y10⟩ := bloc1 w hb1 (by first | omega | (simp; done) | (simp; omega)); simp only []))
    have hblk : Blk w1 w.heap.size 63 #[.int .i64 p, .int .i64 m] := (Blk.new w _ _).below hb1 (by simp)
    clear hb1
    go_loopw [7, 8] (fun a i wr => ∃ (k : Nat) (s : Int), k ≤ l.length ∧ i = .int .i64 k ∧ a = .int .i64 s ∧ s = sumL (l.take k) ∧ 0 ≤ s ∧ s ≤ 1000000 * k ∧ idxFrom (offB m) l 0 = idxFrom (offB m) (l.drop k) k ∧ Blk wr w.heap.size 63 #[.int .i64 p, .int .i64 m] ∧ Below w.heap.size w wr) (fun _ i _ => l.length - (intOf i).toNat)
    case atStart => exact ⟨0, 0, Nat.zero_le _, rfl, rfl, rfl, by omega, by omega, by simp, hblk, by go_grown⟩
    case round =>
      obtain ⟨k, s, hk, rfl, rfl, hsum, s0, s1, he, hblk2, hbel⟩ := hrel
      have HE := hide he; clear he
      have HSM := hide hsum; clear hsum
      have d0 : wr.cell? ⟨w.heap.size, 0, none⟩ = some (.int .i64 p) := hblk2.cell 0
      have d1 : wr.cell? ⟨w.heap.size, 1, none⟩ = some (.int .i64 m) := hblk2.cell 1
      have yl := hblk2.lt
      by_cases hlt : k < l.length
      · obtain ⟨b, off, rfl, hc⟩ := HS.out.int hlt
        have hcw : wr.cell? ⟨b, off + k, none⟩ = some (.int .i64 l[k]) := (hbel.cell (p := ⟨b, off + k, none⟩) (lt_of_cell hc)).trans hc
        clear hc
        cases hw : withinB l[k] 0 m
        · have hh := idx_hit (offB m) l k hlt (by simp [offB, hw]) k
          have HH := hide hh; clear hh
          have HW := hide hw; clear hw
          go_wp2
          go_quiet (first | (go_at_call 24; refine Calls.quiet_of_same (within_is HW.out _)))
          go_wp2
          go_ret2
          have h0 : csE.spE' p m l = 2 := by rw [E.out, HE.out, HH.out, decide_eq_true (by omega : (0 : Int) ≤ (k : Int))]; rfl
          have h1 : csE p m l = 2 := by unfold csE; rw [h0]; rfl
          have h2 : csV p m l = 0 := by unfold csV; rw [h1]; rfl
          rw [h1, h2]
          exact ⟨rfl, below_drewN hbel _⟩
        · have hh := idx_skip (offB m) l k hlt (by simp [offB, hw]) k
          have HH := hide hh; clear hh
          have hwb : 0 ≤ l[k] ∧ l[k] ≤ m := by simpa [withinB] using hw
          obtain ⟨x0, x1⟩ := hwb
          have HW := hide hw; clear hw
          go_wp2
          go_quiet (first | (go_at_call 24; refine Calls.quiet_of_same (within_is HW.out _)))
          go_wp2
          go_roundw
          case rel => exact ⟨k + 1, s + l[k], by omega, by go_num, rfl, by rw [HSM.out, sumL_take l k hlt], by omega, by omega, by rw [HE.out, HH.out]; simp, by first | exact hblk2.drewN _ | exact hblk2, by first | exact below_drewN hbel _ | exact hbel⟩
          case measure => simp [intOf]; omega
      · obtain rfl : k = l.length := by omega
        have h0 : csE.spE' p m l = 0 := by rw [E.out, HE.out, List.drop_eq_nil_of_le (by omega)]; rfl
        have hss : s = sumL l := by rw [HSM.out, List.take_length]
        have h1 : csE p m l = if p < s then 24 else 0 := by unfold csE; rw [h0, hss]; rfl
        have h2 : csV p m l = if p < s then 0 else s := by unfold csV; rw [h1, hss]; split <;> simp_all
        have H1 := hide h1; clear h1 h0 hss
        have H2 := hide h2; clear h2
        by_cases hgt : p < s
        · go_wp2
          go_ret2
          exact ⟨ret2i (by rw [H2.out, if_pos hgt]) (by rw [H1.out, if_pos hgt]), hbel⟩
        · go_wp2
          go_ret2
          exact ⟨ret2i (by rw [H2.out, if_neg (by omega)]) (by rw [H1.out, if_neg (by omega)]), hbel⟩

theorem used_ref (A : Option Addr) (c : Nat) (l : List Int) (lv : Int) (w : World) (hs : Sl w A (iv l)) (hl : l.length ≤ 1000) (hp : Pows l) (h0 : 0 ≤ lv) (h1 : lv ≤ 1000000) :
    Calls Try.prog 120 #[.slice A l.length c, .int .i64 lv] w fun e w' => e = .returned (.int .i64 (usedL lv l)) ∧ w = w' := by
  have HS := hide hs; clear hs
  have HP := hide hp; clear hp
  go_enter Try.func120, Try.ntmps120
  go_wp2
  go_loop [5, 6] (fun a i => ∃ (k : Nat) (m : Int), k ≤ l.length ∧ i = .int .i64 k ∧ a = .int .i64 m ∧ 0 ≤ m ∧ m + usedL lv (l.drop k) = usedL lv l) (fun _ i => l.length - (intOf i).toNat)
  case atStart => exact ⟨0, 0, Nat.zero_le _, rfl, rfl, by omega, by simp⟩
  case round =>
    obtain ⟨k, m, hk, rfl, rfl, hm0, he⟩ := hrel
    have HE := hide he; clear he
    by_cases hlt : k < l.length
    · obtain ⟨b, off, rfl, hc⟩ := HS.out.int hlt
      have hx := HP.out l[k] (List.getElem_mem hlt)
      have hmn : 0 ≤ m + min l[k] lv ∧ m + min l[k] lv ≤ 1000000000 := by
        have h2 := usedL_step lv l k hlt
        have h3 := usedL_bd lv (l.drop (k + 1)) (fun x hx => HP.out x (List.mem_of_mem_drop hx)) h0
        have h4 := HE.out
        have h5 := usedL_bd lv l HP.out h0
        omega
      obtain ⟨x, hxe⟩ : ∃ x, l[k] = x := ⟨_, rfl⟩
      have HX := hide hxe
      rw [hxe] at hc hx hmn
      clear hxe
      obtain ⟨hx0, hx1⟩ := hx
      rcases (by omega : (x ≤ lv ∧ ¬ lv < x ∧ min x lv = x) ∨ (lv < x ∧ min x lv = lv)) with ⟨hle, _, hmin⟩ | ⟨hle, hmin⟩
      all_goals
        rw [hmin] at hmn
        obtain ⟨hm1, hm2⟩ := hmn
        have HM := hide hmin; clear hmin
        go_wp2
        go_round
        case rel => exact ⟨k + 1, _, by omega, by go_num, rfl, by omega, by rw [← HE.out, usedL_step lv l k hlt, HX.out, HM.out]; omega⟩
        case measure => simp [intOf]; omega
    · go_wp2
      obtain rfl : k = l.length := by omega
      go_ret
      have h3 := HE.out
      rw [List.drop_length] at h3
      exact ⟨ret1 (by simpa [usedL] using h3), rfl⟩
end Go.Proofs.Ytamkannjdbodpaa
