import Derived.Test.YtehcmhblppjalaaSyC
import Derived.Test.YtehcmhblppjalaaStay
import Derived.Test.YtehcmhblppjalaaHeld
namespace Go.Proofs.Ytehcmhblppjalaa
open Go.RowKit Go.WideShapes Go.ChangeShapes

/-! the reference's error of a register -/
def lst (T : List Int) (k : Nat) : Int := if k = 0 then -1 else T[k - 1]?.getD 0
theorem tapE_cons (L last t : Int) (r : List Int) : tapE L last (t :: r) = if withinB t 0 (L - 1) = true then (if t ≤ last then 9 else tapE L t r) else 2 := rfl
theorem tapE_drop (L : Int) (T : List Int) (k : Nat) (hk : k < T.length) : tapE L (lst T k) (T.drop k) = if withinB T[k] 0 (L - 1) = true then (if T[k] ≤ lst T k then 9 else tapE L (lst T (k + 1)) (T.drop (k + 1))) else 2 := by
  rw [List.drop_eq_getElem_cons hk, tapE_cons]
  have : lst T (k + 1) = T[k] := by unfold lst; rw [if_neg (by omega), Nat.add_sub_cancel, List.getElem?_eq_getElem hk]; rfl
  rw [this]
theorem withinB_iff (n lo hi : Int) : withinB n lo hi = true ↔ lo ≤ n ∧ n ≤ hi := by unfold withinB; simp
abbrev rgA (L : Int) (A1 A2 : Option Addr) (n1 n2 c1 c2 : Nat) : Array Value := #[.int .i64 L, .slice A1 n1 c1, .slice A2 n2 c2]
set_option maxRecDepth 100000 in
set_option maxHeartbeats 4000000 in
theorem checkReg_ref (L : Int) (A1 A2 : Option Addr) (c1 c2 : Nat) (T B : List Int) (w : World) (hs1 : Sl w A1 (iv T)) (hs2 : Sl w A2 (iv B)) (hl1 : T.length ≤ 1000000) (hl2 : B.length ≤ 1000000) :
    Calls Try.prog 5 #[.agg (rgA L A1 A2 T.length B.length c1 c2)] w fun e w' => e = .returned (.int .i64 (rgE L T B)) ∧ Below w.heap.size w w' := by
  have HW := hide (fun W => within_base L 2 10 W)
  have HS1 := hide (stay_sl hs1)
  have HS2 := hide (fun W (h : Sl W A2 (iv B)) => areBits_ref A2 c2 B W h hl2)
  have HS3 := hide (stay_sl hs2)
  clear hs1 hs2
  unfold rgE rgA
  cases hw : withinB L 2 10
  · rw [hw] at HW
    rw [if_neg (by decide)]
    clear hw HS2
    go_enter Try.func5, Try.ntmps5
    go_wp2_with (go_at_call 16; go_must (refine (HW.out _).mono ?_; rintro e w1 ⟨rfl, rfl⟩; simp only []))
    go_ret
    exact ⟨rfl, by go_grown⟩
  obtain ⟨hL1, hL2⟩ := (withinB_iff L 2 10).mp hw
  rw [if_pos rfl]
  rw [hw] at HW
  clear hw
  by_cases h0 : T.length = 0
  · rw [if_pos h0]
    have q0 : ((T.length : Int) == 0) = true := by rw [h0]; rfl
    clear h0 HS2 HS3 HS1
    go_enter Try.func5, Try.ntmps5
    go_wp2_with (go_at_call 16; go_must (refine (HW.out _).mono ?_; rintro e w1 ⟨rfl, rfl⟩; simp only []))
    go_ret
    exact ⟨rfl, by go_grown⟩
  rw [if_neg h0]
  have q0 : ((T.length : Int) == 0) = false := by rw [beq_eq_false_iff_ne]; omega
  have HN0 := hide h0
  clear h0
  have i1 : IntKind.i64.wrap (L - 1) = L - 1 := IntWalk.i64_in _ (by omega)
  obtain ⟨m, hm⟩ : ∃ m, T.length = m := ⟨_, rfl⟩
  obtain ⟨m2, hm2⟩ : ∃ m, B.length = m := ⟨_, rfl⟩
  have HM := hide hm
  have HM2 := hide hm2
  rw [hm] at q0 hl1
  rw [hm2] at HS2
  rw [hm, hm2]
  clear hm hm2 hl2
  obtain ⟨E, hE⟩ : ∃ E : Int, (if tapE L (-1) T ≠ 0 then tapE L (-1) T else if T[0]?.getD 0 ≠ 0 then 3 else if (m2 : Int) ≠ L then 10 else if B.all bitB = true then 0 else 15) = E := ⟨_, rfl⟩
  rw [hE]
  have HEE := hide hE
  clear hE
  go_enter Try.func5, Try.ntmps5
  go_wp2_with (go_at_call 16; go_must (refine (HW.out _).mono ?_; rintro e w1 ⟨rfl, rfl⟩; simp only []))
  go_loopw [3] (fun i wr => ∃ k : Nat, k ≤ m ∧ i = .int .i64 k ∧ tapE L (-1) T = tapE L (lst T k) (T.drop k) ∧ Blk wr w.heap.size 24 #[.int .i64 L, .slice A1 m c1, .slice A2 m2 c2] ∧ Below w.heap.size w wr) (fun i _ => m - (intOf i).toNat)
  case atStart => exact ⟨0, Nat.zero_le _, rfl, by simp [lst], Blk.new w 24 _, by go_grown⟩
  case round =>
    obtain ⟨k, hk, rfl, he, hB, hbel⟩ := hrel
    have HE := hide he
    have HBX := hide hB
    have HBE := hide hbel
    have c0 := hB.cell 0
    have c1' := hB.cell 1
    have c2' := hB.cell 2
    clear he
    by_cases hlt : k < m
    · have hlt' : k < T.length := by rw [HM.out]; exact hlt
      have hdr := tapE_drop L T k hlt'
      have HWT := hide (fun W => within_base T[k] 0 (L - 1) W)
      have HXC := hide (fun W (h : Below w.heap.size w W) => show ∃ b off, A1 = some ⟨b, off, none⟩ ∧ W.cell? ⟨b, off + k, none⟩ = some (.int .i64 T[k]) from by
        obtain ⟨b, off, e, h1⟩ := (HS1.out W h).int hlt'; exact ⟨b, off, e, h1⟩)
      have HXP := hide (fun (h0 : 0 < k) W (h : Below w.heap.size w W) => show ∃ b off, A1 = some ⟨b, off, none⟩ ∧ W.cell? ⟨b, off + (k - 1), none⟩ = some (.int .i64 (lst T k)) from by
        obtain ⟨b, off, e, h1⟩ := (HS1.out W h).int (show k - 1 < T.length by omega)
        refine ⟨b, off, e, ?_⟩
        rw [h1]; unfold lst; rw [if_neg (by omega), List.getElem?_eq_getElem (by omega)]; rfl)
      obtain ⟨b1, o1, rfl, -⟩ := HXC.out wr HBE.out
      have HYC := hide (fun W (h : Below w.heap.size w W) => show W.cell? ⟨b1, o1 + k, none⟩ = some (.int .i64 T[k]) from by
        obtain ⟨b, off, e, h1⟩ := HXC.out W h
        injection e with e; injection e with e3 e4 _; subst e3 e4; exact h1)
      have HYP := hide (fun (h0 : 0 < k) W (h : Below w.heap.size w W) => show W.cell? ⟨b1, o1 + (k - 1), none⟩ = some (.int .i64 (lst T k)) from by
        obtain ⟨b, off, e, h1⟩ := HXP.out h0 W h
        injection e with e; injection e with e3 e4 _; subst e3 e4; exact h1)
      obtain ⟨t, ht⟩ : ∃ t, T[k] = t := ⟨_, rfl⟩
      obtain ⟨u, hu⟩ : ∃ t, lst T k = t := ⟨_, rfl⟩
      rw [ht] at hdr HWT HYC
      rw [hu] at hdr HYP HE
      have HU := hide hu
      have g1 : (0 : Int) ≤ (k : Int) := by omega
      have g2 : (k : Int) < (m : Int) := by omega
      clear ht hu HXC HXP HS2 HS3 hB hbel hlt' HS1
      go_wp2
      have HH0 : Hid (Blk wr.drew w.heap.size 24 #[.int .i64 L, .slice (some ⟨b1, o1, none⟩) m c1, .slice A2 m2 c2] ∧ Below w.heap.size w wr.drew) := hide ⟨HBX.out, below_drewN HBE.out 1⟩
      clear c0 c1' c2'
      refine wp_region_held_drew (S := fun w' => Blk w' w.heap.size 24 #[.int .i64 L, .slice (some ⟨b1, o1, none⟩) m c1, .slice A2 m2 c2] ∧ Below w.heap.size w w') (by kernel_rfl) HH0.out (fun hHeld => ?_)
      refine take_at (i := 0) 19 (v := .pointer (some ⟨w.heap.size, 1, none⟩)) rfl rfl (by kernel_rfl) (by kernel_rfl) (by kernel_rfl) (fun _ _ _ h => h) (Or.inl ⟨by rfl, by intro w hSw; go_simp⟩) (by assumption) ?_
      try simp only [Act.put, List.setIfInBounds_toArray, List.set_cons_zero, List.set_cons_succ]
      refine take_at (i := 1) 20 (v := .slice (some ⟨b1, o1, none⟩) m c1) rfl rfl (by kernel_rfl) (by kernel_rfl) (by kernel_rfl) (fun _ _ _ h => h) (Or.inl ⟨by rfl, by intro w1 hSw; have q := hSw.1.cell 1; go_simp⟩) (by assumption) ?_
      try simp only [Act.put, List.setIfInBounds_toArray, List.set_cons_zero, List.set_cons_succ]
      refine take_at (i := 2) 21 (v := .int .i64 (k : Int)) rfl rfl (by kernel_rfl) (by kernel_rfl) (by kernel_rfl) (fun _ _ _ h => h) (Or.inl ⟨by rfl, by intro w hSw; go_simp⟩) (by assumption) ?_
      try simp only [Act.put, List.setIfInBounds_toArray, List.set_cons_zero, List.set_cons_succ]
      refine take_at (i := 3) 22 (v := .pointer (some ⟨b1, o1 + k, none⟩)) rfl rfl (by kernel_rfl) (by kernel_rfl) (by kernel_rfl) (fun _ _ _ h => h) (Or.inl ⟨by rfl, by intro w hSw; go_simp⟩) (by assumption) ?_
      try simp only [Act.put, List.setIfInBounds_toArray, List.set_cons_zero, List.set_cons_succ]
      refine take_at (i := 4) 23 (v := .int .i64 t) rfl rfl (by kernel_rfl) (by kernel_rfl) (by kernel_rfl) (fun _ _ _ h => h) (Or.inl ⟨by rfl, by intro w1 hSw; have q := HYC.out w1 hSw.2; go_simp⟩) (by assumption) ?_
      try simp only [Act.put, List.setIfInBounds_toArray, List.set_cons_zero, List.set_cons_succ]
      refine take_at (i := 5) 24 (v := .pointer (some ⟨w.heap.size, 0, none⟩)) rfl rfl (by kernel_rfl) (by kernel_rfl) (by kernel_rfl) (fun _ _ _ h => h) (Or.inl ⟨by rfl, by intro w hSw; go_simp⟩) (by assumption) ?_
      try simp only [Act.put, List.setIfInBounds_toArray, List.set_cons_zero, List.set_cons_succ]
      refine take_at (i := 6) 25 (v := .int .i64 L) rfl rfl (by kernel_rfl) (by kernel_rfl) (by kernel_rfl) (fun _ _ _ h => h) (Or.inl ⟨by rfl, by intro w1 hSw; have q := hSw.1.cell 0; go_simp⟩) (by assumption) ?_
      try simp only [Act.put, List.setIfInBounds_toArray, List.set_cons_zero, List.set_cons_succ]
      refine take_at (i := 7) 26 (v := .int .i64 (L - 1)) rfl rfl (by kernel_rfl) (by kernel_rfl) (by kernel_rfl) (fun _ _ _ h => h) (Or.inl ⟨by rfl, by intro w hSw; go_simp⟩) (by assumption) ?_
      try simp only [Act.put, List.setIfInBounds_toArray, List.set_cons_zero, List.set_cons_succ]
      obtain ⟨v0, hv0⟩ : ∃ W, wr.drew = W := ⟨_, rfl⟩
      rw [hv0] at HH0 hHeld ⊢
      clear hv0
      refine wpAnyH_ready (rs := [8]) (by kernel_rfl) (by simp) ?_
      refine AllReadyH.cons rfl (fun K hK => ?_) AllReadyH.nil
      go_simp
      refine (HWT.out _).mono ?_
      rintro e w5 ⟨rfl, rfl⟩
      simp only []
      refine hK.out _ _ HH0.out (fun hHeld => ?_)
      clear hK K
      try simp only [Act.put, List.setIfInBounds_toArray, List.set_cons_zero, List.set_cons_succ]
      refine take_at (i := 9) 28 (v := .bool (!(withinB t 0 (L - 1)))) rfl rfl (by kernel_rfl) (by kernel_rfl) (by kernel_rfl) (fun _ _ _ h => h) (Or.inl ⟨by rfl, by intro w hSw; go_simp⟩) (by assumption) ?_
      try simp only [Act.put, List.setIfInBounds_toArray, List.set_cons_zero, List.set_cons_succ]
      refine wpAnyH_done (by kernel_rfl) ?_ _
      cases hwt : withinB t 0 (L - 1)
      · rw [hwt] at hdr
        rw [if_neg (by decide)] at hdr
        have HD := hide hdr
        clear hdr hwt
        go_wp2
        go_ret
        exact ⟨by rw [← HEE.out, HE.out, HD.out, if_pos (by decide)]; rfl, HH0.out.2⟩
      · obtain ⟨t1, t2⟩ := (withinB_iff _ _ _).mp hwt
        rw [hwt, if_pos rfl] at hdr
        clear hwt
        by_cases hk0 : k = 0
        · have hz : ¬ t ≤ u := by rw [← HU.out]; unfold lst; rw [if_pos hk0]; omega
          rw [if_neg hz] at hdr
          have HD := hide hdr
          have p0 : decide (0 < (k : Int)) = false := by rw [decide_eq_false_iff_not]; omega
          have p0' : decide (0 < k) = false := by rw [decide_eq_false_iff_not]; omega
          clear hdr hz hk0 HYP
          have c0 := HH0.out.1.cell 0
          have c1' := HH0.out.1.cell 1
          go_wp2
          go_quiet (fail)
          go_wp2
          go_roundw
          case rel => exact ⟨k + 1, by omega, by go_num, by rw [HE.out, HD.out], HH0.out.1, below_drewN HH0.out.2 _⟩
          case measure => simp [intOf]; omega
        · obtain ⟨j, rfl⟩ : ∃ j, k = j + 1 := ⟨k - 1, by omega⟩
          have e1 := HYC.out v0 HH0.out.2
          have e2 := HYP.out (by omega) v0 HH0.out.2
          rw [Nat.add_sub_cancel] at e2
          have c0 := HH0.out.1.cell 0
          have c1' := HH0.out.1.cell 1
          have p0 : decide (0 < (((j + 1 : Nat) : Int))) = true := by rw [decide_eq_true_iff]; omega
          have p1 : decide (0 < (j : Int) + 1) = true := by rw [decide_eq_true_iff]; omega
          have g3 : (0 : Int) ≤ (j : Int) := by omega
          have g4 : (j : Int) < (m : Int) := by omega
          have g5 : (j : Int) + 1 < (m : Int) := by omega
          by_cases hz : t ≤ u
          · rw [if_pos hz] at hdr
            have HD := hide hdr
            clear hdr hk0 HYP HYC HWT
            go_wp2
            go_quiet (fail)
            go_wp2
            go_ret
            exact ⟨by rw [← HEE.out, HE.out, HD.out, if_pos (by decide)]; rfl, below_drewN HH0.out.2 _⟩
          · rw [if_neg hz] at hdr
            have HD := hide hdr
            clear hdr hk0 HYP HYC HWT
            go_wp2
            go_quiet (fail)
            go_wp2
            go_roundw
            case rel => exact ⟨j + 1 + 1, by omega, by go_num, by rw [HE.out, HD.out], HH0.out.1, below_drewN HH0.out.2 _⟩
            case measure => simp [intOf]; omega
    · have hlk : k = m := by omega
      have hz0 : tapE L (-1) T = 0 := by rw [HE.out, List.drop_of_length_le (by rw [HM.out]; omega)]; rfl
      have hE := HEE.out
      clear HEE
      rw [hz0, if_neg (by decide)] at hE
      have h0T : 0 < T.length := by have := HN0.out; omega
      obtain ⟨b1, o1, rfl, d1⟩ := (HS1.out wr hbel).int h0T
      obtain ⟨t, ht⟩ : ∃ t, T[0] = t := ⟨_, rfl⟩
      have ht2 : T[0]?.getD 0 = t := by rw [List.getElem?_eq_getElem h0T, ht]; rfl
      rw [ht] at d1
      rw [ht2] at hE
      have d2 : wr.cell? ⟨b1, o1, none⟩ = some (.int .i64 t) := d1
      have hm0 : (0 : Int) < (m : Int) := by rw [HM.out] at h0T; omega
      have HAB := hide (fun W (h : Below w.heap.size w W) => HS2.out W (HS3.out W h))
      clear d1 ht ht2 hz0 HE h0T HS2 HS3 HS1 hlk hB
      by_cases h3 : t = 0
      · rw [if_neg (by omega)] at hE
        have q3 : (t != 0) = false := by simp [h3]
        clear h3
        by_cases h4 : (m2 : Int) = L
        · rw [if_neg (by omega)] at hE
          have q4 : ((m2 : Int) != L) = false := by simp [h4]
          clear h4
          cases h5 : B.all bitB
          all_goals
            rw [h5] at HAB hE
            (first | rw [if_pos rfl] at hE | rw [if_neg (by decide)] at hE)
            subst hE
            clear h5
            go_wp2_with (go_at_call 17; go_must (refine (HAB.out _ HBE.out).mono ?_; rintro e w5 ⟨rfl, rfl⟩; simp only []))
            go_ret
            exact ⟨rfl, HBE.out⟩
        · rw [if_pos (by omega)] at hE
          subst hE
          have q4 : ((m2 : Int) != L) = true := by simp [h4]
          clear h4
          go_wp2
          go_ret
          exact ⟨rfl, HBE.out⟩
      · rw [if_pos (by omega)] at hE
        subst hE
        have q3 : (t != 0) = true := by simp [h3]
        clear h3
        go_wp2
        go_ret
        exact ⟨rfl, HBE.out⟩
end Go.Proofs.Ytehcmhblppjalaa
