import Derived.Test.YthfmjohbokpceaaTopWA
import Derived.Test.YthfmjohbokpceaaArr
import Derived.Test.YthfmjohbokpceaaWvW
namespace Go.Proofs.Ythfmjohbokpceaa
open Go.RowKit Go.WideShapes Go.ChangeShapes

/-! the statement TopWaveCellThere -/
theorem within_was {n lo hi : Int} {b : Bool} (h : withinB n lo hi = b) (w : World) : Calls Try.prog 24 #[.int .i64 n, .int .i64 lo, .int .i64 hi] w fun x w' => x = .returned (.bool b) ∧ w = w' := by
  subst h; exact within_base _ _ _ _
theorem nvs_rep : ∀ L : Nat, nvs (List.replicate L n0) = List.replicate (L * 4) (Value.int .i64 0)
  | 0 => rfl
  | L + 1 => by
    rw [List.replicate_succ, nvs_cons, nvs_rep L, show (L + 1) * 4 = L * 4 + 1 + 1 + 1 + 1 by omega, List.replicate_succ, List.replicate_succ, List.replicate_succ, List.replicate_succ]; rfl
theorem made_nums (L : Nat) : madeCells #[Value.int .i64 0, Value.int .i64 0, Value.int .i64 0, Value.int .i64 0] (L * 4) = numArr [] L := by
  have e : numArr [] L = (List.replicate (L * 4) (Value.int .i64 0)).toArray := by
    unfold numArr
    rw [← nvs_rep]; rfl
  rw [e]
  apply Array.ext
  · simp [madeCells]
  · intro k h1 h2
    simp only [madeCells, Array.getElem_map, Array.getElem_range, List.getElem_toArray, List.getElem_replicate]
    have h4 : k % 4 < 4 := Nat.mod_lt _ (by omega)
    have : (#[Value.int .i64 0, Value.int .i64 0, Value.int .i64 0, Value.int .i64 0] : Array Value).size = 4 := rfl
    rw [this]
    generalize k % 4 = m at *
    match m, h4 with
    | 0, _ => rfl
    | 1, _ => rfl
    | 2, _ => rfl
    | 3, _ => rfl
theorem make_nums (L : Nat) (hL : L ≤ 1000) (w : World) : (Instr.makeSlice 36 (.int .i64 (L : Int)) (.int .i64 (L : Int))).run Try.prog w = .ok (.slice (some ⟨w.heap.size, 0, none⟩) L L) (w.alloc (.cells (numArr [] L) 38)) := by
  obtain ⟨i0, hi0, hz0, hz1, hz2⟩ := info_parts wn_info
  have h := run_make_rowN (P := Try.prog) 36 38 i0 (nv n0) Try.underlying36 hi0 hz0 .i64 .i64 L L (Nat.le_refl _) (by rw [hz2]; omega) (by omega) w
  rw [hz1] at h
  rw [← made_nums]
  exact h
set_option maxRecDepth 100000 in
set_option maxHeartbeats 20000000 in
theorem TopWaveCellThere_law (id a : Int) (p : Pth) (w : World) :
    Calls Try.prog 4 #[.int .i64 id, .int .i64 a, .agg #[.int .i64 p.1, .int .i64 p.2.1, .int .i64 p.2.2]] w fun e w' => e = .returned (.bool true) ∧ Below w.heap.size w w' := by
  have HT := hide ((stay_new w 32 #[.int .i64 p.1, .int .i64 p.2.1, .int .i64 p.2.2]).and (stay_below (show Below w.heap.size w (w.alloc (.cells #[.int .i64 p.1, .int .i64 p.2.1, .int .i64 p.2.2] 32)) from (Below.refl _ _).alloc (Nat.le_refl _) _)))
  have HID := hide (fun W => identityErr_ref id W)
  have HPE := hide (fun W (g : Nat) (hg : W.heap.size = g) => show Calls Try.prog 25 #[.slice (some ⟨g, 0, none⟩) 1 1] (W.alloc (.cells #[.int .i64 p.1, .int .i64 p.2.1, .int .i64 p.2.2] 32)) fun e w' => e = .returned (.int .i64 (pthV [p]).2) ∧ Below W.heap.size W w' from
    (pathsErr_ref2 (some ⟨g, 0, none⟩) 1 [p] _ (Sl.new W (pvs [p]) 32 g hg)).mono fun e w' ⟨h1, h2⟩ => ⟨h1, Below.step ((Below.refl _ _).alloc (Nat.le_refl _) _) h2⟩)
  cases h1 : withinB id 0 1007
  · rw [h1] at HID
    have hq : (unlessE false 2 != 0) = true := rfl
    clear h1
    go_enter Try.func4, Try.ntmps4
    go_wp2_with (first
      | (go_at_call 23; go_must (refine (waved_ok _).mono ?_; rintro e w1 ⟨rfl, hb⟩; replace HT := hide (HT.out.step hb); have c0 := HT.out.now.1.cell 0; have c1 := HT.out.now.1.cell 1; have c2 := HT.out.now.1.cell 2; clear hb; simp only []))
      | (go_at_call 21; go_must (refine (HID.out _).mono ?_; rintro e w' ⟨rfl, rfl⟩; simp only [])))
    go_ret
    exact ⟨rfl, HT.out.now.2⟩
  rw [h1] at HID
  have hq : (unlessE true 2 != 0) = false := rfl
  cases h3 : withinB a 0 20
  · have H3 := hide h3
    clear h1 h3
    go_enter Try.func4, Try.ntmps4
    go_wp2_with (first
      | (go_at_call 23; go_must (refine (waved_ok _).mono ?_; rintro e w1 ⟨rfl, hb⟩; replace HT := hide (HT.out.step hb); have c0 := HT.out.now.1.cell 0; have c1 := HT.out.now.1.cell 1; have c2 := HT.out.now.1.cell 2; clear hb; simp only []))
      | (go_at_call 21; go_must (refine (HID.out _).mono ?_; rintro e w' ⟨rfl, rfl⟩; simp only []))
      | (go_at_call 24; go_must (refine (within_was H3.out _).mono ?_; rintro e w' ⟨rfl, rfl⟩; simp only [])))
    go_ret
    exact ⟨rfl, HT.out.now.2⟩
  have H3 := hide h3
  have r1 : 0 ≤ id ∧ id ≤ 1007 := by simpa [withinB] using h1
  have r3 : 0 ≤ a ∧ a ≤ 20 := by simpa [withinB] using h3
  by_cases hP : (pthV [p]).2 = 0
  rotate_left
  · obtain ⟨V, hV⟩ : ∃ V, (pthV [p]).2 = V := ⟨_, rfl⟩
    rw [hV] at HPE hP
    have hv : (V != 0) = true := by rw [bne_iff_ne]; exact hP
    clear h1 h3 r1 r3 hP hV
    go_enter Try.func4, Try.ntmps4
    go_wp2_with (first
      | (go_at_call 23; go_must (refine (waved_ok _).mono ?_; rintro e w1 ⟨rfl, hb⟩; replace HT := hide (HT.out.step hb); have c0 := HT.out.now.1.cell 0; have c1 := HT.out.now.1.cell 1; have c2 := HT.out.now.1.cell 2; clear hb; simp only []))
      | (go_at_call 21; go_must (refine (HID.out _).mono ?_; rintro e w' ⟨rfl, rfl⟩; simp only []))
      | (go_at_call 24; go_must (refine (within_was H3.out _).mono ?_; rintro e w' ⟨rfl, rfl⟩; simp only []))
      | (go_at_call 25; go_must (refine (HPE.out _ _ rfl).mono ?_; rintro e w2 ⟨rfl, hb⟩; replace HT := hide (HT.out.step hb); clear c0 c1 c2; have c0 := HT.out.now.1.cell 0; have c1 := HT.out.now.1.cell 1; have c2 := HT.out.now.1.cell 2; clear hb; simp only [])))
    go_ret
    exact ⟨rfl, HT.out.now.2⟩
  rw [hP] at HPE
  by_cases hg : p.2.1 < 1
  · clear h1 h3 r1 r3 hP
    go_enter Try.func4, Try.ntmps4
    go_wp2_with (first
      | (go_at_call 23; go_must (refine (waved_ok _).mono ?_; rintro e w1 ⟨rfl, hb⟩; replace HT := hide (HT.out.step hb); have c0 := HT.out.now.1.cell 0; have c1 := HT.out.now.1.cell 1; have c2 := HT.out.now.1.cell 2; clear hb; simp only []))
      | (go_at_call 21; go_must (refine (HID.out _).mono ?_; rintro e w' ⟨rfl, rfl⟩; simp only []))
      | (go_at_call 24; go_must (refine (within_was H3.out _).mono ?_; rintro e w' ⟨rfl, rfl⟩; simp only []))
      | (go_at_call 25; go_must (refine (HPE.out _ _ rfl).mono ?_; rintro e w2 ⟨rfl, hb⟩; replace HT := hide (HT.out.step hb); clear c0 c1 c2; have c0 := HT.out.now.1.cell 0; have c1 := HT.out.now.1.cell 1; have c2 := HT.out.now.1.cell 2; clear hb; simp only [])))
    go_ret
    exact ⟨rfl, HT.out.now.2⟩
  obtain ⟨n, rfl⟩ : ∃ n : Nat, id = n := ⟨id.toNat, by omega⟩
  obtain ⟨A, rfl⟩ : ∃ n : Nat, a = n := ⟨a.toNat, by omega⟩
  have hrp := right_iff (one_right hP)
  obtain ⟨d, hd⟩ : ∃ d : Nat, p.1 = d := ⟨p.1.toNat, by omega⟩
  have hn : n < 1008 := by omega
  have hA : A ≤ 20 := by omega
  have hd7 : d ≤ 7 := by omega
  have hd0 : 0 ≤ p.1 := by omega
  have hd1 : p.1 ≤ 7 := by omega
  have hg1 : 1 ≤ p.2.1 := by omega
  have hg2 : p.2.1 ≤ 100 := by omega
  have hHP := hide hP
  have HD := hide hd
  clear h1 h3 r1 r3 hP hg hrp hd
  have HSQ := hide (fun W => SequenceOf_ok n hn W)
  have hmk : ∀ W : World, (Instr.makeSlice 36 (.int .i64 ((A : Int) + 62 + 7)) (.int .i64 ((A : Int) + 62 + 7))).run Try.prog W = .ok (.slice (some ⟨W.heap.size, 0, none⟩) (A + 69) (A + 69)) (W.alloc (.cells (numArr [] (A + 69)) 38)) := fun W => by
    have := make_nums (A + 69) (by omega) W
    rw [show ((A + 69 : Nat) : Int) = (A : Int) + 62 + 7 by omega] at this
    exact this
  go_enter Try.func4, Try.ntmps4
  go_wp2_with (first
    | (go_at_call 23; go_must (refine (waved_ok _).mono ?_; rintro e w1 ⟨rfl, hb⟩; replace HT := hide (HT.out.step hb); have c0 := HT.out.now.1.cell 0; have c1 := HT.out.now.1.cell 1; have c2 := HT.out.now.1.cell 2; clear hb; simp only []))
    | (go_at_call 21; go_must (refine (HID.out _).mono ?_; rintro e w' ⟨rfl, rfl⟩; simp only []))
    | (go_at_call 24; go_must (refine (within_was H3.out _).mono ?_; rintro e w' ⟨rfl, rfl⟩; simp only []))
    | (go_at_call 25; go_must (refine (HPE.out _ _ rfl).mono ?_; rintro e w2 ⟨rfl, hb⟩; replace HT := hide (HT.out.step hb); clear c0 c1 c2; have c0 := HT.out.now.1.cell 0; have c1 := HT.out.now.1.cell 1; have c2 := HT.out.now.1.cell 2; clear hb; simp only []))
    | (go_at_call 22; go_must (refine (HSQ.out _).mono ?_; rintro e w3 ⟨Q, qk, rfl, ho, hb⟩; replace HT := hide ((HT.out.step hb).and (stay_sl (Sl.of_own ho))); clear c0 c1 c2 hb ho; simp only [])))
  obtain ⟨L, hL⟩ : ∃ L, A + 69 = L := ⟨_, rfl⟩
  rw [hL]
  have hg0 := Blk.new w3 38 (numArr [] L)
  have hb0 : Below w3.heap.size w3 (w3.alloc (.cells (numArr [] L) 38)) := (Below.refl _ _).alloc (Nat.le_refl _) _
  obtain ⟨W4, hW4⟩ : ∃ W4, w3.alloc (.cells (numArr [] L) 38) = W4 := ⟨_, rfl⟩
  rw [hW4] at hg0 hb0 ⊢
  clear hW4 hmk
  obtain ⟨g, hg⟩ : ∃ g, w3.heap.size = g := ⟨_, rfl⟩
  rw [hg] at hg0 ⊢
  have hgg : w3.heap.size ≤ g := by omega
  clear hg
  obtain ⟨qb, qo, rfl, -⟩ := HT.out.now.2.int (k := 0) (by rw [seqL_len]; omega)
  have HQ := hide (fun W (h : Below w3.heap.size w3 W) (j : Nat) (hj : j < 62) => show W.cell? ⟨qb, qo + j, none⟩ = some (.int .i64 ((seqL n)[j]?.getD 0)) from (HT.out W h).2.one rfl (iv_at _ j (by rw [seqL_len]; exact hj)))
  go_loopw [10] (fun i wr => ∃ j : Nat, j ≤ 62 ∧ i = .int .i64 (j : Int) ∧ Blk wr g 38 (numArr (smF n A j) L) ∧ Below w3.heap.size w3 wr) (fun i _ => 62 - (intOf i).toNat)
  case atStart => exact ⟨0, by omega, rfl, by rw [smF_zero n A L (by omega)]; exact hg0, hb0⟩
  case round =>
    obtain ⟨j, hj, rfl, hG, hbel⟩ := hrel
    clear hg0 hb0
    by_cases hlt : j < 62
    · obtain ⟨z, hz⟩ : ∃ z, (seqL n)[j]?.getD 0 = z := ⟨_, rfl⟩
      have HNX := hide (smF_succ n A j L hlt (by omega) hz)
      have hq0 := HQ.out _ hbel j hlt
      rw [hz] at hq0
      have hG2 := hG
      rw [← numArr_n0 (smF n A j) L (by rw [smF_len n A j hj]; omega)] at hG2
      obtain ⟨d0, d1, d2, d3, f0, f1, f2, f3⟩ := hG2.num4 (smF_len n A j hj)
      have HG := hide hG
      have HB := hide hbel
      have g1 : (0 : Int) ≤ (A : Int) + (j : Int) := by omega
      have g2 : (A : Int) + (j : Int) < (L : Int) := by omega
      clear hz hG hG2 hbel
      go_wp2
      go_roundw
      case rel => exact ⟨j + 1, by omega, by go_num, by rw [← HNX.out]; exact (((HG.out.set_ _ _).set_ _ _).set_ _ _).set_ _ _, (((HB.out.setCell (p := ⟨g, (A + j) * 4, none⟩) (by show w3.heap.size ≤ g; omega) _).setCell (p := ⟨g, (A + j) * 4 + 1, none⟩) (by show w3.heap.size ≤ g; omega) _).setCell (p := ⟨g, (A + j) * 4 + 2, none⟩) (by show w3.heap.size ≤ g; omega) _).setCell (p := ⟨g, (A + j) * 4 + 3, none⟩) (by show w3.heap.size ≤ g; omega) _⟩
      case measure => simp [intOf]; omega
    · obtain rfl : j = 62 := by omega
      have hG2 : Blk wr g 38 (nvs (smX n A)).toArray := by rw [← smX_arr n A L hL]; exact hG
      have HSX := hide (stay_sl hG2.sl)
      have HV := hide (stay_below hbel)
      obtain ⟨wo, rfl⟩ : ∃ wo : World, wo = wr := ⟨_, rfl⟩
      obtain ⟨c0, c1, c2⟩ : wo.cell? ⟨w.heap.size, 0, none⟩ = some (.int .i64 p.1) ∧ wo.cell? ⟨w.heap.size, 1, none⟩ = some (.int .i64 p.2.1) ∧ wo.cell? ⟨w.heap.size, 2, none⟩ = some (.int .i64 p.2.2) := ⟨(HT.out _ hbel).1.1.cell 0, (HT.out _ hbel).1.1.cell 1, (HT.out _ hbel).1.1.cell 2⟩
      have hxl : (smX n A).length = L := by rw [smX_len]; exact hL
      have hyl : (thL [p] (smX n A) L).length = L := tab_len _ _
      have HTH := hide (fun W (q : Nat) (hq : W.heap.size = q) (h : Sl W (some ⟨g, 0, none⟩) (nvs (smX n A))) => show Calls Try.prog 26 #[.slice (some ⟨q, 0, none⟩) 1 1, .slice (some ⟨g, 0, none⟩) L L] (W.alloc (.cells #[.int .i64 p.1, .int .i64 p.2.1, .int .i64 p.2.2] 32)) fun e w' => ∃ G gk, e = .returned (.tuple #[.slice G L gk, .int .i64 0]) ∧ Sl w' G (nvs (thL [p] (smX n A) L)) ∧ Below W.heap.size W w' from
        (Through_ok (some ⟨q, 0, none⟩) (some ⟨g, 0, none⟩) 1 L 1 L [p] (smX n A) _ rfl hxl (Sl.new W (pvs [p]) 32 q hq) (h.alloc _) (one_thE hHP.out hA)).mono fun e w' ⟨wt, ht, hb⟩ => by
          have hf := one_fits (n := n) (a := A) hHP.out
          rw [hL] at hf
          rcases ht with ⟨_, ⟨G, q, h2, h4⟩, h3⟩ | ⟨h1, _, _⟩
          · rw [hyl] at h2
            exact ⟨G, q, h2, h4, Below.step (Below.step ((Below.refl _ _).alloc (Nat.le_refl _) _) hb) h3⟩
          · rw [hf] at h1; exact absurd h1 (by decide))
      have HYV := hide (one_values (n := n) (a := A) hHP.out HD.out)
      rw [hL] at HYV
      have hsl : (sigL n p.2.1 (A + d) (7 - d)).length = L := by rw [sigL_len]; omega
      have HSR := hide (fun D kk W (hk : L ≤ kk) (h : Sl W D (iv (sigL n p.2.1 (A + d) (7 - d)))) => show Calls Try.prog 27 #[.slice D L kk] W fun e w' => e = .returned (.tuple #[.agg #[.int .i64 ((A : Int) + p.1), .int .i64 (n : Int), .int .i64 (62 * p.2.1)], .int .i64 0]) ∧ Below W.heap.size W w' from by
        rw [HD.out]
        have := Search_ok D kk (A + d + (7 - d)) (sigL n p.2.1 (A + d) (7 - d)) W h (by omega) (srE_zero (sig_right n (by omega) (by omega) (A + d) (7 - d) (by omega)) (by omega)) (by rw [sigL_len])
        rw [sig_found n p.2.1 (A + d) (7 - d) hn (by omega), hsl] at this
        exact this)
      have hq1 := fd_eql
      have HPC := hide (fun W (h : Below w3.heap.size w3 W) => show W.cell? ⟨w.heap.size, 0, none⟩ = some (.int .i64 p.1) ∧ W.cell? ⟨w.heap.size, 1, none⟩ = some (.int .i64 p.2.1) from ⟨(HT.out W h).1.1.cell 0, (HT.out W h).1.1.cell 1⟩)
      clear hG hG2 hbel hxl hsl
      go_wp2_with (go_at_call 26; go_must (refine (HTH.out _ _ rfl HSX.out.now).mono ?_; rintro e w5 ⟨G, gk, rfl, hy, hb⟩; replace HV := hide (HV.out.step hb); have HY := hide (stay_sl hy); clear hb hy c0 c1 c2; simp only []))
      obtain ⟨i0, hi0, hz0, hz1, hz2⟩ := info_parts int_infoW
      obtain ⟨ys, hys⟩ : ∃ ys, sigL n p.2.1 (A + d) (7 - d) = ys := ⟨_, rfl⟩
      rw [hys] at HYV HSR
      have hysl : ys.length = L := by rw [← hys, sigL_len]; omega
      have HYC := hide (fun W (h : Below w5.heap.size w5 W) (k : Nat) (hk : k < L) => show ∃ b off, G = some ⟨b, off, none⟩ ∧ W.cell? ⟨b, off + k * 4, none⟩ = some (.int .i64 (ys[k]?.getD 0)) from by
        obtain ⟨b, off, e, h0, _⟩ := (HY.out W h).atN (k := k) (by rw [hyl]; exact hk)
        refine ⟨b, off, e, ?_⟩
        rw [h0, ← HYV.out, List.getElem?_map]
        unfold kn
        rw [List.getElem?_eq_getElem (by rw [hyl]; exact hk)]; rfl)
      have HYS := hide hysl
      clear hys hysl hyl HTH
      go_loopw [13, 14] (fun v i wr => ∃ (k : Nat) (C : Option Addr) (ck : Nat), k ≤ L ∧ i = .int .i64 (k : Int) ∧ v = .slice C k ck ∧ wr.ownsRow w5.heap.size 3 1 (.slice C k ck) k (iv (ys.take k)) ∧ Below w5.heap.size w5 wr) (fun _ i _ => L - (intOf i).toNat)
      case atStart => exact ⟨0, none, 0, Nat.zero_le _, rfl, rfl, World.ownsRow_nil _ _ _ _, Below.refl _ _⟩
      case round =>
        obtain ⟨k, C, ck, hk, rfl, rfl, hrow, hbel⟩ := hrel
        have HROW := hide hrow
        have hsz := hbel.size
        by_cases hkt : k < L
        · obtain ⟨b, off, rfl, h0⟩ := HYC.out wr hbel k hkt
          have hky : k < ys.length := by rw [HYS.out]; exact hkt
          have htk : iv (ys.take (k + 1)) = iv (ys.take k) ++ [.int .i64 (ys[k]?.getD 0)] := by
            rw [List.take_succ_eq_append_getElem hky, iv_append, List.getElem?_eq_getElem hky]; rfl
          have HTK := hide htk
          obtain ⟨y, hy⟩ : ∃ y, ys[k]?.getD 0 = y := ⟨_, rfl⟩
          rw [hy] at h0 HTK
          have g1 : (0 : Int) ≤ (k : Int) := by omega
          have g2 : (k : Int) < (L : Int) := by omega
          clear hrow htk hy hky
          go_wp2_with (at_builtin
                       refine wpList_append_any _ rfl (.tmp 91) (.tmp 97) _ rfl w5.heap.size 3 i0 _ 1 8 Try.underlying24 hi0 hz0 hz1 hz2 rfl (by omega) _ k (iv (ys.take k)) rfl
                         (HROW.out.alloc _) (wr.heap.size + 1) (some ⟨wr.heap.size, 0, none⟩) 1 1 [.int .i64 y] rfl (cell_one wr (.int .i64 y) 3) (by simp [Value.oneCell']) (by simp only [maxLen]; omega) (by omega) (by simp; omega) ?_
                       intro v' w6 hown' hgrow _)
          obtain ⟨C2, k2, rfl⟩ := own_form hown'
          have hbel6 : Below w5.heap.size w5 w6 := Below.app hbel HROW.out hgrow
          go_roundw
          case rel => first | exact ⟨k + 1, C2, k2, by omega, by go_num, rfl, by rw [HTK.out]; exact hown', hbel6⟩ | ((repeat apply Exists.intro); exact ⟨⟨k + 1, C2, k2, by omega, by go_num, rfl, by rw [HTK.out]; exact hown', hbel6⟩, rfl⟩)
          case measure => simp [intOf]; omega
        · obtain rfl : k = L := by omega
          have HS := hide (show Sl wr C (iv ys) from by
            have := Sl.of_own hrow
            rw [List.take_of_length_le (by rw [HYS.out]; exact Nat.le_refl _)] at this
            exact this)
          have HK := hide (own_cap3 hrow)
          have HVV := hide (HV.out.step hbel)
          clear hrow HROW hbel
          go_wp2_with (first
            | (go_at_call 27; go_must (refine (HSR.out _ _ _ HK.out HS.out).mono ?_; rintro e w7 ⟨rfl, hb⟩; have HV7 := hide (HVV.out.step hb); clear hb; simp only []))
            | (refine wpList_store_row rfl 42 (.tmp 15) (.tmp 102) rfl w7.heap.size #[.int .i64 ((A : Int) + p.1), .int .i64 (n : Int), .int .i64 (62 * p.2.1)] rfl rfl 42 #[.int .i64 0, .int .i64 0, .int .i64 0] (Blk.new w7 _ _) (by kernel_rfl) rfl (by simp [Value.oneCell']) ?_; have hb : Below w7.heap.size w7 ((w7.alloc (.cells #[.int .i64 0, .int .i64 0, .int .i64 0] 42)).setRow w7.heap.size #[.int .i64 ((A : Int) + p.1), .int .i64 (n : Int), .int .i64 (62 * p.2.1)]) := Below.row ((Below.refl _ _).alloc (Nat.le_refl _) _) (Nat.le_refl _) _; have H15 := hide (stay_blk ((Blk.new w7 42 #[.int .i64 0, .int .i64 0, .int .i64 0]).row #[.int .i64 ((A : Int) + p.1), .int .i64 (n : Int), .int .i64 (62 * p.2.1)])); replace HV7 := hide (HV7.out.step hb); obtain ⟨c0, c1⟩ := HPC.out _ HV7.out.now; clear hb)
            | (refine wpList_load_rowG 42 (.tmp 15) rfl (by rfl) w7.heap.size rfl 42 #[.int .i64 ((A : Int) + p.1), .int .i64 (n : Int), .int .i64 (62 * p.2.1)] _ H15.out.now Try.underlying42 rfl (by kernel_rfl) ?_))
          go_ret
          exact ⟨rfl, Below.step HT.out.now.1.2 HV7.out.now⟩
end Go.Proofs.Ythfmjohbokpceaa
