import Derived.Test.YthfmjohbokpceaaFindA
import Derived.Test.YthfmjohbokpceaaArr
import Derived.Test.YthfmjohbokpceaaWvW
namespace Go.Proofs.Ythfmjohbokpceaa
open Go.RowKit Go.WideShapes Go.ChangeShapes

/-! the statement WaveFinds -/
theorem Calls.turn {P : Program} {f : FuncId} {args : Array Value} {w : World} {v : Ending} (h : Calls P f args w fun e w' => e = v ∧ w = w') : Calls P f args w fun e w' => e = v ∧ w' = w := h.mono fun _ _ ⟨he, hw⟩ => ⟨he, hw.symm⟩
theorem within_got {n lo hi : Int} {b : Bool} (h : withinB n lo hi = b) (w : World) : Calls Try.prog 24 #[.int .i64 n, .int .i64 lo, .int .i64 hi] w fun x w' => x = .returned (.bool b) ∧ w = w' := by
  subst h; exact within_base _ _ _ _
set_option maxRecDepth 100000 in
set_option maxHeartbeats 20000000 in
theorem WaveFinds_law (id S a b : Int) (E : Option Addr) (k m : Nat) (es : List Int) (w : World) (hm : es.length = m) (hs0 : Sl w E (iv es)) :
    Calls Try.prog 15 #[.agg #[.int .i64 id, .int .i64 S, .int .i64 a, .int .i64 b, .slice E m k]] w fun e w' => e = .returned (.bool true) ∧ Below w.heap.size w w' := by
  have HT := hide ((((stay_sl hs0).alloc (.cells #[.int .i64 id, .int .i64 S, .int .i64 a, .int .i64 b, .slice E m k] 135)).and (stay_new w 135 #[.int .i64 id, .int .i64 S, .int .i64 a, .int .i64 b, .slice E m k])).and (stay_below (show Below w.heap.size w (w.alloc (.cells #[.int .i64 id, .int .i64 S, .int .i64 a, .int .i64 b, .slice E m k] 135)) from (Below.refl _ _).alloc (Nat.le_refl _) _)))
  have HID := hide (fun W => identityErr_ref id W)
  clear hs0
  cases h1 : withinB id 0 1007
  · rw [h1] at HID
    have hq : (unlessE false 2 != 0) = true := rfl
    clear h1 hm
    go_enter Try.func15, Try.ntmps15
    go_wp2_with (first
      | (go_at_call 20; go_must (refine (awake_ok _).mono ?_; rintro e w1 ⟨rfl, hb⟩; replace HT := hide (HT.out.step hb); have c0 := HT.out.now.1.2.cell 0; have c1 := HT.out.now.1.2.cell 1; have c2 := HT.out.now.1.2.cell 2; have c3 := HT.out.now.1.2.cell 3; have c4 := HT.out.now.1.2.cell 4; clear hb; simp only []))
      | (go_at_call 21; go_must (refine (HID.out _).mono ?_; rintro e w' ⟨rfl, rfl⟩; simp only [])))
    go_ret
    exact ⟨rfl, HT.out.now.2⟩
  rw [h1] at HID
  have hq : (unlessE true 2 != 0) = false := rfl
  cases h2 : withinB S 1 50000
  · have H2 := hide h2
    clear h1 h2 hm
    go_enter Try.func15, Try.ntmps15
    go_wp2_with (first
      | (go_at_call 20; go_must (refine (awake_ok _).mono ?_; rintro e w1 ⟨rfl, hb⟩; replace HT := hide (HT.out.step hb); have c0 := HT.out.now.1.2.cell 0; have c1 := HT.out.now.1.2.cell 1; have c2 := HT.out.now.1.2.cell 2; have c3 := HT.out.now.1.2.cell 3; have c4 := HT.out.now.1.2.cell 4; clear hb; simp only []))
      | (go_at_call 21; go_must (refine (HID.out _).mono ?_; rintro e w' ⟨rfl, rfl⟩; simp only []))
      | (go_at_call 24; with_reducible refine (within_got H2.out _).mono ?_; rintro e w' ⟨rfl, rfl⟩; simp only []))
    go_ret
    exact ⟨rfl, HT.out.now.2⟩
  have H2 := hide h2
  cases h3 : withinB a 0 20
  · have H3 := hide h3
    clear h1 h2 h3 hm
    go_enter Try.func15, Try.ntmps15
    go_wp2_with (first
      | (go_at_call 20; go_must (refine (awake_ok _).mono ?_; rintro e w1 ⟨rfl, hb⟩; replace HT := hide (HT.out.step hb); have c0 := HT.out.now.1.2.cell 0; have c1 := HT.out.now.1.2.cell 1; have c2 := HT.out.now.1.2.cell 2; have c3 := HT.out.now.1.2.cell 3; have c4 := HT.out.now.1.2.cell 4; clear hb; simp only []))
      | (go_at_call 21; go_must (refine (HID.out _).mono ?_; rintro e w' ⟨rfl, rfl⟩; simp only []))
      | (go_at_call 24; with_reducible refine (within_got H2.out _).mono ?_; rintro e w' ⟨rfl, rfl⟩; simp only [])
      | (go_at_call 24; with_reducible refine (within_got H3.out _).mono ?_; rintro e w' ⟨rfl, rfl⟩; simp only []))
    go_ret
    exact ⟨rfl, HT.out.now.2⟩
  have H3 := hide h3
  cases h4 : withinB b 0 20
  · have H4 := hide h4
    clear h1 h2 h3 h4 hm
    go_enter Try.func15, Try.ntmps15
    go_wp2_with (first
      | (go_at_call 20; go_must (refine (awake_ok _).mono ?_; rintro e w1 ⟨rfl, hb⟩; replace HT := hide (HT.out.step hb); have c0 := HT.out.now.1.2.cell 0; have c1 := HT.out.now.1.2.cell 1; have c2 := HT.out.now.1.2.cell 2; have c3 := HT.out.now.1.2.cell 3; have c4 := HT.out.now.1.2.cell 4; clear hb; simp only []))
      | (go_at_call 21; go_must (refine (HID.out _).mono ?_; rintro e w' ⟨rfl, rfl⟩; simp only []))
      | (go_at_call 24; with_reducible refine (within_got H2.out _).mono ?_; rintro e w' ⟨rfl, rfl⟩; simp only [])
      | (go_at_call 24; with_reducible refine (within_got H3.out _).mono ?_; rintro e w' ⟨rfl, rfl⟩; simp only [])
      | (go_at_call 24; with_reducible refine (within_got H4.out _).mono ?_; rintro e w' ⟨rfl, rfl⟩; simp only []))
    go_ret
    exact ⟨rfl, HT.out.now.2⟩
  have H4 := hide h4
  have r1 : 0 ≤ id ∧ id ≤ 1007 := by simpa [withinB] using h1
  have r2 : 1 ≤ S ∧ S ≤ 50000 := by simpa [withinB] using h2
  have r3 : 0 ≤ a ∧ a ≤ 20 := by simpa [withinB] using h3
  have r4 : 0 ≤ b ∧ b ≤ 20 := by simpa [withinB] using h4
  obtain ⟨n, rfl⟩ : ∃ n : Nat, id = n := ⟨id.toNat, by omega⟩
  obtain ⟨A, rfl⟩ : ∃ n : Nat, a = n := ⟨a.toNat, by omega⟩
  obtain ⟨B, rfl⟩ : ∃ n : Nat, b = n := ⟨b.toNat, by omega⟩
  have hn : n < 1008 := by omega
  have hA : A ≤ 20 := by omega
  have hB : B ≤ 20 := by omega
  obtain ⟨s1, s2⟩ := r2
  clear h1 h2 h3 h4 r1 r3 r4
  have HSQ := hide (fun W => SequenceOf_ok n hn W)
  have hmk : ∀ W : World, (Instr.makeSlice 24 (.int .i64 ((A : Int) + 62 + (B : Int))) (.int .i64 ((A : Int) + 62 + (B : Int)))).run Try.prog W = .ok (.slice (some ⟨W.heap.size, 0, none⟩) (A + 62 + B) (A + 62 + B)) (W.alloc (.cells (arrF (fun _ => 0) (A + 62 + B)) 3)) := fun W => by
    have := make_ints (A + 62 + B) (by omega) W
    rw [show ((A + 62 + B : Nat) : Int) = (A : Int) + 62 + (B : Int) by omega] at this
    exact this
  go_enter Try.func15, Try.ntmps15
  go_wp2_with (first
    | (go_at_call 20; go_must (refine (awake_ok _).mono ?_; rintro e w1 ⟨rfl, hb⟩; replace HT := hide (HT.out.step hb); have c0 := HT.out.now.1.2.cell 0; have c1 := HT.out.now.1.2.cell 1; have c2 := HT.out.now.1.2.cell 2; have c3 := HT.out.now.1.2.cell 3; have c4 := HT.out.now.1.2.cell 4; clear hb; simp only []))
    | (go_at_call 21; go_must (refine (HID.out _).mono ?_; rintro e w' ⟨rfl, rfl⟩; simp only []))
    | (go_at_call 24; with_reducible refine (within_got H2.out _).mono ?_; rintro e w' ⟨rfl, rfl⟩; simp only [])
    | (go_at_call 24; with_reducible refine (within_got H3.out _).mono ?_; rintro e w' ⟨rfl, rfl⟩; simp only [])
    | (go_at_call 24; with_reducible refine (within_got H4.out _).mono ?_; rintro e w' ⟨rfl, rfl⟩; simp only [])
    | (go_at_call 22; go_must (refine (HSQ.out _).mono ?_; rintro e w3 ⟨Q, qk, rfl, ho, hb⟩; replace HT := hide ((HT.out.step hb).and (stay_sl (Sl.of_own ho))); clear c0 c1 c2 c3 c4; have c0 := HT.out.now.1.1.2.cell 0; have c1 := HT.out.now.1.1.2.cell 1; have c2 := HT.out.now.1.1.2.cell 2; have c3 := HT.out.now.1.1.2.cell 3; clear hb ho; simp only [])))
  obtain ⟨L, hL⟩ : ∃ L, A + 62 + B = L := ⟨_, rfl⟩
  rw [hL]
  have hg0 := Blk.new w3 3 (arrF (fun _ => 0) L)
  have hb0 : Below w3.heap.size w3 (w3.alloc (.cells (arrF (fun _ => 0) L) 3)) := (Below.refl _ _).alloc (Nat.le_refl _) _
  obtain ⟨W4, hW4⟩ : ∃ W4, w3.alloc (.cells (arrF (fun _ => 0) L) 3) = W4 := ⟨_, rfl⟩
  rw [hW4] at hg0 hb0 ⊢
  clear hW4 hmk
  obtain ⟨g, hg⟩ : ∃ g, w3.heap.size = g := ⟨_, rfl⟩
  rw [hg] at hg0 ⊢
  have hgg : w3.heap.size ≤ g := by omega
  have hwg : w.heap.size ≤ g := by have := HT.out.now.1.2.size; omega
  clear hg
  obtain ⟨qb, qo, rfl, -⟩ := HT.out.now.2.int (k := 0) (by rw [seqL_len]; omega)
  have HQ := hide (fun W (h : Below w3.heap.size w3 W) (j : Nat) (hj : j < 62) => show W.cell? ⟨qb, qo + j, none⟩ = some (.int .i64 ((seqL n)[j]?.getD 0)) from (HT.out W h).2.one rfl (iv_at _ j (by rw [seqL_len]; exact hj)))
  have HSG := hide (fun W (h : Below w3.heap.size w3 W) => show W.cell? ⟨w.heap.size, 0, none⟩ = some (.int .i64 (n : Int)) ∧ W.cell? ⟨w.heap.size, 1, none⟩ = some (.int .i64 S) ∧ W.cell? ⟨w.heap.size, 2, none⟩ = some (.int .i64 (A : Int)) ∧ W.cell? ⟨w.heap.size, 4, none⟩ = some (.slice E m k) from ⟨(HT.out W h).1.1.2.cell 0, (HT.out W h).1.1.2.cell 1, (HT.out W h).1.1.2.cell 2, (HT.out W h).1.1.2.cell 4⟩)
  clear c0 c1 c2 c3
  go_loopw [6] (fun i wr => ∃ j : Nat, j ≤ 62 ∧ i = .int .i64 (j : Int) ∧ Blk wr g 3 (arrF (sgF n S A j) L) ∧ Below w3.heap.size w3 wr) (fun i _ => 62 - (intOf i).toNat)
  case atStart => exact ⟨0, by omega, rfl, by rw [sgF_zero]; exact hg0, hb0⟩
  case round =>
    obtain ⟨j, hj, rfl, hG, hbel⟩ := hrel
    clear hg0 hb0
    by_cases hlt : j < 62
    · have hd : decide ((j : Int) < 62) = true := by rw [decide_eq_true_iff]; omega
      obtain ⟨z, hz⟩ : ∃ z, (seqL n)[j]?.getD 0 = z := ⟨_, rfl⟩
      have hzb := seq_bd n j (S := 1) (by omega)
      have HNX := hide (sgF_succ n S A j L hlt hz)
      have HC2 := hide (fun W (h : Below w3.heap.size w3 W) => show W.cell? ⟨w.heap.size, 1, none⟩ = some (.int .i64 S) ∧ W.cell? ⟨w.heap.size, 2, none⟩ = some (.int .i64 (A : Int)) ∧ W.cell? ⟨qb, qo + j, none⟩ = some (.int .i64 z) from ⟨(HSG.out W h).2.1, (HSG.out W h).2.2.1, by rw [HQ.out W h j hlt, hz]⟩)
      rw [hz, Int.one_mul] at hzb
      obtain ⟨p1, p2⟩ := mul_le_size (a := S) (b := z) (m := 50000) (n := 1) (by omega) (by omega) (by omega) (by omega)
      have hw1 : IntKind.i64.wrap ((A : Int) + (j : Int)) = (A : Int) + (j : Int) := IntWalk.i64_in _ (by omega)
      have hw2 : IntKind.i64.wrap (S * z) = S * z := IntWalk.i64_in _ (by omega)
      have t1 : ((A : Int) + (j : Int)).toNat = A + j := by omega
      have g1 : (0 : Int) ≤ (A : Int) + (j : Int) := by omega
      have g2 : (A : Int) + (j : Int) < (L : Int) := by omega
      have g3 : (0 : Int) ≤ (j : Int) := by omega
      have g4 : (j : Int) < 62 := by omega
      have HG := hide hG
      have HB := hide hbel
      clear hz hzb p1 p2 hG hbel
      go_wp2
      have HH0 := hide (show (fun w' => Below w3.heap.size w3 w') wr.drew from below_drewN HB.out 1)
      have hHeld := HH0.out
      refine UpTo.start (z := 13) (S := fun w' => Below w3.heap.size w3 w') (by kernel_rfl) ?_
      refine UpTo.take (i := 0) 60 (v := .slice (some ⟨g, 0, none⟩) L L) rfl rfl (by kernel_rfl) (by kernel_rfl) (by kernel_rfl) (by kernel_rfl) (fun _ _ _ h => h) hHeld (Or.inl ⟨by rfl, by intro w hSw; go_simp⟩) ?_
      try simp only [Act.put, List.setIfInBounds_toArray, List.set_cons_zero, List.set_cons_succ]
      refine UpTo.take (i := 1) 61 (v := .pointer (some ⟨w.heap.size, 2, none⟩)) rfl rfl (by kernel_rfl) (by kernel_rfl) (by kernel_rfl) (by kernel_rfl) (fun _ _ _ h => h) hHeld (Or.inl ⟨by rfl, by intro w hSw; go_simp⟩) ?_
      try simp only [Act.put, List.setIfInBounds_toArray, List.set_cons_zero, List.set_cons_succ]
      refine UpTo.take (i := 2) 62 (v := .int .i64 (A : Int)) rfl rfl (by kernel_rfl) (by kernel_rfl) (by kernel_rfl) (by kernel_rfl) (fun _ _ _ h => h) hHeld (Or.inl ⟨by rfl, by intro w hSw; obtain ⟨c1, c2, c3⟩ := HC2.out w hSw; go_simp⟩) ?_
      try simp only [Act.put, List.setIfInBounds_toArray, List.set_cons_zero, List.set_cons_succ]
      refine UpTo.take (i := 3) 63 (v := .int .i64 (j : Int)) rfl rfl (by kernel_rfl) (by kernel_rfl) (by kernel_rfl) (by kernel_rfl) (fun _ _ _ h => h) hHeld (Or.inl ⟨by rfl, by intro w hSw; go_simp⟩) ?_
      try simp only [Act.put, List.setIfInBounds_toArray, List.set_cons_zero, List.set_cons_succ]
      refine UpTo.take (i := 4) 64 (v := .int .i64 ((A : Int) + (j : Int))) rfl rfl (by kernel_rfl) (by kernel_rfl) (by kernel_rfl) (by kernel_rfl) (fun _ _ _ h => h) hHeld (Or.inl ⟨by rfl, by intro w hSw; go_simp⟩) ?_
      try simp only [Act.put, List.setIfInBounds_toArray, List.set_cons_zero, List.set_cons_succ]
      refine UpTo.take (i := 5) 65 (v := .pointer (some ⟨w.heap.size, 1, none⟩)) rfl rfl (by kernel_rfl) (by kernel_rfl) (by kernel_rfl) (by kernel_rfl) (fun _ _ _ h => h) hHeld (Or.inl ⟨by rfl, by intro w hSw; go_simp⟩) ?_
      try simp only [Act.put, List.setIfInBounds_toArray, List.set_cons_zero, List.set_cons_succ]
      refine UpTo.take (i := 6) 66 (v := .int .i64 S) rfl rfl (by kernel_rfl) (by kernel_rfl) (by kernel_rfl) (by kernel_rfl) (fun _ _ _ h => h) hHeld (Or.inl ⟨by rfl, by intro w hSw; obtain ⟨c1, c2, c3⟩ := HC2.out w hSw; go_simp⟩) ?_
      try simp only [Act.put, List.setIfInBounds_toArray, List.set_cons_zero, List.set_cons_succ]
      refine UpTo.take (i := 7) 67 (v := .slice (some ⟨qb, qo, none⟩) 62 qk) rfl rfl (by kernel_rfl) (by kernel_rfl) (by kernel_rfl) (by kernel_rfl) (fun _ _ _ h => h) hHeld (Or.inl ⟨by rfl, by intro w hSw; go_simp⟩) ?_
      try simp only [Act.put, List.setIfInBounds_toArray, List.set_cons_zero, List.set_cons_succ]
      refine UpTo.take (i := 8) 68 (v := .int .i64 (j : Int)) rfl rfl (by kernel_rfl) (by kernel_rfl) (by kernel_rfl) (by kernel_rfl) (fun _ _ _ h => h) hHeld (Or.inl ⟨by rfl, by intro w hSw; go_simp⟩) ?_
      try simp only [Act.put, List.setIfInBounds_toArray, List.set_cons_zero, List.set_cons_succ]
      refine UpTo.take (i := 9) 69 (v := .pointer (some ⟨qb, qo + j, none⟩)) rfl rfl (by kernel_rfl) (by kernel_rfl) (by kernel_rfl) (by kernel_rfl) (fun _ _ _ h => h) hHeld (Or.inl ⟨by rfl, by intro w hSw; go_simp⟩) ?_
      try simp only [Act.put, List.setIfInBounds_toArray, List.set_cons_zero, List.set_cons_succ]
      refine UpTo.take (i := 10) 70 (v := .int .i64 z) rfl rfl (by kernel_rfl) (by kernel_rfl) (by kernel_rfl) (by kernel_rfl) (fun _ _ _ h => h) hHeld (Or.inl ⟨by rfl, by intro w hSw; obtain ⟨c1, c2, c3⟩ := HC2.out w hSw; go_simp⟩) ?_
      try simp only [Act.put, List.setIfInBounds_toArray, List.set_cons_zero, List.set_cons_succ]
      refine UpTo.take (i := 11) 71 (v := .int .i64 (S * z)) rfl rfl (by kernel_rfl) (by kernel_rfl) (by kernel_rfl) (by kernel_rfl) (fun _ _ _ h => h) hHeld (Or.inl ⟨by rfl, by intro w hSw; go_simp⟩) ?_
      try simp only [Act.put, List.setIfInBounds_toArray, List.set_cons_zero, List.set_cons_succ]
      refine UpTo.next (i := 12) (by kernel_rfl) rfl (fun K hK => ?_)
      go_simp
      refine hK.out _ _ (fun _ => HH0.out) ?_
      clear hK K
      try simp only [Act.put, List.setIfInBounds_toArray, List.set_cons_zero, List.set_cons_succ]
      have hc0 := HG.out.cell (A + j)
      rw [arrF_at _ (by omega)] at hc0
      have hf0 := HG.out.frozen (A + j)
      refine UpTo.next (i := 13) (by kernel_rfl) rfl (fun K hK => ?_)
      go_simp
      refine hK.out _ _ (fun h => absurd rfl h) ?_
      clear hK K
      refine UpTo.done (by kernel_rfl) ?_ _
      clear hc0 hf0
      go_wp2
      go_roundw
      case rel => exact ⟨j + 1, by omega, by go_num, by rw [← HNX.out]; exact HG.out.set_ _ _, below_drewN (HB.out.setCell (p := ⟨g, A + j, none⟩) (by show w3.heap.size ≤ g; omega) _) 1⟩
      case measure => simp [intOf]; omega
    · have hd : decide ((j : Int) < 62) = false := by rw [decide_eq_false_iff_not]; omega
      obtain rfl : j = 62 := by omega
      have hsl : (sigL n S A B).length = L := by rw [sigL_len]; omega
      have hG2 : Blk wr g 3 (iv (sigL n S A B)).toArray := by
        have e := sgF_full n S A B
        rw [hL] at e
        rw [← e]; exact hG
      have HSI := hide (stay_sl hG2.sl)
      have HCI := hide (fun W (h : Sl W (some ⟨g, 0, none⟩) (iv (sigL n S A B))) => show Calls Try.prog 42 #[.slice (some ⟨g, 0, none⟩) L L] W fun e w' => ∃ D kd, e = .returned (.slice D L kd) ∧ Sl w' D (iv (sigL n S A B)) ∧ L ≤ kd ∧ Below W.heap.size W w' from by
        have := copyInts (some ⟨g, 0, none⟩) L (sigL n S A B) W h (by omega)
        rw [hsl] at this
        exact this.mono fun e w' ⟨D, kd, h1, h2, h3⟩ => ⟨D, kd, by rw [h1, hsl], Sl.of_own h2, by have := own_cap3 h2; omega, h3⟩)
      have HSR := hide (fun D kk W (hk : L ≤ kk) (h : Sl W D (iv (sigL n S A B))) => show Calls Try.prog 27 #[.slice D L kk] W fun e w' => e = .returned (.tuple #[.agg #[.int .i64 (A : Int), .int .i64 (n : Int), .int .i64 (62 * S)], .int .i64 0]) ∧ Below W.heap.size W w' from by
        have := Search_ok D kk (A + B) (sigL n S A B) W h (by omega) (srE_zero (sig_right n (by omega) (by omega) A B (by omega)) (by omega)) (by rw [sigL_len])
        rw [sig_found n S A B hn (by omega), hsl] at this
        exact this)
      have HG := hide hG
      have HB := hide hbel
      have hq2 := fd_neq
      clear hG hG2 hbel hsl
      obtain ⟨wo, rfl⟩ : ∃ wo : World, wo = wr := ⟨_, rfl⟩
      have HU := hide (stay_blk HG.out)
      have HV := hide (stay_below HB.out)
      go_wp2_with (first
        | (go_at_call 42; go_must (refine (HCI.out _ HSI.out.now).mono ?_; rintro e w5 ⟨D, kd, rfl, ho, hk, hb⟩; have HD := hide ho; have HK := hide hk; clear ho hk; replace HSI := hide (HSI.out.step hb); replace HU := hide (HU.out.step hb); replace HV := hide (HV.out.step hb); clear hb; simp only []))
        | (go_at_call 27; go_must (refine (HSR.out _ _ _ HK.out HD.out).mono ?_; rintro e w6 ⟨rfl, hb⟩; replace HSI := hide (HSI.out.step hb); replace HU := hide (HU.out.step hb); replace HV := hide (HV.out.step hb); clear hb; simp only []))
        | (refine wpList_store_row rfl 42 (.tmp 7) (.tmp 77) rfl w6.heap.size #[.int .i64 (A : Int), .int .i64 (n : Int), .int .i64 (62 * S)] rfl rfl 42 #[.int .i64 0, .int .i64 0, .int .i64 0] (Blk.new w6 _ _) (by kernel_rfl) rfl (by simp [Value.oneCell']) ?_; have hb : Below w6.heap.size w6 ((w6.alloc (.cells #[.int .i64 0, .int .i64 0, .int .i64 0] 42)).setRow w6.heap.size #[.int .i64 (A : Int), .int .i64 (n : Int), .int .i64 (62 * S)]) := Below.row ((Below.refl _ _).alloc (Nat.le_refl _) _) (Nat.le_refl _) _; have H7 := hide (stay_blk ((Blk.new w6 42 #[.int .i64 0, .int .i64 0, .int .i64 0]).row #[.int .i64 (A : Int), .int .i64 (n : Int), .int .i64 (62 * S)])); replace HSI := hide (HSI.out.step hb); replace HU := hide (HU.out.step hb); replace HV := hide (HV.out.step hb); clear hb; obtain ⟨c0, c1, c2, c4⟩ := HSG.out _ HV.out.now)
        | (refine wpList_load_rowG 42 (.tmp 7) rfl (by rfl) w6.heap.size rfl 42 #[.int .i64 (A : Int), .int .i64 (n : Int), .int .i64 (62 * S)] _ H7.out.now Try.underlying42 rfl (by kernel_rfl) ?_))
      obtain ⟨W7, hW7⟩ : ∃ W7, (w6.alloc (.cells #[.int .i64 0, .int .i64 0, .int .i64 0] 42)).setRow w6.heap.size #[.int .i64 (A : Int), .int .i64 (n : Int), .int .i64 (62 * S)] = W7 := ⟨_, rfl⟩
      rw [hW7] at HU HV ⊢
      have hU0 := HU.out.now
      have hV0 := HV.out.now
      clear hW7 c0 c1 c2 c4 H7 HSI HCI HSR HD HK
      obtain ⟨o7, ho7⟩ : ∃ o, w6.heap.size = o := ⟨_, rfl⟩
      rw [ho7]
      clear ho7
      go_loopw [9] (fun i wr => ∃ j : Nat, j ≤ 62 ∧ j ≤ m ∧ i = .int .i64 (j : Int) ∧ Blk wr g 3 (arrF (erF n S A es j) L) ∧ Below w3.heap.size w3 wr ∧ Hid (∀ i, i < j → (-50000 ≤ es[i]?.getD 0 ∧ es[i]?.getD 0 ≤ 50000) ∧ 62 * es[i]?.getD 0 < 11 * S ∧ -(11 * S) < 62 * es[i]?.getD 0)) (fun i _ => 62 - (intOf i).toNat)
      case atStart => exact ⟨0, by omega, by omega, rfl, by rw [erF_zero]; exact hU0, hV0, hide (fun i hi => absurd hi (by omega))⟩
      case round =>
        obtain ⟨j, hj, hjm, rfl, hG, hbel, HERR⟩ := hrel
        clear hU0 hV0
        have HG3 := hide hG
        have HB3 := hide hbel
        obtain ⟨c0, c1, c2, c4⟩ := HSG.out _ hbel
        clear hG hbel
        by_cases hend : j = m ∨ j = 62
        · have HERX := hide (show rcvE (erL n S A B es j) = 0 from er_right n (by omega) s2 A B (by omega) es j (fun i hi => (HERR.out i hi).1))
          have HFD := hide (er_found n hn (by omega) A B es j hj (fun i hi => (HERR.out i hi).2))
          have hel : (erL n S A B es j).length = L := by rw [erL_len]; exact hL
          have hG4 : Blk wr g 3 (iv (erL n S A B es j)).toArray := by
            have := HG3.out
            unfold erL
            rw [hL]; exact this
          have HSE := hide (stay_sl hG4.sl)
          obtain ⟨Z, hZ⟩ : ∃ Z, (idAt (erL n S A B es j) A).2 = Z := ⟨_, rfl⟩
          have HIA := hide (fun W (h : Sl W (some ⟨g, 0, none⟩) (iv (erL n S A B es j))) => show Calls Try.prog 85 #[.slice (some ⟨g, 0, none⟩) L L, .int .i64 (A : Int)] W fun e w' => e = .returned (.tuple #[.agg #[.int .i64 (A : Int), .int .i64 (n : Int), .int .i64 Z], .int .i64 0]) ∧ Below W.heap.size W w' from by
            have := IdentityAt_ok (some ⟨g, 0, none⟩) L (erL n S A B es j) A W h (by omega) (idE_zero HERX.out (by omega))
            rw [hel, HFD.out, hZ] at this
            exact this)
          clear hel hG4 hZ
          have HEND := hide hend
          rcases HEND.out with h | h
          · have hx1 : decide ((j : Int) < (m : Int)) = false := by rw [decide_eq_false_iff_not]; omega
            have hx3 : m ≤ j := by omega
            clear hend h
            go_wp2_with (first
              | (go_at_call 85; go_must (refine (HIA.out _ HSE.out.now).mono ?_; rintro e w9 ⟨rfl, hb⟩; have HB9 := hide (Below.step HB3.out hb); clear c0 c1 c2 c4 hb; simp only []))
              | (refine wpList_store_row rfl 42 (.tmp 10) (.tmp 154) rfl w9.heap.size #[.int .i64 (A : Int), .int .i64 (n : Int), .int .i64 Z] rfl rfl 42 #[.int .i64 0, .int .i64 0, .int .i64 0] (Blk.new w9 _ _) (by kernel_rfl) rfl (by simp [Value.oneCell']) ?_; have hbz := Below.row (HB9.out.alloc HB9.out.size (.cells #[.int .i64 0, .int .i64 0, .int .i64 0] 42)) HB9.out.size #[.int .i64 (A : Int), .int .i64 (n : Int), .int .i64 Z]; have H10 := (Blk.new w9 42 #[.int .i64 0, .int .i64 0, .int .i64 0]).row #[.int .i64 (A : Int), .int .i64 (n : Int), .int .i64 Z]; have d0 := H10.cell 0; have d1 := H10.cell 1; obtain ⟨c0, c1, c2, c4⟩ := HSG.out _ hbz))
            go_ret
            exact ⟨rfl, Below.step HT.out.now.1.2 hbz⟩
          · have hx2 : decide ((j : Int) < 62) = false := by rw [decide_eq_false_iff_not]; omega
            clear hend h
            by_cases hx : j < m
            · have hx1 : decide ((j : Int) < (m : Int)) = true := by rw [decide_eq_true_iff]; omega
              go_wp2_with (first
                | (go_at_call 85; go_must (refine (HIA.out _ HSE.out.now).mono ?_; rintro e w9 ⟨rfl, hb⟩; have HB9 := hide (Below.step HB3.out hb); clear c0 c1 c2 c4 hb; simp only []))
                | (refine wpList_store_row rfl 42 (.tmp 10) (.tmp 154) rfl w9.heap.size #[.int .i64 (A : Int), .int .i64 (n : Int), .int .i64 Z] rfl rfl 42 #[.int .i64 0, .int .i64 0, .int .i64 0] (Blk.new w9 _ _) (by kernel_rfl) rfl (by simp [Value.oneCell']) ?_; have hbz := Below.row (HB9.out.alloc HB9.out.size (.cells #[.int .i64 0, .int .i64 0, .int .i64 0] 42)) HB9.out.size #[.int .i64 (A : Int), .int .i64 (n : Int), .int .i64 Z]; have H10 := (Blk.new w9 42 #[.int .i64 0, .int .i64 0, .int .i64 0]).row #[.int .i64 (A : Int), .int .i64 (n : Int), .int .i64 Z]; have d0 := H10.cell 0; have d1 := H10.cell 1; obtain ⟨c0, c1, c2, c4⟩ := HSG.out _ hbz))
              go_ret
              exact ⟨rfl, Below.step HT.out.now.1.2 hbz⟩
            · have hx1 : decide ((j : Int) < (m : Int)) = false := by rw [decide_eq_false_iff_not]; omega
              go_wp2_with (first
                | (go_at_call 85; go_must (refine (HIA.out _ HSE.out.now).mono ?_; rintro e w9 ⟨rfl, hb⟩; have HB9 := hide (Below.step HB3.out hb); clear c0 c1 c2 c4 hb; simp only []))
                | (refine wpList_store_row rfl 42 (.tmp 10) (.tmp 154) rfl w9.heap.size #[.int .i64 (A : Int), .int .i64 (n : Int), .int .i64 Z] rfl rfl 42 #[.int .i64 0, .int .i64 0, .int .i64 0] (Blk.new w9 _ _) (by kernel_rfl) rfl (by simp [Value.oneCell']) ?_; have hbz := Below.row (HB9.out.alloc HB9.out.size (.cells #[.int .i64 0, .int .i64 0, .int .i64 0] 42)) HB9.out.size #[.int .i64 (A : Int), .int .i64 (n : Int), .int .i64 Z]; have H10 := (Blk.new w9 42 #[.int .i64 0, .int .i64 0, .int .i64 0]).row #[.int .i64 (A : Int), .int .i64 (n : Int), .int .i64 Z]; have d0 := H10.cell 0; have d1 := H10.cell 1; obtain ⟨c0, c1, c2, c4⟩ := HSG.out _ hbz))
              go_ret
              exact ⟨rfl, Below.step HT.out.now.1.2 hbz⟩
        · have hjm2 : j < m := by omega
          have hj2 : j < 62 := by omega
          clear hend
          have hx1 : decide ((j : Int) < (m : Int)) = true := by rw [decide_eq_true_iff]; omega
          have hx2 : decide ((j : Int) < 62) = true := by rw [decide_eq_true_iff]; omega
          obtain ⟨eb, eo, rfl, e0⟩ := (HT.out wr HB3.out).1.1.1.int (k := j) (by omega)
          obtain ⟨e, he⟩ : ∃ e, es[j]?.getD 0 = e := ⟨_, rfl⟩
          rw [show es[j] = e by rw [← he, List.getElem?_eq_getElem (by omega)]; rfl] at e0
          have g3 : (0 : Int) ≤ (j : Int) := by omega
          have g4 : (j : Int) < (m : Int) := by omega
          have HE0 := hide e0
          have HES := hide (fun W (h : Below wr.heap.size wr W) => show W.cell? ⟨eb, eo + j, none⟩ = some (.int .i64 e) from (h.cell (p := ⟨eb, eo + j, none⟩) (lt_of_cell HE0.out)).trans HE0.out)
          have HES2 := hide (fun W (h : Below w3.heap.size w3 W) => show W.cell? ⟨eb, eo + j, none⟩ = some (.int .i64 e) from by
            have := (HT.out W h).1.1.1.one rfl (iv_at es j (by omega))
            rw [he] at this; exact this)
          cases hw : withinB e (-50000) 50000
          · have HW := hide hw
            clear hw
            go_wp2
            go_quiet ((go_at_call 24; exact Calls.quiet_of_same (Calls.turn (within_got HW.out _))))
            go_wp2
            go_ret
            exact ⟨rfl, below_drewN (Below.step HT.out.now.1.2 HB3.out) _⟩
          · have HW := hide hw
            have hwe : -50000 ≤ e ∧ e ≤ 50000 := by simpa [withinB] using hw
            have hwn : IntKind.i64.wrap (-e) = -e := IntWalk.i64_in _ (by omega)
            have hws : IntKind.i64.wrap (11 * S) = 11 * S := IntWalk.i64_in _ (by omega)
            clear hw
            obtain ⟨M, hM, hM2⟩ : ∃ M : Int, (M = e ∨ M = -e) ∧ (-e ≤ M ∧ e ≤ M) := by
              by_cases h : e < -e
              · exact ⟨-e, .inr rfl, by omega⟩
              · exact ⟨e, .inl rfl, by omega⟩
            by_cases hbig : 11 * S ≤ 62 * M
            · rcases Int.lt_or_le e (-e) with h5 | h5
              · have h6 : M = -e := by omega
                have h7 : IntKind.i64.wrap (62 * -e) = 62 * -e := IntWalk.i64_in _ (by omega)
                have h8 : IntKind.i64.wrap (-(62 * e)) = -(62 * e) := IntWalk.i64_in _ (by omega)
                have h9 : 11 * S ≤ 62 * -e := by omega
                clear hbig hM hM2 h6
                go_wp2
                go_quiet ((go_at_call 24; exact Calls.quiet_of_same (Calls.turn (within_got HW.out _))))
                go_wp2
                go_ret
                exact ⟨rfl, below_drewN (Below.step HT.out.now.1.2 HB3.out) _⟩
              · have h6 : M = e := by omega
                have h7 : IntKind.i64.wrap (62 * e) = 62 * e := IntWalk.i64_in _ (by omega)
                have h9 : 11 * S ≤ 62 * e := by omega
                clear hbig hM hM2 h6
                go_wp2
                go_quiet ((go_at_call 24; exact Calls.quiet_of_same (Calls.turn (within_got HW.out _))))
                go_wp2
                go_ret
                exact ⟨rfl, below_drewN (Below.step HT.out.now.1.2 HB3.out) _⟩
            · have HERR2 := hide (show ∀ i, i < j + 1 → (-50000 ≤ es[i]?.getD 0 ∧ es[i]?.getD 0 ≤ 50000) ∧ 62 * es[i]?.getD 0 < 11 * S ∧ -(11 * S) < 62 * es[i]?.getD 0 from fun i hi => by
                by_cases h : i < j
                · exact HERR.out i h
                · obtain rfl : i = j := by omega
                  rw [he]; omega)
              obtain ⟨y, hy⟩ : ∃ y, S * (seqL n)[j]?.getD 0 = y := ⟨_, rfl⟩
              have hyb := seq_bd n j (S := S) (by omega)
              rw [hy] at hyb
              have HNX := hide (erF_succ n S A es j L hj2 ((erF_at n S A es j hj2).trans hy) he)
              have hv0 : (arrF (erF n S A es j) L)[A + j]? = some (.int .i64 y) := by rw [arrF_at _ (by omega), erF_at n S A es j hj2, hy]
              have HV0 := hide hv0
              have hw1 : IntKind.i64.wrap ((A : Int) + (j : Int)) = (A : Int) + (j : Int) := IntWalk.i64_in _ (by omega)
              have hw2 : IntKind.i64.wrap (y + e) = y + e := IntWalk.i64_in _ (by omega)
              have t1 : ((A : Int) + (j : Int)).toNat = A + j := by omega
              have g1 : (0 : Int) ≤ (A : Int) + (j : Int) := by omega
              have g2 : (A : Int) + (j : Int) < (L : Int) := by omega
              clear hyb hy he hv0 HERR
              rcases Int.lt_or_le e (-e) with h5 | h5
              · have h6 : M = -e := by omega
                have h7 : IntKind.i64.wrap (62 * -e) = 62 * -e := IntWalk.i64_in _ (by omega)
                have h8 : IntKind.i64.wrap (-(62 * e)) = -(62 * e) := IntWalk.i64_in _ (by omega)
                have h9 : 62 * -e < 11 * S := by omega
                clear hbig hM hM2 h6
                go_wp2
                go_quiet ((go_at_call 24; exact Calls.quiet_of_same (Calls.turn (within_got HW.out _))))
                go_wp2
                obtain ⟨W9, hW9⟩ : ∃ W9, wr.drewN nq = W9 := ⟨_, rfl⟩
                have HH0 := hide (show (fun w' => Blk w' g 3 (arrF (erF n S A es j) L) ∧ Below w3.heap.size w3 w') (wr.drewN nq).drew from ⟨HG3.out, below_drewN (below_drewN HB3.out nq) 1⟩)
                rw [hW9] at HH0 ⊢
                clear hW9 HES HW c0 c1 c2 c4 h5 h9
                have hHeld := HH0.out
                refine UpTo.start (z := 19) (S := fun w' => Blk w' g 3 (arrF (erF n S A es j) L) ∧ Below w3.heap.size w3 w') (by kernel_rfl) ?_
                refine UpTo.take (i := 0) 130 (v := .slice (some ⟨g, 0, none⟩) L L) rfl rfl (by kernel_rfl) (by kernel_rfl) (by kernel_rfl) (by kernel_rfl) (fun _ _ _ h => h) hHeld (Or.inl ⟨by rfl, by intro w hSw; go_simp⟩) ?_
                try simp only [Act.put, List.setIfInBounds_toArray, List.set_cons_zero, List.set_cons_succ]
                refine UpTo.take (i := 1) 131 (v := .pointer (some ⟨w.heap.size, 2, none⟩)) rfl rfl (by kernel_rfl) (by kernel_rfl) (by kernel_rfl) (by kernel_rfl) (fun _ _ _ h => h) hHeld (Or.inl ⟨by rfl, by intro w hSw; go_simp⟩) ?_
                try simp only [Act.put, List.setIfInBounds_toArray, List.set_cons_zero, List.set_cons_succ]
                refine UpTo.take (i := 2) 132 (v := .int .i64 (A : Int)) rfl rfl (by kernel_rfl) (by kernel_rfl) (by kernel_rfl) (by kernel_rfl) (fun _ _ _ h => h) hHeld (Or.inl ⟨by rfl, by intro w hSw; have c9 := (HSG.out w hSw.2).2.2.1; go_simp⟩) ?_
                try simp only [Act.put, List.setIfInBounds_toArray, List.set_cons_zero, List.set_cons_succ]
                refine UpTo.take (i := 3) 133 (v := .int .i64 (j : Int)) rfl rfl (by kernel_rfl) (by kernel_rfl) (by kernel_rfl) (by kernel_rfl) (fun _ _ _ h => h) hHeld (Or.inl ⟨by rfl, by intro w hSw; go_simp⟩) ?_
                try simp only [Act.put, List.setIfInBounds_toArray, List.set_cons_zero, List.set_cons_succ]
                refine UpTo.take (i := 4) 134 (v := .int .i64 ((A : Int) + (j : Int))) rfl rfl (by kernel_rfl) (by kernel_rfl) (by kernel_rfl) (by kernel_rfl) (fun _ _ _ h => h) hHeld (Or.inl ⟨by rfl, by intro w hSw; go_simp⟩) ?_
                try simp only [Act.put, List.setIfInBounds_toArray, List.set_cons_zero, List.set_cons_succ]
                refine UpTo.take (i := 5) 135 (v := .slice (some ⟨g, 0, none⟩) L L) rfl rfl (by kernel_rfl) (by kernel_rfl) (by kernel_rfl) (by kernel_rfl) (fun _ _ _ h => h) hHeld (Or.inl ⟨by rfl, by intro w hSw; go_simp⟩) ?_
                try simp only [Act.put, List.setIfInBounds_toArray, List.set_cons_zero, List.set_cons_succ]
                refine UpTo.take (i := 6) 136 (v := .pointer (some ⟨w.heap.size, 2, none⟩)) rfl rfl (by kernel_rfl) (by kernel_rfl) (by kernel_rfl) (by kernel_rfl) (fun _ _ _ h => h) hHeld (Or.inl ⟨by rfl, by intro w hSw; go_simp⟩) ?_
                try simp only [Act.put, List.setIfInBounds_toArray, List.set_cons_zero, List.set_cons_succ]
                refine UpTo.take (i := 7) 137 (v := .int .i64 (A : Int)) rfl rfl (by kernel_rfl) (by kernel_rfl) (by kernel_rfl) (by kernel_rfl) (fun _ _ _ h => h) hHeld (Or.inl ⟨by rfl, by intro w hSw; have c9 := (HSG.out w hSw.2).2.2.1; go_simp⟩) ?_
                try simp only [Act.put, List.setIfInBounds_toArray, List.set_cons_zero, List.set_cons_succ]
                refine UpTo.take (i := 8) 138 (v := .int .i64 (j : Int)) rfl rfl (by kernel_rfl) (by kernel_rfl) (by kernel_rfl) (by kernel_rfl) (fun _ _ _ h => h) hHeld (Or.inl ⟨by rfl, by intro w hSw; go_simp⟩) ?_
                try simp only [Act.put, List.setIfInBounds_toArray, List.set_cons_zero, List.set_cons_succ]
                refine UpTo.take (i := 9) 139 (v := .int .i64 ((A : Int) + (j : Int))) rfl rfl (by kernel_rfl) (by kernel_rfl) (by kernel_rfl) (by kernel_rfl) (fun _ _ _ h => h) hHeld (Or.inl ⟨by rfl, by intro w hSw; go_simp⟩) ?_
                try simp only [Act.put, List.setIfInBounds_toArray, List.set_cons_zero, List.set_cons_succ]
                refine UpTo.take (i := 10) 140 (v := .pointer (some ⟨g, A + j, none⟩)) rfl rfl (by kernel_rfl) (by kernel_rfl) (by kernel_rfl) (by kernel_rfl) (fun _ _ _ h => h) hHeld (Or.inl ⟨by rfl, by intro w hSw; go_simp⟩) ?_
                try simp only [Act.put, List.setIfInBounds_toArray, List.set_cons_zero, List.set_cons_succ]
                refine UpTo.take (i := 11) 141 (v := .int .i64 y) rfl rfl (by kernel_rfl) (by kernel_rfl) (by kernel_rfl) (by kernel_rfl) (fun _ _ _ h => h) hHeld (Or.inl ⟨by rfl, by intro w hSw; have c9 := (hSw.1.cell (A + j)).trans HV0.out; go_simp⟩) ?_
                try simp only [Act.put, List.setIfInBounds_toArray, List.set_cons_zero, List.set_cons_succ]
                refine UpTo.take (i := 12) 142 (v := .pointer (some ⟨w.heap.size, 4, none⟩)) rfl rfl (by kernel_rfl) (by kernel_rfl) (by kernel_rfl) (by kernel_rfl) (fun _ _ _ h => h) hHeld (Or.inl ⟨by rfl, by intro w hSw; go_simp⟩) ?_
                try simp only [Act.put, List.setIfInBounds_toArray, List.set_cons_zero, List.set_cons_succ]
                refine UpTo.take (i := 13) 143 (v := .slice (some ⟨eb, eo, none⟩) m k) rfl rfl (by kernel_rfl) (by kernel_rfl) (by kernel_rfl) (by kernel_rfl) (fun _ _ _ h => h) hHeld (Or.inl ⟨by rfl, by intro w hSw; have c9 := (HSG.out w hSw.2).2.2.2; go_simp⟩) ?_
                try simp only [Act.put, List.setIfInBounds_toArray, List.set_cons_zero, List.set_cons_succ]
                refine UpTo.take (i := 14) 144 (v := .int .i64 (j : Int)) rfl rfl (by kernel_rfl) (by kernel_rfl) (by kernel_rfl) (by kernel_rfl) (fun _ _ _ h => h) hHeld (Or.inl ⟨by rfl, by intro w hSw; go_simp⟩) ?_
                try simp only [Act.put, List.setIfInBounds_toArray, List.set_cons_zero, List.set_cons_succ]
                refine UpTo.take (i := 15) 145 (v := .pointer (some ⟨eb, eo + j, none⟩)) rfl rfl (by kernel_rfl) (by kernel_rfl) (by kernel_rfl) (by kernel_rfl) (fun _ _ _ h => h) hHeld (Or.inl ⟨by rfl, by intro w hSw; go_simp⟩) ?_
                try simp only [Act.put, List.setIfInBounds_toArray, List.set_cons_zero, List.set_cons_succ]
                refine UpTo.take (i := 16) 146 (v := .int .i64 e) rfl rfl (by kernel_rfl) (by kernel_rfl) (by kernel_rfl) (by kernel_rfl) (fun _ _ _ h => h) hHeld (Or.inl ⟨by rfl, by intro w hSw; have c9 := HES2.out w hSw.2; go_simp⟩) ?_
                try simp only [Act.put, List.setIfInBounds_toArray, List.set_cons_zero, List.set_cons_succ]
                refine UpTo.take (i := 17) 147 (v := .int .i64 (y + e)) rfl rfl (by kernel_rfl) (by kernel_rfl) (by kernel_rfl) (by kernel_rfl) (fun _ _ _ h => h) hHeld (Or.inl ⟨by rfl, by intro w hSw; go_simp⟩) ?_
                try simp only [Act.put, List.setIfInBounds_toArray, List.set_cons_zero, List.set_cons_succ]
                refine UpTo.next (i := 18) (by kernel_rfl) rfl (fun K hK => ?_)
                go_simp
                refine hK.out _ _ (fun _ => HH0.out) ?_
                clear hK K
                try simp only [Act.put, List.setIfInBounds_toArray, List.set_cons_zero, List.set_cons_succ]
                have hc0 := HH0.out.1.cell (A + j)
                rw [HV0.out] at hc0
                have hf0 := HH0.out.1.frozen (A + j)
                refine UpTo.next (i := 19) (by kernel_rfl) rfl (fun K hK => ?_)
                go_simp
                refine hK.out _ _ (fun h => absurd rfl h) ?_
                clear hK K
                refine UpTo.done (by kernel_rfl) ?_ _
                clear hc0 hf0
                go_wp2
                go_roundw
                case rel => exact ⟨j + 1, by omega, by omega, by go_num, by rw [← HNX.out]; exact HH0.out.1.set_ _ _, HH0.out.2.setCell (p := ⟨g, A + j, none⟩) (by show w3.heap.size ≤ g; omega) _, HERR2⟩
                case measure => simp [intOf]; omega
              · have h6 : M = e := by omega
                have h7 : IntKind.i64.wrap (62 * e) = 62 * e := IntWalk.i64_in _ (by omega)
                have h9 : 62 * e < 11 * S := by omega
                clear hbig hM hM2 h6
                go_wp2
                go_quiet ((go_at_call 24; exact Calls.quiet_of_same (Calls.turn (within_got HW.out _))))
                go_wp2
                obtain ⟨W9, hW9⟩ : ∃ W9, wr.drewN nq = W9 := ⟨_, rfl⟩
                have HH0 := hide (show (fun w' => Blk w' g 3 (arrF (erF n S A es j) L) ∧ Below w3.heap.size w3 w') (wr.drewN nq).drew from ⟨HG3.out, below_drewN (below_drewN HB3.out nq) 1⟩)
                rw [hW9] at HH0 ⊢
                clear hW9 HES HW c0 c1 c2 c4 h5 h9
                have hHeld := HH0.out
                refine UpTo.start (z := 19) (S := fun w' => Blk w' g 3 (arrF (erF n S A es j) L) ∧ Below w3.heap.size w3 w') (by kernel_rfl) ?_
                refine UpTo.take (i := 0) 130 (v := .slice (some ⟨g, 0, none⟩) L L) rfl rfl (by kernel_rfl) (by kernel_rfl) (by kernel_rfl) (by kernel_rfl) (fun _ _ _ h => h) hHeld (Or.inl ⟨by rfl, by intro w hSw; go_simp⟩) ?_
                try simp only [Act.put, List.setIfInBounds_toArray, List.set_cons_zero, List.set_cons_succ]
                refine UpTo.take (i := 1) 131 (v := .pointer (some ⟨w.heap.size, 2, none⟩)) rfl rfl (by kernel_rfl) (by kernel_rfl) (by kernel_rfl) (by kernel_rfl) (fun _ _ _ h => h) hHeld (Or.inl ⟨by rfl, by intro w hSw; go_simp⟩) ?_
                try simp only [Act.put, List.setIfInBounds_toArray, List.set_cons_zero, List.set_cons_succ]
                refine UpTo.take (i := 2) 132 (v := .int .i64 (A : Int)) rfl rfl (by kernel_rfl) (by kernel_rfl) (by kernel_rfl) (by kernel_rfl) (fun _ _ _ h => h) hHeld (Or.inl ⟨by rfl, by intro w hSw; have c9 := (HSG.out w hSw.2).2.2.1; go_simp⟩) ?_
                try simp only [Act.put, List.setIfInBounds_toArray, List.set_cons_zero, List.set_cons_succ]
                refine UpTo.take (i := 3) 133 (v := .int .i64 (j : Int)) rfl rfl (by kernel_rfl) (by kernel_rfl) (by kernel_rfl) (by kernel_rfl) (fun _ _ _ h => h) hHeld (Or.inl ⟨by rfl, by intro w hSw; go_simp⟩) ?_
                try simp only [Act.put, List.setIfInBounds_toArray, List.set_cons_zero, List.set_cons_succ]
                refine UpTo.take (i := 4) 134 (v := .int .i64 ((A : Int) + (j : Int))) rfl rfl (by kernel_rfl) (by kernel_rfl) (by kernel_rfl) (by kernel_rfl) (fun _ _ _ h => h) hHeld (Or.inl ⟨by rfl, by intro w hSw; go_simp⟩) ?_
                try simp only [Act.put, List.setIfInBounds_toArray, List.set_cons_zero, List.set_cons_succ]
                refine UpTo.take (i := 5) 135 (v := .slice (some ⟨g, 0, none⟩) L L) rfl rfl (by kernel_rfl) (by kernel_rfl) (by kernel_rfl) (by kernel_rfl) (fun _ _ _ h => h) hHeld (Or.inl ⟨by rfl, by intro w hSw; go_simp⟩) ?_
                try simp only [Act.put, List.setIfInBounds_toArray, List.set_cons_zero, List.set_cons_succ]
                refine UpTo.take (i := 6) 136 (v := .pointer (some ⟨w.heap.size, 2, none⟩)) rfl rfl (by kernel_rfl) (by kernel_rfl) (by kernel_rfl) (by kernel_rfl) (fun _ _ _ h => h) hHeld (Or.inl ⟨by rfl, by intro w hSw; go_simp⟩) ?_
                try simp only [Act.put, List.setIfInBounds_toArray, List.set_cons_zero, List.set_cons_succ]
                refine UpTo.take (i := 7) 137 (v := .int .i64 (A : Int)) rfl rfl (by kernel_rfl) (by kernel_rfl) (by kernel_rfl) (by kernel_rfl) (fun _ _ _ h => h) hHeld (Or.inl ⟨by rfl, by intro w hSw; have c9 := (HSG.out w hSw.2).2.2.1; go_simp⟩) ?_
                try simp only [Act.put, List.setIfInBounds_toArray, List.set_cons_zero, List.set_cons_succ]
                refine UpTo.take (i := 8) 138 (v := .int .i64 (j : Int)) rfl rfl (by kernel_rfl) (by kernel_rfl) (by kernel_rfl) (by kernel_rfl) (fun _ _ _ h => h) hHeld (Or.inl ⟨by rfl, by intro w hSw; go_simp⟩) ?_
                try simp only [Act.put, List.setIfInBounds_toArray, List.set_cons_zero, List.set_cons_succ]
                refine UpTo.take (i := 9) 139 (v := .int .i64 ((A : Int) + (j : Int))) rfl rfl (by kernel_rfl) (by kernel_rfl) (by kernel_rfl) (by kernel_rfl) (fun _ _ _ h => h) hHeld (Or.inl ⟨by rfl, by intro w hSw; go_simp⟩) ?_
                try simp only [Act.put, List.setIfInBounds_toArray, List.set_cons_zero, List.set_cons_succ]
                refine UpTo.take (i := 10) 140 (v := .pointer (some ⟨g, A + j, none⟩)) rfl rfl (by kernel_rfl) (by kernel_rfl) (by kernel_rfl) (by kernel_rfl) (fun _ _ _ h => h) hHeld (Or.inl ⟨by rfl, by intro w hSw; go_simp⟩) ?_
                try simp only [Act.put, List.setIfInBounds_toArray, List.set_cons_zero, List.set_cons_succ]
                refine UpTo.take (i := 11) 141 (v := .int .i64 y) rfl rfl (by kernel_rfl) (by kernel_rfl) (by kernel_rfl) (by kernel_rfl) (fun _ _ _ h => h) hHeld (Or.inl ⟨by rfl, by intro w hSw; have c9 := (hSw.1.cell (A + j)).trans HV0.out; go_simp⟩) ?_
                try simp only [Act.put, List.setIfInBounds_toArray, List.set_cons_zero, List.set_cons_succ]
                refine UpTo.take (i := 12) 142 (v := .pointer (some ⟨w.heap.size, 4, none⟩)) rfl rfl (by kernel_rfl) (by kernel_rfl) (by kernel_rfl) (by kernel_rfl) (fun _ _ _ h => h) hHeld (Or.inl ⟨by rfl, by intro w hSw; go_simp⟩) ?_
                try simp only [Act.put, List.setIfInBounds_toArray, List.set_cons_zero, List.set_cons_succ]
                refine UpTo.take (i := 13) 143 (v := .slice (some ⟨eb, eo, none⟩) m k) rfl rfl (by kernel_rfl) (by kernel_rfl) (by kernel_rfl) (by kernel_rfl) (fun _ _ _ h => h) hHeld (Or.inl ⟨by rfl, by intro w hSw; have c9 := (HSG.out w hSw.2).2.2.2; go_simp⟩) ?_
                try simp only [Act.put, List.setIfInBounds_toArray, List.set_cons_zero, List.set_cons_succ]
                refine UpTo.take (i := 14) 144 (v := .int .i64 (j : Int)) rfl rfl (by kernel_rfl) (by kernel_rfl) (by kernel_rfl) (by kernel_rfl) (fun _ _ _ h => h) hHeld (Or.inl ⟨by rfl, by intro w hSw; go_simp⟩) ?_
                try simp only [Act.put, List.setIfInBounds_toArray, List.set_cons_zero, List.set_cons_succ]
                refine UpTo.take (i := 15) 145 (v := .pointer (some ⟨eb, eo + j, none⟩)) rfl rfl (by kernel_rfl) (by kernel_rfl) (by kernel_rfl) (by kernel_rfl) (fun _ _ _ h => h) hHeld (Or.inl ⟨by rfl, by intro w hSw; go_simp⟩) ?_
                try simp only [Act.put, List.setIfInBounds_toArray, List.set_cons_zero, List.set_cons_succ]
                refine UpTo.take (i := 16) 146 (v := .int .i64 e) rfl rfl (by kernel_rfl) (by kernel_rfl) (by kernel_rfl) (by kernel_rfl) (fun _ _ _ h => h) hHeld (Or.inl ⟨by rfl, by intro w hSw; have c9 := HES2.out w hSw.2; go_simp⟩) ?_
                try simp only [Act.put, List.setIfInBounds_toArray, List.set_cons_zero, List.set_cons_succ]
                refine UpTo.take (i := 17) 147 (v := .int .i64 (y + e)) rfl rfl (by kernel_rfl) (by kernel_rfl) (by kernel_rfl) (by kernel_rfl) (fun _ _ _ h => h) hHeld (Or.inl ⟨by rfl, by intro w hSw; go_simp⟩) ?_
                try simp only [Act.put, List.setIfInBounds_toArray, List.set_cons_zero, List.set_cons_succ]
                refine UpTo.next (i := 18) (by kernel_rfl) rfl (fun K hK => ?_)
                go_simp
                refine hK.out _ _ (fun _ => HH0.out) ?_
                clear hK K
                try simp only [Act.put, List.setIfInBounds_toArray, List.set_cons_zero, List.set_cons_succ]
                have hc0 := HH0.out.1.cell (A + j)
                rw [HV0.out] at hc0
                have hf0 := HH0.out.1.frozen (A + j)
                refine UpTo.next (i := 19) (by kernel_rfl) rfl (fun K hK => ?_)
                go_simp
                refine hK.out _ _ (fun h => absurd rfl h) ?_
                clear hK K
                refine UpTo.done (by kernel_rfl) ?_ _
                clear hc0 hf0
                go_wp2
                go_roundw
                case rel => exact ⟨j + 1, by omega, by omega, by go_num, by rw [← HNX.out]; exact HH0.out.1.set_ _ _, HH0.out.2.setCell (p := ⟨g, A + j, none⟩) (by show w3.heap.size ≤ g; omega) _, HERR2⟩
                case measure => simp [intOf]; omega
end Go.Proofs.Ythfmjohbokpceaa
