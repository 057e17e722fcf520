import Derived.Test.YthfmjohbokpceaaWvY
import Derived.Test.YthfmjohbokpceaaWLApart
import Derived.Test.YthfmjohbokpceaaEqArr
import Derived.Test.YthfmjohbokpceaaStay
namespace Go.Proofs.Ythfmjohbokpceaa
open Go.RowKit Go.WideShapes Go.ChangeShapes

/-! the statement WaveSequences -/
set_option maxRecDepth 100000 in
set_option maxHeartbeats 8000000 in
theorem WaveSequences_law (n : Int) (A : Option Addr) (c : Nat) (x : List Int) (w : World) (hs : Sl w A (iv x)) :
    Calls Try.prog 7 #[.int .i64 n, .slice A x.length c] w fun e w' => e = .returned (.bool true) ∧ Below w.heap.size w w' := by
  have HS := hide hs
  clear hs
  by_cases hl : 122 < x.length
  · go_enter Try.func7, Try.ntmps7
    go_wp2_with (go_at_call 20; go_must (refine (awake_ok _).mono ?_; rintro e w1 ⟨rfl, hb1⟩; simp only []))
    go_ret
    exact ⟨rfl, hb1⟩
  have hl' : x.length ≤ 122 := by omega
  clear hl
  have HID := hide (fun W => identityErr_ref n W)
  rcases idE_cases n with ⟨h0, k, rfl, hk⟩ | h2
  · rw [h0] at HID
    obtain ⟨s0, s1, s2, HSH, HSR⟩ : ∃ s0 s1 s2 : Int, Hid (∀ W, Calls Try.prog 40 #[.int .i64 (k : Int)] W fun e w' => e = .returned (.tuple #[.agg #[.int .i64 s0, .int .i64 s1, .int .i64 s2], .int .i64 0]) ∧ Below W.heap.size W w') ∧
        Hid (∀ W, Calls Try.prog 43 #[.int .i64 (k : Int)] W fun e w' => e = .returned (.agg #[.int .i64 s0, .int .i64 s1, .int .i64 s2]) ∧ Below W.heap.size W w') :=
      ⟨_, _, _, hide (fun W => Shifts_ok k hk W), hide (fun W => Shifts_ref k hk W)⟩
    have HSQ := hide (fun W => SequenceOf_ok k hk W)
    have HSQR := hide (fun W => SequenceOf_ref k hk W)
    have HIN := hide (fun B D cb cd W (h1 : Sl W B (iv (seqL k))) (h2 : Sl W D (iv (seqL k))) => by
      have := ints_base B D cb cd (seqL k) (seqL k) W h1 h2 (by rw [seqL_len]; omega) (by rw [seqL_len]; omega)
      rw [seqL_len, show intsEq (seqL k) (seqL k) = true by simp [intsEq]] at this
      exact this)
    obtain ⟨N, G, HCOR, hcase⟩ : ∃ N G : Int, Hid (∀ B cb W, Sl W B (iv x) → Calls Try.prog 41 #[.int .i64 (k : Int), .slice B x.length cb] W fun e w' => e = .returned (.tuple #[.int .i64 N, .int .i64 G]) ∧ Below W.heap.size W w') ∧
        ((((x.length : Int) != 62) = true ∧ N = 0 ∧ G = 10) ∨
         (((x.length : Int) != 62) = false ∧ N = 0 ∧ (G != 0) = true ∧ Hid (∀ W, Sl W A (iv x) → Calls Try.prog 46 #[.slice A x.length c] W fun e w' => e = .returned (.int .i64 G) ∧ W = w')) ∨
         (((x.length : Int) != 62) = false ∧ G = 0 ∧ Hid (∀ W, Sl W A (iv x) → Calls Try.prog 46 #[.slice A x.length c] W fun e w' => e = .returned (.int .i64 0) ∧ W = w') ∧
           Hid (∀ W, Sl W A (iv x) → Calls Try.prog 47 #[.int .i64 (k : Int), .slice A x.length c] W fun e w' => e = .returned (.int .i64 N) ∧ Below W.heap.size W w'))) := by
      by_cases h62 : x.length = 62
      · have e62 : ((x.length : Int) != 62) = false := by rw [h62]; rfl
        by_cases hr : rcvE x = 0
        · refine ⟨innS (seqL k) x 62, 0, hide (fun B cb W h => CorrelationOf_ok k hk B cb x.length x W rfl h h62 hr), .inr (.inr ⟨e62, rfl, hide (fun W h => ?_), hide (fun W h => CorrelationOf_ref k hk A c x.length x W rfl h h62 hr)⟩)⟩
          have := valuesErr_ref A c x W h (by omega)
          rw [hr] at this
          exact this
        · have hc : corE (k : Int) x = rcvE x := by
            unfold corE firstOf
            rw [h0, if_pos rfl, firstOf, h62, show unlessE (((62 : Nat) : Int) == 62) 10 = 0 from rfl, if_pos rfl, firstOf, if_neg hr]
          refine ⟨0, rcvE x, hide (fun B cb W h => ?_), .inr (.inl ⟨e62, rfl, by rw [bne_iff_ne]; exact hr, hide (fun W h => valuesErr_ref A c x W h (by omega))⟩)⟩
          have := CorrelationOf_err (k : Int) B cb x W h (by omega) (by rw [hc]; exact hr)
          rw [hc] at this
          exact this
      · have e62 : ((x.length : Int) != 62) = true := by rw [bne_iff_ne]; omega
        have hc : corE (k : Int) x = 10 := by
          unfold corE firstOf
          rw [h0, if_pos rfl, firstOf, show ((x.length : Int) == 62) = false by rw [beq_eq_false_iff_ne]; omega]
          rfl
        refine ⟨0, 10, hide (fun B cb W h => ?_), .inl ⟨e62, rfl, rfl⟩⟩
        have := CorrelationOf_err (k : Int) B cb x W h (by omega) (by rw [hc]; decide)
        rw [hc] at this
        exact this
    have hq : ∀ w, (binOp .neq 64 (.agg #[.int .i64 s0, .int .i64 s1, .int .i64 s2]) (.agg #[.int .i64 s0, .int .i64 s1, .int .i64 s2])).run Try.prog w = .ok (.bool false) w := fun w => (eq_arr3.neq [s0, s1, s2] [s0, s1, s2] rfl rfl w).trans (by simp)
    clear h0 hk
    rcases hcase with ⟨e62, rfl, rfl⟩ | ⟨e62, rfl, hG, HVE⟩ | ⟨e62, rfl, HVE, HCR⟩
    all_goals
      go_enter Try.func7, Try.ntmps7
      go_wp2_with (first
        | (go_at_call 20; go_must (refine (awake_ok _).mono ?_; rintro e w1 ⟨rfl, hb1⟩; have b1 : Below w.heap.size w w1 := Below.step (by go_grown) hb1; have z1 := b1.size; clear hb1; simp only []))
        | (go_at_call 40; go_must (refine (HSH.out _).mono ?_; rintro e w2 ⟨rfl, hb2⟩; have b2 : Below w.heap.size w w2 := Below.step b1 hb2; have z2 := b2.size; have HT2 := hide (stay_new w2 64 #[.int .i64 s0, .int .i64 s1, .int .i64 s2]); clear hb2; simp only []))
        | (go_at_call 22; go_must (refine (HSQ.out _).mono ?_; rintro e w3 ⟨C, kc, rfl, ho, hb3⟩; have b3 : Below w.heap.size w w3 := Below.step (by go_grown) hb3; have z3 := b3.size; have HT3 := hide ((HT2.out.step hb3).and (stay_sl (Sl.of_own ho))); clear hb3 ho; simp only []))
        | (go_at_call 42; go_must (refine (copyInts A c x _ (HS.out.bel b3) (by omega)).mono ?_; rintro e w4 ⟨D, kd, rfl, ho, hb4⟩; have b4 : Below w.heap.size w w4 := Below.step b3 hb4; have z4 := b4.size; have HT4 := hide ((HT3.out.step hb4).and (stay_sl (Sl.of_own ho))); clear hb4 ho; simp only []))
        | (go_at_call 41; go_must (refine (HCOR.out D kd _ HT4.out.now.2).mono ?_; rintro e w5 ⟨rfl, hb5⟩; have b5 : Below w.heap.size w w5 := Below.step b4 hb5; have z5 := b5.size; have HT5 := hide (HT4.out.step hb5); have z0 := HT5.out.now.1.1.cell 0; have z1' := HT5.out.now.1.1.cell 1; have z2' := HT5.out.now.1.1.cell 2; clear hb5; simp only []))
        | (go_at_call 21; go_must (refine (HID.out _).mono ?_; rintro e w' ⟨rfl, rfl⟩; simp only [])))
      go_region_held3 (fun w' => w'.cell? ⟨w2.heap.size, 0, none⟩ = some (.int .i64 s0) ∧ w'.cell? ⟨w2.heap.size, 1, none⟩ = some (.int .i64 s1) ∧ w'.cell? ⟨w2.heap.size, 2, none⟩ = some (.int .i64 s2)) (first | (simp [go_sem]; done) | (simp [go_sem, *]; done) | go_keep)
        (first
          | (go_at_call 43; go_must (refine (HSR.out _).mono ?_; rintro e w6 ⟨rfl, hb6⟩; have b6 : Below w.heap.size w w6 := Below.step (by go_grown) hb6; have z6 := b6.size; have HT6 := hide (HT5.out.drew.step hb6); have z3' := HT6.out.now.1.1.cell 0; have z4' := HT6.out.now.1.1.cell 1; have z5' := HT6.out.now.1.1.cell 2; clear hb6))
          | (go_at_call 45; go_must (refine (HSQR.out _).mono ?_; rintro e w7 ⟨C7, k7, rfl, ho, hb7⟩; have b7 : Below w.heap.size w w7 := Below.step b6 hb7; have z7 := b7.size; have HT7 := hide ((HT6.out.step hb7).and (stay_sl (Sl.of_own ho))); have z6' := HT7.out.now.1.1.1.cell 0; have z7' := HT7.out.now.1.1.1.cell 1; have z8' := HT7.out.now.1.1.1.cell 2; clear hb7 ho))
          | (go_at_call 44; go_must (refine (HIN.out _ _ _ _ _ HT7.out.now.1.1.2 HT7.out.now.2).mono ?_; rintro e w8 ⟨rfl, q8, rfl⟩)))
      go_wp2_with (first
        | (go_at_call 46; go_must (refine (HVE.out _ ((HS.out.bel b7).drewN _)).mono ?_; rintro e w' ⟨rfl, rfl⟩; simp only []))
        | (go_at_call 47; go_must (refine (HCR.out _ ((HS.out.bel b7).drewN _)).mono ?_; rintro e w9 ⟨rfl, hb9⟩; have b9 : Below w.heap.size w w9 := Below.step (below_drewN b7 _) hb9; clear hb9; simp only [])))
      go_ret
      exact ⟨rfl, by first | exact b9 | exact below_drewN b7 _⟩
  · have h3 : n < 0 ∨ 1007 < n := by
      rcases Int.lt_or_le n 0 with h | h
      · exact .inl h
      · rcases Int.lt_or_le 1007 n with h' | h'
        · exact .inr h'
        · exfalso
          unfold unlessE withinB at h2
          rw [decide_eq_true h, decide_eq_true h'] at h2
          exact absurd h2 (by decide)
    have HSH := hide (fun W => Shifts_err n h2 W)
    have HSQ := hide (fun W => SequenceOf_err n h3 W)
    have hc : corE n x = 2 := by unfold corE firstOf; rw [h2]; rfl
    have HCOR := hide (fun B cb W (h : Sl W B (iv x)) => by
      have := CorrelationOf_err n B cb x W h (by omega) (by rw [hc]; decide)
      rw [hc] at this
      exact this)
    have hq : ∀ w, (binOp .eql 64 (.agg #[.int .i64 0, .int .i64 0, .int .i64 0]) (.agg #[.int .i64 0, .int .i64 0, .int .i64 0])).run Try.prog w = .ok (.bool true) w := fun w => (eq_arr3.eql [0, 0, 0] [0, 0, 0] rfl rfl w).trans (by simp)
    rw [h2] at HID
    clear hc h2 h3
    go_enter Try.func7, Try.ntmps7
    go_wp2_with (first
      | (go_at_call 20; go_must (refine (awake_ok _).mono ?_; rintro e w1 ⟨rfl, hb1⟩; have b1 : Below w.heap.size w w1 := Below.step (by go_grown) hb1; have z1 := b1.size; clear hb1; simp only []))
      | (go_at_call 40; go_must (refine (HSH.out _).mono ?_; rintro e w2 ⟨rfl, hb2⟩; have b2 : Below w.heap.size w w2 := Below.step b1 hb2; have z2 := b2.size; have HT2 := hide (stay_new w2 64 #[.int .i64 0, .int .i64 0, .int .i64 0]); clear hb2; simp only []))
      | (go_at_call 22; go_must (refine (HSQ.out _).mono ?_; rintro e w' ⟨rfl, rfl⟩; simp only []))
      | (go_at_call 42; go_must (refine (copyInts A c x _ (HS.out.bel (by go_grown)) (by omega)).mono ?_; rintro e w4 ⟨D, kd, rfl, ho, hb4⟩; have b4 : Below w.heap.size w w4 := Below.step (by go_grown) hb4; have z4 := b4.size; have HT4 := hide ((HT2.out.step hb4).and (stay_sl (Sl.of_own ho))); clear hb4 ho; simp only []))
      | (go_at_call 41; go_must (refine (HCOR.out D kd _ HT4.out.now.2).mono ?_; rintro e w5 ⟨rfl, hb5⟩; have b5 : Below w.heap.size w w5 := Below.step b4 hb5; have z5 := b5.size; have HT5 := hide (HT4.out.step hb5); have z0 := HT5.out.now.1.cell 0; have z1' := HT5.out.now.1.cell 1; have z2' := HT5.out.now.1.cell 2; clear hb5; simp only []))
      | (go_at_call 21; go_must (refine (HID.out _).mono ?_; rintro e w' ⟨rfl, rfl⟩; simp only [])))
    go_ret
    exact ⟨rfl, b5⟩
end Go.Proofs.Ythfmjohbokpceaa
