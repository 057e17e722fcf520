import Derived.Test.YthfmjohbokpceaaWvS
import Derived.Test.YthfmjohbokpceaaWvQ
import Derived.Test.YthfmjohbokpceaaStay
namespace Go.Proofs.Ythfmjohbokpceaa
open Go.RowKit Go.WideShapes Go.ChangeShapes

/-! the statement WaveSquares -/
theorem ws_under : Try.prog.underlying 47 = some (.struct (Try.prog.fieldsOf 47)) := by kernel_rfl
theorem ws_held : Try.prog.stoodInHeld 47 = false := by kernel_rfl
set_option maxRecDepth 100000 in
theorem ws_neq (a b a' b' : Int) (w : World) : (binOp .neq 47 (.agg #[.int .i64 a, .int .i64 b]) (.agg #[.int .i64 a', .int .i64 b'])).run Try.prog w = .ok (.bool (!(a == a' && b == b'))) w := by
  rw [run_neq_struct, run_equalIn_agg (d := 9999) (ht := ws_under) (hp := ws_held)]
  simp [go_sem]
  (repeat' split) <;> simp_all

set_option maxRecDepth 100000 in
set_option maxHeartbeats 8000000 in
theorem WaveSquares_law (x : Nm) (p q p' q' : Int) (w : World) :
    Calls Try.prog 5 #[nv x, .agg #[.int .i64 p, .int .i64 q], .agg #[.int .i64 p', .int .i64 q']] w fun e w' => e = .returned (.bool true) ∧ Below w.heap.size w w' := by
  obtain ⟨P, Q, E, HX, HXE, hcase⟩ : ∃ P Q E : Int, Hid (∀ W, Calls Try.prog 28 #[nv x] W fun e w' => e = .returned (.tuple #[.agg #[.int .i64 P, .int .i64 Q], .int .i64 E]) ∧ Below W.heap.size W w') ∧
      Hid (∀ W, Calls Try.prog 30 #[nv x] W fun e w' => e = .returned (.int .i64 E) ∧ Below W.heap.size W w') ∧
      ((E = 0 ∧ Hid (∀ W, Calls Try.prog 31 #[nv x] W fun e w' => e = .returned (.agg #[.int .i64 P, .int .i64 Q]) ∧ Below W.heap.size W w')) ∨ (E = 2 ∧ P = 0 ∧ Q = 0)) := by
    cases h : fitsB 1000000 x
    · exact ⟨0, 0, 2, hide (fun W => SquareOf_err x W h), hide (fun W => by have := squareErr_ref x W; rw [h] at this; exact this), .inr ⟨rfl, rfl, rfl⟩⟩
    · exact ⟨sqP x, sqQ x, 0, hide (fun W => SquareOf_ok x W h), hide (fun W => by have := squareErr_ref x W; rw [h] at this; exact this), .inl ⟨rfl, hide (fun W => squareOf_ref x W (nle_mono ((fitsB_iff _ _).1 h) (by decide)))⟩⟩
  obtain ⟨S, U, HC, hcase2⟩ : ∃ S U : Int, Hid (∀ W, Calls Try.prog 29 #[.agg #[.int .i64 p, .int .i64 q], .agg #[.int .i64 p', .int .i64 q']] W fun e w' => e = .returned (.tuple #[.int .i64 S, .int .i64 U]) ∧ Below W.heap.size W w') ∧
      ((U = 0 ∧ (-1 ≤ S ∧ S ≤ 1) ∧ Hid (∀ W, Calls Try.prog 29 #[.agg #[.int .i64 p', .int .i64 q'], .agg #[.int .i64 p, .int .i64 q]] W fun e w' => e = .returned (.tuple #[.int .i64 (-S), .int .i64 0]) ∧ Below W.heap.size W w') ∧
          Hid (∀ W, Calls Try.prog 32 #[.agg #[.int .i64 p, .int .i64 q]] W fun e w' => e = .returned (.int .i64 0) ∧ Below W.heap.size W w') ∧
          Hid (∀ W, Calls Try.prog 32 #[.agg #[.int .i64 p', .int .i64 q']] W fun e w' => e = .returned (.int .i64 0) ∧ Below W.heap.size W w') ∧
          Hid (∀ W, Calls Try.prog 33 #[.agg #[.int .i64 p, .int .i64 q], .agg #[.int .i64 p', .int .i64 q']] W fun e w' => e = .returned (.int .i64 S) ∧ Below W.heap.size W w')) ∨
       (U = 2 ∧ S = 0 ∧ Hid (∀ W, Calls Try.prog 32 #[.agg #[.int .i64 p, .int .i64 q]] W fun e w' => e = .returned (.int .i64 2) ∧ Below W.heap.size W w')) ∨
       (U = 2 ∧ S = 0 ∧ Hid (∀ W, Calls Try.prog 32 #[.agg #[.int .i64 p, .int .i64 q]] W fun e w' => e = .returned (.int .i64 0) ∧ Below W.heap.size W w') ∧
          Hid (∀ W, Calls Try.prog 32 #[.agg #[.int .i64 p', .int .i64 q']] W fun e w' => e = .returned (.int .i64 2) ∧ Below W.heap.size W w'))) := by
    have r1 := fun W => squaresErr_ref p q W
    have r2 := fun W => squaresErr_ref p' q' W
    cases h : sqB p q <;> rw [h] at r1
    · exact ⟨0, 2, hide (fun W => Compared_bad p q p' q' (by rw [h]; rfl) W), .inr (.inl ⟨rfl, rfl, hide r1⟩)⟩
    · cases h' : sqB p' q' <;> rw [h'] at r2
      · exact ⟨0, 2, hide (fun W => Compared_bad p q p' q' (by rw [h']; simp) W), .inr (.inr ⟨rfl, rfl, hide r1, hide r2⟩)⟩
      · refine ⟨cpW (p - p') (q - q'), 0, hide (fun W => Compared_ok p q p' q' h h' W), .inl ⟨rfl, cpW_bd _ _, hide (fun W => ?_), hide r1, hide r2, hide (fun W => Compared_ref p q p' q' h h' W)⟩⟩
        have := Compared_ok p' q' p q h' h W
        rw [show p' - p = -(p - p') by omega, show q' - q = -(q - q') by omega, cpW_neg] at this
        exact this
  have hq1 : ∀ w, (binOp .neq 47 (.agg #[.int .i64 P, .int .i64 Q]) (.agg #[.int .i64 P, .int .i64 Q])).run Try.prog w = .ok (.bool false) w := fun w => (ws_neq _ _ _ _ w).trans (by simp)
  have e1 : (S == S) = true := by simp
  have e2 : (-S == -S) = true := by simp
  have HB := hide (Below.refl w.heap.size w)
  have ne0 : w.heap.size + 1 ≠ w.heap.size := by omega
  have ne1 : w.heap.size + 2 ≠ w.heap.size := by omega
  have ne2 : w.heap.size + 2 ≠ w.heap.size + 1 := by omega
  rcases hcase with ⟨rfl, HXR⟩ | ⟨rfl, rfl, rfl⟩
  · rcases hcase2 with ⟨rfl, ⟨l1, l2⟩, HC2, HA1, HA2, HCR⟩ | ⟨rfl, rfl, HA1⟩ | ⟨rfl, rfl, HA1, HA2⟩
    all_goals
      go_enter Try.func5, Try.ntmps5
      go_wp2_with (first
        | (go_at_call 20; go_must (refine (awake_ok _).mono ?_; rintro e w1 ⟨rfl, hb1⟩; have b1 : Below w.heap.size w w1 := Below.step (by go_grown) hb1; obtain ⟨hc1, hf1, y10, y11, y12⟩ := bloc3 w hb1 (by first | omega | (simp; done) | (simp; omega)); clear hb1; simp only []))
        | (go_at_call 28; go_must (refine (HX.out _).mono ?_; rintro e w2 ⟨rfl, hb2⟩; have b2 : Below w.heap.size w w2 := Below.step b1 hb2; obtain ⟨hc2, hf2, y20, y21, y22⟩ := bloc3 w hb2 (by first | omega | (simp; done) | (simp; omega)); have HT := hide (stay_new w2 47 #[.int .i64 P, .int .i64 Q]); clear hb2; simp only []))
        | (go_at_call 29; go_must (refine (HC.out _).mono ?_; rintro e w3 ⟨rfl, hb3⟩; have b3 : Below w.heap.size w w3 := Below.step (by go_grown) hb3; obtain ⟨hc3, hf3, y30, y31, y32⟩ := bloc3 w hb3 (by first | omega | (simp; done) | (simp; omega)); have HT3 := hide (HT.out.step hb3); clear hb3; simp only []))
        | (go_at_call 30; go_must (refine (HXE.out _).mono ?_; rintro e w4 ⟨rfl, hb4⟩; have b4 : Below w.heap.size w w4 := Below.step (by go_grown) hb4; obtain ⟨hc4, hf4, y40, y41, y42⟩ := bloc3 w hb4 (by first | omega | (simp; done) | (simp; omega)); have HT4 := hide (HT3.out.step hb4); have z0 := HT4.out.now.cell 0; have z1 := HT4.out.now.cell 1; clear hb4; simp only [])))
      go_region_held3 (fun w' => w'.cell? ⟨w2.heap.size, 0, none⟩ = some (.int .i64 P) ∧ w'.cell? ⟨w2.heap.size, 1, none⟩ = some (.int .i64 Q) ∧ w'.cell? ⟨w.heap.size, 0, none⟩ = some (.int .i64 x.1) ∧ w'.cell? ⟨w.heap.size, 1, none⟩ = some (.int .i64 x.2.1) ∧ w'.cell? ⟨w.heap.size, 2, none⟩ = some (.int .i64 x.2.2.1) ∧ w'.cell? ⟨w.heap.size, 3, none⟩ = some (.int .i64 x.2.2.2)) (first | (simp [go_sem]; done) | (simp [go_sem, *]; done) | go_keep)
        (first
          | (go_at_call 31; go_must (refine (HXR.out _).mono ?_; rintro e w5 ⟨rfl, hb5⟩; have b5 : Below w.heap.size w w5 := Below.step (by go_grown) hb5; obtain ⟨hc5, hf5, y50, y51, y52⟩ := bloc3 w hb5 (by first | omega | (simp; done) | (simp; omega)); have HT5 := hide (HT4.out.drew.step hb5); have z2 := HT5.out.now.cell 0; have z3 := HT5.out.now.cell 1; clear hb5)))
      go_wp2_with (first
        | (go_at_call 32; have qq := b6; go_must (refine (HA2.out _).mono ?_; rintro e w7 ⟨rfl, hb7⟩; have b7 : Below w.heap.size w w7 := Below.step b6 hb7; obtain ⟨hc7, hf7, y70, y71, y72⟩ := bloc3 w hb7 (by first | omega | (simp; done) | (simp; omega)); clear hb7 qq; simp only []))
        | (go_at_call 32; go_must (refine (HA1.out _).mono ?_; rintro e w6 ⟨rfl, hb6⟩; have b6 : Below w.heap.size w w6 := Below.step (by go_grown) hb6; obtain ⟨hc6, hf6, y60, y61, y62⟩ := bloc3 w hb6 (by first | omega | (simp; done) | (simp; omega)); clear hb6; simp only []))
        | (go_at_call 29; go_must (refine (HC2.out _).mono ?_; rintro e w8 ⟨rfl, hb8⟩; have b8 : Below w.heap.size w w8 := Below.step (by go_grown) hb8; obtain ⟨hc8, hf8, y80, y81, y82⟩ := bloc3 w hb8 (by first | omega | (simp; done) | (simp; omega)); clear hb8; simp only []))
        | (go_at_call 33; go_must (refine (HCR.out _).mono ?_; rintro e w9 ⟨rfl, hb9⟩; have b9 : Below w.heap.size w w9 := Below.step b8 hb9; obtain ⟨hc9, hf9, y90, y91, y92⟩ := bloc3 w hb9 (by first | omega | (simp; done) | (simp; omega)); clear hb9; simp only [])))
      go_ret
      exact ⟨rfl, by go_grown⟩
  · rcases hcase2 with ⟨rfl, ⟨l1, l2⟩, HC2, HA1, HA2, HCR⟩ | ⟨rfl, rfl, HA1⟩ | ⟨rfl, rfl, HA1, HA2⟩
    all_goals
      go_enter Try.func5, Try.ntmps5
      go_wp2_with (first
        | (go_at_call 20; go_must (refine (awake_ok _).mono ?_; rintro e w1 ⟨rfl, hb1⟩; have b1 : Below w.heap.size w w1 := Below.step (by go_grown) hb1; obtain ⟨hc1, hf1, y10, y11, y12⟩ := bloc3 w hb1 (by first | omega | (simp; done) | (simp; omega)); clear hb1; simp only []))
        | (go_at_call 28; go_must (refine (HX.out _).mono ?_; rintro e w2 ⟨rfl, hb2⟩; have b2 : Below w.heap.size w w2 := Below.step b1 hb2; obtain ⟨hc2, hf2, y20, y21, y22⟩ := bloc3 w hb2 (by first | omega | (simp; done) | (simp; omega)); have HT := hide (stay_new w2 47 #[.int .i64 0, .int .i64 0]); clear hb2; simp only []))
        | (go_at_call 29; go_must (refine (HC.out _).mono ?_; rintro e w3 ⟨rfl, hb3⟩; have b3 : Below w.heap.size w w3 := Below.step (by go_grown) hb3; obtain ⟨hc3, hf3, y30, y31, y32⟩ := bloc3 w hb3 (by first | omega | (simp; done) | (simp; omega)); have HT3 := hide (HT.out.step hb3); clear hb3; simp only []))
        | (go_at_call 30; go_must (refine (HXE.out _).mono ?_; rintro e w4 ⟨rfl, hb4⟩; have b4 : Below w.heap.size w w4 := Below.step (by go_grown) hb4; obtain ⟨hc4, hf4, y40, y41, y42⟩ := bloc3 w hb4 (by first | omega | (simp; done) | (simp; omega)); have HT4 := hide (HT3.out.step hb4); have z0 := HT4.out.now.cell 0; have z1 := HT4.out.now.cell 1; clear hb4; simp only [])))
      go_wp2_with (first
        | (go_at_call 32; have qq := b6; go_must (refine (HA2.out _).mono ?_; rintro e w7 ⟨rfl, hb7⟩; have b7 : Below w.heap.size w w7 := Below.step b6 hb7; obtain ⟨hc7, hf7, y70, y71, y72⟩ := bloc3 w hb7 (by first | omega | (simp; done) | (simp; omega)); clear hb7 qq; simp only []))
        | (go_at_call 32; go_must (refine (HA1.out _).mono ?_; rintro e w6 ⟨rfl, hb6⟩; have b6 : Below w.heap.size w w6 := Below.step (by go_grown) hb6; obtain ⟨hc6, hf6, y60, y61, y62⟩ := bloc3 w hb6 (by first | omega | (simp; done) | (simp; omega)); clear hb6; simp only []))
        | (go_at_call 29; go_must (refine (HC2.out _).mono ?_; rintro e w8 ⟨rfl, hb8⟩; have b8 : Below w.heap.size w w8 := Below.step (by go_grown) hb8; obtain ⟨hc8, hf8, y80, y81, y82⟩ := bloc3 w hb8 (by first | omega | (simp; done) | (simp; omega)); clear hb8; simp only []))
        | (go_at_call 33; go_must (refine (HCR.out _).mono ?_; rintro e w9 ⟨rfl, hb9⟩; have b9 : Below w.heap.size w w9 := Below.step b8 hb9; obtain ⟨hc9, hf9, y90, y91, y92⟩ := bloc3 w hb9 (by first | omega | (simp; done) | (simp; omega)); clear hb9; simp only [])))
      go_ret
      exact ⟨rfl, by go_grown⟩
end Go.Proofs.Ythfmjohbokpceaa
