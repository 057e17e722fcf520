import Derived.Test.YtamkannjdbodpaaLargB
namespace Go.Proofs.Ytamkannjdbodpaa
open Go.RowKit Go.WideShapes Go.ChangeShapes

theorem sgn_neg (a b : Int) : sgnPQ (-a) (-b) = -(sgnPQ a b) := by
  have e : cmpSq (-a) (-b) = cmpSq a b := by unfold cmpSq; rw [Int.neg_mul_neg, Int.neg_mul_neg]
  have hc : ∀ s : Int, cmp3 (-s) 0 = -(cmp3 s 0) := by intro s; unfold cmp3; (repeat' split) <;> omega
  have hs : -a + -b = -(a + b) := by omega
  unfold sgnPQ
  rw [e, hs, hc]
  (repeat' split) <;> first | omega | (have h0 : a = 0 := by omega
                                       have h1 : b = 0 := by omega
                                       subst h0 h1; rfl)

set_option maxRecDepth 100000 in
set_option maxHeartbeats 2000000 in
theorem BeamLarger_law (p q p' q' : Int) (w : World) :
    Calls Try.prog 5 #[.agg #[.int .i64 p, .int .i64 q], .agg #[.int .i64 p', .int .i64 q']] w fun e w' => e = .returned (.bool true) ∧ Below w.heap.size w w' := by
  rcases Bool.eq_false_or_eq_true (sqB p q) with ha | ha
  · rcases Bool.eq_false_or_eq_true (sqB p' q') with hb | hb
    · have hs := hide (show sgnPQ (p' - p) (q' - q) = -(sgnPQ (p - p') (q - q')) by rw [← sgn_neg]; congr 1 <;> omega)
      have HA := hide (show unlessE (sqB p q) 2 = 0 by rw [ha]; rfl)
      have HB := hide (show unlessE (sqB p' q') 2 = 0 by rw [hb]; rfl)
      have hbd : -1 ≤ sgnPQ (p - p') (q - q') ∧ sgnPQ (p - p') (q - q') ≤ 1 := by
        have h1 := cmpSq_bd (p - p') (q - q')
        have h2 := cmp3_bd (p - p' + (q - q')) 0
        unfold sgnPQ; (repeat' split) <;> omega
      obtain ⟨S, hS⟩ : ∃ S, sgnPQ (p - p') (q - q') = S := ⟨_, rfl⟩
      rw [hS] at hbd hs
      have HS := hide hS
      clear hS
      obtain ⟨h1, h2⟩ := hbd
      have e1 : (S == S) = true := by simp
      have e2 : (-S == -S) = true := by simp
      have ha' := hide ha
      have hb' := hide hb
      clear ha hb
      go_enter Try.func5, Try.ntmps5
      go_wp2_with (go_at_call 18; go_must (refine (awake_ok _).mono ?_; rintro e w1 ⟨rfl, hb1⟩; have b1 : Below w.heap.size w w1 := Below.step (by go_grown) hb1; obtain ⟨hc1, hf1, y10, y11⟩ := bloc2 w hb1 (by first | omega | (simp; done) | (simp; omega)); clear hb1; simp only []))
      refine (larger_ok p q p' q' ha'.out hb'.out _).mono ?_
      rw [HS.out]
      rintro e w2 ⟨rfl, hb2⟩
      have b2 : Below w.heap.size w w2 := Below.step (by go_grown) hb2
      obtain ⟨hc2, hf2, y20, y21⟩ := bloc2 w hb2 (by first | omega | (simp; done) | (simp; omega))
      clear hb2
      simp only []
      go_wp2_with fail
      refine (larger_ok p' q' p q hb'.out ha'.out _).mono ?_
      rw [hs.out]
      rintro e w3 ⟨rfl, hb3⟩
      have b3 : Below w.heap.size w w3 := Below.step (by go_grown) hb3
      obtain ⟨hc3, hf3, y30, y31⟩ := bloc2 w hb3 (by first | omega | (simp; done) | (simp; omega))
      clear hb3
      simp only []
      go_wp2_with fail
      refine (squareErr_ref p q _).mono ?_
      rw [HA.out]
      rintro e w4 ⟨rfl, hb4⟩
      have b4 : Below w.heap.size w w4 := Below.step (by go_grown) hb4
      obtain ⟨hc4, hf4, y40, y41⟩ := bloc2 w hb4 (by first | omega | (simp; done) | (simp; omega))
      clear hb4
      simp only []
      go_wp2_with fail
      refine (squareErr_ref p' q' _).mono ?_
      rw [HB.out]
      rintro e w5 ⟨rfl, hb5⟩
      have b5 : Below w.heap.size w w5 := Below.step (by go_grown) hb5
      obtain ⟨hc5, hf5, y50, y51⟩ := bloc2 w hb5 (by first | omega | (simp; done) | (simp; omega))
      clear hb5
      simp only []
      go_wp2_with fail
      refine (larger_ref p q p' q' ha'.out hb'.out _).mono ?_
      rw [HS.out]
      rintro e w6 ⟨rfl, hb6⟩
      have b6 : Below w.heap.size w w6 := Below.step (by go_grown) hb6
      clear hb6
      simp only []
      go_wp2_with fail
      go_ret
      exact ⟨rfl, by go_grown⟩
    · have HA := hide (show unlessE (sqB p q) 2 = 0 by rw [ha]; rfl)
      have HB := hide (show unlessE (sqB p' q') 2 = 2 by rw [hb]; rfl)
      have hx := hide (show (sqB p q && sqB p' q') = false by rw [hb, Bool.and_false])
      have hy := hide (show (sqB p' q' && sqB p q) = false by rw [hb, Bool.false_and])
      clear ha hb
      go_enter Try.func5, Try.ntmps5
      go_wp2_with (go_at_call 18; go_must (refine (awake_ok _).mono ?_; rintro e w1 ⟨rfl, hb1⟩; have b1 : Below w.heap.size w w1 := Below.step (by go_grown) hb1; obtain ⟨hc1, hf1, y10, y11⟩ := bloc2 w hb1 (by first | omega | (simp; done) | (simp; omega)); clear hb1; simp only []))
      refine (larger_bad p q p' q' hx.out _).mono ?_
      rintro e w2 ⟨rfl, hb2⟩
      have b2 : Below w.heap.size w w2 := Below.step (by go_grown) hb2
      obtain ⟨hc2, hf2, y20, y21⟩ := bloc2 w hb2 (by first | omega | (simp; done) | (simp; omega))
      clear hb2
      simp only []
      go_wp2_with fail
      refine (larger_bad p' q' p q hy.out _).mono ?_
      rintro e w3 ⟨rfl, hb3⟩
      have b3 : Below w.heap.size w w3 := Below.step (by go_grown) hb3
      obtain ⟨hc3, hf3, y30, y31⟩ := bloc2 w hb3 (by first | omega | (simp; done) | (simp; omega))
      clear hb3
      simp only []
      go_wp2_with fail
      refine (squareErr_ref p q _).mono ?_
      rw [HA.out]
      rintro e w4 ⟨rfl, hb4⟩
      have b4 : Below w.heap.size w w4 := Below.step (by go_grown) hb4
      obtain ⟨hc4, hf4, y40, y41⟩ := bloc2 w hb4 (by first | omega | (simp; done) | (simp; omega))
      clear hb4
      simp only []
      go_wp2_with fail
      refine (squareErr_ref p' q' _).mono ?_
      rw [HB.out]
      rintro e w5 ⟨rfl, hb5⟩
      have b5 : Below w.heap.size w w5 := Below.step (by go_grown) hb5
      clear hb5
      simp only []
      go_wp2_with fail
      go_ret
      exact ⟨rfl, by go_grown⟩
  · have HA := hide (show unlessE (sqB p q) 2 = 2 by rw [ha]; rfl)
    have hx := hide (show (sqB p q && sqB p' q') = false by rw [ha, Bool.false_and])
    have hy := hide (show (sqB p' q' && sqB p q) = false by rw [ha, Bool.and_false])
    clear ha
    go_enter Try.func5, Try.ntmps5
    go_wp2_with (go_at_call 18; go_must (refine (awake_ok _).mono ?_; rintro e w1 ⟨rfl, hb1⟩; have b1 : Below w.heap.size w w1 := Below.step (by go_grown) hb1; obtain ⟨hc1, hf1, y10, y11⟩ := bloc2 w hb1 (by first | omega | (simp; done) | (simp; omega)); clear hb1; simp only []))
    refine (larger_bad p q p' q' hx.out _).mono ?_
    rintro e w2 ⟨rfl, hb2⟩
    have b2 : Below w.heap.size w w2 := Below.step (by go_grown) hb2
    obtain ⟨hc2, hf2, y20, y21⟩ := bloc2 w hb2 (by first | omega | (simp; done) | (simp; omega))
    clear hb2
    simp only []
    go_wp2_with fail
    refine (larger_bad p' q' p q hy.out _).mono ?_
    rintro e w3 ⟨rfl, hb3⟩
    have b3 : Below w.heap.size w w3 := Below.step (by go_grown) hb3
    obtain ⟨hc3, hf3, y30, y31⟩ := bloc2 w hb3 (by first | omega | (simp; done) | (simp; omega))
    clear hb3
    simp only []
    go_wp2_with fail
    refine (squareErr_ref p q _).mono ?_
    rw [HA.out]
    rintro e w4 ⟨rfl, hb4⟩
    have b4 : Below w.heap.size w w4 := Below.step (by go_grown) hb4
    clear hb4
    simp only []
    go_wp2_with fail
    go_ret
    exact ⟨rfl, by go_grown⟩
end Go.Proofs.Ytamkannjdbodpaa
