import Derived.Test.YthfmjohbokpceaaWvE
import Derived.Test.YthfmjohbokpceaaBase
namespace Go.Proofs.Ythfmjohbokpceaa
open Go.RowKit Go.WideShapes Go.ChangeShapes

/-! the squares: the program's exported functions, the reference's errors -/
set_option maxRecDepth 100000 in
set_option maxHeartbeats 1000000 in
theorem within_ref (x : Nm) (m : Int) (w : World) (h : -9223372036854775807 ≤ m) (h' : m ≤ 9223372036854775807) :
    Calls Try.prog 122 #[nv x, .int .i64 m] w fun e w' => e = .returned (.bool (fitsB m x)) ∧ Below w.heap.size w w' := by
  obtain ⟨a, b, c, d⟩ := x
  unfold fitsB
  dsimp only
  rcases (by cases withinB a (-m) m <;> cases withinB b (-m) m <;> cases withinB c (-m) m <;> simp : (withinB a (-m) m = false) ∨ (withinB a (-m) m = true ∧ withinB b (-m) m = false) ∨ (withinB a (-m) m = true ∧ withinB b (-m) m = true ∧ withinB c (-m) m = false) ∨ (withinB a (-m) m = true ∧ withinB b (-m) m = true ∧ withinB c (-m) m = true)) with k1 | ⟨k1, k2⟩ | ⟨k1, k2, k3⟩ | ⟨k1, k2, k3⟩
  all_goals
    (try rw [k1]); (try rw [k2]); (try rw [k3])
    simp only [Bool.false_and, Bool.true_and]
    go_enter Try.func122, Try.ntmps122
    go_wp2_with (go_at_call 24; refine (within_base _ _ _ _).mono ?_; rintro e w' ⟨rfl, rfl⟩; simp only [])
    go_ret
    exact ⟨rfl, by go_grown⟩
theorem squareErr_ref (x : Nm) (w : World) : Calls Try.prog 30 #[nv x] w fun e w' => e = .returned (.int .i64 (unlessE (fitsB 1000000 x) 2)) ∧ Below w.heap.size w w' := by
  rcases Bool.eq_false_or_eq_true (fitsB 1000000 x) with h | h
  all_goals
    rw [h]
    have HR := hide (fun W => within_ref x 1000000 W (by omega) (by omega))
    rw [h] at HR
    clear h
    go_enter Try.func30, Try.ntmps30
    go_wp2_with (go_at_call 122; go_must (refine (HR.out _).mono ?_; rintro e w1 ⟨rfl, hb1⟩; have b1 : Below w.heap.size w w1 := Below.step (by go_grown) hb1; clear hb1; simp only []))
    go_ret
    exact ⟨rfl, b1⟩
theorem squaresErr_ref (p q : Int) (w : World) : Calls Try.prog 32 #[.agg #[.int .i64 p, .int .i64 q]] w fun x w' => x = .returned (.int .i64 (unlessE (sqB p q) 2)) ∧ Below w.heap.size w w' := by
  unfold sqB
  rcases (by cases withinB p (-10000000000000) 10000000000000 <;> cases withinB q (-10000000000000) 10000000000000 <;> simp : (withinB p (-10000000000000) 10000000000000 = false) ∨ (withinB p (-10000000000000) 10000000000000 = true ∧ withinB q (-10000000000000) 10000000000000 = false) ∨ (withinB p (-10000000000000) 10000000000000 = true ∧ withinB q (-10000000000000) 10000000000000 = true)) with k1 | ⟨k1, k2⟩ | ⟨k1, k2⟩
  · rw [k1, Bool.false_and]
    go_enter Try.func32, Try.ntmps32
    go_wp2_with (go_at_call 24; refine (within_base _ _ _ _).mono ?_; rintro e w' ⟨rfl, rfl⟩; simp only [])
    go_ret
    exact ⟨rfl, by go_grown⟩
  all_goals
    rw [k1, k2]
    go_enter Try.func32, Try.ntmps32
    go_wp2_with (go_at_call 24; refine (within_base _ _ _ _).mono ?_; rintro e w' ⟨rfl, rfl⟩; simp only [])
    go_ret
    exact ⟨rfl, by go_grown⟩
set_option maxRecDepth 100000 in
set_option maxHeartbeats 1000000 in
theorem squareOf_ref (x : Nm) (w : World) (h : nle 1000000000 x) : Calls Try.prog 31 #[nv x] w fun e w' => e = .returned (.agg #[.int .i64 (sqP x), .int .i64 (sqQ x)]) ∧ Below w.heap.size w w' := by
  obtain ⟨a, b, c, d⟩ := x
  unfold nle at h
  unfold sqP sqQ
  dsimp only at *
  obtain ⟨a1, a2, b1, b2, c1, c2, d1, d2⟩ := h
  obtain ⟨p1, r1⟩ := mul_le_size a1 a2 a1 a2
  obtain ⟨p2, r2⟩ := mul_le_size b1 b2 b1 b2
  obtain ⟨p3, r3⟩ := mul_le_size c1 c2 c1 c2
  obtain ⟨p4, r4⟩ := mul_le_size d1 d2 d1 d2
  obtain ⟨p5, r5⟩ := mul_le_size a1 a2 b1 b2
  obtain ⟨p6, r6⟩ := mul_le_size b1 b2 c1 c2
  obtain ⟨p7, r7⟩ := mul_le_size c1 c2 d1 d2
  obtain ⟨p8, r8⟩ := mul_le_size a1 a2 d1 d2
  clear a1 a2 b1 b2 c1 c2 d1 d2
  go_enter Try.func31, Try.ntmps31
  go_wp2
  go_returns
  exact ⟨rfl, by go_grown⟩

/-- the error of a root; the square told with it -/
def sqoE (x : Nm) : Int := unlessE (fitsB 1000000 x) 2
theorem SquareOf_ok (x : Nm) (w : World) (h : fitsB 1000000 x = true) : Calls Try.prog 28 #[nv x] w fun e w' => e = .returned (.tuple #[.agg #[.int .i64 (sqP x), .int .i64 (sqQ x)], .int .i64 0]) ∧ Below w.heap.size w w' := by
  have HF := hide (fun W => fits_wave x 1000000 W (by omega) (by omega))
  have HS := hide (fun W => square_wave x W (nle_mono ((fitsB_iff _ _).1 h) (by decide)))
  rw [h] at HF
  clear h
  go_enter Try.func28, Try.ntmps28
  go_wp2_with (first
    | (go_at_call 110; have qq := b2; go_must (refine (numberOf_wave x _).mono ?_; rintro e w3 ⟨rfl, hb3⟩; have b3 : Below w.heap.size w w3 := Below.step b2 hb3; obtain ⟨hc3, hf3, y30, y31⟩ := bloc2 w hb3 (by first | omega | (simp; done) | (simp; omega)); clear hb3 qq; simp only []))
    | (go_at_call 110; go_must (refine (numberOf_wave x _).mono ?_; rintro e w1 ⟨rfl, hb1⟩; have b1 : Below w.heap.size w w1 := Below.step (by go_grown) hb1; obtain ⟨hc1, hf1, y10, y11⟩ := bloc2 w hb1 (by first | omega | (simp; done) | (simp; omega)); clear hb1; simp only []))
    | (go_at_call 118; go_must (refine (HF.out _).mono ?_; rintro e w2 ⟨rfl, hb2⟩; have b2 : Below w.heap.size w w2 := Below.step b1 hb2; obtain ⟨hc2, hf2, y20, y21⟩ := bloc2 w hb2 (by first | omega | (simp; done) | (simp; omega)); clear hb2; simp only []))
    | (go_at_call 119; go_must (refine (HS.out _).mono ?_; rintro e w4 ⟨rfl, hb4⟩; have b4 : Below w.heap.size w w4 := Below.step b3 hb4; obtain ⟨hc4, hf4, y40, y41⟩ := bloc2 w hb4 (by first | omega | (simp; done) | (simp; omega)); clear hb4; simp only [])))
  refine bodyPost_ret (v := .tuple #[.agg #[.int .i64 (sqP x), .int .i64 (sqQ x)], .int .i64 0]) (by simp [results, Try.results28, go_sem, hc4, hc3, hc2, hc1]) rfl ⟨rfl, by go_grown⟩
theorem SquareOf_err (x : Nm) (w : World) (h : fitsB 1000000 x = false) : Calls Try.prog 28 #[nv x] w fun e w' => e = .returned (.tuple #[.agg #[.int .i64 0, .int .i64 0], .int .i64 2]) ∧ Below w.heap.size w w' := by
  have HF := hide (fun W => fits_wave x 1000000 W (by omega) (by omega))
  rw [h] at HF
  clear h
  go_enter Try.func28, Try.ntmps28
  go_wp2_with (first
    | (go_at_call 110; go_must (refine (numberOf_wave x _).mono ?_; rintro e w1 ⟨rfl, hb1⟩; have b1 : Below w.heap.size w w1 := Below.step (by go_grown) hb1; obtain ⟨hc1, hf1, y10, y11⟩ := bloc2 w hb1 (by first | omega | (simp; done) | (simp; omega)); clear hb1; simp only []))
    | (go_at_call 118; go_must (refine (HF.out _).mono ?_; rintro e w2 ⟨rfl, hb2⟩; have b2 : Below w.heap.size w w2 := Below.step b1 hb2; obtain ⟨hc2, hf2, y20, y21⟩ := bloc2 w hb2 (by first | omega | (simp; done) | (simp; omega)); clear hb2; simp only [])))
  refine bodyPost_ret (v := .tuple #[.agg #[.int .i64 0, .int .i64 0], .int .i64 2]) (by simp [results, Try.results28, go_sem, hc2, hc1]) rfl ⟨rfl, by go_grown⟩
end Go.Proofs.Ythfmjohbokpceaa
