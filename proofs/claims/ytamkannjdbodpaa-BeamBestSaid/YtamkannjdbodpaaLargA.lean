import Derived.Test.YtamkannjdbodpaaBeamJ
import Derived.Test.YtamkannjdbodpaaLawA
namespace Go.Proofs.Ytamkannjdbodpaa
open Go.RowKit Go.WideShapes Go.ChangeShapes

def bigB (x : Int) : Bool := !(withinB x (-1000000000000) 1000000000000)
def sqB (p q : Int) : Bool := withinB p (-1000000000000) 1000000000000 && withinB q (-1000000000000) 1000000000000
theorem sqB_ok {p q : Int} (h : sqB p q = true) : (-1000000000000 ≤ p ∧ p ≤ 1000000000000) ∧ -1000000000000 ≤ q ∧ q ≤ 1000000000000 := by
  simpa [sqB, withinB] using h
theorem big_idx (p q p' q' : Int) : decide (0 ≤ idxFrom bigB [p, q, p', q'] 0) = !(sqB p q && sqB p' q') := by
  unfold sqB
  simp only [idxFrom, bigB]
  rcases Bool.eq_false_or_eq_true (withinB p (-1000000000000) 1000000000000) with h1 | h1 <;> rcases Bool.eq_false_or_eq_true (withinB q (-1000000000000) 1000000000000) with h2 | h2 <;> rcases Bool.eq_false_or_eq_true (withinB p' (-1000000000000) 1000000000000) with h3 | h3 <;> rcases Bool.eq_false_or_eq_true (withinB q' (-1000000000000) 1000000000000) with h4 | h4 <;> simp [h1, h2, h3, h4]
theorem larger1_beam (x : Int) (w : World) : Calls Try.prog 107 #[.int .i64 x] w fun e w' => e = .returned (.bool (bigB x)) ∧ w = w' := by
  go_enter Try.func107, Try.ntmps107
  go_wp2_with (go_at_call 108; refine (small_beam _ _ (by omega) (by omega) _).mono ?_; rintro e w' ⟨rfl, rfl⟩; simp only [])
  go_ret
  exact ⟨rfl, rfl⟩

set_option maxRecDepth 100000 in
set_option maxHeartbeats 1000000 in
theorem larger_ok (p q p' q' : Int) (h : sqB p q = true) (h' : sqB p' q' = true) (w : World) :
    Calls Try.prog 32 #[.agg #[.int .i64 p, .int .i64 q], .agg #[.int .i64 p', .int .i64 q']] w fun e w' => e = .returned (.tuple #[.int .i64 (sgnPQ (p - p') (q - q')), .int .i64 0]) ∧ Below w.heap.size w w' := by
  have hK := hide (enters Try.func107 (by kernel_rfl) rfl)
  have hX := hide (show decide (0 ≤ idxFrom bigB [p, q, p', q'] 0) = false by rw [big_idx, h, h']; rfl)
  have hq := hide (sqB_ok h)
  have hq' := hide (sqB_ok h')
  clear h h'
  go_enter Try.func32, Try.ntmps32
  go_wp2_with (first
    | (go_at_call 98; go_must (refine (containsFunc0 107 bigB _ _ [p, q, p', q'] _ hK.out (fun x => larger1_beam x _) (Sl.newI _ [p, q, p', q'] _ _ (by simp)) (by simp)).mono ?_; rintro e w' ⟨rfl, rfl⟩; rw [hX.out]; simp only []))
    | (go_at_call 109; go_must (refine (compare_beam p q p' q' _ hq.out.1 hq.out.2 hq'.out.1 hq'.out.2).mono ?_; rintro e w1 ⟨rfl, hb1⟩; have b1 : Below w.heap.size w w1 := Below.step (by go_grown) hb1; simp only [])))
  go_ret2
  exact ⟨rfl, by go_grown⟩

set_option maxRecDepth 100000 in
set_option maxHeartbeats 1000000 in
theorem larger_bad (p q p' q' : Int) (h : (sqB p q && sqB p' q') = false) (w : World) :
    Calls Try.prog 32 #[.agg #[.int .i64 p, .int .i64 q], .agg #[.int .i64 p', .int .i64 q']] w fun e w' => e = .returned (.tuple #[.int .i64 0, .int .i64 2]) ∧ Below w.heap.size w w' := by
  have hK := hide (enters Try.func107 (by kernel_rfl) rfl)
  have hX := hide (show decide (0 ≤ idxFrom bigB [p, q, p', q'] 0) = true by rw [big_idx, h]; rfl)
  clear h
  go_enter Try.func32, Try.ntmps32
  go_wp2_with (first
    | (go_at_call 98; go_must (refine (containsFunc0 107 bigB _ _ [p, q, p', q'] _ hK.out (fun x => larger1_beam x _) (Sl.newI _ [p, q, p', q'] _ _ (by simp)) (by simp)).mono ?_; rintro e w' ⟨rfl, rfl⟩; rw [hX.out]; simp only [])))
  go_ret2
  exact ⟨rfl, by go_grown⟩

theorem squareErr_ref (p q : Int) (w : World) : Calls Try.prog 31 #[.agg #[.int .i64 p, .int .i64 q]] w fun x w' => x = .returned (.int .i64 (unlessE (sqB p q) 2)) ∧ Below w.heap.size w w' := by
  unfold sqB
  rcases (by cases withinB p (-1000000000000) 1000000000000 <;> cases withinB q (-1000000000000) 1000000000000 <;> simp : (withinB p (-1000000000000) 1000000000000 = false) ∨ (withinB p (-1000000000000) 1000000000000 = true ∧ withinB q (-1000000000000) 1000000000000 = false) ∨ (withinB p (-1000000000000) 1000000000000 = true ∧ withinB q (-1000000000000) 1000000000000 = true)) with k1 | ⟨k1, k2⟩ | ⟨k1, k2⟩
  · rw [k1, Bool.false_and]
    go_enter Try.func31, Try.ntmps31
    go_wp2_with (go_at_call 24; refine (within_base _ _ _ _).mono ?_; rintro e w' ⟨rfl, rfl⟩; simp only [])
    go_ret
    exact ⟨rfl, by go_grown⟩
  all_goals
    rw [k1, k2]
    go_enter Try.func31, Try.ntmps31
    go_wp2_with (go_at_call 24; refine (within_base _ _ _ _).mono ?_; rintro e w' ⟨rfl, rfl⟩; simp only [])
    go_ret
    exact ⟨rfl, by go_grown⟩
end Go.Proofs.Ytamkannjdbodpaa
