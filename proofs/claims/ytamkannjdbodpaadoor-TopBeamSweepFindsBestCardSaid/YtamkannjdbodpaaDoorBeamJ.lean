import Derived.Test.YtamkannjdbodpaaDoorBeamD
import Derived.Test.YtamkannjdbodpaaDoorCmp
namespace Go.Proofs.YtamkannjdbodpaaDoor
open Go.RowKit Go.WideShapes Go.ChangeShapes

theorem max_sq (a : Int) : max a (-a) * max a (-a) = a * a := by
  rcases (by omega : max a (-a) = a ∨ max a (-a) = -a) with h | h <;> rw [h]
  exact Int.neg_mul_neg a a
theorem max_sq2 (a : Int) : max a (-a) * (2 * max a (-a)) = 2 * (a * a) := by
  rw [← Int.mul_assoc, Int.mul_comm (max a (-a)) 2, Int.mul_assoc, max_sq]
/-- squares of two numbers, the second one doubled -/
def cmpSq (a b : Int) : Int := cmp3 (a * a) (2 * (b * b))
set_option maxRecDepth 100000 in
set_option maxHeartbeats 1000000 in
theorem compareSquares_beam (a b : Int) (w : World) (a1 : -3000000000000 ≤ a) (a2 : a ≤ 3000000000000) (b1 : -3000000000000 ≤ b) (b2 : b ≤ 3000000000000) :
    Calls Tryd.prog 67 #[.int .i64 a, .int .i64 b] w fun e w' => e = .returned (.int .i64 (cmpSq a b)) ∧ Below w.heap.size w w' := by
  have HW := hide (cmp_words (max a (-a) * max a (-a)) (max b (-b) * (2 * max b (-b))))
  go_enter Tryd.func67, Tryd.ntmps67
  go_wp2_with (first
    | (go_at_call 86; go_must (refine (mul64 _ _ (by omega) (by omega) (by omega) (by omega) _).mono ?_; rintro e w' ⟨rfl, rfl⟩))
    | (go_at_call 88; refine (compare_u64 _ _ _).mono ?_; rintro e w' ⟨rfl, rfl⟩)
    | (go_at_call 87; go_must (refine (or_two _ _ _ _ (by simp)).mono ?_; rintro e w' ⟨rfl, rfl⟩)))
  go_ret
  refine ⟨ret1 ?_, by go_grown⟩
  rw [HW.out, max_sq, max_sq2]
  rfl

/-- P + Q r against 0, r being the root of two -/
def sgnPQ (p q : Int) : Int :=
  if 0 ≤ p ∧ 0 ≤ q then cmp3 (p + q) 0 else if p ≤ 0 ∧ q ≤ 0 then cmp3 (p + q) 0 else if 0 < p then cmpSq p q else -(cmpSq p q)
theorem cmpSq_bd (a b : Int) : -1 ≤ cmpSq a b ∧ cmpSq a b ≤ 1 := by unfold cmpSq cmp3; (repeat' split) <;> omega
theorem cmp3_bd (a b : Int) : -1 ≤ cmp3 a b ∧ cmp3 a b ≤ 1 := by unfold cmp3; (repeat' split) <;> omega

set_option maxRecDepth 100000 in
set_option maxHeartbeats 1000000 in
theorem compare_beam (p q p' q' : Int) (w : World) (hp : -1000000000000 ≤ p ∧ p ≤ 1000000000000) (hq : -1000000000000 ≤ q ∧ q ≤ 1000000000000) (hp' : -1000000000000 ≤ p' ∧ p' ≤ 1000000000000) (hq' : -1000000000000 ≤ q' ∧ q' ≤ 1000000000000) :
    Calls Tryd.prog 43 #[.agg #[.int .i64 p, .int .i64 q], .agg #[.int .i64 p', .int .i64 q']] w fun e w' => e = .returned (.int .i64 (sgnPQ (p - p') (q - q'))) ∧ Below w.heap.size w w' := by
  have hcs := cmpSq_bd (p - p') (q - q')
  obtain ⟨h1, h2⟩ := hp
  obtain ⟨h3, h4⟩ := hq
  obtain ⟨h5, h6⟩ := hp'
  obtain ⟨h7, h8⟩ := hq'
  have e1 : IntKind.i64.wrap (p - p') = p - p' := IntWalk.i64_in _ (by omega)
  have e2 : IntKind.i64.wrap (q - q') = q - q' := IntWalk.i64_in _ (by omega)
  have n1 := World.size_alloc w (.cells #[.int .i64 p, .int .i64 q] 52)
  rcases (by omega : (0 ≤ p - p' ∧ 0 ≤ q - q') ∨ (¬ 0 ≤ p - p' ∧ p - p' ≤ 0 ∧ q - q' ≤ 0) ∨ (0 ≤ p - p' ∧ ¬ 0 ≤ q - q' ∧ p - p' ≤ 0 ∧ q - q' ≤ 0) ∨ (0 < p - p' ∧ 0 ≤ p - p' ∧ ¬ p - p' ≤ 0 ∧ ¬ 0 ≤ q - q') ∨ (¬ 0 < p - p' ∧ ¬ 0 ≤ p - p' ∧ p - p' ≤ 0 ∧ ¬ q - q' ≤ 0)) with h | h | h | h | h
  all_goals
    go_enter Tryd.func43, Tryd.ntmps43
    go_wp2
    go_quiet (fail)
    go_wp2_with (first
      | (go_at_call 66; go_must (refine (compare_int _ _ _).mono ?_; rintro e w' ⟨rfl, rfl⟩))
      | (go_at_call 67; go_must (refine (compareSquares_beam _ _ _ (by omega) (by omega) (by omega) (by omega)).mono ?_; rintro e w1 ⟨rfl, hb1⟩; have b1 : Below w.heap.size w w1 := Below.step (below_drewN (by go_grown) _) hb1)))
    go_ret
    first
      | exact ⟨ret1 (by unfold sgnPQ; (repeat' split) <;> first | rfl | omega), b1⟩
      | exact ⟨ret1 (by unfold sgnPQ; (repeat' split) <;> first | rfl | omega), below_drewN (by go_grown) _⟩
end Go.Proofs.YtamkannjdbodpaaDoor
