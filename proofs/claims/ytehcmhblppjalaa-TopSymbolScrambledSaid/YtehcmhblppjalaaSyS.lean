import Derived.Test.YtehcmhblppjalaaSyR
namespace Go.Proofs.Ytehcmhblppjalaa
open Go.RowKit Go.WideShapes Go.ChangeShapes

/-! how many bits four distances tell apart; the least of two numbers (program) -/
theorem countOf4 (A : Option Addr) (c : Nat) (w : World) :
    Calls Try.prog 42 #[.slice A 4 c] w fun e w' => e = .returned (.int .i64 2) ∧ w' = w := by
  go_enter Try.func42, Try.ntmps42
  go_wp2
  refine wp_loop_rounds 3 ?_
  rw [rounds_succ]
  go_wp2
  rw [rounds_succ]
  go_wp2
  rw [rounds_succ]
  go_wp2
  go_ret
  exact ⟨rfl, rfl⟩
theorem min2 (g q : Nat) (x y : Int) (w : World) (hx : w.cell? ⟨g, 0, none⟩ = some (.int .i64 x)) (hy : w.cell? ⟨g, 1, none⟩ = some (.int .i64 y)) :
    Calls Try.prog 44 #[.slice (some ⟨g, 0, none⟩) 2 q] w fun e w' => e = .returned (.int .i64 (if y < x then y else x)) ∧ w' = w := by
  by_cases hlt : y < x
  · rw [if_pos hlt]
    go_enter Try.func44, Try.ntmps44
    go_wp2
    refine wp_loop_rounds 2 ?_
    rw [rounds_succ]
    go_wp2
    rw [rounds_succ]
    go_wp2
    go_ret
    exact ⟨rfl, rfl⟩
  · rw [if_neg hlt]
    go_enter Try.func44, Try.ntmps44
    go_wp2
    refine wp_loop_rounds 2 ?_
    rw [rounds_succ]
    go_wp2
    rw [rounds_succ]
    go_wp2
    go_ret
    exact ⟨rfl, rfl⟩
def least (x y : Int) : Int := if y < x then y else x
theorem least_bd {x y : Int} (h1 : 0 ≤ x ∧ x ≤ 1000000) (h2 : 0 ≤ y ∧ y ≤ 1000000) : 0 ≤ least x y ∧ least x y ≤ 1000000 := by unfold least; split <;> omega
theorem min2L (g q : Nat) (x y : Int) (w : World) (hx : w.cell? ⟨g, 0, none⟩ = some (.int .i64 x)) (hy : w.cell? ⟨g, 1, none⟩ = some (.int .i64 y)) :
    Calls Try.prog 44 #[.slice (some ⟨g, 0, none⟩) 2 q] w fun e w' => e = .returned (.int .i64 (least x y)) ∧ w' = w := min2 g q x y w hx hy
end Go.Proofs.Ytehcmhblppjalaa
