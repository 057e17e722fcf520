import Derived.Test.YtfolipkbcibgdaaProg
import Derived.Test.YtfolipkbcibgdaaMem
import Derived.BigQuiet
import Derived.Deep.QuietTactic
import Derived.Deep.RegionHeld3
namespace Go.Proofs.Ytfolipkbcibgdaa
open Go.RowKit Go.WideShapes Go.ChangeShapes

theorem int_info : (Try.prog.info? 3).map (fun i => (i.zero, i.size, i.bytes)) = some (some (.int .i64 0), 1, 8) := by kernel_rfl

/-- a fresh row of ints -/
abbrev OwnI (w : World) (base : Nat) (v : Value) (xs : List Int) : Prop := w.ownsRow base 3 1 v xs.length (iv xs)
/-- 'returns this slice of ints, in new memory' -/
def RetI (w : World) (xs : List Int) (e : Ending) (w' : World) : Prop :=
  ∃ A c, e = .returned (.slice A xs.length c) ∧ OwnI w' w.heap.size (.slice A xs.length c) xs ∧ Below w.heap.size w w'

def withinB (n lo hi : Int) : Bool := decide (lo ≤ n) && decide (n ≤ hi)
theorem within_base (n lo hi : Int) (w : World) : Calls Try.prog 29 #[.int .i64 n, .int .i64 lo, .int .i64 hi] w fun x w' => x = .returned (.bool (withinB n lo hi)) ∧ w = w' := by
  unfold withinB
  by_cases h : lo ≤ n
  · go_enter Try.func29, Try.ntmps29; go_wp2; go_ret; exact ⟨by simp [h], rfl⟩
  · go_enter Try.func29, Try.ntmps29; go_wp2; go_ret; exact ⟨by rw [decide_eq_false (by omega : ¬ lo ≤ n)]; rfl, rfl⟩
end Go.Proofs.Ytfolipkbcibgdaa
