import Derived.Test.YtamkannjdbodpaaDoorGainLaw
import Derived.Test.YtamkannjdbodpaaDoorLawA
namespace Go.Proofs.YtamkannjdbodpaaDoor
open Go.RowKit Go.WideShapes Go.ChangeShapes

/-! the reference's response -/
def Q4.rot (x : Q4) : Q4 := ⟨-x.d, x.a, x.b, x.c⟩
def Q4.rotN (x : Q4) : Nat → Q4
  | 0 => x
  | n + 1 => (x.rotN n).rot
def Q4.plus (x y : Q4) : Q4 := ⟨x.a + y.a, x.b + y.b, x.c + y.c, x.d + y.d⟩
theorem Q4.rot_le {x : Q4} {m : Int} (h : x.le m) : x.rot.le m := by unfold Q4.le Q4.rot at *; dsimp only; omega
theorem Q4.rotN_le {x : Q4} {m : Int} (h : x.le m) : ∀ n, (x.rotN n).le m
  | 0 => h
  | n + 1 => Q4.rot_le (Q4.rotN_le h n)

end Go.Proofs.YtamkannjdbodpaaDoor
