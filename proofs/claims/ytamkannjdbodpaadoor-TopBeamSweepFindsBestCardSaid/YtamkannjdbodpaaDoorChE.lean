import Derived.Test.YtamkannjdbodpaaDoorChD
namespace Go.Proofs.YtamkannjdbodpaaDoor
open Go.RowKit Go.WideShapes Go.ChangeShapes

def lenE (g h : List (Int × Int)) : Int := unlessE (decide (g.length = h.length)) 13
def bothE (g h : List (Int × Int)) : Int := firstOf [chE g, chE h, lenE g h]
def twoE (g h : List (Int × Int)) : Int := firstOf [chE g, chE h, lenE g h, unlessE (g.any someG && h.any someG) 11]
theorem lenEq (a b : Nat) : ((a : Int) == (b : Int)) = decide (a = b) := by
  by_cases h : a = b
  · subst h; simp
  · simp [h]; omega

end Go.Proofs.YtamkannjdbodpaaDoor
