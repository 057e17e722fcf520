import Derived.Test.YtppkibgemacdbaaMgd
namespace Go.Proofs.Ytppkibgemacdbaa
open Go

/-! the operations of a function's region -/
def opsIn : Code → Nat → Option (Array Oper)
  | .region id ops _, k => if id = k then some ops else none
  | .seq a b, k => match opsIn a k with | some x => some x | none => opsIn b k
  | .loop a, k => opsIn a k
  | .block _ a, k => opsIn a k
  | .cond _ a b, k => match opsIn a k with | some x => some x | none => opsIn b k
  | _, _ => none
def regOps (f : Func) (k : Nat) : Array Oper := match f.body with
  | some c => (opsIn c k).getD #[]
  | none => #[]
end Go.Proofs.Ytppkibgemacdbaa
