import Derived.Test.YtehcmhblppjalaaWOpens
namespace Go.Proofs.Ytehcmhblppjalaa
open Go.ChangeShapes Go.WideShapes Go.ChangeAt Go.RowKit
set_option maxRecDepth 100000 in
theorem topSymbolScrambled_joined : joinedFacts Try.pinned.checked.prog 3 Try.f3 Rows.topSymbolScrambledSpec Rows.topSymbolScrambledRow = true := by kernel_rfl
end Go.Proofs.Ytehcmhblppjalaa
