import Derived.Test.YtfolipkbcibgdaaWOpens
namespace Go.Proofs.Ytfolipkbcibgdaa
open Go.ChangeShapes Go.WideShapes Go.ChangeAt Go.RowKit
set_option maxRecDepth 100000 in
theorem topGridPacked_joined : joinedFacts Try.pinned.checked.prog 3 Try.f3 Rows.topGridPackedSpec Rows.topGridPackedRow = true := by kernel_rfl
end Go.Proofs.Ytfolipkbcibgdaa
