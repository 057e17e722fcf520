import Derived.Test.YtppkibgemacdbaaWOpens
namespace Go.Proofs.Ytppkibgemacdbaa
open Go.ChangeShapes Go.WideShapes Go.ChangeAt Go.RowKit
set_option maxRecDepth 100000 in
theorem topSchedAdmitted_joined : joinedFacts Try.pinned.checked.prog 3 Try.f3 Rows.topSchedAdmittedSpec Rows.topSchedAdmittedRow = true := by kernel_rfl
end Go.Proofs.Ytppkibgemacdbaa
