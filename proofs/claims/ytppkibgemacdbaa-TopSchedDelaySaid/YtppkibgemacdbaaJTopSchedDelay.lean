import Derived.Test.YtppkibgemacdbaaWOpens
namespace Go.Proofs.Ytppkibgemacdbaa
open Go.ChangeShapes Go.WideShapes Go.ChangeAt Go.RowKit
set_option maxRecDepth 100000 in
theorem topSchedDelay_joined : joinedFacts Try.pinned.checked.prog 4 Try.f4 Rows.topSchedDelaySpec Rows.topSchedDelayRow = true := by kernel_rfl
end Go.Proofs.Ytppkibgemacdbaa
