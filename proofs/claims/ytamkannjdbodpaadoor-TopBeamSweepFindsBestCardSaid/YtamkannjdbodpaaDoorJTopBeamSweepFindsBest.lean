import Derived.Test.YtamkannjdbodpaaDoorOpenD
namespace Go.Proofs.YtamkannjdbodpaaDoor
open Go.ChangeShapes Go.WideShapes Go.ChangeAt Go.RowKit
set_option maxRecDepth 100000 in
theorem topBeamSweepFindsBest_joined : joinedFacts Tryd.pinned.checked.prog 4 Tryd.f4 Rows.topBeamSweepFindsBestSpec Rows.topBeamSweepFindsBestRow = true := by kernel_rfl
end Go.Proofs.YtamkannjdbodpaaDoor
