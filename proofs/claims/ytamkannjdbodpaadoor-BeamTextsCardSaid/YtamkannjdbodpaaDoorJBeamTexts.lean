import Derived.Test.YtamkannjdbodpaaDoorOpenD
namespace Go.Proofs.YtamkannjdbodpaaDoor
open Go.ChangeShapes Go.WideShapes Go.ChangeAt Go.RowKit
set_option maxRecDepth 100000 in
theorem beamTexts_joined : joinedFacts Tryd.pinned.checked.prog 3 Tryd.f3 Rows.beamTextsSpec Rows.beamTextsRow = true := by kernel_rfl
end Go.Proofs.YtamkannjdbodpaaDoor
