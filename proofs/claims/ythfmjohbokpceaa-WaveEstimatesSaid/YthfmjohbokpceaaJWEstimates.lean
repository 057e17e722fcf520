import Derived.Test.YthfmjohbokpceaaWOpens
namespace Go.Proofs.Ythfmjohbokpceaa
open Go.ChangeShapes Go.WideShapes Go.ChangeAt Go.RowKit
set_option maxRecDepth 100000 in
theorem waveEstimates_joined : joinedFacts Try.pinned.checked.prog 17 Try.f17 Rows.waveEstimatesSpec Rows.waveEstimatesRow = true := by kernel_rfl
end Go.Proofs.Ythfmjohbokpceaa
