import Derived.Test.YthfmjohbokpceaaWOpens
namespace Go.Proofs.Ythfmjohbokpceaa
open Go.ChangeShapes Go.WideShapes Go.ChangeAt Go.RowKit
set_option maxRecDepth 100000 in
theorem wavePaths_joined : joinedFacts Try.pinned.checked.prog 10 Try.f10 Rows.wavePathsSpec Rows.wavePathsRow = true := by kernel_rfl
end Go.Proofs.Ythfmjohbokpceaa
