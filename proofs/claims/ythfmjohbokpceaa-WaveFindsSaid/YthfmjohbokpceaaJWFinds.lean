import Derived.Test.YthfmjohbokpceaaWOpens
namespace Go.Proofs.Ythfmjohbokpceaa
open Go.ChangeShapes Go.WideShapes Go.ChangeAt Go.RowKit
set_option maxRecDepth 100000 in
theorem waveFinds_joined : joinedFacts Try.pinned.checked.prog 15 Try.f15 Rows.waveFindsSpec Rows.waveFindsRow = true := by kernel_rfl
end Go.Proofs.Ythfmjohbokpceaa
