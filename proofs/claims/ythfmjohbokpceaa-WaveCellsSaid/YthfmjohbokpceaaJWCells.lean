import Derived.Test.YthfmjohbokpceaaWOpens
namespace Go.Proofs.Ythfmjohbokpceaa
open Go.ChangeShapes Go.WideShapes Go.ChangeAt Go.RowKit
set_option maxRecDepth 100000 in
theorem waveCells_joined : joinedFacts Try.pinned.checked.prog 14 Try.f14 Rows.waveCellsSpec Rows.waveCellsRow = true := by kernel_rfl
end Go.Proofs.Ythfmjohbokpceaa
