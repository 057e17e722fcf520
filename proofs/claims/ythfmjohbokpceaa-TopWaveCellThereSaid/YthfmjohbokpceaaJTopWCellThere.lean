import Derived.Test.YthfmjohbokpceaaWOpens
namespace Go.Proofs.Ythfmjohbokpceaa
open Go.ChangeShapes Go.WideShapes Go.ChangeAt Go.RowKit
set_option maxRecDepth 100000 in
theorem topWaveCellThere_joined : joinedFacts Try.pinned.checked.prog 4 Try.f4 Rows.topWaveCellThereSpec Rows.topWaveCellThereRow = true := by kernel_rfl
end Go.Proofs.Ythfmjohbokpceaa
