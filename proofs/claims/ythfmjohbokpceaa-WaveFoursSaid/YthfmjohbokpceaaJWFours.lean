import Derived.Test.YthfmjohbokpceaaWOpens
namespace Go.Proofs.Ythfmjohbokpceaa
open Go.ChangeShapes Go.WideShapes Go.ChangeAt Go.RowKit
set_option maxRecDepth 100000 in
theorem waveFours_joined : joinedFacts Try.pinned.checked.prog 11 Try.f11 Rows.waveFoursSpec Rows.waveFoursRow = true := by kernel_rfl
end Go.Proofs.Ythfmjohbokpceaa
