import Derived.Test.YthfmjohbokpceaaWOpens
namespace Go.Proofs.Ythfmjohbokpceaa
open Go.ChangeShapes Go.WideShapes Go.ChangeAt Go.RowKit
set_option maxRecDepth 100000 in
theorem waveBetween_joined : joinedFacts Try.pinned.checked.prog 12 Try.f12 Rows.waveBetweenSpec Rows.waveBetweenRow = true := by kernel_rfl
end Go.Proofs.Ythfmjohbokpceaa
