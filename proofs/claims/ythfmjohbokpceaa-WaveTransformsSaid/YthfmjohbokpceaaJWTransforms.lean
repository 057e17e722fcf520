import Derived.Test.YthfmjohbokpceaaWOpens
namespace Go.Proofs.Ythfmjohbokpceaa
open Go.ChangeShapes Go.WideShapes Go.ChangeAt Go.RowKit
set_option maxRecDepth 100000 in
theorem waveTransforms_joined : joinedFacts Try.pinned.checked.prog 16 Try.f16 Rows.waveTransformsSpec Rows.waveTransformsRow = true := by kernel_rfl
end Go.Proofs.Ythfmjohbokpceaa
