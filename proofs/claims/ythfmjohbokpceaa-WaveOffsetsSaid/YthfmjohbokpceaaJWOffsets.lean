import Derived.Test.YthfmjohbokpceaaWOpens
namespace Go.Proofs.Ythfmjohbokpceaa
open Go.ChangeShapes Go.WideShapes Go.ChangeAt Go.RowKit
set_option maxRecDepth 100000 in
theorem waveOffsets_joined : joinedFacts Try.pinned.checked.prog 8 Try.f8 Rows.waveOffsetsSpec Rows.waveOffsetsRow = true := by kernel_rfl
end Go.Proofs.Ythfmjohbokpceaa
