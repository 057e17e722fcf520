import Derived.Test.YthfmjohbokpceaaWOpens
namespace Go.Proofs.Ythfmjohbokpceaa
open Go.ChangeShapes Go.WideShapes Go.ChangeAt Go.RowKit
set_option maxRecDepth 100000 in
theorem waveClips_joined : joinedFacts Try.pinned.checked.prog 9 Try.f9 Rows.waveClipsSpec Rows.waveClipsRow = true := by kernel_rfl
end Go.Proofs.Ythfmjohbokpceaa
