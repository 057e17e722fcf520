import Derived.Test.YthfmjohbokpceaaWOpens
namespace Go.Proofs.Ythfmjohbokpceaa
open Go.ChangeShapes Go.WideShapes Go.ChangeAt Go.RowKit
set_option maxRecDepth 100000 in
theorem waveStreams_joined : joinedFacts Try.pinned.checked.prog 13 Try.f13 Rows.waveStreamsSpec Rows.waveStreamsRow = true := by kernel_rfl
end Go.Proofs.Ythfmjohbokpceaa
