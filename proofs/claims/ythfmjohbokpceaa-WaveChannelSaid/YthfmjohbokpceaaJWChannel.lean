import Derived.Test.YthfmjohbokpceaaWOpens
namespace Go.Proofs.Ythfmjohbokpceaa
open Go.ChangeShapes Go.WideShapes Go.ChangeAt Go.RowKit
set_option maxRecDepth 100000 in
theorem waveChannel_joined : joinedFacts Try.pinned.checked.prog 19 Try.f19 Rows.waveChannelSpec Rows.waveChannelRow = true := by kernel_rfl
end Go.Proofs.Ythfmjohbokpceaa
