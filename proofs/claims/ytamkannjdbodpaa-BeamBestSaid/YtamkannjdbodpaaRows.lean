/-
  No cell of these rows narrows 'for every input' (looked for: loops, veiled, ifaces, maps, wideKeys, modest, calm, conditions, laid).
  DERIVED. THE GIVEN ROWS OF THIS SEAT. 15 by the template 'for every input the law returns true; each argument reads behind the call as it read before'; 0 by the template 'total and deterministic' (their statements: YtamkannjdbodpaaTotals.lean).
  GIVEN WITH THE SEED: the statements are not yours to turn. If you find one false, say at which input.
  Laid BY PROGRAM, IN A SANDBOX (cutbox-rows.mjs): the forced cells as the released guide's own fill.sh prints them over the translation bdd6b75040fa5b03… (all of the seat's roots in one cut). By AI agents, Wed Nov 11 2026. No macro, syntax, notation, axiom, sorry.
-/
import Derived.Test.YtamkannjdbodpaaChecked
import GoSem.Claim
import GoSem.ClaimJoined
import GoSem.ClaimMapViews
import Derived.JoinedTies
import Derived.KernelRfl
namespace Go.Proofs.Ytamkannjdbodpaa
/- THE CELL 'sum', in the pinned program and in every row, IS THE sha256 OF THE DUMP (.gsa) THAT YtamkannjdbodpaaProg.lean LOADS. Nothing in Lean hashes anything: it is a label: what it is worth is what the hold of that sum in a sandbox is worth. -/
noncomputable def Try.pinned : Pinned := { name := "ytamkannjdbodpaa", sum := "bdd6b75040fa5b0341037aeb12ca3b913d3451855087ce6aab9df86d744929e8", checked := Try.checked }
namespace Rows
def none {H : Type} : Left H := { results := [], args := [] }

/-- 'downtiltlaw05.BeamBeams': WHATEVER THE INPUT: true; the input reads as it did. -/
def beamBeamsSpec : ChangeSpec := { name := "beamBeams", fn := fun _ => fun
  | [d1, d2, d3] => { results := [.lit (.bool true)], args := [d1, d2, d3] }
  | _ => none }
def beamBeamsRow : OpenClaim := { program := "ytamkannjdbodpaa", sum := "bdd6b75040fa5b0341037aeb12ca3b913d3451855087ce6aab9df86d744929e8", func := "downtilt/downtiltlaw05.BeamBeams", spec := "beamBeams", unfollowed := true, recurses := true, apart := false }
def BeamBeamsSaid : Prop := beamBeamsRow.holds Try.pinned (OpenSpec.ofChange beamBeamsSpec)

/-- ITS FALSE NEIGHBOUR: 'it returns false'. Refute it at one input. -/
def beamBeamsWrong : ChangeSpec := { name := "beamBeams", fn := fun _ => fun
  | [d1, d2, d3] => { results := [.lit (.bool false)], args := [d1, d2, d3] }
  | _ => none }
def BeamBeamsWrongFalsely : Prop := beamBeamsRow.holds Try.pinned (OpenSpec.ofChange beamBeamsWrong)

/-- 'downtiltlaw05.BeamNoMore': WHATEVER THE INPUT: true; the input reads as it did. -/
def beamNoMoreSpec : ChangeSpec := { name := "beamNoMore", fn := fun _ => fun
  | [d1, d2] => { results := [.lit (.bool true)], args := [d1, d2] }
  | _ => none }
def beamNoMoreRow : OpenClaim := { program := "ytamkannjdbodpaa", sum := "bdd6b75040fa5b0341037aeb12ca3b913d3451855087ce6aab9df86d744929e8", func := "downtilt/downtiltlaw05.BeamNoMore", spec := "beamNoMore", unfollowed := true, recurses := true, apart := false }
def BeamNoMoreSaid : Prop := beamNoMoreRow.holds Try.pinned (OpenSpec.ofChange beamNoMoreSpec)

/-- ITS FALSE NEIGHBOUR: 'it returns false'. Refute it at one input. -/
def beamNoMoreWrong : ChangeSpec := { name := "beamNoMore", fn := fun _ => fun
  | [d1, d2] => { results := [.lit (.bool false)], args := [d1, d2] }
  | _ => none }
def BeamNoMoreWrongFalsely : Prop := beamNoMoreRow.holds Try.pinned (OpenSpec.ofChange beamNoMoreWrong)

/-- 'downtiltlaw05.BeamLarger': WHATEVER THE INPUT: true; the input reads as it did. -/
def beamLargerSpec : ChangeSpec := { name := "beamLarger", fn := fun _ => fun
  | [d1, d2] => { results := [.lit (.bool true)], args := [d1, d2] }
  | _ => none }
def beamLargerRow : OpenClaim := { program := "ytamkannjdbodpaa", sum := "bdd6b75040fa5b0341037aeb12ca3b913d3451855087ce6aab9df86d744929e8", func := "downtilt/downtiltlaw05.BeamLarger", spec := "beamLarger", unfollowed := true, recurses := true, apart := false }
def BeamLargerSaid : Prop := beamLargerRow.holds Try.pinned (OpenSpec.ofChange beamLargerSpec)

/-- ITS FALSE NEIGHBOUR: 'it returns false'. Refute it at one input. -/
def beamLargerWrong : ChangeSpec := { name := "beamLarger", fn := fun _ => fun
  | [d1, d2] => { results := [.lit (.bool false)], args := [d1, d2] }
  | _ => none }
def BeamLargerWrongFalsely : Prop := beamLargerRow.holds Try.pinned (OpenSpec.ofChange beamLargerWrong)

/-- 'downtiltlaw05.BeamRefines': WHATEVER THE INPUT: true; the input reads as it did. -/
def beamRefinesSpec : ChangeSpec := { name := "beamRefines", fn := fun _ => fun
  | [d] => { results := [.lit (.bool true)], args := [d] }
  | _ => none }
def beamRefinesRow : OpenClaim := { program := "ytamkannjdbodpaa", sum := "bdd6b75040fa5b0341037aeb12ca3b913d3451855087ce6aab9df86d744929e8", func := "downtilt/downtiltlaw05.BeamRefines", spec := "beamRefines", unfollowed := true, recurses := true, apart := false }
def BeamRefinesSaid : Prop := beamRefinesRow.holds Try.pinned (OpenSpec.ofChange beamRefinesSpec)

/-- ITS FALSE NEIGHBOUR: 'it returns false'. Refute it at one input. -/
def beamRefinesWrong : ChangeSpec := { name := "beamRefines", fn := fun _ => fun
  | [d] => { results := [.lit (.bool false)], args := [d] }
  | _ => none }
def BeamRefinesWrongFalsely : Prop := beamRefinesRow.holds Try.pinned (OpenSpec.ofChange beamRefinesWrong)

/-- 'downtiltlaw05.BeamTilts': WHATEVER THE INPUT: true; the input reads as it did. -/
def beamTiltsSpec : ChangeSpec := { name := "beamTilts", fn := fun _ => fun
  | [d1, d2] => { results := [.lit (.bool true)], args := [d1, d2] }
  | _ => none }
def beamTiltsRow : OpenClaim := { program := "ytamkannjdbodpaa", sum := "bdd6b75040fa5b0341037aeb12ca3b913d3451855087ce6aab9df86d744929e8", func := "downtilt/downtiltlaw05.BeamTilts", spec := "beamTilts", unfollowed := true, recurses := true, apart := false }
def BeamTiltsSaid : Prop := beamTiltsRow.holds Try.pinned (OpenSpec.ofChange beamTiltsSpec)

/-- ITS FALSE NEIGHBOUR: 'it returns false'. Refute it at one input. -/
def beamTiltsWrong : ChangeSpec := { name := "beamTilts", fn := fun _ => fun
  | [d1, d2] => { results := [.lit (.bool false)], args := [d1, d2] }
  | _ => none }
def BeamTiltsWrongFalsely : Prop := beamTiltsRow.holds Try.pinned (OpenSpec.ofChange beamTiltsWrong)

/-- 'downtiltlaw05.BeamSplits': WHATEVER THE INPUT: true; the input reads as it did. -/
def beamSplitsSpec : ChangeSpec := { name := "beamSplits", fn := fun _ => fun
  | [d1, d2] => { results := [.lit (.bool true)], args := [d1, d2] }
  | _ => none }
def beamSplitsRow : OpenClaim := { program := "ytamkannjdbodpaa", sum := "bdd6b75040fa5b0341037aeb12ca3b913d3451855087ce6aab9df86d744929e8", func := "downtilt/downtiltlaw05.BeamSplits", spec := "beamSplits", unfollowed := true, recurses := true, apart := false }
def BeamSplitsSaid : Prop := beamSplitsRow.holds Try.pinned (OpenSpec.ofChange beamSplitsSpec)

/-- ITS FALSE NEIGHBOUR: 'it returns false'. Refute it at one input. -/
def beamSplitsWrong : ChangeSpec := { name := "beamSplits", fn := fun _ => fun
  | [d1, d2] => { results := [.lit (.bool false)], args := [d1, d2] }
  | _ => none }
def BeamSplitsWrongFalsely : Prop := beamSplitsRow.holds Try.pinned (OpenSpec.ofChange beamSplitsWrong)

/-- 'downtiltlaw05.BeamFair': WHATEVER THE INPUT: true; the input reads as it did. -/
def beamFairSpec : ChangeSpec := { name := "beamFair", fn := fun _ => fun
  | [d1, d2] => { results := [.lit (.bool true)], args := [d1, d2] }
  | _ => none }
def beamFairRow : OpenClaim := { program := "ytamkannjdbodpaa", sum := "bdd6b75040fa5b0341037aeb12ca3b913d3451855087ce6aab9df86d744929e8", func := "downtilt/downtiltlaw05.BeamFair", spec := "beamFair", unfollowed := true, recurses := true, apart := false }
def BeamFairSaid : Prop := beamFairRow.holds Try.pinned (OpenSpec.ofChange beamFairSpec)

/-- ITS FALSE NEIGHBOUR: 'it returns false'. Refute it at one input. -/
def beamFairWrong : ChangeSpec := { name := "beamFair", fn := fun _ => fun
  | [d1, d2] => { results := [.lit (.bool false)], args := [d1, d2] }
  | _ => none }
def BeamFairWrongFalsely : Prop := beamFairRow.holds Try.pinned (OpenSpec.ofChange beamFairWrong)

/-- 'downtiltlaw05.BeamGains': WHATEVER THE INPUT: true; the input reads as it did. -/
def beamGainsSpec : ChangeSpec := { name := "beamGains", fn := fun _ => fun
  | [d1, d2] => { results := [.lit (.bool true)], args := [d1, d2] }
  | _ => none }
def beamGainsRow : OpenClaim := { program := "ytamkannjdbodpaa", sum := "bdd6b75040fa5b0341037aeb12ca3b913d3451855087ce6aab9df86d744929e8", func := "downtilt/downtiltlaw05.BeamGains", spec := "beamGains", unfollowed := true, recurses := true, apart := false }
def BeamGainsSaid : Prop := beamGainsRow.holds Try.pinned (OpenSpec.ofChange beamGainsSpec)

/-- ITS FALSE NEIGHBOUR: 'it returns false'. Refute it at one input. -/
def beamGainsWrong : ChangeSpec := { name := "beamGains", fn := fun _ => fun
  | [d1, d2] => { results := [.lit (.bool false)], args := [d1, d2] }
  | _ => none }
def BeamGainsWrongFalsely : Prop := beamGainsRow.holds Try.pinned (OpenSpec.ofChange beamGainsWrong)

/-- 'downtiltlaw05.BeamApart': WHATEVER THE INPUT: true; the input reads as it did. -/
def beamApartSpec : ChangeSpec := { name := "beamApart", fn := fun _ => fun
  | [d1, d2] => { results := [.lit (.bool true)], args := [d1, d2] }
  | _ => none }
def beamApartRow : OpenClaim := { program := "ytamkannjdbodpaa", sum := "bdd6b75040fa5b0341037aeb12ca3b913d3451855087ce6aab9df86d744929e8", func := "downtilt/downtiltlaw05.BeamApart", spec := "beamApart", unfollowed := true, recurses := true, apart := false }
def BeamApartSaid : Prop := beamApartRow.holds Try.pinned (OpenSpec.ofChange beamApartSpec)

/-- ITS FALSE NEIGHBOUR: 'it returns false'. Refute it at one input. -/
def beamApartWrong : ChangeSpec := { name := "beamApart", fn := fun _ => fun
  | [d1, d2] => { results := [.lit (.bool false)], args := [d1, d2] }
  | _ => none }
def BeamApartWrongFalsely : Prop := beamApartRow.holds Try.pinned (OpenSpec.ofChange beamApartWrong)

/-- 'downtiltlaw05.BeamChannels': WHATEVER THE INPUT: true; the input reads as it did. -/
def beamChannelsSpec : ChangeSpec := { name := "beamChannels", fn := fun _ => fun
  | [d1, d2] => { results := [.lit (.bool true)], args := [d1, d2] }
  | _ => none }
def beamChannelsRow : OpenClaim := { program := "ytamkannjdbodpaa", sum := "bdd6b75040fa5b0341037aeb12ca3b913d3451855087ce6aab9df86d744929e8", func := "downtilt/downtiltlaw05.BeamChannels", spec := "beamChannels", unfollowed := true, recurses := true, apart := false }
def BeamChannelsSaid : Prop := beamChannelsRow.holds Try.pinned (OpenSpec.ofChange beamChannelsSpec)

/-- ITS FALSE NEIGHBOUR: 'it returns false'. Refute it at one input. -/
def beamChannelsWrong : ChangeSpec := { name := "beamChannels", fn := fun _ => fun
  | [d1, d2] => { results := [.lit (.bool false)], args := [d1, d2] }
  | _ => none }
def BeamChannelsWrongFalsely : Prop := beamChannelsRow.holds Try.pinned (OpenSpec.ofChange beamChannelsWrong)

/-- 'downtiltlaw05.BeamNoMorePairs': WHATEVER THE INPUT: true; the input reads as it did. -/
def beamNoMorePairsSpec : ChangeSpec := { name := "beamNoMorePairs", fn := fun _ => fun
  | [d1, d2, d3] => { results := [.lit (.bool true)], args := [d1, d2, d3] }
  | _ => none }
def beamNoMorePairsRow : OpenClaim := { program := "ytamkannjdbodpaa", sum := "bdd6b75040fa5b0341037aeb12ca3b913d3451855087ce6aab9df86d744929e8", func := "downtilt/downtiltlaw05.BeamNoMorePairs", spec := "beamNoMorePairs", unfollowed := true, recurses := true, apart := false }
def BeamNoMorePairsSaid : Prop := beamNoMorePairsRow.holds Try.pinned (OpenSpec.ofChange beamNoMorePairsSpec)

/-- ITS FALSE NEIGHBOUR: 'it returns false'. Refute it at one input. -/
def beamNoMorePairsWrong : ChangeSpec := { name := "beamNoMorePairs", fn := fun _ => fun
  | [d1, d2, d3] => { results := [.lit (.bool false)], args := [d1, d2, d3] }
  | _ => none }
def BeamNoMorePairsWrongFalsely : Prop := beamNoMorePairsRow.holds Try.pinned (OpenSpec.ofChange beamNoMorePairsWrong)

/-- 'downtiltlaw05.BeamPairs': WHATEVER THE INPUT: true; the input reads as it did. -/
def beamPairsSpec : ChangeSpec := { name := "beamPairs", fn := fun _ => fun
  | [d1, d2, d3] => { results := [.lit (.bool true)], args := [d1, d2, d3] }
  | _ => none }
def beamPairsRow : OpenClaim := { program := "ytamkannjdbodpaa", sum := "bdd6b75040fa5b0341037aeb12ca3b913d3451855087ce6aab9df86d744929e8", func := "downtilt/downtiltlaw05.BeamPairs", spec := "beamPairs", unfollowed := true, recurses := true, apart := false }
def BeamPairsSaid : Prop := beamPairsRow.holds Try.pinned (OpenSpec.ofChange beamPairsSpec)

/-- ITS FALSE NEIGHBOUR: 'it returns false'. Refute it at one input. -/
def beamPairsWrong : ChangeSpec := { name := "beamPairs", fn := fun _ => fun
  | [d1, d2, d3] => { results := [.lit (.bool false)], args := [d1, d2, d3] }
  | _ => none }
def BeamPairsWrongFalsely : Prop := beamPairsRow.holds Try.pinned (OpenSpec.ofChange beamPairsWrong)

/-- 'downtiltlaw05.BeamSweeps': WHATEVER THE INPUT: true; the input reads as it did. -/
def beamSweepsSpec : ChangeSpec := { name := "beamSweeps", fn := fun _ => fun
  | [d1, d2] => { results := [.lit (.bool true)], args := [d1, d2] }
  | _ => none }
def beamSweepsRow : OpenClaim := { program := "ytamkannjdbodpaa", sum := "bdd6b75040fa5b0341037aeb12ca3b913d3451855087ce6aab9df86d744929e8", func := "downtilt/downtiltlaw05.BeamSweeps", spec := "beamSweeps", unfollowed := true, recurses := true, apart := false }
def BeamSweepsSaid : Prop := beamSweepsRow.holds Try.pinned (OpenSpec.ofChange beamSweepsSpec)

/-- ITS FALSE NEIGHBOUR: 'it returns false'. Refute it at one input. -/
def beamSweepsWrong : ChangeSpec := { name := "beamSweeps", fn := fun _ => fun
  | [d1, d2] => { results := [.lit (.bool false)], args := [d1, d2] }
  | _ => none }
def BeamSweepsWrongFalsely : Prop := beamSweepsRow.holds Try.pinned (OpenSpec.ofChange beamSweepsWrong)

/-- 'downtiltlaw05.BeamBest': WHATEVER THE INPUT: true; the input reads as it did. -/
def beamBestSpec : ChangeSpec := { name := "beamBest", fn := fun _ => fun
  | [d1, d2] => { results := [.lit (.bool true)], args := [d1, d2] }
  | _ => none }
def beamBestRow : OpenClaim := { program := "ytamkannjdbodpaa", sum := "bdd6b75040fa5b0341037aeb12ca3b913d3451855087ce6aab9df86d744929e8", func := "downtilt/downtiltlaw05.BeamBest", spec := "beamBest", unfollowed := true, recurses := true, apart := false }
def BeamBestSaid : Prop := beamBestRow.holds Try.pinned (OpenSpec.ofChange beamBestSpec)

/-- ITS FALSE NEIGHBOUR: 'it returns false'. Refute it at one input. -/
def beamBestWrong : ChangeSpec := { name := "beamBest", fn := fun _ => fun
  | [d1, d2] => { results := [.lit (.bool false)], args := [d1, d2] }
  | _ => none }
def BeamBestWrongFalsely : Prop := beamBestRow.holds Try.pinned (OpenSpec.ofChange beamBestWrong)

/-- 'downtilttop.TopBeamShared': WHATEVER THE INPUT: true; the input reads as it did. -/
def topBeamSharedSpec : ChangeSpec := { name := "topBeamShared", fn := fun _ => fun
  | [d1, d2, d3] => { results := [.lit (.bool true)], args := [d1, d2, d3] }
  | _ => none }
def topBeamSharedRow : OpenClaim := { program := "ytamkannjdbodpaa", sum := "bdd6b75040fa5b0341037aeb12ca3b913d3451855087ce6aab9df86d744929e8", func := "downtilt/downtilttop.TopBeamShared", spec := "topBeamShared", unfollowed := true, recurses := true, apart := false }
def TopBeamSharedSaid : Prop := topBeamSharedRow.holds Try.pinned (OpenSpec.ofChange topBeamSharedSpec)

/-- ITS FALSE NEIGHBOUR: 'it returns false'. Refute it at one input. -/
def topBeamSharedWrong : ChangeSpec := { name := "topBeamShared", fn := fun _ => fun
  | [d1, d2, d3] => { results := [.lit (.bool false)], args := [d1, d2, d3] }
  | _ => none }
def TopBeamSharedWrongFalsely : Prop := topBeamSharedRow.holds Try.pinned (OpenSpec.ofChange topBeamSharedWrong)

/- THE SECOND FORM. 'bulk': how many values and letters a reading holds, each counted each time it is reached (what is shared counts as often as it is met; a slice's spare places count too). A statement '..UptoSaid' is the law's where the arguments, and the package variables that the reading takes, are together of bulk at most 1048576: NARROWER than '..Said'. Prove '..Said' where nothing that the law and all that it calls make is longer than what came in: it says more and counts as full. Else prove '..UptoSaid'. A law counts once. -/
mutual
def uptoBulk {H : Type} : DataW H → Nat
  | .lit (.string bytes) => bytes.length + 1
  | .lit _ => 1
  | .nil => 1
  | .ptr d => uptoBulk d + 1
  | .slice elems spare => uptoBulkAll elems + uptoBulkAll spare + 1
  | .agg parts => uptoBulkAll parts + 1
  | .iface _ d => uptoBulk d + 1
  | .map entries => uptoBulkEntries entries + 1
  | .held _ => 1
def uptoBulkAll {H : Type} : List (DataW H) → Nat
  | [] => 0
  | d :: r => uptoBulk d + uptoBulkAll r
def uptoBulkEntries {H : Type} : List (Lit × DataW H) → Nat
  | [] => 0
  | x :: r => uptoBulkEntry x + uptoBulkEntries r
def uptoBulkEntry {H : Type} : Lit × DataW H → Nat
  | (.string bytes, d) => bytes.length + uptoBulk d + 1
  | (_, d) => uptoBulk d + 1
 end
def uptoSmall : (H : Type) → List (DataW H) → Bool := fun _ ds => decide (uptoBulkAll ds ≤ 1048576)
def OpenSpec.upto (s : _root_.Go.ChangeSpec) : _root_.Go.OpenSpec := { _root_.Go.OpenSpec.ofChange s with cond := some uptoSmall }

/-- 'downtiltlaw05.BeamBeams', WHERE WHAT IT READS IS OF BULK AT MOST 1048576: true; the input reads as it did. -/
def beamBeamsUptoRow : OpenClaim := { program := "ytamkannjdbodpaa", sum := "bdd6b75040fa5b0341037aeb12ca3b913d3451855087ce6aab9df86d744929e8", func := "downtilt/downtiltlaw05.BeamBeams", spec := "beamBeams", unfollowed := true, recurses := true, apart := false, narrowed := true }
def BeamBeamsUptoSaid : Prop := beamBeamsUptoRow.holds Try.pinned (OpenSpec.upto beamBeamsSpec)

/-- 'downtiltlaw05.BeamNoMore', WHERE WHAT IT READS IS OF BULK AT MOST 1048576: true; the input reads as it did. -/
def beamNoMoreUptoRow : OpenClaim := { program := "ytamkannjdbodpaa", sum := "bdd6b75040fa5b0341037aeb12ca3b913d3451855087ce6aab9df86d744929e8", func := "downtilt/downtiltlaw05.BeamNoMore", spec := "beamNoMore", unfollowed := true, recurses := true, apart := false, narrowed := true }
def BeamNoMoreUptoSaid : Prop := beamNoMoreUptoRow.holds Try.pinned (OpenSpec.upto beamNoMoreSpec)

/-- 'downtiltlaw05.BeamLarger', WHERE WHAT IT READS IS OF BULK AT MOST 1048576: true; the input reads as it did. -/
def beamLargerUptoRow : OpenClaim := { program := "ytamkannjdbodpaa", sum := "bdd6b75040fa5b0341037aeb12ca3b913d3451855087ce6aab9df86d744929e8", func := "downtilt/downtiltlaw05.BeamLarger", spec := "beamLarger", unfollowed := true, recurses := true, apart := false, narrowed := true }
def BeamLargerUptoSaid : Prop := beamLargerUptoRow.holds Try.pinned (OpenSpec.upto beamLargerSpec)

/-- 'downtiltlaw05.BeamRefines', WHERE WHAT IT READS IS OF BULK AT MOST 1048576: true; the input reads as it did. -/
def beamRefinesUptoRow : OpenClaim := { program := "ytamkannjdbodpaa", sum := "bdd6b75040fa5b0341037aeb12ca3b913d3451855087ce6aab9df86d744929e8", func := "downtilt/downtiltlaw05.BeamRefines", spec := "beamRefines", unfollowed := true, recurses := true, apart := false, narrowed := true }
def BeamRefinesUptoSaid : Prop := beamRefinesUptoRow.holds Try.pinned (OpenSpec.upto beamRefinesSpec)

/-- 'downtiltlaw05.BeamTilts', WHERE WHAT IT READS IS OF BULK AT MOST 1048576: true; the input reads as it did. -/
def beamTiltsUptoRow : OpenClaim := { program := "ytamkannjdbodpaa", sum := "bdd6b75040fa5b0341037aeb12ca3b913d3451855087ce6aab9df86d744929e8", func := "downtilt/downtiltlaw05.BeamTilts", spec := "beamTilts", unfollowed := true, recurses := true, apart := false, narrowed := true }
def BeamTiltsUptoSaid : Prop := beamTiltsUptoRow.holds Try.pinned (OpenSpec.upto beamTiltsSpec)

/-- 'downtiltlaw05.BeamSplits', WHERE WHAT IT READS IS OF BULK AT MOST 1048576: true; the input reads as it did. -/
def beamSplitsUptoRow : OpenClaim := { program := "ytamkannjdbodpaa", sum := "bdd6b75040fa5b0341037aeb12ca3b913d3451855087ce6aab9df86d744929e8", func := "downtilt/downtiltlaw05.BeamSplits", spec := "beamSplits", unfollowed := true, recurses := true, apart := false, narrowed := true }
def BeamSplitsUptoSaid : Prop := beamSplitsUptoRow.holds Try.pinned (OpenSpec.upto beamSplitsSpec)

/-- 'downtiltlaw05.BeamFair', WHERE WHAT IT READS IS OF BULK AT MOST 1048576: true; the input reads as it did. -/
def beamFairUptoRow : OpenClaim := { program := "ytamkannjdbodpaa", sum := "bdd6b75040fa5b0341037aeb12ca3b913d3451855087ce6aab9df86d744929e8", func := "downtilt/downtiltlaw05.BeamFair", spec := "beamFair", unfollowed := true, recurses := true, apart := false, narrowed := true }
def BeamFairUptoSaid : Prop := beamFairUptoRow.holds Try.pinned (OpenSpec.upto beamFairSpec)

/-- 'downtiltlaw05.BeamGains', WHERE WHAT IT READS IS OF BULK AT MOST 1048576: true; the input reads as it did. -/
def beamGainsUptoRow : OpenClaim := { program := "ytamkannjdbodpaa", sum := "bdd6b75040fa5b0341037aeb12ca3b913d3451855087ce6aab9df86d744929e8", func := "downtilt/downtiltlaw05.BeamGains", spec := "beamGains", unfollowed := true, recurses := true, apart := false, narrowed := true }
def BeamGainsUptoSaid : Prop := beamGainsUptoRow.holds Try.pinned (OpenSpec.upto beamGainsSpec)

/-- 'downtiltlaw05.BeamApart', WHERE WHAT IT READS IS OF BULK AT MOST 1048576: true; the input reads as it did. -/
def beamApartUptoRow : OpenClaim := { program := "ytamkannjdbodpaa", sum := "bdd6b75040fa5b0341037aeb12ca3b913d3451855087ce6aab9df86d744929e8", func := "downtilt/downtiltlaw05.BeamApart", spec := "beamApart", unfollowed := true, recurses := true, apart := false, narrowed := true }
def BeamApartUptoSaid : Prop := beamApartUptoRow.holds Try.pinned (OpenSpec.upto beamApartSpec)

/-- 'downtiltlaw05.BeamChannels', WHERE WHAT IT READS IS OF BULK AT MOST 1048576: true; the input reads as it did. -/
def beamChannelsUptoRow : OpenClaim := { program := "ytamkannjdbodpaa", sum := "bdd6b75040fa5b0341037aeb12ca3b913d3451855087ce6aab9df86d744929e8", func := "downtilt/downtiltlaw05.BeamChannels", spec := "beamChannels", unfollowed := true, recurses := true, apart := false, narrowed := true }
def BeamChannelsUptoSaid : Prop := beamChannelsUptoRow.holds Try.pinned (OpenSpec.upto beamChannelsSpec)

/-- 'downtiltlaw05.BeamNoMorePairs', WHERE WHAT IT READS IS OF BULK AT MOST 1048576: true; the input reads as it did. -/
def beamNoMorePairsUptoRow : OpenClaim := { program := "ytamkannjdbodpaa", sum := "bdd6b75040fa5b0341037aeb12ca3b913d3451855087ce6aab9df86d744929e8", func := "downtilt/downtiltlaw05.BeamNoMorePairs", spec := "beamNoMorePairs", unfollowed := true, recurses := true, apart := false, narrowed := true }
def BeamNoMorePairsUptoSaid : Prop := beamNoMorePairsUptoRow.holds Try.pinned (OpenSpec.upto beamNoMorePairsSpec)

/-- 'downtiltlaw05.BeamPairs', WHERE WHAT IT READS IS OF BULK AT MOST 1048576: true; the input reads as it did. -/
def beamPairsUptoRow : OpenClaim := { program := "ytamkannjdbodpaa", sum := "bdd6b75040fa5b0341037aeb12ca3b913d3451855087ce6aab9df86d744929e8", func := "downtilt/downtiltlaw05.BeamPairs", spec := "beamPairs", unfollowed := true, recurses := true, apart := false, narrowed := true }
def BeamPairsUptoSaid : Prop := beamPairsUptoRow.holds Try.pinned (OpenSpec.upto beamPairsSpec)

/-- 'downtiltlaw05.BeamSweeps', WHERE WHAT IT READS IS OF BULK AT MOST 1048576: true; the input reads as it did. -/
def beamSweepsUptoRow : OpenClaim := { program := "ytamkannjdbodpaa", sum := "bdd6b75040fa5b0341037aeb12ca3b913d3451855087ce6aab9df86d744929e8", func := "downtilt/downtiltlaw05.BeamSweeps", spec := "beamSweeps", unfollowed := true, recurses := true, apart := false, narrowed := true }
def BeamSweepsUptoSaid : Prop := beamSweepsUptoRow.holds Try.pinned (OpenSpec.upto beamSweepsSpec)

/-- 'downtiltlaw05.BeamBest', WHERE WHAT IT READS IS OF BULK AT MOST 1048576: true; the input reads as it did. -/
def beamBestUptoRow : OpenClaim := { program := "ytamkannjdbodpaa", sum := "bdd6b75040fa5b0341037aeb12ca3b913d3451855087ce6aab9df86d744929e8", func := "downtilt/downtiltlaw05.BeamBest", spec := "beamBest", unfollowed := true, recurses := true, apart := false, narrowed := true }
def BeamBestUptoSaid : Prop := beamBestUptoRow.holds Try.pinned (OpenSpec.upto beamBestSpec)

/-- 'downtilttop.TopBeamShared', WHERE WHAT IT READS IS OF BULK AT MOST 1048576: true; the input reads as it did. -/
def topBeamSharedUptoRow : OpenClaim := { program := "ytamkannjdbodpaa", sum := "bdd6b75040fa5b0341037aeb12ca3b913d3451855087ce6aab9df86d744929e8", func := "downtilt/downtilttop.TopBeamShared", spec := "topBeamShared", unfollowed := true, recurses := true, apart := false, narrowed := true }
def TopBeamSharedUptoSaid : Prop := topBeamSharedUptoRow.holds Try.pinned (OpenSpec.upto topBeamSharedSpec)

end Rows
end Go.Proofs.Ytamkannjdbodpaa
