/-
  No cell of these rows narrows 'for every input' (looked for: loops, veiled, ifaces, maps, wideKeys, modest, calm, conditions, laid).
  DERIVED. THE GIVEN ROWS OF THIS SEAT. 17 by the template 'for every input the law returns true; each argument reads behind the call as it read before'; 0 by the template 'total and deterministic' (their statements: YthfmjohbokpceaaTotals.lean).
  GIVEN WITH THE SEED: the statements are not yours to turn. If you find one false, say at which input.
  Laid BY PROGRAM, IN A SANDBOX (cutbox-rows.mjs): the forced cells as the released guide's own fill.sh prints them over the translation 00efb921a870dde6… (all of the seat's roots in one cut). By AI agents, Wed Nov 11 2026. No macro, syntax, notation, axiom, sorry.
-/
import Derived.Test.YthfmjohbokpceaaChecked
import GoSem.Claim
import GoSem.ClaimJoined
import GoSem.ClaimMapViews
import Derived.JoinedTies
import Derived.KernelRfl
namespace Go.Proofs.Ythfmjohbokpceaa
/- THE CELL 'sum', in the pinned program and in every row, IS THE sha256 OF THE DUMP (.gsa) THAT YthfmjohbokpceaaProg.lean LOADS. Nothing in Lean hashes anything: it is a label: what it is worth is what the hold of that sum in a sandbox is worth. -/
noncomputable def Try.pinned : Pinned := { name := "ythfmjohbokpceaa", sum := "00efb921a870dde6f3292ca6e0f201222810a220d3db48dc0387767f10a41075", checked := Try.checked }
namespace Rows
def none {H : Type} : Left H := { results := [], args := [] }

/-- 'downtiltlaw04.WaveApart': WHATEVER THE INPUT: true; the input reads as it did. -/
def waveApartSpec : ChangeSpec := { name := "waveApart", fn := fun _ => fun
  | [d1, d2] => { results := [.lit (.bool true)], args := [d1, d2] }
  | _ => none }
def waveApartRow : OpenClaim := { program := "ythfmjohbokpceaa", sum := "00efb921a870dde6f3292ca6e0f201222810a220d3db48dc0387767f10a41075", func := "downtilt/downtiltlaw04.WaveApart", spec := "waveApart", unfollowed := true, recurses := true, apart := false }
def WaveApartSaid : Prop := waveApartRow.holds Try.pinned (OpenSpec.ofChange waveApartSpec)

/-- ITS FALSE NEIGHBOUR: 'it returns false'. Refute it at one input. -/
def waveApartWrong : ChangeSpec := { name := "waveApart", fn := fun _ => fun
  | [d1, d2] => { results := [.lit (.bool false)], args := [d1, d2] }
  | _ => none }
def WaveApartWrongFalsely : Prop := waveApartRow.holds Try.pinned (OpenSpec.ofChange waveApartWrong)

/-- 'downtilttop.TopWaveCellThere': WHATEVER THE INPUT: true; the input reads as it did. -/
def topWaveCellThereSpec : ChangeSpec := { name := "topWaveCellThere", fn := fun _ => fun
  | [d1, d2, d3] => { results := [.lit (.bool true)], args := [d1, d2, d3] }
  | _ => none }
def topWaveCellThereRow : OpenClaim := { program := "ythfmjohbokpceaa", sum := "00efb921a870dde6f3292ca6e0f201222810a220d3db48dc0387767f10a41075", func := "downtilt/downtilttop.TopWaveCellThere", spec := "topWaveCellThere", unfollowed := true, recurses := true, apart := false }
def TopWaveCellThereSaid : Prop := topWaveCellThereRow.holds Try.pinned (OpenSpec.ofChange topWaveCellThereSpec)

/-- ITS FALSE NEIGHBOUR: 'it returns false'. Refute it at one input. -/
def topWaveCellThereWrong : ChangeSpec := { name := "topWaveCellThere", fn := fun _ => fun
  | [d1, d2, d3] => { results := [.lit (.bool false)], args := [d1, d2, d3] }
  | _ => none }
def TopWaveCellThereWrongFalsely : Prop := topWaveCellThereRow.holds Try.pinned (OpenSpec.ofChange topWaveCellThereWrong)

/-- 'downtiltlaw04.WaveSquares': WHATEVER THE INPUT: true; the input reads as it did. -/
def waveSquaresSpec : ChangeSpec := { name := "waveSquares", fn := fun _ => fun
  | [d1, d2, d3] => { results := [.lit (.bool true)], args := [d1, d2, d3] }
  | _ => none }
def waveSquaresRow : OpenClaim := { program := "ythfmjohbokpceaa", sum := "00efb921a870dde6f3292ca6e0f201222810a220d3db48dc0387767f10a41075", func := "downtilt/downtiltlaw04.WaveSquares", spec := "waveSquares", unfollowed := true, recurses := true, apart := false }
def WaveSquaresSaid : Prop := waveSquaresRow.holds Try.pinned (OpenSpec.ofChange waveSquaresSpec)

/-- ITS FALSE NEIGHBOUR: 'it returns false'. Refute it at one input. -/
def waveSquaresWrong : ChangeSpec := { name := "waveSquares", fn := fun _ => fun
  | [d1, d2, d3] => { results := [.lit (.bool false)], args := [d1, d2, d3] }
  | _ => none }
def WaveSquaresWrongFalsely : Prop := waveSquaresRow.holds Try.pinned (OpenSpec.ofChange waveSquaresWrong)

/-- 'downtiltlaw04.WaveNumbers': WHATEVER THE INPUT: true; the input reads as it did. -/
def waveNumbersSpec : ChangeSpec := { name := "waveNumbers", fn := fun _ => fun
  | [d1, d2, d3] => { results := [.lit (.bool true)], args := [d1, d2, d3] }
  | _ => none }
def waveNumbersRow : OpenClaim := { program := "ythfmjohbokpceaa", sum := "00efb921a870dde6f3292ca6e0f201222810a220d3db48dc0387767f10a41075", func := "downtilt/downtiltlaw04.WaveNumbers", spec := "waveNumbers", unfollowed := true, recurses := true, apart := false }
def WaveNumbersSaid : Prop := waveNumbersRow.holds Try.pinned (OpenSpec.ofChange waveNumbersSpec)

/-- ITS FALSE NEIGHBOUR: 'it returns false'. Refute it at one input. -/
def waveNumbersWrong : ChangeSpec := { name := "waveNumbers", fn := fun _ => fun
  | [d1, d2, d3] => { results := [.lit (.bool false)], args := [d1, d2, d3] }
  | _ => none }
def WaveNumbersWrongFalsely : Prop := waveNumbersRow.holds Try.pinned (OpenSpec.ofChange waveNumbersWrong)

/-- 'downtiltlaw04.WaveSequences': WHATEVER THE INPUT: true; the input reads as it did. -/
def waveSequencesSpec : ChangeSpec := { name := "waveSequences", fn := fun _ => fun
  | [d1, d2] => { results := [.lit (.bool true)], args := [d1, d2] }
  | _ => none }
def waveSequencesRow : OpenClaim := { program := "ythfmjohbokpceaa", sum := "00efb921a870dde6f3292ca6e0f201222810a220d3db48dc0387767f10a41075", func := "downtilt/downtiltlaw04.WaveSequences", spec := "waveSequences", unfollowed := true, recurses := true, apart := false }
def WaveSequencesSaid : Prop := waveSequencesRow.holds Try.pinned (OpenSpec.ofChange waveSequencesSpec)

/-- ITS FALSE NEIGHBOUR: 'it returns false'. Refute it at one input. -/
def waveSequencesWrong : ChangeSpec := { name := "waveSequences", fn := fun _ => fun
  | [d1, d2] => { results := [.lit (.bool false)], args := [d1, d2] }
  | _ => none }
def WaveSequencesWrongFalsely : Prop := waveSequencesRow.holds Try.pinned (OpenSpec.ofChange waveSequencesWrong)

/-- 'downtiltlaw04.WaveOffsets': WHATEVER THE INPUT: true; the input reads as it did. -/
def waveOffsetsSpec : ChangeSpec := { name := "waveOffsets", fn := fun _ => fun
  | [d1, d2, d3] => { results := [.lit (.bool true)], args := [d1, d2, d3] }
  | _ => none }
def waveOffsetsRow : OpenClaim := { program := "ythfmjohbokpceaa", sum := "00efb921a870dde6f3292ca6e0f201222810a220d3db48dc0387767f10a41075", func := "downtilt/downtiltlaw04.WaveOffsets", spec := "waveOffsets", unfollowed := true, recurses := true, apart := false }
def WaveOffsetsSaid : Prop := waveOffsetsRow.holds Try.pinned (OpenSpec.ofChange waveOffsetsSpec)

/-- ITS FALSE NEIGHBOUR: 'it returns false'. Refute it at one input. -/
def waveOffsetsWrong : ChangeSpec := { name := "waveOffsets", fn := fun _ => fun
  | [d1, d2, d3] => { results := [.lit (.bool false)], args := [d1, d2, d3] }
  | _ => none }
def WaveOffsetsWrongFalsely : Prop := waveOffsetsRow.holds Try.pinned (OpenSpec.ofChange waveOffsetsWrong)

/-- 'downtiltlaw04.WaveClips': WHATEVER THE INPUT: true; the input reads as it did. -/
def waveClipsSpec : ChangeSpec := { name := "waveClips", fn := fun _ => fun
  | [d1, d2, d3] => { results := [.lit (.bool true)], args := [d1, d2, d3] }
  | _ => none }
def waveClipsRow : OpenClaim := { program := "ythfmjohbokpceaa", sum := "00efb921a870dde6f3292ca6e0f201222810a220d3db48dc0387767f10a41075", func := "downtilt/downtiltlaw04.WaveClips", spec := "waveClips", unfollowed := true, recurses := true, apart := false }
def WaveClipsSaid : Prop := waveClipsRow.holds Try.pinned (OpenSpec.ofChange waveClipsSpec)

/-- ITS FALSE NEIGHBOUR: 'it returns false'. Refute it at one input. -/
def waveClipsWrong : ChangeSpec := { name := "waveClips", fn := fun _ => fun
  | [d1, d2, d3] => { results := [.lit (.bool false)], args := [d1, d2, d3] }
  | _ => none }
def WaveClipsWrongFalsely : Prop := waveClipsRow.holds Try.pinned (OpenSpec.ofChange waveClipsWrong)

/-- 'downtiltlaw04.WavePaths': WHATEVER THE INPUT: true; the input reads as it did. -/
def wavePathsSpec : ChangeSpec := { name := "wavePaths", fn := fun _ => fun
  | [d1, d2] => { results := [.lit (.bool true)], args := [d1, d2] }
  | _ => none }
def wavePathsRow : OpenClaim := { program := "ythfmjohbokpceaa", sum := "00efb921a870dde6f3292ca6e0f201222810a220d3db48dc0387767f10a41075", func := "downtilt/downtiltlaw04.WavePaths", spec := "wavePaths", unfollowed := true, recurses := true, apart := false }
def WavePathsSaid : Prop := wavePathsRow.holds Try.pinned (OpenSpec.ofChange wavePathsSpec)

/-- ITS FALSE NEIGHBOUR: 'it returns false'. Refute it at one input. -/
def wavePathsWrong : ChangeSpec := { name := "wavePaths", fn := fun _ => fun
  | [d1, d2] => { results := [.lit (.bool false)], args := [d1, d2] }
  | _ => none }
def WavePathsWrongFalsely : Prop := wavePathsRow.holds Try.pinned (OpenSpec.ofChange wavePathsWrong)

/-- 'downtiltlaw04.WaveFours': WHATEVER THE INPUT: true; the input reads as it did. -/
def waveFoursSpec : ChangeSpec := { name := "waveFours", fn := fun _ => fun
  | [d] => { results := [.lit (.bool true)], args := [d] }
  | _ => none }
def waveFoursRow : OpenClaim := { program := "ythfmjohbokpceaa", sum := "00efb921a870dde6f3292ca6e0f201222810a220d3db48dc0387767f10a41075", func := "downtilt/downtiltlaw04.WaveFours", spec := "waveFours", unfollowed := true, recurses := true, apart := false }
def WaveFoursSaid : Prop := waveFoursRow.holds Try.pinned (OpenSpec.ofChange waveFoursSpec)

/-- ITS FALSE NEIGHBOUR: 'it returns false'. Refute it at one input. -/
def waveFoursWrong : ChangeSpec := { name := "waveFours", fn := fun _ => fun
  | [d] => { results := [.lit (.bool false)], args := [d] }
  | _ => none }
def WaveFoursWrongFalsely : Prop := waveFoursRow.holds Try.pinned (OpenSpec.ofChange waveFoursWrong)

/-- 'downtiltlaw04.WaveBetween': WHATEVER THE INPUT: true; the input reads as it did. -/
def waveBetweenSpec : ChangeSpec := { name := "waveBetween", fn := fun _ => fun
  | [d1, d2] => { results := [.lit (.bool true)], args := [d1, d2] }
  | _ => none }
def waveBetweenRow : OpenClaim := { program := "ythfmjohbokpceaa", sum := "00efb921a870dde6f3292ca6e0f201222810a220d3db48dc0387767f10a41075", func := "downtilt/downtiltlaw04.WaveBetween", spec := "waveBetween", unfollowed := true, recurses := true, apart := false }
def WaveBetweenSaid : Prop := waveBetweenRow.holds Try.pinned (OpenSpec.ofChange waveBetweenSpec)

/-- ITS FALSE NEIGHBOUR: 'it returns false'. Refute it at one input. -/
def waveBetweenWrong : ChangeSpec := { name := "waveBetween", fn := fun _ => fun
  | [d1, d2] => { results := [.lit (.bool false)], args := [d1, d2] }
  | _ => none }
def WaveBetweenWrongFalsely : Prop := waveBetweenRow.holds Try.pinned (OpenSpec.ofChange waveBetweenWrong)

/-- 'downtiltlaw04.WaveStreams': WHATEVER THE INPUT: true; the input reads as it did. -/
def waveStreamsSpec : ChangeSpec := { name := "waveStreams", fn := fun _ => fun
  | [d1, d2, d3] => { results := [.lit (.bool true)], args := [d1, d2, d3] }
  | _ => none }
def waveStreamsRow : OpenClaim := { program := "ythfmjohbokpceaa", sum := "00efb921a870dde6f3292ca6e0f201222810a220d3db48dc0387767f10a41075", func := "downtilt/downtiltlaw04.WaveStreams", spec := "waveStreams", unfollowed := true, recurses := true, apart := false }
def WaveStreamsSaid : Prop := waveStreamsRow.holds Try.pinned (OpenSpec.ofChange waveStreamsSpec)

/-- ITS FALSE NEIGHBOUR: 'it returns false'. Refute it at one input. -/
def waveStreamsWrong : ChangeSpec := { name := "waveStreams", fn := fun _ => fun
  | [d1, d2, d3] => { results := [.lit (.bool false)], args := [d1, d2, d3] }
  | _ => none }
def WaveStreamsWrongFalsely : Prop := waveStreamsRow.holds Try.pinned (OpenSpec.ofChange waveStreamsWrong)

/-- 'downtiltlaw04.WaveCells': WHATEVER THE INPUT: true; the input reads as it did. -/
def waveCellsSpec : ChangeSpec := { name := "waveCells", fn := fun _ => fun
  | [d1, d2] => { results := [.lit (.bool true)], args := [d1, d2] }
  | _ => none }
def waveCellsRow : OpenClaim := { program := "ythfmjohbokpceaa", sum := "00efb921a870dde6f3292ca6e0f201222810a220d3db48dc0387767f10a41075", func := "downtilt/downtiltlaw04.WaveCells", spec := "waveCells", unfollowed := true, recurses := true, apart := false }
def WaveCellsSaid : Prop := waveCellsRow.holds Try.pinned (OpenSpec.ofChange waveCellsSpec)

/-- ITS FALSE NEIGHBOUR: 'it returns false'. Refute it at one input. -/
def waveCellsWrong : ChangeSpec := { name := "waveCells", fn := fun _ => fun
  | [d1, d2] => { results := [.lit (.bool false)], args := [d1, d2] }
  | _ => none }
def WaveCellsWrongFalsely : Prop := waveCellsRow.holds Try.pinned (OpenSpec.ofChange waveCellsWrong)

/-- 'downtiltlaw04.WaveFinds': WHATEVER THE INPUT: true; the input reads as it did. -/
def waveFindsSpec : ChangeSpec := { name := "waveFinds", fn := fun _ => fun
  | [d] => { results := [.lit (.bool true)], args := [d] }
  | _ => none }
def waveFindsRow : OpenClaim := { program := "ythfmjohbokpceaa", sum := "00efb921a870dde6f3292ca6e0f201222810a220d3db48dc0387767f10a41075", func := "downtilt/downtiltlaw04.WaveFinds", spec := "waveFinds", unfollowed := true, recurses := true, apart := false }
def WaveFindsSaid : Prop := waveFindsRow.holds Try.pinned (OpenSpec.ofChange waveFindsSpec)

/-- ITS FALSE NEIGHBOUR: 'it returns false'. Refute it at one input. -/
def waveFindsWrong : ChangeSpec := { name := "waveFinds", fn := fun _ => fun
  | [d] => { results := [.lit (.bool false)], args := [d] }
  | _ => none }
def WaveFindsWrongFalsely : Prop := waveFindsRow.holds Try.pinned (OpenSpec.ofChange waveFindsWrong)

/-- 'downtiltlaw04.WaveTransforms': WHATEVER THE INPUT: true; the input reads as it did. -/
def waveTransformsSpec : ChangeSpec := { name := "waveTransforms", fn := fun _ => fun
  | [d1, d2] => { results := [.lit (.bool true)], args := [d1, d2] }
  | _ => none }
def waveTransformsRow : OpenClaim := { program := "ythfmjohbokpceaa", sum := "00efb921a870dde6f3292ca6e0f201222810a220d3db48dc0387767f10a41075", func := "downtilt/downtiltlaw04.WaveTransforms", spec := "waveTransforms", unfollowed := true, recurses := true, apart := false }
def WaveTransformsSaid : Prop := waveTransformsRow.holds Try.pinned (OpenSpec.ofChange waveTransformsSpec)

/-- ITS FALSE NEIGHBOUR: 'it returns false'. Refute it at one input. -/
def waveTransformsWrong : ChangeSpec := { name := "waveTransforms", fn := fun _ => fun
  | [d1, d2] => { results := [.lit (.bool false)], args := [d1, d2] }
  | _ => none }
def WaveTransformsWrongFalsely : Prop := waveTransformsRow.holds Try.pinned (OpenSpec.ofChange waveTransformsWrong)

/-- 'downtiltlaw04.WaveEstimates': WHATEVER THE INPUT: true; the input reads as it did. -/
def waveEstimatesSpec : ChangeSpec := { name := "waveEstimates", fn := fun _ => fun
  | [d1, d2, d3] => { results := [.lit (.bool true)], args := [d1, d2, d3] }
  | _ => none }
def waveEstimatesRow : OpenClaim := { program := "ythfmjohbokpceaa", sum := "00efb921a870dde6f3292ca6e0f201222810a220d3db48dc0387767f10a41075", func := "downtilt/downtiltlaw04.WaveEstimates", spec := "waveEstimates", unfollowed := true, recurses := true, apart := false }
def WaveEstimatesSaid : Prop := waveEstimatesRow.holds Try.pinned (OpenSpec.ofChange waveEstimatesSpec)

/-- ITS FALSE NEIGHBOUR: 'it returns false'. Refute it at one input. -/
def waveEstimatesWrong : ChangeSpec := { name := "waveEstimates", fn := fun _ => fun
  | [d1, d2, d3] => { results := [.lit (.bool false)], args := [d1, d2, d3] }
  | _ => none }
def WaveEstimatesWrongFalsely : Prop := waveEstimatesRow.holds Try.pinned (OpenSpec.ofChange waveEstimatesWrong)

/-- 'downtiltlaw04.WaveBack': WHATEVER THE INPUT: true; the input reads as it did. -/
def waveBackSpec : ChangeSpec := { name := "waveBack", fn := fun _ => fun
  | [d1, d2, d3] => { results := [.lit (.bool true)], args := [d1, d2, d3] }
  | _ => none }
def waveBackRow : OpenClaim := { program := "ythfmjohbokpceaa", sum := "00efb921a870dde6f3292ca6e0f201222810a220d3db48dc0387767f10a41075", func := "downtilt/downtiltlaw04.WaveBack", spec := "waveBack", unfollowed := true, recurses := true, apart := false }
def WaveBackSaid : Prop := waveBackRow.holds Try.pinned (OpenSpec.ofChange waveBackSpec)

/-- ITS FALSE NEIGHBOUR: 'it returns false'. Refute it at one input. -/
def waveBackWrong : ChangeSpec := { name := "waveBack", fn := fun _ => fun
  | [d1, d2, d3] => { results := [.lit (.bool false)], args := [d1, d2, d3] }
  | _ => none }
def WaveBackWrongFalsely : Prop := waveBackRow.holds Try.pinned (OpenSpec.ofChange waveBackWrong)

/-- 'downtiltlaw04.WaveChannel': WHATEVER THE INPUT: true; the input reads as it did. -/
def waveChannelSpec : ChangeSpec := { name := "waveChannel", fn := fun _ => fun
  | [d1, d2, d3] => { results := [.lit (.bool true)], args := [d1, d2, d3] }
  | _ => none }
def waveChannelRow : OpenClaim := { program := "ythfmjohbokpceaa", sum := "00efb921a870dde6f3292ca6e0f201222810a220d3db48dc0387767f10a41075", func := "downtilt/downtiltlaw04.WaveChannel", spec := "waveChannel", unfollowed := true, recurses := true, apart := false }
def WaveChannelSaid : Prop := waveChannelRow.holds Try.pinned (OpenSpec.ofChange waveChannelSpec)

/-- ITS FALSE NEIGHBOUR: 'it returns false'. Refute it at one input. -/
def waveChannelWrong : ChangeSpec := { name := "waveChannel", fn := fun _ => fun
  | [d1, d2, d3] => { results := [.lit (.bool false)], args := [d1, d2, d3] }
  | _ => none }
def WaveChannelWrongFalsely : Prop := waveChannelRow.holds Try.pinned (OpenSpec.ofChange waveChannelWrong)

/- THE SECOND FORM. 'bulk': how many values and letters a reading holds, each counted each time it is reached (what is shared counts as often as it is met; a slice's spare places count too). A statement '..UptoSaid' is the law's where the arguments, and the package variables that the reading takes, are together of bulk at most 1048576: NARROWER than '..Said'. Prove '..Said' where nothing that the law and all that it calls make is longer than what came in: it says more and counts as full. Else prove '..UptoSaid'. A law counts once. -/
mutual
def uptoBulk {H : Type} : DataW H → Nat
  | .lit (.string bytes) => bytes.length + 1
  | .lit _ => 1
  | .nil => 1
  | .ptr d => uptoBulk d + 1
  | .slice elems spare => uptoBulkAll elems + uptoBulkAll spare + 1
  | .agg parts => uptoBulkAll parts + 1
  | .iface _ d => uptoBulk d + 1
  | .map entries => uptoBulkEntries entries + 1
  | .held _ => 1
def uptoBulkAll {H : Type} : List (DataW H) → Nat
  | [] => 0
  | d :: r => uptoBulk d + uptoBulkAll r
def uptoBulkEntries {H : Type} : List (Lit × DataW H) → Nat
  | [] => 0
  | x :: r => uptoBulkEntry x + uptoBulkEntries r
def uptoBulkEntry {H : Type} : Lit × DataW H → Nat
  | (.string bytes, d) => bytes.length + uptoBulk d + 1
  | (_, d) => uptoBulk d + 1
 end
def uptoSmall : (H : Type) → List (DataW H) → Bool := fun _ ds => decide (uptoBulkAll ds ≤ 1048576)
def OpenSpec.upto (s : _root_.Go.ChangeSpec) : _root_.Go.OpenSpec := { _root_.Go.OpenSpec.ofChange s with cond := some uptoSmall }

/-- 'downtiltlaw04.WaveApart', WHERE WHAT IT READS IS OF BULK AT MOST 1048576: true; the input reads as it did. -/
def waveApartUptoRow : OpenClaim := { program := "ythfmjohbokpceaa", sum := "00efb921a870dde6f3292ca6e0f201222810a220d3db48dc0387767f10a41075", func := "downtilt/downtiltlaw04.WaveApart", spec := "waveApart", unfollowed := true, recurses := true, apart := false, narrowed := true }
def WaveApartUptoSaid : Prop := waveApartUptoRow.holds Try.pinned (OpenSpec.upto waveApartSpec)

/-- 'downtilttop.TopWaveCellThere', WHERE WHAT IT READS IS OF BULK AT MOST 1048576: true; the input reads as it did. -/
def topWaveCellThereUptoRow : OpenClaim := { program := "ythfmjohbokpceaa", sum := "00efb921a870dde6f3292ca6e0f201222810a220d3db48dc0387767f10a41075", func := "downtilt/downtilttop.TopWaveCellThere", spec := "topWaveCellThere", unfollowed := true, recurses := true, apart := false, narrowed := true }
def TopWaveCellThereUptoSaid : Prop := topWaveCellThereUptoRow.holds Try.pinned (OpenSpec.upto topWaveCellThereSpec)

/-- 'downtiltlaw04.WaveSquares', WHERE WHAT IT READS IS OF BULK AT MOST 1048576: true; the input reads as it did. -/
def waveSquaresUptoRow : OpenClaim := { program := "ythfmjohbokpceaa", sum := "00efb921a870dde6f3292ca6e0f201222810a220d3db48dc0387767f10a41075", func := "downtilt/downtiltlaw04.WaveSquares", spec := "waveSquares", unfollowed := true, recurses := true, apart := false, narrowed := true }
def WaveSquaresUptoSaid : Prop := waveSquaresUptoRow.holds Try.pinned (OpenSpec.upto waveSquaresSpec)

/-- 'downtiltlaw04.WaveNumbers', WHERE WHAT IT READS IS OF BULK AT MOST 1048576: true; the input reads as it did. -/
def waveNumbersUptoRow : OpenClaim := { program := "ythfmjohbokpceaa", sum := "00efb921a870dde6f3292ca6e0f201222810a220d3db48dc0387767f10a41075", func := "downtilt/downtiltlaw04.WaveNumbers", spec := "waveNumbers", unfollowed := true, recurses := true, apart := false, narrowed := true }
def WaveNumbersUptoSaid : Prop := waveNumbersUptoRow.holds Try.pinned (OpenSpec.upto waveNumbersSpec)

/-- 'downtiltlaw04.WaveSequences', WHERE WHAT IT READS IS OF BULK AT MOST 1048576: true; the input reads as it did. -/
def waveSequencesUptoRow : OpenClaim := { program := "ythfmjohbokpceaa", sum := "00efb921a870dde6f3292ca6e0f201222810a220d3db48dc0387767f10a41075", func := "downtilt/downtiltlaw04.WaveSequences", spec := "waveSequences", unfollowed := true, recurses := true, apart := false, narrowed := true }
def WaveSequencesUptoSaid : Prop := waveSequencesUptoRow.holds Try.pinned (OpenSpec.upto waveSequencesSpec)

/-- 'downtiltlaw04.WaveOffsets', WHERE WHAT IT READS IS OF BULK AT MOST 1048576: true; the input reads as it did. -/
def waveOffsetsUptoRow : OpenClaim := { program := "ythfmjohbokpceaa", sum := "00efb921a870dde6f3292ca6e0f201222810a220d3db48dc0387767f10a41075", func := "downtilt/downtiltlaw04.WaveOffsets", spec := "waveOffsets", unfollowed := true, recurses := true, apart := false, narrowed := true }
def WaveOffsetsUptoSaid : Prop := waveOffsetsUptoRow.holds Try.pinned (OpenSpec.upto waveOffsetsSpec)

/-- 'downtiltlaw04.WaveClips', WHERE WHAT IT READS IS OF BULK AT MOST 1048576: true; the input reads as it did. -/
def waveClipsUptoRow : OpenClaim := { program := "ythfmjohbokpceaa", sum := "00efb921a870dde6f3292ca6e0f201222810a220d3db48dc0387767f10a41075", func := "downtilt/downtiltlaw04.WaveClips", spec := "waveClips", unfollowed := true, recurses := true, apart := false, narrowed := true }
def WaveClipsUptoSaid : Prop := waveClipsUptoRow.holds Try.pinned (OpenSpec.upto waveClipsSpec)

/-- 'downtiltlaw04.WavePaths', WHERE WHAT IT READS IS OF BULK AT MOST 1048576: true; the input reads as it did. -/
def wavePathsUptoRow : OpenClaim := { program := "ythfmjohbokpceaa", sum := "00efb921a870dde6f3292ca6e0f201222810a220d3db48dc0387767f10a41075", func := "downtilt/downtiltlaw04.WavePaths", spec := "wavePaths", unfollowed := true, recurses := true, apart := false, narrowed := true }
def WavePathsUptoSaid : Prop := wavePathsUptoRow.holds Try.pinned (OpenSpec.upto wavePathsSpec)

/-- 'downtiltlaw04.WaveFours', WHERE WHAT IT READS IS OF BULK AT MOST 1048576: true; the input reads as it did. -/
def waveFoursUptoRow : OpenClaim := { program := "ythfmjohbokpceaa", sum := "00efb921a870dde6f3292ca6e0f201222810a220d3db48dc0387767f10a41075", func := "downtilt/downtiltlaw04.WaveFours", spec := "waveFours", unfollowed := true, recurses := true, apart := false, narrowed := true }
def WaveFoursUptoSaid : Prop := waveFoursUptoRow.holds Try.pinned (OpenSpec.upto waveFoursSpec)

/-- 'downtiltlaw04.WaveBetween', WHERE WHAT IT READS IS OF BULK AT MOST 1048576: true; the input reads as it did. -/
def waveBetweenUptoRow : OpenClaim := { program := "ythfmjohbokpceaa", sum := "00efb921a870dde6f3292ca6e0f201222810a220d3db48dc0387767f10a41075", func := "downtilt/downtiltlaw04.WaveBetween", spec := "waveBetween", unfollowed := true, recurses := true, apart := false, narrowed := true }
def WaveBetweenUptoSaid : Prop := waveBetweenUptoRow.holds Try.pinned (OpenSpec.upto waveBetweenSpec)

/-- 'downtiltlaw04.WaveStreams', WHERE WHAT IT READS IS OF BULK AT MOST 1048576: true; the input reads as it did. -/
def waveStreamsUptoRow : OpenClaim := { program := "ythfmjohbokpceaa", sum := "00efb921a870dde6f3292ca6e0f201222810a220d3db48dc0387767f10a41075", func := "downtilt/downtiltlaw04.WaveStreams", spec := "waveStreams", unfollowed := true, recurses := true, apart := false, narrowed := true }
def WaveStreamsUptoSaid : Prop := waveStreamsUptoRow.holds Try.pinned (OpenSpec.upto waveStreamsSpec)

/-- 'downtiltlaw04.WaveCells', WHERE WHAT IT READS IS OF BULK AT MOST 1048576: true; the input reads as it did. -/
def waveCellsUptoRow : OpenClaim := { program := "ythfmjohbokpceaa", sum := "00efb921a870dde6f3292ca6e0f201222810a220d3db48dc0387767f10a41075", func := "downtilt/downtiltlaw04.WaveCells", spec := "waveCells", unfollowed := true, recurses := true, apart := false, narrowed := true }
def WaveCellsUptoSaid : Prop := waveCellsUptoRow.holds Try.pinned (OpenSpec.upto waveCellsSpec)

/-- 'downtiltlaw04.WaveFinds', WHERE WHAT IT READS IS OF BULK AT MOST 1048576: true; the input reads as it did. -/
def waveFindsUptoRow : OpenClaim := { program := "ythfmjohbokpceaa", sum := "00efb921a870dde6f3292ca6e0f201222810a220d3db48dc0387767f10a41075", func := "downtilt/downtiltlaw04.WaveFinds", spec := "waveFinds", unfollowed := true, recurses := true, apart := false, narrowed := true }
def WaveFindsUptoSaid : Prop := waveFindsUptoRow.holds Try.pinned (OpenSpec.upto waveFindsSpec)

/-- 'downtiltlaw04.WaveTransforms', WHERE WHAT IT READS IS OF BULK AT MOST 1048576: true; the input reads as it did. -/
def waveTransformsUptoRow : OpenClaim := { program := "ythfmjohbokpceaa", sum := "00efb921a870dde6f3292ca6e0f201222810a220d3db48dc0387767f10a41075", func := "downtilt/downtiltlaw04.WaveTransforms", spec := "waveTransforms", unfollowed := true, recurses := true, apart := false, narrowed := true }
def WaveTransformsUptoSaid : Prop := waveTransformsUptoRow.holds Try.pinned (OpenSpec.upto waveTransformsSpec)

/-- 'downtiltlaw04.WaveEstimates', WHERE WHAT IT READS IS OF BULK AT MOST 1048576: true; the input reads as it did. -/
def waveEstimatesUptoRow : OpenClaim := { program := "ythfmjohbokpceaa", sum := "00efb921a870dde6f3292ca6e0f201222810a220d3db48dc0387767f10a41075", func := "downtilt/downtiltlaw04.WaveEstimates", spec := "waveEstimates", unfollowed := true, recurses := true, apart := false, narrowed := true }
def WaveEstimatesUptoSaid : Prop := waveEstimatesUptoRow.holds Try.pinned (OpenSpec.upto waveEstimatesSpec)

/-- 'downtiltlaw04.WaveBack', WHERE WHAT IT READS IS OF BULK AT MOST 1048576: true; the input reads as it did. -/
def waveBackUptoRow : OpenClaim := { program := "ythfmjohbokpceaa", sum := "00efb921a870dde6f3292ca6e0f201222810a220d3db48dc0387767f10a41075", func := "downtilt/downtiltlaw04.WaveBack", spec := "waveBack", unfollowed := true, recurses := true, apart := false, narrowed := true }
def WaveBackUptoSaid : Prop := waveBackUptoRow.holds Try.pinned (OpenSpec.upto waveBackSpec)

/-- 'downtiltlaw04.WaveChannel', WHERE WHAT IT READS IS OF BULK AT MOST 1048576: true; the input reads as it did. -/
def waveChannelUptoRow : OpenClaim := { program := "ythfmjohbokpceaa", sum := "00efb921a870dde6f3292ca6e0f201222810a220d3db48dc0387767f10a41075", func := "downtilt/downtiltlaw04.WaveChannel", spec := "waveChannel", unfollowed := true, recurses := true, apart := false, narrowed := true }
def WaveChannelUptoSaid : Prop := waveChannelUptoRow.holds Try.pinned (OpenSpec.upto waveChannelSpec)

end Rows
end Go.Proofs.Ythfmjohbokpceaa
