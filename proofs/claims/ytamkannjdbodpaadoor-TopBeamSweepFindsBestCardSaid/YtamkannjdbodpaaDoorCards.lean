/-
  DERIVED. GIVEN WITH THE SEED: THE CARDS: each row of YtamkannjdbodpaaDoorRows.lean that lists a variable, with what it lists TIED to the program's text (the seventh form; the later family's looks); each row that meets fmt, with fmt's text TOLD by the authors' own Lean function (tested against real Go, not proved from fmt's source: count such statements apart). THE CARD IS WHAT COUNTS. Prove the row's statement (the work); the ties are given (YtamkannjdbodpaaDoorTie.lean); close each card by the builder's one call (the guide's Derived/Test/ToyasCard.lean, 'card_holds'). Laid BY PROGRAM, IN A SANDBOX (cutbox-door.mjs). By AI agents, Wed Nov 11 2026. No macro, syntax, notation, axiom, sorry.
-/
import Derived.Test.YtamkannjdbodpaaDoorRows
import GoSem.ClaimSeven
namespace Go.Proofs.YtamkannjdbodpaaDoor
namespace Rows

/-- THE TIED CARD OF 'downtiltlaw05.BeamTexts'. -/
def beamTextsCard : Claim7 := { stood := { row := beamTextsRow, standIns := [], harness := (true, "596e7c74bd6ca180f69e982f329375e0ebd36c36ee81698e62c5de176de1fc9d"), looks := false }, kinds := [], alts := [], laidByText := true, laidKinds := [.data, .pinned], laidTests := true, laidLooks := .later }
def BeamTextsCardSaid : Prop := Claim7.holds Tryd.pinned (.plain (OpenSpec.ofChange beamTextsSpec)) beamTextsCard

/-- THE TIED CARD OF 'downtilttop.TopBeamSweepFindsBest'. -/
def topBeamSweepFindsBestCard : Claim7 := { stood := { row := topBeamSweepFindsBestRow, standIns := [], harness := (true, "596e7c74bd6ca180f69e982f329375e0ebd36c36ee81698e62c5de176de1fc9d"), looks := false }, kinds := [], alts := [], laidByText := true, laidKinds := [.data, .pinned], laidTests := true, laidLooks := .later }
def TopBeamSweepFindsBestCardSaid : Prop := Claim7.holds Tryd.pinned (.plain (OpenSpec.ofChange topBeamSweepFindsBestSpec)) topBeamSweepFindsBestCard

/-- THE SECOND FORM's CARD OF 'downtiltlaw05.BeamTexts'. -/
def beamTextsUptoCard : Claim7 := { stood := { row := beamTextsUptoRow, standIns := [], harness := (true, "596e7c74bd6ca180f69e982f329375e0ebd36c36ee81698e62c5de176de1fc9d"), looks := false }, kinds := [], alts := [], laidByText := true, laidKinds := [.data, .pinned], laidTests := true, laidLooks := .later }
def BeamTextsUptoCardSaid : Prop := Claim7.holds Tryd.pinned (.plain (OpenSpec.upto beamTextsSpec)) beamTextsUptoCard

/-- THE SECOND FORM's CARD OF 'downtilttop.TopBeamSweepFindsBest'. -/
def topBeamSweepFindsBestUptoCard : Claim7 := { stood := { row := topBeamSweepFindsBestUptoRow, standIns := [], harness := (true, "596e7c74bd6ca180f69e982f329375e0ebd36c36ee81698e62c5de176de1fc9d"), looks := false }, kinds := [], alts := [], laidByText := true, laidKinds := [.data, .pinned], laidTests := true, laidLooks := .later }
def TopBeamSweepFindsBestUptoCardSaid : Prop := Claim7.holds Tryd.pinned (.plain (OpenSpec.upto topBeamSweepFindsBestSpec)) topBeamSweepFindsBestUptoCard
end Rows
end Go.Proofs.YtamkannjdbodpaaDoor
