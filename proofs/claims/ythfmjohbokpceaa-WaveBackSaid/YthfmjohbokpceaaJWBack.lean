import Derived.Test.YthfmjohbokpceaaWOpens
namespace Go.Proofs.Ythfmjohbokpceaa
open Go.ChangeShapes Go.WideShapes Go.ChangeAt Go.RowKit

/-! the closed facts of the statement, part by part -/
theorem joined_of {P : Program} {f : FuncId} {fn : Func} {s : ChangeSpec} {c : OpenClaim} (g0 : (c.wf (OpenSpec.ofChange s)) = true) (g1 : (laidOutB P) = true) (g2 : (mapsRowed P && fn.params.all (P.readableRec ·)) = true) (g3 : (namedTie P c.named s.vars) = true) (g4 : ((c.stops == []) && (P.stops == []) && (c.knobs == []) && (P.stopKnobs == [])) = true) (g5 : ((c.inPlace == P.inPlace f)) = true) (g6 : ((c.unfollowed == P.unfollowed f)) = true) (g7 : ((c.recurses == P.recurses f)) = true) (g8 : ((c.named == P.varsNamed f)) = true) (g9 : ((c.maps == (fn.params.toList ++ s.plain.varTypes P).any (P.mapsRec ·)) && (c.ifaces == (fn.params.toList ++ s.plain.varTypes P).any (P.ifacesRec ·)) && (c.mapsOut == P.mapsAmong fn.resultTypes.toList)) = true) (g10 : ((c.loops == (fn.params.toList ++ s.plain.varTypes P).any (P.loopsFrom ·)) && (c.wideKeys == (fn.params.toList ++ s.plain.varTypes P ++ fn.resultTypes.toList).any (P.wideKeysFrom ·))) = true) (g11 : (s.vars.all (P.varReadable ·) && fn.resultTypes.all (fun t => P.readableRec t && decide (t < P.types.size)) && (c.ifacesOut == fn.resultTypes.toList.any (P.ifacesRec ·)) && (c.loopsOut == fn.resultTypes.toList.any (P.loopsFrom ·))) = true) (g12 : ((c.plainKeys == P.plainKeys) && c.shortTexts.isNone) = true) (g13 : (P.stopsHeard) = true) (g14 : (P.mayEnter) = true) (g15 : ((c.lifted == P.liftsFinal)) = true) (g16 : ((P.make == some c.make) && (c.pinned == c.pinnedBy)) = true) (g17 : ((c.kinds == (if c.domain.isEmpty then [] else fn.params.toList.map fun t => match P.underlying t with | some (.int k) => some k | _ => none))) = true) (g18 : ((c.veiled == (fn.params.toList ++ s.plain.varTypes P ++ fn.resultTypes.toList).any (P.veiledRec ·)) && c.veiledFits P fn.params.toList (fn.params.toList ++ s.plain.varTypes P ++ fn.resultTypes.toList)) = true) : joinedFacts P f fn s c = true := by
  unfold joinedFacts
  simp only [Bool.and_eq_true] at *
  simp only [g0, g1, g2, g3, g4, g5, g6, g7, g8, g9, g10, g11, g12, g13, g14, g15, g16, g18, and_self, true_and, and_true]
  exact g17
set_option maxRecDepth 100000 in
theorem waveBack_j0 : (Rows.waveBackRow.wf (OpenSpec.ofChange Rows.waveBackSpec)) = true := by kernel_rfl
set_option maxRecDepth 100000 in
theorem waveBack_j1 : (laidOutB Try.pinned.checked.prog) = true := by kernel_rfl
set_option maxRecDepth 100000 in
theorem waveBack_j2 : (mapsRowed Try.pinned.checked.prog && Try.f18.params.all (Try.pinned.checked.prog.readableRec ·)) = true := by kernel_rfl
set_option maxRecDepth 100000 in
theorem waveBack_j3 : (namedTie Try.pinned.checked.prog Rows.waveBackRow.named Rows.waveBackSpec.vars) = true := by kernel_rfl
set_option maxRecDepth 100000 in
theorem waveBack_j4 : ((Rows.waveBackRow.stops == []) && (Try.pinned.checked.prog.stops == []) && (Rows.waveBackRow.knobs == []) && (Try.pinned.checked.prog.stopKnobs == [])) = true := by kernel_rfl
set_option maxRecDepth 100000 in
theorem waveBack_j5 : ((Rows.waveBackRow.inPlace == Try.pinned.checked.prog.inPlace 18)) = true := by kernel_rfl
set_option maxRecDepth 100000 in
theorem waveBack_j6 : ((Rows.waveBackRow.unfollowed == Try.pinned.checked.prog.unfollowed 18)) = true := by kernel_rfl
set_option maxRecDepth 100000 in
theorem waveBack_j7 : ((Rows.waveBackRow.recurses == Try.pinned.checked.prog.recurses 18)) = true := by kernel_rfl
set_option maxRecDepth 100000 in
theorem waveBack_j8 : ((Rows.waveBackRow.named == Try.pinned.checked.prog.varsNamed 18)) = true := by kernel_rfl
set_option maxRecDepth 100000 in
theorem waveBack_j9 : ((Rows.waveBackRow.maps == (Try.f18.params.toList ++ Rows.waveBackSpec.plain.varTypes Try.pinned.checked.prog).any (Try.pinned.checked.prog.mapsRec ·)) && (Rows.waveBackRow.ifaces == (Try.f18.params.toList ++ Rows.waveBackSpec.plain.varTypes Try.pinned.checked.prog).any (Try.pinned.checked.prog.ifacesRec ·)) && (Rows.waveBackRow.mapsOut == Try.pinned.checked.prog.mapsAmong Try.f18.resultTypes.toList)) = true := by kernel_rfl
set_option maxRecDepth 100000 in
theorem waveBack_j10 : ((Rows.waveBackRow.loops == (Try.f18.params.toList ++ Rows.waveBackSpec.plain.varTypes Try.pinned.checked.prog).any (Try.pinned.checked.prog.loopsFrom ·)) && (Rows.waveBackRow.wideKeys == (Try.f18.params.toList ++ Rows.waveBackSpec.plain.varTypes Try.pinned.checked.prog ++ Try.f18.resultTypes.toList).any (Try.pinned.checked.prog.wideKeysFrom ·))) = true := by kernel_rfl
set_option maxRecDepth 100000 in
theorem waveBack_j11 : (Rows.waveBackSpec.vars.all (Try.pinned.checked.prog.varReadable ·) && Try.f18.resultTypes.all (fun t => Try.pinned.checked.prog.readableRec t && decide (t < Try.pinned.checked.prog.types.size)) && (Rows.waveBackRow.ifacesOut == Try.f18.resultTypes.toList.any (Try.pinned.checked.prog.ifacesRec ·)) && (Rows.waveBackRow.loopsOut == Try.f18.resultTypes.toList.any (Try.pinned.checked.prog.loopsFrom ·))) = true := by kernel_rfl
set_option maxRecDepth 100000 in
theorem waveBack_j12 : ((Rows.waveBackRow.plainKeys == Try.pinned.checked.prog.plainKeys) && Rows.waveBackRow.shortTexts.isNone) = true := by kernel_rfl
set_option maxRecDepth 100000 in
theorem waveBack_j13 : (Try.pinned.checked.prog.stopsHeard) = true := by kernel_rfl
set_option maxRecDepth 100000 in
theorem waveBack_j14 : (Try.pinned.checked.prog.mayEnter) = true := by kernel_rfl
set_option maxRecDepth 100000 in
theorem waveBack_j15 : ((Rows.waveBackRow.lifted == Try.pinned.checked.prog.liftsFinal)) = true := by kernel_rfl
set_option maxRecDepth 100000 in
theorem waveBack_j16 : ((Try.pinned.checked.prog.make == some Rows.waveBackRow.make) && (Rows.waveBackRow.pinned == Rows.waveBackRow.pinnedBy)) = true := by kernel_rfl
set_option maxRecDepth 100000 in
theorem waveBack_j17 : ((Rows.waveBackRow.kinds == (if Rows.waveBackRow.domain.isEmpty then [] else Try.f18.params.toList.map fun t => match Try.pinned.checked.prog.underlying t with | some (.int k) => some k | _ => none))) = true := by kernel_rfl
set_option maxRecDepth 100000 in
theorem waveBack_j18 : ((Rows.waveBackRow.veiled == (Try.f18.params.toList ++ Rows.waveBackSpec.plain.varTypes Try.pinned.checked.prog ++ Try.f18.resultTypes.toList).any (Try.pinned.checked.prog.veiledRec ·)) && Rows.waveBackRow.veiledFits Try.pinned.checked.prog Try.f18.params.toList (Try.f18.params.toList ++ Rows.waveBackSpec.plain.varTypes Try.pinned.checked.prog ++ Try.f18.resultTypes.toList)) = true := by kernel_rfl
theorem waveBack_joined : joinedFacts Try.pinned.checked.prog 18 Try.f18 Rows.waveBackSpec Rows.waveBackRow = true := joined_of waveBack_j0 waveBack_j1 waveBack_j2 waveBack_j3 waveBack_j4 waveBack_j5 waveBack_j6 waveBack_j7 waveBack_j8 waveBack_j9 waveBack_j10 waveBack_j11 waveBack_j12 waveBack_j13 waveBack_j14 waveBack_j15 waveBack_j16 waveBack_j17 waveBack_j18
end Go.Proofs.Ythfmjohbokpceaa
