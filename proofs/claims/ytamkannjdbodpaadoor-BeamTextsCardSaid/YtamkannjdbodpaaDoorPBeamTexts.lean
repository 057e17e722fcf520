/- The text of a beam, and the beam with any text, or the errors, are as specified, and a right beam is read back; for every beam and every text (what the law lists of package variables is tied to the text of the program). -/
import Derived.Test.YtamkannjdbodpaaDoorJBeamTexts
import Derived.Test.YtamkannjdbodpaaDoorOpenD
import Derived.Test.YtamkannjdbodpaaDoorLTexts
import Derived.Test.YtamkannjdbodpaaDoorTie
import Derived.Test.YtamkannjdbodpaaDoorCards
import Derived.LaidMore
import Derived.Lay
import Derived.SevenTiedAt
import Derived.Stop.Joined
namespace Go.Proofs.YtamkannjdbodpaaDoor
open Go.ChangeShapes Go.WideShapes Go.ChangeAt Go.RowKit
set_option linter.unusedVariables false

set_option maxRecDepth 100000 in
theorem beamTexts_lifted (os : Os) (started : os.Started) (H : Type) (enc : TypeId × Value → H) :
    ReturnsInHanded {} Tryd.checked os 3 .any (fun w args => (Rows.beamTextsSpec.pre enc Tryd.prog Tryd.f3 Rows.beamTextsRow.domain false w args ∧ laidMetH Tryd.prog Rows.beamTextsRow.laid w) ∧ sizedMet enc Tryd.prog Tryd.f3 (OpenSpec.ofChange Rows.beamTextsSpec) false w args)
      (Rows.beamTextsSpec.post enc Tryd.prog Tryd.f3 false true false false) := by
  refine handed_shaped (C := Tryd.checked) (X := fun w _ => laidMetH Tryd.prog Rows.beamTextsRow.laid w) (fun _ _ _ hh h => h.of_heap hh) own started (by kernel_rfl) Tryd.func3
    (ChangeSpec.witness_shaped (enc := enc) (C := Tryd.checked) (os := os) (X := fun w _ => laidMetH Tryd.prog Rows.beamTextsRow.laid w) false (World.laidAll Tryd.prog os Rows.beamTextsRow.laid) #[.agg #[.slice none 0 0], .string ⟨#[]⟩] 8 (World.laidAll_os _ _ _)
      (World.shaped_of_ZipB (by kernel_rfl) (by kernel_rfl)) (by kernel_rfl) (by kernel_rfl) (by kernel_rfl)
      (by rw [MakeChecks.laidMetH_plain _ _ _ (by kernel_rfl)]; exact laidMet_laidAll _ (by kernel_rfl) (by kernel_rfl))) ?_
  intro W base args ds gs before hval0 hW hcnd hL hsh
  obtain ⟨mx, hmx⟩ := maxLen_int W hsh
  have hval : ∀ (j : Nat) t v, Tryd.f3.params[j]? = some t → args[j]? = some v → Value.okWide Tryd.prog W .any base t v := hval0
  have hW' := hW
  obtain ⟨p, q, hA0, hV, rfl, hfz, hnd⟩ := hW
  have hA : DataW.TrodAll enc Tryd.prog W 0 (fun _ => true) true Tryd.f3.params.toList args.toList ds p := hA0
  rw [Tryd.params3] at hA hval
  obtain ⟨v0, vs0, d0, ds0, p0, q0, hargs, rfl, rfl, h0, r0⟩ := trodAll_cons hA
  obtain ⟨v1, vs1, d1, ds1, p1, q1, rfl, rfl, rfl, h1, r1⟩ := trodAll_cons r0
  obtain ⟨rfl, rfl, rfl⟩ := trodAll_nil r1
  obtain rfl : args = #[v0, v1] := by cases args; simp_all
  obtain ⟨rfl, rfl⟩ := trodVars_none hV
  have k0 := h0
  have lt0 : ∀ x ∈ p0, x.block < W.heap.size := by obtain ⟨m, hm⟩ := k0; exact DataW.trod_lt m _ _ _ hm
  obtain ⟨A0, c0, l0, rfl, hs0, hw0⟩ := open_beam (hval 0 24 v0 rfl rfl) h0
  have k1 := h1
  have lt1 : ∀ x ∈ p1, x.block < W.heap.size := by obtain ⟨m, hm⟩ := k1; exact DataW.trod_lt m _ _ _ hm
  obtain ⟨s1, rfl⟩ := open_str (hval 1 9 v1 rfl rfl) h1
  clear hA0 hval0
  refine (BeamTexts_lawP A0 c0 l0 s1 mx W hs0 hmx).mono fun e W' ⟨he, bel⟩ => ?_
  subst he
  exact ⟨_, rfl, _, _, _, [], _, [], hW', trodAll_mk1 (shut_bool Tryd.underlying4 _), (trodAll_cons_mk (Below.trod laidOut (by kernel_rfl) (of_decide_eq_true (by kernel_rfl)) k0 bel lt0) (trodAll_cons_mk (Below.trod laidOut (by kernel_rfl) (of_decide_eq_true (by kernel_rfl)) k1 bel lt1) trodAll_mk0)), rfl, bel.frame _, fun h => by cases h⟩
theorem beamTexts_wrap : Tryd.f3.isWrapper Tryd.pinned.checked.prog Rows.beamTextsRow.wrapper Rows.beamTextsRow.mainSum := by
  unfold Func.isWrapper; first | (rw [if_pos (by decide +kernel)]; kernel_rfl) | (rw [if_neg (by decide +kernel)]; exact ⟨rfl, rfl⟩)
theorem beamTexts_named : Tryd.pinned.checked.prog.funcNamed Rows.beamTextsRow.func = some 3 := by kernel_rfl
theorem beamTexts_said : Rows.BeamTextsSaid :=
  OpenClaim.holds_of_wide 3 Tryd.f3 rfl rfl rfl rfl rfl rfl rfl ⟨rfl, rfl, rfl, rfl, rfl⟩ rfl rfl rfl rfl rfl beamTexts_named Tryd.func3 beamTexts_joined
    (of_decide_eq_true (by kernel_rfl)) beamTexts_wrap (fun os started H enc _ => beamTexts_lifted os started H enc)
theorem beamTexts_plain (f : FuncId) (fn : Func) (hf : Tryd.pinned.checked.prog.funcNamed Rows.beamTextsRow.func = some f) (hfn : Tryd.pinned.checked.prog.funcs[f]? = some fn) :
    false = Tryd.pinned.checked.prog.looks [] ∧ ∀ (j : Nat) t, fn.params[j]? = some t → Tryd.pinned.checked.prog.wantsStandIn t = false := by
  obtain rfl : f = 3 := Option.some.inj (beamTexts_named.symm.trans hf) |>.symm
  obtain rfl : fn = Tryd.f3 := (Option.some.inj (Tryd.func3.symm.trans hfn)).symm
  refine ⟨by kernel_rfl, fun j t ht => ?_⟩
  rw [Tryd.params3] at ht
  have hm : t ∈ [24, 9] := by simpa using Array.mem_of_getElem? ht
  have hall : ([24, 9].all fun u => !Tryd.prog.wantsStandIn u) = true := by kernel_rfl
  exact (show Tryd.prog.wantsStandIn t = false by simpa using List.all_eq_true.1 hall t hm)
theorem beamTexts_holds : Rows.BeamTextsCardSaid :=
  Claim7.holds_tied_plain_at .later [] _ _ _ _ beamTexts_said (fun _ h => by cases h) (by kernel_rfl) (fun _ h => by cases h) beamTexts_row_tie rfl ⟨rfl, rfl⟩ (by kernel_rfl) rfl beamTexts_plain (by kernel_rfl)
#print axioms beamTexts_holds
end Go.Proofs.YtamkannjdbodpaaDoor
