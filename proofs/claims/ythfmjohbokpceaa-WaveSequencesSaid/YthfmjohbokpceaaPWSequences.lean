/- The statement WaveSequences: the shifts and the sequence of an identity, and its correlation with received values, or the errors, are as the document says. No condition. -/
import Derived.Test.YthfmjohbokpceaaWOpens2
import Derived.Test.YthfmjohbokpceaaWLSequences
namespace Go.Proofs.Ythfmjohbokpceaa
open Go.ChangeShapes Go.WideShapes Go.ChangeAt Go.RowKit
set_option linter.unusedVariables false

set_option maxRecDepth 100000 in
theorem waveSequences_lifted (os : Os) (started : os.Started) (H : Type) (enc : TypeId × Value → H) :
    ReturnsInHanded {} Try.checked os 7 .any (Rows.waveSequencesSpec.pre6 enc Try.prog Try.f7 Rows.waveSequencesRow.domain false) (Rows.waveSequencesSpec.post enc Try.prog Try.f7 false true false false) := by
  refine returnsInHanded_of_change (C := Try.checked) own started (by kernel_rfl) Try.func7
    (ChangeSpec.witness6 (enc := enc) (C := Try.checked) false ⟨#[], #[.int .i64 0, .slice none 0 0], []⟩ 8 (by kernel_rfl) (by kernel_rfl) (by kernel_rfl) (by kernel_rfl)) ?_
  intro W base args ds gs before hval0 hW hcnd _
  have hval : ∀ (j : Nat) t v, Try.f7.params[j]? = some t → args[j]? = some v → Value.okWide Try.prog W .any base t v := hval0
  have hW' := hW
  obtain ⟨p, q, hA0, hV, rfl, hfz, hnd⟩ := hW
  have hA : DataW.TrodAll enc Try.prog W 0 (fun _ => true) true Try.f7.params.toList args.toList ds p := hA0
  rw [Try.params7] at hA hval
  obtain ⟨v0, vs0, d0, ds0, p0, q0, hargs, rfl, rfl, h0, r0⟩ := trodAll_cons hA
  obtain ⟨v1, vs1, d1, ds1, p1, q1, rfl, rfl, rfl, h1, r1⟩ := trodAll_cons r0
  obtain ⟨rfl, rfl, rfl⟩ := trodAll_nil r1
  obtain rfl : args = #[v0, v1] := by cases args; simp_all
  obtain ⟨rfl, rfl⟩ := trodVars_none hV
  obtain ⟨a0, rfl, rfl, rfl, w0⟩ := open_int Try.underlying3 (hval 0 3 v0 rfl rfl) h0
  have k1 := h1
  have lt1 : ∀ x ∈ p1, x.block < W.heap.size := by obtain ⟨m, hm⟩ := k1; exact DataW.trod_lt m _ _ _ hm
  obtain ⟨A1, c1, l1, rfl, hs1, hw1⟩ := open_list Try.underlying24 Try.underlying3 int_one (hval 1 24 v1 rfl rfl) h1
  clear hA0 hval0
  refine (WaveSequences_law a0 A1 c1 l1 W hs1).mono fun e W' ⟨he, bel⟩ => ?_
  subst he
  exact ⟨_, rfl, _, _, _, [], _, [], hW', trodAll_mk1 (shut_bool Try.underlying4 _), (trodAll_cons_mk (shut_int Try.underlying3 w0) (trodAll_cons_mk (Below.trod laidOut (by kernel_rfl) (of_decide_eq_true (by kernel_rfl)) k1 bel lt1) trodAll_mk0)), rfl, bel.frame _, fun h => by cases h⟩

theorem waveSequences_wrap : Try.f7.isWrapper Try.pinned.checked.prog Rows.waveSequencesRow.wrapper Rows.waveSequencesRow.mainSum := by
  unfold Func.isWrapper; first | (rw [if_pos (by decide +kernel)]; kernel_rfl) | (rw [if_neg (by decide +kernel)]; exact ⟨rfl, rfl⟩)

theorem waveSequences_joined : joinedFacts Try.pinned.checked.prog 7 Try.f7 Rows.waveSequencesSpec Rows.waveSequencesRow = true := by kernel_rfl

theorem waveSequences_named : Try.pinned.checked.prog.funcNamed Rows.waveSequencesRow.func = some 7 := by kernel_rfl

theorem waveSequences_holds : Rows.WaveSequencesSaid :=
  OpenClaim.holds_of_wide 7 Try.f7 rfl rfl rfl rfl rfl rfl rfl ⟨rfl, rfl, rfl, rfl, rfl⟩ rfl rfl rfl rfl rfl waveSequences_named Try.func7 waveSequences_joined
    (of_decide_eq_true (by kernel_rfl)) waveSequences_wrap (fun os started H enc _ => waveSequences_lifted os started H enc)
#print axioms waveSequences_holds
end Go.Proofs.Ythfmjohbokpceaa
