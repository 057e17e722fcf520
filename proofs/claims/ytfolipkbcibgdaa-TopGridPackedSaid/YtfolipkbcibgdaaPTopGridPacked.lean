/- Allocations that are placed one behind the other, each at its first place, are all accepted together, and if there is no place any more, no slot of the subframes has so many neighbouring blocks free; for every carrier and want. -/
import Derived.Test.YtfolipkbcibgdaaJTopGridPacked
import Derived.Test.YtfolipkbcibgdaaOpenZ
import Derived.Test.YtfolipkbcibgdaaWLGrid
namespace Go.Proofs.Ytfolipkbcibgdaa
open Go.ChangeShapes Go.WideShapes Go.ChangeAt Go.RowKit
set_option linter.unusedVariables false

set_option maxRecDepth 100000 in
theorem topGridPacked_lifted (os : Os) (started : os.Started) (H : Type) (enc : TypeId × Value → H) :
    ReturnsInHanded {} Try.checked os 3 .any (Rows.topGridPackedSpec.pre6 enc Try.prog Try.f3 Rows.topGridPackedRow.domain false) (Rows.topGridPackedSpec.post enc Try.prog Try.f3 false true false false) := by
  refine returnsInHanded_of_change (C := Try.checked) own started (by kernel_rfl) Try.func3
    (ChangeSpec.witness6 (enc := enc) (C := Try.checked) false ⟨#[], #[.agg #[.string ⟨#[]⟩, .int .i64 0, .int .i64 0, .slice none 0 0, .slice none 0 0], .agg #[.int .i64 0, .int .i64 0, .int .i64 0, .int .i64 0, .int .i64 0, .int .i64 0]], []⟩ 8 (by kernel_rfl) (by kernel_rfl) (by kernel_rfl) (by kernel_rfl)) ?_
  intro W base args ds gs before hval0 hW hcnd _
  have hval : ∀ (j : Nat) t v, Try.f3.params[j]? = some t → args[j]? = some v → Value.okWide Try.prog W .any base t v := hval0
  have hW' := hW
  obtain ⟨p, q, hA0, hV, rfl, hfz, hnd⟩ := hW
  have hA : DataW.TrodAll enc Try.prog W 0 (fun _ => true) true Try.f3.params.toList args.toList ds p := hA0
  rw [Try.params3] at hA hval
  obtain ⟨v0, vs0, d0, ds0, p0, q0, hargs, rfl, rfl, h0, r0⟩ := trodAll_cons hA
  obtain ⟨v1, vs1, d1, ds1, p1, q1, rfl, rfl, rfl, h1, r1⟩ := trodAll_cons r0
  obtain ⟨rfl, rfl, rfl⟩ := trodAll_nil r1
  obtain rfl : args = #[v0, v1] := by cases args; simp_all
  obtain ⟨rfl, rfl⟩ := trodVars_none hV
  have k0 := h0
  have lt0 : ∀ x ∈ p0, x.block < W.heap.size := by obtain ⟨m, hm⟩ := k0; exact DataW.trod_lt m _ _ _ hm
  obtain ⟨nm0, x0a, x0b, A0, B0, j0, e0, L0, M0, rfl, hs0, ht0⟩ := open_carrier (hval 0 25 v0 rfl rfl) h0
  have k1 := h1
  have lt1 : ∀ x ∈ p1, x.block < W.heap.size := by obtain ⟨m, hm⟩ := k1; exact DataW.trod_lt m _ _ _ hm
  obtain ⟨x1a, x1b, x1c, x1d, x1e, x1f, rfl⟩ := open_want (hval 1 27 v1 rfl rfl) h1
  clear hA0 hval0
  refine (TopGridPacked_law nm0 x0a x0b A0 B0 j0 e0 L0 M0 x1a x1b x1c x1d x1e x1f W hs0 ht0).mono fun e W' ⟨he, bel⟩ => ?_
  subst he
  exact ⟨_, rfl, _, _, _, [], _, [], hW', trodAll_mk1 (shut_bool Try.underlying4 _), (trodAll_cons_mk (Below.trod laidOut (by kernel_rfl) (of_decide_eq_true (by kernel_rfl)) k0 bel lt0) (trodAll_cons_mk (Below.trod laidOut (by kernel_rfl) (of_decide_eq_true (by kernel_rfl)) k1 bel lt1) trodAll_mk0)), rfl, bel.frame _, fun h => by cases h⟩

theorem topGridPacked_wrap : Try.f3.isWrapper Try.pinned.checked.prog Rows.topGridPackedRow.wrapper Rows.topGridPackedRow.mainSum := by
  unfold Func.isWrapper; first | (rw [if_pos (by decide +kernel)]; kernel_rfl) | (rw [if_neg (by decide +kernel)]; exact ⟨rfl, rfl⟩)

theorem topGridPacked_named : Try.pinned.checked.prog.funcNamed Rows.topGridPackedRow.func = some 3 := by kernel_rfl

theorem topGridPacked_holds : Rows.TopGridPackedSaid :=
  OpenClaim.holds_of_wide 3 Try.f3 rfl rfl rfl rfl rfl rfl rfl ⟨rfl, rfl, rfl, rfl, rfl⟩ rfl rfl rfl rfl rfl topGridPacked_named Try.func3 topGridPacked_joined
    (of_decide_eq_true (by kernel_rfl)) topGridPacked_wrap (fun os started H enc _ => topGridPacked_lifted os started H enc)
#print axioms topGridPacked_holds
end Go.Proofs.Ytfolipkbcibgdaa
