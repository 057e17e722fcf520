/- A bearer whose bursts arrive as one, alone in its site, is served within the delay that its need proves, and not always within one slot less; for every site and bearer. -/
import Derived.Test.YtppkibgemacdbaaJTopSchedDelay
import Derived.Test.YtppkibgemacdbaaOpenQ
import Derived.Test.YtppkibgemacdbaaWLDelay
namespace Go.Proofs.Ytppkibgemacdbaa
open Go.ChangeShapes Go.WideShapes Go.ChangeAt Go.RowKit
set_option linter.unusedVariables false

set_option maxRecDepth 100000 in
theorem topSchedDelay_lifted (os : Os) (started : os.Started) (H : Type) (enc : TypeId × Value → H) :
    ReturnsInHanded {} Try.checked os 4 .any (Rows.topSchedDelaySpec.pre6 enc Try.prog Try.f4 Rows.topSchedDelayRow.domain false) (Rows.topSchedDelaySpec.post enc Try.prog Try.f4 false true false false) := by
  refine returnsInHanded_of_change (C := Try.checked) own started (by kernel_rfl) Try.func4
    (ChangeSpec.witness6 (enc := enc) (C := Try.checked) false ⟨#[], #[.agg #[.int .i64 0, .int .i64 0, .int .i64 0, .slice none 0 0], .agg #[.string ⟨#[]⟩, .int .i64 0, .int .i64 0, .int .i64 0, .int .i64 0, .int .i64 0, .int .i64 0, .int .i64 0, .int .i64 0]], []⟩ 8 (by kernel_rfl) (by kernel_rfl) (by kernel_rfl) (by kernel_rfl)) ?_
  intro W base args ds gs before hval0 hW hcnd _
  have hval : ∀ (j : Nat) t v, Try.f4.params[j]? = some t → args[j]? = some v → Value.okWide Try.prog W .any base t v := hval0
  have hW' := hW
  obtain ⟨p, q, hA0, hV, rfl, hfz, hnd⟩ := hW
  have hA : DataW.TrodAll enc Try.prog W 0 (fun _ => true) true Try.f4.params.toList args.toList ds p := hA0
  rw [Try.params4] at hA hval
  obtain ⟨v0, vs0, d0, ds0, p0, q0, hargs, rfl, rfl, h0, r0⟩ := trodAll_cons hA
  obtain ⟨v1, vs1, d1, ds1, p1, q1, rfl, rfl, rfl, h1, r1⟩ := trodAll_cons r0
  obtain ⟨rfl, rfl, rfl⟩ := trodAll_nil r1
  obtain rfl : args = #[v0, v1] := by cases args; simp_all
  obtain ⟨rfl, rfl⟩ := trodVars_none hV
  have k0 := h0
  have lt0 : ∀ x ∈ p0, x.block < W.heap.size := by obtain ⟨m, hm⟩ := k0; exact DataW.trod_lt m _ _ _ hm
  obtain ⟨a0, b0, c0, A0, j0, l0, rfl, hs0⟩ := open_site (hval 0 24 v0 rfl rfl) h0
  have k1 := h1
  have lt1 : ∀ x ∈ p1, x.block < W.heap.size := by obtain ⟨m, hm⟩ := k1; exact DataW.trod_lt m _ _ _ hm
  obtain ⟨nm1, x1a, x1b, x1c, x1d, x1e, x1f, x1g, x1h, rfl⟩ := open_bearer (hval 1 32 v1 rfl rfl) h1
  clear hA0 hval0
  refine (TopSchedDelay_law a0 b0 c0 A0 j0 l0.length l0 nm1 x1a x1b x1c x1d x1e x1f x1g x1h W rfl hs0).mono fun e W' ⟨he, bel⟩ => ?_
  subst he
  exact ⟨_, rfl, _, _, _, [], _, [], hW', trodAll_mk1 (shut_bool Try.underlying4 _), (trodAll_cons_mk (Below.trod laidOut (by kernel_rfl) (of_decide_eq_true (by kernel_rfl)) k0 bel lt0) (trodAll_cons_mk (Below.trod laidOut (by kernel_rfl) (of_decide_eq_true (by kernel_rfl)) k1 bel lt1) trodAll_mk0)), rfl, bel.frame _, fun h => by cases h⟩

theorem topSchedDelay_wrap : Try.f4.isWrapper Try.pinned.checked.prog Rows.topSchedDelayRow.wrapper Rows.topSchedDelayRow.mainSum := by
  unfold Func.isWrapper; first | (rw [if_pos (by decide +kernel)]; kernel_rfl) | (rw [if_neg (by decide +kernel)]; exact ⟨rfl, rfl⟩)

theorem topSchedDelay_named : Try.pinned.checked.prog.funcNamed Rows.topSchedDelayRow.func = some 4 := by kernel_rfl

theorem topSchedDelay_holds : Rows.TopSchedDelaySaid :=
  OpenClaim.holds_of_wide 4 Try.f4 rfl rfl rfl rfl rfl rfl rfl ⟨rfl, rfl, rfl, rfl, rfl⟩ rfl rfl rfl rfl rfl topSchedDelay_named Try.func4 topSchedDelay_joined
    (of_decide_eq_true (by kernel_rfl)) topSchedDelay_wrap (fun os started H enc _ => topSchedDelay_lifted os started H enc)
#print axioms topSchedDelay_holds
end Go.Proofs.Ytppkibgemacdbaa
