/- Of two registers whose sequences differ within so many bits only the one that scrambled them gives the bits back, and behind a jump both go on as one register does; for every two registers and bits. -/
import Derived.Test.YtehcmhblppjalaaJTopSymbolScrambled
import Derived.Test.YtehcmhblppjalaaOpenR
import Derived.Test.YtehcmhblppjalaaWLSym
namespace Go.Proofs.Ytehcmhblppjalaa
open Go.ChangeShapes Go.WideShapes Go.ChangeAt Go.RowKit
set_option linter.unusedVariables false

set_option maxRecDepth 100000 in
theorem topSymbolScrambled_lifted (os : Os) (started : os.Started) (H : Type) (enc : TypeId × Value → H) :
    ReturnsInHanded {} Try.checked os 3 .any (Rows.topSymbolScrambledSpec.pre6 enc Try.prog Try.f3 Rows.topSymbolScrambledRow.domain false) (Rows.topSymbolScrambledSpec.post enc Try.prog Try.f3 false true false false) := by
  refine returnsInHanded_of_change (C := Try.checked) own started (by kernel_rfl) Try.func3
    (ChangeSpec.witness6 (enc := enc) (C := Try.checked) false ⟨#[], #[.agg #[.int .i64 0, .slice none 0 0, .slice none 0 0], .agg #[.int .i64 0, .slice none 0 0, .slice none 0 0], .slice none 0 0], []⟩ 8 (by kernel_rfl) (by kernel_rfl) (by kernel_rfl) (by kernel_rfl)) ?_
  intro W base args ds gs before hval0 hW hcnd _
  have hval : ∀ (j : Nat) t v, Try.f3.params[j]? = some t → args[j]? = some v → Value.okWide Try.prog W .any base t v := hval0
  have hW' := hW
  obtain ⟨p, q, hA0, hV, rfl, hfz, hnd⟩ := hW
  have hA : DataW.TrodAll enc Try.prog W 0 (fun _ => true) true Try.f3.params.toList args.toList ds p := hA0
  rw [Try.params3] at hA hval
  obtain ⟨v0, vs0, d0, ds0, p0, q0, hargs, rfl, rfl, h0, r0⟩ := trodAll_cons hA
  obtain ⟨v1, vs1, d1, ds1, p1, q1, rfl, rfl, rfl, h1, r1⟩ := trodAll_cons r0
  obtain ⟨v2, vs2, d2, ds2, p2, q2, rfl, rfl, rfl, h2, r2⟩ := trodAll_cons r1
  obtain ⟨rfl, rfl, rfl⟩ := trodAll_nil r2
  obtain rfl : args = #[v0, v1, v2] := by cases args; simp_all
  obtain ⟨rfl, rfl⟩ := trodVars_none hV
  have k0 := h0
  have lt0 : ∀ x ∈ p0, x.block < W.heap.size := by obtain ⟨m, hm⟩ := k0; exact DataW.trod_lt m _ _ _ hm
  obtain ⟨L0, A0, B0, c0, e0, l0, m0, rfl, hs0, ht0⟩ := open_reg (hval 0 24 v0 rfl rfl) h0
  have k1 := h1
  have lt1 : ∀ x ∈ p1, x.block < W.heap.size := by obtain ⟨m, hm⟩ := k1; exact DataW.trod_lt m _ _ _ hm
  obtain ⟨L1, A1, B1, c1, e1, l1, m1, rfl, hs1, ht1⟩ := open_reg (hval 1 24 v1 rfl rfl) h1
  have k2 := h2
  have lt2 : ∀ x ∈ p2, x.block < W.heap.size := by obtain ⟨m, hm⟩ := k2; exact DataW.trod_lt m _ _ _ hm
  obtain ⟨A2, c2, l2, rfl, hs2, hw2⟩ := open_list Try.underlying22 Try.underlying3 int_one (hval 2 22 v2 rfl rfl) h2
  clear hA0 hval0
  refine (TopSymbolScrambled_lawP L0 A0 B0 c0 e0 l0 m0 L1 A1 B1 c1 e1 l1 m1 A2 c2 l2 W hs2 hs0 ht0 hs1 ht1).mono fun e W' ⟨he, bel⟩ => ?_
  subst he
  exact ⟨_, rfl, _, _, _, [], _, [], hW', trodAll_mk1 (shut_bool Try.underlying4 _), (trodAll_cons_mk (Below.trod laidOut (by kernel_rfl) (of_decide_eq_true (by kernel_rfl)) k0 bel lt0) (trodAll_cons_mk (Below.trod laidOut (by kernel_rfl) (of_decide_eq_true (by kernel_rfl)) k1 bel lt1) (trodAll_cons_mk (Below.trod laidOut (by kernel_rfl) (of_decide_eq_true (by kernel_rfl)) k2 bel lt2) trodAll_mk0))), rfl, bel.frame _, fun h => by cases h⟩

theorem topSymbolScrambled_wrap : Try.f3.isWrapper Try.pinned.checked.prog Rows.topSymbolScrambledRow.wrapper Rows.topSymbolScrambledRow.mainSum := by
  unfold Func.isWrapper; first | (rw [if_pos (by decide +kernel)]; kernel_rfl) | (rw [if_neg (by decide +kernel)]; exact ⟨rfl, rfl⟩)

theorem topSymbolScrambled_named : Try.pinned.checked.prog.funcNamed Rows.topSymbolScrambledRow.func = some 3 := by kernel_rfl

theorem topSymbolScrambled_holds : Rows.TopSymbolScrambledSaid :=
  OpenClaim.holds_of_wide 3 Try.f3 rfl rfl rfl rfl rfl rfl rfl ⟨rfl, rfl, rfl, rfl, rfl⟩ rfl rfl rfl rfl rfl topSymbolScrambled_named Try.func3 topSymbolScrambled_joined
    (of_decide_eq_true (by kernel_rfl)) topSymbolScrambled_wrap (fun os started H enc _ => topSymbolScrambled_lifted os started H enc)
#print axioms topSymbolScrambled_holds
end Go.Proofs.Ytehcmhblppjalaa
