/- The statement WaveFinds: where a sequence is received among zeros its place and identity are found; at its place the identity is right even with errors, if 62 times the greatest one is less than 11 times its strength. No condition. -/
import Derived.Test.YthfmjohbokpceaaWOpens
import Derived.Deep.Slices
import Derived.Test.YthfmjohbokpceaaJWFinds
import Derived.Test.YthfmjohbokpceaaWLFinds
namespace Go.Proofs.Ythfmjohbokpceaa
open Go.RowKit Go.WideShapes Go.ChangeShapes Go.Deep

/-! a slice of int as it comes in, with its capacity -/
section
variable {H : Type} {enc : TypeId × Value → H} {W : World} {b0 base : Nat} {sp : Nat → Bool} {hd : Bool} {r : Reach} {v : Value} {d : DataW H} {p : List MemPlace}
set_option maxRecDepth 100000 in
theorem open_ints_cap (hv : Value.okWide Try.prog W r b0 24 v) (h : DataW.Trod enc Try.prog W base sp hd 24 v d p) : ∃ A c l, v = .slice A l.length c ∧ Sl W A (iv l) ∧ l.length ≤ c := by
  obtain ⟨A, c, l, e, hs, _⟩ := open_list Try.underlying24 Try.underlying3 int_one hv h
  refine ⟨A, c, l, e, hs, ?_⟩
  subst e
  obtain ⟨fuel, hh⟩ := h
  rcases open_slice Try.underlying24 (by simpa [Value.cells] using hh) with ⟨hcs, _⟩ | ⟨a, len', cap, m, k, D, Pl, hcs, _, hl, _⟩
  · injection hcs with hcs _
    injection hcs with h1 h2 h3
    omega
  · injection hcs with hcs _
    injection hcs with h1 h2 h3
    omega
end
end Go.Proofs.Ythfmjohbokpceaa

namespace Go.Proofs.Ythfmjohbokpceaa
open Go.ChangeShapes Go.WideShapes Go.ChangeAt Go.RowKit

/-! a signal as it comes in -/
theorem array5 {α : Type} {cs : Array α} (h : cs.size = 5) : ∃ c0 c1 c2 c3 c4, cs = #[c0, c1, c2, c3, c4] := by
  obtain ⟨l⟩ := cs
  match l, h with
  | [c0, c1, c2, c3, c4], _ => exact ⟨c0, c1, c2, c3, c4, rfl⟩
section
variable {H : Type} {enc : TypeId × Value → H} {W : World} {b0 base : Nat} {sp : Nat → Bool} {hd : Bool} {r : Reach} {v : Value} {d : DataW H} {p : List MemPlace}
theorem trod_struct5 {t : TypeId} {f0 f1 f2 f3 f4 : Field} {fuel : Nat} {cs : List Value} {x : DataW H × List MemPlace} (ht : Try.prog.underlying t = some (.struct #[f0, f1, f2, f3, f4])) (h : DataW.trod enc Try.prog W base sp hd fuel t cs = some x) :
    ∃ y0 y1 y2 y3 y4 n, DataW.trod enc Try.prog W base sp hd n f0.type ((cs.drop f0.offset).take (Try.prog.cellsOf f0.type)) = some y0 ∧
      DataW.trod enc Try.prog W base sp hd n f1.type ((cs.drop f1.offset).take (Try.prog.cellsOf f1.type)) = some y1 ∧ DataW.trod enc Try.prog W base sp hd n f2.type ((cs.drop f2.offset).take (Try.prog.cellsOf f2.type)) = some y2 ∧
      DataW.trod enc Try.prog W base sp hd n f3.type ((cs.drop f3.offset).take (Try.prog.cellsOf f3.type)) = some y3 ∧ DataW.trod enc Try.prog W base sp hd n f4.type ((cs.drop f4.offset).take (Try.prog.cellsOf f4.type)) = some y4 := by
  obtain ⟨xs, n, _, rfl, hl, hlen, hf⟩ := DataW.trod_struct ht h
  match xs, hlen with
  | [y0, y1, y2, y3, y4], _ => exact ⟨y0, y1, y2, y3, y4, n, by simpa using hf 0 f0 rfl, by simpa using hf 1 f1 rfl, by simpa using hf 2 f2 rfl, by simpa using hf 3 f3 rfl, by simpa using hf 4 f4 rfl⟩
set_option maxRecDepth 100000 in
theorem open_signal (hv : Value.okWide Try.prog W r b0 135 v) (h : DataW.Trod enc Try.prog W base sp hd 135 v d p) :
    ∃ a b c e A k l, v = .agg #[.int .i64 a, .int .i64 b, .int .i64 c, .int .i64 e, .slice A l.length k] ∧ Sl W A (iv l) := by
  obtain ⟨cs, rfl, hsz⟩ := okWide_struct Try.underlying135 hv
  obtain ⟨c0, c1, c2, c3, c4, rfl⟩ := array5 (hsz.trans (by kernel_rfl))
  obtain ⟨fuel, hf⟩ := h
  obtain ⟨y0, y1, y2, y3, y4, n, g0, g1, g2, g3, g4⟩ := trod_struct5 Try.underlying135 hf
  obtain ⟨a, e0, _, w0⟩ := DataW.trod_int Try.underlying3 g0
  obtain ⟨b, e1, _, w1⟩ := DataW.trod_int Try.underlying3 g1
  obtain ⟨c, e2, _, w2⟩ := DataW.trod_int Try.underlying3 g2
  obtain ⟨e, e3, _, w3⟩ := DataW.trod_int Try.underlying3 g3
  obtain ⟨A, k, l, e4, hs, _⟩ := open_sl (v := c4) Try.underlying24 Try.underlying3 int_one (by simpa [Value.cells, ints_one] using g4)
  rw [int_one] at e0 e1 e2 e3
  simp [Value.cells] at e0 e1 e2 e3
  subst e0 e1 e2 e3 e4
  exact ⟨a, b, c, e, A, k, l, rfl, hs⟩
end
end Go.Proofs.Ythfmjohbokpceaa

namespace Go.Proofs.Ythfmjohbokpceaa
open Go.ChangeShapes Go.WideShapes Go.ChangeAt Go.RowKit
set_option linter.unusedVariables false

set_option maxRecDepth 100000 in
theorem waveFinds_lifted (os : Os) (started : os.Started) (H : Type) (enc : TypeId × Value → H) :
    ReturnsInHanded {} Try.checked os 15 .any (Rows.waveFindsSpec.pre6 enc Try.prog Try.f15 Rows.waveFindsRow.domain false) (Rows.waveFindsSpec.post enc Try.prog Try.f15 false true false false) := by
  refine returnsInHanded_of_change (C := Try.checked) own started (by kernel_rfl) Try.func15
    (ChangeSpec.witness6 (enc := enc) (C := Try.checked) false ⟨#[], #[.agg #[.int .i64 0, .int .i64 0, .int .i64 0, .int .i64 0, .slice none 0 0]], []⟩ 8 (by kernel_rfl) (by kernel_rfl) (by kernel_rfl) (by kernel_rfl)) ?_
  intro W base args ds gs before hval0 hW hcnd _
  have hval : ∀ (j : Nat) t v, Try.f15.params[j]? = some t → args[j]? = some v → Value.okWide Try.prog W .any base t v := hval0
  have hW' := hW
  obtain ⟨p, q, hA0, hV, rfl, hfz, hnd⟩ := hW
  have hA : DataW.TrodAll enc Try.prog W 0 (fun _ => true) true Try.f15.params.toList args.toList ds p := hA0
  rw [Try.params15] at hA hval
  obtain ⟨v0, vs0, d0, ds0, p0, q0, hargs, rfl, rfl, h0, r0⟩ := trodAll_cons hA
  obtain ⟨rfl, rfl, rfl⟩ := trodAll_nil r0
  obtain rfl : args = #[v0] := by cases args; simp_all
  obtain ⟨rfl, rfl⟩ := trodVars_none hV
  have k0 := h0
  have lt0 : ∀ x ∈ p0, x.block < W.heap.size := by obtain ⟨m, hm⟩ := k0; exact DataW.trod_lt m _ _ _ hm
  obtain ⟨a0, b0, c0, e0, A0, k0', l0, rfl, hs0⟩ := open_signal (hval 0 135 v0 rfl rfl) h0
  clear hA0 hval0
  refine (WaveFinds_law a0 b0 c0 e0 A0 k0' l0.length l0 W rfl hs0).mono fun e W' ⟨he, bel⟩ => ?_
  subst he
  exact ⟨_, rfl, _, _, _, [], _, [], hW', trodAll_mk1 (shut_bool Try.underlying4 _), (trodAll_cons_mk (Below.trod laidOut (by kernel_rfl) (of_decide_eq_true (by kernel_rfl)) k0 bel lt0) trodAll_mk0), rfl, bel.frame _, fun h => by cases h⟩

theorem waveFinds_wrap : Try.f15.isWrapper Try.pinned.checked.prog Rows.waveFindsRow.wrapper Rows.waveFindsRow.mainSum := by
  unfold Func.isWrapper; first | (rw [if_pos (by decide +kernel)]; kernel_rfl) | (rw [if_neg (by decide +kernel)]; exact ⟨rfl, rfl⟩)

theorem waveFinds_named : Try.pinned.checked.prog.funcNamed Rows.waveFindsRow.func = some 15 := by kernel_rfl

theorem waveFinds_holds : Rows.WaveFindsSaid :=
  OpenClaim.holds_of_wide 15 Try.f15 rfl rfl rfl rfl rfl rfl rfl ⟨rfl, rfl, rfl, rfl, rfl⟩ rfl rfl rfl rfl rfl waveFinds_named Try.func15 waveFinds_joined
    (of_decide_eq_true (by kernel_rfl)) waveFinds_wrap (fun os started H enc _ => waveFinds_lifted os started H enc)
#print axioms waveFinds_holds
end Go.Proofs.Ythfmjohbokpceaa
