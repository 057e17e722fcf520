import Derived.Test.YthfmjohbokpceaaWOpens
import Derived.Test.YthfmjohbokpceaaWvA
namespace Go.Proofs.Ythfmjohbokpceaa
open Go.ChangeShapes Go.WideShapes Go.ChangeAt Go.RowKit

theorem array4 {α : Type} {cs : Array α} (h : cs.size = 4) : ∃ c0 c1 c2 c3, cs = #[c0, c1, c2, c3] := by
  obtain ⟨l⟩ := cs
  match l, h with
  | [c0, c1, c2, c3], _ => exact ⟨c0, c1, c2, c3, rfl⟩
section
variable {H : Type} {enc : TypeId × Value → H} {W : World} {b0 base : Nat} {sp : Nat → Bool} {hd : Bool} {r : Reach} {v : Value} {d : DataW H} {p : List MemPlace}
theorem trod_struct4 {t : TypeId} {f0 f1 f2 f3 : Field} {fuel : Nat} {cs : List Value} {x : DataW H × List MemPlace} (ht : Try.prog.underlying t = some (.struct #[f0, f1, f2, f3])) (h : DataW.trod enc Try.prog W base sp hd fuel t cs = some x) :
    ∃ y0 y1 y2 y3 n, DataW.trod enc Try.prog W base sp hd n f0.type ((cs.drop f0.offset).take (Try.prog.cellsOf f0.type)) = some y0 ∧
      DataW.trod enc Try.prog W base sp hd n f1.type ((cs.drop f1.offset).take (Try.prog.cellsOf f1.type)) = some y1 ∧ DataW.trod enc Try.prog W base sp hd n f2.type ((cs.drop f2.offset).take (Try.prog.cellsOf f2.type)) = some y2 ∧
      DataW.trod enc Try.prog W base sp hd n f3.type ((cs.drop f3.offset).take (Try.prog.cellsOf f3.type)) = some y3 := by
  obtain ⟨xs, n, _, rfl, hl, hlen, hf⟩ := DataW.trod_struct ht h
  match xs, hlen with
  | [y0, y1, y2, y3], _ => exact ⟨y0, y1, y2, y3, n, by simpa using hf 0 f0 rfl, by simpa using hf 1 f1 rfl, by simpa using hf 2 f2 rfl, by simpa using hf 3 f3 rfl⟩

set_option maxRecDepth 100000 in
/-- a struct of four ints as it comes in -/
theorem open_four {t : TypeId} {f0 f1 f2 f3 : Field} (ht : Try.prog.underlying t = some (.struct #[f0, f1, f2, f3])) (hc : Try.prog.cellsOf t = 4) (h0 : Try.prog.underlying f0.type = some (.int .i64)) (h1 : Try.prog.underlying f1.type = some (.int .i64)) (h2 : Try.prog.underlying f2.type = some (.int .i64)) (h3 : Try.prog.underlying f3.type = some (.int .i64))
    (o0 : f0.offset = 0) (o1 : f1.offset = 1) (o2 : f2.offset = 2) (o3 : f3.offset = 3) (s0 : Try.prog.cellsOf f0.type = 1) (s1 : Try.prog.cellsOf f1.type = 1) (s2 : Try.prog.cellsOf f2.type = 1) (s3 : Try.prog.cellsOf f3.type = 1)
    (hv : Value.okWide Try.prog W r b0 t v) (h : DataW.Trod enc Try.prog W base sp hd t v d p) :
    ∃ a b c e, v = .agg #[.int .i64 a, .int .i64 b, .int .i64 c, .int .i64 e] ∧ (Lit.int .i64 a).wf = true ∧ (Lit.int .i64 b).wf = true ∧ (Lit.int .i64 c).wf = true ∧ (Lit.int .i64 e).wf = true := by
  obtain ⟨cs, rfl, hsz⟩ := okWide_struct ht hv
  obtain ⟨c0, c1, c2, c3, rfl⟩ := array4 (hsz.trans hc)
  obtain ⟨fuel, hf⟩ := h
  obtain ⟨y0, y1, y2, y3, n, g0, g1, g2, g3⟩ := trod_struct4 ht hf
  obtain ⟨a, e0, _, w0⟩ := DataW.trod_int h0 g0
  obtain ⟨b, e1, _, w1⟩ := DataW.trod_int h1 g1
  obtain ⟨c, e2, _, w2⟩ := DataW.trod_int h2 g2
  obtain ⟨e, e3, _, w3⟩ := DataW.trod_int h3 g3
  rw [o0, s0] at e0
  rw [o1, s1] at e1
  rw [o2, s2] at e2
  rw [o3, s3] at e3
  simp [Value.cells] at e0 e1 e2 e3
  subst e0 e1 e2 e3
  exact ⟨a, b, c, e, rfl, w0, w1, w2, w3⟩
set_option maxRecDepth 100000 in
/-- a number as it comes in -/
theorem open_num (hv : Value.okWide Try.prog W r b0 38 v) (h : DataW.Trod enc Try.prog W base sp hd 38 v d p) :
    ∃ x : Nm, v = nv x ∧ ((Lit.int .i64 x.1).wf = true ∧ (Lit.int .i64 x.2.1).wf = true ∧ (Lit.int .i64 x.2.2.1).wf = true ∧ (Lit.int .i64 x.2.2.2).wf = true) := by
  obtain ⟨a, b, c, e, rfl, q⟩ := open_four Try.underlying38 (by kernel_rfl) Try.underlying3 Try.underlying3 Try.underlying3 Try.underlying3 rfl rfl rfl rfl int_one int_one int_one int_one hv h
  exact ⟨(a, b, c, e), rfl, q⟩
end
end Go.Proofs.Ythfmjohbokpceaa
