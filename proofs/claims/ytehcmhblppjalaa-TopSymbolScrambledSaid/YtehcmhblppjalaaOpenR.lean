import Derived.Test.YtehcmhblppjalaaWOpens
namespace Go.Proofs.Ytehcmhblppjalaa
open Go.ChangeShapes Go.WideShapes Go.ChangeAt Go.RowKit

section
variable {H : Type} {enc : TypeId × Value → H} {W : World} {b0 base : Nat} {sp : Nat → Bool} {hd : Bool} {r : Reach} {v : Value} {d : DataW H} {p : List MemPlace}

set_option maxRecDepth 100000 in
/-- a register as it comes in -/
theorem open_reg (hv : Value.okWide Try.prog W r b0 24 v) (h : DataW.Trod enc Try.prog W base sp hd 24 v d p) :
    ∃ a A B j k l m, v = .agg #[.int .i64 a, .slice A l.length j, .slice B m.length k] ∧ Sl W A (iv l) ∧ Sl W B (iv m) := by
  obtain ⟨cs, rfl, hsz⟩ := okWide_struct Try.underlying24 hv
  obtain ⟨c0, c1, c2, rfl⟩ := array3 (hsz.trans (by kernel_rfl))
  obtain ⟨fuel, hf⟩ := h
  obtain ⟨y0, y1, y2, n, g0, g1, g2⟩ := trod_struct3 Try.underlying24 hf
  obtain ⟨a, e0, _, _⟩ := DataW.trod_int Try.underlying3 g0
  obtain ⟨A, j, l, e1, hs, _⟩ := open_sl (v := c1) Try.underlying22 Try.underlying3 int_one (by simpa [Value.cells, ints_one] using g1)
  obtain ⟨B, k, m, e2, ht, _⟩ := open_sl (v := c2) Try.underlying22 Try.underlying3 int_one (by simpa [Value.cells, ints_one] using g2)
  rw [int_one] at e0
  simp [Value.cells] at e0
  subst e0 e1 e2
  exact ⟨a, A, B, j, k, l, m, rfl, hs, ht⟩
end
end Go.Proofs.Ytehcmhblppjalaa
