import Derived.Test.YthfmjohbokpceaaFlat
namespace Go.Proofs.Ythfmjohbokpceaa
open Go.RowKit Go.WideShapes Go.ChangeShapes Go.Deep

/-! a slice of whole complex numbers as it comes in, with its capacity -/
section
variable {H : Type} {enc : TypeId × Value → H} {W : World} {b0 base : Nat} {sp : Nat → Bool} {hd : Bool} {r : Reach} {v : Value} {d : DataW H} {p : List MemPlace}
set_option maxRecDepth 100000 in
theorem open_gs_cap (hv : Value.okWide Try.prog W r b0 83 v) (h : DataW.Trod enc Try.prog W base sp hd 83 v d p) : ∃ A c l, v = .slice A l.length c ∧ Sl W A (gv l) ∧ l.length ≤ c := by
  obtain ⟨A, c, l, e, hs⟩ := open_gausses hv h
  refine ⟨A, c, l, e, hs, ?_⟩
  subst e
  obtain ⟨fuel, hh⟩ := h
  rcases open_slice Try.underlying83 (by simpa [Value.cells] using hh) with ⟨hcs, _⟩ | ⟨a, len', cap, m, k, D, Pl, hcs, _, hl, _⟩
  · injection hcs with hcs _
    injection hcs with h1 h2 h3
    omega
  · injection hcs with hcs _
    injection hcs with h1 h2 h3
    omega
end
end Go.Proofs.Ythfmjohbokpceaa
