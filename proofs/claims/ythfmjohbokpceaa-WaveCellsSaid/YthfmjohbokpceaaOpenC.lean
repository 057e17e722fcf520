import Derived.Test.YthfmjohbokpceaaWOpens
import Derived.Deep.Slices
namespace Go.Proofs.Ythfmjohbokpceaa
open Go.RowKit Go.WideShapes Go.ChangeShapes Go.Deep

/-! a slice of int as it comes in, with its capacity -/
section
variable {H : Type} {enc : TypeId × Value → H} {W : World} {b0 base : Nat} {sp : Nat → Bool} {hd : Bool} {r : Reach} {v : Value} {d : DataW H} {p : List MemPlace}
set_option maxRecDepth 100000 in
theorem open_ints_cap (hv : Value.okWide Try.prog W r b0 24 v) (h : DataW.Trod enc Try.prog W base sp hd 24 v d p) : ∃ A c l, v = .slice A l.length c ∧ Sl W A (iv l) ∧ l.length ≤ c := by
  obtain ⟨A, c, l, e, hs, _⟩ := open_list Try.underlying24 Try.underlying3 int_one hv h
  refine ⟨A, c, l, e, hs, ?_⟩
  subst e
  obtain ⟨fuel, hh⟩ := h
  rcases open_slice Try.underlying24 (by simpa [Value.cells] using hh) with ⟨hcs, _⟩ | ⟨a, len', cap, m, k, D, Pl, hcs, _, hl, _⟩
  · injection hcs with hcs _
    injection hcs with h1 h2 h3
    omega
  · injection hcs with hcs _
    injection hcs with h1 h2 h3
    omega
end
end Go.Proofs.Ythfmjohbokpceaa
