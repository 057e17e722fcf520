import Derived.Test.YthfmjohbokpceaaFlat
namespace Go.Proofs.Ythfmjohbokpceaa
open Go.ChangeShapes Go.WideShapes Go.ChangeAt Go.RowKit

/-! a path as it comes in -/
section
variable {H : Type} {enc : TypeId × Value → H} {W : World} {b0 base : Nat} {sp : Nat → Bool} {hd : Bool} {r : Reach} {v : Value} {d : DataW H} {p : List MemPlace}
set_option maxRecDepth 100000 in
theorem open_path (hv : Value.okWide Try.prog W r b0 32 v) (h : DataW.Trod enc Try.prog W base sp hd 32 v d p) :
    ∃ x : Pth, v = .agg #[.int .i64 x.1, .int .i64 x.2.1, .int .i64 x.2.2] := by
  obtain ⟨cs, rfl, hsz⟩ := okWide_struct Try.underlying32 hv
  obtain ⟨fuel, hh⟩ := h
  obtain ⟨zs, e1, hl, hw⟩ := flat_path.2 _ _ _ _ _ _ _ _ _ hh
  match zs, hl with
  | [a, b, c], _ =>
    have e2 : Value.agg cs = .agg (iv [a, b, c]).toArray := by
      congr 1
      rw [← e1]
      simp [Value.cells]
    exact ⟨(a, b, c), e2⟩
end
end Go.Proofs.Ythfmjohbokpceaa
