import Derived.Test.YthfmjohbokpceaaWLTransforms
import Derived.Test.YthfmjohbokpceaaFlat
namespace Go.Proofs.Ythfmjohbokpceaa
open Go.RowKit Go.WideShapes Go.ChangeShapes

/-! WaveTransforms over the cells of its arguments -/
theorem flat_ga8 : Flat 137 (8 * 2) := Flat.array Try.underlying137 (by kernel_rfl) flat_gauss
theorem flat_wn8 : Flat 96 (8 * 4) := Flat.array Try.underlying96 (by kernel_rfl) flat_num
theorem WaveTransforms_lawZ (z0 z1 : List Int) (w : World) (h0 : z0.length = 8 * 2) (h1 : z1.length = 8 * 4) :
    Calls Try.prog 16 #[.agg (iv z0).toArray, .agg (iv z1).toArray] w fun e w' => e = .returned (.bool true) ∧ Below w.heap.size w w' := by
  obtain ⟨x, hx, e0⟩ := gausses_of 8 z0 h0
  obtain ⟨y, hy, e1⟩ := nums_of 8 z1 h1
  rw [e0, e1]
  exact WaveTransforms_law x hx y hy w
end Go.Proofs.Ythfmjohbokpceaa
