import Derived.Test.YthfmjohbokpceaaFouF
namespace Go.Proofs.Ythfmjohbokpceaa
open Go.RowKit Go.WideShapes Go.ChangeShapes

/-! the reference's sums and products of greater whole complex numbers -/
theorem gadd_big (z u : Int × Int) (w : World) (hz : cle 1000000000000000000 z) (hu : cle 1000000000000000000 u) :
    Calls Try.prog 151 #[.agg #[.int .i64 z.1, .int .i64 z.2], .agg #[.int .i64 u.1, .int .i64 u.2]] w fun e w' => e = .returned (.agg #[.int .i64 (cadd z u).1, .int .i64 (cadd z u).2]) ∧ Below w.heap.size w w' := by
  obtain ⟨a, b⟩ := z
  obtain ⟨c, d⟩ := u
  unfold cle at hz hu
  unfold cadd
  dsimp only at *
  obtain ⟨h1, h2, h3, h4⟩ := hz
  obtain ⟨h5, h6, h7, h8⟩ := hu
  go_enter Try.func151, Try.ntmps151
  go_wp2
  go_returns
  exact ⟨rfl, by go_grown⟩
theorem gmul_big (z u : Int × Int) (w : World) (hz : cle 1000000000 z) (hu : cle 1000000000 u) :
    Calls Try.prog 152 #[.agg #[.int .i64 z.1, .int .i64 z.2], .agg #[.int .i64 u.1, .int .i64 u.2]] w fun e w' => e = .returned (.agg #[.int .i64 (cmul z u).1, .int .i64 (cmul z u).2]) ∧ Below w.heap.size w w' := by
  obtain ⟨a, b⟩ := z
  obtain ⟨c, d⟩ := u
  unfold cle at hz hu
  unfold cmul
  dsimp only at *
  obtain ⟨p1, q1⟩ := mul_bd2 hz.1 hz.2.1 hu.1 hu.2.1
  obtain ⟨p2, q2⟩ := mul_bd2 hz.2.2.1 hz.2.2.2 hu.2.2.1 hu.2.2.2
  obtain ⟨p3, q3⟩ := mul_bd2 hz.1 hz.2.1 hu.2.2.1 hu.2.2.2
  obtain ⟨p4, q4⟩ := mul_bd2 hz.2.2.1 hz.2.2.2 hu.1 hu.2.1
  clear hz hu
  go_enter Try.func152, Try.ntmps152
  go_wp2
  go_returns
  exact ⟨rfl, by go_grown⟩
end Go.Proofs.Ythfmjohbokpceaa
