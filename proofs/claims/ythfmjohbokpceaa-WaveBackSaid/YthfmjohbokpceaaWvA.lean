import Derived.Test.YthfmjohbokpceaaBase
import Derived.Test.YthfmjohbokpceaaMem2
import Derived.Test.YthfmjohbokpceaaWvAlg
namespace Go.Proofs.Ythfmjohbokpceaa
open Go.RowKit Go.WideShapes Go.ChangeShapes

/-! numbers of the program: built, told, added, turned -/
/-- a number as a value -/
abbrev nv (x : Nm) : Value := .agg #[.int .i64 x.1, .int .i64 x.2.1, .int .i64 x.2.2.1, .int .i64 x.2.2.2]

/-- a range over a number -/
theorem idx_num (a b c d : Int) : (∀ w, (Instr.index 162 (nv (a, b, c, d)) (.int .i64 0)).run Try.prog w = .ok (.int .i64 a) w) ∧ (∀ w, (Instr.index 162 (nv (a, b, c, d)) (.int .i64 1)).run Try.prog w = .ok (.int .i64 b) w) ∧
    (∀ w, (Instr.index 162 (nv (a, b, c, d)) (.int .i64 2)).run Try.prog w = .ok (.int .i64 c) w) ∧ (∀ w, (Instr.index 162 (nv (a, b, c, d)) (.int .i64 3)).run Try.prog w = .ok (.int .i64 d) w) :=
  ⟨fun _ => by kernel_rfl, fun _ => by kernel_rfl, fun _ => by kernel_rfl, fun _ => by kernel_rfl⟩
theorem numberOf_wave (x : Nm) (w : World) : Calls Try.prog 110 #[nv x] w fun e w' => e = .returned (nv x) ∧ Below w.heap.size w w' := by
  obtain ⟨a, b, c, d⟩ := x
  go_enter Try.func110, Try.ntmps110
  go_wp2
  go_returns
  exact ⟨rfl, by go_grown⟩
theorem whole_wave (z : Int × Int) (w : World) : Calls Try.prog 112 #[.agg #[.int .i64 z.1, .int .i64 z.2]] w fun e w' => e = .returned (nv (ent z)) ∧ Below w.heap.size w w' := by
  obtain ⟨a, b⟩ := z
  go_enter Try.func112, Try.ntmps112
  go_wp2
  go_returns
  exact ⟨rfl, by go_grown⟩
theorem told_wave (x : Nm) (w : World) : Calls Try.prog 129 #[nv x] w fun e w' => e = .returned (nv x) ∧ Below w.heap.size w w' := by
  obtain ⟨a, b, c, d⟩ := x
  go_enter Try.func129, Try.ntmps129
  go_wp2
  go_returns
  exact ⟨rfl, by go_grown⟩
theorem conj_wave (x : Nm) (w : World) (h : nle 1000000000000000000 x) : Calls Try.prog 138 #[nv x] w fun e w' => e = .returned (nv (nconj x)) ∧ Below w.heap.size w w' := by
  obtain ⟨a, b, c, d⟩ := x
  unfold nle at h
  dsimp only at h
  obtain ⟨a1, a2, b1, b2, c1, c2, d1, d2⟩ := h
  go_enter Try.func138, Try.ntmps138
  go_wp2
  go_returns
  exact ⟨rfl, by go_grown⟩
set_option maxRecDepth 100000 in
theorem plus_wave (x y : Nm) (w : World) (h : nle 4000000000000000000 x) (k : nle 4000000000000000000 y) : Calls Try.prog 109 #[nv x, nv y] w fun e w' => e = .returned (nv (nadd x y)) ∧ Below w.heap.size w w' := by
  obtain ⟨a, b, c, d⟩ := x
  obtain ⟨a', b', c', d'⟩ := y
  unfold nle at h k
  dsimp only at h k
  obtain ⟨a1, a2, b1, b2, c1, c2, d1, d2⟩ := h
  obtain ⟨a3, a4, b3, b4, c3, c4, d3, d4⟩ := k
  obtain ⟨i0, i1, i2, i3⟩ := idx_num a' b' c' d'
  go_enter Try.func109, Try.ntmps109
  go_wp2
  go_rounds 5
  go_returns
  exact ⟨rfl, by go_grown⟩
/-- the parts of a number turned by p, for p from 0 to 7 -/
theorem tni_cases (x : Nm) (p : Int) : (p % 8 = 0 ∧ tni x p = x) ∨ (p % 8 = 1 ∧ tni x p = (-x.2.2.2, x.1, x.2.1, x.2.2.1)) ∨ (p % 8 = 2 ∧ tni x p = (-x.2.2.1, -x.2.2.2, x.1, x.2.1)) ∨ (p % 8 = 3 ∧ tni x p = (-x.2.1, -x.2.2.1, -x.2.2.2, x.1)) ∨
    (p % 8 = 4 ∧ tni x p = (-x.1, -x.2.1, -x.2.2.1, -x.2.2.2)) ∨ (p % 8 = 5 ∧ tni x p = (x.2.2.2, -x.1, -x.2.1, -x.2.2.1)) ∨ (p % 8 = 6 ∧ tni x p = (x.2.2.1, x.2.2.2, -x.1, -x.2.1)) ∨ (p % 8 = 7 ∧ tni x p = (x.2.1, x.2.2.1, x.2.2.2, -x.1)) := by
  have h8 : p % 8 = 0 ∨ p % 8 = 1 ∨ p % 8 = 2 ∨ p % 8 = 3 ∨ p % 8 = 4 ∨ p % 8 = 5 ∨ p % 8 = 6 ∨ p % 8 = 7 := by omega
  unfold tni
  rcases h8 with h | h | h | h | h | h | h | h <;> rw [h] <;> simp [tn, t1, show (1 : Int).toNat = 1 from rfl, show (2 : Int).toNat = 2 from rfl, show (3 : Int).toNat = 3 from rfl, show (4 : Int).toNat = 4 from rfl, show (5 : Int).toNat = 5 from rfl, show (6 : Int).toNat = 6 from rfl, show (7 : Int).toNat = 7 from rfl]
/-- the remainder that the program takes -/
theorem rem8 (p : Int) : (p.tmod 8 + 8).tmod 8 = p % 8 := by
  by_cases h : 0 ≤ p
  · rw [Int.tmod_eq_emod_of_nonneg h, Int.tmod_eq_emod_of_nonneg (by omega)]; omega
  · have h1 := Int.tmod_eq_emod (a := p) (b := 8)
    have h2 : -8 < p.tmod 8 := by rw [h1]; split <;> omega
    rw [Int.tmod_eq_emod_of_nonneg (by omega), h1]
    split <;> omega
set_option maxRecDepth 100000 in
set_option maxHeartbeats 2000000 in
theorem turned_wave (x : Nm) (p : Int) (w : World) (h : nle 4000000000000000000 x) (_hp : -1000000000000 ≤ p) (_hp' : p ≤ 1000000000000) :
    Calls Try.prog 128 #[nv x, .int .i64 p] w fun e w' => e = .returned (nv (tni x p)) ∧ Below w.heap.size w w' := by
  have h8 := tni_cases x p
  have hr := rem8 p
  obtain ⟨a, b, c, d⟩ := x
  unfold nle at h
  dsimp only at h
  obtain ⟨a1, a2, b1, b2, c1, c2, d1, d2⟩ := h
  have t1 : -8 < p.tmod 8 ∧ p.tmod 8 < 8 := by
    have h1 := Int.tmod_eq_emod (a := p) (b := 8)
    rw [h1]
    constructor <;> split <;> omega
  obtain ⟨t1, t2⟩ := t1
  obtain ⟨i0, i1, i2, i3⟩ := idx_num a b c d
  have H8 := hide h8; clear h8
  rcases H8.out with ⟨hq, he⟩ | ⟨hq, he⟩ | ⟨hq, he⟩ | ⟨hq, he⟩ | ⟨hq, he⟩ | ⟨hq, he⟩ | ⟨hq, he⟩ | ⟨hq, he⟩
  all_goals
    rw [hq] at hr
    rw [he]
    clear he H8 hq
    go_enter Try.func128, Try.ntmps128
    go_wp2
    go_rounds 5
    go_returns
    exact ⟨rfl, by go_grown⟩
end Go.Proofs.Ythfmjohbokpceaa
