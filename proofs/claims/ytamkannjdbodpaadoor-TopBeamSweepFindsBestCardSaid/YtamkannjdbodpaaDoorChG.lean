import Derived.Test.YtamkannjdbodpaaDoorChF
namespace Go.Proofs.YtamkannjdbodpaaDoor
open Go.RowKit Go.WideShapes Go.ChangeShapes

theorem sq_nn (a : Int) : 0 ≤ a * a := by rw [← Int.natAbs_mul_self]; omega
theorem nrm_pos {z : Int × Int} (h : z ≠ (0, 0)) : 1 ≤ nrm z := by
  have h1 := sq_nn z.1
  have h2 := sq_nn z.2
  have h3 : ∀ a : Int, a ≠ 0 → 1 ≤ a * a := fun a ha => by
    have := sq_nn a
    have : a * a ≠ 0 := fun e => by rcases Int.mul_eq_zero.1 e with e | e <;> exact ha e
    omega
  unfold nrm
  by_cases q : z.1 = 0
  · have : z.2 ≠ 0 := fun e => h (Prod.ext q e)
    have := h3 _ this
    omega
  · have := h3 _ q
    omega
theorem en_mem (g : List (Int × Int)) : ∀ n k : Nat, k < n → nrm (g[k]?.getD (0, 0)) ≤ enG g n
  | 0, k, h => absurd h (by omega)
  | n + 1, k, h => by
    rw [en_step]
    by_cases q : k = n
    · subst q; have := en_nn g k; omega
    · have := en_mem g n k (by omega)
      have := nrm_nn (g[n]?.getD (0, 0))
      omega
theorem any_en {g : List (Int × Int)} (h : g.any someG = true) : 1 ≤ enG g g.length := by
  obtain ⟨z, hz, hs⟩ := List.any_eq_true.1 h
  obtain ⟨k, hk, e⟩ := List.mem_iff_getElem.1 hz
  have h1 := en_mem g g.length k hk
  rw [List.getElem?_eq_getElem hk, Option.getD_some, e] at h1
  have h2 : 1 ≤ nrm z := nrm_pos (by simpa [someG] using hs)
  omega
theorem none_en {g : List (Int × Int)} (h : g.any someG = false) : ∀ n : Nat, enG g n = 0
  | 0 => rfl
  | n + 1 => by
    rw [en_step, none_en h n]
    have : g[n]?.getD (0, 0) = (0, 0) := by
      by_cases hk : n < g.length
      · rw [List.getElem?_eq_getElem hk, Option.getD_some]
        have := List.any_eq_false.1 h _ (List.getElem_mem hk)
        simpa [someG] using this
      · rw [List.getElem?_eq_none (by omega), Option.getD_none]
    rw [this]; rfl
theorem twoE_ok {g h : List (Int × Int)} (e : twoE g h = 0) : 1 ≤ g.length ∧ Ch30 g ∧ Ch30 h ∧ g.length = h.length ∧ 1 ≤ enG g g.length ∧ 1 ≤ enG h h.length := by
  have h1 := firstOf_ok e (chE g) (by simp)
  have h2 := firstOf_ok e (chE h) (by simp)
  have h3 := firstOf_ok e (lenE g h) (by simp)
  have h4 := firstOf_ok e (unlessE (g.any someG && h.any someG) 11) (by simp)
  have h5 : (g.any someG && h.any someG) = true := by
    cases q : (g.any someG && h.any someG)
    · rw [q] at h4; simp [unlessE] at h4
    · rfl
  rw [Bool.and_eq_true] at h5
  exact ⟨(chE_ok h1).1, (chE_ok h1).2, (chE_ok h2).2, lenE_ok h3, any_en h5.1, any_en h5.2⟩

/-- the numerator and denominator of a part -/
def pN (g h : List (Int × Int)) : Int := nrm (innerZ g h g.length)
def pD (g h : List (Int × Int)) : Int := enG g g.length * enG h h.length
theorem pD_bd {g h : List (Int × Int)} (e : twoE g h = 0) : 1 ≤ pD g h ∧ pD g h ≤ 207360000 := by
  obtain ⟨_, g2, g3, _, e1, e2⟩ := twoE_ok e
  have h1 := g2.en
  have h2 := g3.en
  have h3 := mul_bd2 (a := enG g g.length) (b := enG h h.length) (m := 14400) (n := 14400) (by omega) (by omega) (by omega) (by omega)
  have h4 := Int.mul_le_mul e1 e2 (by omega) (by omega)
  unfold pD
  omega
theorem pN_bd {g h : List (Int × Int)} (e : twoE g h = 0) : 0 ≤ pN g h ∧ pN g h ≤ 414720000 := by
  obtain ⟨_, g2, g3, _, e1, e2⟩ := twoE_ok e
  have h1 := nrm_bd (Ch30.in_ g2 g3)
  unfold pN
  omega
def partV (g h : List (Int × Int)) : Int × Int := if twoE g h = 0 then (lowN (pN g h) (pD g h), lowD (pN g h) (pD g h)) else (0, 0)
def keptV (g h : List (Int × Int)) : Int × Int := if twoE g h = 0 then (lowN (pD g h - pN g h) (pD g h), lowD (pD g h - pN g h) (pD g h)) else (0, 0)
end Go.Proofs.YtamkannjdbodpaaDoor
