import Derived.Test.YtamkannjdbodpaaChF
namespace Go.Proofs.Ytamkannjdbodpaa
open Go.RowKit Go.WideShapes Go.ChangeShapes

theorem sq_nn (a : Int) : 0 ≤ a * a := by rw [← Int.natAbs_mul_self]; omega
theorem nrm_pos {z : Int × Int} (h : z ≠ (0, 0)) : 1 ≤ nrm z := by
  have h1 := sq_nn z.1
  have h2 := sq_nn z.2
  have h3 : ∀ a : Int, a ≠ 0 → 1 ≤ a * a := fun a ha => by
    have := sq_nn a
    have : a * a ≠ 0 := fun e => by rcases Int.mul_eq_zero.1 e with e | e <;> exact ha e
    omega
  unfold nrm
  by_cases q : z.1 = 0
  · have : z.2 ≠ 0 := fun e => h (Prod.ext q e)
    have := h3 _ this
    omega
  · have := h3 _ q
    omega
theorem en_mem (g : List (Int × Int)) : ∀ n k : Nat, k < n → nrm (g[k]?.getD (0, 0)) ≤ enG g n
  | 0, k, h => absurd h (by omega)
  | n + 1, k, h => by
    rw [en_step]
    by_cases q : k = n
    · subst q; have := en_nn g k; omega
    · have := en_mem g n k (by omega)
      have := nrm_nn (g[n]?.getD (0, 0))
      omega
theorem any_en {g : List (Int × Int)} (h : g.any someG = true) : 1 ≤ enG g g.length := by
  obtain ⟨z, hz, hs⟩ := List.any_eq_true.1 h
  obtain ⟨k, hk, e⟩ := List.mem_iff_getElem.1 hz
  have h1 := en_mem g g.length k hk
  rw [List.getElem?_eq_getElem hk, Option.getD_some, e] at h1
  have h2 : 1 ≤ nrm z := nrm_pos (by simpa [someG] using hs)
  omega
theorem none_en {g : List (Int × Int)} (h : g.any someG = false) : ∀ n : Nat, enG g n = 0
  | 0 => rfl
  | n + 1 => by
    rw [en_step, none_en h n]
    have : g[n]?.getD (0, 0) = (0, 0) := by
      by_cases hk : n < g.length
      · rw [List.getElem?_eq_getElem hk, Option.getD_some]
        have := List.any_eq_false.1 h _ (List.getElem_mem hk)
        simpa [someG] using this
      · rw [List.getElem?_eq_none (by omega), Option.getD_none]
    rw [this]; rfl
theorem twoE_ok {g h : List (Int × Int)} (e : twoE g h = 0) : 1 ≤ g.length ∧ Ch30 g ∧ Ch30 h ∧ g.length = h.length ∧ 1 ≤ enG g g.length ∧ 1 ≤ enG h h.length := by
  have h1 := firstOf_ok e (chE g) (by simp)
  have h2 := firstOf_ok e (chE h) (by simp)
  have h3 := firstOf_ok e (lenE g h) (by simp)
  have h4 := firstOf_ok e (unlessE (g.any someG && h.any someG) 11) (by simp)
  have h5 : (g.any someG && h.any someG) = true := by
    cases q : (g.any someG && h.any someG)
    · rw [q] at h4; simp [unlessE] at h4
    · rfl
  rw [Bool.and_eq_true] at h5
  exact ⟨(chE_ok h1).1, (chE_ok h1).2, (chE_ok h2).2, lenE_ok h3, any_en h5.1, any_en h5.2⟩

theorem openTwo_ok (A B : Option Addr) (c c' n : Nat) (g h : List (Int × Int)) (w : World) (h0 : twoE g h = 0) (hg : g.length = n) (hh : h.length = n) (hs : Sl w A (gv g)) (hs' : Sl w B (gv h)) :
    Calls Try.prog 124 #[.slice A n c, .slice B n c'] w fun e w' => ∃ X k xs Y k' ys, e = .returned (.tuple #[.slice X n k, .slice Y n k', .int .i64 0]) ∧ ChIs xs g ∧ ChIs ys h ∧ Sl w' X xs ∧ Sl w' Y ys ∧ Below w.heap.size w w' := by
  obtain ⟨g1, g2, g3, g4, _⟩ := twoE_ok h0
  have hl := g2.1
  refine (?_ : Calls Try.prog 124 #[.slice A n c, .slice B n c'] w fun e w' => ∃ X k xs Y k' ys, e = .returned (.tuple #[.slice X n k, .slice Y n k', .int .i64 (twoE g h)]) ∧ (Small 9000000000000 g → ChIs xs g) ∧ (Small 9000000000000 h → ChIs ys h) ∧ Sl w' X xs ∧ Sl w' Y ys ∧ Below w.heap.size w w').mono ?_
  · have := openTwo_beam A B c c' g h w hs hs' (by omega) (by omega)
    rw [hg, hh] at this
    exact this
  · rintro e w' ⟨X, k, xs, Y, k', ys, rfl, h1, h2, h3, h4, h5⟩
    exact ⟨X, k, xs, Y, k', ys, by rw [h0], h1 (g2.2.mono (by decide)), h2 (g3.2.mono (by decide)), h3, h4, h5⟩
theorem openTwo_err (A B : Option Addr) (c c' : Nat) (g h : List (Int × Int)) (w : World) (hs : Sl w A (gv g)) (hs' : Sl w B (gv h)) (hl : g.length ≤ 100) (hl' : h.length ≤ 100) :
    Calls Try.prog 124 #[.slice A g.length c, .slice B h.length c'] w fun e w' => ∃ X k Y k', e = .returned (.tuple #[.slice X g.length k, .slice Y h.length k', .int .i64 (twoE g h)]) ∧ Below w.heap.size w w' :=
  (openTwo_beam A B c c' g h w hs hs' hl hl').mono fun _ _ ⟨X, k, _, Y, k', _, h1, _, _, _, _, h6⟩ => ⟨X, k, Y, k', h1, h6⟩

/-- the numerator and denominator of a part -/
def pN (g h : List (Int × Int)) : Int := nrm (innerZ g h g.length)
def pD (g h : List (Int × Int)) : Int := enG g g.length * enG h h.length
theorem pD_bd {g h : List (Int × Int)} (e : twoE g h = 0) : 1 ≤ pD g h ∧ pD g h ≤ 207360000 := by
  obtain ⟨_, g2, g3, _, e1, e2⟩ := twoE_ok e
  have h1 := g2.en
  have h2 := g3.en
  have h3 := mul_bd2 (a := enG g g.length) (b := enG h h.length) (m := 14400) (n := 14400) (by omega) (by omega) (by omega) (by omega)
  have h4 := Int.mul_le_mul e1 e2 (by omega) (by omega)
  unfold pD
  omega
theorem pN_bd {g h : List (Int × Int)} (e : twoE g h = 0) : 0 ≤ pN g h ∧ pN g h ≤ 414720000 := by
  obtain ⟨_, g2, g3, _, e1, e2⟩ := twoE_ok e
  have h1 := nrm_bd (Ch30.in_ g2 g3)
  unfold pN
  omega
def partV (g h : List (Int × Int)) : Int × Int := if twoE g h = 0 then (lowN (pN g h) (pD g h), lowD (pN g h) (pD g h)) else (0, 0)
def keptV (g h : List (Int × Int)) : Int × Int := if twoE g h = 0 then (lowN (pD g h - pN g h) (pD g h), lowD (pD g h - pN g h) (pD g h)) else (0, 0)
theorem parts_at (A B : Option Addr) (c c' n : Nat) (g h : List (Int × Int)) (xs ys : List Value) (w : World) (hs : Sl w A xs) (hs' : Sl w B ys) (hx : ChIs xs g) (hy : ChIs ys h) (h0 : twoE g h = 0) (hg : g.length = n) (hh : h.length = n) :
    Calls Try.prog 129 #[.slice A n c, .slice B n c'] w fun e w' => e = .returned (.tuple #[.int .i64 (pN g h), .int .i64 (pD g h)]) ∧ Below w.heap.size w w' := by
  obtain ⟨_, g2, g3, _, _⟩ := twoE_ok h0
  have := parts_beam A B c c' n g h xs ys w hs hs' hx hy hg hh g2 g3
  unfold pN pD
  rw [hg, hh]
  exact this
end Go.Proofs.Ytamkannjdbodpaa
