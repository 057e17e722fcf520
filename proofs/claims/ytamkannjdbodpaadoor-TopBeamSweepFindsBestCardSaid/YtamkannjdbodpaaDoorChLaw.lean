import Derived.Test.YtamkannjdbodpaaDoorChG
namespace Go.Proofs.YtamkannjdbodpaaDoor
open Go.RowKit Go.WideShapes Go.ChangeShapes

/-! plain laws of channels -/
def clrBy (E z : Int × Int) (a b : Int × Int) : Int × Int := csub (cmul E b) (cmul z a)
def clrAt (g h : List (Int × Int)) (k : Nat) : Int × Int := clrBy (innerZ g g g.length) (innerZ g h g.length) (g[k]?.getD (0, 0)) (h[k]?.getD (0, 0))
/-- the cleared channel -/
def clrL (g h : List (Int × Int)) (k : Nat) : List (Int × Int) := (List.range k).map (clrAt g h)
theorem clrL_len (g h : List (Int × Int)) (k : Nat) : (clrL g h k).length = k := by simp [clrL]
theorem clrL_succ (g h : List (Int × Int)) (k : Nat) : clrL g h (k + 1) = clrL g h k ++ [clrAt g h k] := by simp [clrL, List.range_succ]
theorem clrL_at (g h : List (Int × Int)) (n k : Nat) (hk : k < n) : (clrL g h n)[k]?.getD (0, 0) = clrAt g h k := by
  have e : (clrL g h n)[k]? = some (clrAt g h k) := by simp [clrL, hk]
  rw [e]; rfl

theorem apart_gen (g h l : List (Int × Int)) (E z : Int × Int) : ∀ n : Nat, (∀ k < n, l[k]?.getD (0, 0) = clrBy E z (g[k]?.getD (0, 0)) (h[k]?.getD (0, 0))) → innerZ g l n = csub (cmul E (innerZ g h n)) (cmul z (innerZ g g n))
  | 0, _ => by simp [innerZ, csub, cmul]
  | n + 1, hl => by
    unfold innerZ
    rw [apart_gen g h l E z n (fun k hk => hl k (by omega)), hl n (by omega)]
    unfold clrBy csub cmul cadd cconj
    apply Prod.ext <;> dsimp only <;> grind
theorem second_gen (g h l : List (Int × Int)) (E z : Int × Int) : ∀ n : Nat, (∀ k < n, l[k]?.getD (0, 0) = clrBy E z (g[k]?.getD (0, 0)) (h[k]?.getD (0, 0))) → innerZ h l n = csub (cmul E (innerZ h h n)) (cmul z (innerZ h g n))
  | 0, _ => by simp [innerZ, csub, cmul]
  | n + 1, hl => by
    unfold innerZ
    rw [second_gen g h l E z n (fun k hk => hl k (by omega)), hl n (by omega)]
    unfold clrBy csub cmul cadd cconj
    apply Prod.ext <;> dsimp only <;> grind
theorem inner_conj (g h : List (Int × Int)) : ∀ n : Nat, innerZ h g n = cconj (innerZ g h n)
  | 0 => by simp [innerZ, cconj]
  | n + 1 => by
    unfold innerZ
    rw [inner_conj g h n]
    unfold cmul cadd cconj
    apply Prod.ext <;> dsimp only <;> grind
theorem nrm_conj (z : Int × Int) : nrm (cconj z) = nrm z := by unfold nrm cconj; dsimp only; grind
theorem energy_gen (g h l : List (Int × Int)) (e : Int) (z : Int × Int) : ∀ n : Nat, (∀ k < n, l[k]?.getD (0, 0) = clrBy (e, 0) z (g[k]?.getD (0, 0)) (h[k]?.getD (0, 0))) →
    enG l n = e * e * enG h n + nrm z * enG g n - 2 * e * (z.1 * (innerZ g h n).1 + z.2 * (innerZ g h n).2)
  | 0, _ => by simp [enG, innerZ]
  | n + 1, hl => by
    rw [en_step l n, en_step g n, en_step h n, energy_gen g h l e z n (fun k hk => hl k (by omega)), hl n (by omega)]
    rw [show innerZ g h (n + 1) = cadd (innerZ g h n) (cmul (cconj (g[n]?.getD (0, 0))) (h[n]?.getD (0, 0))) from rfl]
    unfold clrBy nrm csub cmul cadd cconj
    dsimp only
    grind
theorem inner_self (g : List (Int × Int)) (n : Nat) : innerZ g g n = (enG g n, 0) := Prod.ext rfl (inner_im g n)
theorem clr_apart (g h : List (Int × Int)) : innerZ g (clrL g h g.length) g.length = (0, 0) := by
  rw [apart_gen g h _ (innerZ g g g.length) (innerZ g h g.length) g.length (fun k hk => clrL_at g h _ k hk)]
  rw [inner_self]
  unfold csub cmul
  apply Prod.ext <;> dsimp only <;> grind
theorem clr_second (g h : List (Int × Int)) (hl : h.length = g.length) : innerZ h (clrL g h g.length) g.length = (pD g h - pN g h, 0) := by
  rw [second_gen g h _ (innerZ g g g.length) (innerZ g h g.length) g.length (fun k hk => clrL_at g h _ k hk)]
  rw [inner_self, inner_self, inner_conj g h]
  unfold pD pN nrm csub cmul cconj
  rw [hl]
  apply Prod.ext <;> dsimp only <;> grind
theorem clr_energy (g h : List (Int × Int)) (hl : h.length = g.length) : enG (clrL g h g.length) g.length = enG g g.length * (pD g h - pN g h) := by
  rw [energy_gen g h _ (enG g g.length) (innerZ g h g.length) g.length (fun k hk => by rw [clrL_at g h _ k hk]; unfold clrAt; rw [inner_self])]
  unfold pD pN nrm
  rw [hl]
  grind
theorem cauchy (g h : List (Int × Int)) (hl : h.length = g.length) (he : 1 ≤ enG g g.length) : pN g h ≤ pD g h := by
  have h1 := clr_energy g h hl
  have h2 := en_nn (clrL g h g.length) g.length
  rw [h1] at h2
  by_cases q : pN g h ≤ pD g h
  · exact q
  · have h3 := Int.mul_le_mul he (show 1 ≤ pN g h - pD g h by omega) (by omega) (by omega)
    have h4 : enG g g.length * (pD g h - pN g h) = -(enG g g.length * (pN g h - pD g h)) := by grind
    omega
theorem any_en_iff (l : List (Int × Int)) : l.any someG = true ↔ enG l l.length ≠ 0 := by
  cases q : l.any someG
  · rw [none_en q]; simp
  · have := any_en q; simp; omega
theorem clr_left (g h : List (Int × Int)) (hl : h.length = g.length) (he : 1 ≤ enG g g.length) : (clrL g h g.length).any someG = !(pD g h - pN g h == 0) := by
  have h1 := any_en_iff (clrL g h g.length)
  rw [clrL_len, clr_energy g h hl] at h1
  cases q : (clrL g h g.length).any someG
  · rw [q] at h1
    have h2 : enG g g.length * (pD g h - pN g h) = 0 := by
      by_cases r : enG g g.length * (pD g h - pN g h) = 0
      · exact r
      · exact absurd (h1.2 r) (by simp)
    rcases Int.mul_eq_zero.1 h2 with h3 | h3
    · omega
    · rw [h3]; rfl
  · rw [q] at h1
    have h2 := h1.1 rfl
    have h3 : pD g h - pN g h ≠ 0 := fun e => h2 (by rw [e, Int.mul_zero])
    simp [h3]
theorem pN_comm (g h : List (Int × Int)) (hl : h.length = g.length) : pN h g = pN g h := by
  unfold pN; rw [hl, inner_conj g h, nrm_conj]
theorem pD_comm (g h : List (Int × Int)) : pD h g = pD g h := by unfold pD; rw [Int.mul_comm]

/-! lowest terms -/
theorem low_gcd (a b : Int) (hb : 1 ≤ b) : 1 ≤ (Int.gcd a b : Int) := by
  have : 0 < Int.gcd a b := Int.gcd_pos_of_ne_zero_right a (by omega)
  omega
theorem low_num (a b : Int) (_ : 1 ≤ b) : (Int.gcd a b : Int) * lowN a b = a := Int.mul_tdiv_cancel' (Int.gcd_dvd_left a b)
theorem low_den (a b : Int) (_ : 1 ≤ b) : (Int.gcd a b : Int) * lowD a b = b := Int.mul_tdiv_cancel' (Int.gcd_dvd_right a b)
theorem low_pos (a b : Int) (hb : 1 ≤ b) : 1 ≤ lowD a b ∧ lowD a b ≤ b := by
  have h1 := low_gcd a b hb
  have h2 := low_den a b hb
  have h3 : 1 ≤ lowD a b := by
    by_cases q : 1 ≤ lowD a b
    · exact q
    · have := Int.mul_le_mul_of_nonneg_left (show lowD a b ≤ 0 by omega) (show 0 ≤ (Int.gcd a b : Int) by omega)
      omega
  have h4 := Int.mul_le_mul_of_nonneg_right h1 (show 0 ≤ lowD a b by omega)
  omega
theorem low_nn (a b : Int) (ha : 0 ≤ a) : 0 ≤ lowN a b := Int.tdiv_nonneg ha (Int.natCast_nonneg _)
theorem low_le (a b : Int) (hb : 1 ≤ b) (ha : 0 ≤ a) : lowN a b ≤ a := by
  have h1 := low_gcd a b hb
  have h2 := low_num a b hb
  have h3 := Int.mul_le_mul_of_nonneg_right h1 (low_nn a b ha)
  omega
theorem low_cmp (a b c d : Int) (hb : 1 ≤ b) : (lowN a b * d ≤ c * lowD a b) ↔ (a * d ≤ c * b) := by
  have h1 := low_gcd a b hb
  have h2 := low_num a b hb
  have h3 := low_den a b hb
  have e1 : a * d = (Int.gcd a b : Int) * (lowN a b * d) := by rw [← Int.mul_assoc, h2]
  have e2 : c * b = (Int.gcd a b : Int) * (c * lowD a b) := by rw [← Int.mul_assoc, Int.mul_comm _ c, Int.mul_assoc, h3]
  rw [e1, e2]
  constructor
  · intro h; exact Int.mul_le_mul_of_nonneg_left h (by omega)
  · intro h; exact Int.le_of_mul_le_mul_left h (by omega)
theorem low_id (a b : Int) (hb : 1 ≤ b) : (lowN a b = a ∧ lowD a b = b) ↔ Int.gcd a b = 1 := by
  constructor
  · intro ⟨_, h⟩
    have h3 := low_den a b hb
    rw [h] at h3
    have h4 : ((Int.gcd a b : Int) - 1) * b = 0 := by rw [Int.sub_mul, h3]; omega
    rcases Int.mul_eq_zero.1 h4 with h5 | h5 <;> omega
  · intro h
    unfold lowN lowD
    rw [h]
    simp
theorem gcd_rest (a b : Int) : Int.gcd (b - a) b = Int.gcd a b := by
  have : b - a = -(a - b) := by omega
  rw [this, Int.neg_gcd]
  have h1 : Int.gcd (a - b) b ∣ Int.gcd a b := Int.dvd_gcd (by have := Int.dvd_add (Int.gcd_dvd_left (a - b) b) (Int.gcd_dvd_right (a - b) b); rwa [Int.sub_add_cancel] at this) (Int.gcd_dvd_right (a - b) b)
  have h2 : Int.gcd a b ∣ Int.gcd (a - b) b := Int.dvd_gcd (Int.dvd_sub (Int.gcd_dvd_left a b) (Int.gcd_dvd_right a b)) (Int.gcd_dvd_right a b)
  exact Nat.dvd_antisymm h1 h2
theorem low_rest (a b : Int) (hb : 1 ≤ b) : lowD (b - a) b = lowD a b ∧ lowN a b + lowN (b - a) b = lowD a b := by
  have e := gcd_rest a b
  have h0 := low_gcd a b hb
  have h1 := low_num a b hb
  have h2 := low_num (b - a) b hb
  have h3 := low_den a b hb
  have h4 := low_den (b - a) b hb
  rw [e] at h2 h4
  constructor
  · exact Int.eq_of_mul_eq_mul_left (by omega) (h4.trans h3.symm)
  · refine Int.eq_of_mul_eq_mul_left (a := (Int.gcd a b : Int)) (by omega) ?_
    rw [Int.mul_add, h1, h2, h3]; omega
theorem low_zero (a b : Int) (hb : 1 ≤ b) : lowN a b = 0 ↔ a = 0 := by
  have h1 := low_num a b hb
  constructor
  · intro h; rw [h, Int.mul_zero] at h1; omega
  · intro h; subst h; unfold lowN; simp
end Go.Proofs.YtamkannjdbodpaaDoor
