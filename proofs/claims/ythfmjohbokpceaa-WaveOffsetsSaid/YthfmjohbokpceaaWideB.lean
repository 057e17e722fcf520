import Derived.Test.YthfmjohbokpceaaWideA
namespace Go.Proofs.Ythfmjohbokpceaa
open Go.RowKit Go.WideShapes Go.ChangeShapes

/-! the plain law of products, digit by digit -/
theorem val_take (d : List Int) (k : Nat) (hk : k < d.length) : val (d.take (k + 1)) = val (d.take k) + 1000000000 ^ k * d[k] := by
  rw [List.take_succ_eq_append_getElem hk, val_append]
  simp [val, Nat.min_eq_left (Nat.le_of_lt hk)]
theorem mul_step (o d d' : List Int) (i k : Nat) (cr s : Int) (hi : i < d.length) (hk : k < d'.length) (hL : i + k < o.length) (hs : s = o[i + k] + d[i] * d'[k] + cr)
    (h : val o + cr * 1000000000 ^ (i + k) = val (d.take i) * val d' + 1000000000 ^ i * d[i] * val (d'.take k)) :
    val (o.set (i + k) (s % 1000000000)) + s / 1000000000 * 1000000000 ^ (i + (k + 1)) = val (d.take i) * val d' + 1000000000 ^ i * d[i] * val (d'.take (k + 1)) := by
  have hdm := Int.emod_add_mul_ediv s 1000000000
  rw [val_set o _ _ hL, val_take d' k hk]
  have e : (1000000000 : Int) ^ (i + (k + 1)) = 1000000000 ^ (i + k) * 1000000000 := by rw [← Nat.add_assoc, Int.pow_succ]
  have e2 : (1000000000 : Int) ^ (i + k) = 1000000000 ^ i * 1000000000 ^ k := Int.pow_add _ _ _
  generalize s % 1000000000 = r at *
  generalize s / 1000000000 = q at *
  rw [e]
  generalize hP : (1000000000 : Int) ^ (i + k) = P at *
  generalize (1000000000 : Int) ^ i = X at *
  generalize (1000000000 : Int) ^ k = Y at *
  grind
theorem mul_end (o d d' : List Int) (i : Nat) (cr : Int) (hi : i < d.length) (hL : i + d'.length < o.length) (h0 : o[i + d'.length] = 0)
    (h : val o + cr * 1000000000 ^ (i + d'.length) = val (d.take i) * val d' + 1000000000 ^ i * d[i] * val (d'.take d'.length)) :
    val (o.set (i + d'.length) cr) = val (d.take (i + 1)) * val d' := by
  rw [val_set o _ _ hL, val_take d i hi, h0]
  rw [List.take_length] at h
  grind
theorem dig_mul {a b cr o : Int} (ha : 0 ≤ a ∧ a < 1000000000) (hb : 0 ≤ b ∧ b < 1000000000) (hc : 0 ≤ cr ∧ cr < 1000000000) (ho : 0 ≤ o ∧ o < 1000000000) :
    (0 ≤ a * b ∧ a * b ≤ 999999998000000001) ∧ 0 ≤ o + a * b + cr ∧ o + a * b + cr < 1000000000000000000 := by
  have h1 : 0 ≤ a * b := Int.mul_nonneg ha.1 hb.1
  have h2 : a * b ≤ 999999999 * 999999999 := Int.mul_le_mul (by omega) (by omega) hb.1 (by omega)
  omega
theorem mulSgn {x y s s' : Int} (hs : s = sgnI x) (hs' : s' = sgnI y) : s * s' = sgnI (x * y) := by
  subst hs hs'
  rcases Int.lt_trichotomy x 0 with hx | hx | hx <;> rcases Int.lt_trichotomy y 0 with hy | hy | hy
  · have h : 0 < x * y := Int.mul_pos_of_neg_of_neg hx hy
    simp only [sgnI]; (repeat' split) <;> first | omega | rfl
  · subst hy; simp [sgnI]
  · have h : x * y < 0 := Int.mul_neg_of_neg_of_pos hx hy
    simp only [sgnI]; (repeat' split) <;> first | omega | rfl
  · subst hx; simp [sgnI]
  · subst hx; simp [sgnI]
  · subst hx; simp [sgnI]
  · have h : x * y < 0 := Int.mul_neg_of_pos_of_neg hx hy
    simp only [sgnI]; (repeat' split) <;> first | omega | rfl
  · subst hy; simp [sgnI]
  · have h : 0 < x * y := Int.mul_pos hx hy
    simp only [sgnI]; (repeat' split) <;> first | omega | rfl
theorem sgnI_bd (x : Int) : -1 ≤ sgnI x ∧ sgnI x ≤ 1 := by unfold sgnI; (repeat' split) <;> omega

theorem zeros_made (n : Nat) : (madeCells #[Value.int .i64 0] n).toList = iv (List.replicate n 0) := by
  apply List.ext_getElem
  · simp [madeCells, iv]
  · intro k h1 h2
    simp [madeCells, iv, Nat.mod_one]

end Go.Proofs.Ythfmjohbokpceaa
