import Derived.Test.YthfmjohbokpceaaWvE
namespace Go.Proofs.Ythfmjohbokpceaa

/-! whole numbers of any size, by their digits to the base 10^9, the least one first -/
def digOk (l : List Int) : Prop := ∀ x ∈ l, 0 ≤ x ∧ x < 1000000000
def val : List Int → Int
  | [] => 0
  | x :: r => x + 1000000000 * val r
theorem val_nn : ∀ {l : List Int}, digOk l → 0 ≤ val l
  | [], _ => by simp [val]
  | x :: r, h => by
    have := val_nn (l := r) (fun y hy => h y (List.mem_cons_of_mem _ hy))
    have := h x List.mem_cons_self
    simp only [val]; omega
theorem val_lt : ∀ {l : List Int}, digOk l → val l < 1000000000 ^ l.length
  | [], _ => by simp [val]
  | x :: r, h => by
    have := val_lt (l := r) (fun y hy => h y (List.mem_cons_of_mem _ hy))
    have := h x List.mem_cons_self
    simp only [val, List.length_cons, Int.pow_succ]; omega
theorem val_append : ∀ (a b : List Int), val (a ++ b) = val a + 1000000000 ^ a.length * val b
  | [], b => by simp [val]
  | x :: r, b => by
    simp only [List.cons_append, val, val_append r b, List.length_cons, Int.pow_succ]
    grind
theorem digOk_append {a b : List Int} (ha : digOk a) (hb : digOk b) : digOk (a ++ b) := fun x hx => by
  rcases List.mem_append.1 hx with h | h
  · exact ha x h
  · exact hb x h
theorem digOk_take {a : List Int} (n : Nat) (ha : digOk a) : digOk (a.take n) := fun x hx => ha x (List.mem_of_mem_take hx)
theorem digOk_drop {a : List Int} (n : Nat) (ha : digOk a) : digOk (a.drop n) := fun x hx => ha x (List.mem_of_mem_drop hx)

/-- without noughts at the end -/
def trimN (l : List Int) : Nat → Nat
  | 0 => 0
  | n + 1 => if l[n]?.getD 0 = 0 then trimN l n else n + 1
def trimL (l : List Int) : List Int := l.take (trimN l l.length)
theorem trimN_le (l : List Int) : ∀ n, trimN l n ≤ n
  | 0 => Nat.le_refl _
  | n + 1 => by have := trimN_le l n; rw [trimN]; split <;> omega
theorem val_trimN (l : List Int) : ∀ n, n ≤ l.length → val (l.take (trimN l n)) = val (l.take n)
  | 0, _ => rfl
  | n + 1, h => by
    rw [trimN]
    split
    · rename_i h0
      rw [val_trimN l n (by omega), List.take_succ_eq_append_getElem (by omega : n < l.length), val_append]
      have h1 : l[n]?.getD 0 = l[n] := by rw [List.getElem?_eq_getElem (by omega)]; rfl
      rw [h1] at h0
      rw [h0]; simp [val]
    · rfl
theorem val_trim (l : List Int) : val (trimL l) = val l := by
  rw [trimL, val_trimN l _ (Nat.le_refl _), List.take_length]
theorem digOk_trim {l : List Int} (h : digOk l) : digOk (trimL l) := digOk_take _ h
theorem trimL_len (l : List Int) : (trimL l).length = trimN l l.length := by
  have := trimN_le l l.length
  rw [trimL, List.length_take]; omega
/-- the last digit is not 0 -/
def Top (l : List Int) : Prop := ∀ h : l ≠ [], l.getLast h ≠ 0
theorem trimN_top (l : List Int) : ∀ n, 0 < trimN l n → l[trimN l n - 1]?.getD 0 ≠ 0
  | 0, h => by simp [trimN] at h
  | n + 1, h => by
    rw [trimN] at h ⊢
    split
    · rename_i h0; rw [if_pos h0] at h; exact trimN_top l n h
    · rename_i h0; simpa using h0
theorem trim_top (l : List Int) : Top (trimL l) := by
  intro h
  have hn : 0 < trimN l l.length := by
    rw [← trimL_len]; exact List.length_pos_iff.2 h
  have ht := trimN_top l l.length hn
  have hle := trimN_le l l.length
  rw [List.getLast_eq_getElem]
  have e : (trimL l)[(trimL l).length - 1]'(by have := List.length_pos_iff.2 h; omega) = l[trimN l l.length - 1]'(by omega) := by
    simp only [trimL, List.getElem_take, List.length_take]
    congr 1; omega
  rw [e]
  rwa [List.getElem?_eq_getElem (by omega), Option.getD_some] at ht
theorem top_val {l : List Int} (hd : digOk l) (ht : Top l) (h : l ≠ []) : 1000000000 ^ (l.length - 1) ≤ val l := by
  have e := List.dropLast_concat_getLast h
  have h1 := ht h
  have h2 := hd _ (List.getLast_mem h)
  have h3 : 0 ≤ val l.dropLast := val_nn (fun x hx => hd x (List.dropLast_subset _ hx))
  have h4 : val l = val l.dropLast + 1000000000 ^ l.dropLast.length * l.getLast h := by
    conv => lhs; rw [← e]
    rw [val_append]; simp [val]
  rw [List.length_dropLast] at h4
  have hp : (0 : Int) ≤ 1000000000 ^ (l.length - 1) := Int.pow_nonneg (by decide)
  have h5 : (1000000000 : Int) ^ (l.length - 1) * 1 ≤ 1000000000 ^ (l.length - 1) * l.getLast h := Int.mul_le_mul_of_nonneg_left (by omega) hp
  omega
theorem val_pos {l : List Int} (hd : digOk l) (ht : Top l) (h : l ≠ []) : 0 < val l := by
  have := top_val hd ht h
  have hp : (0 : Int) < 1000000000 ^ (l.length - 1) := Int.pow_pos (by decide)
  omega
theorem pow_mono {a b : Nat} (h : a ≤ b) : (1000000000 : Int) ^ a ≤ 1000000000 ^ b := by
  obtain ⟨c, rfl⟩ := Nat.exists_eq_add_of_le h
  rw [Int.pow_add]
  have h1 : (0 : Int) < 1000000000 ^ a := Int.pow_pos (by decide)
  have h2 : (0 : Int) < 1000000000 ^ c := Int.pow_pos (by decide)
  have h3 : (1000000000 : Int) ^ a * 1 ≤ 1000000000 ^ a * 1000000000 ^ c := Int.mul_le_mul_of_nonneg_left (by omega) (by omega)
  omega
theorem len_lt {a b : List Int} (ha : digOk a) (hb : digOk b) (tb : Top b) (h : a.length < b.length) : val a < val b := by
  have h1 := val_lt ha
  have h2 := top_val hb tb (by rintro rfl; simp at h)
  have h3 := pow_mono (show a.length ≤ b.length - 1 by omega)
  omega
/-- equal from place n + 1 on, and less at place n -/
theorem dig_lt {a b : List Int} (ha : digOk a) (hb : digOk b) (hl : a.length = b.length) {n : Nat} (hn : n < a.length) (ht : a.drop (n + 1) = b.drop (n + 1)) (h : a[n] < b[n]'(by omega)) : val a < val b := by
  have split : ∀ (l : List Int) (hn : n < l.length), val l = val (l.take n) + 1000000000 ^ n * (l[n] + 1000000000 * val (l.drop (n + 1))) := by
    intro l hn
    conv => lhs; rw [← List.take_append_drop n l]
    rw [val_append, List.drop_eq_getElem_cons hn, val, List.length_take, Nat.min_eq_left (by omega)]
  rw [split a hn, split b (by omega), ht]
  have h1 := val_lt (digOk_take n ha)
  rw [List.length_take, Nat.min_eq_left (by omega)] at h1
  have h2 := val_nn (digOk_take n hb)
  have hp : (0 : Int) ≤ 1000000000 ^ n := Int.pow_nonneg (by decide)
  have h5 : (1000000000 : Int) ^ n * (a[n] + 1) ≤ 1000000000 ^ n * b[n] := Int.mul_le_mul_of_nonneg_left (by omega) hp
  grind
/-- a place set anew -/
theorem val_set : ∀ (l : List Int) (j : Nat) (v : Int) (hj : j < l.length), val (l.set j v) = val l + 1000000000 ^ j * (v - l[j])
  | [], _, _, h => by simp at h
  | x :: r, 0, v, _ => by simp [val]; omega
  | x :: r, j + 1, v, h => by
    simp only [List.set_cons_succ, val, val_set r j v (by simpa using h), List.getElem_cons_succ, Int.pow_succ]
    grind
theorem digOk_set {l : List Int} (h : digOk l) {j : Nat} {v : Int} (hv : 0 ≤ v ∧ v < 1000000000) : digOk (l.set j v) := fun x hx => by
  rcases List.mem_or_eq_of_mem_set hx with h1 | h1
  · exact h x h1
  · rw [h1]; exact hv
theorem val_zeros : ∀ n : Nat, val (List.replicate n 0) = 0
  | 0 => rfl
  | n + 1 => by simp [List.replicate_succ, val, val_zeros n]
end Go.Proofs.Ythfmjohbokpceaa
