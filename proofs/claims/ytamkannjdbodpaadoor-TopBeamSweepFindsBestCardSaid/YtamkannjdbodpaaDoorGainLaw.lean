import Derived.Test.YtamkannjdbodpaaDoorBeamG
import Derived.Test.YtamkannjdbodpaaDoorBeamJ
namespace Go.Proofs.YtamkannjdbodpaaDoor

/-! the plain law of gains: a number's square when a power of w is added -/
def lp (x : Q4) (r : Int) : Int := if r = 0 then x.a else if r = 1 then x.b else if r = 2 then x.c else if r = 3 then x.d else if r = 4 then -x.a else if r = 5 then -x.b else if r = 6 then -x.c else -x.d
def lq (x : Q4) (r : Int) : Int := if r = 0 then x.b - x.d else if r = 1 then x.a + x.c else if r = 2 then x.b + x.d else if r = 3 then x.c - x.a else if r = 4 then x.d - x.b else if r = 5 then -x.a - x.c else if r = 6 then -x.b - x.d else x.a - x.c
def oneQ (q : Int) : Q4 := (⟨0, 0, 0, 0⟩ : Q4).add 1 q

theorem mod8_cases (p : Int) : p % 8 = 0 ∨ p % 8 = 1 ∨ p % 8 = 2 ∨ p % 8 = 3 ∨ p % 8 = 4 ∨ p % 8 = 5 ∨ p % 8 = 6 ∨ p % 8 = 7 := by omega

theorem add_P (x : Q4) (p : Int) : (x.add 1 p).P = x.P + 2 * lp x (p % 8) + 1 := by
  rcases mod8_cases p with h | h | h | h | h | h | h | h <;> simp [Q4.add, Q4.P, lp, h, Int.add_mul, Int.mul_add] <;> omega
theorem add_Q (x : Q4) (p : Int) : (x.add 1 p).Q = x.Q + lq x (p % 8) := by
  rcases mod8_cases p with h | h | h | h | h | h | h | h <;> simp [Q4.add, Q4.Q, lq, h, Int.add_mul, Int.mul_add, Int.neg_add, Int.mul_neg, Int.neg_mul] <;> omega
theorem add_lp (x : Q4) (q r : Int) : lp (x.add 1 q) r = lp x r + lp (oneQ q) r := by
  rcases mod8_cases q with h | h | h | h | h | h | h | h <;> simp only [Q4.add, oneQ, lp, h] <;> simp <;> (repeat' split) <;> first | omega | (simp_all; done) | (simp_all; omega)
theorem add_lq (x : Q4) (q r : Int) : lq (x.add 1 q) r = lq x r + lq (oneQ q) r := by
  rcases mod8_cases q with h | h | h | h | h | h | h | h <;> simp only [Q4.add, oneQ, lq, h] <;> simp <;> (repeat' split) <;> first | omega | (simp_all; done) | (simp_all; omega)
theorem one_mod (q : Int) : oneQ q = oneQ (q % 8) := by simp [oneQ, Q4.add]
theorem one_bd (q r : Int) : lp (oneQ q) (r % 8) + lq (oneQ q) (r % 8) ≤ 1 ∧ lp (oneQ q) (r % 8) - lq (oneQ q) (r % 8) ≤ 1 := by
  rw [one_mod]
  rcases mod8_cases q with h | h | h | h | h | h | h | h <;> rcases mod8_cases r with g | g | g | g | g | g | g | g <;> rw [h, g] <;> decide

/-- what has come when k antennas were looked at, in a direction; how many -/
def respU (l : List Int) (d : Int) (k : Nat) : Q4 := respS d (onUpto l k)
def onU (l : List Int) (k : Nat) : Int := (onUpto l k).length
theorem respU_zero (l : List Int) (d : Int) : respU l d 0 = ⟨0, 0, 0, 0⟩ := rfl
theorem step_cases (l : List Int) (d : Int) (k : Nat) : (respU l d (k + 1) = respU l d k ∧ onU l (k + 1) = onU l k) ∨
    ∃ p : Int, 0 ≤ p ∧ p ≤ 7 ∧ (∀ d, respU l d (k + 1) = (respU l d k).add 1 (p + (k : Int) * d)) ∧ onU l (k + 1) = onU l k + 1 := by
  by_cases h : k ≤ 1000 ∧ 0 ≤ l[k]?.getD (-1) ∧ l[k]?.getD (-1) ≤ 7
  · refine .inr ⟨l[k]?.getD (-1), h.2.1, h.2.2, fun d => ?_, ?_⟩
    · rw [respU, onUpto, antAt, dif_pos h, respS_snoc]; rfl
    · rw [onU, onUpto, antAt, dif_pos h]; simp [onU]
  · refine .inl ⟨?_, ?_⟩
    · rw [respU, onUpto, antAt, dif_neg h]; simp [respU]
    · rw [onU, onUpto, antAt, dif_neg h]; simp [onU]

theorem lin_bd (l : List Int) (d : Int) : ∀ (k : Nat) (r : Int), lp (respU l d k) (r % 8) + lq (respU l d k) (r % 8) ≤ onU l k ∧ lp (respU l d k) (r % 8) - lq (respU l d k) (r % 8) ≤ onU l k
  | 0, r => by rw [respU_zero]; rcases mod8_cases r with g | g | g | g | g | g | g | g <;> rw [g] <;> simp [lp, lq, onU, onUpto]
  | k + 1, r => by
    have ih := lin_bd l d k r
    rcases step_cases l d k with ⟨h1, h2⟩ | ⟨p, _, _, h1, h2⟩
    · rw [h1, h2]; exact ih
    · have := one_bd (p + (k : Int) * d) r
      rw [h1, h2, add_lp, add_lq]; omega
theorem onU_nn (l : List Int) (k : Nat) : 0 ≤ onU l k := by unfold onU; omega
theorem gain_bd (l : List Int) (d : Int) : ∀ k : Nat, (respU l d k).P + 2 * (respU l d k).Q ≤ onU l k * onU l k ∧ (respU l d k).P - 2 * (respU l d k).Q ≤ onU l k * onU l k
  | 0 => by rw [respU_zero]; simp [Q4.P, Q4.Q, onU, onUpto]
  | k + 1 => by
    have ih := gain_bd l d k
    rcases step_cases l d k with ⟨h1, h2⟩ | ⟨p, _, _, h1, h2⟩
    · rw [h1, h2]; exact ih
    · have := lin_bd l d k (p + (k : Int) * d)
      rw [h1, h2, add_P, add_Q]
      have e : (onU l k + 1) * (onU l k + 1) = onU l k * onU l k + 2 * onU l k + 1 := by simp [Int.add_mul, Int.mul_add]; omega
      rw [e]; omega

/-- the sum of a function at 0, 1, .. -/
def sumN (f : Int → Int) : Nat → Int
  | 0 => 0
  | n + 1 => sumN f n + f n
theorem sumN_add (f g : Int → Int) : ∀ n, sumN (fun d => f d + g d) n = sumN f n + sumN g n
  | 0 => rfl
  | n + 1 => by simp only [sumN, sumN_add f g n]; omega
theorem sumN_congr {f g : Int → Int} (h : ∀ d, f d = g d) : ∀ n, sumN f n = sumN g n
  | 0 => rfl
  | n + 1 => by simp only [sumN, sumN_congr h n, h]
theorem sumN_two (f : Int → Int) : ∀ n, sumN (fun d => 2 * f d) n = 2 * sumN f n
  | 0 => rfl
  | n + 1 => by simp only [sumN, sumN_two f n]; omega
theorem sumN_one : ∀ n : Nat, sumN (fun _ => 1) n = n
  | 0 => rfl
  | n + 1 => by simp only [sumN, sumN_one n]; omega

set_option maxRecDepth 100000 in
theorem cross_one : ∀ q, q < 8 → ∀ p, p < 8 → ∀ m, m < 8 → ∀ k, k < m →
    sumN (fun d => lp (oneQ ((q : Nat) + (k : Nat) * d)) (((p : Nat) + (m : Nat) * d) % 8)) 8 = 0 ∧ sumN (fun d => lq (oneQ ((q : Nat) + (k : Nat) * d)) (((p : Nat) + (m : Nat) * d) % 8)) 8 = 0 := by decide +kernel

theorem cross (l : List Int) (p m : Nat) (hp : p < 8) (hm : m < 8) : ∀ k : Nat, k ≤ m →
    sumN (fun d => lp (respU l d k) (((p : Int) + (m : Int) * d) % 8)) 8 = 0 ∧ sumN (fun d => lq (respU l d k) (((p : Int) + (m : Int) * d) % 8)) 8 = 0
  | 0, _ => by
    have h : ∀ r, lp ⟨0, 0, 0, 0⟩ r = 0 ∧ lq ⟨0, 0, 0, 0⟩ r = 0 := by intro r; unfold lp lq; constructor <;> (repeat' split) <;> rfl
    simp [respU_zero, h, sumN]
  | k + 1, hk => by
    have ih := cross l p m hp hm k (by omega)
    rcases step_cases l 0 k with ⟨h1, _⟩ | ⟨q, hq0, hq7, h1, _⟩
    · by_cases h : k ≤ 1000 ∧ 0 ≤ l[k]?.getD (-1) ∧ l[k]?.getD (-1) ≤ 7
      · obtain ⟨q, hq⟩ := Int.eq_ofNat_of_zero_le h.2.1
        have e : ∀ d, respU l d (k + 1) = (respU l d k).add 1 ((q : Int) + (k : Int) * d) := fun d => by rw [respU, onUpto, antAt, dif_pos h, respS_snoc, ← hq]; rfl
        have c := cross_one q (by omega) p hp m hm k (by omega)
        rw [sumN_congr (fun d => by rw [e d, add_lp]), sumN_congr (f := fun d => lq (respU l d (k + 1)) _) (fun d => by rw [e d, add_lq]), sumN_add, sumN_add, ih.1, ih.2, c.1, c.2]
        exact ⟨rfl, rfl⟩
      · have e : ∀ d, respU l d (k + 1) = respU l d k := fun d => by rw [respU, onUpto, antAt, dif_neg h]; simp [respU]
        rw [sumN_congr (fun d => by rw [e d]), sumN_congr (f := fun d => lq (respU l d (k + 1)) _) (fun d => by rw [e d])]
        exact ih
    · obtain ⟨q, rfl⟩ := Int.eq_ofNat_of_zero_le hq0
      have c := cross_one q (by omega) p hp m hm k (by omega)
      rw [sumN_congr (fun d => by rw [h1 d, add_lp]), sumN_congr (f := fun d => lq (respU l d (k + 1)) _) (fun d => by rw [h1 d, add_lq]), sumN_add, sumN_add, ih.1, ih.2, c.1, c.2]
      exact ⟨rfl, rfl⟩

theorem respU_same (l : List Int) (k : Nat) (h : ¬ (k ≤ 1000 ∧ 0 ≤ l[k]?.getD (-1) ∧ l[k]?.getD (-1) ≤ 7)) (d : Int) : respU l d (k + 1) = respU l d k := by
  rw [respU, onUpto, antAt, dif_neg h]; simp [respU]

theorem parseval (l : List Int) : ∀ k : Nat, k ≤ 8 → sumN (fun d => (respU l d k).P) 8 = 8 * onU l k ∧ sumN (fun d => (respU l d k).Q) 8 = 0
  | 0, _ => by simp [respU_zero, sumN, Q4.P, Q4.Q, onU, onUpto]
  | k + 1, hk => by
    have ih := parseval l k (by omega)
    by_cases h : k ≤ 1000 ∧ 0 ≤ l[k]?.getD (-1) ∧ l[k]?.getD (-1) ≤ 7
    · obtain ⟨q, hq⟩ := Int.eq_ofNat_of_zero_le h.2.1
      have e : ∀ d, respU l d (k + 1) = (respU l d k).add 1 ((q : Int) + (k : Int) * d) := fun d => by rw [respU, onUpto, antAt, dif_pos h, respS_snoc, ← hq]; rfl
      have c := cross l q k (by omega) (by omega) k (Nat.le_refl _)
      have hn : onU l (k + 1) = onU l k + 1 := by rw [onU, onUpto, antAt, dif_pos h]; simp [onU]
      rw [sumN_congr (fun d => by rw [e d, add_P]), sumN_congr (f := fun d => (respU l d (k + 1)).Q) (fun d => by rw [e d, add_Q]), sumN_add, sumN_add, sumN_add, sumN_two, ih.1, ih.2, c.1, c.2, sumN_one, hn]
      omega
    · have hn : onU l (k + 1) = onU l k := by rw [onU, onUpto, antAt, dif_neg h]; simp [onU]
      rw [sumN_congr (fun d => by rw [respU_same l k h d]), sumN_congr (f := fun d => (respU l d (k + 1)).Q) (fun d => by rw [respU_same l k h d]), hn]
      exact ih

theorem onU_drop (l : List Int) (hok : OnOk l) (hl : l.length ≤ 1000) : ∀ k : Nat, k ≤ l.length → onU l k + onC (l.drop k) = onC l
  | 0, _ => by simp [onU, onUpto]
  | k + 1, hk => by
    have ih := onU_drop l hok hl k (by omega)
    have hb := hok l[k] (List.getElem_mem _)
    by_cases h : l[k] = -1
    · rw [onC_off l k hk h] at ih
      rw [onU, onUpto_off l k hk h]; exact ih
    · rw [onC_on l k hk h] at ih
      rw [onU, onUpto_on l k hk ⟨by omega, by omega, hb.2⟩, List.length_append]
      simp only [List.length_cons, List.length_nil]
      unfold onU at ih
      omega
theorem onU_all (l : List Int) (hok : OnOk l) (hl : l.length ≤ 1000) : onU l l.length = onC l := by
  have := onU_drop l hok hl l.length (Nat.le_refl _)
  rw [List.drop_length] at this
  simpa [onC] using this

theorem gains_sum (l : List Int) (hok : OnOk l) (hl : l.length ≤ 8) : sumN (fun d => (resp l d).P) 8 = 8 * onC l ∧ sumN (fun d => (resp l d).Q) 8 = 0 := by
  have h := parseval l l.length hl
  rw [onU_all l hok (by omega)] at h
  exact h
theorem gain_most (l : List Int) (hok : OnOk l) (hl : l.length ≤ 1000) (d : Int) : (resp l d).P + 2 * (resp l d).Q ≤ onC l * onC l ∧ (resp l d).P - 2 * (resp l d).Q ≤ onC l * onC l := by
  have h := gain_bd l d l.length
  rw [onU_all l hok hl] at h
  exact h
theorem sgn_le (p q : Int) (h1 : p + 2 * q ≤ 0) (h2 : p - 2 * q ≤ 0) : sgnPQ p q ≤ 0 := by
  have c := cmp3_bd (p + q) 0
  unfold sgnPQ
  split
  · unfold cmp3; (repeat' split) <;> omega
  split
  · unfold cmp3; (repeat' split) <;> omega
  split
  · omega
  · have hq : 0 ≤ 2 * q := by omega
    have hm : (2 * q) * (2 * q) ≤ (-p) * (-p) := Int.mul_le_mul (by omega) (by omega) hq (by omega)
    rw [Int.neg_mul_neg] at hm
    have e : (2 * q) * (2 * q) = 4 * (q * q) := by rw [Int.mul_assoc, Int.mul_left_comm q 2 q, ← Int.mul_assoc]; rfl
    have hs : 0 ≤ q * q := Int.mul_nonneg (by omega) (by omega)
    unfold cmpSq cmp3
    (repeat' split) <;> omega
theorem gain_sgn (l : List Int) (hok : OnOk l) (hl : l.length ≤ 1000) (d : Int) : sgnPQ ((resp l d).P - onC l * onC l) ((resp l d).Q - 0) ≤ 0 := by
  have h := gain_most l hok hl d
  exact sgn_le _ _ (by omega) (by omega)
theorem steer_gain : ∀ n, n < 9 → ∀ s, s < 8 → (resp (steerL ((s : Nat) : Int) 1 n) ((s : Nat) : Int)).P = (n : Int) * n ∧ (resp (steerL ((s : Nat) : Int) 1 n) ((s : Nat) : Int)).Q = 0 := by decide +kernel
end Go.Proofs.YtamkannjdbodpaaDoor
