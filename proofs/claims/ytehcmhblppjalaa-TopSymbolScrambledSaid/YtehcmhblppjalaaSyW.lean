import Derived.Test.YtehcmhblppjalaaHeld
namespace Go.Proofs.Ytehcmhblppjalaa

/-! registers as words: steps, their way back, sequences (plain) -/
def par (x : Nat) : Nat := (x % 2 + x / 2 % 2 + x / 4 % 2 + x / 8 % 2 + x / 16 % 2 + x / 32 % 2 + x / 64 % 2 + x / 128 % 2 + x / 256 % 2 + x / 512 % 2) % 2
theorem par_le (x : Nat) : par x < 2 := Nat.mod_lt _ (by decide)
theorem par_low : ∀ x < 1024, x ≠ 0 → x &&& (x - 1) < x ∧ par x = 1 - par (x &&& (x - 1)) := by decide +kernel
theorem par_odd : ∀ m < 512, par (2 * m + 1) = 1 - par (2 * m) := by decide +kernel
def stepW (tp top x : Nat) : Nat := 2 ^ top * par (x &&& tp) + x / 2
theorem stepW_or {tp top x : Nat} (h : x < 2 ^ (top + 1)) : stepW tp top x = 2 ^ top * par (x &&& tp) ||| x / 2 := by
  unfold stepW
  rw [Nat.two_pow_add_eq_or_of_lt]
  rw [Nat.pow_succ] at h; omega
theorem stepW_lt {tp top x : Nat} (h : x < 2 ^ (top + 1)) : stepW tp top x < 2 ^ (top + 1) := by
  have h1 := par_le (x &&& tp)
  unfold stepW
  rw [Nat.pow_succ] at *
  have : 2 ^ top * par (x &&& tp) ≤ 2 ^ top * 1 := Nat.mul_le_mul_left _ (by omega)
  omega
theorem and_odd (m t : Nat) : (2 * m + 1) &&& (2 * t + 1) = 2 * (m &&& t) + 1 := by
  refine Nat.eq_of_testBit_eq fun i => ?_
  cases i with
  | zero => simp [Nat.testBit_zero]
  | succ i => rw [Nat.testBit_and, Nat.testBit_succ, Nat.testBit_succ, Nat.testBit_succ, show (2 * m + 1) / 2 = m by omega, show (2 * t + 1) / 2 = t by omega, show (2 * (m &&& t) + 1) / 2 = (m &&& t) by omega, Nat.testBit_and]
theorem and_even (m t : Nat) : (2 * m) &&& (2 * t + 1) = 2 * (m &&& t) := by
  refine Nat.eq_of_testBit_eq fun i => ?_
  cases i with
  | zero => simp [Nat.testBit_zero]
  | succ i => rw [Nat.testBit_and, Nat.testBit_succ, Nat.testBit_succ, Nat.testBit_succ, show (2 * m) / 2 = m by omega, show (2 * t + 1) / 2 = t by omega, show (2 * (m &&& t)) / 2 = (m &&& t) by omega, Nat.testBit_and]
theorem stepW_inj {tp top x y : Nat} (ht : tp % 2 = 1) (htop : top < 10) (hx : x < 2 ^ (top + 1)) (hy : y < 2 ^ (top + 1)) (h : stepW tp top x = stepW tp top y) : x = y := by
  have h1 := par_le (x &&& tp)
  have h2 := par_le (y &&& tp)
  have hp : 2 ^ (top + 1) ≤ 1024 := Nat.pow_le_pow_right (by decide) (show top + 1 ≤ 10 by omega)
  have hx2 : x / 2 < 2 ^ top := by rw [Nat.pow_succ] at hx; omega
  have hy2 : y / 2 < 2 ^ top := by rw [Nat.pow_succ] at hy; omega
  unfold stepW at h
  have hd : x / 2 = y / 2 := by
    have e1 : (2 ^ top * par (x &&& tp) + x / 2) % 2 ^ top = x / 2 := by rw [Nat.mul_add_mod]; exact Nat.mod_eq_of_lt hx2
    have e2 : (2 ^ top * par (y &&& tp) + y / 2) % 2 ^ top = y / 2 := by rw [Nat.mul_add_mod]; exact Nat.mod_eq_of_lt hy2
    rw [← e1, h, e2]
  have hq : par (x &&& tp) = par (y &&& tp) := by
    rw [hd] at h
    exact Nat.eq_of_mul_eq_mul_left (Nat.pow_pos (by decide)) (Nat.add_right_cancel h)
  obtain ⟨t, rfl⟩ : ∃ t, tp = 2 * t + 1 := ⟨tp / 2, by omega⟩
  have key : ∀ m, 2 * m < 1024 → par ((2 * m) &&& (2 * t + 1)) ≠ par ((2 * m + 1) &&& (2 * t + 1)) := fun m hm => by
    rw [and_odd, and_even, par_odd _ (Nat.lt_of_le_of_lt Nat.and_le_left (by omega))]
    have := par_le (2 * (m &&& t))
    omega
  rcases Nat.mod_two_eq_zero_or_one x with ex | ex <;> rcases Nat.mod_two_eq_zero_or_one y with ey | ey
  · omega
  · exfalso
    have := key (x / 2) (by omega)
    rw [show 2 * (x / 2) = x by omega, show x + 1 = y by omega] at this
    exact this hq
  · exfalso
    have := key (y / 2) (by omega)
    rw [show 2 * (y / 2) = y by omega, show y + 1 = x by omega] at this
    exact this hq.symm
  · omega
def itW (tp top : Nat) (x : Nat) : Nat → Nat
  | 0 => x
  | n + 1 => stepW tp top (itW tp top x n)
theorem itW_lt {tp top x : Nat} (h : x < 2 ^ (top + 1)) : ∀ n, itW tp top x n < 2 ^ (top + 1)
  | 0 => h
  | n + 1 => stepW_lt (itW_lt h n)
theorem itW_add (tp top x m : Nat) : ∀ n, itW tp top x (m + n) = itW tp top (itW tp top x m) n
  | 0 => rfl
  | n + 1 => by show stepW tp top (itW tp top x (m + n)) = _; rw [itW_add tp top x m n]; rfl
theorem pigeon : ∀ (N : Nat) (g : Nat → Nat), (∀ i, i ≤ N → g i < N) → ∃ i j, i < j ∧ j ≤ N ∧ g i = g j
  | 0, g, h => absurd (h 0 (Nat.le_refl _)) (Nat.not_lt_zero _)
  | N + 1, g, h => by
    by_cases hc : ∃ i, i ≤ N ∧ g i = g (N + 1)
    · obtain ⟨i, hi, e⟩ := hc
      exact ⟨i, N + 1, by omega, Nat.le_refl _, e⟩
    · have hne : ∀ i, i ≤ N → g i ≠ g (N + 1) := fun i hi e => hc ⟨i, hi, e⟩
      obtain ⟨i, j, hij, hj, e⟩ := pigeon N (fun i => if g i = N then g (N + 1) else g i) (fun i hi => by
        have h1 := h i (by omega)
        have h2 := h (N + 1) (Nat.le_refl _)
        have h3 := hne i hi
        split
        · rename_i q; omega
        · omega)
      refine ⟨i, j, hij, by omega, ?_⟩
      have h3 := hne i (by omega)
      have h4 := hne j hj
      split at e <;> split at e
      · rename_i q1 q2; rw [q1, q2]
      · exact absurd e.symm h4
      · exact absurd e h3
      · exact e
theorem itW_cancel {tp top x : Nat} (ht : tp % 2 = 1) (htop : top < 10) (hx : x < 2 ^ (top + 1)) : ∀ i d, itW tp top x i = itW tp top x (i + d) → x = itW tp top x d
  | 0, d, h => by rw [Nat.zero_add] at h; exact h
  | i + 1, d, h => by
    rw [show i + 1 + d = (i + d) + 1 by omega] at h
    exact itW_cancel ht htop hx i d (stepW_inj ht htop (itW_lt hx _) (itW_lt hx _) h)
theorem orbit {tp top x : Nat} (ht : tp % 2 = 1) (htop : top < 10) (hx : x < 2 ^ (top + 1)) : ∃ p, 1 ≤ p ∧ p ≤ 1024 ∧ itW tp top x p = x := by
  obtain ⟨i, j, hij, hj, e⟩ := pigeon (2 ^ (top + 1)) (itW tp top x) (fun i _ => itW_lt hx i)
  have hp : 2 ^ (top + 1) ≤ 1024 := Nat.pow_le_pow_right (by decide) (show top + 1 ≤ 10 by omega)
  refine ⟨j - i, by omega, by omega, ?_⟩
  have := itW_cancel ht htop hx i (j - i) (by rw [show i + (j - i) = j by omega]; exact e)
  exact this.symm
theorem itW_mod {tp top x p : Nat} (h : itW tp top x p = x) (n : Nat) : itW tp top x (n % p) = itW tp top x n := by
  have hm : ∀ q, itW tp top x (p * q) = x := fun q => by
    induction q with
    | zero => rfl
    | succ q ih => rw [Nat.mul_succ, itW_add, ih, h]
  conv => rhs; rw [← Nat.div_add_mod n p, itW_add, hm]
/-- the bits that are given out -/
def seqW (tp top x : Nat) : Nat → List Int
  | 0 => []
  | n + 1 => seqW tp top x n ++ [((itW tp top x n % 2 : Nat) : Int)]
theorem seqW_len (tp top x : Nat) : ∀ n, (seqW tp top x n).length = n
  | 0 => rfl
  | n + 1 => by simp [seqW, seqW_len tp top x n]
theorem seqW_add (tp top x m : Nat) : ∀ n, seqW tp top x (m + n) = seqW tp top x m ++ seqW tp top (itW tp top x m) n
  | 0 => by simp [seqW]
  | n + 1 => by show seqW tp top x (m + n) ++ [((itW tp top x (m + n) % 2 : Nat) : Int)] = _; rw [seqW_add tp top x m n, itW_add]; simp [seqW]
end Go.Proofs.Ytehcmhblppjalaa
