import Derived.Test.YtamkannjdbodpaaDoorBase
import Derived.Laws.ComplexArith
namespace Go.Proofs.YtamkannjdbodpaaDoor
open Ieee

/-! a word of the double format that stands for a whole number below 2^53 -/
/-- the number 'm * 2^(-k)' with its sign is n -/
def NumIs (s : Bool) (m k : Nat) (n : Int) : Prop := (if s then -(m : Int) else (m : Int)) = n * 2 ^ k
def IsF (x : Nat) (n : Int) : Prop := ∃ (s : Bool) (m k : Nat), double.read x = .number s m (-(k : Int)) ∧ NumIs s m k n

theorem NumIs.abs {s : Bool} {m k : Nat} {n : Int} (h : NumIs s m k n) : m = n.natAbs * 2 ^ k := by
  unfold NumIs at h
  have h2 : (m : Int).natAbs = (n * 2 ^ k).natAbs := by
    rw [← h]; split <;> simp
  rw [Int.natAbs_mul, Int.natAbs_pow] at h2
  simpa using h2
theorem log2_mul_pow (a k : Nat) (h : a ≠ 0) : (a * 2 ^ k).log2 = a.log2 + k := by
  have h1 := Nat.log2_self_le h
  have h2 := Nat.lt_log2_self (n := a)
  have hm : a * 2 ^ k ≠ 0 := Nat.mul_ne_zero h (by have := Nat.two_pow_pos k; omega)
  apply (Nat.log2_eq_iff hm).2
  constructor
  · rw [Nat.pow_add]; exact Nat.mul_le_mul_right _ h1
  · rw [show a.log2 + k + 1 = a.log2 + 1 + k by omega, Nat.pow_add]; exact Nat.mul_lt_mul_of_pos_right h2 (Nat.two_pow_pos k)

theorem read_zero (s : Bool) : double.read (double.word s 0) = .number s 0 (-(1074 : Nat)) := by cases s <;> decide +kernel

theorem d_sw : double.signWeight = 9223372036854775808 := by decide +kernel
theorem d_bin : double.binade = 4503599627370496 := by decide +kernel
theorem d_inf : double.infRung = 9218868437227405312 := by decide +kernel
theorem d_lp : double.leastPlace = -1074 := by decide +kernel
/-- the word of a full significand 'q' at place -j -/
theorem read_word (s : Bool) (q j : Nat) (h1 : 4503599627370496 ≤ q) (h2 : q < 9007199254740992) (hj : j ≤ 1074) :
    double.read (double.word s ((1074 - j) * 4503599627370496 + q)) = .number s q (-(j : Int)) := by
  have hr : (1074 - j) * 4503599627370496 + q < 9218868437227405312 := by omega
  have hw : double.word s ((1074 - j) * 4503599627370496 + q) / 9223372036854775808 % 2 = (if s then 1 else 0) := by
    unfold Format.word; rw [d_sw]; cases s <;> simp <;> omega
  have hm : double.word s ((1074 - j) * 4503599627370496 + q) % 9223372036854775808 = (1074 - j) * 4503599627370496 + q := by
    unfold Format.word; rw [d_sw]; cases s <;> simp <;> omega
  unfold Format.read
  rw [d_sw, d_bin, d_inf, d_lp, hw, hm]
  dsimp only
  rw [if_neg (by omega), if_pos hr]
  have e1 : 4503599627370496 + ((1074 - j) * 4503599627370496 + q) % 4503599627370496 = q := by omega
  have e2 : (-1074 : Int) + ((((1074 - j) * 4503599627370496 + q) / 4503599627370496 - 1 : Nat) : Int) = -(j : Int) := by omega
  rw [e1, e2]
  cases s <;> rfl

theorem num_sign {s : Bool} {m k : Nat} {n : Int} (h : NumIs s m k n) : n = if s then -(n.natAbs : Int) else (n.natAbs : Int) := by
  have hm := h.abs
  unfold NumIs at h
  have hp : (0 : Int) < 2 ^ k := Int.pow_pos (by decide)
  rw [hm] at h
  push_cast at h
  have hp2 : (2 : Int) ^ k ≠ 0 := by omega
  cases s
  · simp only [Bool.false_eq_true, if_false] at h ⊢
    exact (Int.eq_of_mul_eq_mul_right hp2 h).symm
  · simp only [if_true] at h ⊢
    rw [← Int.neg_mul] at h
    exact (Int.eq_of_mul_eq_mul_right hp2 h).symm
theorem cut_exact (s : Bool) (q d : Nat) (hd : d ≤ (q * 2 ^ d).log2 + 2) : Toward.even.cut s (q * 2 ^ d) d = q := by
  unfold Toward.cut
  have hp := Nat.two_pow_pos d
  rw [Nat.min_eq_left hd, Nat.shiftLeft_eq, Nat.one_mul]
  simp only [Nat.mul_div_cancel _ hp, Nat.mul_mod_left]
  have : decide (2 ^ d < 2 * 0) = false := by simp
  have h2 : (2 ^ d == 2 * 0) = false := by simp
  rw [this, h2]
  rfl
theorem nearest_is (s : Bool) (m k : Nat) (n : Int) (h : NumIs s m k n) (hn : n.natAbs < 9007199254740992) : IsF (double.nearest s m (-(k : Int))) n := by
  have hm := h.abs
  have hs := num_sign h
  by_cases h0 : m = 0
  · have ha : n.natAbs = 0 := by
      rcases Nat.eq_zero_or_pos n.natAbs with g | g
      · exact g
      · have := Nat.mul_pos g (Nat.two_pow_pos k); omega
    obtain rfl : n = 0 := by omega
    refine ⟨s, 0, 1074, ?_, by unfold NumIs; rw [Int.zero_mul]; cases s <;> rfl⟩
    unfold Format.nearest
    rw [if_pos h0]
    exact read_zero s
  · have ha : n.natAbs ≠ 0 := by intro e; rw [e] at hm; simp at hm; exact h0 hm
    obtain ⟨a, hae⟩ : ∃ a, n.natAbs = a := ⟨_, rfl⟩
    rw [hae] at hm hn ha hs
    have hl1 := Nat.log2_self_le ha
    have hl2 := Nat.lt_log2_self (n := a)
    have hlog : a.log2 ≤ 52 := by
      have : a.log2 < 53 := (Nat.log2_lt ha).2 (by simpa using hn)
      omega
    obtain ⟨j, hj⟩ : ∃ j, a.log2 + j = 52 := ⟨52 - a.log2, by omega⟩
    have hq1 : 4503599627370496 ≤ a * 2 ^ j := by
      have : 2 ^ a.log2 * 2 ^ j ≤ a * 2 ^ j := Nat.mul_le_mul_right _ hl1
      rw [← Nat.pow_add, hj] at this
      simpa using this
    have hq2 : a * 2 ^ j < 9007199254740992 := by
      have : a * 2 ^ j < 2 ^ (a.log2 + 1) * 2 ^ j := Nat.mul_lt_mul_of_pos_right hl2 (Nat.two_pow_pos j)
      rw [← Nat.pow_add, show a.log2 + 1 + j = 53 by omega] at this
      simpa using this
    have hml : m.log2 = a.log2 + k := by rw [hm]; exact log2_mul_pow a k ha
    have hlast : max (-(k : Int) + (m.log2 : Int) - (double.fractionBits : Int)) double.leastPlace = -(j : Int) := by
      rw [d_lp, hml, show double.fractionBits = 52 from rfl]
      push_cast
      omega
    have hkept : Toward.even.cut s (m <<< (-(k : Int) - -(j : Int)).toNat) (-(j : Int) - -(k : Int)).toNat = a * 2 ^ j := by
      rcases Nat.le_total k j with g | g
      · rw [show (-(k : Int) - -(j : Int)).toNat = j - k by omega, show (-(j : Int) - -(k : Int)).toNat = 0 by omega, Nat.shiftLeft_eq, hm, Nat.mul_assoc, ← Nat.pow_add, show k + (j - k) = j by omega]
        have := cut_exact s (a * 2 ^ j) 0 (by omega)
        simpa using this
      · rw [show (-(k : Int) - -(j : Int)).toNat = 0 by omega, show (-(j : Int) - -(k : Int)).toNat = k - j by omega, Nat.shiftLeft_zero, hm]
        have e : a * 2 ^ k = a * 2 ^ j * 2 ^ (k - j) := by rw [Nat.mul_assoc, ← Nat.pow_add, show j + (k - j) = k by omega]
        rw [e]
        refine cut_exact s (a * 2 ^ j) (k - j) ?_
        rw [← e, log2_mul_pow a k ha]; omega
    refine ⟨s, a * 2 ^ j, j, ?_, ?_⟩
    · unfold Format.nearest
      rw [if_neg h0, hlast]
      dsimp only
      rw [hkept, d_lp, d_bin, d_inf, show (-(j : Int) - -1074).toNat = 1074 - j by omega, Nat.min_eq_left (by omega)]
      exact read_word s _ j hq1 hq2 (by omega)
    · unfold NumIs
      rw [hs]
      push_cast
      cases s <;> simp [Int.neg_mul]

/-! the operations -/
theorem signed_is {s : Bool} {m k u : Nat} {n : Int} (h : NumIs s m k n) : signed s m u = n * 2 ^ (k + u) := by
  unfold NumIs at h
  have e : (2 : Int) ^ (k + u) = 2 ^ k * 2 ^ u := Int.pow_add _ _ _
  unfold signed
  rw [e, ← Int.mul_assoc, ← h, Nat.shiftLeft_eq]
  cases s <;> simp [Int.neg_mul]
theorem dsum_is {s t : Bool} {m n k l : Nat} {a b : Int} (h : NumIs s m k a) (h' : NumIs t n l b) (hb : (a + b).natAbs < 9007199254740992) :
    ∃ r, (Datum.sum (.number s m (-(k : Int))) (.number t n (-(l : Int)))).map double.write = some r ∧ IsF r (a + b) := by
  have hmin : min (-(k : Int)) (-(l : Int)) = -((max k l : Nat) : Int) := by omega
  have h1 : signed s m (-(k : Int) - -((max k l : Nat) : Int)).toNat = a * 2 ^ (max k l) := by
    rw [signed_is h]; congr 2; omega
  have h2 : signed t n (-(l : Int) - -((max k l : Nat) : Int)).toNat = b * 2 ^ (max k l) := by
    rw [signed_is h']; congr 2; omega
  refine ⟨double.nearest (if a * 2 ^ (max k l) + b * 2 ^ (max k l) = 0 then s && t else decide (a * 2 ^ (max k l) + b * 2 ^ (max k l) < 0)) (a * 2 ^ (max k l) + b * 2 ^ (max k l)).natAbs (-((max k l : Nat) : Int)), ?_, ?_⟩
  · unfold Datum.sum
    dsimp only
    rw [hmin, h1, h2]
    rfl
  · refine nearest_is _ _ _ _ ?_ hb
    unfold NumIs
    rw [Int.add_mul]
    generalize a * 2 ^ (max k l) + b * 2 ^ (max k l) = T
    by_cases h0 : T = 0
    · subst h0; simp
    · rw [if_neg h0]
      by_cases hn : T < 0
      · rw [decide_eq_true hn, if_pos rfl]; omega
      · rw [decide_eq_false hn, if_neg (by decide)]; omega
theorem prod_is {s t : Bool} {m n k l : Nat} {a b : Int} (h : NumIs s m k a) (h' : NumIs t n l b) (hb : (a * b).natAbs < 9007199254740992) :
    ∃ r, (Datum.product (.number s m (-(k : Int))) (.number t n (-(l : Int)))).map double.write = some r ∧ IsF r (a * b) := by
  refine ⟨double.nearest (s ^^ t) (m * n) (-((k + l : Nat) : Int)), ?_, nearest_is _ _ _ _ ?_ hb⟩
  · unfold Datum.product
    dsimp only
    rw [show -(k : Int) + -(l : Int) = -((k + l : Nat) : Int) by omega]
    rfl
  · unfold NumIs at *
    have e : (2 : Int) ^ (k + l) = 2 ^ k * 2 ^ l := Int.pow_add _ _ _
    have e2 : a * b * (2 ^ k * 2 ^ l) = (a * 2 ^ k) * (b * 2 ^ l) := by grind
    rw [e, e2, ← h, ← h']
    push_cast
    cases s <;> cases t <;> simp [Int.neg_mul, Int.mul_neg]
theorem opp_is {s : Bool} {m k : Nat} {n : Int} (h : NumIs s m k n) : NumIs (!s) m k (-n) := by
  unfold NumIs at *
  rw [Int.neg_mul, ← h]
  cases s <;> simp

theorem fadd_is {x y : Nat} {a b : Int} (hx : IsF x a) (hy : IsF y b) (hb : (a + b).natAbs < 9007199254740992) : ∃ r, floatBits .add .f64 x y = some r ∧ IsF r (a + b) := by
  obtain ⟨s, m, k, h1, h2⟩ := hx
  obtain ⟨t, n, l, h3, h4⟩ := hy
  obtain ⟨r, h5, h6⟩ := dsum_is h2 h4 hb
  refine ⟨r, ?_, h6⟩
  show ((double.read x).sum (double.read y)).map double.write = some r
  rw [h1, h3]; exact h5
theorem fsub_is {x y : Nat} {a b : Int} (hx : IsF x a) (hy : IsF y b) (hb : (a - b).natAbs < 9007199254740992) : ∃ r, floatBits .sub .f64 x y = some r ∧ IsF r (a - b) := by
  obtain ⟨s, m, k, h1, h2⟩ := hx
  obtain ⟨t, n, l, h3, h4⟩ := hy
  obtain ⟨r, h5, h6⟩ := dsum_is h2 (opp_is h4) (by rw [← Int.sub_eq_add_neg]; exact hb)
  refine ⟨r, ?_, by rw [Int.sub_eq_add_neg]; exact h6⟩
  show ((double.read x).sum (double.read y).opposite).map double.write = some r
  rw [h1, h3]; exact h5
theorem fmul_is {x y : Nat} {a b : Int} (hx : IsF x a) (hy : IsF y b) (hb : (a * b).natAbs < 9007199254740992) : ∃ r, floatBits .mul .f64 x y = some r ∧ IsF r (a * b) := by
  obtain ⟨s, m, k, h1, h2⟩ := hx
  obtain ⟨t, n, l, h3, h4⟩ := hy
  obtain ⟨r, h5, h6⟩ := prod_is h2 h4 hb
  refine ⟨r, ?_, h6⟩
  show ((double.read x).product (double.read y)).map double.write = some r
  rw [h1, h3]; exact h5
/-- 'float64(n)' -/
theorem fint_is (n : Int) (hn : n.natAbs < 9007199254740992) : IsF (floatOfInt .f64 n) n := by
  have h : NumIs (decide (n < 0)) n.natAbs 0 n := by
    unfold NumIs
    by_cases h0 : n < 0
    · rw [decide_eq_true h0, if_pos rfl]; omega
    · rw [decide_eq_false h0, if_neg (by decide)]; omega
  exact nearest_is _ _ 0 _ h hn
theorem cut_zero (s : Bool) (q d : Nat) (hd : d ≤ (q * 2 ^ d).log2 + 2) : Toward.zero.cut s (q * 2 ^ d) d = q := by
  unfold Toward.cut
  have hp := Nat.two_pow_pos d
  rw [Nat.min_eq_left hd, Nat.shiftLeft_eq, Nat.one_mul]
  simp only [Nat.mul_div_cancel _ hp]
  rfl
/-- 'int(x)' -/
theorem toInt_is {x : Nat} {n : Int} (hx : IsF x n) (hn : n.natAbs < 9007199254740992) : floatToIntVal .f64 x .i64 = some n := by
  obtain ⟨s, m, k, h1, h2⟩ := hx
  have hm := h2.abs
  have hs := num_sign h2
  have hcut : Toward.zero.cut s (m <<< (-(k : Int)).toNat) (-(-(k : Int))).toNat = n.natAbs := by
    rw [show (-(k : Int)).toNat = 0 by omega, show (-(-(k : Int))).toNat = k by omega, Nat.shiftLeft_zero, hm]
    by_cases h0 : n.natAbs = 0
    · rw [h0, Nat.zero_mul]
      unfold Toward.cut
      simp
    · exact cut_zero s _ k (by rw [log2_mul_pow _ _ h0]; omega)
  have ht : (Datum.number s m (-(k : Int))).toInt .zero = some n := by
    unfold Datum.toInt Datum.integral
    dsimp only
    rw [hcut]
    congr 1
    unfold signed
    rw [Nat.shiftLeft_zero]
    exact hs.symm
  unfold floatToIntVal
  rw [show FloatKind.f64.decode x = double.read x from rfl, h1, ht]
  dsimp only
  rw [if_pos]
  have h3 : IntKind.i64.min = -9223372036854775808 := by decide
  have h4 : IntKind.i64.max = 9223372036854775807 := by decide
  rw [h3, h4]; omega

theorem xor_sign (x : Nat) : (x ^^^ 9223372036854775808) % 9223372036854775808 = x % 9223372036854775808 ∧ (x ^^^ 9223372036854775808) / 9223372036854775808 % 2 = 1 - x / 9223372036854775808 % 2 := by
  have h1 := Nat.xor_mod_two_pow (a := x) (b := 9223372036854775808) (n := 63)
  have h2 := Nat.xor_div_two_pow (a := x) (b := 9223372036854775808) (n := 63)
  have e : (2 : Nat) ^ 63 = 9223372036854775808 := by decide
  rw [e] at h1 h2
  constructor
  · rw [h1]; simp
  · rw [h2, show 9223372036854775808 / 9223372036854775808 = 1 by decide]
    have h3 := Nat.xor_mod_two_pow (a := x / 9223372036854775808) (b := 1) (n := 1)
    rw [show (2 : Nat) ^ 1 = 2 by decide] at h3
    rw [h3]
    rcases (by omega : x / 9223372036854775808 % 2 = 0 ∨ x / 9223372036854775808 % 2 = 1) with g | g <;> rw [g] <;> rfl
/-- '-x' -/
theorem fneg_is {x : Nat} {n : Int} (hx : IsF x n) : IsF (Op.negFloat .f64 x) (-n) := by
  obtain ⟨s, m, k, h1, h2⟩ := hx
  refine ⟨!s, m, k, ?_, opp_is h2⟩
  have hn : Op.negFloat .f64 x = x ^^^ 9223372036854775808 := rfl
  obtain ⟨g1, g2⟩ := xor_sign x
  rw [hn]
  unfold Format.read at h1 ⊢
  rw [d_sw, d_bin, d_inf, d_lp] at h1 ⊢
  rw [g1, g2]
  dsimp only at h1 ⊢
  have hb : (1 - x / 9223372036854775808 % 2 == 1) = !(x / 9223372036854775808 % 2 == 1) := by
    rcases (by omega : x / 9223372036854775808 % 2 = 0 ∨ x / 9223372036854775808 % 2 = 1) with g | g <;> rw [g] <;> rfl
  rw [hb]
  by_cases c1 : x % 9223372036854775808 < 4503599627370496
  · rw [if_pos c1] at h1 ⊢
    injection h1 with e1 e2 e3
    rw [e1, e2, e3]
  · rw [if_neg c1] at h1 ⊢
    by_cases c2 : x % 9223372036854775808 < 9218868437227405312
    · rw [if_pos c2] at h1 ⊢
      injection h1 with e1 e2 e3
      rw [e1, e2, e3]
    · rw [if_neg c2] at h1
      split at h1 <;> cases h1
theorem fzero_is : IsF 0 0 := ⟨false, 0, 1074, by decide +kernel, by unfold NumIs; rw [Int.zero_mul]; rfl⟩
/-- a complex number with whole parts -/
def IsC (x y : Nat) (z : Int × Int) : Prop := IsF x z.1 ∧ IsF y z.2
def cadd (z w : Int × Int) : Int × Int := (z.1 + w.1, z.2 + w.2)
def csub (z w : Int × Int) : Int × Int := (z.1 - w.1, z.2 - w.2)
def cmul (z w : Int × Int) : Int × Int := (z.1 * w.1 - z.2 * w.2, z.1 * w.2 + z.2 * w.1)
def cconj (z : Int × Int) : Int × Int := (z.1, -z.2)
/-- parts of at most m in size -/
def cle (m : Int) (z : Int × Int) : Prop := -m ≤ z.1 ∧ z.1 ≤ m ∧ -m ≤ z.2 ∧ z.2 ≤ m
theorem cadd_is {a b c d : Nat} {z w : Int × Int} (h : IsC a b z) (h' : IsC c d w) {m m' : Int} (hz : cle m z) (hw : cle m' w) (hm : m + m' ≤ 1000000000000000) :
    ∃ r s, cSumBits .add .f64 a b c d = some (r, s) ∧ IsC r s (cadd z w) := by
  unfold cle at hz hw
  obtain ⟨r, h1, h2⟩ := fadd_is h.1 h'.1 (by omega)
  obtain ⟨s, h3, h4⟩ := fadd_is h.2 h'.2 (by omega)
  exact ⟨r, s, by unfold cSumBits; rw [h1, Option.bind_some, h3]; rfl, h2, h4⟩
theorem csub_is {a b c d : Nat} {z w : Int × Int} (h : IsC a b z) (h' : IsC c d w) {m m' : Int} (hz : cle m z) (hw : cle m' w) (hm : m + m' ≤ 1000000000000000) :
    ∃ r s, cSumBits .sub .f64 a b c d = some (r, s) ∧ IsC r s (csub z w) := by
  unfold cle at hz hw
  obtain ⟨r, h1, h2⟩ := fsub_is h.1 h'.1 (by omega)
  obtain ⟨s, h3, h4⟩ := fsub_is h.2 h'.2 (by omega)
  exact ⟨r, s, by unfold cSumBits; rw [h1, Option.bind_some, h3]; rfl, h2, h4⟩
theorem mul_bd2 {a b m n : Int} (h1 : -m ≤ a) (h2 : a ≤ m) (h3 : -n ≤ b) (h4 : b ≤ n) : -(m * n) ≤ a * b ∧ a * b ≤ m * n := by
  have ha : a.natAbs ≤ m.natAbs := by omega
  have hb : b.natAbs ≤ n.natAbs := by omega
  have h := Nat.mul_le_mul ha hb
  rw [← Int.natAbs_mul, ← Int.natAbs_mul] at h
  have hm : 0 ≤ m * n := Int.mul_nonneg (by omega) (by omega)
  omega
theorem cmul_is {a b c d : Nat} {z w : Int × Int} (h : IsC a b z) (h' : IsC c d w) {m m' : Int} (hz : cle m z) (hw : cle m' w) (hm : m * m' ≤ 100000000000000) :
    ∃ r s, cMulBits a b c d = some (r, s) ∧ IsC r s (cmul z w) ∧ cle (2 * (m * m')) (cmul z w) := by
  unfold cle at hz hw
  have p1 := mul_bd2 hz.1 hz.2.1 hw.1 hw.2.1
  have p2 := mul_bd2 hz.2.2.1 hz.2.2.2 hw.2.2.1 hw.2.2.2
  have p3 := mul_bd2 hz.1 hz.2.1 hw.2.2.1 hw.2.2.2
  have p4 := mul_bd2 hz.2.2.1 hz.2.2.2 hw.1 hw.2.1
  obtain ⟨x1, h1, i1⟩ := fmul_is h.1 h'.1 (by omega)
  obtain ⟨x2, h2, i2⟩ := fmul_is h.2 h'.2 (by omega)
  obtain ⟨x3, h3, i3⟩ := fsub_is i1 i2 (by omega)
  obtain ⟨x4, h4, i4⟩ := fmul_is h.1 h'.2 (by omega)
  obtain ⟨x5, h5, i5⟩ := fmul_is h.2 h'.1 (by omega)
  obtain ⟨x6, h6, i6⟩ := fadd_is i4 i5 (by omega)
  refine ⟨x3, x6, ?_, ⟨i3, i6⟩, ?_⟩
  · unfold cMulBits
    simp [h1, h2, h3, h4, h5, h6]
  · unfold cle cmul; dsimp only; omega
end Go.Proofs.YtamkannjdbodpaaDoor
