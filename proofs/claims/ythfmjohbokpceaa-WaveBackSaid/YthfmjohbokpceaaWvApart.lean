namespace Go.Proofs.Ythfmjohbokpceaa

/-! both sequences of bits, and how far their products are apart -/
def bA : List Bool := [true, false, false, false, false, true, false, false, true, false, true, true, false, false, true, true, true, true, true, false, false, false, true, true, false, true, true, true, false, true, false]
def bB : List Bool := [true, false, false, false, false, true, true, false, false, true, false, false, true, true, true, true, true, false, true, true, true, false, false, false, true, false, true, false, true, true, false]
def vA : List Int := [-1, 1, 1, 1, 1, -1, 1, 1, -1, 1, -1, -1, 1, 1, -1, -1, -1, -1, -1, 1, 1, 1, -1, -1, 1, -1, -1, -1, 1, -1, 1]
def vB : List Int := [-1, 1, 1, 1, 1, -1, -1, 1, 1, -1, 1, 1, -1, -1, -1, -1, -1, 1, -1, -1, -1, 1, 1, 1, -1, 1, -1, 1, -1, -1, 1]
def mA : List Nat := [784846113, 1466164880, 733082440, 366541220, 183270610, 91635305, 1119559476, 559779738, 279889869, 1213686758, 606843379, 1377163513, 1762323580, 881161790, 440580895, 1294032271, 1720757959, 1934120803, 2040802225, 2094142936, 1047071468, 523535734, 261767867, 1204625757, 1676054702, 838027351, 1492755499, 1820119573, 1983801610, 991900805, 1569692226]
def mB : List Nat := [891155041, 1519319344, 759659672, 379829836, 189914918, 94957459, 1121220553, 1634352100, 817176050, 408588025, 1278035836, 639017918, 319508959, 1233496303, 1690489975, 1918986811, 2033235229, 2090359438, 1045179719, 1596331683, 1871907665, 2009695656, 1004847828, 502423914, 251211957, 1199347802, 599673901, 1373578774, 686789387, 1417136517, 1782310082]
def rA (m i : Nat) : Bool := (bA[(i + m) % 31]?).getD false
def rB (m i : Nat) : Bool := (bB[(i + m) % 31]?).getD false
/-- what a bit stands for -/
def vb (b : Bool) : Int := if b then -1 else 1
theorem vb_xor (a b : Bool) : vb (a ^^ b) = vb a * vb b := by cases a <;> cases b <;> rfl
theorem vb_eq (a b : Bool) : (vb a = vb b) ↔ a = b := by cases a <;> cases b <;> simp [vb]
theorem vb_size (a : Bool) : vb a = 1 ∨ vb a = -1 := by cases a <;> simp [vb]
/-- how many of the first k are so -/
def cnt (p : Nat → Bool) : Nat → Nat
  | 0 => 0
  | k + 1 => cnt p k + (p k).toNat
theorem cnt_congr {p q : Nat → Bool} : ∀ {n : Nat}, (∀ k, k < n → p k = q k) → cnt p n = cnt q n
  | 0, _ => rfl
  | n + 1, h => by rw [cnt, cnt, cnt_congr (fun k hk => h k (by omega)), h n (by omega)]
theorem cnt_le (p : Nat → Bool) : ∀ n, cnt p n ≤ n
  | 0 => Nat.le_refl _
  | n + 1 => by have := cnt_le p n; have := Bool.toNat_le (p n); rw [cnt]; omega
theorem cnt_false (n : Nat) : cnt (fun _ => false) n = 0 := by
  induction n with
  | zero => rfl
  | succ n ih => rw [cnt, ih]; rfl
theorem mA_bit : ∀ m, m < 31 → ∀ i, i < 31 → Nat.testBit (mA[m]?.getD 0) i = rA m i := by decide +kernel
theorem mB_bit : ∀ m, m < 31 → ∀ i, i < 31 → Nat.testBit (mB[m]?.getD 0) i = rB m i := by decide +kernel
theorem mA_xor : ∀ m, m < 31 → ∀ n, n < 31 → m ≠ n → ((mA[m]?.getD 0) ^^^ (mA[n]?.getD 0)) ∈ mA := by decide +kernel
theorem mB_xor : ∀ m, m < 31 → ∀ n, n < 31 → m ≠ n → ((mB[m]?.getD 0) ^^^ (mB[n]?.getD 0)) ∈ mB := by decide +kernel
theorem far_ab : (mA.all fun x => mB.all fun y => decide (12 ≤ cnt (Nat.testBit (x ^^^ y)) 31)) = true := by decide +kernel
theorem far_a : (mA.all fun x => decide (12 ≤ cnt (Nat.testBit x) 31)) = true := by decide +kernel
theorem far_b : (mB.all fun x => decide (12 ≤ cnt (Nat.testBit x) 31)) = true := by decide +kernel

/-- the bit i of a group's half -/
def gbit (g i : Nat) : Bool := rA (g % 31) i ^^ rB (g / 31) i
/-- the bit i of a sector's half -/
def sbit (s i : Nat) : Bool := rA (10 * s) i
theorem far_group {g h : Nat} (hg : g < 336) (hh : h < 336) (hne : g ≠ h) : 12 ≤ cnt (fun i => gbit g i != gbit h i) 31 := by
  have e : cnt (fun i => gbit g i != gbit h i) 31 = cnt (Nat.testBit (((mA[g % 31]?.getD 0) ^^^ (mA[h % 31]?.getD 0)) ^^^ ((mB[g / 31]?.getD 0) ^^^ (mB[h / 31]?.getD 0)))) 31 := by
    refine cnt_congr fun i hi => ?_
    rw [Nat.testBit_xor, Nat.testBit_xor, Nat.testBit_xor, mA_bit _ (by omega) i hi, mA_bit _ (by omega) i hi, mB_bit _ (by omega) i hi, mB_bit _ (by omega) i hi]
    unfold gbit
    cases rA (g % 31) i <;> cases rA (h % 31) i <;> cases rB (g / 31) i <;> cases rB (h / 31) i <;> rfl
  rw [e]
  have hab := far_ab
  have ha := far_a
  have hb := far_b
  simp only [List.all_eq_true, decide_eq_true_eq] at hab ha hb
  by_cases q1 : g % 31 = h % 31
  · by_cases q2 : g / 31 = h / 31
    · omega
    · rw [q1, Nat.xor_self, Nat.zero_xor]
      exact hb _ (mB_xor _ (by omega) _ (by omega) q2)
  · by_cases q2 : g / 31 = h / 31
    · rw [q2, Nat.xor_self, Nat.xor_zero]
      exact ha _ (mA_xor _ (by omega) _ (by omega) q1)
    · exact hab _ (mA_xor _ (by omega) _ (by omega) q1) _ (mB_xor _ (by omega) _ (by omega) q2)
theorem far_sector : ∀ s, s < 3 → ∀ t, t < 3 → s ≠ t → cnt (fun i => sbit s i != sbit t i) 31 = 16 := by decide +kernel
end Go.Proofs.Ythfmjohbokpceaa
