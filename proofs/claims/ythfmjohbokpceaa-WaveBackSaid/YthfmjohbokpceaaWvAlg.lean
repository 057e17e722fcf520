namespace Go.Proofs.Ythfmjohbokpceaa

/-! numbers: the parts that stand with w to the power 0, 1, 2, 3; plain algebra -/
abbrev Nm := Int × Int × Int × Int
theorem nm_ext {x y : Nm} (h0 : x.1 = y.1) (h1 : x.2.1 = y.2.1) (h2 : x.2.2.1 = y.2.2.1) (h3 : x.2.2.2 = y.2.2.2) : x = y :=
  Prod.ext h0 (Prod.ext h1 (Prod.ext h2 h3))
def n0 : Nm := (0, 0, 0, 0)
def nadd (x y : Nm) : Nm := (x.1 + y.1, x.2.1 + y.2.1, x.2.2.1 + y.2.2.1, x.2.2.2 + y.2.2.2)
def nsc (c : Int) (x : Nm) : Nm := (x.1 * c, x.2.1 * c, x.2.2.1 * c, x.2.2.2 * c)
def t1 (x : Nm) : Nm := (-x.2.2.2, x.1, x.2.1, x.2.2.1)
/-- times w to the power n -/
def tn : Nat → Nm → Nm
  | 0, x => x
  | n + 1, x => t1 (tn n x)
/-- times w to a power that may be below 0 -/
def tni (x : Nm) (n : Int) : Nm := tn (n % 8).toNat x
def nmul (a b : Nm) : Nm :=
  (a.1 * b.1 - a.2.1 * b.2.2.2 - a.2.2.1 * b.2.2.1 - a.2.2.2 * b.2.1,
   a.1 * b.2.1 + a.2.1 * b.1 - a.2.2.1 * b.2.2.2 - a.2.2.2 * b.2.2.1,
   a.1 * b.2.2.1 + a.2.1 * b.2.1 + a.2.2.1 * b.1 - a.2.2.2 * b.2.2.2,
   a.1 * b.2.2.2 + a.2.1 * b.2.2.1 + a.2.2.1 * b.2.1 + a.2.2.2 * b.1)
def nconj (x : Nm) : Nm := (x.1, -x.2.2.2, -x.2.2.1, -x.2.1)
/-- a whole complex number as a number -/
def ent (g : Int × Int) : Nm := (g.1, 0, g.2, 0)
/-- no part is greater in size -/
def nle (m : Int) (x : Nm) : Prop := -m ≤ x.1 ∧ x.1 ≤ m ∧ -m ≤ x.2.1 ∧ x.2.1 ≤ m ∧ -m ≤ x.2.2.1 ∧ x.2.2.1 ≤ m ∧ -m ≤ x.2.2.2 ∧ x.2.2.2 ≤ m

theorem nle_mono {m n : Int} {x : Nm} (h : nle m x) (hmn : m ≤ n) : nle n x := by unfold nle at *; omega
theorem nle_t1 {m : Int} {x : Nm} (h : nle m x) : nle m (t1 x) := by unfold nle t1 at *; dsimp only; omega
theorem nle_tn {m : Int} {x : Nm} (h : nle m x) : ∀ n, nle m (tn n x)
  | 0 => h
  | n + 1 => nle_t1 (nle_tn h n)
theorem nle_tni {m : Int} {x : Nm} (h : nle m x) (n : Int) : nle m (tni x n) := nle_tn h _
theorem nle_add {m n : Int} {x y : Nm} (h : nle m x) (h' : nle n y) : nle (m + n) (nadd x y) := by unfold nle nadd at *; dsimp only; omega
theorem nle_conj {m : Int} {x : Nm} (h : nle m x) : nle m (nconj x) := by unfold nle nconj at *; dsimp only; omega
theorem nle_ent {m : Int} {g : Int × Int} (h : -m ≤ g.1 ∧ g.1 ≤ m ∧ -m ≤ g.2 ∧ g.2 ≤ m) : nle m (ent g) := by unfold nle ent; dsimp only; omega
theorem nle_zero {m : Int} (h : 0 ≤ m) : nle m n0 := by unfold nle n0; dsimp only; omega
theorem mul_le_size {a b m n : Int} (h1 : -m ≤ a) (h2 : a ≤ m) (h3 : -n ≤ b) (h4 : b ≤ n) : -(m * n) ≤ a * b ∧ a * b ≤ m * n := by
  have p1 : 0 ≤ (m - a) * (n - b) := Int.mul_nonneg (by omega) (by omega)
  have p2 : 0 ≤ (m - a) * (n + b) := Int.mul_nonneg (by omega) (by omega)
  have p3 : 0 ≤ (m + a) * (n - b) := Int.mul_nonneg (by omega) (by omega)
  have p4 : 0 ≤ (m + a) * (n + b) := Int.mul_nonneg (by omega) (by omega)
  constructor
  · have e : (m - a) * (n + b) + (m + a) * (n - b) = 2 * (m * n) - 2 * (a * b) := by grind
    have e' : (m - a) * (n - b) + (m + a) * (n + b) = 2 * (m * n) + 2 * (a * b) := by grind
    omega
  · have e : (m - a) * (n + b) + (m + a) * (n - b) = 2 * (m * n) - 2 * (a * b) := by grind
    omega
theorem nle_sc {m n c : Int} {x : Nm} (hc : -n ≤ c ∧ c ≤ n) (h : nle m x) : nle (m * n) (nsc c x) := by
  unfold nle at h
  have q1 := mul_le_size h.1 h.2.1 hc.1 hc.2
  have q2 := mul_le_size h.2.2.1 h.2.2.2.1 hc.1 hc.2
  have q3 := mul_le_size h.2.2.2.2.1 h.2.2.2.2.2.1 hc.1 hc.2
  have q4 := mul_le_size h.2.2.2.2.2.2.1 h.2.2.2.2.2.2.2 hc.1 hc.2
  unfold nle nsc; dsimp only; omega
theorem nle_mul {m n : Int} {x y : Nm} (h : nle m x) (k : nle n y) : nle (4 * (m * n)) (nmul x y) := by
  unfold nle at h k
  obtain ⟨a0, a0', a1, a1', a2, a2', a3, a3'⟩ := h
  obtain ⟨b0, b0', b1, b1', b2, b2', b3, b3'⟩ := k
  have p00 := mul_le_size a0 a0' b0 b0'
  have p01 := mul_le_size a0 a0' b1 b1'
  have p02 := mul_le_size a0 a0' b2 b2'
  have p03 := mul_le_size a0 a0' b3 b3'
  have p10 := mul_le_size a1 a1' b0 b0'
  have p11 := mul_le_size a1 a1' b1 b1'
  have p12 := mul_le_size a1 a1' b2 b2'
  have p13 := mul_le_size a1 a1' b3 b3'
  have p20 := mul_le_size a2 a2' b0 b0'
  have p21 := mul_le_size a2 a2' b1 b1'
  have p22 := mul_le_size a2 a2' b2 b2'
  have p23 := mul_le_size a2 a2' b3 b3'
  have p30 := mul_le_size a3 a3' b0 b0'
  have p31 := mul_le_size a3 a3' b1 b1'
  have p32 := mul_le_size a3 a3' b2 b2'
  have p33 := mul_le_size a3 a3' b3 b3'
  unfold nle nmul; dsimp only; omega

theorem t1_add (x y : Nm) : t1 (nadd x y) = nadd (t1 x) (t1 y) := by unfold t1 nadd; dsimp only; rw [Int.neg_add]
theorem tn_add (n : Nat) (x y : Nm) : tn n (nadd x y) = nadd (tn n x) (tn n y) := by
  induction n with
  | zero => rfl
  | succ n ih => rw [tn, ih, t1_add]; rfl
theorem tn_tn (m n : Nat) (x : Nm) : tn m (tn n x) = tn (m + n) x := by
  induction m with
  | zero => rw [Nat.zero_add]; rfl
  | succ m ih => rw [tn, ih, Nat.add_right_comm]; rfl
theorem tn_8 (x : Nm) : tn 8 x = x := by obtain ⟨a, b, c, d⟩ := x; simp [tn, t1]
theorem tn_mod (n : Nat) (x : Nm) : tn (n % 8) x = tn n x := by
  have h : ∀ k r, tn (r + 8 * k) x = tn r x := by
    intro k
    induction k with
    | zero => intro r; rfl
    | succ k ih =>
      intro r
      rw [show r + 8 * (k + 1) = (r + 8 * k) + 8 by omega, ← tn_tn, tn_8, ih]
  have := h (n / 8) (n % 8)
  rw [Nat.mod_add_div] at this
  exact this.symm
theorem tni_tni (x : Nm) (m n : Int) : tni (tni x m) n = tni x (m + n) := by
  unfold tni
  rw [tn_tn, ← tn_mod]
  congr 1
  omega
theorem tni_add (x y : Nm) (n : Int) : tni (nadd x y) n = nadd (tni x n) (tni y n) := tn_add _ x y
theorem tni_zero (x : Nm) : tni x 0 = x := rfl
theorem tn_n0 : ∀ n, tn n n0 = n0
  | 0 => rfl
  | n + 1 => by rw [tn, tn_n0 n]; rfl
theorem t1_sc (c : Int) (x : Nm) : t1 (nsc c x) = nsc c (t1 x) := by unfold t1 nsc; dsimp only; rw [Int.neg_mul]
theorem tn_sc (c : Int) (x : Nm) : ∀ n, tn n (nsc c x) = nsc c (tn n x)
  | 0 => rfl
  | n + 1 => by rw [tn, tn_sc c x n, t1_sc]; rfl
theorem tni_sc (c : Int) (x : Nm) (n : Int) : tni (nsc c x) n = nsc c (tni x n) := tn_sc c x _
theorem nadd_zero (x : Nm) : nadd x n0 = x := by unfold nadd n0; simp
theorem zero_nadd (x : Nm) : nadd n0 x = x := by unfold nadd n0; simp
theorem nadd_assoc (x y z : Nm) : nadd (nadd x y) z = nadd x (nadd y z) := by unfold nadd; simp only [Int.add_assoc]
theorem nadd_comm (x y : Nm) : nadd x y = nadd y x := by unfold nadd; simp only [Int.add_comm]
theorem nadd_left (x y z : Nm) : nadd x (nadd y z) = nadd y (nadd x z) := by rw [← nadd_assoc, nadd_comm x y, nadd_assoc]
theorem nmul_t1 (x y : Nm) : nmul x (t1 y) = t1 (nmul x y) := by unfold nmul t1; dsimp only; refine nm_ext ?_ ?_ ?_ ?_ <;> dsimp only <;> grind
theorem nmul_tn (x y : Nm) : ∀ n, nmul x (tn n y) = tn n (nmul x y)
  | 0 => rfl
  | n + 1 => by rw [tn, nmul_t1, nmul_tn x y n]; rfl
theorem nmul_tni (x y : Nm) (n : Int) : nmul x (tni y n) = tni (nmul x y) n := nmul_tn x y _
theorem nmul_comm (x y : Nm) : nmul x y = nmul y x := by unfold nmul; refine nm_ext ?_ ?_ ?_ ?_ <;> dsimp only <;> grind
theorem tni_mul (x y : Nm) (n : Int) : nmul (tni x n) y = tni (nmul x y) n := by rw [nmul_comm, nmul_tni, nmul_comm]
theorem nmul_add (x y z : Nm) : nmul x (nadd y z) = nadd (nmul x y) (nmul x z) := by unfold nmul nadd; refine nm_ext ?_ ?_ ?_ ?_ <;> dsimp only <;> grind
theorem add_nmul (x y z : Nm) : nmul (nadd x y) z = nadd (nmul x z) (nmul y z) := by rw [nmul_comm, nmul_add, nmul_comm z x, nmul_comm z y]
theorem nmul_zero (x : Nm) : nmul x n0 = n0 := by unfold nmul n0; simp
theorem nmul_assoc (x y z : Nm) : nmul (nmul x y) z = nmul x (nmul y z) := by unfold nmul; refine nm_ext ?_ ?_ ?_ ?_ <;> dsimp only <;> grind

/-- the sum of k summands -/
def nsum (f : Nat → Nm) : Nat → Nm
  | 0 => n0
  | k + 1 => nadd (nsum f k) (f k)
theorem nsum_congr {f g : Nat → Nm} : ∀ {n : Nat}, (∀ k, k < n → f k = g k) → nsum f n = nsum g n
  | 0, _ => rfl
  | n + 1, h => by rw [nsum, nsum, nsum_congr (fun k hk => h k (by omega)), h n (by omega)]
theorem nle_nsum {m : Int} {f : Nat → Nm} : ∀ n : Nat, (∀ k, k < n → nle m (f k)) → nle (n * m) (nsum f n)
  | 0, _ => by rw [nsum]; unfold nle n0; simp
  | n + 1, h => by
    have h1 := nle_add (nle_nsum n (fun k hk => h k (by omega))) (h n (by omega))
    rw [nsum]
    have e : ((n + 1 : Nat) : Int) * m = n * m + m := by push_cast; rw [Int.add_mul, Int.one_mul]
    rw [e]; exact h1
theorem tni_nsum (f : Nat → Nm) (m : Int) : ∀ n, tni (nsum f n) m = nsum (fun k => tni (f k) m) n
  | 0 => tn_n0 _
  | n + 1 => by rw [nsum, tni_add, tni_nsum f m n]; rfl
theorem nmul_nsum (x : Nm) (f : Nat → Nm) : ∀ n, nmul x (nsum f n) = nsum (fun k => nmul x (f k)) n
  | 0 => nmul_zero x
  | n + 1 => by rw [nsum, nmul_add, nmul_nsum x f n]; rfl
theorem nsum_add (f g : Nat → Nm) : ∀ n, nsum (fun k => nadd (f k) (g k)) n = nadd (nsum f n) (nsum g n)
  | 0 => rfl
  | n + 1 => by
    rw [nsum, nsum_add f g n, nsum, nsum]
    rw [nadd_assoc, nadd_assoc, nadd_left (nsum g n) (f n)]
theorem nsum_zero : ∀ n, nsum (fun _ => n0) n = n0
  | 0 => rfl
  | n + 1 => by rw [nsum, nsum_zero n]; rfl
/-- two sums, one inside the other, may be taken in either order -/
theorem nsum_swap (f : Nat → Nat → Nm) (m : Nat) : ∀ n, nsum (fun i => nsum (fun j => f i j) m) n = nsum (fun j => nsum (fun i => f i j) n) m
  | 0 => (nsum_zero m).symm
  | n + 1 => by
    rw [nsum, nsum_swap f m n, ← nsum_add]
    rfl
end Go.Proofs.Ythfmjohbokpceaa
