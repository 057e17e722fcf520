import Derived.Test.YthfmjohbokpceaaEstB
import Derived.Test.YthfmjohbokpceaaEstC
namespace Go.Proofs.Ythfmjohbokpceaa
open Go.RowKit Go.WideShapes Go.ChangeShapes

/-! how wrong between references: the plain law -/
section
variable {h : Nat → Int} {s : Nat}
theorem conc_dec (hc : ∀ j, j + 2 ≤ s → h (j + 1 + 1) - 2 * h (j + 1) + h j ≤ 0) (i : Nat) : ∀ d : Nat, i + d + 1 ≤ s → h (i + d + 1) - h (i + d) ≤ h (i + 1) - h i
  | 0, _ => Int.le_refl _
  | d + 1, hd => by
    have h1 := conc_dec hc i d (by omega)
    have h2 := hc (i + d) (by omega)
    show h (i + d + 1 + 1) - h (i + d + 1) ≤ _
    omega
theorem conc_nonneg (hc : ∀ j, j + 2 ≤ s → h (j + 1 + 1) - 2 * h (j + 1) + h j ≤ 0) (h0 : h 0 = 0) (hs : h s = 0) (k : Nat) (hk : k ≤ s) : 0 ≤ h k := by
  rcases k with _ | k
  · omega
  · by_cases hd : 0 ≤ h (k + 1) - h k
    · -- every slope ahead of it is no less
      have up : ∀ j, j ≤ k + 1 → 0 ≤ h j := by
        intro j
        induction j with
        | zero => intro _; omega
        | succ j ih =>
          intro hj
          have := ih (by omega)
          have h1 := conc_dec hc j (k - j) (by omega)
          rw [show j + (k - j) = k by omega] at h1
          omega
      exact up (k + 1) (Nat.le_refl _)
    · have down : ∀ d, k + 1 + d ≤ s → h (k + 1 + d) ≤ h (k + 1) := by
        intro d
        induction d with
        | zero => intro _; exact Int.le_refl _
        | succ d ih =>
          intro hj
          have := ih (by omega)
          have h1 := conc_dec hc k (d + 1) (by omega)
          rw [show k + (d + 1) = k + 1 + d by omega] at h1
          show h (k + 1 + d + 1) ≤ _
          omega
      have := down (s - (k + 1)) (by omega)
      rw [show k + 1 + (s - (k + 1)) = s by omega, hs] at this
      exact this
end
theorem lin_err {f : Nat → Int} {s : Nat} {n : Int} (hb : ∀ j, j + 2 ≤ s → -n ≤ f (j + 1 + 1) - 2 * f (j + 1) + f j ∧ f (j + 1 + 1) - 2 * f (j + 1) + f j ≤ n) (k : Nat) (hk : k ≤ s) :
    -(n * s * k * ((s : Int) - k)) ≤ 2 * (f 0 * ((s : Int) - k) + f s * k - s * f k) ∧ 2 * (f 0 * ((s : Int) - k) + f s * k - s * f k) ≤ n * s * k * ((s : Int) - k) := by
  have key : ∀ c : Int, (c = 1 ∨ c = -1) → 0 ≤ n * s * k * ((s : Int) - k) + c * (2 * (f 0 * ((s : Int) - k) + f s * k - s * f k)) := by
    intro c hc
    refine conc_nonneg (h := fun j => n * s * j * ((s : Int) - j) + c * (2 * (f 0 * ((s : Int) - j) + f s * j - s * f j))) (s := s) (fun j hj => ?_) ?_ ?_ k hk
    · have h1 := hb j hj
      have e : (n * s * ((j + 1 + 1 : Nat) : Int) * ((s : Int) - ((j + 1 + 1 : Nat) : Int)) + c * (2 * (f 0 * ((s : Int) - ((j + 1 + 1 : Nat) : Int)) + f s * ((j + 1 + 1 : Nat) : Int) - s * f (j + 1 + 1)))) -
          2 * (n * s * ((j + 1 : Nat) : Int) * ((s : Int) - ((j + 1 : Nat) : Int)) + c * (2 * (f 0 * ((s : Int) - ((j + 1 : Nat) : Int)) + f s * ((j + 1 : Nat) : Int) - s * f (j + 1)))) +
          (n * s * (j : Int) * ((s : Int) - (j : Int)) + c * (2 * (f 0 * ((s : Int) - (j : Int)) + f s * (j : Int) - s * f j))) = -(2 * s) * (n + c * (f (j + 1 + 1) - 2 * f (j + 1) + f j)) := by
        push_cast; grind
      show _ ≤ (0 : Int)
      rw [e]
      have h2 : 0 ≤ n + c * (f (j + 1 + 1) - 2 * f (j + 1) + f j) := by
        rcases hc with rfl | rfl
        · omega
        · omega
      have h3 : 0 ≤ (2 * (s : Int)) * (n + c * (f (j + 1 + 1) - 2 * f (j + 1) + f j)) := Int.mul_nonneg (by omega) h2
      rw [Int.neg_mul]
      omega
    · show n * s * ((0 : Nat) : Int) * ((s : Int) - ((0 : Nat) : Int)) + c * (2 * (f 0 * ((s : Int) - ((0 : Nat) : Int)) + f s * ((0 : Nat) : Int) - s * f 0)) = 0
      push_cast; grind
    · show n * s * (s : Int) * ((s : Int) - (s : Int)) + c * (2 * (f 0 * ((s : Int) - (s : Int)) + f s * (s : Int) - s * f s)) = 0
      grind
  have k1 := key 1 (.inl rfl)
  have k2 := key (-1) (.inr rfl)
  omega
theorem bend_ge (l : List (Int × Int)) : ∀ t j : Nat, j < t → (-(bendF l t) ≤ sd1 l j ∧ sd1 l j ≤ bendF l t) ∧ (-(bendF l t) ≤ sd2 l j ∧ sd2 l j ≤ bendF l t)
  | 0, _, h => absurd h (by omega)
  | t + 1, j, h => by
    have m1 := @mx_le (bendF l t) (sd1 l t)
    have m2 := @mx_le (mx (bendF l t) (sd1 l t)) (sd2 l t)
    have e : bendF l (t + 1) = mx (mx (bendF l t) (sd1 l t)) (sd2 l t) := rfl
    rw [e]
    by_cases hj : j = t
    · subst hj; omega
    · have := bend_ge l t j (by omega)
      omega
/-- every so manieth -/
def nth (ch : List (Int × Int)) (s m : Nat) : List (Int × Int) := (List.range m).map fun i => kg ch (i * s)
theorem nth_len (ch : List (Int × Int)) (s m : Nat) : (nth ch s m).length = m := by simp [nth]
theorem nth_at (ch : List (Int × Int)) (s m i : Nat) (h : i < m) : kg (nth ch s m) i = kg ch (i * s) := by unfold nth; simp [kg, h]
theorem phG_dvd (l : List (Int × Int)) (s i : Nat) : (phG l s i) ∣ phR l s i ∧ (phG l s i) ∣ phI l s i ∧ (phG l s i) ∣ (s : Int) := by
  have e : phG l s i = (Int.gcd (Int.gcd (Int.gcd ((0 : Nat) : Int) (phR l s i) : Int) (phI l s i) : Int) (s : Int) : Int) := rfl
  rw [e]
  have h1 := Int.gcd_dvd_left (Int.gcd (Int.gcd ((0 : Nat) : Int) (phR l s i) : Int) (phI l s i) : Int) (s : Int)
  have h2 := Int.gcd_dvd_right (Int.gcd (Int.gcd ((0 : Nat) : Int) (phR l s i) : Int) (phI l s i) : Int) (s : Int)
  have h3 := Int.gcd_dvd_left (Int.gcd ((0 : Nat) : Int) (phR l s i) : Int) (phI l s i)
  have h4 := Int.gcd_dvd_right (Int.gcd ((0 : Nat) : Int) (phR l s i) : Int) (phI l s i)
  have h5 := Int.gcd_dvd_right ((0 : Nat) : Int) (phR l s i)
  exact ⟨Int.dvd_trans h1 (Int.dvd_trans h3 h5), Int.dvd_trans h1 h4, h2⟩
theorem scale_le {R S D n k t F : Int} (hD : 0 < D) (hR : D ∣ R) (hS : D ∣ S) (h : -(n * S * k * t) ≤ 2 * (R - S * F) ∧ 2 * (R - S * F) ≤ n * S * k * t) :
    -(n * k * t * S.tdiv D) ≤ 2 * (R.tdiv D - F * S.tdiv D) ∧ 2 * (R.tdiv D - F * S.tdiv D) ≤ n * k * t * S.tdiv D := by
  obtain ⟨a, rfl⟩ := hR
  obtain ⟨b, rfl⟩ := hS
  rw [Int.mul_tdiv_cancel_left _ (by omega), Int.mul_tdiv_cancel_left _ (by omega)]
  have e1 : n * (D * b) * k * t = D * (n * k * t * b) := by grind
  have e2 : 2 * (D * a - D * b * F) = D * (2 * (a - F * b)) := by grind
  rw [e1, e2] at h
  constructor
  · refine Int.le_of_mul_le_mul_left ?_ hD
    rw [Int.mul_neg]; exact h.1
  · exact Int.le_of_mul_le_mul_left h.2 hD
/-- what the statement asks of one subcarrier, in one part -/
theorem btw_part {g : Nat → Int} {n : Int} {s m i : Nat} (hs : 1 ≤ s) (_hm : 0 < m) (hi : i < (m - 1) * s + 1) (hb : ∀ j, j + 2 ≤ (m - 1) * s → -n ≤ g (j + 1 + 1) - 2 * g (j + 1) + g j ∧ g (j + 1 + 1) - 2 * g (j + 1) + g j ≤ n) :
    -(n * s * ((i % s : Nat) : Int) * ((s : Int) - ((i % s : Nat) : Int))) ≤ 2 * (g (i / s * s) * ((s : Int) - ((i % s : Nat) : Int)) + g (min (i / s + 1) (m - 1) * s) * ((i % s : Nat) : Int) - s * g i) ∧
    2 * (g (i / s * s) * ((s : Int) - ((i % s : Nat) : Int)) + g (min (i / s + 1) (m - 1) * s) * ((i % s : Nat) : Int) - s * g i) ≤ n * s * ((i % s : Nat) : Int) * ((s : Int) - ((i % s : Nat) : Int)) := by
  have hd := Nat.div_add_mod i s
  rw [Nat.mul_comm] at hd
  obtain ⟨q, hq⟩ : ∃ q, i / s = q := ⟨_, rfl⟩
  obtain ⟨r, hr⟩ : ∃ r, i % s = r := ⟨_, rfl⟩
  have hrs : r < s := by rw [← hr]; exact Nat.mod_lt _ (by omega)
  rw [hq, hr] at hd
  rw [hq, hr]
  by_cases h0 : r = 0
  · subst h0
    rw [show q * s = i by omega]
    have e : ∀ z : Int, 2 * (g i * ((s : Int) - ((0 : Nat) : Int)) + z * ((0 : Nat) : Int) - s * g i) = 0 := fun z => by push_cast; grind
    rw [e]
    push_cast
    simp
  · have hqm : q + 1 ≤ m - 1 := by
      refine Nat.le_of_not_lt fun hlt => ?_
      have : (m - 1) * s ≤ q * s := Nat.mul_le_mul_right _ (by omega)
      omega
    rw [Nat.min_eq_left hqm]
    have hqs : (q + 1) * s ≤ (m - 1) * s := Nat.mul_le_mul_right _ hqm
    rw [Nat.succ_mul] at hqs
    have := lin_err (f := fun j => g (q * s + j)) (s := s) (n := n) (fun j hj => hb (q * s + j) (by omega)) r (by omega)
    rw [Nat.succ_mul]
    rw [show i = q * s + r by omega]
    exact this
theorem btw_right (ch : List (Int × Int)) (s m i : Nat) (hs : 1 ≤ s) (hs2 : s ≤ 20) (hm : 0 < m) (hi : i < (m - 1) * s + 1) (wh : List (Int × Int)) (hw : ∀ j, j < (m - 1) * s + 1 → kg wh j = kg ch j) (hE : ∀ z ∈ ch, entE z = 0) :
    (1 ≤ (phV (nth ch s m) s i).2.2 ∧ (phV (nth ch s m) s i).2.2 ≤ 20) ∧ (-400000 ≤ (phV (nth ch s m) s i).1 ∧ (phV (nth ch s m) s i).1 ≤ 400000) ∧ (-400000 ≤ (phV (nth ch s m) s i).2.1 ∧ (phV (nth ch s m) s i).2.1 ≤ 400000) ∧
    (-(bendF wh ((m - 1) * s + 1 - 2) * ((i % s : Nat) : Int) * ((s : Int) - ((i % s : Nat) : Int)) * (phV (nth ch s m) s i).2.2) ≤ 2 * ((phV (nth ch s m) s i).1 - (kg wh i).1 * (phV (nth ch s m) s i).2.2) ∧
      2 * ((phV (nth ch s m) s i).1 - (kg wh i).1 * (phV (nth ch s m) s i).2.2) ≤ bendF wh ((m - 1) * s + 1 - 2) * ((i % s : Nat) : Int) * ((s : Int) - ((i % s : Nat) : Int)) * (phV (nth ch s m) s i).2.2) ∧
    (-(bendF wh ((m - 1) * s + 1 - 2) * ((i % s : Nat) : Int) * ((s : Int) - ((i % s : Nat) : Int)) * (phV (nth ch s m) s i).2.2) ≤ 2 * ((phV (nth ch s m) s i).2.1 - (kg wh i).2 * (phV (nth ch s m) s i).2.2) ∧
      2 * ((phV (nth ch s m) s i).2.1 - (kg wh i).2 * (phV (nth ch s m) s i).2.2) ≤ bendF wh ((m - 1) * s + 1 - 2) * ((i % s : Nat) : Int) * ((s : Int) - ((i % s : Nat) : Int)) * (phV (nth ch s m) s i).2.2) := by
  have hqm : i / s ≤ m - 1 := by
    refine Nat.le_trans (Nat.div_le_div_right (show i ≤ (m - 1) * s by omega)) ?_
    rw [Nat.mul_div_cancel _ (by omega)]; exact Nat.le_refl _
  have hle1 : i / s * s < (m - 1) * s + 1 := by have := Nat.mul_le_mul_right s hqm; omega
  have hle2 : min (i / s + 1) (m - 1) * s < (m - 1) * s + 1 := by have := Nat.mul_le_mul_right s (Nat.min_le_right (i / s + 1) (m - 1)); omega
  have hrs : i % s < s := Nat.mod_lt _ (by omega)
  have eR : phR (nth ch s m) s i = (kg wh (i / s * s)).1 * ((s : Int) - ((i % s : Nat) : Int)) + (kg wh (min (i / s + 1) (m - 1) * s)).1 * ((i % s : Nat) : Int) := by
    unfold phR phN
    rw [nth_len, nth_at _ _ _ _ (by omega), nth_at _ _ _ _ (by have := Nat.min_le_right (i / s + 1) (m - 1); omega), hw _ hle1, hw _ hle2]
  have eI : phI (nth ch s m) s i = (kg wh (i / s * s)).2 * ((s : Int) - ((i % s : Nat) : Int)) + (kg wh (min (i / s + 1) (m - 1) * s)).2 * ((i % s : Nat) : Int) := by
    unfold phI phN
    rw [nth_len, nth_at _ _ _ _ (by omega), nth_at _ _ _ _ (by have := Nat.min_le_right (i / s + 1) (m - 1); omega), hw _ hle1, hw _ hle2]
  have hbR := btw_part (g := fun j => (kg wh j).1) (n := bendF wh ((m - 1) * s + 1 - 2)) hs hm hi (fun j hj => (bend_ge wh _ j (by omega)).1)
  have hbI := btw_part (g := fun j => (kg wh j).2) (n := bendF wh ((m - 1) * s + 1 - 2)) hs hm hi (fun j hj => (bend_ge wh _ j (by omega)).2)
  have hk : ∀ j, -10000 ≤ (kg ch j).1 ∧ (kg ch j).1 ≤ 10000 ∧ -10000 ≤ (kg ch j).2 ∧ (kg ch j).2 ≤ 10000 := fun j => kg_le hE j
  have p1 := hk (i / s * s)
  have p2 := hk (min (i / s + 1) (m - 1) * s)
  rw [← hw _ hle1] at p1
  rw [← hw _ hle2] at p2
  obtain ⟨u1, u2⟩ := lin_bd (a := (kg wh (i / s * s)).1) (b := (kg wh (min (i / s + 1) (m - 1) * s)).1) (s := (s : Int)) (r := ((i % s : Nat) : Int)) ⟨p1.1, p1.2.1⟩ ⟨p2.1, p2.2.1⟩ (by omega) (by omega)
  obtain ⟨u3, u4⟩ := lin_bd (a := (kg wh (i / s * s)).2) (b := (kg wh (min (i / s + 1) (m - 1) * s)).2) (s := (s : Int)) (r := ((i % s : Nat) : Int)) ⟨p1.2.2.1, p1.2.2.2⟩ ⟨p2.2.2.1, p2.2.2.2⟩ (by omega) (by omega)
  obtain ⟨d1, d2, d3⟩ := phG_dvd (nth ch s m) s i
  have hg := gcd_pos (phR (nth ch s m) s i) (phI (nth ch s m) s i) s (by omega)
  have hG : (0 : Int) < phG (nth ch s m) s i := by unfold phG; omega
  have hG2 : phG (nth ch s m) s i ≤ s := by unfold phG; omega
  have q1 := scale_le (n := bendF wh ((m - 1) * s + 1 - 2)) (k := ((i % s : Nat) : Int)) (t := (s : Int) - ((i % s : Nat) : Int)) (F := (kg wh i).1) hG d1 d3 (by rw [eR]; exact hbR)
  have q2 := scale_le (n := bendF wh ((m - 1) * s + 1 - 2)) (k := ((i % s : Nat) : Int)) (t := (s : Int) - ((i % s : Nat) : Int)) (F := (kg wh i).2) hG d2 d3 (by rw [eI]; exact hbI)
  have z1 := tdiv_lim (phR (nth ch s m) s i) (g := phG (nth ch s m) s i) (B := 400000) (by omega) (by rw [eR]; omega)
  have z2 := tdiv_lim (phI (nth ch s m) s i) (g := phG (nth ch s m) s i) (B := 400000) (by omega) (by rw [eI]; omega)
  have z3 : 1 ≤ (s : Int).tdiv (phG (nth ch s m) s i) ∧ (s : Int).tdiv (phG (nth ch s m) s i) ≤ 20 := by
    have z4 := tdiv_lim (s : Int) (g := phG (nth ch s m) s i) (B := 20) (by omega) (by omega)
    obtain ⟨c, hc⟩ := d3
    generalize phG (nth ch s m) s i = G at *
    rw [hc, Int.mul_tdiv_cancel_left _ (by omega)] at z4 ⊢
    have hc0 : 0 < c := by
      refine Int.lt_of_not_ge fun hcn => ?_
      have : G * c ≤ 0 := Int.mul_nonpos_of_nonneg_of_nonpos (by omega) hcn
      omega
    omega
  exact ⟨z3, z1, z2, q1, q2⟩
end Go.Proofs.Ythfmjohbokpceaa
