import Derived.Test.YtppkibgemacdbaaMem
namespace Go.Proofs.Ytppkibgemacdbaa

/-! the delay that is proved: the plain law -/
/-- a quotient rounded up -/
def ceilI (n b : Int) : Int := (n + b - 1) / b
theorem ceil_mul {n b : Int} (hb : 0 < b) : n ≤ ceilI n b * b := by
  unfold ceilI
  have h1 := Int.mul_ediv_add_emod (n + b - 1) b
  have h2 := Int.emod_lt_of_pos (n + b - 1) hb
  rw [Int.mul_comm] at h1
  omega
theorem ceil_less {n b : Int} (hb : 0 < b) : (ceilI n b - 1) * b < n := by
  unfold ceilI
  have h1 := Int.mul_ediv_add_emod (n + b - 1) b
  have h2 := Int.emod_nonneg (n + b - 1) (Int.ne_of_gt hb)
  rw [Int.mul_comm] at h1
  rw [Int.sub_mul, Int.one_mul]
  omega
theorem ceil_le {n b m : Int} (hb : 0 < b) (h : n ≤ m * b) : ceilI n b ≤ m := by
  have h1 := ceil_less (n := n) hb
  have h2 : (ceilI n b - 1) * b < m * b := by omega
  have h3 := Int.lt_of_mul_lt_mul_right h2 (by omega)
  omega
theorem ceil_pos {n b : Int} (hb : 0 < b) (hn : 0 < n) : 1 ≤ ceilI n b := by
  have h1 := ceil_mul (n := n) hb
  have h2 : 0 * b < ceilI n b * b := by omega
  have h3 := Int.lt_of_mul_lt_mul_right h2 (by omega)
  omega
theorem ceil_nn {n b : Int} (hb : 0 < b) (hn : 0 ≤ n) : 0 ≤ ceilI n b := by
  unfold ceilI
  exact Int.ediv_nonneg (by omega) (by omega)
theorem ceil_zero {b : Int} (hb : 0 < b) : ceilI 0 b = 0 := by
  have h1 := ceil_le (n := 0) (m := 0) hb (by omega)
  have h2 := ceil_nn (n := 0) hb (by omega)
  omega
theorem ceil_bd {n b : Int} (hb : 0 < b) (hn : 0 ≤ n) : ceilI n b ≤ n := ceil_le hb (by
  have := Int.mul_le_mul_of_nonneg_left (show 1 ≤ b by omega) hn
  omega)
/-- the blocks that a bearer needs -/
def needB (ra bu de tb : Int) : Int := ceilI (max ra (ceilI bu de)) tb
theorem need_rate {ra bu de tb : Int} (ht : 0 < tb) : ra ≤ needB ra bu de tb * tb := by
  have := ceil_mul (n := max ra (ceilI bu de)) ht
  unfold needB
  omega
theorem need_delay {ra bu de tb : Int} (ht : 0 < tb) (hd : 0 < de) : bu ≤ de * (needB ra bu de tb * tb) := by
  have h1 := ceil_mul (n := max ra (ceilI bu de)) ht
  have h2 := ceil_mul (n := bu) hd
  have h3 : ceilI bu de ≤ needB ra bu de tb * tb := by unfold needB; omega
  have h4 := Int.mul_le_mul_of_nonneg_left h3 (show 0 ≤ de by omega)
  rw [Int.mul_comm] at h2
  omega
theorem need_pos {ra bu de tb : Int} (ht : 0 < tb) (hd : 0 < de) (hb : 0 < bu) : 1 ≤ needB ra bu de tb := by
  have := ceil_pos (n := bu) hd hb
  exact ceil_pos ht (by omega)
/-- the delay that the needed blocks prove -/
def delayD (ra bu de tb : Int) : Int := ceilI bu (needB ra bu de tb * tb)
theorem bits_pos {ra bu de tb : Int} (ht : 0 < tb) (hd : 0 < de) (hb : 0 < bu) : 0 < needB ra bu de tb * tb := Int.mul_pos (by have := need_pos (ra := ra) ht hd hb; omega) ht
theorem delay_in {ra bu de tb : Int} (ht : 0 < tb) (hd : 0 < de) (hb : 0 < bu) : 1 ≤ delayD ra bu de tb ∧ delayD ra bu de tb ≤ de :=
  ⟨ceil_pos (bits_pos ht hd hb) hb, ceil_le (bits_pos ht hd hb) (need_delay ht hd)⟩
/-- what waits behind t slots -/
def waitsAt (bu bits : Int) (t : Nat) : Int := max 0 (bu - (t : Int) * bits)
/-- what a slot sends, by the program's reckoning -/
theorem sends {w nb tb : Int} (ht : 0 < tb) (_hw : 0 ≤ w) (_hn : 0 ≤ nb) : min w (min nb (ceilI w tb) * tb) = min w (nb * tb) := by
  have h1 := ceil_mul (n := w) ht
  rcases Int.le_total nb (ceilI w tb) with h | h
  · rw [show min nb (ceilI w tb) = nb by omega]
  · rw [show min nb (ceilI w tb) = ceilI w tb by omega]
    have h2 := Int.mul_le_mul_of_nonneg_right h (show 0 ≤ tb by omega)
    omega
theorem waits_succ {bu bits : Int} (hb : 0 ≤ bits) (t : Nat) : waitsAt bu bits t - min (waitsAt bu bits t) bits = waitsAt bu bits (t + 1) := by
  unfold waitsAt
  have : ((t + 1 : Nat) : Int) * bits = (t : Int) * bits + bits := by rw [Int.natCast_add, Int.add_mul]; simp
  rw [this]
  omega
theorem waits_bd {bu bits : Int} (h0 : 0 ≤ bu) (hb : 0 ≤ bits) (t : Nat) : 0 ≤ waitsAt bu bits t ∧ waitsAt bu bits t ≤ bu := by
  unfold waitsAt
  have := Int.mul_nonneg (show (0 : Int) ≤ (t : Int) by omega) hb
  omega
theorem waits_end {ra bu de tb : Int} (ht : 0 < tb) (hd : 0 < de) (hb : 0 < bu) {d : Nat} (h : (d : Int) = delayD ra bu de tb) : waitsAt bu (needB ra bu de tb * tb) d = 0 := by
  have h1 := ceil_mul (n := bu) (bits_pos (ra := ra) ht hd hb)
  unfold waitsAt
  rw [h]
  unfold delayD
  omega
theorem waits_less {ra bu de tb : Int} (ht : 0 < tb) (hd : 0 < de) (hb : 0 < bu) {d : Nat} (h : ((d + 1 : Nat) : Int) = delayD ra bu de tb) : 0 < waitsAt bu (needB ra bu de tb * tb) d := by
  have h1 := ceil_less (n := bu) (bits_pos (ra := ra) ht hd hb)
  unfold waitsAt
  unfold delayD at h
  rw [show (d : Int) = ceilI bu (needB ra bu de tb * tb) - 1 by omega]
  omega
end Go.Proofs.Ytppkibgemacdbaa
