import Derived.Test.YtamkannjdbodpaaShr
import Derived.Test.YtamkannjdbodpaaShrR
namespace Go.Proofs.Ytamkannjdbodpaa
open Go.RowKit Go.WideShapes Go.ChangeShapes

theorem floor_base (n by_ : Int) (h : 0 < by_) (hb : by_ ≤ 4000000000000000000) (hn : -4000000000000000000 ≤ n) (hn' : n ≤ 4000000000000000000) (w : World) :
    Calls Try.prog 151 #[.int .i64 n, .int .i64 by_] w fun x w' => x = .returned (.int .i64 (n / by_)) ∧ w = w' := by
  have hz : by_ ≠ 0 := by omega
  have t0 : (n.tdiv by_).natAbs ≤ n.natAbs := by rw [Int.natAbs_tdiv]; exact Nat.div_le_self _ _
  have t1 : (n.tmod by_).natAbs < by_.natAbs := by rw [Int.natAbs_tmod]; exact Nat.mod_lt _ (by omega)
  have e1 := Int.mul_tdiv_add_tmod n by_
  have e2 := Int.mul_ediv_add_emod n by_
  have e3 := Int.emod_nonneg n hz
  have e4 := Int.emod_lt_of_pos n h
  by_cases h0 : n.tmod by_ < 0
  · have e : n / by_ = n.tdiv by_ - 1 := by
      have h1 : by_ * (n / by_ - n.tdiv by_ + 1) = n.tmod by_ + by_ - n % by_ := by grind
      have h2 : n / by_ - n.tdiv by_ + 1 = 0 := by
        rcases Int.lt_trichotomy (n / by_ - n.tdiv by_ + 1) 0 with q | q | q
        · have := Int.mul_le_mul_of_nonneg_left (show n / by_ - n.tdiv by_ + 1 ≤ -1 by omega) (show 0 ≤ by_ by omega); omega
        · exact q
        · have := Int.mul_le_mul_of_nonneg_left (show 1 ≤ n / by_ - n.tdiv by_ + 1 by omega) (show 0 ≤ by_ by omega); omega
      omega
    have HE := hide e
    have h3 : -9223372036854775808 ≤ n.tdiv by_ - 1 := by omega
    have h4 : n.tdiv by_ - 1 ≤ 9223372036854775807 := by omega
    have h5 : -9223372036854775808 ≤ n.tdiv by_ := by omega
    have h6 : n.tdiv by_ ≤ 9223372036854775807 := by omega
    have h7 : -9223372036854775808 ≤ n.tmod by_ := by omega
    have h8 : n.tmod by_ ≤ 9223372036854775807 := by omega
    clear e e1 e2 e3 e4 t0 t1
    go_enter Try.func151, Try.ntmps151
    go_wp2
    go_ret
    exact ⟨by rw [HE.out]; rfl, rfl⟩
  · have e : n / by_ = n.tdiv by_ := by
      have h1 : by_ * (n / by_ - n.tdiv by_) = n.tmod by_ - n % by_ := by grind
      have h2 : n / by_ - n.tdiv by_ = 0 := by
        rcases Int.lt_trichotomy (n / by_ - n.tdiv by_) 0 with q | q | q
        · have := Int.mul_le_mul_of_nonneg_left (show n / by_ - n.tdiv by_ ≤ -1 by omega) (show 0 ≤ by_ by omega); omega
        · exact q
        · have := Int.mul_le_mul_of_nonneg_left (show 1 ≤ n / by_ - n.tdiv by_ by omega) (show 0 ≤ by_ by omega); omega
      omega
    have HE := hide e
    have h5 : -9223372036854775808 ≤ n.tdiv by_ := by omega
    have h6 : n.tdiv by_ ≤ 9223372036854775807 := by omega
    have h7 : -9223372036854775808 ≤ n.tmod by_ := by omega
    have h8 : n.tmod by_ ≤ 9223372036854775807 := by omega
    clear e e1 e2 e3 e4 t0 t1
    go_enter Try.func151, Try.ntmps151
    go_wp2
    go_ret
    exact ⟨by rw [HE.out]; rfl, rfl⟩

/-! comparing fractions -/
theorem cmpq_lt {n d m k : Int} (hd : 1 ≤ d) (hk : 1 ≤ k) (h : n / d < m / k) : cmpZ (n * k) (m * d) = -1 := by
  have e1 := Int.mul_ediv_add_emod n d
  have e2 := Int.emod_lt_of_pos n (show 0 < d by omega)
  have e3 := Int.mul_ediv_add_emod m k
  have e4 := Int.emod_nonneg m (show k ≠ 0 by omega)
  have h1 : n < d * (m / k) := by
    have := Int.mul_le_mul_of_nonneg_left (show n / d + 1 ≤ m / k by omega) (show 0 ≤ d by omega)
    rw [Int.mul_add] at this; omega
  have h2 : n * k < m * d := by
    have a1 := Int.mul_lt_mul_of_pos_right h1 (show 0 < k by omega)
    have a2 := Int.mul_le_mul_of_nonneg_right (show k * (m / k) ≤ m by omega) (show 0 ≤ d by omega)
    have a3 : d * (m / k) * k = k * (m / k) * d := by grind
    omega
  unfold cmpZ; rw [if_pos h2]
theorem cmpZ_swap (x y : Int) : cmpZ y x = -cmpZ x y := by
  unfold cmpZ
  (repeat' split) <;> first | rfl | omega
theorem cmpq_gt {n d m k : Int} (hd : 1 ≤ d) (hk : 1 ≤ k) (h : m / k < n / d) : cmpZ (n * k) (m * d) = 1 := by
  have := cmpq_lt hk hd h
  rw [cmpZ_swap, this]; rfl
theorem cmpZ_same {x y x' y' : Int} (h : x - y = x' - y') : cmpZ x y = cmpZ x' y' := by
  unfold cmpZ
  (repeat' split) <;> first | rfl | omega
theorem cmpq_rest (n d m k : Int) (h : n / d = m / k) : cmpZ (n * k) (m * d) = cmpZ ((n % d) * k) ((m % k) * d) := by
  refine cmpZ_same ?_
  have e1 := Int.mul_ediv_add_emod n d
  have e3 := Int.mul_ediv_add_emod m k
  rw [h] at e1
  grind
set_option maxRecDepth 100000 in
set_option maxHeartbeats 4000000 in
theorem compare_base (n d m k : Int) (w : World) (n1 : -1000000000 ≤ n) (n2 : n ≤ 1000000000) (m1 : -1000000000 ≤ m) (m2 : m ≤ 1000000000) (d1 : 1 ≤ d) (d2 : d ≤ 1000000000) (k1 : 1 ≤ k) (k2 : k ≤ 1000000000) :
    Calls Try.prog 92 #[.int .i64 n, .int .i64 d, .int .i64 m, .int .i64 k] w fun x w' => x = .returned (.int .i64 (cmpZ (n * k) (m * d))) ∧ w = w' := by
  obtain ⟨Z, hZ⟩ : ∃ Z, cmpZ (n * k) (m * d) = Z := ⟨_, rfl⟩
  rw [hZ]
  have HZ := hide hZ
  clear hZ
  go_enter Try.func92, Try.ntmps92
  go_wp2
  go_loop [0, 1, 2, 3] (fun a b c e => ∃ n d m k : Int, a = .int .i64 n ∧ b = .int .i64 d ∧ c = .int .i64 m ∧ e = .int .i64 k ∧ -1000000000 ≤ n ∧ n ≤ 1000000000 ∧ -1000000000 ≤ m ∧ m ≤ 1000000000 ∧ 1 ≤ d ∧ d ≤ 1000000000 ∧ 1 ≤ k ∧ k ≤ 1000000000 ∧ cmpZ (n * k) (m * d) = Z) (fun _ b _ e => (intOf b).toNat + (intOf e).toNat)
  case atStart => exact ⟨n, d, m, k, rfl, rfl, rfl, rfl, n1, n2, m1, m2, d1, d2, k1, k2, HZ.out⟩
  case round =>
    clear HZ n1 n2 m1 m2 d1 d2 k1 k2
    obtain ⟨n, d, m, k, rfl, rfl, rfl, rfl, n1, n2, m1, m2, d1, d2, k1, k2, hz⟩ := hrel
    have HZ := hide hz; clear hz
    have e1 := Int.mul_ediv_add_emod n d
    have e2 := Int.emod_lt_of_pos n (show 0 < d by omega)
    have e3 := Int.emod_nonneg n (show d ≠ 0 by omega)
    have e4 := Int.mul_ediv_add_emod m k
    have e5 := Int.emod_lt_of_pos m (show 0 < k by omega)
    have e6 := Int.emod_nonneg m (show k ≠ 0 by omega)
    have HF1 := hide (fun W => floor_base n d (by omega) (by omega) (by omega) (by omega) W)
    have HF2 := hide (fun W => floor_base m k (by omega) (by omega) (by omega) (by omega) W)
    rcases Int.lt_trichotomy (n / d) (m / k) with q | q | q
    · have HV := hide (HZ.out.symm.trans (cmpq_lt d1 k1 q))
      obtain ⟨p, hp⟩ : ∃ p, n / d = p := ⟨_, rfl⟩
      obtain ⟨r, hr⟩ : ∃ r, m / k = r := ⟨_, rfl⟩
      rw [hp] at q HF1
      rw [hr] at q HF2
      have hd : decide (p < r) = true := decide_eq_true q
      clear hp hr e1 e2 e3 e4 e5 e6
      go_wp2_with (first
        | (go_at_call 151; have qq := hflo; refine (HF2.out _).mono ?_; rintro e w' ⟨rfl, rfl⟩; simp only [])
        | (go_at_call 151; refine (HF1.out _).mono ?_; rintro e w' ⟨rfl, rfl⟩; have hflo := hide (Eq.refl 0); simp only []))
      go_ret
      exact ⟨by rw [HV.out]; rfl, rfl⟩
    · have HR := hide (HZ.out.symm.trans (cmpq_rest n d m k q))
      obtain ⟨p, hp⟩ : ∃ p, n / d = p := ⟨_, rfl⟩
      rw [← q] at HF2 e4
      rw [hp] at HF1 HF2 e1 e4
      obtain ⟨N, hN⟩ : ∃ N, n % d = N := ⟨_, rfl⟩
      obtain ⟨M, hM⟩ : ∃ M, m % k = M := ⟨_, rfl⟩
      rw [hN] at HR e1 e2 e3
      rw [hM] at HR e4 e5 e6
      have f1 : p * d = n - N := by rw [Int.mul_comm]; omega
      have f2 : p * k = m - M := by rw [Int.mul_comm]; omega
      have g1 : -9000000000000000000 ≤ p * d := by omega
      have g2 : p * d ≤ 9000000000000000000 := by omega
      have g3 : -9000000000000000000 ≤ p * k := by omega
      have g4 : p * k ≤ 9000000000000000000 := by omega
      have hx : n - p * d = N := by omega
      have hy : m - p * k = M := by omega
      have hlt : decide (p < p) = false := by simp
      have HX := hide hx
      have HY := hide hy
      have s1 : -9000000000000000000 ≤ n - p * d := by omega
      have s2 : n - p * d ≤ 9000000000000000000 := by omega
      have s3 : -9000000000000000000 ≤ m - p * k := by omega
      have s4 : m - p * k ≤ 9000000000000000000 := by omega
      by_cases hn0 : N = 0
      · have hb1 : (n - p * d == 0) = true := by rw [beq_iff_eq]; omega
        by_cases hm0 : M = 0
        · have hb2 : (m - p * k == 0) = true := by rw [beq_iff_eq]; omega
          have HV := hide (show Z = 0 by rw [HR.out, hn0, hm0, Int.zero_mul, Int.zero_mul]; rfl)
          clear hp q hN hM e1 e2 e3 e4 e5 e6 f1 f2 hx hy hn0 hm0
          go_wp2_with (first
            | (go_at_call 151; have qq := hflo; refine (HF2.out _).mono ?_; rintro e w' ⟨rfl, rfl⟩; simp only [])
            | (go_at_call 151; refine (HF1.out _).mono ?_; rintro e w' ⟨rfl, rfl⟩; have hflo := hide (Eq.refl 0); simp only []))
          go_ret
          exact ⟨by rw [HV.out]; rfl, rfl⟩
        · have hb2 : (m - p * k == 0) = false := by rw [beq_eq_false_iff_ne]; omega
          have HV := hide (show Z = -1 by
            rw [HR.out, hn0, Int.zero_mul]
            have := Int.mul_le_mul (show 1 ≤ M by omega) d1 (by omega) (by omega)
            unfold cmpZ; rw [if_pos (by omega)])
          clear hp q hN hM e1 e2 e3 e4 e5 e6 f1 f2 hx hy hn0 hm0
          go_wp2_with (first
            | (go_at_call 151; have qq := hflo; refine (HF2.out _).mono ?_; rintro e w' ⟨rfl, rfl⟩; simp only [])
            | (go_at_call 151; refine (HF1.out _).mono ?_; rintro e w' ⟨rfl, rfl⟩; have hflo := hide (Eq.refl 0); simp only []))
          go_ret
          exact ⟨by rw [HV.out]; rfl, rfl⟩
      · have hb1 : (n - p * d == 0) = false := by rw [beq_eq_false_iff_ne]; omega
        by_cases hm0 : M = 0
        · have hb2 : (m - p * k == 0) = true := by rw [beq_iff_eq]; omega
          have HV := hide (show Z = 1 by
            rw [HR.out, hm0, Int.zero_mul]
            have := Int.mul_le_mul (show 1 ≤ N by omega) k1 (by omega) (by omega)
            unfold cmpZ; rw [if_neg (by omega), if_pos (by omega)])
          clear hp q hN hM e1 e2 e3 e4 e5 e6 f1 f2 hx hy hn0 hm0
          go_wp2_with (first
            | (go_at_call 151; have qq := hflo; refine (HF2.out _).mono ?_; rintro e w' ⟨rfl, rfl⟩; simp only [])
            | (go_at_call 151; refine (HF1.out _).mono ?_; rintro e w' ⟨rfl, rfl⟩; have hflo := hide (Eq.refl 0); simp only []))
          go_ret
          exact ⟨by rw [HV.out]; rfl, rfl⟩
        · have hb2 : (m - p * k == 0) = false := by rw [beq_eq_false_iff_ne]; omega
          have HZ2 := hide (show cmpZ (k * N) (d * M) = Z by rw [HR.out, Int.mul_comm k, Int.mul_comm d])
          have r1 := hide (show 1 ≤ N ∧ N < d ∧ 1 ≤ M ∧ M < k by omega)
          clear hp q hN hM e1 e2 e3 e4 e5 e6 f1 f2 hx hy hn0 hm0 HR
          go_wp2_with (first
            | (go_at_call 151; have qq := hflo; refine (HF2.out _).mono ?_; rintro e w' ⟨rfl, rfl⟩; simp only [])
            | (go_at_call 151; refine (HF1.out _).mono ?_; rintro e w' ⟨rfl, rfl⟩; have hflo := hide (Eq.refl 0); simp only []))
          go_round
          case rel =>
            have r2 := r1.out
            exact ⟨k, M, d, N, rfl, by rw [HY.out], rfl, by rw [HX.out], by omega, by omega, by omega, by omega, by omega, by omega, by omega, by omega, HZ2.out⟩
          case measure =>
            have r2 := r1.out
            have := HX.out
            have := HY.out
            simp [intOf]; omega
    · have HV := hide (HZ.out.symm.trans (cmpq_gt d1 k1 q))
      obtain ⟨p, hp⟩ : ∃ p, n / d = p := ⟨_, rfl⟩
      obtain ⟨r, hr⟩ : ∃ r, m / k = r := ⟨_, rfl⟩
      rw [hp] at q HF1
      rw [hr] at q HF2
      have hd : decide (r < p) = true := decide_eq_true q
      have hd2 : decide (p < r) = false := decide_eq_false (by omega)
      clear hp hr e1 e2 e3 e4 e5 e6
      go_wp2_with (first
        | (go_at_call 151; have qq := hflo; refine (HF2.out _).mono ?_; rintro e w' ⟨rfl, rfl⟩; simp only [])
        | (go_at_call 151; refine (HF1.out _).mono ?_; rintro e w' ⟨rfl, rfl⟩; have hflo := hide (Eq.refl 0); simp only []))
      go_ret
      exact ⟨by rw [HV.out]; rfl, rfl⟩
end Go.Proofs.Ytamkannjdbodpaa
