import Derived.Test.YthfmjohbokpceaaWvD
import Derived.Test.YthfmjohbokpceaaShelfM
namespace Go.Proofs.Ythfmjohbokpceaa
open Go.RowKit Go.WideShapes Go.ChangeShapes

/-! squares and their comparison (program) -/
/-- -1, 0 or 1: a against b -/
def cmp3 (a b : Int) : Int := if a < b then -1 else if b < a then 1 else 0
/-- P + Q r against 0, r being the root of two -/
def sgnPQ (p q : Int) : Int :=
  if 0 ≤ p ∧ 0 ≤ q then cmp3 (p + q) 0 else if p ≤ 0 ∧ q ≤ 0 then cmp3 (p + q) 0 else if 0 < p then cmp3 (p * p) (2 * (q * q)) else -(cmp3 (p * p) (2 * (q * q)))
def sgn (n : Int) : Int := if n < 0 then -1 else if 0 < n then 1 else 0

theorem mul64 (x y : Int) (hx : 0 ≤ x) (hx' : x < 18446744073709551616) (hy : 0 ≤ y) (hy' : y < 18446744073709551616) (w : World) :
    Calls Try.prog 177 #[.int .u64 x, .int .u64 y] w fun e w' => e = .returned (.tuple #[.int .u64 (x * y / 18446744073709551616), .int .u64 (x * y % 18446744073709551616)]) ∧ w = w' := by
  obtain ⟨x, rfl⟩ := Int.eq_ofNat_of_zero_le hx
  obtain ⟨y, rfl⟩ := Int.eq_ofNat_of_zero_le hy
  refine (Try.bits_Mul64 x y (by omega) (by omega) w).mono ?_
  rintro e w' ⟨rfl, rfl⟩
  have e0 : ((x * y : Nat) : Int) = (x : Int) * y := Int.natCast_mul x y
  have e1 : ((x * y / 18446744073709551616 : Nat) : Int) = (x : Int) * y / 18446744073709551616 := by rw [← e0]; omega
  have e2 : ((x * y % 18446744073709551616 : Nat) : Int) = (x : Int) * y % 18446744073709551616 := by rw [← e0]; omega
  rw [e1, e2]
  exact ⟨rfl, rfl⟩
theorem sign_wave (n : Int) (w : World) : Calls Try.prog 175 #[.int .i64 n] w fun e w' => e = .returned (.int .i64 (sgn n)) ∧ w = w' := by
  rcases (by omega : n < 0 ∨ n = 0 ∨ 0 < n) with h | rfl | h
  · go_enter Try.func175, Try.ntmps175
    go_wp2
    go_ret
    exact ⟨ret1 (by unfold sgn; rw [if_pos h]), rfl⟩
  · go_enter Try.func175, Try.ntmps175
    go_wp2
    go_ret
    exact ⟨ret1 (by first | rfl | (simp [sgn]; done)), rfl⟩
  · go_enter Try.func175, Try.ntmps175
    go_wp2
    go_ret
    exact ⟨ret1 (by unfold sgn; rw [if_neg (by omega), if_pos h]), rfl⟩
theorem compared1_wave (n : Int) (h : -9000000000000000000 ≤ n) (h' : n ≤ 9000000000000000000) (w : World) : Calls Try.prog 176 #[.int .i64 n] w fun e w' => e = .returned (.int .u64 (n.natAbs : Int)) ∧ w = w' := by
  rcases (by omega : n < 0 ∨ 0 ≤ n) with h1 | h1
  · have e1 : (n.natAbs : Int) = -n := by omega
    rw [e1]
    go_enter Try.func176, Try.ntmps176
    go_wp2
    go_ret
    exact ⟨ret1 (by first | rfl | omega | (simp; done) | (simp; omega)), rfl⟩
  · have e1 : (n.natAbs : Int) = n := by omega
    rw [e1]
    go_enter Try.func176, Try.ntmps176
    go_wp2
    go_ret
    exact ⟨ret1 (by first | rfl | omega | (simp; done) | (simp; omega)), rfl⟩
/-- whether both parts of a square are small -/
def sqB (p q : Int) : Bool := withinB p (-10000000000000) 10000000000000 && withinB q (-10000000000000) 10000000000000
theorem squareErr_wave (p q : Int) (w : World) : Calls Try.prog 120 #[.agg #[.int .i64 p, .int .i64 q]] w fun e w' => e = .returned (.int .i64 (unlessE (sqB p q) 2)) ∧ Below w.heap.size w w' := by
  unfold sqB
  rcases (by cases withinB p (-10000000000000) 10000000000000 <;> simp : (withinB p (-10000000000000) 10000000000000 = false) ∨ (withinB p (-10000000000000) 10000000000000 = true)) with k1 | k1
  all_goals
    rw [k1]
    go_enter Try.func120, Try.ntmps120
    go_wp2_with (first
      | (go_at_call 171; refine (small_wave _ _ (by omega) (by omega) _).mono ?_; rintro e w' ⟨rfl, rfl⟩; simp only [])
      | (go_at_call 115; refine (unless_any _ _ _).mono ?_; rintro e w' ⟨rfl, rfl⟩))
    go_ret
    exact ⟨rfl, by go_grown⟩
/-- the square of a number's size -/
def sqP (x : Nm) : Int := x.1 * x.1 + x.2.1 * x.2.1 + x.2.2.1 * x.2.2.1 + x.2.2.2 * x.2.2.2
def sqQ (x : Nm) : Int := x.1 * x.2.1 + x.2.1 * x.2.2.1 + x.2.2.1 * x.2.2.2 - x.1 * x.2.2.2
theorem sq_bd {m : Int} {x : Nm} (h : nle m x) : 0 ≤ sqP x ∧ sqP x ≤ 4 * (m * m) ∧ -(4 * (m * m)) ≤ sqQ x ∧ sqQ x ≤ 4 * (m * m) := by
  obtain ⟨a, b, c, d⟩ := x
  unfold nle at h
  dsimp only at h
  obtain ⟨a1, a2, b1, b2, c1, c2, d1, d2⟩ := h
  have p1 := mul_le_size a1 a2 a1 a2
  have p2 := mul_le_size b1 b2 b1 b2
  have p3 := mul_le_size c1 c2 c1 c2
  have p4 := mul_le_size d1 d2 d1 d2
  have p5 := mul_le_size a1 a2 b1 b2
  have p6 := mul_le_size b1 b2 c1 c2
  have p7 := mul_le_size c1 c2 d1 d2
  have p8 := mul_le_size a1 a2 d1 d2
  have q1 : 0 ≤ a * a := by rw [← Int.natAbs_mul_self]; omega
  have q2 : 0 ≤ b * b := by rw [← Int.natAbs_mul_self]; omega
  have q3 : 0 ≤ c * c := by rw [← Int.natAbs_mul_self]; omega
  have q4 : 0 ≤ d * d := by rw [← Int.natAbs_mul_self]; omega
  unfold sqP sqQ
  dsimp only
  omega
set_option maxRecDepth 100000 in
set_option maxHeartbeats 1000000 in
theorem square_wave (x : Nm) (w : World) (h : nle 1000000000 x) : Calls Try.prog 119 #[nv x] w fun e w' => e = .returned (.agg #[.int .i64 (sqP x), .int .i64 (sqQ x)]) ∧ Below w.heap.size w w' := by
  obtain ⟨a, b, c, d⟩ := x
  unfold nle at h
  unfold sqP sqQ
  dsimp only at *
  obtain ⟨a1, a2, b1, b2, c1, c2, d1, d2⟩ := h
  obtain ⟨p1, r1⟩ := mul_le_size a1 a2 a1 a2
  obtain ⟨p2, r2⟩ := mul_le_size b1 b2 b1 b2
  obtain ⟨p3, r3⟩ := mul_le_size c1 c2 c1 c2
  obtain ⟨p4, r4⟩ := mul_le_size d1 d2 d1 d2
  obtain ⟨p5, r5⟩ := mul_le_size a1 a2 b1 b2
  obtain ⟨p6, r6⟩ := mul_le_size b1 b2 c1 c2
  obtain ⟨p7, r7⟩ := mul_le_size c1 c2 d1 d2
  obtain ⟨p8, r8⟩ := mul_le_size a1 a2 d1 d2
  clear a1 a2 b1 b2 c1 c2 d1 d2
  go_enter Try.func119, Try.ntmps119
  go_wp2
  go_quiet (fail)
  go_wp2
  go_returns
  exact ⟨rfl, ((below_drewN (by go_grown) _).setCell (by simp) _).setCell (by simp) _⟩

/-- the high and the low word of a product -/
def mHi (x y : Int) : Int := x * y / 18446744073709551616
def mLo (x y : Int) : Int := x * y % 18446744073709551616
theorem mul64n (x y : Int) (hx : 0 ≤ x) (hx' : x ≤ 9000000000000000000) (hy : 0 ≤ y) (hy' : y ≤ 9000000000000000000) (w : World) :
    Calls Try.prog 177 #[.int .u64 x, .int .u64 y] w fun e w' => e = .returned (.tuple #[.int .u64 (mHi x y), .int .u64 (mLo x y)]) ∧ w = w' := mul64 x y hx (by omega) hy (by omega) w
theorem words_gt (x y u v : Int) : (mHi u v < mHi x y ∨ (mHi x y = mHi u v ∧ mLo u v < mLo x y)) ↔ u * v < x * y := by
  unfold mHi mLo
  generalize u * v = U
  generalize x * y = X
  omega
theorem natAbs_sq (a : Int) : ((a.natAbs : Int)) * (a.natAbs : Int) = a * a := by
  have := Int.natAbs_mul_self (a := a)
  rw [← this]
  push_cast
  rfl
/-- P + Q r against 0 as the program finds it -/
def cpW (p q : Int) : Int := if q = 0 ∨ sgn p = sgn q then sgn p else if p = 0 then sgn q else if 2 * (q * q) < p * p then sgn p else sgn q
theorem sgn_bd (n : Int) : -1 ≤ sgn n ∧ sgn n ≤ 1 := by unfold sgn; (repeat' split) <;> omega
theorem sgn_neg (n : Int) : sgn (-n) = -(sgn n) := by unfold sgn; (repeat' split) <;> omega
theorem cpW_neg (p q : Int) : cpW (-p) (-q) = -(cpW p q) := by
  unfold cpW
  rw [sgn_neg, sgn_neg, Int.neg_mul_neg, Int.neg_mul_neg]
  by_cases h1 : q = 0 ∨ sgn p = sgn q
  · rw [if_pos h1, if_pos (by omega)]
  · rw [if_neg h1, if_neg (by omega)]
    by_cases h2 : p = 0
    · rw [if_pos h2, if_pos (by omega)]
    · rw [if_neg h2, if_neg (by omega)]
      split <;> rfl
theorem cpW_bd (p q : Int) : -1 ≤ cpW p q ∧ cpW p q ≤ 1 := by
  have h1 := sgn_bd p
  have h2 := sgn_bd q
  unfold cpW
  (repeat' split) <;> omega
set_option maxRecDepth 100000 in
set_option maxHeartbeats 2000000 in
theorem compared_wave (p q p' q' : Int) (w : World) (hp : -10000000000000 ≤ p ∧ p ≤ 10000000000000) (hq : -10000000000000 ≤ q ∧ q ≤ 10000000000000) (hp' : -10000000000000 ≤ p' ∧ p' ≤ 10000000000000) (hq' : -10000000000000 ≤ q' ∧ q' ≤ 10000000000000) :
    Calls Try.prog 121 #[.agg #[.int .i64 p, .int .i64 q], .agg #[.int .i64 p', .int .i64 q']] w fun e w' => e = .returned (.int .i64 (cpW (p - p') (q - q'))) ∧ Below w.heap.size w w' := by
  obtain ⟨h1, h2⟩ := hp
  obtain ⟨h3, h4⟩ := hq
  obtain ⟨h5, h6⟩ := hp'
  obtain ⟨h7, h8⟩ := hq'
  have n1 := World.size_alloc w (.cells #[.int .i64 p, .int .i64 q] 47)
  go_enter Try.func121, Try.ntmps121
  go_wp2
  go_quiet (fail)
  have e1 : -20000000000000 ≤ p - p' ∧ p - p' ≤ 20000000000000 := by omega
  have e2 : -20000000000000 ≤ q - q' ∧ q - q' ≤ 20000000000000 := by omega
  obtain ⟨P, hP⟩ : ∃ P, p - p' = P := ⟨_, rfl⟩
  obtain ⟨Q, hQ⟩ : ∃ Q, q - q' = Q := ⟨_, rfl⟩
  have HE := hide (show cpW (p - p') (q - q') = cpW P Q by rw [hP, hQ])
  rw [hP] at e1
  rw [hQ] at e2
  simp only [hP, hQ]
  clear hP hQ
  obtain ⟨a1, a2⟩ := e1
  obtain ⟨b1, b2⟩ := e2
  have hn1 : 0 ≤ (P.natAbs : Int) ∧ (P.natAbs : Int) ≤ 20000000000000 := by omega
  have hn2 : 0 ≤ (Q.natAbs : Int) ∧ (Q.natAbs : Int) ≤ 20000000000000 := by omega
  have HW := hide (words_gt (P.natAbs : Int) (P.natAbs : Int) (Q.natAbs : Int) (2 * (Q.natAbs : Int)))
  have HA := hide (natAbs_sq P)
  have HB := hide (show (Q.natAbs : Int) * (2 * (Q.natAbs : Int)) = 2 * (Q * Q) by rw [← natAbs_sq Q]; generalize (Q.natAbs : Int) = z; grind)
  have c1 := compared1_wave P (by omega) (by omega)
  have c2 := compared1_wave Q (by omega) (by omega)
  generalize (P.natAbs : Int) = U at *
  generalize (Q.natAbs : Int) = V at *
  obtain ⟨u1, u2⟩ := hn1
  obtain ⟨v1, v2⟩ := hn2
  have HU := hide c1
  have HV := hide c2
  clear h1 h2 h3 h4 h5 h6 h7 h8 n1 c1 c2
  by_cases k1 : Q = 0
  · have q1 : (Q == 0) = true := by rw [beq_iff_eq]; exact k1
    have hv := hide (show cpW P Q = sgn P by unfold cpW; rw [if_pos (.inl k1)])
    clear k1 HW HA HB
    go_wp2_with (go_at_call 175; refine (sign_wave _ _).mono ?_; rintro e w' ⟨rfl, rfl⟩; simp only [])
    go_ret
    exact ⟨ret1 (hv.out.symm.trans HE.out.symm), below_drewN (by go_grown) _⟩
  have q1 : (Q == 0) = false := by rw [beq_eq_false_iff_ne]; exact k1
  by_cases k2 : sgn P = sgn Q
  · have q2 : (sgn P == sgn Q) = true := by rw [beq_iff_eq]; exact k2
    have hv := hide (show cpW P Q = sgn P by unfold cpW; rw [if_pos (.inr k2)])
    clear k1 k2 HW HA HB
    go_wp2_with (go_at_call 175; refine (sign_wave _ _).mono ?_; rintro e w' ⟨rfl, rfl⟩; simp only [])
    go_ret
    exact ⟨ret1 (hv.out.symm.trans HE.out.symm), below_drewN (by go_grown) _⟩
  have q2 : (sgn P == sgn Q) = false := by rw [beq_eq_false_iff_ne]; exact k2
  have k3 : ¬ (Q = 0 ∨ sgn P = sgn Q) := by rintro (h | h); exact k1 h; exact k2 h
  clear k1 k2
  by_cases k4 : P = 0
  · have q3 : (P == 0) = true := by rw [beq_iff_eq]; exact k4
    have hv := hide (show cpW P Q = sgn Q by unfold cpW; rw [if_neg k3, if_pos k4])
    clear k3 k4 HW HA HB
    go_wp2_with (go_at_call 175; refine (sign_wave _ _).mono ?_; rintro e w' ⟨rfl, rfl⟩; simp only [])
    go_ret
    exact ⟨ret1 (hv.out.symm.trans HE.out.symm), below_drewN (by go_grown) _⟩
  have q3 : (P == 0) = false := by rw [beq_eq_false_iff_ne]; exact k4
  have hv := hide (show cpW P Q = if 2 * (Q * Q) < P * P then sgn P else sgn Q by unfold cpW; rw [if_neg k3, if_neg k4])
  have hx := HW.out
  rw [HA.out, HB.out] at hx
  have HX := hide hx
  clear k3 k4 HW HA HB hx
  by_cases g1 : mHi V (2 * V) < mHi U U
  · have t1 : decide (mHi V (2 * V) < mHi U U) = true := decide_eq_true g1
    have hr := hide (show cpW P Q = sgn P by rw [hv.out, if_pos (HX.out.1 (.inl g1))])
    clear g1 hv HX
    go_wp2_with (first
      | (go_at_call 175; refine (sign_wave _ _).mono ?_; rintro e w' ⟨rfl, rfl⟩; simp only [])
      | (go_at_call 176; (first | (with_reducible refine (HU.out _).mono ?_) | (with_reducible refine (HV.out _).mono ?_)); rintro e w' ⟨rfl, rfl⟩; simp only [])
      | (go_at_call 177; go_must (refine (mul64n _ _ (by omega) (by omega) (by omega) (by omega) _).mono ?_; rintro e w' ⟨rfl, rfl⟩; simp only [])))
    go_ret
    exact ⟨ret1 (hr.out.symm.trans HE.out.symm), below_drewN (by go_grown) _⟩
  have t1 : decide (mHi V (2 * V) < mHi U U) = false := decide_eq_false g1
  by_cases g2 : mHi U U = mHi V (2 * V)
  · have t2 : (mHi U U == mHi V (2 * V)) = true := by rw [beq_iff_eq]; exact g2
    by_cases g3 : mLo V (2 * V) < mLo U U
    · have t3 : decide (mLo V (2 * V) < mLo U U) = true := decide_eq_true g3
      have hr := hide (show cpW P Q = sgn P by rw [hv.out, if_pos (HX.out.1 (.inr ⟨g2, g3⟩))])
      clear g1 g2 g3 hv HX
      go_wp2_with (first
        | (go_at_call 175; refine (sign_wave _ _).mono ?_; rintro e w' ⟨rfl, rfl⟩; simp only [])
        | (go_at_call 176; (first | (with_reducible refine (HU.out _).mono ?_) | (with_reducible refine (HV.out _).mono ?_)); rintro e w' ⟨rfl, rfl⟩; simp only [])
        | (go_at_call 177; go_must (refine (mul64n _ _ (by omega) (by omega) (by omega) (by omega) _).mono ?_; rintro e w' ⟨rfl, rfl⟩; simp only [])))
      go_ret
      exact ⟨ret1 (hr.out.symm.trans HE.out.symm), below_drewN (by go_grown) _⟩
    · have t3 : decide (mLo V (2 * V) < mLo U U) = false := decide_eq_false g3
      have hr := hide (show cpW P Q = sgn Q by rw [hv.out, if_neg (fun h => by rcases HX.out.2 h with h | ⟨_, h⟩; exact g1 h; exact g3 h)])
      clear g1 g2 g3 hv HX
      go_wp2_with (first
        | (go_at_call 175; refine (sign_wave _ _).mono ?_; rintro e w' ⟨rfl, rfl⟩; simp only [])
        | (go_at_call 176; (first | (with_reducible refine (HU.out _).mono ?_) | (with_reducible refine (HV.out _).mono ?_)); rintro e w' ⟨rfl, rfl⟩; simp only [])
        | (go_at_call 177; go_must (refine (mul64n _ _ (by omega) (by omega) (by omega) (by omega) _).mono ?_; rintro e w' ⟨rfl, rfl⟩; simp only [])))
      go_ret
      exact ⟨ret1 (hr.out.symm.trans HE.out.symm), below_drewN (by go_grown) _⟩
  · have t2 : (mHi U U == mHi V (2 * V)) = false := by rw [beq_eq_false_iff_ne]; exact g2
    have hr := hide (show cpW P Q = sgn Q by rw [hv.out, if_neg (fun h => by rcases HX.out.2 h with h | ⟨h, _⟩; exact g1 h; exact g2 h)])
    clear g1 g2 hv HX
    go_wp2_with (first
      | (go_at_call 175; refine (sign_wave _ _).mono ?_; rintro e w' ⟨rfl, rfl⟩; simp only [])
      | (go_at_call 176; (first | (with_reducible refine (HU.out _).mono ?_) | (with_reducible refine (HV.out _).mono ?_)); rintro e w' ⟨rfl, rfl⟩; simp only [])
      | (go_at_call 177; go_must (refine (mul64n _ _ (by omega) (by omega) (by omega) (by omega) _).mono ?_; rintro e w' ⟨rfl, rfl⟩; simp only [])))
    go_ret
    exact ⟨ret1 (hr.out.symm.trans HE.out.symm), below_drewN (by go_grown) _⟩
end Go.Proofs.Ythfmjohbokpceaa
