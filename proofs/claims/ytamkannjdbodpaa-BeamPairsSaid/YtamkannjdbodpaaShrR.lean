import Derived.Test.YtamkannjdbodpaaShr
namespace Go.Proofs.Ytamkannjdbodpaa
open Go.RowKit Go.WideShapes Go.ChangeShapes

theorem natOne (n : Nat) : ((n : Int) == 1) = decide (n = 1) := by
  by_cases h : n = 1
  · subst h; rfl
  · rw [decide_eq_false h, beq_eq_false_iff_ne]; omega
set_option maxRecDepth 100000 in
theorem isLowest_base (a b : Int) (w : World) (a1 : -9223372036854775808 ≤ a) (a2 : a ≤ 9223372036854775807) (b2 : b ≤ 9223372036854775807) :
    Calls Try.prog 135 #[.agg #[.int .i64 a, .int .i64 b]] w fun e w' => e = .returned (.bool (lowB a b)) ∧ Below w.heap.size w w' := by
  by_cases hb : 0 < b
  · have HV := hide (show lowB a b = ((Int.gcd a b : Int) == 1) by unfold lowB; rw [decide_eq_true hb, natOne]; rfl)
    have hd : decide (0 < b) = true := decide_eq_true hb
    have HC := hide (fun W => gcd_base a b W a1 a2 (by omega) b2)
    obtain ⟨G, hG⟩ : ∃ G : Int, (Int.gcd a b : Int) = G := ⟨_, rfl⟩
    rw [hG] at HV HC
    clear hG
    go_enter Try.func135, Try.ntmps135
    go_wp2_with (go_at_call 162; refine (HC.out _).mono ?_; rintro e w' ⟨rfl, n, rfl⟩; simp only [])
    go_ret
    exact ⟨by rw [HV.out]; rfl, below_drewN (by go_grown) _⟩
  · have HV := hide (show lowB a b = false by unfold lowB; rw [decide_eq_false hb]; rfl)
    have hd : decide (0 < b) = false := decide_eq_false hb
    go_enter Try.func135, Try.ntmps135
    go_wp2
    go_ret
    exact ⟨by rw [HV.out]; rfl, by go_grown⟩
set_option maxRecDepth 100000 in
set_option maxHeartbeats 2000000 in
theorem mostErr_ref (a b : Int) (w : World) (a1 : -9223372036854775808 ≤ a) (a2 : a ≤ 9223372036854775807) (b2 : b ≤ 9223372036854775807) :
    Calls Try.prog 69 #[.agg #[.int .i64 a, .int .i64 b]] w fun e w' => e = .returned (.int .i64 (mostE a b)) ∧ Below w.heap.size w w' := by
  have HM := hide (show mostE a b = firstOf [unlessE (lowB a b) 3, unlessE (withinB a 0 b && decide (b ≤ 1000000000)) 2] from rfl)
  have HL := hide (fun W => isLowest_base a b W a1 a2 b2)
  cases hlb : lowB a b
  · rw [hlb] at HM HL
    clear hlb
    go_enter Try.func69, Try.ntmps69
    go_wp2_with (go_at_call 135; refine (HL.out _).mono ?_; rintro e w1 ⟨rfl, hb1⟩; have b1 : Below w.heap.size w w1 := Below.step (by go_grown) hb1; obtain ⟨hc1, hf1, y10⟩ := bloc1 w hb1 (by first | omega | (simp; done) | (simp; omega)); clear hb1; simp only [])
    go_ret
    exact ⟨by rw [HM.out]; rfl, by go_grown⟩
  · rw [hlb] at HM HL
    clear hlb
    by_cases hb : b ≤ 1000000000
    · have hbd : decide (1000000000 < b) = false := by rw [decide_eq_false_iff_not]; omega
      cases hw : withinB a 0 b
      all_goals
        rw [hw, decide_eq_true hb] at HM
        have HW := hide hw; clear hw
        go_enter Try.func69, Try.ntmps69
        go_wp2_with (first
          | (go_at_call 135; refine (HL.out _).mono ?_; rintro e w1 ⟨rfl, hb1⟩; have b1 : Below w.heap.size w w1 := Below.step (by go_grown) hb1; obtain ⟨hc1, hf1, y10⟩ := bloc1 w hb1 (by first | omega | (simp; done) | (simp; omega)); clear hb1; simp only [])
          | (go_at_call 24; refine (within_base _ _ _ _).mono ?_; rintro e w' ⟨rfl, rfl⟩; rw [HW.out]; simp only []))
        go_ret
        exact ⟨by rw [HM.out]; rfl, by go_grown⟩
    · have hbd : decide (1000000000 < b) = true := by rw [decide_eq_true_iff]; omega
      have HM2 := hide (show mostE a b = 2 by rw [HM.out, decide_eq_false hb, Bool.and_false]; rfl)
      clear HM
      go_enter Try.func69, Try.ntmps69
      go_wp2_with (go_at_call 135; refine (HL.out _).mono ?_; rintro e w1 ⟨rfl, hb1⟩; have b1 : Below w.heap.size w w1 := Below.step (by go_grown) hb1; obtain ⟨hc1, hf1, y10⟩ := bloc1 w hb1 (by first | omega | (simp; done) | (simp; omega)); clear hb1; simp only [])
      go_ret
      exact ⟨by rw [HM2.out]; rfl, by go_grown⟩

def cmpZ (x y : Int) : Int := if x < y then -1 else if y < x then 1 else 0
set_option maxRecDepth 100000 in
set_option maxHeartbeats 2000000 in
theorem cmp_base (a b c d : Int) (w : World) (p1 : -9000000000000000000 ≤ a * d) (p2 : a * d ≤ 9000000000000000000) (p3 : -9000000000000000000 ≤ c * b) (p4 : c * b ≤ 9000000000000000000) :
    Calls Try.prog 142 #[.agg #[.int .i64 a, .int .i64 b], .agg #[.int .i64 c, .int .i64 d]] w fun e w' => e = .returned (.int .i64 (cmpZ (a * d) (c * b))) ∧ Below w.heap.size w w' := by
  have e1 : IntKind.i64.wrap (a * d) = a * d := IntWalk.i64_in _ (by omega)
  have e2 : IntKind.i64.wrap (c * b) = c * b := IntWalk.i64_in _ (by omega)
  obtain ⟨x, hx⟩ : ∃ x, a * d = x := ⟨_, rfl⟩
  obtain ⟨y, hy⟩ : ∃ y, c * b = y := ⟨_, rfl⟩
  rcases Int.lt_trichotomy x y with q | q | q
  · have HV := hide (show cmpZ (a * d) (c * b) = -1 by rw [hx, hy]; unfold cmpZ; rw [if_pos q])
    have hd : decide (a * d < c * b) = true := by rw [hx, hy]; exact decide_eq_true q
    clear hx hy q
    go_enter Try.func142, Try.ntmps142
    go_wp2
    go_quiet (fail)
    go_wp2
    go_ret
    exact ⟨by rw [HV.out]; rfl, below_drewN (by go_grown) _⟩
  · have HV := hide (show cmpZ (a * d) (c * b) = 0 by rw [hx, hy]; unfold cmpZ; rw [if_neg (by omega), if_neg (by omega)])
    have hd : decide (a * d < c * b) = false := by rw [hx, hy]; exact decide_eq_false (by omega)
    have hd2 : decide (c * b < a * d) = false := by rw [hx, hy]; exact decide_eq_false (by omega)
    clear hx hy q
    go_enter Try.func142, Try.ntmps142
    go_wp2
    go_quiet (fail)
    go_wp2
    go_ret
    exact ⟨by rw [HV.out]; rfl, below_drewN (by go_grown) _⟩
  · have HV := hide (show cmpZ (a * d) (c * b) = 1 by rw [hx, hy]; unfold cmpZ; rw [if_neg (by omega), if_pos q])
    have hd : decide (a * d < c * b) = false := by rw [hx, hy]; exact decide_eq_false (by omega)
    have hd2 : decide (c * b < a * d) = true := by rw [hx, hy]; exact decide_eq_true q
    clear hx hy q
    go_enter Try.func142, Try.ntmps142
    go_wp2
    go_quiet (fail)
    go_wp2
    go_ret
    exact ⟨by rw [HV.out]; rfl, below_drewN (by go_grown) _⟩
theorem cmpZ_le (x y : Int) : decide (cmpZ x y ≤ 0) = decide (x ≤ y) := by
  unfold cmpZ
  by_cases h : x < y
  · rw [if_pos h, decide_eq_true (by omega : x ≤ y)]; rfl
  · rw [if_neg h]
    by_cases h' : y < x
    · rw [if_pos h', decide_eq_false (by omega : ¬ x ≤ y)]; rfl
    · rw [if_neg h', decide_eq_true (by omega : x ≤ y)]; rfl
set_option maxRecDepth 100000 in
set_option maxHeartbeats 4000000 in
theorem mayShare_ref (A B : Option Addr) (c c' n : Nat) (g h : List (Int × Int)) (a b : Int) (w : World) (h0 : twoE g h = 0) (hm : mostE a b = 0) (hg : g.length = n) (hh : h.length = n) (hs : Sl w A (gv g)) (hs' : Sl w B (gv h)) :
    Calls Try.prog 76 #[.slice A n c, .slice B n c', .agg #[.int .i64 a, .int .i64 b]] w fun e w' => e = .returned (.bool (shB g h a b)) ∧ Below w.heap.size w w' := by
  obtain ⟨m1, m2, m3, m4, _⟩ := mostE_ok hm
  have HP := hide (fun W hb hb' => partOf_ref A B c c' n g h W h0 hg hh hb hb')
  have HS := hide hs; clear hs
  have HS' := hide hs'; clear hs'
  obtain ⟨d1, d2⟩ := pD_bd h0
  obtain ⟨n1, n2⟩ := pN_bd h0
  obtain ⟨r3, r4⟩ := low_pos (pN g h) (pD g h) d1
  have r5 := low_nn (pN g h) (pD g h) n1
  have r6 := low_le (pN g h) (pD g h) d1 n1
  have HV : shB g h a b = decide (cmpZ (lowN (pN g h) (pD g h) * b) (a * lowD (pN g h) (pD g h)) ≤ 0) := by
    rw [cmpZ_le]
    unfold shB
    have := low_cmp (pN g h) (pD g h) a b d1
    by_cases q : pN g h * b ≤ a * pD g h
    · rw [decide_eq_true q, decide_eq_true (this.2 q)]
    · rw [decide_eq_false q, decide_eq_false (fun e => q (this.1 e))]
  obtain ⟨N, hN⟩ : ∃ N, lowN (pN g h) (pD g h) = N := ⟨_, rfl⟩
  obtain ⟨D, hD⟩ : ∃ D, lowD (pN g h) (pD g h) = D := ⟨_, rfl⟩
  rw [hN, hD] at HV HP
  rw [hN] at r5 r6
  rw [hD] at r3 r4
  have HVV := hide HV
  obtain ⟨p1, p2⟩ := mul_bd2 (a := N) (b := b) (m := 414720000) (n := 1000000000) (by omega) (by omega) (by omega) (by omega)
  obtain ⟨p3, p4⟩ := mul_bd2 (a := a) (b := D) (m := 1000000000) (n := 207360000) (by omega) (by omega) (by omega) (by omega)
  have HCM := hide (fun W => cmp_base N D a b W (by omega) (by omega) (by omega) (by omega))
  obtain ⟨C, hC⟩ : ∃ C, cmpZ (N * b) (a * D) = C := ⟨_, rfl⟩
  rw [hC] at HVV HCM
  clear h0 hm hg hh hN hD hC HV n1 n2 d1 d2 r3 r4 r5 r6 p1 p2 p3 p4 m1 m2 m3 m4
  go_enter Try.func76, Try.ntmps76
  go_wp2
  go_region_held3 (fun w' => w'.cell? ⟨w.heap.size, 0, none⟩ = some (.int .i64 a) ∧ w'.cell? ⟨w.heap.size, 1, none⟩ = some (.int .i64 b)) (first | (simp [go_sem]; done) | (simp [go_sem, *]; done) | go_keep)
    (first
      | (go_at_call 63; go_must (refine (HP.out _ (HS.out.bel (by go_grown)) (HS'.out.bel (by go_grown))).mono ?_; rintro e w1 ⟨rfl, hb1⟩; have b1 : Below w.heap.size w w1 := Below.step (by go_grown) hb1; obtain ⟨hc1, hf1, y10⟩ := bloc1 w hb1 (by first | omega | (simp; done) | (simp; omega)); clear hb1))
      | (go_at_call 142; go_must (refine (HCM.out _).mono ?_; rintro e w2 ⟨rfl, hb2⟩; have b2 : Below w.heap.size w w2 := Below.step b1 hb2; obtain ⟨hc2, hf2, y20⟩ := bloc1 w hb2 (by first | omega | (simp; done) | (simp; omega)); clear hb2)))
  go_wp2
  go_ret
  exact ⟨by rw [HVV.out]; rfl, by go_grown⟩
end Go.Proofs.Ytamkannjdbodpaa
