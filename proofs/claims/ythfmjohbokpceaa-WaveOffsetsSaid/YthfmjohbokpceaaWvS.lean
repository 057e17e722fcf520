import Derived.Test.YthfmjohbokpceaaWideG
import Derived.Test.YthfmjohbokpceaaWvR
namespace Go.Proofs.Ythfmjohbokpceaa
open Go.RowKit Go.WideShapes Go.ChangeShapes

theorem no_root : ∀ n a b : Nat, a ≤ n → a * a = 2 * (b * b) → b = 0
  | 0, a, b, h, e => by
    obtain rfl : a = 0 := by omega
    have : b * b = 0 := by omega
    rcases Nat.eq_zero_or_pos b with hb | hb
    · exact hb
    · have := Nat.mul_pos hb hb; omega
  | n + 1, a, b, h, e => by
    rcases Nat.eq_zero_or_pos b with hb | hb
    · exact hb
    exfalso
    obtain ⟨c, hc⟩ : ∃ c, a = 2 * c := by
      refine ⟨a / 2, ?_⟩
      rcases (by omega : a % 2 = 0 ∨ a % 2 = 1) with hm | hm
      · omega
      · exfalso
        obtain ⟨d, hd⟩ : ∃ d, a = 2 * d + 1 := ⟨a / 2, by omega⟩
        subst hd
        have : (2 * d + 1) * (2 * d + 1) = 2 * (2 * (d * d) + 2 * d) + 1 := by grind
        omega
    subst hc
    have e2 : b * b = 2 * (c * c) := by
      have : 2 * c * (2 * c) = 4 * (c * c) := by grind
      omega
    have hlt : b < 2 * c := by
      rcases Nat.lt_or_ge b (2 * c) with g | g
      · exact g
      · have : 2 * c * (2 * c) ≤ b * b := Nat.mul_le_mul g g
        have h3 : 0 < b * b := Nat.mul_pos hb hb
        omega
    have := no_root n b c (by omega) e2
    subst this
    have h3 : 0 < b * b := Nat.mul_pos hb hb
    omega
theorem no_root2 (p q : Int) (hq : q ≠ 0) : p * p ≠ 2 * (q * q) := by
  intro e
  have h1 := Int.natAbs_mul_self (a := p)
  have h2 := Int.natAbs_mul_self (a := q)
  have := no_root p.natAbs p.natAbs q.natAbs (Nat.le_refl _) (by omega)
  omega
theorem sq_pos {p : Int} (h : p ≠ 0) : 0 < p * p := by
  rcases Int.lt_trichotomy p 0 with g | g | g
  · exact Int.mul_pos_of_neg_of_neg g g
  · exact absurd g h
  · exact Int.mul_pos g g
theorem wide_pos {x s : Int} {d : List Int} (h : WideIs x s d) (hx : 0 < x) : s = 1 := by
  rw [h.sign]; unfold sgnI; rw [if_neg (by omega), if_neg (by omega)]

theorem sqB_ok {p q : Int} (h : sqB p q = true) : (-10000000000000 ≤ p ∧ p ≤ 10000000000000) ∧ -10000000000000 ≤ q ∧ q ≤ 10000000000000 := by
  simpa [sqB, withinB] using h
/-- the program's answer is the sign -/
theorem cpW_is (P Q : Int) : cpW P Q = sgnPQ P Q := by
  have hn := no_root2 P Q
  unfold cpW sgnPQ
  by_cases h1 : 0 ≤ P ∧ 0 ≤ Q
  · rw [if_pos h1]
    unfold sgn cmp3
    (repeat' split) <;> omega
  · rw [if_neg h1]
    by_cases h2 : P ≤ 0 ∧ Q ≤ 0
    · rw [if_pos h2]
      unfold sgn cmp3
      (repeat' split) <;> omega
    · rw [if_neg h2]
      have hq : Q ≠ 0 := by omega
      have hq' := hn hq
      generalize P * P = A at *
      generalize Q * Q = B at *
      unfold sgn cmp3
      (repeat' split) <;> omega

/-- where neither settles it: by the squares -/
def larB (P Q : Int) : Int := if (decide (0 < cmp3 (P * P) (2 * (Q * Q))) == decide (0 < P)) = true then 1 else -1
theorem larB_is {P Q : Int} (h : (0 < P ∧ Q < 0) ∨ (P < 0 ∧ 0 < Q)) : larB P Q = sgnPQ P Q := by
  have hn := no_root2 P Q (by omega)
  unfold larB
  rcases h with ⟨h1, h2⟩ | ⟨h1, h2⟩
  · have hs : sgnPQ P Q = cmp3 (P * P) (2 * (Q * Q)) := by unfold sgnPQ; rw [if_neg (by omega), if_neg (by omega), if_pos h1]
    rw [hs, decide_eq_true h1]
    rcases Int.lt_trichotomy (P * P) (2 * (Q * Q)) with g | g | g
    · have : cmp3 (P * P) (2 * (Q * Q)) = -1 := by unfold cmp3; rw [if_pos g]
      rw [this]; rfl
    · exact absurd g hn
    · have : cmp3 (P * P) (2 * (Q * Q)) = 1 := by unfold cmp3; rw [if_neg (by omega), if_pos g]
      rw [this]; rfl
  · have hs : sgnPQ P Q = -(cmp3 (P * P) (2 * (Q * Q))) := by unfold sgnPQ; rw [if_neg (by omega), if_neg (by omega), if_neg (by omega)]
    rw [hs, decide_eq_false (by omega : ¬ 0 < P)]
    rcases Int.lt_trichotomy (P * P) (2 * (Q * Q)) with g | g | g
    · have : cmp3 (P * P) (2 * (Q * Q)) = -1 := by unfold cmp3; rw [if_pos g]
      rw [this]; rfl
    · exact absurd g hn
    · have : cmp3 (P * P) (2 * (Q * Q)) = 1 := by unfold cmp3; rw [if_neg (by omega), if_pos g]
      rw [this]; rfl

set_option maxRecDepth 100000 in
set_option maxHeartbeats 4000000 in
theorem compared_ref (p q p' q' : Int) (h : sqB p q = true) (h' : sqB p' q' = true) (w : World) :
    Calls Try.prog 33 #[.agg #[.int .i64 p, .int .i64 q], .agg #[.int .i64 p', .int .i64 q']] w fun e w' => e = .returned (.int .i64 (sgnPQ (p - p') (q - q'))) ∧ Below w.heap.size w w' := by
  obtain ⟨⟨a1, a2⟩, a3, a4⟩ := sqB_ok h
  obtain ⟨⟨b1, b2⟩, b3, b4⟩ := sqB_ok h'
  clear h h'
  obtain ⟨P, hP⟩ : ∃ P, p - p' = P := ⟨_, rfl⟩
  obtain ⟨Q, hQ⟩ : ∃ Q, q - q' = Q := ⟨_, rfl⟩
  rw [hP, hQ]
  have c1 : -20000000000000 ≤ P ∧ P ≤ 20000000000000 := by omega
  have c2 : -20000000000000 ≤ Q ∧ Q ≤ 20000000000000 := by omega
  obtain ⟨c11, c12⟩ := c1
  obtain ⟨c21, c22⟩ := c2
  rcases (by omega : (P = 0 ∧ Q = 0) ∨ (0 ≤ P ∧ 0 ≤ Q ∧ ¬ (P = 0 ∧ Q = 0)) ∨ (P ≤ 0 ∧ Q ≤ 0 ∧ ¬ (P = 0 ∧ Q = 0)) ∨ ((0 < P ∧ Q < 0) ∨ (P < 0 ∧ 0 < Q))) with ⟨h1, h2⟩ | ⟨h1, h2, h3⟩ | ⟨h1, h2, h3⟩ | h4
  · have hr := hide (show sgnPQ P Q = 0 by rw [h1, h2]; rfl)
    subst h1 h2
    go_enter Try.func33, Try.ntmps33
    go_wp2
    go_quiet (fail)
    go_wp2
    go_ret
    exact ⟨by rw [hr.out]; rfl, below_drewN (by go_grown) _⟩
  · have hr := hide (show sgnPQ P Q = 1 by unfold sgnPQ; rw [if_pos ⟨h1, h2⟩]; unfold cmp3; rw [if_neg (by omega), if_pos (by omega)])
    rcases (by omega : (¬ P = 0) ∨ (P = 0 ∧ ¬ Q = 0)) with g | ⟨g, g'⟩
    · have d1 : (P == 0) = false := by simp [g]
      skip
      go_enter Try.func33, Try.ntmps33
      go_wp2
      go_quiet (fail)
      go_wp2
      go_ret
      exact ⟨by rw [hr.out]; rfl, below_drewN (by go_grown) _⟩
    · have d1 : (P == 0) = true := by simp [g]
      have d2 : (Q == 0) = false := by simp [g']
      skip
      go_enter Try.func33, Try.ntmps33
      go_wp2
      go_quiet (fail)
      go_wp2
      go_ret
      exact ⟨by rw [hr.out]; rfl, below_drewN (by go_grown) _⟩
  · have hr := hide (show sgnPQ P Q = -1 by unfold sgnPQ; rw [if_neg (by omega), if_pos ⟨h1, h2⟩]; unfold cmp3; rw [if_pos (by omega)])
    rcases (by omega : (¬ P = 0) ∨ (P = 0 ∧ ¬ Q = 0)) with g | ⟨g, g'⟩
    · have d1 : (P == 0) = false := by simp [g]
      have d3 : ¬ 0 ≤ P := by omega
      go_enter Try.func33, Try.ntmps33
      go_wp2
      go_quiet (fail)
      go_wp2
      go_ret
      exact ⟨by rw [hr.out]; rfl, below_drewN (by go_grown) _⟩
    · have d1 : (P == 0) = true := by simp [g]
      have d2 : (Q == 0) = false := by simp [g']
      have d3 : ¬ 0 ≤ Q := by omega
      have d4 : 0 ≤ P := by omega
      go_enter Try.func33, Try.ntmps33
      go_wp2
      go_quiet (fail)
      go_wp2
      go_ret
      exact ⟨by rw [hr.out]; rfl, below_drewN (by go_grown) _⟩
  · have hr := hide (larB_is h4)
    have hpp := hide (sq_pos (show P ≠ 0 by omega))
    have hqq := hide (show 0 < 2 * (Q * Q) by have := sq_pos (show Q ≠ 0 by omega); omega)
    have d1 : (P == 0) = false := by simp; omega
    obtain ⟨C, hC⟩ : ∃ C, cmp3 (P * P) (2 * (Q * Q)) = C := ⟨_, rfl⟩
    have HC := hide hC
    have hlar : larB P Q = if (decide (0 < C) == decide (0 < P)) = true then 1 else -1 := by unfold larB; rw [hC]
    have hC2 : C = 1 ∨ C = -1 := by
      have hn := no_root2 P Q (by omega)
      rw [← hC]; unfold cmp3
      rcases Int.lt_trichotomy (P * P) (2 * (Q * Q)) with g | g | g
      · right; rw [if_pos g]
      · exact absurd g hn
      · left; rw [if_neg (by omega), if_pos g]
    clear hC
    rcases (by omega : (0 < P ∧ Q < 0 ∧ ¬ 0 ≤ Q ∧ ¬ P ≤ 0) ∨ (P < 0 ∧ 0 < Q ∧ ¬ 0 ≤ P ∧ ¬ Q ≤ 0)) with ⟨g1, g2, g3, g4⟩ | ⟨g1, g2, g3, g4⟩ <;> rcases hC2 with rfl | rfl
    all_goals
      clear h4
      first | rw [decide_eq_true g1] at hlar | rw [decide_eq_false (by omega : ¬ 0 < P)] at hlar
      have HLAR := hide hlar
      clear hlar
      go_enter Try.func33, Try.ntmps33
      go_wp2
      go_quiet (fail)
      go_wp2_with fail
      refine (WideOf_base P _ (by omega) (by omega)).mono ?_
      rintro e v1 ⟨s1, e1, A1, k1, hw1, hl1, rfl, hs1, hb1⟩
      have b1 : Below w.heap.size w v1 := Below.step (below_drewN (by go_grown) _) hb1
      have S1 := hide hs1
      have W1 := hide hw1
      clear hs1 hb1 hw1
      simp only []
      go_wp2_with fail
      refine (WideOf_base P _ (by omega) (by omega)).mono ?_
      rintro e v2 ⟨s2, e2, A2, k2, hw2, hl2, rfl, hs2, hb2⟩
      have b2 : Below w.heap.size w v2 := Below.step b1 hb2
      have S12 := hide (S1.out.bel hb2)
      have S2 := hide hs2
      have W2 := hide hw2
      clear hs2 hb2 hw2
      simp only []
      go_wp2_with fail
      refine (WideMul_base P P s1 s2 e1 e2 A1 A2 k1 k2 _ W1.out W2.out S12.out S2.out (by omega) (by omega)).mono ?_
      rintro e v3 ⟨s3, e3, A3, k3, hw3, hl3, rfl, hs3, hb3⟩
      obtain rfl := wide_pos hw3 hpp.out
      have b3 : Below w.heap.size w v3 := Below.step b2 hb3
      have S3 := hide hs3
      have W3 := hide hw3
      clear hs3 hb3 hw3
      simp only []
      go_wp2_with fail
      refine (WideOf_base 2 _ (by omega) (by omega)).mono ?_
      rintro e v4 ⟨s4, e4, A4, k4, hw4, hl4, rfl, hs4, hb4⟩
      have b43 : Below v3.heap.size v3 v4 := Below.step (by go_grown) hb4
      obtain ⟨hc4, hf4, y4⟩ := bloc1 v3 hb4 (by first | omega | (simp; done) | (simp; omega))
      have S4 := hide hs4
      have W4 := hide hw4
      clear hs4 hb4 hw4
      simp only []
      go_wp2_with fail
      refine (WideOf_base Q _ (by omega) (by omega)).mono ?_
      rintro e v5 ⟨s5, e5, A5, k5, hw5, hl5, rfl, hs5, hb5⟩
      have b53 : Below v3.heap.size v3 v5 := Below.step b43 hb5
      have c54 := hide hb5
      obtain ⟨hc5, hf5, y5⟩ := bloc1 v3 hb5 (by first | omega | (simp; done) | (simp; omega))
      have S5 := hide hs5
      have W5 := hide hw5
      clear hs5 hb5 hw5
      simp only []
      go_wp2_with fail
      refine (WideOf_base Q _ (by omega) (by omega)).mono ?_
      rintro e v6 ⟨s6, e6, A6, k6, hw6, hl6, rfl, hs6, hb6⟩
      have b63 : Below v3.heap.size v3 v6 := Below.step b53 hb6
      have c64 := hide (Below.step c54.out hb6)
      have S56 := hide (S5.out.bel hb6)
      obtain ⟨hc6, hf6, y6⟩ := bloc1 v3 hb6 (by first | omega | (simp; done) | (simp; omega))
      have S6 := hide hs6
      have W6 := hide hw6
      clear hs6 hb6 hw6
      simp only []
      go_wp2_with fail
      refine (WideMul_base Q Q s5 s6 e5 e6 A5 A6 k5 k6 _ W5.out W6.out S56.out S6.out (by omega) (by omega)).mono ?_
      rintro e v7 ⟨s7, e7, A7, k7, hw7, hl7, rfl, hs7, hb7⟩
      have b73 : Below v3.heap.size v3 v7 := Below.step b63 hb7
      have S47 := hide (S4.out.bel (Below.step c64.out hb7))
      obtain ⟨hc7, hf7, y7⟩ := bloc1 v3 hb7 (by first | omega | (simp; done) | (simp; omega))
      have S7 := hide hs7
      have W7 := hide hw7
      clear hs7 hb7 hw7
      simp only []
      go_wp2_with fail
      refine (WideMul_base 2 (Q * Q) s4 s7 e4 e7 A4 A7 k4 k7 _ W4.out W7.out S47.out S7.out (by omega) (by omega)).mono ?_
      rintro e v8 ⟨s8, e8, A8, k8, hw8, hl8, rfl, hs8, hb8⟩
      obtain rfl := wide_pos hw8 hqq.out
      have b83 : Below v3.heap.size v3 v8 := Below.step b73 hb8
      obtain ⟨hc8, hf8, y8⟩ := bloc1 v3 hb8 (by first | omega | (simp; done) | (simp; omega))
      have S38 := hide (S3.out.bel b83)
      have S8 := hide hs8
      have W8 := hide hw8
      clear hs8 hb8 hw8
      simp only []
      go_wp2_with fail
      refine (WideCmp_pp (P * P) (2 * (Q * Q)) e3 e8 A3 A8 k3 k8 _ W3.out W8.out (S38.out.bel (by go_grown)) (S8.out.bel (by go_grown)) (by omega) (by omega) hpp.out hqq.out).mono ?_
      rw [HC.out]
      rintro e v9 ⟨rfl, hb9⟩
      have b98 : Below v8.heap.size v8 v9 := Below.step (by go_grown) hb9
      have b9 : Below w.heap.size w v9 := Below.step b3 (Below.step b83 b98)
      clear hb9
      simp only []
      go_wp2_with fail
      all_goals
        first
          | (go_ret; exact ⟨by rw [← hr.out, HLAR.out]; rfl, b9⟩)
          | (exfalso; rename_i hh; simp at hh; omega)
theorem Compared_ref (p q p' q' : Int) (h : sqB p q = true) (h' : sqB p' q' = true) (w : World) :
    Calls Try.prog 33 #[.agg #[.int .i64 p, .int .i64 q], .agg #[.int .i64 p', .int .i64 q']] w fun e w' => e = .returned (.int .i64 (cpW (p - p') (q - q'))) ∧ Below w.heap.size w w' := by
  rw [cpW_is]; exact compared_ref p q p' q' h h' w
set_option maxRecDepth 100000 in
set_option maxHeartbeats 1000000 in
theorem Compared_ok (p q p' q' : Int) (h : sqB p q = true) (h' : sqB p' q' = true) (w : World) :
    Calls Try.prog 29 #[.agg #[.int .i64 p, .int .i64 q], .agg #[.int .i64 p', .int .i64 q']] w fun e w' => e = .returned (.tuple #[.int .i64 (cpW (p - p') (q - q')), .int .i64 0]) ∧ Below w.heap.size w w' := by
  have H1 := hide (fun W => squareErr_wave p q W)
  have H2 := hide (fun W => squareErr_wave p' q' W)
  rw [h] at H1
  rw [h'] at H2
  have HC := hide (fun W => compared_wave p q p' q' W (sqB_ok h).1 (sqB_ok h).2 (sqB_ok h').1 (sqB_ok h').2)
  clear h h'
  have ne0 : w.heap.size + 1 ≠ w.heap.size := by omega
  go_enter Try.func29, Try.ntmps29
  go_wp2
  go_region_held3 (fun w' => w'.cell? ⟨w.heap.size, 0, none⟩ = some (.int .i64 p) ∧ w'.cell? ⟨w.heap.size, 1, none⟩ = some (.int .i64 q) ∧ w'.cell? ⟨w.heap.size + 1, 0, none⟩ = some (.int .i64 p') ∧ w'.cell? ⟨w.heap.size + 1, 1, none⟩ = some (.int .i64 q')) (first | (simp [go_sem]; done) | go_keep)
    (first
      | (go_at_call 120; have qq := b1; go_must (refine (H2.out _).mono ?_; rintro e w2 ⟨rfl, hb2⟩; have b2 : Below w.heap.size w w2 := Below.step b1 hb2; obtain ⟨hc2, hf2, y20, y21⟩ := bloc2 w hb2 (by first | omega | (simp; done) | (simp; omega)); clear hb2 qq))
      | (go_at_call 120; go_must (refine (H1.out _).mono ?_; rintro e w1 ⟨rfl, hb1⟩; have b1 : Below w.heap.size w w1 := Below.step (by go_grown) hb1; obtain ⟨hc1, hf1, y10, y11⟩ := bloc2 w hb1 (by first | omega | (simp; done) | (simp; omega)); clear hb1))
      | (go_at_call 107; go_must (refine (first2 _ _ _ _ (by simp)).mono ?_; rintro e w' ⟨rfl, rfl⟩)))
  go_wp2_with (go_at_call 121; go_must (refine (HC.out _).mono ?_; rintro e w3 ⟨rfl, hb3⟩; have b3 : Below w.heap.size w w3 := Below.step (by go_grown) hb3; clear hb3; simp only []))
  go_ret2
  exact ⟨rfl, b3⟩
set_option maxRecDepth 100000 in
set_option maxHeartbeats 1000000 in
theorem Compared_bad (p q p' q' : Int) (h : (sqB p q && sqB p' q') = false) (w : World) :
    Calls Try.prog 29 #[.agg #[.int .i64 p, .int .i64 q], .agg #[.int .i64 p', .int .i64 q']] w fun e w' => e = .returned (.tuple #[.int .i64 0, .int .i64 2]) ∧ Below w.heap.size w w' := by
  have H1 := hide (fun W => squareErr_wave p q W)
  have H2 := hide (fun W => squareErr_wave p' q' W)
  have hf : firstOf [unlessE (sqB p q) 2, unlessE (sqB p' q') 2] = 2 := by
    revert h; cases sqB p q <;> cases sqB p' q' <;> intro h <;> first | rfl | cases h
  have HF := hide hf
  have hq : (firstOf [unlessE (sqB p q) 2, unlessE (sqB p' q') 2] != 0) = true := by rw [hf]; rfl
  clear h hf
  have ne0 : w.heap.size + 1 ≠ w.heap.size := by omega
  go_enter Try.func29, Try.ntmps29
  go_wp2
  go_region_held3 (fun w' => w'.cell? ⟨w.heap.size, 0, none⟩ = some (.int .i64 p) ∧ w'.cell? ⟨w.heap.size, 1, none⟩ = some (.int .i64 q) ∧ w'.cell? ⟨w.heap.size + 1, 0, none⟩ = some (.int .i64 p') ∧ w'.cell? ⟨w.heap.size + 1, 1, none⟩ = some (.int .i64 q')) (first | (simp [go_sem]; done) | go_keep)
    (first
      | (go_at_call 120; have qq := b1; go_must (refine (H2.out _).mono ?_; rintro e w2 ⟨rfl, hb2⟩; have b2 : Below w.heap.size w w2 := Below.step b1 hb2; obtain ⟨hc2, hf2, y20, y21⟩ := bloc2 w hb2 (by first | omega | (simp; done) | (simp; omega)); clear hb2 qq))
      | (go_at_call 120; go_must (refine (H1.out _).mono ?_; rintro e w1 ⟨rfl, hb1⟩; have b1 : Below w.heap.size w w1 := Below.step (by go_grown) hb1; obtain ⟨hc1, hf1, y10, y11⟩ := bloc2 w hb1 (by first | omega | (simp; done) | (simp; omega)); clear hb1))
      | (go_at_call 107; go_must (refine (first2 _ _ _ _ (by simp)).mono ?_; rintro e w' ⟨rfl, rfl⟩)))
  go_wp2
  go_ret2
  exact ⟨by rw [HF.out]; rfl, by go_grown⟩
end Go.Proofs.Ythfmjohbokpceaa
