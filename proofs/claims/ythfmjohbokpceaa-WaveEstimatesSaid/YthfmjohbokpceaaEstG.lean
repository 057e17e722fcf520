import Derived.Test.YthfmjohbokpceaaEstD
import Derived.Test.YthfmjohbokpceaaEstB
import Derived.Test.YthfmjohbokpceaaListG
import Derived.Test.YthfmjohbokpceaaListP
namespace Go.Proofs.Ythfmjohbokpceaa
open Go.RowKit Go.WideShapes Go.ChangeShapes

/-! the reference's small functions of estimates -/
theorem gconj_one (a b : Int) (w : World) (h : -10000 ≤ a ∧ a ≤ 10000 ∧ -10000 ≤ b ∧ b ≤ 10000) :
    Calls Try.prog 163 #[.agg #[.int .i64 a, .int .i64 b]] w fun e w' => e = .returned (.agg #[.int .i64 a, .int .i64 (-b)]) ∧ Below w.heap.size w w' := by
  obtain ⟨h1, h2, h3, h4⟩ := h
  go_enter Try.func163, Try.ntmps163
  go_wp2
  go_returns
  exact ⟨rfl, by go_grown⟩
theorem gmul_one (a b c d : Int) (w : World) (h : -10000 ≤ a ∧ a ≤ 10000 ∧ -10000 ≤ b ∧ b ≤ 10000) (k : -10000 ≤ c ∧ c ≤ 10000 ∧ -10000 ≤ d ∧ d ≤ 10000) :
    Calls Try.prog 152 #[.agg #[.int .i64 a, .int .i64 b], .agg #[.int .i64 c, .int .i64 d]] w fun e w' => e = .returned (.agg #[.int .i64 (a * c - b * d), .int .i64 (a * d + b * c)]) ∧ Below w.heap.size w w' := by
  obtain ⟨p1, q1⟩ := mul_le_size h.1 h.2.1 k.1 k.2.1
  obtain ⟨p2, q2⟩ := mul_le_size h.2.2.1 h.2.2.2 k.2.2.1 k.2.2.2
  obtain ⟨p3, q3⟩ := mul_le_size h.1 h.2.1 k.2.2.1 k.2.2.2
  obtain ⟨p4, q4⟩ := mul_le_size h.2.2.1 h.2.2.2 k.1 k.2.1
  clear h k
  go_enter Try.func152, Try.ntmps152
  go_wp2
  go_returns
  exact ⟨rfl, by go_grown⟩
theorem size_bas (x : Int) (w : World) (h : -1000000000000 ≤ x ∧ x ≤ 1000000000000) :
    Calls Try.prog 77 #[.int .i64 x] w fun e w' => e = .returned (.int .i64 (x.natAbs : Int)) ∧ w' = w := by
  obtain ⟨h1, h2⟩ := h
  have hc : (x < 0 ∧ (x.natAbs : Int) = -x) ∨ (0 ≤ x ∧ (x.natAbs : Int) = x) := by omega
  rcases hc with ⟨h3, h4⟩ | ⟨h3, h4⟩
  all_goals
    rw [h4]
    clear h4
    go_enter Try.func77, Try.ntmps77
    go_wp2
    go_ret
    exact ⟨rfl, rfl⟩
set_option maxRecDepth 100000 in
set_option maxHeartbeats 2000000 in
theorem gcd_bas (x0 y0 : Int) (w : World) (h : -1000000000000 ≤ x0 ∧ x0 ≤ 1000000000000) (h' : -1000000000000 ≤ y0 ∧ y0 ≤ 1000000000000) :
    Calls Try.prog 183 #[.int .i64 x0, .int .i64 y0] w fun e w' => e = .returned (.int .i64 (Int.gcd x0 y0)) ∧ ∃ n, w' = w.drewN n := by
  obtain ⟨G, hG⟩ : ∃ G : Int, (Int.gcd x0 y0 : Int) = G := ⟨_, rfl⟩
  have HG := hide hG
  rw [hG]
  clear hG
  obtain ⟨h1, h2⟩ := h
  obtain ⟨h3, h4⟩ := h'
  go_enter Try.func183, Try.ntmps183
  go_wp2
  go_loopw [0, 1] (fun a b wr => ∃ x y : Int, a = .int .i64 x ∧ b = .int .i64 y ∧ -1000000000000 ≤ x ∧ x ≤ 1000000000000 ∧ -1000000000000 ≤ y ∧ y ≤ 1000000000000 ∧ (Int.gcd x y : Int) = G ∧ ∃ n, wr = w.drewN n) (fun _ b _ => (intOf b).natAbs)
  case atStart => exact ⟨x0, y0, rfl, rfl, h1, h2, h3, h4, HG.out, 0, rfl⟩
  case round =>
    clear h1 h2 h3 h4
    obtain ⟨x, y, rfl, rfl, x1, x2, y1, y2, hg, n, rfl⟩ := hrel
    by_cases h0 : y = 0
    · have hd : (y != 0) = false := by simp [h0]
      have hmx : (x.natAbs : Int) = G := by
        rw [h0] at hg
        rw [← hg, Int.gcd_zero_right]
      have HS := hide (fun W => size_bas x W ⟨x1, x2⟩)
      rw [hmx] at HS
      clear hg h0 hmx
      go_wp2_with (go_at_call 77; refine (HS.out _).mono ?_; rintro e w' ⟨rfl, rfl⟩; simp only [])
      go_ret
      exact ⟨rfl, n, rfl⟩
    · have hd : (y != 0) = true := by simp [h0]
      have hst := hide (gcd_turn x y)
      have hgg := hide hg
      have hlt := hide (show (x.tmod y).natAbs < y.natAbs by rw [Int.natAbs_tmod]; exact Nat.mod_lt _ (by omega))
      have ht : -1000000000000 ≤ x.tmod y ∧ x.tmod y ≤ 1000000000000 := by have := hlt.out; omega
      obtain ⟨t1, t2⟩ := ht
      clear hg
      go_wp2
      go_quiet (fail)
      go_wp2
      go_roundw
      case rel => exact ⟨y, x.tmod y, rfl, rfl, y1, y2, t1, t2, by rw [hst.out]; exact hgg.out, by first | exact ⟨_, rfl⟩ | exact drewN2 _ _ _⟩
      case measure => simp [intOf]; exact Nat.mod_lt _ (by omega)
/-- the three parts by their common divisor -/
def phO (x y s : Int) : Pth := (x.tdiv (Int.gcd (Int.gcd x y : Int) s : Int), y.tdiv (Int.gcd (Int.gcd x y : Int) s : Int), s.tdiv (Int.gcd (Int.gcd x y : Int) s : Int))
set_option maxRecDepth 100000 in
set_option maxHeartbeats 2000000 in
theorem phasorOf_base (x y s : Int) (w : World) (hx : -400000 ≤ x ∧ x ≤ 400000) (hy : -400000 ≤ y ∧ y ≤ 400000) (hs : 1 ≤ s ∧ s ≤ 20) :
    Calls Try.prog 164 #[.int .i64 x, .int .i64 y, .int .i64 s] w fun e w' => e = .returned (.agg #[.int .i64 (phO x y s).1, .int .i64 (phO x y s).2.1, .int .i64 (phO x y s).2.2]) ∧ Below w.heap.size w w' := by
  have h1 : (Int.gcd x y : Int) ≤ 400000 ∨ (Int.gcd x y : Int) = 0 := by
    by_cases e : x = 0 ∧ y = 0
    · exact .inr (by rw [e.1, e.2]; rfl)
    · left
      by_cases e0 : x = 0
      · have h2 : y ≠ 0 := fun e1 => e ⟨e0, e1⟩
        have := Nat.le_of_dvd (by omega) (Int.gcd_dvd_natAbs_right x y); omega
      · have := Nat.le_of_dvd (by omega) (Int.gcd_dvd_natAbs_left x y); omega
  have hg1 : 0 < Int.gcd (Int.gcd x y : Int) s := Int.gcd_pos_of_ne_zero_right _ (by omega)
  have hg2 : Int.gcd (Int.gcd x y : Int) s ≤ s.natAbs := Nat.le_of_dvd (by omega) (Int.gcd_dvd_natAbs_right (Int.gcd x y : Int) s)
  have HG1 := hide (fun W => gcd_bas x y W (by omega) (by omega))
  have HG2 := hide (fun W => gcd_bas (Int.gcd x y : Int) s W (by omega) (by omega))
  unfold phO
  obtain ⟨D0, hD0⟩ : ∃ D : Nat, Int.gcd x y = D := ⟨_, rfl⟩
  rw [hD0] at HG1 HG2 hg1 hg2 ⊢
  obtain ⟨D, hD⟩ : ∃ D : Int, (Int.gcd (D0 : Int) s : Int) = D := ⟨_, rfl⟩
  rw [hD] at HG2 ⊢
  have d1 : 1 ≤ D := by omega
  have d2 : D ≤ 20 := by omega
  clear hD hD0 h1 hg1 hg2
  have z1 := tdiv_lim x d1 hx
  have z2 := tdiv_lim y d1 hy
  have z3 := tdiv_lim s d1 (B := 20) (by omega)
  obtain ⟨s1, s2⟩ := hs
  have e3 : s.tdiv D = s / D := Int.tdiv_eq_ediv_of_nonneg (by omega)
  have v1 : IntKind.i64.wrap (x.tdiv D) = x.tdiv D := IntWalk.i64_in _ (by omega)
  have v2 : IntKind.i64.wrap (y.tdiv D) = y.tdiv D := IntWalk.i64_in _ (by omega)
  have v3 : IntKind.i64.wrap (s.tdiv D) = s.tdiv D := IntWalk.i64_in _ (by omega)
  have v4 : IntKind.i64.wrap (s / D) = s / D := by rw [← e3]; exact v3
  have n0 : ¬ D = 0 := by omega
  clear hx hy z1 z2 z3 s1 s2 d1 d2 e3
  go_enter Try.func164, Try.ntmps164
  go_wp2_with (first
    | (go_at_call 183; with_reducible refine (HG1.out _).mono ?_; rintro e w1 ⟨rfl, n1, rfl⟩; simp only [])
    | (go_at_call 183; go_must (refine (HG2.out _).mono ?_; rintro e w2 ⟨rfl, n2, rfl⟩; simp only [])))
  have HB0 := hide (show Below w.heap.size w ((((w.alloc (.cells #[.int .i64 0, .int .i64 0, .int .i64 0] 118)).drewN n1).drewN n2).drew) from below_drewN (below_drewN (below_drewN ((Below.refl _ _).alloc (Nat.le_refl _) _) n1) n2) 1)
  have HR := hide (show Blk ((((w.alloc (.cells #[.int .i64 0, .int .i64 0, .int .i64 0] 118)).drewN n1).drewN n2).drew) w.heap.size 118 #[.int .i64 0, .int .i64 0, .int .i64 0] from Blk.new w _ _)
  obtain ⟨W0, hW0⟩ : ∃ W, (((w.alloc (.cells #[.int .i64 0, .int .i64 0, .int .i64 0] 118)).drewN n1).drewN n2) = W := ⟨_, rfl⟩
  rw [hW0] at HB0 HR ⊢
  clear hW0
  refine wp_region_held_drew (S := fun _ => True) (by kernel_rfl) trivial (fun hHeld => ?_)
  refine take_at (i := 0) 13 (v := .int .i64 x) rfl rfl (by kernel_rfl) (by kernel_rfl) (by kernel_rfl) (fun _ _ _ h => h) (Or.inl ⟨by rfl, by intro w hSw; go_simp⟩) (by assumption) ?_
  try simp only [Act.put, List.setIfInBounds_toArray, List.set_cons_zero, List.set_cons_succ]
  refine take_at (i := 1) 14 (v := .int .i64 D) rfl rfl (by kernel_rfl) (by kernel_rfl) (by kernel_rfl) (fun _ _ _ h => h) (Or.inl ⟨by rfl, by intro w hSw; go_simp⟩) (by assumption) ?_
  try simp only [Act.put, List.setIfInBounds_toArray, List.set_cons_zero, List.set_cons_succ]
  refine take_at (i := 2) 15 (v := .int .i64 (x.tdiv D)) rfl rfl (by kernel_rfl) (by kernel_rfl) (by kernel_rfl) (fun _ _ _ h => h) (Or.inl ⟨by rfl, by intro w hSw; go_simp⟩) (by assumption) ?_
  try simp only [Act.put, List.setIfInBounds_toArray, List.set_cons_zero, List.set_cons_succ]
  refine take_at (i := 3) 16 (v := .int .i64 y) rfl rfl (by kernel_rfl) (by kernel_rfl) (by kernel_rfl) (fun _ _ _ h => h) (Or.inl ⟨by rfl, by intro w hSw; go_simp⟩) (by assumption) ?_
  try simp only [Act.put, List.setIfInBounds_toArray, List.set_cons_zero, List.set_cons_succ]
  refine take_at (i := 4) 17 (v := .int .i64 D) rfl rfl (by kernel_rfl) (by kernel_rfl) (by kernel_rfl) (fun _ _ _ h => h) (Or.inl ⟨by rfl, by intro w hSw; go_simp⟩) (by assumption) ?_
  try simp only [Act.put, List.setIfInBounds_toArray, List.set_cons_zero, List.set_cons_succ]
  refine take_at (i := 5) 18 (v := .int .i64 (y.tdiv D)) rfl rfl (by kernel_rfl) (by kernel_rfl) (by kernel_rfl) (fun _ _ _ h => h) (Or.inl ⟨by rfl, by intro w hSw; go_simp⟩) (by assumption) ?_
  try simp only [Act.put, List.setIfInBounds_toArray, List.set_cons_zero, List.set_cons_succ]
  refine take_at (i := 6) 19 (v := .int .i64 s) rfl rfl (by kernel_rfl) (by kernel_rfl) (by kernel_rfl) (fun _ _ _ h => h) (Or.inl ⟨by rfl, by intro w hSw; go_simp⟩) (by assumption) ?_
  try simp only [Act.put, List.setIfInBounds_toArray, List.set_cons_zero, List.set_cons_succ]
  refine take_at (i := 7) 20 (v := .int .i64 D) rfl rfl (by kernel_rfl) (by kernel_rfl) (by kernel_rfl) (fun _ _ _ h => h) (Or.inl ⟨by rfl, by intro w hSw; go_simp⟩) (by assumption) ?_
  try simp only [Act.put, List.setIfInBounds_toArray, List.set_cons_zero, List.set_cons_succ]
  refine take_at (i := 8) 21 (v := .int .i64 (s.tdiv D)) rfl rfl (by kernel_rfl) (by kernel_rfl) (by kernel_rfl) (fun _ _ _ h => h) (Or.inl ⟨by rfl, by intro w hSw; go_simp⟩) (by assumption) ?_
  try simp only [Act.put, List.setIfInBounds_toArray, List.set_cons_zero, List.set_cons_succ]
  refine take_at (i := 9) 22 (v := .agg #[.int .i64 (x.tdiv D), .int .i64 (y.tdiv D), .int .i64 (s.tdiv D)]) rfl rfl (by kernel_rfl) (by kernel_rfl) (by kernel_rfl) (fun _ _ _ h => h) (Or.inl ⟨by rfl, by intro w hSw; go_simp⟩) (by assumption) ?_
  try simp only [Act.put, List.setIfInBounds_toArray, List.set_cons_zero, List.set_cons_succ]
  refine wpAnyH_ready (rs := [10]) (by kernel_rfl) (by simp) ?_
  refine AllReadyH.cons rfl (fun K hK => ?_) AllReadyH.nil
  refine step_store_rowE rfl 118 (.tmp 6) (.tmp 22) rfl w.heap.size #[.int .i64 (x.tdiv D), .int .i64 (y.tdiv D), .int .i64 (s.tdiv D)] rfl rfl 118 #[.int .i64 0, .int .i64 0, .int .i64 0] HR.out (by kernel_rfl) rfl (by simp [Value.oneCell']) ?_
  refine hK.out _ _ trivial (fun hHeld => ?_)
  clear hK K
  try simp only [Act.put, List.setIfInBounds_toArray]
  refine wpAnyH_done (by kernel_rfl) ?_ _
  have HZ := hide (HR.out.row #[.int .i64 (x.tdiv D), .int .i64 (y.tdiv D), .int .i64 (s.tdiv D)])
  have HBZ := hide (show Below w.heap.size w (W0.drew.setRow w.heap.size #[.int .i64 (x.tdiv D), .int .i64 (y.tdiv D), .int .i64 (s.tdiv D)]) from Below.row HB0.out (Nat.le_refl _) _)
  obtain ⟨W1, hW1⟩ : ∃ W, W0.drew.setRow w.heap.size #[.int .i64 (x.tdiv D), .int .i64 (y.tdiv D), .int .i64 (s.tdiv D)] = W := ⟨_, rfl⟩
  rw [hW1] at HZ HBZ ⊢
  clear hW1
  go_wp2
  exact bodyPost_ret (results_cell_row rfl _ _ w.heap.size 118 #[.int .i64 (x.tdiv D), .int .i64 (y.tdiv D), .int .i64 (s.tdiv D)] (0, 0) _ rfl HZ.out Try.underlying118 rfl (by kernel_rfl)) rfl ⟨rfl, HBZ.out⟩
theorem BendErr_ref (A : Option Addr) (c m : Nat) (l : List (Int × Int)) (w : World) (hm : l.length = m) (hs : Sl w A (gv l)) (hl : m ≤ 1000000) :
    Calls Try.prog 101 #[.slice A m c] w fun e w' => e = .returned (.int .i64 (bnE l)) ∧ Below w.heap.size w w' := by
  have HE := hide (errGauss A c l w hs (by omega))
  rw [hm] at HE
  unfold bnE
  rw [hm]
  clear hs hm
  by_cases h : 800 < m
  · rw [if_pos h]
    clear HE
    go_enter Try.func101, Try.ntmps101
    go_wp2
    go_ret
    exact ⟨rfl, by go_grown⟩
  · rw [if_neg h]
    go_enter Try.func101, Try.ntmps101
    go_wp2_with (go_at_call 59; go_must (refine HE.out.mono ?_; rintro e w1 ⟨rfl, hb⟩; simp only []))
    go_ret
    exact ⟨rfl, hb⟩
end Go.Proofs.Ythfmjohbokpceaa
