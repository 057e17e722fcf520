import Derived.Test.YthfmjohbokpceaaWvR
namespace Go.Proofs.Ythfmjohbokpceaa
open Go.RowKit Go.WideShapes Go.ChangeShapes

/-! the reference's numbers -/
theorem isSmall_ref (x : Nm) (w : World) : Calls Try.prog 36 #[nv x] w fun e w' => e = .returned (.bool (fitsB 1000000000 x)) ∧ Below w.heap.size w w' := by
  have HR := hide (fun W => within_ref x 1000000000 W (by omega) (by omega))
  go_enter Try.func36, Try.ntmps36
  go_wp2_with (go_at_call 122; go_must (refine (HR.out _).mono ?_; rintro e w1 ⟨rfl, hb1⟩; have b1 : Below w.heap.size w w1 := Below.step (by go_grown) hb1; clear hb1; simp only []))
  go_ret
  exact ⟨rfl, b1⟩
theorem eighthsErr_ref (n : Int) (w : World) : Calls Try.prog 37 #[.int .i64 n] w fun x w' => x = .returned (.int .i64 (unlessE (withinB n 0 7) 2)) ∧ w = w' := by
  rcases Bool.eq_false_or_eq_true (withinB n 0 7) with k1 | k1
  all_goals
    rw [k1]
    go_enter Try.func37, Try.ntmps37
    go_wp2_with (go_at_call 24; refine (within_base _ _ _ _).mono ?_; rintro e w' ⟨rfl, rfl⟩; simp only [])
    go_ret
    exact ⟨rfl, rfl⟩
set_option maxRecDepth 100000 in
theorem plus_ref (x y : Nm) (w : World) (h : nle 4000000000000000000 x) (k : nle 4000000000000000000 y) : Calls Try.prog 132 #[nv x, nv y] w fun e w' => e = .returned (nv (nadd x y)) ∧ Below w.heap.size w w' := by
  obtain ⟨a, b, c, d⟩ := x
  obtain ⟨a', b', c', d'⟩ := y
  unfold nle at h k
  dsimp only at h k
  obtain ⟨a1, a2, b1, b2, c1, c2, d1, d2⟩ := h
  obtain ⟨a3, a4, b3, b4, c3, c4, d3, d4⟩ := k
  go_enter Try.func132, Try.ntmps132
  go_wp2
  go_returns
  exact ⟨rfl, by go_grown⟩
set_option maxRecDepth 100000 in
set_option maxHeartbeats 2000000 in
theorem turn_ref (x : Nm) (n : Int) (w : World) (h : nle 4000000000000000000 x) (hn : -9223372036854775808 ≤ n) (hn' : n ≤ 9223372036854775807) :
    Calls Try.prog 38 #[nv x, .int .i64 n] w fun e w' => e = .returned (nv (tni x n)) ∧ Below w.heap.size w w' := by
  have HM := hide (fun W => mod_base n 8 (by omega) (by omega) hn hn' W)
  obtain ⟨m, hm, hm8⟩ : ∃ m : Nat, n % 8 = m ∧ m < 8 := ⟨(n % 8).toNat, by omega, by omega⟩
  have hfin := hide (show tni x n = tn m x by unfold tni; rw [hm]; rfl)
  rw [hm] at HM
  have HL := hide (fun k => nle_tn h k)
  clear h hn hn' hm
  go_enter Try.func38, Try.ntmps38
  go_wp2
  go_loopw [5] (fun i wr => ∃ k : Nat, k ≤ m ∧ i = .int .i64 k ∧ Blk wr w.heap.size 38 (ncells (tn k x)) ∧ Blk wr (w.heap.size + 1) 38 (ncells n0) ∧ Below w.heap.size w wr) (fun i _ => m - (intOf i).toNat)
  case atStart =>
    refine ⟨0, by omega, rfl, ?_, ?_, by go_grown⟩
    · exact (Blk.new w 38 (ncells x)).alloc _
    · exact Blk.newN (w.alloc (.cells (ncells x) 38)) 38 (ncells n0) (by simp)
  case round =>
    obtain ⟨k, hk, rfl, hX, hR, hbel⟩ := hrel
    have hle := HL.out k
    have hts := hide (show tn (k + 1) x = t1 (tn k x) from rfl)
    obtain ⟨y, hy⟩ : ∃ y, tn k x = y := ⟨_, rfl⟩
    have HY := hide hy
    rw [hy] at hX hle hts
    clear hy
    obtain ⟨x0, x1, x2, x3, f0, f1, f2, f3⟩ := hX.n4
    have hlx := hX.lt
    by_cases hlt : k < m
    · have hd : decide ((k : Int) < (m : Int)) = true := by rw [decide_eq_true_iff]; omega
      have hd' : decide (k < m) = true := by rw [decide_eq_true_iff]; omega
      unfold nle at hle
      obtain ⟨l0, l1, l2, l3, l4, l5, l6, l7⟩ := hle
      go_wp2_with (go_at_call 131; refine (HM.out _).mono ?_; rintro e w' ⟨rfl, rfl⟩; simp only [])
      go_roundw
      case rel =>
        refine ⟨k + 1, by omega, by go_num, ?_, ?_, ?_⟩
        · rw [hts.out]
          exact (((hX.set_ 0 _).set_ 1 _).set_ 2 _).set_ 3 _
        · exact (((hR.far (by simp) _).far (by simp) _).far (by simp) _).far (by simp) _
        · go_grown
      case measure => simp [intOf]; omega
    · have hy' := hide (show y = tni x n by rw [← HY.out, hfin.out, (by omega : k = m)])
      have hd : decide ((k : Int) < (m : Int)) = false := by rw [decide_eq_false_iff_not]; omega
      have hd' : decide (k < m) = false := by rw [decide_eq_false_iff_not]; omega
      obtain ⟨r0, r1, r2, r3, g0, g1, g2, g3⟩ := hR.n4
      have hlr := hR.lt
      go_wp2_with (go_at_call 131; refine (HM.out _).mono ?_; rintro e w' ⟨rfl, rfl⟩; simp only [])
      have hfin2 := (((hR.set_ 0 (.int .i64 y.1)).set_ 1 (.int .i64 y.2.1)).set_ 2 (.int .i64 y.2.2.1)).set_ 3 (.int .i64 y.2.2.2)
      rw [← hy'.out]
      exact bodyPost_ret (results_cell_row rfl _ _ (w.heap.size + 1) 38 (ncells y) (0, 0) _ rfl hfin2 Try.underlying38 rfl (by kernel_rfl)) rfl ⟨rfl, by go_grown⟩
end Go.Proofs.Ythfmjohbokpceaa
