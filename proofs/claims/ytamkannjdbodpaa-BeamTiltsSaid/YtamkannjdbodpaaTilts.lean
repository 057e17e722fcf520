import Derived.Test.YtamkannjdbodpaaBeamD
namespace Go.Proofs.Ytamkannjdbodpaa
open Go.RowKit Go.WideShapes Go.ChangeShapes

/-- a pattern and an angle are right -/
def tiltB (d wd m a : Int) : Bool := withinB d (-900) 900 && withinB wd 1 900 && withinB m 0 400 && withinB a (-900) 900
def tiltV (d wd m a : Int) : Int := min m (120 * (a - d) * (a - d) / (wd * wd))

theorem tilt_ok {d wd m a : Int} (h : tiltB d wd m a = true) : (-900 ≤ d ∧ d ≤ 900) ∧ (1 ≤ wd ∧ wd ≤ 900) ∧ (0 ≤ m ∧ m ≤ 400) ∧ -900 ≤ a ∧ a ≤ 900 := by
  simpa [tiltB, withinB, and_assoc] using h
theorem tilt_bds {d wd a : Int} (h1 : -900 ≤ d) (h2 : d ≤ 900) (h3 : 1 ≤ wd) (h4 : wd ≤ 900) (h5 : -900 ≤ a) (h6 : a ≤ 900) :
    (0 ≤ 120 * (a - d) * (a - d) ∧ 120 * (a - d) * (a - d) ≤ 1000000000) ∧ (1 ≤ wd * wd ∧ wd * wd ≤ 810000) ∧
    (120 * (a - d) * (a - d)).tdiv (wd * wd) = 120 * (a - d) * (a - d) / (wd * wd) ∧ 0 ≤ 120 * (a - d) * (a - d) / (wd * wd) ∧ 120 * (a - d) * (a - d) / (wd * wd) ≤ 1000000000 := by
  have hw : 1 * 1 ≤ wd * wd := Int.mul_le_mul h3 h3 (by omega) (by omega)
  have hw' : wd * wd ≤ 900 * 900 := Int.mul_le_mul h4 h4 (by omega) (by omega)
  have hs := mul_bd (a := a - d) (b := a - d) (m := 1800) (by omega) (by omega) (by omega) (by omega)
  have hn : 0 ≤ (a - d) * (a - d) := by
    rcases (by omega : 0 ≤ a - d ∨ 0 ≤ -(a - d)) with h | h
    · exact Int.mul_nonneg h h
    · rw [← Int.neg_mul_neg]; exact Int.mul_nonneg h h
  have e : 120 * (a - d) * (a - d) = 120 * ((a - d) * (a - d)) := Int.mul_assoc _ _ _
  have hq : (0 : Int) ≤ 120 * (a - d) * (a - d) := by rw [e]; omega
  refine ⟨⟨hq, by rw [e]; omega⟩, ⟨by omega, by omega⟩, Int.tdiv_eq_ediv_of_nonneg hq, Int.ediv_nonneg hq (by omega), ?_⟩
  refine Int.le_trans (Int.ediv_le_self _ hq) ?_
  rw [e]; omega

theorem tilt_home {d wd m : Int} (h : tiltB d wd m d = true) : tiltV d wd m d = 0 := by
  obtain ⟨_, h3, _, _⟩ := tilt_ok h
  have e : d - d = 0 := by omega
  rw [tiltV, e]
  simp
  omega
theorem sq_mono {x y : Int} (h : (0 ≤ x ∧ x ≤ y) ∨ (y ≤ x ∧ x ≤ 0)) : x * x ≤ y * y := by
  rcases h with ⟨h1, h2⟩ | ⟨h1, h2⟩
  · exact Int.mul_le_mul h2 h2 h1 (by omega)
  · rw [← Int.neg_mul_neg x x, ← Int.neg_mul_neg y y]; exact Int.mul_le_mul (by omega) (by omega) (by omega) (by omega)
theorem tilt_away {d wd m a b : Int} (hw : 1 ≤ wd) (h : (0 ≤ a - d ∧ a - d ≤ b - d) ∨ (b - d ≤ a - d ∧ a - d ≤ 0)) : tiltV d wd m a ≤ tiltV d wd m b := by
  have hs := sq_mono h
  have e : ∀ x : Int, 120 * x * x = 120 * (x * x) := fun x => Int.mul_assoc _ _ _
  have hww : 1 * 1 ≤ wd * wd := Int.mul_le_mul hw hw (by omega) (by omega)
  have hd : 120 * (a - d) * (a - d) / (wd * wd) ≤ 120 * (b - d) * (b - d) / (wd * wd) := Int.ediv_le_ediv (by omega) (by rw [e, e]; omega)
  unfold tiltV
  omega

theorem tiltLoss_ok (d wd m a : Int) (h : tiltB d wd m a = true) (w : World) :
    Calls Try.prog 37 #[.agg #[.int .i64 d, .int .i64 wd, .int .i64 m], .int .i64 a] w fun e w' => e = .returned (.tuple #[.int .i64 (tiltV d wd m a), .int .i64 0]) ∧ Below w.heap.size w w' := by
  obtain ⟨⟨a1, a2⟩, ⟨a3, a4⟩, ⟨a5, a6⟩, a7, a8⟩ := tilt_ok h
  obtain ⟨⟨b1, b2⟩, ⟨b3, b4⟩, b5, b6, b7⟩ := tilt_bds a1 a2 a3 a4 a7 a8
  have k1 : withinB d (-900) 900 = true := by simp [withinB]; omega
  have k2 : withinB wd 1 900 = true := by simp [withinB]; omega
  have k3 : withinB m 0 400 = true := by simp [withinB]; omega
  have k4 : withinB a (-900) 900 = true := by simp [withinB]; omega
  clear h
  have B5 := hide b5
  have z1 : wd * wd ≠ 0 := by omega
  have z2 : -9223372036854775808 ≤ (120 * (a - d) * (a - d)).tdiv (wd * wd) := by omega
  have z3 : (120 * (a - d) * (a - d)).tdiv (wd * wd) ≤ 9223372036854775807 := by omega
  clear b5
  go_enter Try.func37, Try.ntmps37
  go_wp2_with (first
    | (go_at_call 108; refine (small_beam _ _ (by omega) (by omega) _).mono ?_; rintro e w' ⟨rfl, rfl⟩; simp only [])
    | (go_at_call 100; refine (within_beam _ _ _ _).mono ?_; rintro e w' ⟨rfl, rfl⟩; simp only []))
  go_region
  all_goals
    go_wp2
    all_goals
      go_ret2
      exact ⟨ret2i (by have := B5.out; unfold tiltV; omega) rfl, by go_grown⟩

theorem tiltLoss_bad (d wd m a : Int) (h : tiltB d wd m a = false) (w : World) :
    Calls Try.prog 37 #[.agg #[.int .i64 d, .int .i64 wd, .int .i64 m], .int .i64 a] w fun e w' => e = .returned (.tuple #[.int .i64 0, .int .i64 2]) ∧ Below w.heap.size w w' := by
  rcases (by revert h; unfold tiltB; cases withinB d (-900) 900 <;> cases withinB wd 1 900 <;> cases withinB m 0 400 <;> cases withinB a (-900) 900 <;> simp :
    withinB d (-900) 900 = false ∨ (withinB d (-900) 900 = true ∧ withinB wd 1 900 = false) ∨ (withinB d (-900) 900 = true ∧ withinB wd 1 900 = true ∧ withinB m 0 400 = false) ∨ (withinB d (-900) 900 = true ∧ withinB wd 1 900 = true ∧ withinB m 0 400 = true ∧ withinB a (-900) 900 = false)) with k1 | ⟨k1, k2⟩ | ⟨k1, k2, k3⟩ | ⟨k1, k2, k3, k4⟩
  all_goals
    clear h
    go_enter Try.func37, Try.ntmps37
    go_wp2_with (first
      | (go_at_call 108; refine (small_beam _ _ (by omega) (by omega) _).mono ?_; rintro e w' ⟨rfl, rfl⟩; simp only [])
      | (go_at_call 100; refine (within_beam _ _ _ _).mono ?_; rintro e w' ⟨rfl, rfl⟩; simp only []))
    go_ret2
    exact ⟨rfl, by go_grown⟩

theorem tiltErr_ref (d wd m a : Int) (w : World) :
    Calls Try.prog 38 #[.agg #[.int .i64 d, .int .i64 wd, .int .i64 m], .int .i64 a] w fun e w' => e = .returned (.int .i64 (unlessE (tiltB d wd m a) 2)) ∧ Below w.heap.size w w' := by
  rcases (by unfold tiltB; cases withinB d (-900) 900 <;> cases withinB wd 1 900 <;> cases withinB m 0 400 <;> cases withinB a (-900) 900 <;> simp :
    (withinB d (-900) 900 = false ∧ tiltB d wd m a = false) ∨ (withinB d (-900) 900 = true ∧ withinB wd 1 900 = false ∧ tiltB d wd m a = false) ∨ (withinB d (-900) 900 = true ∧ withinB wd 1 900 = true ∧ withinB m 0 400 = false ∧ tiltB d wd m a = false) ∨ (withinB d (-900) 900 = true ∧ withinB wd 1 900 = true ∧ withinB m 0 400 = true ∧ withinB a (-900) 900 = false ∧ tiltB d wd m a = false) ∨ (withinB d (-900) 900 = true ∧ withinB wd 1 900 = true ∧ withinB m 0 400 = true ∧ withinB a (-900) 900 = true ∧ tiltB d wd m a = true)) with ⟨k1, t⟩ | ⟨k1, k2, t⟩ | ⟨k1, k2, k3, t⟩ | ⟨k1, k2, k3, k4, t⟩ | ⟨k1, k2, k3, k4, t⟩
  all_goals
    rw [t]
    clear t
    go_enter Try.func38, Try.ntmps38
    go_wp2_with (go_at_call 24; refine (within_base _ _ _ _).mono ?_; rintro e w' ⟨rfl, rfl⟩; simp only [])
    go_ret
    exact ⟨rfl, by go_grown⟩

theorem tiltLoss_ref (d wd m a : Int) (h : tiltB d wd m a = true) (w : World) :
    Calls Try.prog 39 #[.agg #[.int .i64 d, .int .i64 wd, .int .i64 m], .int .i64 a] w fun e w' => e = .returned (.int .i64 (tiltV d wd m a)) ∧ Below w.heap.size w w' := by
  obtain ⟨⟨a1, a2⟩, ⟨a3, a4⟩, ⟨a5, a6⟩, a7, a8⟩ := tilt_ok h
  obtain ⟨⟨b1, b2⟩, ⟨b3, b4⟩, b5, b6, b7⟩ := tilt_bds a1 a2 a3 a4 a7 a8
  clear h
  have B5 := hide b5
  have z1 : wd * wd ≠ 0 := by omega
  have z2 : -9223372036854775808 ≤ (120 * (a - d) * (a - d)).tdiv (wd * wd) := by omega
  have z3 : (120 * (a - d) * (a - d)).tdiv (wd * wd) ≤ 9223372036854775807 := by omega
  clear b5
  go_enter Try.func39, Try.ntmps39
  go_wp2
  go_region
  all_goals
    go_wp2
    all_goals
      go_ret
      exact ⟨ret1 (by have := B5.out; unfold tiltV; omega), by go_grown⟩
end Go.Proofs.Ytamkannjdbodpaa
