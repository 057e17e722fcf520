import Derived.Test.YtamkannjdbodpaaDoorBeamC
namespace Go.Proofs.YtamkannjdbodpaaDoor
open Go.RowKit Go.WideShapes Go.ChangeShapes

/-- the square of the size: P + Q r -/
def Q4.P (x : Q4) : Int := x.a * x.a + x.b * x.b + x.c * x.c + x.d * x.d
def Q4.Q (x : Q4) : Int := x.a * x.b + x.b * x.c + x.c * x.d + x.d * (-x.a)

theorem mul_bd {a b m : Int} (h1 : -m ≤ a) (h2 : a ≤ m) (h3 : -m ≤ b) (h4 : b ≤ m) : -(m * m) ≤ a * b ∧ a * b ≤ m * m := by
  have hm : 0 ≤ m := by omega
  have e : (a * b).natAbs ≤ (m * m).natAbs := by
    rw [Int.natAbs_mul, Int.natAbs_mul]
    exact Nat.mul_le_mul (by omega) (by omega)
  have h0 : 0 ≤ m * m := Int.mul_nonneg hm hm
  omega
theorem Q4.bds {x : Q4} {m : Int} (h : x.le m) (hm : m ≤ 1000000000) : ∀ u ∈ [x.a, x.b, x.c, x.d], ∀ v ∈ [x.a, x.b, x.c, x.d], -1000000000000000000 ≤ u * v ∧ u * v ≤ 1000000000000000000 := by
  intro u hu v hv
  have h1 : -1000000000 ≤ u ∧ u ≤ 1000000000 := by unfold Q4.le at h; simp at hu; omega
  have h2 : -1000000000 ≤ v ∧ v ≤ 1000000000 := by unfold Q4.le at h; simp at hv; omega
  have := mul_bd h1.1 h1.2 h2.1 h2.2
  omega

set_option maxHeartbeats 1000000 in
theorem square_beam (x : Q4) (hx : x.le 1000000000) (w : World) :
    Calls Tryd.prog 42 #[.agg x.cells] w fun e w' => e = .returned (.agg #[.int .i64 x.P, .int .i64 x.Q]) ∧ Below w.heap.size w w' := by
  have hb := Q4.bds hx (Int.le_refl _)
  have aa := hb x.a (by simp) x.a (by simp)
  have bb := hb x.b (by simp) x.b (by simp)
  have cc := hb x.c (by simp) x.c (by simp)
  have dd := hb x.d (by simp) x.d (by simp)
  have ab := hb x.a (by simp) x.b (by simp)
  have bc := hb x.b (by simp) x.c (by simp)
  have cd := hb x.c (by simp) x.d (by simp)
  have ad := hb x.d (by simp) x.a (by simp)
  have ad' : x.d * -x.a = -(x.d * x.a) := Int.mul_neg _ _
  clear hb
  unfold Q4.le at hx
  unfold Q4.P Q4.Q Q4.cells
  obtain ⟨a, b, c, d⟩ := x
  dsimp only at *
  obtain ⟨a1, a2, a3, a4, a5, a6, a7, a8⟩ := hx
  have da : -1000000000000000000 ≤ d * -a ∧ d * -a ≤ 1000000000000000000 := by rw [ad']; omega
  clear ad'
  have i0 : ∀ w, (Instr.index 84 (.agg #[.int .i64 a, .int .i64 b, .int .i64 c, .int .i64 d]) (.int .i64 0)).run Tryd.prog w = .ok (.int .i64 a) w := fun _ => by kernel_rfl
  have i1 : ∀ w, (Instr.index 84 (.agg #[.int .i64 a, .int .i64 b, .int .i64 c, .int .i64 d]) (.int .i64 1)).run Tryd.prog w = .ok (.int .i64 b) w := fun _ => by kernel_rfl
  have i2 : ∀ w, (Instr.index 84 (.agg #[.int .i64 a, .int .i64 b, .int .i64 c, .int .i64 d]) (.int .i64 2)).run Tryd.prog w = .ok (.int .i64 c) w := fun _ => by kernel_rfl
  have i3 : ∀ w, (Instr.index 84 (.agg #[.int .i64 a, .int .i64 b, .int .i64 c, .int .i64 d]) (.int .i64 3)).run Tryd.prog w = .ok (.int .i64 d) w := fun _ => by kernel_rfl
  go_enter Tryd.func42, Tryd.ntmps42
  go_wp2
  go_rounds 5
  go_returns
  exact ⟨rfl, by go_grown⟩

theorem beamErr_beam (A : Option Addr) (c : Nat) (l : List Int) (w : World) (hs : Sl w A (iv l)) (hl : l.length ≤ 1000000) :
    Calls Tryd.prog 31 #[.agg #[.slice A l.length c]] w fun x w' => x = .returned (.int .i64 (chk l).2) ∧ Below w.heap.size w w' := by
  have HS := hide (hs.alloc (.cells #[.slice A l.length c] 24)); clear hs
  go_enter Tryd.func31, Tryd.ntmps31
  go_wp2_with (go_at_call 56; refine (checkBeam_beam A c l _ HS.out hl).mono ?_; rintro e w1 ⟨rfl, hb1⟩)
  go_ret
  exact ⟨rfl, ((Below.refl _ w).alloc (Nat.le_refl _) _).trans (hb1.mono (by simp))⟩
theorem beamErr_ref (A : Option Addr) (c : Nat) (l : List Int) (w : World) (hs : Sl w A (iv l)) (hl : l.length ≤ 1000000) :
    Calls Tryd.prog 13 #[.agg #[.slice A l.length c]] w fun x w' => x = .returned (.int .i64 (chk l).2) ∧ Below w.heap.size w w' := by
  have HS := hide (hs.alloc (.cells #[.slice A l.length c] 24)); clear hs
  go_enter Tryd.func13, Tryd.ntmps13
  go_wp2_with (go_at_call 34; refine (checkBeam_ref A c l _ HS.out hl).mono ?_; rintro e w1 ⟨rfl, hb1⟩)
  go_ret
  exact ⟨rfl, ((Below.refl _ w).alloc (Nat.le_refl _) _).trans (hb1.mono (by simp))⟩

/-- a right beam has right phases -/
theorem chk_ok (l : List Int) (h : (chk l).2 = 0) : 0 < l.length ∧ l.length ≤ 8 ∧ OnOk l ∧ 0 < onC l := by
  unfold chk at h
  split at h
  · cases h
  split at h
  · cases h
  split at h
  · cases h
  split at h
  · cases h
  rename_i h1 h2 h3 h4
  have := onC_bd l
  refine ⟨by omega, by omega, ?_, by omega⟩
  have key : ∀ (l : List Int) (k : Int), 0 ≤ k → ¬ 0 ≤ idxFrom badPhase l k → ∀ x ∈ l, -1 ≤ x ∧ x ≤ 7 := by
    intro l
    induction l with
    | nil => intro k _ _ x hx; simp at hx
    | cons y r ih =>
      intro k hk hn x hx
      rw [idxFrom] at hn
      split at hn
      · exact absurd hk hn
      · rename_i hy
        rcases List.mem_cons.1 hx with rfl | hx
        · simp [badPhase, withinB] at hy; exact hy
        · exact ih (k + 1) (by omega) hn x hx
  exact key l 0 (Int.le_refl _) h3

/-- the gain of a beam, or an error -/
def gainE (l : List Int) (step : Int) : Int := firstOf [(chk l).2, unlessE (withinB step 0 7) 2]
theorem gainE_ok (l : List Int) (step : Int) (h : gainE l step = 0) : (chk l).2 = 0 ∧ 0 ≤ step ∧ step ≤ 7 := by
  unfold gainE firstOf at h
  split at h
  · rename_i h1
    refine ⟨h1, ?_⟩
    unfold firstOf at h
    split at h
    · rename_i h2
      unfold unlessE at h2
      split at h2
      · rename_i h3; simpa [withinB] using h3
      · cases h2
    · rename_i h2; exact absurd h h2
  · rename_i h1; exact absurd h h1
/-- the response where it is asked rightly, else 0 -/
def respR (l : List Int) (step : Int) : Q4 := if gainE l step = 0 then resp l step else ⟨0, 0, 0, 0⟩

end Go.Proofs.YtamkannjdbodpaaDoor
