import Derived.Test.YtamkannjdbodpaaLChannels
import Derived.StillTailTactics
namespace Go.Proofs.Ytamkannjdbodpaa
open Go.RowKit Go.WideShapes Go.ChangeShapes

/-- is a fraction in lowest terms; the error of a greatest part -/
def lowB (a b : Int) : Bool := decide (0 < b) && decide (Int.gcd a b = 1)
def mostE (a b : Int) : Int := firstOf [unlessE (lowB a b) 3, unlessE (withinB a 0 b && decide (b ≤ 1000000000)) 2]
theorem mostE_ok {a b : Int} (h : mostE a b = 0) : 1 ≤ b ∧ b ≤ 1000000000 ∧ 0 ≤ a ∧ a ≤ b ∧ Int.gcd a b = 1 := by
  have h1 := firstOf_ok h (unlessE (lowB a b) 3) (by simp)
  have h2 := firstOf_ok h (unlessE (withinB a 0 b && decide (b ≤ 1000000000)) 2) (by simp)
  have a1 : lowB a b = true := by
    cases q : lowB a b
    · rw [q] at h1; simp [unlessE] at h1
    · rfl
  have a2 : (withinB a 0 b && decide (b ≤ 1000000000)) = true := by
    cases q : (withinB a 0 b && decide (b ≤ 1000000000))
    · rw [q] at h2; simp [unlessE] at h2
    · rfl
  unfold lowB at a1
  unfold withinB at a2
  simp only [Bool.and_eq_true, decide_eq_true_eq] at a1 a2
  exact ⟨by omega, a2.2, a2.1.1, a2.1.2, a1.2⟩
theorem low_eqB (a b : Int) (hb : 0 < b) : (lowN a b == a && lowD a b == b) = decide (Int.gcd a b = 1) := by
  have h := low_id a b (by omega)
  by_cases q : Int.gcd a b = 1
  · obtain ⟨h1, h2⟩ := h.2 q
    rw [h1, h2, decide_eq_true q]; simp
  · rw [decide_eq_false q, Bool.and_eq_false_iff, beq_eq_false_iff_ne, beq_eq_false_iff_ne]
    by_cases r : lowN a b = a
    · exact .inr fun e => q (h.1 ⟨r, e⟩)
    · exact .inl r

theorem flipC {P : Program} {f : FuncId} {args : Array Value} {w : World} {v : Value} (h : Calls P f args w fun e w' => e = .returned v ∧ w = w') : Calls P f args w fun e w' => e = .returned v ∧ w' = w := h.mono fun _ _ ⟨he, hw⟩ => ⟨he, hw.symm⟩
set_option maxRecDepth 100000 in
set_option maxHeartbeats 4000000 in
theorem mostErr_beam (a b : Int) (w : World) (a1 : -9223372036854775808 ≤ a) (a2 : a ≤ 9223372036854775807) (b2 : b ≤ 9223372036854775807) :
    Calls Try.prog 140 #[.agg #[.int .i64 a, .int .i64 b]] w fun e w' => e = .returned (.int .i64 (mostE a b)) ∧ Below w.heap.size w w' := by
  have HM := hide (show mostE a b = firstOf [unlessE (lowB a b) 3, unlessE (withinB a 0 b && decide (b ≤ 1000000000)) 2] from rfl)
  by_cases hb : 0 < b
  · have hlb : lowB a b = decide (Int.gcd a b = 1) := by unfold lowB; rw [decide_eq_true hb]; rfl
    have hd : decide (0 < b) = true := decide_eq_true hb
    have hq : ∀ w, (binOp .eql 86 (.agg #[.int .i64 (lowN a b), .int .i64 (lowD a b)]) (.agg #[.int .i64 a, .int .i64 b])).run Try.prog w = .ok (.bool (lowB a b)) w := fun w => by rw [fr_eql, low_eqB a b hb, hlb]
    have HLO := hide (fun W => lowest_beam a b W a1 a2 (by omega) b2)
    obtain ⟨LB, hLB⟩ : ∃ LB, lowB a b = LB := ⟨_, rfl⟩
    rw [hLB] at hq HM
    obtain ⟨N, hN⟩ : ∃ N, lowN a b = N := ⟨_, rfl⟩
    obtain ⟨D, hD⟩ : ∃ D, lowD a b = D := ⟨_, rfl⟩
    rw [hN, hD] at hq HLO
    clear hlb hLB hN hD
    cases hw : withinB a 0 b
    · rw [hw] at HM
      have HW := hide hw; clear hw
      have HB := hide (Below.refl w.heap.size w)
      go_enter Try.func140, Try.ntmps140
      go_wp2
      go_region_held3 (fun w' => w'.cell? ⟨w.heap.size, 0, none⟩ = some (.int .i64 a) ∧ w'.cell? ⟨w.heap.size, 1, none⟩ = some (.int .i64 b)) (first | (simp [go_sem]; done) | (simp [go_sem, *]; done) | go_keep)
        (first
          | (go_at_call 128; go_must (refine (HLO.out _).mono ?_; rintro e w1 ⟨rfl, hb1⟩; have b1 : Below w.heap.size w w1 := Below.step (by go_grown) hb1; obtain ⟨hc1, hf1, y10⟩ := bloc1 w hb1 (by first | omega | (simp; done) | (simp; omega)); clear hb1)))
      go_wp2
      have c0 : w1.cell? ⟨w.heap.size, 0, none⟩ = some (.int .i64 a) := by rw [hc1 _ _ (by omega)]; simp
      have c1 : w1.cell? ⟨w.heap.size, 1, none⟩ = some (.int .i64 b) := by rw [hc1 _ _ (by omega)]; simp
      have hb0 := b1
      clear hc1 hf1 y10
      refine wp_region_still_tail 13 (by kernel_rfl) (by kernel_rfl) ?_
      simp only [List.take_succ_cons, List.take_zero, List.drop_succ_cons, List.drop_zero]
      have hb' : Below w.heap.size w w1.drew := below_drew hb0
      have sz := hb0.size
      repeat still_step
      still_call (flipC (unless_any _ _ _))
      repeat still_step
      still_call (flipC (within_beam _ _ _ _))
      rw [HW.out]
      repeat still_step
      still_call (flipC (unless_any _ _ _))
      repeat still_step
      refine wpStill_nil ?_
      go_wp2_with (go_at_call 93; go_must (refine (first2d _ _ _ _ rfl).mono ?_; rintro e w' ⟨rfl, rfl⟩; simp only []))
      go_ret
      exact ⟨by rw [HM.out]; first | rfl | simp, by go_grown⟩
    · rw [hw] at HM
      have HW := hide hw; clear hw
      have HB := hide (Below.refl w.heap.size w)
      go_enter Try.func140, Try.ntmps140
      go_wp2
      go_region_held3 (fun w' => w'.cell? ⟨w.heap.size, 0, none⟩ = some (.int .i64 a) ∧ w'.cell? ⟨w.heap.size, 1, none⟩ = some (.int .i64 b)) (first | (simp [go_sem]; done) | (simp [go_sem, *]; done) | go_keep)
        (first
          | (go_at_call 128; go_must (refine (HLO.out _).mono ?_; rintro e w1 ⟨rfl, hb1⟩; have b1 : Below w.heap.size w w1 := Below.step (by go_grown) hb1; obtain ⟨hc1, hf1, y10⟩ := bloc1 w hb1 (by first | omega | (simp; done) | (simp; omega)); clear hb1)))
      go_wp2
      have c0 : w1.cell? ⟨w.heap.size, 0, none⟩ = some (.int .i64 a) := by rw [hc1 _ _ (by omega)]; simp
      have c1 : w1.cell? ⟨w.heap.size, 1, none⟩ = some (.int .i64 b) := by rw [hc1 _ _ (by omega)]; simp
      have hb0 := b1
      clear hc1 hf1 y10
      refine wp_region_still_tail 13 (by kernel_rfl) (by kernel_rfl) ?_
      simp only [List.take_succ_cons, List.take_zero, List.drop_succ_cons, List.drop_zero]
      have hb' : Below w.heap.size w w1.drew := below_drew hb0
      have sz := hb0.size
      repeat still_step
      still_call (flipC (unless_any _ _ _))
      repeat still_step
      still_call (flipC (within_beam _ _ _ _))
      rw [HW.out]
      repeat still_step
      still_call (flipC (unless_any _ _ _))
      repeat still_step
      refine wpStill_nil ?_
      go_wp2_with (go_at_call 93; go_must (refine (first2d _ _ _ _ rfl).mono ?_; rintro e w' ⟨rfl, rfl⟩; simp only []))
      go_ret
      exact ⟨by rw [HM.out]; first | rfl | simp, by go_grown⟩
  · have hlb : lowB a b = false := by unfold lowB; rw [decide_eq_false hb]; rfl
    have hd : decide (0 < b) = false := decide_eq_false hb
    rw [hlb] at HM
    clear hlb
    cases hw : withinB a 0 b
    · rw [hw] at HM
      have HW := hide hw; clear hw
      go_enter Try.func140, Try.ntmps140
      go_wp2
      go_quiet (fail)
      go_wp2
      generalize hW0 : World.drewN _ _ = W0
      have c0 : W0.cell? ⟨w.heap.size, 0, none⟩ = some (.int .i64 a) := by rw [← hW0]; simp
      have c1 : W0.cell? ⟨w.heap.size, 1, none⟩ = some (.int .i64 b) := by rw [← hW0]; simp
      have hb0 : Below w.heap.size w W0 := by rw [← hW0]; exact below_drewN ((Below.refl _ _).alloc (Nat.le_refl _) _) _
      clear hW0
      refine wp_region_still_tail 13 (by kernel_rfl) (by kernel_rfl) ?_
      simp only [List.take_succ_cons, List.take_zero, List.drop_succ_cons, List.drop_zero]
      have hb' : Below w.heap.size w W0.drew := below_drew hb0
      have sz := hb0.size
      repeat still_step
      still_call (flipC (unless_any _ _ _))
      repeat still_step
      still_call (flipC (within_beam _ _ _ _))
      rw [HW.out]
      repeat still_step
      still_call (flipC (unless_any _ _ _))
      repeat still_step
      refine wpStill_nil ?_
      go_wp2_with (go_at_call 93; go_must (refine (first2d _ _ _ _ rfl).mono ?_; rintro e w' ⟨rfl, rfl⟩; simp only []))
      go_ret
      exact ⟨by rw [HM.out]; first | rfl | simp, by go_grown⟩
    · rw [hw] at HM
      have HW := hide hw; clear hw
      go_enter Try.func140, Try.ntmps140
      go_wp2
      go_quiet (fail)
      go_wp2
      generalize hW0 : World.drewN _ _ = W0
      have c0 : W0.cell? ⟨w.heap.size, 0, none⟩ = some (.int .i64 a) := by rw [← hW0]; simp
      have c1 : W0.cell? ⟨w.heap.size, 1, none⟩ = some (.int .i64 b) := by rw [← hW0]; simp
      have hb0 : Below w.heap.size w W0 := by rw [← hW0]; exact below_drewN ((Below.refl _ _).alloc (Nat.le_refl _) _) _
      clear hW0
      refine wp_region_still_tail 13 (by kernel_rfl) (by kernel_rfl) ?_
      simp only [List.take_succ_cons, List.take_zero, List.drop_succ_cons, List.drop_zero]
      have hb' : Below w.heap.size w W0.drew := below_drew hb0
      have sz := hb0.size
      repeat still_step
      still_call (flipC (unless_any _ _ _))
      repeat still_step
      still_call (flipC (within_beam _ _ _ _))
      rw [HW.out]
      repeat still_step
      still_call (flipC (unless_any _ _ _))
      repeat still_step
      refine wpStill_nil ?_
      go_wp2_with (go_at_call 93; go_must (refine (first2d _ _ _ _ rfl).mono ?_; rintro e w' ⟨rfl, rfl⟩; simp only []))
      go_ret
      exact ⟨by rw [HM.out]; first | rfl | simp, by go_grown⟩
end Go.Proofs.Ytamkannjdbodpaa
