import Derived.Test.YtamkannjdbodpaaDoorBeamF
import Derived.Deep.RegionLaw
namespace Go.Proofs.YtamkannjdbodpaaDoor
open Go.RowKit Go.WideShapes Go.ChangeShapes

theorem steerAt_mod (step : Int) (i : Nat) : -((i : Int)) * step % 8 = steerAt step 1 i := by
  unfold steerAt
  rw [if_pos (Int.emod_one _), Int.neg_mul]
  omega

/-- the error of Steering -/
def steE (n step : Int) : Int := firstOf [unlessE (withinB n 1 8) 2, unlessE (withinB step 0 7) 2]
theorem steE_ok {n step : Int} (h : steE n step = 0) : 1 ≤ n ∧ n ≤ 8 ∧ 0 ≤ step ∧ step ≤ 7 := by
  unfold steE firstOf unlessE firstOf at h
  cases h1 : withinB n 1 8 <;> cases h2 : withinB step 0 7 <;> simp [h1, h2] at h
  simp [withinB] at h1 h2
  omega
theorem steE_bad {n step : Int} (h : steE n step ≠ 0) : steE n step = 2 := by
  unfold steE firstOf unlessE firstOf at *
  cases h1 : withinB n 1 8 <;> cases h2 : withinB step 0 7 <;> simp [h1, h2, firstOf] at h ⊢

set_option maxHeartbeats 1000000 in
theorem Steering_ok (n step : Int) (w : World) (h : steE n step = 0) :
    Calls Tryd.prog 17 #[.int .i64 n, .int .i64 step] w fun e w' => ∃ A c, e = .returned (.tuple #[.agg #[.slice A n.toNat c], .int .i64 0]) ∧ OwnI w' w.heap.size (.slice A n.toNat c) (steerL step 1 n.toNat) ∧ Below w.heap.size w w' := by
  obtain ⟨a1, a2, a3, a4⟩ := steE_ok h
  obtain ⟨n, rfl⟩ := Int.eq_ofNat_of_zero_le (by omega : 0 ≤ n)
  rw [Int.toNat_natCast]
  have hg : (firstOf [unlessE (withinB (n : Int) 1 8) 2, unlessE (withinB step 0 7) 2] != 0) = false := by rw [bne_eq_false_iff_eq]; exact h
  clear h
  go_enter Tryd.func17, Tryd.ntmps17
  go_wp2_with (first
    | (go_at_call 37; refine (within_beam _ _ _ _).mono ?_; rintro e w' ⟨rfl, rfl⟩)
    | (go_at_call 36; refine (unless_any _ _ _).mono ?_; rintro e w' ⟨rfl, rfl⟩)
    | (go_at_call 38; refine (stepErr_beam _ _).mono ?_; rintro e w' ⟨rfl, rfl⟩)
    | (go_at_call 35; refine (first2 _ _ _ _ (by simp)).mono ?_; rintro e w' ⟨rfl, rfl⟩)
    | (go_at_call 39; refine (steering_beam n step 1 _ (by omega) (by omega) (by omega) (by omega) (by omega)).mono ?_; rintro e w1 ⟨A, c, rfl, hown, hb1⟩; have b1 : Below w.heap.size w w1 := Below.step (by go_grown) hb1; obtain ⟨hc1, hf1, y10⟩ := bloc1 w hb1 (by first | omega | (simp; done) | (simp; omega))))
  have hblk : Blk w1 w.heap.size 24 #[.slice none 0 0] := ((Blk.new w _ _).alloc _).below hb1 (by first | omega | (simp; done) | (simp; omega))
  refine bodyPost_ret (v := .tuple #[.agg #[.slice A n c], .int .i64 0]) (by simp [results, Tryd.results17, go_sem, hc1]) rfl ⟨A, c, rfl, ?_, by go_grown⟩
  have ho := own_far (u := .slice A n c) (i := 0) hown hblk (by decide)
  exact ho.weaken (by first | omega | (simp; done) | (simp; omega))
theorem Steering_bad (n step : Int) (w : World) (h : steE n step ≠ 0) :
    Calls Tryd.prog 17 #[.int .i64 n, .int .i64 step] w fun e w' => e = .returned (.tuple #[.agg #[.slice none 0 0], .int .i64 2]) ∧ Below w.heap.size w w' := by
  have h2 := hide (steE_bad h)
  have hg : (firstOf [unlessE (withinB n 1 8) 2, unlessE (withinB step 0 7) 2] != 0) = true := by rw [bne_iff_ne]; exact h
  clear h
  go_enter Tryd.func17, Tryd.ntmps17
  go_wp2_with (first
    | (go_at_call 37; refine (within_beam _ _ _ _).mono ?_; rintro e w' ⟨rfl, rfl⟩)
    | (go_at_call 36; refine (unless_any _ _ _).mono ?_; rintro e w' ⟨rfl, rfl⟩)
    | (go_at_call 38; refine (stepErr_beam _ _).mono ?_; rintro e w' ⟨rfl, rfl⟩)
    | (go_at_call 35; refine (first2 _ _ _ _ (by simp)).mono ?_; rintro e w' ⟨rfl, rfl⟩))
  refine bodyPost_ret (v := .tuple #[.agg #[.slice none 0 0], .int .i64 2]) (by have := h2.out; unfold steE at this; simp [results, Tryd.results17, go_sem, this]) rfl ⟨rfl, by go_grown⟩
end Go.Proofs.YtamkannjdbodpaaDoor
