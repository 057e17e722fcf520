import Derived.Test.YtamkannjdbodpaaBeamF
import Derived.Deep.RegionLaw
namespace Go.Proofs.Ytamkannjdbodpaa
open Go.RowKit Go.WideShapes Go.ChangeShapes

theorem steerAt_mod (step : Int) (i : Nat) : -((i : Int)) * step % 8 = steerAt step 1 i := by
  unfold steerAt
  rw [if_pos (Int.emod_one _), Int.neg_mul]
  omega

set_option maxRecDepth 100000 in
set_option maxHeartbeats 1000000 in
theorem steering_ref (n : Nat) (step : Int) (w : World) (hn : n ≤ 1000) (h0 : 0 ≤ step) (h1 : step ≤ 1000) :
    Calls Try.prog 27 #[.int .i64 n, .int .i64 step] w fun e w' => ∃ A c, e = .returned (.agg #[.slice A n c]) ∧ OwnI w' w.heap.size (.slice A n c) (steerL step 1 n) ∧ Below w.heap.size w w' := by
  obtain ⟨i0, hi0, hz0, hz1, hz2⟩ := info_parts int_info
  go_enter Try.func27, Try.ntmps27
  go_wp2
  go_loopw [6] (fun i wr => ∃ (k : Nat) (A : Option Addr) (c : Nat), k ≤ n ∧ i = .int .i64 k ∧ Blk wr w.heap.size 24 #[.slice none 0 0] ∧ Blk wr (w.heap.size + 1) 24 #[.slice A k c] ∧ wr.ownsRow w.heap.size 3 1 (.slice A k c) k (iv (steerL step 1 k)) ∧ Below w.heap.size w wr) (fun i _ => n - (intOf i).toNat)
  case atStart =>
    refine ⟨0, none, 0, Nat.zero_le _, rfl, (Blk.new w _ _).alloc _, ?_, by simpa [steerL, iv] using World.ownsRow_nil _ _ _ _, by go_grown⟩
    have h := Blk.new (w.alloc (.cells #[.slice none 0 0] 24)) 24 #[.slice none 0 0]
    rw [World.size_alloc] at h
    exact h
  case round =>
    obtain ⟨k, A, c, hk, rfl, hb0, hb1, hown, hbel⟩ := hrel
    have c1 : wr.cell? ⟨w.heap.size + 1, 0, none⟩ = some (.slice A k c) := hb1.cell 0
    have f1 := hb1.frozen 0
    have y1 := hb1.lt
    have y0 := hb0.lt
    by_cases hlt : k < n
    · have m0 : 0 ≤ (k : Int) * step := Int.mul_nonneg (by omega) h0
      have m1 : -1000000 ≤ -(k : Int) * step := by
        have := Int.mul_le_mul (a := (k : Int)) (b := step) (c := 1000) (d := 1000) (by omega) h1 h0 (by omega)
        rw [Int.neg_mul]; omega
      have m2 : -(k : Int) * step ≤ 0 := by rw [Int.neg_mul]; omega
      have HS := hide (steerAt_mod step k)
      obtain ⟨q, hq⟩ : ∃ q, -(k : Int) * step % 8 = q := ⟨_, rfl⟩
      have HQ := hide hq; clear hq
      have e1 : IntKind.i64.wrap (-(k : Int)) = -(k : Int) := IntWalk.i64_in _ (by omega)
      have e2 : IntKind.i64.wrap (-(k : Int) * step) = -(k : Int) * step := IntWalk.i64_in _ (by omega)
      go_wp2
      go_region_law
        (first
          | (go_simp; go_at_call 103; refine (mod_base _ _ (by omega) (by omega) (by omega) (by omega) _).mono ?_; rintro e w' ⟨rfl, rfl⟩; rw [HQ.out])
          | (refine step_append_lies _ (by rfl) _ _ _ (by rfl) w.heap.size 3 i0 _ 1 8 Try.underlying22 hi0 hz0 hz1 hz2 rfl (by omega) _ k _ (by rfl) ((hown.alloc _).drew) ⟨wr.heap.size, 0, none⟩ 1 1 [.int .i64 q] (by rfl) (by rfl) (World.news_of_block (cs := #[.int .i64 q]) (t := 3) (fr := (0, 0)) (heap_alloc_new wr _)) (by simp [Value.oneCell'])
              (by omega) (by simp only [maxLen]; omega) (by omega) (by simp; omega) (wr.heap.size + 1) (by simp) ?_; intro gg cap w1 hown1 hgrow hat hlt1
             have hb1' := hb1.app hown (grown_drew hgrow) (by decide)
             have hb0' := hb0.app hown (grown_drew hgrow) (by decide)
             have hbel' := Below.app hbel hown (grown_drew hgrow)
             have c1' : w1.cell? ⟨w.heap.size + 1, 0, none⟩ = some (.slice A k c) := hb1'.cell 0
             have f1' := hb1'.frozen 0))
      all_goals
        go_wp2
        go_roundw
        case rel => exact ⟨k + 1, _, _, by omega, by go_num, hb0'.far (by simp) _, hb1'.set_ 0 _, own_far (by rw [steerL_succ, iv_append, ← HS.out, HQ.out]; exact hown1) hb1' (by decide), hbel'.setCell (by simp) _⟩
        case measure => simp [intOf]; omega
    · have c0 : wr.cell? ⟨w.heap.size, 0, none⟩ = some (.slice none 0 0) := hb0.cell 0
      have f0 := hb0.frozen 0
      go_wp2
      obtain rfl : k = n := by omega
      have hb0' := hb0.set_ 0 (.slice A k c)
      have c0' : (wr.setCell ⟨w.heap.size, 0, none⟩ (.slice A k c)).cell? ⟨w.heap.size, 0, none⟩ = some (.slice A k c) := hb0'.cell 0
      refine bodyPost_ret (v := .agg #[.slice A k c]) (by simp [results, Try.results27, go_sem, c0']) rfl ⟨A, c, rfl, by rw [OwnI, steerL_len]; exact own_far hown hb0 (by decide), hbel.setCell (by simp) _⟩

theorem stepErr_ref (n : Int) (w : World) : Calls Try.prog 25 #[.int .i64 n] w fun x w' => x = .returned (.int .i64 (unlessE (withinB n 0 7) 2)) ∧ w = w' := by
  cases h : withinB n 0 7
  · have H := hide h; clear h
    go_enter Try.func25, Try.ntmps25
    go_wp2_with (go_at_call 24; refine (within_base _ _ _ _).mono ?_; rintro e w' ⟨rfl, rfl⟩; rw [H.out])
    go_ret
    exact ⟨rfl, rfl⟩
  · have H := hide h; clear h
    go_enter Try.func25, Try.ntmps25
    go_wp2_with (go_at_call 24; refine (within_base _ _ _ _).mono ?_; rintro e w' ⟨rfl, rfl⟩; rw [H.out])
    go_ret
    exact ⟨rfl, rfl⟩

/-- the error of Steering -/
def steE (n step : Int) : Int := firstOf [unlessE (withinB n 1 8) 2, unlessE (withinB step 0 7) 2]
theorem steE_ok {n step : Int} (h : steE n step = 0) : 1 ≤ n ∧ n ≤ 8 ∧ 0 ≤ step ∧ step ≤ 7 := by
  unfold steE firstOf unlessE firstOf at h
  cases h1 : withinB n 1 8 <;> cases h2 : withinB step 0 7 <;> simp [h1, h2] at h
  simp [withinB] at h1 h2
  omega
theorem steE_bad {n step : Int} (h : steE n step ≠ 0) : steE n step = 2 := by
  unfold steE firstOf unlessE firstOf at *
  cases h1 : withinB n 1 8 <;> cases h2 : withinB step 0 7 <;> simp [h1, h2, firstOf] at h ⊢

set_option maxHeartbeats 1000000 in
theorem Steering_ok (n step : Int) (w : World) (h : steE n step = 0) :
    Calls Try.prog 22 #[.int .i64 n, .int .i64 step] w fun e w' => ∃ A c, e = .returned (.tuple #[.agg #[.slice A n.toNat c], .int .i64 0]) ∧ OwnI w' w.heap.size (.slice A n.toNat c) (steerL step 1 n.toNat) ∧ Below w.heap.size w w' := by
  obtain ⟨a1, a2, a3, a4⟩ := steE_ok h
  obtain ⟨n, rfl⟩ := Int.eq_ofNat_of_zero_le (by omega : 0 ≤ n)
  rw [Int.toNat_natCast]
  have hg : (firstOf [unlessE (withinB (n : Int) 1 8) 2, unlessE (withinB step 0 7) 2] != 0) = false := by rw [bne_eq_false_iff_eq]; exact h
  clear h
  go_enter Try.func22, Try.ntmps22
  go_wp2_with (first
    | (go_at_call 100; refine (within_beam _ _ _ _).mono ?_; rintro e w' ⟨rfl, rfl⟩)
    | (go_at_call 94; refine (unless_any _ _ _).mono ?_; rintro e w' ⟨rfl, rfl⟩)
    | (go_at_call 101; refine (stepErr_beam _ _).mono ?_; rintro e w' ⟨rfl, rfl⟩)
    | (go_at_call 93; refine (first2 _ _ _ _ (by simp)).mono ?_; rintro e w' ⟨rfl, rfl⟩)
    | (go_at_call 102; refine (steering_beam n step 1 _ (by omega) (by omega) (by omega) (by omega) (by omega)).mono ?_; rintro e w1 ⟨A, c, rfl, hown, hb1⟩; have b1 : Below w.heap.size w w1 := Below.step (by go_grown) hb1; obtain ⟨hc1, hf1, y10⟩ := bloc1 w hb1 (by first | omega | (simp; done) | (simp; omega))))
  have hblk : Blk w1 w.heap.size 24 #[.slice none 0 0] := ((Blk.new w _ _).alloc _).below hb1 (by first | omega | (simp; done) | (simp; omega))
  refine bodyPost_ret (v := .tuple #[.agg #[.slice A n c], .int .i64 0]) (by simp [results, Try.results22, go_sem, hc1]) rfl ⟨A, c, rfl, ?_, by go_grown⟩
  have ho := own_far (u := .slice A n c) (i := 0) hown hblk (by decide)
  exact ho.weaken (by first | omega | (simp; done) | (simp; omega))
theorem Steering_bad (n step : Int) (w : World) (h : steE n step ≠ 0) :
    Calls Try.prog 22 #[.int .i64 n, .int .i64 step] w fun e w' => e = .returned (.tuple #[.agg #[.slice none 0 0], .int .i64 2]) ∧ Below w.heap.size w w' := by
  have h2 := hide (steE_bad h)
  have hg : (firstOf [unlessE (withinB n 1 8) 2, unlessE (withinB step 0 7) 2] != 0) = true := by rw [bne_iff_ne]; exact h
  clear h
  go_enter Try.func22, Try.ntmps22
  go_wp2_with (first
    | (go_at_call 100; refine (within_beam _ _ _ _).mono ?_; rintro e w' ⟨rfl, rfl⟩)
    | (go_at_call 94; refine (unless_any _ _ _).mono ?_; rintro e w' ⟨rfl, rfl⟩)
    | (go_at_call 101; refine (stepErr_beam _ _).mono ?_; rintro e w' ⟨rfl, rfl⟩)
    | (go_at_call 93; refine (first2 _ _ _ _ (by simp)).mono ?_; rintro e w' ⟨rfl, rfl⟩))
  refine bodyPost_ret (v := .tuple #[.agg #[.slice none 0 0], .int .i64 2]) (by have := h2.out; unfold steE at this; simp [results, Try.results22, go_sem, this]) rfl ⟨rfl, by go_grown⟩
end Go.Proofs.Ytamkannjdbodpaa
