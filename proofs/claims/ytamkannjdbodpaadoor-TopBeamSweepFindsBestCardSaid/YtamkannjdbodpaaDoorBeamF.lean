import Derived.Test.YtamkannjdbodpaaDoorBeamE
import Derived.Test.YtamkannjdbodpaaDoorMem2
namespace Go.Proofs.YtamkannjdbodpaaDoor
open Go.RowKit Go.WideShapes Go.ChangeShapes

/-- the phase of antenna i -/
def steerAt (step every : Int) (i : Nat) : Int := if (i : Int) % every = 0 then -((i : Int) * step % 8) % 8 else -1
def steerL (step every : Int) (n : Nat) : List Int := (List.range n).map (steerAt step every)
theorem steerL_succ (step every : Int) (n : Nat) : steerL step every (n + 1) = steerL step every n ++ [steerAt step every n] := by simp [steerL, List.range_succ]
theorem steerL_len (step every : Int) (n : Nat) : (steerL step every n).length = n := by simp [steerL]

/-- an owned row of one more int, stored into a cell of the call's own -/
theorem own_slice {w : World} {base : Nat} {e : TypeId} {v : Value} {n : Nat} {xs : List Value} (h : w.ownsRow base e 1 v n xs) : ∃ A c, v = .slice A n c := own_form h

set_option maxHeartbeats 1000000 in
set_option maxRecDepth 100000 in
theorem steering_beam (n : Nat) (step every : Int) (w : World) (hn : n ≤ 1000) (h0 : 0 ≤ step) (h1 : step ≤ 1000) (h2 : 1 ≤ every) (h3 : every ≤ 1000) :
    Calls Tryd.prog 39 #[.int .i64 n, .int .i64 step, .int .i64 every] w fun e w' => ∃ A c, e = .returned (.agg #[.slice A n c]) ∧ OwnI w' w.heap.size (.slice A n c) (steerL step every n) ∧ Below w.heap.size w w' := by
  obtain ⟨i0, hi0, hz0, hz1, hz2⟩ := info_parts int_info
  go_enter Tryd.func39, Tryd.ntmps39
  go_wp2
  go_loopw [11] (fun i wr => ∃ (k : Nat) (A : Option Addr) (c : Nat), k ≤ n ∧ i = .int .i64 k ∧ Blk wr w.heap.size 24 #[.slice none 0 0] ∧ Blk wr (w.heap.size + 1) 24 #[.slice A k c] ∧ wr.ownsRow w.heap.size 3 1 (.slice A k c) k (iv (steerL step every k)) ∧ Below w.heap.size w wr) (fun i _ => n - (intOf i).toNat)
  case atStart =>
    refine ⟨0, none, 0, Nat.zero_le _, rfl, (Blk.new w _ _).alloc _, ?_, by simpa [steerL, iv] using World.ownsRow_nil _ _ _ _, by go_grown⟩
    have h := Blk.new (w.alloc (.cells #[.slice none 0 0] 24)) 24 #[.slice none 0 0]
    rw [World.size_alloc] at h
    exact h
  case round =>
    obtain ⟨k, A, c, hk, rfl, hb0, hb1, hown, hbel⟩ := hrel
    have c1 : wr.cell? ⟨w.heap.size + 1, 0, none⟩ = some (.slice A k c) := hb1.cell 0
    have f1 := hb1.frozen 0
    have y1 := hb1.lt
    have y0 := hb0.lt
    by_cases hlt : k < n
    · have m1 : 0 ≤ (k : Int) * step := Int.mul_nonneg (by omega) h0
      have m2 : (k : Int) * step ≤ 1000 * 1000 := Int.mul_le_mul (by omega) h1 h0 (by omega)
      have m3 : 0 ≤ 8 - (k : Int) * step % 8 := by omega
      by_cases hev : (k : Int) % every = 0
      · obtain ⟨q, q1, q2⟩ : ∃ q, (8 - (k : Int) * step % 8) % 8 = q ∧ -((k : Int) * step % 8) % 8 = q := ⟨_, rfl, by omega⟩
        have hs : steerAt step every k = q := (if_pos hev).trans q2
        have HS := hide hs; clear hs
        have hev' : ((k : Int) % every == 0) = true := by simp [hev]
        have HEV := hide hev; clear hev
        go_wp2_with (at_builtin; go_must (
                     refine wpList_append_own _ rfl _ _ 22 rfl w.heap.size 3 i0 (.int .i64 0) 1 8 Tryd.underlying22 hi0 hz0 hz1 hz2 rfl (by decide) _ _ _ rfl (hown.alloc _) ⟨wr.heap.size, 0, none⟩ 1 1 [.int .i64 q] rfl rfl (cell_one_new _ _ _) (by simp [Value.oneCell']) (by simp only [maxLen]; omega) (by omega) (by simp; omega) ?_
                     intro v' w1 hown' hgrow _
                     obtain ⟨g', cap', rfl⟩ := ownsRow_succ hown'
                     have hb1' := hb1.app hown hgrow (by decide)
                     have hb0' := hb0.app hown hgrow (by decide)
                     have hbel' := Below.app hbel hown hgrow
                     have c1' : w1.cell? ⟨w.heap.size + 1, 0, none⟩ = some (.slice A k c) := hb1'.cell 0
                     have f1' := hb1'.frozen 0))
        go_roundw
        case rel => exact ⟨k + 1, _, _, by omega, by go_num, hb0'.far (by simp) _, hb1'.set_ 0 _, own_far (by rw [steerL_succ, iv_append, HS.out]; exact hown') hb1' (by decide), hbel'.setCell (by simp) _⟩
        case measure => simp [intOf]; omega
      · have hs : steerAt step every k = -1 := if_neg hev
        have HS := hide hs; clear hs
        have hev' : ((k : Int) % every == 0) = false := by simp [hev]
        have HEV := hide hev; clear hev
        go_wp2_with (at_builtin; go_must (
                     refine wpList_append_own _ rfl _ _ 22 rfl w.heap.size 3 i0 (.int .i64 0) 1 8 Tryd.underlying22 hi0 hz0 hz1 hz2 rfl (by decide) _ _ _ rfl (hown.alloc _) ⟨wr.heap.size, 0, none⟩ 1 1 [.int .i64 (-1)] rfl rfl (cell_one_new _ _ _) (by simp [Value.oneCell']) (by simp only [maxLen]; omega) (by omega) (by simp; omega) ?_
                     intro v' w1 hown' hgrow _
                     obtain ⟨g', cap', rfl⟩ := ownsRow_succ hown'
                     have hb1' := hb1.app hown hgrow (by decide)
                     have hb0' := hb0.app hown hgrow (by decide)
                     have hbel' := Below.app hbel hown hgrow
                     have c1' : w1.cell? ⟨w.heap.size + 1, 0, none⟩ = some (.slice A k c) := hb1'.cell 0
                     have f1' := hb1'.frozen 0))
        go_roundw
        case rel => exact ⟨k + 1, _, _, by omega, by go_num, hb0'.far (by simp) _, hb1'.set_ 0 _, own_far (by rw [steerL_succ, iv_append, HS.out]; exact hown') hb1' (by decide), hbel'.setCell (by simp) _⟩
        case measure => simp [intOf]; omega
    · have c0 : wr.cell? ⟨w.heap.size, 0, none⟩ = some (.slice none 0 0) := hb0.cell 0
      have f0 := hb0.frozen 0
      go_wp2
      obtain rfl : k = n := by omega
      have hb0' := hb0.set_ 0 (.slice A k c)
      have c0' : (wr.setCell ⟨w.heap.size, 0, none⟩ (.slice A k c)).cell? ⟨w.heap.size, 0, none⟩ = some (.slice A k c) := hb0'.cell 0
      refine bodyPost_ret (v := .agg #[.slice A k c]) (by simp [results, Tryd.results39, go_sem, c0']) rfl ⟨A, c, rfl, by rw [OwnI, steerL_len]; exact own_far hown hb0 (by decide), hbel.setCell (by simp) _⟩
end Go.Proofs.YtamkannjdbodpaaDoor
