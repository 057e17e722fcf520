import Derived.Test.YtamkannjdbodpaaEqs
namespace Go.Proofs.Ytamkannjdbodpaa
open Go.RowKit Go.WideShapes Go.ChangeShapes

/-- the directions below k in which the response is 0 -/
def nullsL (l : List Int) : Nat → List Int
  | 0 => []
  | k + 1 => if resp l k = ⟨0, 0, 0, 0⟩ then nullsL l k ++ [(k : Int)] else nullsL l k
theorem nullsL_len (l : List Int) : ∀ k, (nullsL l k).length ≤ k
  | 0 => Nat.le_refl _
  | k + 1 => by have := nullsL_len l k; rw [nullsL]; split <;> simp <;> omega

set_option maxRecDepth 100000 in
set_option maxHeartbeats 2000000 in
theorem nulls_ref (A : Option Addr) (c : Nat) (l : List Int) (w : World) (hs : Sl w A (iv l)) (hl : l.length ≤ 100) (hok : OnOk l) :
    Calls Try.prog 48 #[.agg #[.slice A l.length c]] w (RetI w (nullsL l 8)) := by
  obtain ⟨i0, hi0, hz0, hz1, hz2⟩ := info_parts int_info
  have HS := hide hs; clear hs
  have HOK := hide hok; clear hok
  have hblk0 : Blk (w.alloc (.cells #[.slice A l.length c] 24)) w.heap.size 24 #[.slice A l.length c] := Blk.new w _ _
  go_enter Try.func48, Try.ntmps48
  go_wp2
  go_loopw [3, 4] (fun o i wr => ∃ (k : Nat) (A' : Option Addr) (c' : Nat), k ≤ 8 ∧ i = .int .i64 k ∧ o = .slice A' (nullsL l k).length c' ∧ wr.ownsRow w.heap.size 3 1 (.slice A' (nullsL l k).length c') (nullsL l k).length (iv (nullsL l k)) ∧ Blk wr w.heap.size 24 #[.slice A l.length c] ∧ Below w.heap.size w wr) (fun _ i _ => 8 - (intOf i).toNat)
  case atStart => exact ⟨0, none, 0, by omega, rfl, rfl, ⟨by simp [iv, nullsL], .inl ⟨rfl, by simp [nullsL]⟩⟩, hblk0, by go_grown⟩
  case round =>
    obtain ⟨k, A', c', hk, rfl, rfl, hrow, hb0, hbel⟩ := hrel
    have d0 : wr.cell? ⟨w.heap.size, 0, none⟩ = some (.slice A l.length c) := hb0.cell 0
    have yl := hb0.lt
    have hlen := nullsL_len l k
    by_cases hlt : k < 8
    · by_cases hz : resp l (k : Int) = ⟨0, 0, 0, 0⟩
      · have hst : nullsL l (k + 1) = nullsL l k ++ [(k : Int)] := by rw [nullsL, if_pos hz]
        have HST := hide hst; clear hst
        have hq : ∀ w, (binOp .eql 73 (.agg (resp l (k : Int)).cells) (.agg #[.int .i64 0, .int .i64 0, .int .i64 0, .int .i64 0])).run Try.prog w = .ok (.bool true) w := fun w => (num_is (resp l k) ⟨0, 0, 0, 0⟩ w).trans (by rw [decide_eq_true hz])
        have HZ := hide hz; clear hz
        go_wp2_with (first
          | (go_at_call 49; go_must (refine (responseOf_ref A c l k _ (HS.out.bel (by go_grown)) hl HOK.out (by omega) (by omega)).mono ?_; rintro e w1 ⟨rfl, hb1⟩; have b1 : Below w.heap.size w w1 := Below.step (by go_grown) hb1; have hrow1 := own_bel hrow hb1; have hb01 := hb0.below hb1 yl; clear hb1; simp only []))
          | (at_builtin; go_must (
               refine wpList_append_own _ rfl _ _ 22 rfl w.heap.size 3 i0 (.int .i64 0) 1 8 Try.underlying22 hi0 hz0 hz1 hz2 rfl (by decide) _ _ _ rfl (hrow1.alloc _) ⟨w1.heap.size, 0, none⟩ 1 1 [.int .i64 k] rfl rfl (cell_one_new _ _ _) (by simp [Value.oneCell']) (by simp only [maxLen]; omega) (by omega) (by have := b1.size; simp; omega) ?_
               intro v' w2 hown' hgrow _
               obtain ⟨g', cap', rfl⟩ := ownsRow_succ hown'
               have hbel' := Below.app b1 hrow1 hgrow
               have hblk' := Blk.app hb01 hrow1 hgrow (by decide))))
        go_roundw
        case rel => exact ⟨k + 1, _, _, by omega, by go_num, by rw [HST.out, List.length_append]; rfl, by rw [HST.out, iv_append, List.length_append]; exact hown', hblk', hbel'⟩
        case measure => simp [intOf]; omega
      · have hst : nullsL l (k + 1) = nullsL l k := by rw [nullsL, if_neg hz]
        have HST := hide hst; clear hst
        have hq : ∀ w, (binOp .eql 73 (.agg (resp l (k : Int)).cells) (.agg #[.int .i64 0, .int .i64 0, .int .i64 0, .int .i64 0])).run Try.prog w = .ok (.bool false) w := fun w => (num_is (resp l k) ⟨0, 0, 0, 0⟩ w).trans (by rw [decide_eq_false hz])
        clear hz
        go_wp2_with (first
          | (go_at_call 49; go_must (refine (responseOf_ref A c l k _ (HS.out.bel (by go_grown)) hl HOK.out (by omega) (by omega)).mono ?_; rintro e w1 ⟨rfl, hb1⟩; have b1 : Below w.heap.size w w1 := Below.step (by go_grown) hb1; have hrow1 := own_bel hrow hb1; have hb01 := hb0.below hb1 yl; clear hb1; simp only [])))
        go_roundw
        case rel => exact ⟨k + 1, _, _, by omega, by go_num, by rw [HST.out], by rw [HST.out]; exact hrow1, hb01, b1⟩
        case measure => simp [intOf]; omega
    · obtain rfl : k = 8 := by omega
      go_wp2
      go_ret
      exact ⟨A', c', rfl, hrow, hbel⟩

set_option maxRecDepth 100000 in
set_option maxHeartbeats 2000000 in
theorem nulls_beam (A : Option Addr) (c : Nat) (l : List Int) (w : World) (hs : Sl w A (iv l)) (hl : l.length ≤ 100) (h : (chk l).2 = 0) :
    Calls Try.prog 47 #[.agg #[.slice A l.length c]] w fun e w' => ∃ A' c', e = .returned (.tuple #[.slice A' (nullsL l 8).length c', .int .i64 0]) ∧ OwnI w' w.heap.size (.slice A' (nullsL l 8).length c') (nullsL l 8) ∧ Below w.heap.size w w' := by
  obtain ⟨i0, hi0, hz0, hz1, hz2⟩ := info_parts int_info
  have HS := hide hs; clear hs
  obtain ⟨_, hl8, hok, _⟩ := chk_ok l h
  have HOK := hide hok; clear hok
  have hg : ((chk l).2 != 0) = false := by simp [h]
  clear h
  have hblk0 : Blk (w.alloc (.cells #[.slice A l.length c] 24)) w.heap.size 24 #[.slice A l.length c] := Blk.new w _ _
  go_enter Try.func47, Try.ntmps47
  go_wp2_with (go_at_call 104; go_must (refine (beamErr_beam A c l _ (HS.out.bel (by go_grown)) (by omega)).mono ?_; rintro e w9 ⟨rfl, hb9⟩; have b9 : Below w.heap.size w w9 := Below.step (by go_grown) hb9; have hblk9 := hblk0.below hb9 (by first | omega | (simp; done) | (simp; omega)); clear hb9; simp only []))
  go_loopw [5, 12] (fun o i wr => ∃ (k : Nat) (A' : Option Addr) (c' : Nat), k ≤ 8 ∧ i = .int .i64 k ∧ o = .slice A' (nullsL l k).length c' ∧ wr.ownsRow w.heap.size 3 1 (.slice A' (nullsL l k).length c') (nullsL l k).length (iv (nullsL l k)) ∧ Blk wr w.heap.size 24 #[.slice A l.length c] ∧ Below w.heap.size w wr) (fun _ i _ => 8 - (intOf i).toNat)
  case atStart => exact ⟨0, none, 0, by omega, rfl, rfl, ⟨by simp [iv, nullsL], .inl ⟨rfl, by simp [nullsL]⟩⟩, hblk9, by go_grown⟩
  case round =>
    obtain ⟨k, A', c', hk, rfl, rfl, hrow, hb0, hbel⟩ := hrel
    have d0 : wr.cell? ⟨w.heap.size, 0, none⟩ = some (.slice A l.length c) := hb0.cell 0
    have yl := hb0.lt
    have hlen := nullsL_len l k
    by_cases hlt : k < 8
    · by_cases hz : resp l (k : Int) = ⟨0, 0, 0, 0⟩
      · have hst : nullsL l (k + 1) = nullsL l k ++ [(k : Int)] := by rw [nullsL, if_pos hz]
        have HST := hide hst; clear hst
        have hq : ∀ w, (binOp .eql 140 (.agg (resp l (k : Int)).cells) (.agg #[.int .i64 0, .int .i64 0, .int .i64 0, .int .i64 0])).run Try.prog w = .ok (.bool true) w := fun w => (sum_is (resp l k) ⟨0, 0, 0, 0⟩ w).trans (by rw [decide_eq_true hz])
        have HZ := hide hz; clear hz
        go_wp2_with (first
          | (go_at_call 105; go_must (refine (response_beam A c l k _ (HS.out.bel (by go_grown)) (by omega) HOK.out (by omega) (by omega)).mono ?_; rintro e w1 ⟨rfl, hb1⟩; have b1 : Below w.heap.size w w1 := Below.step (by go_grown) hb1; have hrow1 := own_bel hrow hb1; have hb01 := hb0.below hb1 yl; clear hb1; simp only []))
          | (at_builtin; go_must (
               refine wpList_append_own _ rfl _ _ 22 rfl w.heap.size 3 i0 (.int .i64 0) 1 8 Try.underlying22 hi0 hz0 hz1 hz2 rfl (by decide) _ _ _ rfl (hrow1.alloc _) ⟨w1.heap.size, 0, none⟩ 1 1 [.int .i64 k] rfl rfl (cell_one_new _ _ _) (by simp [Value.oneCell']) (by simp only [maxLen]; omega) (by omega) (by have := b1.size; simp; omega) ?_
               intro v' w2 hown' hgrow _
               obtain ⟨g', cap', rfl⟩ := ownsRow_succ hown'
               have hbel' := Below.app b1 hrow1 hgrow
               have hblk' := Blk.app hb01 hrow1 hgrow (by decide))))
        go_roundw
        case rel => exact ⟨k + 1, _, _, by omega, by go_num, by rw [HST.out, List.length_append]; rfl, by rw [HST.out, iv_append, List.length_append]; exact hown', hblk', hbel'⟩
        case measure => simp [intOf]; omega
      · have hst : nullsL l (k + 1) = nullsL l k := by rw [nullsL, if_neg hz]
        have HST := hide hst; clear hst
        have hq : ∀ w, (binOp .eql 140 (.agg (resp l (k : Int)).cells) (.agg #[.int .i64 0, .int .i64 0, .int .i64 0, .int .i64 0])).run Try.prog w = .ok (.bool false) w := fun w => (sum_is (resp l k) ⟨0, 0, 0, 0⟩ w).trans (by rw [decide_eq_false hz])
        clear hz
        go_wp2_with (first
          | (go_at_call 105; go_must (refine (response_beam A c l k _ (HS.out.bel (by go_grown)) (by omega) HOK.out (by omega) (by omega)).mono ?_; rintro e w1 ⟨rfl, hb1⟩; have b1 : Below w.heap.size w w1 := Below.step (by go_grown) hb1; have hrow1 := own_bel hrow hb1; have hb01 := hb0.below hb1 yl; clear hb1; simp only [])))
        go_roundw
        case rel => exact ⟨k + 1, _, _, by omega, by go_num, by rw [HST.out], by rw [HST.out]; exact hrow1, hb01, b1⟩
        case measure => simp [intOf]; omega
    · obtain rfl : k = 8 := by omega
      go_wp2
      go_ret2
      exact ⟨A', c', rfl, hrow, hbel⟩

theorem nulls_bad (A : Option Addr) (c : Nat) (l : List Int) (w : World) (hs : Sl w A (iv l)) (hl : l.length ≤ 1000000) (h : (chk l).2 ≠ 0) :
    Calls Try.prog 47 #[.agg #[.slice A l.length c]] w fun e w' => e = .returned (.tuple #[.slice none 0 0, .int .i64 (chk l).2]) ∧ Below w.heap.size w w' := by
  have HS := hide hs; clear hs
  have hg : ((chk l).2 != 0) = true := by simp [h]
  clear h
  go_enter Try.func47, Try.ntmps47
  go_wp2_with (go_at_call 104; go_must (refine (beamErr_beam A c l _ (HS.out.bel (by go_grown)) hl).mono ?_; rintro e w9 ⟨rfl, hb9⟩; have b9 : Below w.heap.size w w9 := Below.step (by go_grown) hb9; clear hb9; simp only []))
  go_ret2
  exact ⟨rfl, by go_grown⟩
end Go.Proofs.Ytamkannjdbodpaa
