import Derived.Test.YtppkibgemacdbaaMgg
namespace Go.Proofs.Ytppkibgemacdbaa
open Go.RowKit Go.WideShapes Go.ChangeShapes

/-! fair at the example's demand -/
theorem bool_info : (Try.prog.info? 4).map (fun i => (i.zero, i.size, i.bytes)) = some (some (.bool false), 1, 1) := by kernel_rfl
theorem makeB3 (W : World) : (Instr.makeSlice 115 (.int .i64 3) (.int .i64 3)).run Try.prog W = .ok (.slice (some ⟨W.heap.size, 0, none⟩) 3 3) (W.alloc (.cells #[.bool false, .bool false, .bool false] 4)) := by
  obtain ⟨i0, hi0, hz0, hz1, hz2⟩ := info_parts bool_info
  have h := run_make_rowN (P := Try.prog) 115 4 i0 (.bool false) Try.underlying115 hi0 hz0 .i64 .i64 3 3 (Nat.le_refl _) (by rw [hz2]; omega) (by omega) W
  rw [hz1] at h
  have h2 : madeCells (Value.bool false).cells (3 * 1) = #[.bool false, .bool false, .bool false] := by kernel_rfl
  rw [h2] at h
  exact h
theorem setCell_same {W : World} {g i : Nat} {t : TypeId} {cs : Array Value} {v : Value} (h : Blk W g t cs) (hc : cs[i]? = some v) : W.setCell ⟨g, i, none⟩ v = W := by
  have hb := h.set_ i v
  have e1 : cs.setIfInBounds i v = cs := by
    apply Array.ext_getElem?
    intro j
    rw [Array.getElem?_setIfInBounds]
    split
    · next e => subst e; split
                · exact hc.symm
                · next hge => rw [Array.getElem?_eq_none (by omega)]
    · rfl
  rw [e1] at hb
  have e2 : (W.setCell ⟨g, i, none⟩ v).heap = W.heap := by
    apply Array.ext_getElem?
    intro j
    by_cases hj : j = g
    · subst hj; exact hb.trans h.symm
    · exact Below.heap_setCell W ⟨g, i, none⟩ v j hj
  have e3 : W.setCell ⟨g, i, none⟩ v = { W with heap := (W.setCell ⟨g, i, none⟩ v).heap } := rfl
  rw [e3, e2]
def FairR (w : World) (e : Ending) (w' : World) : Prop := ∃ G c, e = .returned (.agg #[.int .i64 3, .slice (some ⟨G, 0, none⟩) 3 c]) ∧ w'.cell? ⟨G, 0, none⟩ = some (.int .i64 6) ∧ w'.cell? ⟨G, 1, none⟩ = some (.int .i64 8) ∧ w'.cell? ⟨G, 2, none⟩ = some (.int .i64 16) ∧ Below w.heap.size w w'
set_option maxRecDepth 100000 in
set_option maxHeartbeats 8000000 in
theorem fair_ex (p q : Nat) (w : World) (hp : Blk w p 3 #[.int .i64 2, .int .i64 10, .int .i64 10]) (hq : Blk w q 3 #[.int .i64 1, .int .i64 1, .int .i64 2]) :
    Calls Try.prog 44 #[.agg #[.int .i64 10, .slice (some ⟨p, 0, none⟩) 3 3, .slice (some ⟨q, 0, none⟩) 3 3]] w (FairR w) := by
  have HT := hide ((((stay_blk (Blk.new w 69 #[.int .i64 10, .slice (some ⟨p, 0, none⟩) 3 3, .slice (some ⟨q, 0, none⟩) 3 3])).alloc (.cells #[.int .i64 0, .slice none 0 0] 65)).and ((stay_blk (blk_up w 69 65 #[.int .i64 10, .slice (some ⟨p, 0, none⟩) 3 3, .slice (some ⟨q, 0, none⟩) 3 3] #[.int .i64 0, .slice none 0 0]))) |>.and (((stay_blk hp).alloc (.cells #[.int .i64 10, .slice (some ⟨p, 0, none⟩) 3 3, .slice (some ⟨q, 0, none⟩) 3 3] 69)).alloc (.cells #[.int .i64 0, .slice none 0 0] 65)) |>.and (((stay_blk hq).alloc (.cells #[.int .i64 10, .slice (some ⟨p, 0, none⟩) 3 3, .slice (some ⟨q, 0, none⟩) 3 3] 69)).alloc (.cells #[.int .i64 0, .slice none 0 0] 65))) |>.and (stay_below (((Below.refl _ w).alloc (Nat.le_refl _) (.cells #[.int .i64 10, .slice (some ⟨p, 0, none⟩) 3 3, .slice (some ⟨q, 0, none⟩) 3 3] 69)).alloc (by simp) (.cells #[.int .i64 0, .slice none 0 0] 65))))
  clear hp hq
  have hmk := makeB3
  obtain ⟨i0, hi0, hz0, hz1, hz2⟩ := info_parts int_info
  have hw8 : IntKind.i64.wrap 8 = 8 := by decide
  have hw3 : IntKind.i64.wrap 3 = 3 := by decide
  go_enter Try.func44, Try.ntmps44
  obtain ⟨W0, hW0⟩ : ∃ W0, (w.alloc (.cells #[.int .i64 10, .slice (some ⟨p, 0, none⟩) 3 3, .slice (some ⟨q, 0, none⟩) 3 3] 69)).alloc (.cells #[.int .i64 0, .slice none 0 0] 65) = W0 := ⟨_, rfl⟩
  rw [hW0] at HT
  have q0 : W0.cell? ⟨w.heap.size, 0, none⟩ = some (.int .i64 10) := HT.out.now.1.1.1.1.cell 0
  have q1 : W0.cell? ⟨w.heap.size, 1, none⟩ = some (.slice (some ⟨p, 0, none⟩) 3 3) := HT.out.now.1.1.1.1.cell 1
  have q2 : W0.cell? ⟨w.heap.size, 2, none⟩ = some (.slice (some ⟨q, 0, none⟩) 3 3) := HT.out.now.1.1.1.1.cell 2
  have p0 : W0.cell? ⟨p, 0, none⟩ = some (.int .i64 2) := HT.out.now.1.1.2.cell 0
  have p1 : W0.cell? ⟨p, 1, none⟩ = some (.int .i64 10) := HT.out.now.1.1.2.cell 1
  have p2 : W0.cell? ⟨p, 2, none⟩ = some (.int .i64 10) := HT.out.now.1.1.2.cell 2
  have w0 : W0.cell? ⟨q, 0, none⟩ = some (.int .i64 1) := HT.out.now.1.2.cell 0
  have w1 : W0.cell? ⟨q, 1, none⟩ = some (.int .i64 1) := HT.out.now.1.2.cell 1
  have w2 : W0.cell? ⟨q, 2, none⟩ = some (.int .i64 2) := HT.out.now.1.2.cell 2
  go_wp2_with fail
  clear hW0
  refine wp_loop_rounds 4 ?_
  rw [rounds_succ]
  go_wp2_with fail
  rw [rounds_succ]
  go_wp2_with fail
  rw [rounds_succ]
  go_wp2_with fail
  rw [rounds_succ]
  go_wp2_with fail
  clear hmk q0 q1 q2 p0 p1 p2 w0 w1 w2
  obtain ⟨Cb, hCb⟩ : ∃ Cb, W0.heap.size = Cb := ⟨_, rfl⟩
  have hCw : w.heap.size + 1 < Cb := by have := HT.out.now.1.1.1.2.lt; omega
  obtain ⟨W1, hW1⟩ : ∃ W1, W0.alloc (.cells #[.bool false, .bool false, .bool false] 4) = W1 := ⟨_, rfl⟩
  have HC : Hid (Blk W1 Cb 4 #[.bool false, .bool false, .bool false]) := hide (by rw [← hW1]; exact Blk.newN W0 _ _ hCb)
  have HB1 : Hid (Below W0.heap.size W0 W1) := hide (by rw [← hW1]; exact (Below.refl _ _).alloc (Nat.le_refl _) _)
  rw [hW1, hCb]
  rw [hCb] at HB1
  clear hW1
  have q0 : W1.cell? ⟨w.heap.size, 0, none⟩ = some (.int .i64 10) := (HT.out _ (hCb ▸ HB1.out)).1.1.1.1.cell 0
  have q1 : W1.cell? ⟨w.heap.size, 1, none⟩ = some (.slice (some ⟨p, 0, none⟩) 3 3) := (HT.out _ (hCb ▸ HB1.out)).1.1.1.1.cell 1
  have q2 : W1.cell? ⟨w.heap.size, 2, none⟩ = some (.slice (some ⟨q, 0, none⟩) 3 3) := (HT.out _ (hCb ▸ HB1.out)).1.1.1.1.cell 2
  have p0 : W1.cell? ⟨p, 0, none⟩ = some (.int .i64 2) := (HT.out _ (hCb ▸ HB1.out)).1.1.2.cell 0
  have p1 : W1.cell? ⟨p, 1, none⟩ = some (.int .i64 10) := (HT.out _ (hCb ▸ HB1.out)).1.1.2.cell 1
  have p2 : W1.cell? ⟨p, 2, none⟩ = some (.int .i64 10) := (HT.out _ (hCb ▸ HB1.out)).1.1.2.cell 2
  have w0 : W1.cell? ⟨q, 0, none⟩ = some (.int .i64 1) := (HT.out _ (hCb ▸ HB1.out)).1.2.cell 0
  have w1 : W1.cell? ⟨q, 1, none⟩ = some (.int .i64 1) := (HT.out _ (hCb ▸ HB1.out)).1.2.cell 1
  have w2 : W1.cell? ⟨q, 2, none⟩ = some (.int .i64 2) := (HT.out _ (hCb ▸ HB1.out)).1.2.cell 2
  have c0 : W1.cell? ⟨Cb, 0, none⟩ = some (.bool false) := HC.out.cell 0
  have f0 := HC.out.frozen 0
  refine wp_loop_rounds 3 ?_
  rw [rounds_succ]
  go_wp2_with fail
  refine wp_loop_rounds 4 ?_
  rw [rounds_succ]
  go_wp2_with fail
  clear q0 q1 q2 p0 p1 p2 w0 w1 w2
  have HC2 : Hid (Blk (W1.setCell ⟨Cb, 0, none⟩ (.bool true)) Cb 4 #[.bool true, .bool false, .bool false]) := hide (HC.out.set_ 0 (.bool true))
  have HB2 := hide (HB1.out.setCell (p := ⟨Cb, 0, none⟩) (Nat.le_refl _) (.bool true))
  clear HC HB1 c0 f0
  obtain ⟨W2, hW2⟩ : ∃ W2, W1.setCell ⟨Cb, 0, none⟩ (.bool true) = W2 := ⟨_, rfl⟩
  rw [hW2] at HC2 HB2 ⊢
  clear hW2
  have q0 : W2.cell? ⟨w.heap.size, 0, none⟩ = some (.int .i64 10) := (HT.out _ (hCb ▸ HB2.out)).1.1.1.1.cell 0
  have q1 : W2.cell? ⟨w.heap.size, 1, none⟩ = some (.slice (some ⟨p, 0, none⟩) 3 3) := (HT.out _ (hCb ▸ HB2.out)).1.1.1.1.cell 1
  have q2 : W2.cell? ⟨w.heap.size, 2, none⟩ = some (.slice (some ⟨q, 0, none⟩) 3 3) := (HT.out _ (hCb ▸ HB2.out)).1.1.1.1.cell 2
  have p0 : W2.cell? ⟨p, 0, none⟩ = some (.int .i64 2) := (HT.out _ (hCb ▸ HB2.out)).1.1.2.cell 0
  have p1 : W2.cell? ⟨p, 1, none⟩ = some (.int .i64 10) := (HT.out _ (hCb ▸ HB2.out)).1.1.2.cell 1
  have p2 : W2.cell? ⟨p, 2, none⟩ = some (.int .i64 10) := (HT.out _ (hCb ▸ HB2.out)).1.1.2.cell 2
  have w0 : W2.cell? ⟨q, 0, none⟩ = some (.int .i64 1) := (HT.out _ (hCb ▸ HB2.out)).1.2.cell 0
  have w1 : W2.cell? ⟨q, 1, none⟩ = some (.int .i64 1) := (HT.out _ (hCb ▸ HB2.out)).1.2.cell 1
  have w2 : W2.cell? ⟨q, 2, none⟩ = some (.int .i64 2) := (HT.out _ (hCb ▸ HB2.out)).1.2.cell 2
  have c0 : W2.cell? ⟨Cb, 0, none⟩ = some (.bool true) := HC2.out.cell 0
  have c1 : W2.cell? ⟨Cb, 1, none⟩ = some (.bool false) := HC2.out.cell 1
  have c2 : W2.cell? ⟨Cb, 2, none⟩ = some (.bool false) := HC2.out.cell 2
  refine wp_region_held_drew (S := fun w' => w' = W2.drew) (by kernel_rfl) (rfl : W2.drew = W2.drew) (fun hHeld => ?_)
  refine take_at (i := 0) 65 (v := .int .i64 10) rfl rfl (by kernel_rfl) (by kernel_rfl) (by kernel_rfl) (fun _ _ _ h => h) (Or.inl ⟨by rfl, by intro w_ hSw; go_simp⟩) (by assumption) ?_
  try simp only [Act.put, List.setIfInBounds_toArray, List.set_cons_zero, List.set_cons_succ]
  refine take_at (i := 1) 66 (v := .int .i64 2) rfl rfl (by kernel_rfl) (by kernel_rfl) (by kernel_rfl) (fun _ _ _ h => h) (Or.inl ⟨by rfl, by intro w_ hSw; go_simp⟩) (by assumption) ?_
  try simp only [Act.put, List.setIfInBounds_toArray, List.set_cons_zero, List.set_cons_succ]
  refine take_at (i := 2) 67 (v := .int .i64 8) rfl rfl (by kernel_rfl) (by kernel_rfl) (by kernel_rfl) (fun _ _ _ h => h) (Or.inl ⟨by rfl, by intro w_ hSw; go_simp⟩) (by assumption) ?_
  try simp only [Act.put, List.setIfInBounds_toArray, List.set_cons_zero, List.set_cons_succ]
  refine take_at (i := 3) 68 (v := .int .i64 4) rfl rfl (by kernel_rfl) (by kernel_rfl) (by kernel_rfl) (fun _ _ _ h => h) (Or.inl ⟨by rfl, by intro w_ hSw; go_simp⟩) (by assumption) ?_
  try simp only [Act.put, List.setIfInBounds_toArray, List.set_cons_zero, List.set_cons_succ]
  refine take_at (i := 4) 69 (v := .pointer (some ⟨w.heap.size, 2, none⟩)) rfl rfl (by kernel_rfl) (by kernel_rfl) (by kernel_rfl) (fun _ _ _ h => h) (Or.inl ⟨by rfl, by intro w_ hSw; go_simp⟩) (by assumption) ?_
  try simp only [Act.put, List.setIfInBounds_toArray, List.set_cons_zero, List.set_cons_succ]
  refine take_at (i := 5) 70 (v := .slice (some ⟨q, 0, none⟩) 3 3) rfl rfl (by kernel_rfl) (by kernel_rfl) (by kernel_rfl) (fun _ _ _ h => h) (Or.inl ⟨by rfl, by intro w_ hSw; rw [hSw]; go_simp⟩) (by assumption) ?_
  try simp only [Act.put, List.setIfInBounds_toArray, List.set_cons_zero, List.set_cons_succ]
  refine take_at (i := 6) 71 (v := .int .i64 0) rfl rfl (by kernel_rfl) (by kernel_rfl) (by kernel_rfl) (fun _ _ _ h => h) (Or.inl ⟨by rfl, by intro w_ hSw; go_simp⟩) (by assumption) ?_
  try simp only [Act.put, List.setIfInBounds_toArray, List.set_cons_zero, List.set_cons_succ]
  refine take_at (i := 7) 72 (v := .pointer (some ⟨q, 0, none⟩)) rfl rfl (by kernel_rfl) (by kernel_rfl) (by kernel_rfl) (fun _ _ _ h => h) (Or.inl ⟨by rfl, by intro w_ hSw; go_simp⟩) (by assumption) ?_
  try simp only [Act.put, List.setIfInBounds_toArray, List.set_cons_zero, List.set_cons_succ]
  refine take_at (i := 8) 73 (v := .int .i64 1) rfl rfl (by kernel_rfl) (by kernel_rfl) (by kernel_rfl) (fun _ _ _ h => h) (Or.inl ⟨by rfl, by intro w_ hSw; rw [hSw]; go_simp⟩) (by assumption) ?_
  try simp only [Act.put, List.setIfInBounds_toArray, List.set_cons_zero, List.set_cons_succ]
  refine take_at (i := 9) 74 (v := .int .i64 3) rfl rfl (by kernel_rfl) (by kernel_rfl) (by kernel_rfl) (fun _ _ _ h => h) (Or.inl ⟨by rfl, by intro w_ hSw; go_simp⟩) (by assumption) ?_
  try simp only [Act.put, List.setIfInBounds_toArray, List.set_cons_zero, List.set_cons_succ]
  refine take_at (i := 10) 3 (v := .int .i64 8) rfl rfl (by kernel_rfl) (by kernel_rfl) (by kernel_rfl) (fun _ _ _ h => h) (Or.inl ⟨by rfl, by intro w_ hSw; go_simp⟩) (by assumption) ?_
  try simp only [Act.put, List.setIfInBounds_toArray, List.set_cons_zero, List.set_cons_succ]
  refine take_at (i := 11) 4 (v := .int .i64 3) rfl rfl (by kernel_rfl) (by kernel_rfl) (by kernel_rfl) (fun _ _ _ h => h) (Or.inl ⟨by rfl, by intro w_ hSw; go_simp⟩) (by assumption) ?_
  try simp only [Act.put, List.setIfInBounds_toArray, List.set_cons_zero, List.set_cons_succ]
  refine wpAnyH_done (by kernel_rfl) ?_ _
  clear hHeld
  go_wp2_with fail
  rw [rounds_succ]
  go_wp2_with fail
  rw [rounds_succ]
  go_wp2_with fail
  rw [rounds_succ]
  go_wp2_with fail
  rw [rounds_succ]
  go_wp2_with fail
  refine wp_loop_rounds 4 ?_
  rw [rounds_succ]
  go_wp2_with fail
  rw [rounds_succ]
  go_wp2_with fail
  rw [rounds_succ]
  go_wp2_with fail
  rw [rounds_succ]
  go_wp2_with fail
  rw [rounds_succ]
  obtain ⟨O, hO⟩ : ∃ O, W2.heap.size = O := ⟨_, rfl⟩
  have hOC : Cb < O := by have := HC2.out.lt; omega
  have hCO : W0.heap.size ≤ O := by have := HB2.out.size; omega
  have hwO : w.heap.size < O := by omega
  clear p0 p1 p2 w0 w1 w2 c0 c1 c2
  go_wp2_with fail
  clear q0 q1 q2
  have HO3 : Hid (Blk (W2.alloc (.cells #[.int .i64 0, .slice none 0 0] 65)).drew O 65 #[.int .i64 0, .slice none 0 0]) := hide (Blk.newN W2 65 #[.int .i64 0, .slice none 0 0] hO).drew
  have HC3 : Hid (Blk (W2.alloc (.cells #[.int .i64 0, .slice none 0 0] 65)).drew Cb 4 #[.bool true, .bool false, .bool false]) := hide (HC2.out.alloc (.cells #[.int .i64 0, .slice none 0 0] 65)).drew
  have HB3 : Hid (Below Cb W0 (W2.alloc (.cells #[.int .i64 0, .slice none 0 0] 65)).drew) := hide (below_drew (HB2.out.alloc (by omega) (.cells #[.int .i64 0, .slice none 0 0] 65)))
  clear HC2 HB2 hO
  obtain ⟨W3, hW3⟩ : ∃ W3, (W2.alloc (.cells #[.int .i64 0, .slice none 0 0] 65)).drew = W3 := ⟨_, rfl⟩
  rw [hW3] at HO3 HC3 HB3 ⊢
  clear hW3
  have q0 : W3.cell? ⟨w.heap.size, 0, none⟩ = some (.int .i64 10) := (HT.out _ (hCb ▸ HB3.out)).1.1.1.1.cell 0
  have q1 : W3.cell? ⟨w.heap.size, 1, none⟩ = some (.slice (some ⟨p, 0, none⟩) 3 3) := (HT.out _ (hCb ▸ HB3.out)).1.1.1.1.cell 1
  have q2 : W3.cell? ⟨w.heap.size, 2, none⟩ = some (.slice (some ⟨q, 0, none⟩) 3 3) := (HT.out _ (hCb ▸ HB3.out)).1.1.1.1.cell 2
  have p0 : W3.cell? ⟨p, 0, none⟩ = some (.int .i64 2) := (HT.out _ (hCb ▸ HB3.out)).1.1.2.cell 0
  have p1 : W3.cell? ⟨p, 1, none⟩ = some (.int .i64 10) := (HT.out _ (hCb ▸ HB3.out)).1.1.2.cell 1
  have p2 : W3.cell? ⟨p, 2, none⟩ = some (.int .i64 10) := (HT.out _ (hCb ▸ HB3.out)).1.1.2.cell 2
  have w0 : W3.cell? ⟨q, 0, none⟩ = some (.int .i64 1) := (HT.out _ (hCb ▸ HB3.out)).1.2.cell 0
  have w1 : W3.cell? ⟨q, 1, none⟩ = some (.int .i64 1) := (HT.out _ (hCb ▸ HB3.out)).1.2.cell 1
  have w2 : W3.cell? ⟨q, 2, none⟩ = some (.int .i64 2) := (HT.out _ (hCb ▸ HB3.out)).1.2.cell 2
  have c0 : W3.cell? ⟨Cb, 0, none⟩ = some (.bool true) := HC3.out.cell 0
  refine wp_loop_rounds 4 ?_
  rw [rounds_succ]
  have HR3 : Hid (W3.ownsRow (O + 1) 3 1 (.slice none 0 0) 0 []) := hide ⟨rfl, .inl ⟨rfl, rfl⟩⟩
  have hO1 := HO3.out.lt
  have c0 : W3.cell? ⟨Cb, 0, none⟩ = some (.bool true) := HC3.out.cell 0
  have o1 : W3.cell? ⟨O, 1, none⟩ = some (.slice none 0 0) := HO3.out.cell 1
  go_wp2_with (first | (at_builtin; refine wpList_append_own _ rfl _ _ 22 rfl (O + 1) 3 i0 (.int .i64 0) 1 8 Try.underlying22 hi0 hz0 hz1 hz2 rfl (by decide) _ 0 [] rfl (own_bel HR3.out ((Below.refl _ W3).alloc (Nat.le_refl _) (.cells #[.int .i64 6] 3))) ⟨W3.heap.size, 0, none⟩ 1 1 [.int .i64 6] rfl rfl (cell_one_new _ _ _) (by simp [Value.oneCell']) (by decide) (by decide) (by simp; omega) ?_; intro v9 wa0 hown9 hgrow _; replace hgrow : (W3.alloc (.cells #[.int .i64 6] 3)).grownBy wa0 (Value.ownBlock (.slice none 0 0)) := hgrow; obtain ⟨A0, k0, rfl⟩ := own_form hown9; have HBa := hide ((HB3.out.alloc (by omega) (.cells #[.int .i64 6] 3)).grown hgrow (by simp; omega) (fun j hj => by have := (HR3.out.lt j hj).1; omega)); have HCa := hide ((HC3.out.alloc (.cells #[.int .i64 6] 3)).grown hgrow (fun e => by have := (HR3.out.lt _ e.symm).1; omega)); have HOa := hide ((HO3.out.alloc (.cells #[.int .i64 6] 3)).grown hgrow (fun e => by have := (HR3.out.lt _ e.symm).1; omega)); have HRa := hide hown9; clear hown9 hgrow HB3 HC3 HO3 HR3 q0 q1 q2 p0 p1 p2 w0 w1 w2 c0 o1) | (go_at_call 59; have hgd := HRa; refine (divisor_3_6 wa0.heap.size 2 _ (Blk.new wa0 3 #[.int .i64 3, .int .i64 6])).mono ?_; rintro e wd0 ⟨rfl, hb⟩; have hb2 := Below.step ((Below.refl wa0.heap.size wa0).alloc (Nat.le_refl _) (.cells #[.int .i64 3, .int .i64 6] 3)) hb; have hOl := HOa.out.lt; have HBd := hide (HBa.out.trans (hb2.mono (by omega))); have HCd := hide (HCa.out.below hb2 HCa.out.lt); have HOd := hide (HOa.out.below hb2 HOa.out.lt); have HRd := hide (own_bel HRa.out hb2); clear hb hb2 HBa HCa HOa HRa hgd hOl; have o1 : wd0.cell? ⟨O, 1, none⟩ = some (.slice none 0 0) := HOd.out.cell 1; have f1 := HOd.out.frozen 1; simp only []))
  have HO4 : Hid (Blk (wd0.setCell ⟨O, 1, none⟩ (.slice A0 1 k0)) O 65 #[.int .i64 0, .slice A0 1 k0]) := hide (HOd.out.set_ 1 (.slice A0 1 k0))
  have HC4 := hide (HCd.out.far (p := ⟨O, 1, none⟩) (by show Cb ≠ O; omega) (.slice A0 1 k0))
  have HB4 := hide (HBd.out.setCell (p := ⟨O, 1, none⟩) (by show Cb ≤ O; omega) (.slice A0 1 k0))
  have HR4 : Hid ((wd0.setCell ⟨O, 1, none⟩ (.slice A0 1 k0)).ownsRow (O + 1) 3 1 (.slice A0 1 k0) 1 [.int .i64 6]) := hide (own_far HRd.out HOd.out (by decide))
  obtain ⟨W4, hWn⟩ : ∃ W9, wd0.setCell ⟨O, 1, none⟩ (.slice A0 1 k0) = W9 := ⟨_, rfl⟩
  rw [hWn] at HO4 HC4 HB4 HR4 ⊢
  have hO1 := HO4.out.lt
  clear hWn HOd HCd HBd HRd o1 f1
  have q0 : W4.cell? ⟨w.heap.size, 0, none⟩ = some (.int .i64 10) := (HT.out _ (hCb ▸ HB4.out)).1.1.1.1.cell 0
  have q1 : W4.cell? ⟨w.heap.size, 1, none⟩ = some (.slice (some ⟨p, 0, none⟩) 3 3) := (HT.out _ (hCb ▸ HB4.out)).1.1.1.1.cell 1
  have q2 : W4.cell? ⟨w.heap.size, 2, none⟩ = some (.slice (some ⟨q, 0, none⟩) 3 3) := (HT.out _ (hCb ▸ HB4.out)).1.1.1.1.cell 2
  have p0 : W4.cell? ⟨p, 0, none⟩ = some (.int .i64 2) := (HT.out _ (hCb ▸ HB4.out)).1.1.2.cell 0
  have p1 : W4.cell? ⟨p, 1, none⟩ = some (.int .i64 10) := (HT.out _ (hCb ▸ HB4.out)).1.1.2.cell 1
  have p2 : W4.cell? ⟨p, 2, none⟩ = some (.int .i64 10) := (HT.out _ (hCb ▸ HB4.out)).1.1.2.cell 2
  have w0 : W4.cell? ⟨q, 0, none⟩ = some (.int .i64 1) := (HT.out _ (hCb ▸ HB4.out)).1.2.cell 0
  have w1 : W4.cell? ⟨q, 1, none⟩ = some (.int .i64 1) := (HT.out _ (hCb ▸ HB4.out)).1.2.cell 1
  have w2 : W4.cell? ⟨q, 2, none⟩ = some (.int .i64 2) := (HT.out _ (hCb ▸ HB4.out)).1.2.cell 2
  rw [rounds_succ]
  have c0 : W4.cell? ⟨Cb, 1, none⟩ = some (.bool false) := HC4.out.cell 1
  have o1 : W4.cell? ⟨O, 1, none⟩ = some (.slice A0 1 k0) := HO4.out.cell 1
  go_wp2_with (first | (at_builtin; refine wpList_append_own _ rfl _ _ 22 rfl (O + 1) 3 i0 (.int .i64 0) 1 8 Try.underlying22 hi0 hz0 hz1 hz2 rfl (by decide) _ 1 [.int .i64 6] rfl (own_bel HR4.out ((Below.refl _ W4).alloc (Nat.le_refl _) (.cells #[.int .i64 8] 3))) ⟨W4.heap.size, 0, none⟩ 1 1 [.int .i64 8] rfl rfl (cell_one_new _ _ _) (by simp [Value.oneCell']) (by decide) (by decide) (by simp; omega) ?_; intro v9 wa1 hown9 hgrow _; replace hgrow : (W4.alloc (.cells #[.int .i64 8] 3)).grownBy wa1 (Value.ownBlock (.slice A0 1 k0)) := hgrow; obtain ⟨A1, k1, rfl⟩ := own_form hown9; have HBa := hide ((HB4.out.alloc (by omega) (.cells #[.int .i64 8] 3)).grown hgrow (by simp; omega) (fun j hj => by have := (HR4.out.lt j hj).1; omega)); have HCa := hide ((HC4.out.alloc (.cells #[.int .i64 8] 3)).grown hgrow (fun e => by have := (HR4.out.lt _ e.symm).1; omega)); have HOa := hide ((HO4.out.alloc (.cells #[.int .i64 8] 3)).grown hgrow (fun e => by have := (HR4.out.lt _ e.symm).1; omega)); have HRa := hide hown9; clear hown9 hgrow HB4 HC4 HO4 HR4 q0 q1 q2 p0 p1 p2 w0 w1 w2 c0 o1) | (go_at_call 59; have hgd := HRa; refine (divisor_3_8 wa1.heap.size 2 _ (Blk.new wa1 3 #[.int .i64 3, .int .i64 8])).mono ?_; rintro e wd1 ⟨rfl, hb⟩; have hb2 := Below.step ((Below.refl wa1.heap.size wa1).alloc (Nat.le_refl _) (.cells #[.int .i64 3, .int .i64 8] 3)) hb; have hOl := HOa.out.lt; have HBd := hide (HBa.out.trans (hb2.mono (by omega))); have HCd := hide (HCa.out.below hb2 HCa.out.lt); have HOd := hide (HOa.out.below hb2 HOa.out.lt); have HRd := hide (own_bel HRa.out hb2); clear hb hb2 HBa HCa HOa HRa hgd hOl; have o1 : wd1.cell? ⟨O, 1, none⟩ = some (.slice A0 1 k0) := HOd.out.cell 1; have f1 := HOd.out.frozen 1; simp only []))
  have HO5 : Hid (Blk (wd1.setCell ⟨O, 1, none⟩ (.slice A1 2 k1)) O 65 #[.int .i64 0, .slice A1 2 k1]) := hide (HOd.out.set_ 1 (.slice A1 2 k1))
  have HC5 := hide (HCd.out.far (p := ⟨O, 1, none⟩) (by show Cb ≠ O; omega) (.slice A1 2 k1))
  have HB5 := hide (HBd.out.setCell (p := ⟨O, 1, none⟩) (by show Cb ≤ O; omega) (.slice A1 2 k1))
  have HR5 : Hid ((wd1.setCell ⟨O, 1, none⟩ (.slice A1 2 k1)).ownsRow (O + 1) 3 1 (.slice A1 2 k1) 2 [.int .i64 6, .int .i64 8]) := hide (own_far HRd.out HOd.out (by decide))
  obtain ⟨W5, hWn⟩ : ∃ W9, wd1.setCell ⟨O, 1, none⟩ (.slice A1 2 k1) = W9 := ⟨_, rfl⟩
  rw [hWn] at HO5 HC5 HB5 HR5 ⊢
  have hO1 := HO5.out.lt
  clear hWn HOd HCd HBd HRd o1 f1
  have q0 : W5.cell? ⟨w.heap.size, 0, none⟩ = some (.int .i64 10) := (HT.out _ (hCb ▸ HB5.out)).1.1.1.1.cell 0
  have q1 : W5.cell? ⟨w.heap.size, 1, none⟩ = some (.slice (some ⟨p, 0, none⟩) 3 3) := (HT.out _ (hCb ▸ HB5.out)).1.1.1.1.cell 1
  have q2 : W5.cell? ⟨w.heap.size, 2, none⟩ = some (.slice (some ⟨q, 0, none⟩) 3 3) := (HT.out _ (hCb ▸ HB5.out)).1.1.1.1.cell 2
  have p0 : W5.cell? ⟨p, 0, none⟩ = some (.int .i64 2) := (HT.out _ (hCb ▸ HB5.out)).1.1.2.cell 0
  have p1 : W5.cell? ⟨p, 1, none⟩ = some (.int .i64 10) := (HT.out _ (hCb ▸ HB5.out)).1.1.2.cell 1
  have p2 : W5.cell? ⟨p, 2, none⟩ = some (.int .i64 10) := (HT.out _ (hCb ▸ HB5.out)).1.1.2.cell 2
  have w0 : W5.cell? ⟨q, 0, none⟩ = some (.int .i64 1) := (HT.out _ (hCb ▸ HB5.out)).1.2.cell 0
  have w1 : W5.cell? ⟨q, 1, none⟩ = some (.int .i64 1) := (HT.out _ (hCb ▸ HB5.out)).1.2.cell 1
  have w2 : W5.cell? ⟨q, 2, none⟩ = some (.int .i64 2) := (HT.out _ (hCb ▸ HB5.out)).1.2.cell 2
  rw [rounds_succ]
  have c0 : W5.cell? ⟨Cb, 2, none⟩ = some (.bool false) := HC5.out.cell 2
  have o1 : W5.cell? ⟨O, 1, none⟩ = some (.slice A1 2 k1) := HO5.out.cell 1
  go_wp2_with (first | (at_builtin; refine wpList_append_own _ rfl _ _ 22 rfl (O + 1) 3 i0 (.int .i64 0) 1 8 Try.underlying22 hi0 hz0 hz1 hz2 rfl (by decide) _ 2 [.int .i64 6, .int .i64 8] rfl (own_bel HR5.out ((Below.refl _ W5).alloc (Nat.le_refl _) (.cells #[.int .i64 16] 3))) ⟨W5.heap.size, 0, none⟩ 1 1 [.int .i64 16] rfl rfl (cell_one_new _ _ _) (by simp [Value.oneCell']) (by decide) (by decide) (by simp; omega) ?_; intro v9 wa2 hown9 hgrow _; replace hgrow : (W5.alloc (.cells #[.int .i64 16] 3)).grownBy wa2 (Value.ownBlock (.slice A1 2 k1)) := hgrow; obtain ⟨A2, k2, rfl⟩ := own_form hown9; have HBa := hide ((HB5.out.alloc (by omega) (.cells #[.int .i64 16] 3)).grown hgrow (by simp; omega) (fun j hj => by have := (HR5.out.lt j hj).1; omega)); have HCa := hide ((HC5.out.alloc (.cells #[.int .i64 16] 3)).grown hgrow (fun e => by have := (HR5.out.lt _ e.symm).1; omega)); have HOa := hide ((HO5.out.alloc (.cells #[.int .i64 16] 3)).grown hgrow (fun e => by have := (HR5.out.lt _ e.symm).1; omega)); have HRa := hide hown9; clear hown9 hgrow HB5 HC5 HO5 HR5 q0 q1 q2 p0 p1 p2 w0 w1 w2 c0 o1) | (go_at_call 59; have hgd := HRa; refine (divisor_1_16 wa2.heap.size 2 _ (Blk.new wa2 3 #[.int .i64 1, .int .i64 16])).mono ?_; rintro e wd2 ⟨rfl, hb⟩; have hb2 := Below.step ((Below.refl wa2.heap.size wa2).alloc (Nat.le_refl _) (.cells #[.int .i64 1, .int .i64 16] 3)) hb; have hOl := HOa.out.lt; have HBd := hide (HBa.out.trans (hb2.mono (by omega))); have HCd := hide (HCa.out.below hb2 HCa.out.lt); have HOd := hide (HOa.out.below hb2 HOa.out.lt); have HRd := hide (own_bel HRa.out hb2); clear hb hb2 HBa HCa HOa HRa hgd hOl; have o1 : wd2.cell? ⟨O, 1, none⟩ = some (.slice A1 2 k1) := HOd.out.cell 1; have f1 := HOd.out.frozen 1; simp only []))
  have HO6 : Hid (Blk (wd2.setCell ⟨O, 1, none⟩ (.slice A2 3 k2)) O 65 #[.int .i64 0, .slice A2 3 k2]) := hide (HOd.out.set_ 1 (.slice A2 3 k2))
  have HC6 := hide (HCd.out.far (p := ⟨O, 1, none⟩) (by show Cb ≠ O; omega) (.slice A2 3 k2))
  have HB6 := hide (HBd.out.setCell (p := ⟨O, 1, none⟩) (by show Cb ≤ O; omega) (.slice A2 3 k2))
  have HR6 : Hid ((wd2.setCell ⟨O, 1, none⟩ (.slice A2 3 k2)).ownsRow (O + 1) 3 1 (.slice A2 3 k2) 3 [.int .i64 6, .int .i64 8, .int .i64 16]) := hide (own_far HRd.out HOd.out (by decide))
  obtain ⟨W6, hWn⟩ : ∃ W9, wd2.setCell ⟨O, 1, none⟩ (.slice A2 3 k2) = W9 := ⟨_, rfl⟩
  rw [hWn] at HO6 HC6 HB6 HR6 ⊢
  have hO1 := HO6.out.lt
  clear hWn HOd HCd HBd HRd o1 f1
  have q0 : W6.cell? ⟨w.heap.size, 0, none⟩ = some (.int .i64 10) := (HT.out _ (hCb ▸ HB6.out)).1.1.1.1.cell 0
  have q1 : W6.cell? ⟨w.heap.size, 1, none⟩ = some (.slice (some ⟨p, 0, none⟩) 3 3) := (HT.out _ (hCb ▸ HB6.out)).1.1.1.1.cell 1
  have q2 : W6.cell? ⟨w.heap.size, 2, none⟩ = some (.slice (some ⟨q, 0, none⟩) 3 3) := (HT.out _ (hCb ▸ HB6.out)).1.1.1.1.cell 2
  have p0 : W6.cell? ⟨p, 0, none⟩ = some (.int .i64 2) := (HT.out _ (hCb ▸ HB6.out)).1.1.2.cell 0
  have p1 : W6.cell? ⟨p, 1, none⟩ = some (.int .i64 10) := (HT.out _ (hCb ▸ HB6.out)).1.1.2.cell 1
  have p2 : W6.cell? ⟨p, 2, none⟩ = some (.int .i64 10) := (HT.out _ (hCb ▸ HB6.out)).1.1.2.cell 2
  have w0 : W6.cell? ⟨q, 0, none⟩ = some (.int .i64 1) := (HT.out _ (hCb ▸ HB6.out)).1.2.cell 0
  have w1 : W6.cell? ⟨q, 1, none⟩ = some (.int .i64 1) := (HT.out _ (hCb ▸ HB6.out)).1.2.cell 1
  have w2 : W6.cell? ⟨q, 2, none⟩ = some (.int .i64 2) := (HT.out _ (hCb ▸ HB6.out)).1.2.cell 2
  rw [rounds_succ]
  clear q0 q1 q2 p0 p1 p2 w0 w1 w2 HC6
  have HE6 := hide (HT.out _ (hCb ▸ HB6.out)).1.1.1.2
  have HW6 := hide (HT.out _ (hCb ▸ HB6.out)).2
  obtain ⟨G, kc, hv, -, -⟩ := HR6.out.form (by decide)
  injection hv with hA _ hk
  subst hA hk
  have g0 := HR6.out.cells (g := G) rfl 0 _ rfl
  have g1 := HR6.out.cells (g := G) rfl 1 _ rfl
  have g2 := HR6.out.cells (g := G) rfl 2 _ rfl
  rw [add_lit] at g0 g1 g2
  have hGO : O + 1 ≤ G := (HR6.out.lt _ rfl).1
  obtain ⟨cur, hcur⟩ : ∃ cur, Blk W6 G 3 cur := by
    rcases HR6.out.2 with ⟨h, _⟩ | ⟨g, cap, cur, h, _, hh, _⟩
    · injection h with h; injection h
    · injection h with h
      injection h with h
      injection h with h
      subst h
      exact ⟨cur, hh⟩
  have hfG := fun i => hcur.frozen i
  have hs0 := setCell_same hcur ((hcur.cell 0).symm.trans g0)
  have hs1 := setCell_same hcur ((hcur.cell 1).symm.trans g1)
  have hs2 := setCell_same hcur ((hcur.cell 2).symm.trans g2)
  clear hcur
  have fG0 := hfG 0
  have fG1 := hfG 1
  have fG2 := hfG 2
  have o0 : W6.cell? ⟨O, 0, none⟩ = some (.int .i64 0) := HO6.out.cell 0
  have o1 : W6.cell? ⟨O, 1, none⟩ = some (.slice (some ⟨G, 0, none⟩) 3 k2) := HO6.out.cell 1
  have fo0 := HO6.out.frozen 0
  have e0 : W6.cell? ⟨w.heap.size + 1, 0, none⟩ = some (.int .i64 0) := HE6.out.cell 0
  have e1 : W6.cell? ⟨w.heap.size + 1, 1, none⟩ = some (.slice none 0 0) := HE6.out.cell 1
  have fe0 := HE6.out.frozen 0
  have fe1 := HE6.out.frozen 1
  have n1 : ¬ G = O := by omega
  have n2 : ¬ O = G := by omega
  have n3 : ¬ G = w.heap.size + 1 := by omega
  have n4 : ¬ w.heap.size + 1 = G := by omega
  have n5 : ¬ O = w.heap.size + 1 := by omega
  have n6 : ¬ w.heap.size + 1 = O := by omega
  clear hfG hw8 hw3 HB6
  go_wp2_with fail
  refine wp_loop_rounds 4 ?_
  rw [rounds_succ]
  go_wp2_with fail
  rw [rounds_succ]
  go_wp2_with fail
  rw [rounds_succ]
  go_wp2_with fail
  rw [rounds_succ]
  go_wp2_with fail
  have HZ := hide (((HE6.out.far (p := ⟨O, 0, none⟩) (by show _ ≠ O; omega) (.int .i64 3)).set_ 0 (.int .i64 3)).set_ 1 (.slice (some ⟨G, 0, none⟩) 3 k2))
  have HBZ := hide (((HW6.out.setCell (p := ⟨O, 0, none⟩) (by show _ ≤ O; omega) (.int .i64 3)).setCell (p := ⟨w.heap.size + 1, 0, none⟩) (by show _ ≤ w.heap.size + 1; omega) (.int .i64 3)).setCell (p := ⟨w.heap.size + 1, 1, none⟩) (by show _ ≤ w.heap.size + 1; omega) (.slice (some ⟨G, 0, none⟩) 3 k2))
  have far : ∀ i v, W6.cell? ⟨G, i, none⟩ = some v → (((W6.setCell ⟨O, 0, none⟩ (.int .i64 3)).setCell ⟨w.heap.size + 1, 0, none⟩ (.int .i64 3)).setCell ⟨w.heap.size + 1, 1, none⟩ (.slice (some ⟨G, 0, none⟩) 3 k2)).cell? ⟨G, i, none⟩ = some v := fun i v h =>
    (World.cell?_setCell_other _ _ _ _ (by intro e; injection e with e1; omega)).trans ((World.cell?_setCell_other _ _ _ _ (by intro e; injection e with e1; omega)).trans ((World.cell?_setCell_other _ _ _ _ (by intro e; injection e with e1; omega)).trans h))
  have HG0 := hide (far 0 _ g0)
  have HG1 := hide (far 1 _ g1)
  have HG2 := hide (far 2 _ g2)
  clear far g0 g1 g2 hs0 hs1 hs2 o0 o1 e0 e1
  obtain ⟨WZ, hWZ⟩ : ∃ WZ, ((W6.setCell ⟨O, 0, none⟩ (.int .i64 3)).setCell ⟨w.heap.size + 1, 0, none⟩ (.int .i64 3)).setCell ⟨w.heap.size + 1, 1, none⟩ (.slice (some ⟨G, 0, none⟩) 3 k2) = WZ := ⟨_, rfl⟩
  rw [hWZ] at HZ HBZ HG0 HG1 HG2 ⊢
  refine bodyPost_ret (v := .agg #[.int .i64 3, .slice (some ⟨G, 0, none⟩) 3 k2]) ?_ rfl ⟨G, k2, rfl, HG0.out, HG1.out, HG2.out, HBZ.out⟩
  have y0 : WZ.cell? ⟨w.heap.size + 1, 0, none⟩ = some (.int .i64 3) := HZ.out.cell 0
  have y1 : WZ.cell? ⟨w.heap.size + 1, 1, none⟩ = some (.slice (some ⟨G, 0, none⟩) 3 k2) := HZ.out.cell 1
  simp [results, Try.results44, go_sem, y0, y1]
end Go.Proofs.Ytppkibgemacdbaa
