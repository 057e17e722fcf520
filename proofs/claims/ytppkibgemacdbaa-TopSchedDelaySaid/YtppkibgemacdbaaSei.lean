import Derived.Test.YtppkibgemacdbaaSeh
namespace Go.Proofs.Ytppkibgemacdbaa
open Go.RowKit Go.WideShapes Go.ChangeShapes

/-! demandErr at the example's demand -/
theorem within_true (n lo hi : Int) (w : World) (h : withinB n lo hi = true) : Calls Try.prog 41 #[.int .i64 n, .int .i64 lo, .int .i64 hi] w fun x w' => x = .returned (.bool true) ∧ w = w' := by
  rw [← h]; exact within_sy n lo hi w
set_option maxRecDepth 100000 in
set_option maxHeartbeats 8000000 in
theorem demandErr_ex (p q : Nat) (w : World) (hp : Blk w p 3 #[.int .i64 2, .int .i64 10, .int .i64 10]) (hq : Blk w q 3 #[.int .i64 1, .int .i64 1, .int .i64 2]) :
    Calls Try.prog 43 #[.agg #[.int .i64 10, .slice (some ⟨p, 0, none⟩) 3 3, .slice (some ⟨q, 0, none⟩) 3 3]] w fun e w' => e = .returned (.int .i64 0) ∧ Below w.heap.size w w' := by
  have HT := hide ((stay_blk (Blk.new w 69 #[.int .i64 10, .slice (some ⟨p, 0, none⟩) 3 3, .slice (some ⟨q, 0, none⟩) 3 3])).and ((stay_blk hp).alloc (.cells #[.int .i64 10, .slice (some ⟨p, 0, none⟩) 3 3, .slice (some ⟨q, 0, none⟩) 3 3] 69)) |>.and ((stay_blk hq).alloc (.cells #[.int .i64 10, .slice (some ⟨p, 0, none⟩) 3 3, .slice (some ⟨q, 0, none⟩) 3 3] 69)) |>.and (stay_below ((Below.refl _ w).alloc (Nat.le_refl _) (.cells #[.int .i64 10, .slice (some ⟨p, 0, none⟩) 3 3, .slice (some ⟨q, 0, none⟩) 3 3] 69))))
  clear hp hq
  go_enter Try.func43, Try.ntmps43
  go_wp2_with fail
  obtain ⟨W0, hW0⟩ : ∃ W0, w.alloc (.cells #[.int .i64 10, .slice (some ⟨p, 0, none⟩) 3 3, .slice (some ⟨q, 0, none⟩) 3 3] 69) = W0 := ⟨_, rfl⟩
  rw [hW0] at HT ⊢
  clear hW0
  refine wp_region_held_drew (S := fun w' => Below W0.heap.size W0 w') (by kernel_rfl) (below_drewN (Below.refl W0.heap.size W0) 1) (fun hHeld => ?_)
  refine take_at (i := 0) 6 (v := .pointer (some ⟨w.heap.size, 0, none⟩)) rfl rfl (by kernel_rfl) (by kernel_rfl) (by kernel_rfl) (fun _ _ _ h => h) (Or.inl ⟨by rfl, by intro w_ hSw; go_simp⟩) (by assumption) ?_
  try simp only [Act.put, List.setIfInBounds_toArray, List.set_cons_zero, List.set_cons_succ]
  refine take_at (i := 1) 7 (v := .int .i64 10) rfl rfl (by kernel_rfl) (by kernel_rfl) (by kernel_rfl) (fun _ _ _ h => h) (Or.inl ⟨by rfl, by intro w_ hSw; have c0 : w_.cell? ⟨w.heap.size, 0, none⟩ = some (.int .i64 10) := (HT.out _ hSw).1.1.1.cell 0; go_simp⟩) (by assumption) ?_
  try simp only [Act.put, List.setIfInBounds_toArray, List.set_cons_zero, List.set_cons_succ]
  refine take_at (i := 4) 10 (v := .pointer (some ⟨w.heap.size, 1, none⟩)) rfl rfl (by kernel_rfl) (by kernel_rfl) (by kernel_rfl) (fun _ _ _ h => h) (Or.inl ⟨by rfl, by intro w_ hSw; go_simp⟩) (by assumption) ?_
  try simp only [Act.put, List.setIfInBounds_toArray, List.set_cons_zero, List.set_cons_succ]
  refine take_at (i := 5) 11 (v := .slice (some ⟨p, 0, none⟩) 3 3) rfl rfl (by kernel_rfl) (by kernel_rfl) (by kernel_rfl) (fun _ _ _ h => h) (Or.inl ⟨by rfl, by intro w_ hSw; have c0 : w_.cell? ⟨w.heap.size, 1, none⟩ = some (.slice (some ⟨p, 0, none⟩) 3 3) := (HT.out _ hSw).1.1.1.cell 1; go_simp⟩) (by assumption) ?_
  try simp only [Act.put, List.setIfInBounds_toArray, List.set_cons_zero, List.set_cons_succ]
  refine take_at (i := 6) 12 (v := .int .i64 3) rfl rfl (by kernel_rfl) (by kernel_rfl) (by kernel_rfl) (fun _ _ _ h => h) (Or.inl ⟨by rfl, by intro w_ hSw; go_simp⟩) (by assumption) ?_
  try simp only [Act.put, List.setIfInBounds_toArray, List.set_cons_zero, List.set_cons_succ]
  refine take_at (i := 7) 13 (v := .bool true) rfl rfl (by kernel_rfl) (by kernel_rfl) (by kernel_rfl) (fun _ _ _ h => h) (Or.inl ⟨by rfl, by intro w_ hSw; go_simp⟩) (by assumption) ?_
  try simp only [Act.put, List.setIfInBounds_toArray, List.set_cons_zero, List.set_cons_succ]
  refine take_at (i := 18) 24 (v := .pointer (some ⟨w.heap.size, 1, none⟩)) rfl rfl (by kernel_rfl) (by kernel_rfl) (by kernel_rfl) (fun _ _ _ h => h) (Or.inl ⟨by rfl, by intro w_ hSw; go_simp⟩) (by assumption) ?_
  try simp only [Act.put, List.setIfInBounds_toArray, List.set_cons_zero, List.set_cons_succ]
  refine take_at (i := 19) 25 (v := .slice (some ⟨p, 0, none⟩) 3 3) rfl rfl (by kernel_rfl) (by kernel_rfl) (by kernel_rfl) (fun _ _ _ h => h) (Or.inl ⟨by rfl, by intro w_ hSw; have c0 : w_.cell? ⟨w.heap.size, 1, none⟩ = some (.slice (some ⟨p, 0, none⟩) 3 3) := (HT.out _ hSw).1.1.1.cell 1; go_simp⟩) (by assumption) ?_
  try simp only [Act.put, List.setIfInBounds_toArray, List.set_cons_zero, List.set_cons_succ]
  refine take_at (i := 20) 26 (v := .int .i64 3) rfl rfl (by kernel_rfl) (by kernel_rfl) (by kernel_rfl) (fun _ _ _ h => h) (Or.inl ⟨by rfl, by intro w_ hSw; go_simp⟩) (by assumption) ?_
  try simp only [Act.put, List.setIfInBounds_toArray, List.set_cons_zero, List.set_cons_succ]
  refine take_at (i := 21) 27 (v := .bool true) rfl rfl (by kernel_rfl) (by kernel_rfl) (by kernel_rfl) (fun _ _ _ h => h) (Or.inl ⟨by rfl, by intro w_ hSw; go_simp⟩) (by assumption) ?_
  try simp only [Act.put, List.setIfInBounds_toArray, List.set_cons_zero, List.set_cons_succ]
  refine wpAnyH_ready (rs := [2]) (by kernel_rfl) (by simp) ?_
  refine AllReadyH.cons rfl (fun K hK => ?_) AllReadyH.nil
  go_simp
  go_at_call 41
  refine (within_true 10 0 1000000 _ (by decide)).mono ?_
  rintro e w1 ⟨rfl, rfl⟩
  simp only []
  refine hK.out _ _ hHeld (fun hHeld => ?_)
  clear hK K
  try simp only [Act.put, List.setIfInBounds_toArray, List.set_cons_zero, List.set_cons_succ]
  refine wpAnyH_ready (rs := [3]) (by kernel_rfl) (by simp) ?_
  refine AllReadyH.cons rfl (fun K hK => ?_) AllReadyH.nil
  go_simp
  go_at_call 28
  refine (unless_any true 2 _).mono ?_
  rintro e3 w3 ⟨rfl, rfl⟩
  simp only [unlessE, if_true]
  refine hK.out _ _ hHeld (fun hHeld => ?_)
  clear hK K
  try simp only [Act.put, List.setIfInBounds_toArray, List.set_cons_zero, List.set_cons_succ]
  refine take_at (i := 8) 14 (v := .bool true) rfl rfl (by kernel_rfl) (by kernel_rfl) (by kernel_rfl) (fun _ _ _ h => h) (Or.inl ⟨by rfl, by intro w_ hSw; go_simp⟩) (by assumption) ?_
  try simp only [Act.put, List.setIfInBounds_toArray, List.set_cons_zero, List.set_cons_succ]
  refine take_at (i := 9) 15 (v := .pointer (some ⟨w.heap.size, 1, none⟩)) rfl rfl (by kernel_rfl) (by kernel_rfl) (by kernel_rfl) (fun _ _ _ h => h) (Or.inl ⟨by rfl, by intro w_ hSw; go_simp⟩) (by assumption) ?_
  try simp only [Act.put, List.setIfInBounds_toArray, List.set_cons_zero, List.set_cons_succ]
  refine take_at (i := 10) 16 (v := .slice (some ⟨p, 0, none⟩) 3 3) rfl rfl (by kernel_rfl) (by kernel_rfl) (by kernel_rfl) (fun _ _ _ h => h) (Or.inl ⟨by rfl, by intro w_ hSw; have c0 : w_.cell? ⟨w.heap.size, 1, none⟩ = some (.slice (some ⟨p, 0, none⟩) 3 3) := (HT.out _ hSw).1.1.1.cell 1; go_simp⟩) (by assumption) ?_
  try simp only [Act.put, List.setIfInBounds_toArray, List.set_cons_zero, List.set_cons_succ]
  refine take_at (i := 11) 17 (v := .int .i64 3) rfl rfl (by kernel_rfl) (by kernel_rfl) (by kernel_rfl) (fun _ _ _ h => h) (Or.inl ⟨by rfl, by intro w_ hSw; go_simp⟩) (by assumption) ?_
  try simp only [Act.put, List.setIfInBounds_toArray, List.set_cons_zero, List.set_cons_succ]
  refine take_at (i := 12) 18 (v := .pointer (some ⟨w.heap.size, 2, none⟩)) rfl rfl (by kernel_rfl) (by kernel_rfl) (by kernel_rfl) (fun _ _ _ h => h) (Or.inl ⟨by rfl, by intro w_ hSw; go_simp⟩) (by assumption) ?_
  try simp only [Act.put, List.setIfInBounds_toArray, List.set_cons_zero, List.set_cons_succ]
  refine take_at (i := 13) 19 (v := .slice (some ⟨q, 0, none⟩) 3 3) rfl rfl (by kernel_rfl) (by kernel_rfl) (by kernel_rfl) (fun _ _ _ h => h) (Or.inl ⟨by rfl, by intro w_ hSw; have c0 : w_.cell? ⟨w.heap.size, 2, none⟩ = some (.slice (some ⟨q, 0, none⟩) 3 3) := (HT.out _ hSw).1.1.1.cell 2; go_simp⟩) (by assumption) ?_
  try simp only [Act.put, List.setIfInBounds_toArray, List.set_cons_zero, List.set_cons_succ]
  refine take_at (i := 14) 20 (v := .int .i64 3) rfl rfl (by kernel_rfl) (by kernel_rfl) (by kernel_rfl) (fun _ _ _ h => h) (Or.inl ⟨by rfl, by intro w_ hSw; go_simp⟩) (by assumption) ?_
  try simp only [Act.put, List.setIfInBounds_toArray, List.set_cons_zero, List.set_cons_succ]
  refine take_at (i := 15) 21 (v := .bool true) rfl rfl (by kernel_rfl) (by kernel_rfl) (by kernel_rfl) (fun _ _ _ h => h) (Or.inl ⟨by rfl, by intro w_ hSw; go_simp⟩) (by assumption) ?_
  try simp only [Act.put, List.setIfInBounds_toArray, List.set_cons_zero, List.set_cons_succ]
  refine take_at (i := 16) 22 (v := .bool true) rfl rfl (by kernel_rfl) (by kernel_rfl) (by kernel_rfl) (fun _ _ _ h => h) (Or.inl ⟨by rfl, by intro w_ hSw; go_simp⟩) (by assumption) ?_
  try simp only [Act.put, List.setIfInBounds_toArray, List.set_cons_zero, List.set_cons_succ]
  refine wpAnyH_ready (rs := [17]) (by kernel_rfl) (by simp) ?_
  refine AllReadyH.cons rfl (fun K hK => ?_) AllReadyH.nil
  go_simp
  go_at_call 28
  refine (unless_any true 10 _).mono ?_
  rintro e4 w4 ⟨rfl, rfl⟩
  simp only [unlessE, if_true]
  refine hK.out _ _ hHeld (fun hHeld => ?_)
  clear hK K
  try simp only [Act.put, List.setIfInBounds_toArray, List.set_cons_zero, List.set_cons_succ]
  refine wpAnyH_ready (rs := [22]) (by kernel_rfl) (by simp) ?_
  refine AllReadyH.cons rfl (fun K hK => ?_) AllReadyH.nil
  go_simp
  go_at_call 28
  refine (unless_any true 8 _).mono ?_
  rintro e5 w5 ⟨rfl, rfl⟩
  simp only [unlessE, if_true]
  refine hK.out _ _ hHeld (fun hHeld => ?_)
  clear hK K
  try simp only [Act.put, List.setIfInBounds_toArray, List.set_cons_zero, List.set_cons_succ]
  refine wpAnyH_ready (rs := [23]) (by kernel_rfl) (by simp) ?_
  refine AllReadyH.cons rfl (fun K hK => ?_) AllReadyH.nil
  go_simp
  try simp only [World.size_drew]
  replace hHeld := hHeld.alloc hHeld.size (.cells #[.int .i64 0, .int .i64 0, .int .i64 0] 36)
  refine hK.out _ _ hHeld (fun hHeld => ?_)
  clear hK K
  try simp only [Act.put, List.setIfInBounds_toArray, List.set_cons_zero, List.set_cons_succ]
  refine wpAnyH_ready (rs := [24]) (by kernel_rfl) (by simp) ?_
  refine AllReadyH.cons rfl (fun K hK => ?_) AllReadyH.nil
  go_simp
  go_at_call 26
  replace hHeld : Below W0.heap.size W0 (W0.alloc (.cells #[.int .i64 0, .int .i64 0, .int .i64 0] 36)).drew := hHeld
  refine (first3d W0 _ 0 0 0 rfl).mono ?_
  rintro e w7 ⟨rfl, rfl⟩
  simp only [firstOf, if_true]
  refine hK.out _ _ hHeld (fun hHeld => ?_)
  clear hK K
  try simp only [Act.put, List.setIfInBounds_toArray, List.set_cons_zero, List.set_cons_succ]
  refine take_at (i := 25) 3 (v := .int .i64 0) rfl rfl (by kernel_rfl) (by kernel_rfl) (by kernel_rfl) (fun _ _ _ h => h) (Or.inl ⟨by rfl, by intro w_ hSw; go_simp⟩) (by assumption) ?_
  try simp only [Act.put, List.setIfInBounds_toArray, List.set_cons_zero, List.set_cons_succ]
  refine wpAnyH_done (by kernel_rfl) ?_ _
  replace HT := hide (HT.out.step hHeld)
  clear hHeld
  obtain ⟨W8, hW8⟩ : ∃ W8, (W0.alloc (.cells #[.int .i64 0, .int .i64 0, .int .i64 0] 36)).drew = W8 := ⟨_, rfl⟩
  rw [hW8] at HT ⊢
  clear hW8
  have q1 : W8.cell? ⟨w.heap.size, 1, none⟩ = some (.slice (some ⟨p, 0, none⟩) 3 3) := HT.out.now.1.1.1.cell 1
  have q2 : W8.cell? ⟨w.heap.size, 2, none⟩ = some (.slice (some ⟨q, 0, none⟩) 3 3) := HT.out.now.1.1.1.cell 2
  have p0 : W8.cell? ⟨p, 0, none⟩ = some (.int .i64 2) := HT.out.now.1.1.2.cell 0
  have p1 : W8.cell? ⟨p, 1, none⟩ = some (.int .i64 10) := HT.out.now.1.1.2.cell 1
  have p2 : W8.cell? ⟨p, 2, none⟩ = some (.int .i64 10) := HT.out.now.1.1.2.cell 2
  have w0 : W8.cell? ⟨q, 0, none⟩ = some (.int .i64 1) := HT.out.now.1.2.cell 0
  have w1 : W8.cell? ⟨q, 1, none⟩ = some (.int .i64 1) := HT.out.now.1.2.cell 1
  have w2 : W8.cell? ⟨q, 2, none⟩ = some (.int .i64 2) := HT.out.now.1.2.cell 2
  go_wp2_with fail
  refine wp_loop_rounds 4 ?_
  rw [rounds_succ]
  go_wp2_with (go_at_call 41; go_must (refine (within_true _ _ _ _ (by decide)).mono ?_; rintro e w9 ⟨rfl, rfl⟩; simp only []))
  rw [rounds_succ]
  go_wp2_with (go_at_call 41; go_must (refine (within_true _ _ _ _ (by decide)).mono ?_; rintro e w9 ⟨rfl, rfl⟩; simp only []))
  rw [rounds_succ]
  go_wp2_with (go_at_call 41; go_must (refine (within_true _ _ _ _ (by decide)).mono ?_; rintro e w9 ⟨rfl, rfl⟩; simp only []))
  rw [rounds_succ]
  go_wp2
  go_ret
  exact ⟨rfl, HT.out.now.2⟩
end Go.Proofs.Ytppkibgemacdbaa
