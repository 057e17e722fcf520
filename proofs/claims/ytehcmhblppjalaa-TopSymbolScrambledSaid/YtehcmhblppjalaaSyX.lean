import Derived.Test.YtehcmhblppjalaaSyV
namespace Go.Proofs.Ytehcmhblppjalaa
open Go.RowKit Go.WideShapes Go.ChangeShapes

/-! the checks of one number received of order four; its soft bits (program) -/
set_option maxHeartbeats 4000000 in
theorem smallPoint_sy (x y n : Int) (w : World) (hn : 0 ≤ n ∧ n ≤ 1000000000) (hx : withinB x (-n) n = true) (hy : withinB y (-n) n = true) : Calls Try.prog 50 #[.agg #[.int .i64 x, .int .i64 y], .int .i64 n] w fun e w' => e = .returned (.bool true) ∧ Below w.heap.size w w' := by
  have HX := hide (fun W => small_sy x n (by omega) (by omega) W)
  have HY := hide (fun W => small_sy y n (by omega) (by omega) W)
  rw [hx] at HX
  rw [hy] at HY
  clear hx hy hn
  go_enter Try.func50, Try.ntmps50
  go_wp2_with (first
    | (go_at_call 54; (refine (HX.out _).mono ?_; rintro e w' ⟨rfl, rfl⟩))
    | (go_at_call 54; (refine (HY.out _).mono ?_; rintro e w' ⟨rfl, rfl⟩)))
  go_ret
  exact ⟨rfl, by go_grown⟩
theorem symbolsErr1_sy (x y : Int) (w : World) (hx : withinB x (-100000000) 100000000 = true) (hy : withinB y (-100000000) 100000000 = true) : Calls Try.prog 49 #[.agg #[.int .i64 x, .int .i64 y]] w fun e w' => e = .returned (.bool false) ∧ Below w.heap.size w w' := by
  have H := hide (fun W => smallPoint_sy x y 100000000 W (by omega) hx hy)
  clear hx hy
  go_enter Try.func49, Try.ntmps49
  go_wp2_with (go_at_call 50; go_must (refine (H.out _).mono ?_; rintro e w1 ⟨rfl, hb⟩; have HB := hide hb; clear hb))
  go_ret
  exact ⟨rfl, Below.step (show Below w.heap.size w (w.alloc (.cells #[.int .i64 x, .int .i64 y] 43)) from by go_grown) HB.out⟩
theorem indexGauss (bg cg : Nat) (x y : Int) (w : World) (hx : withinB x (-100000000) 100000000 = true) (hy : withinB y (-100000000) 100000000 = true) (h0 : w.cell? ⟨bg, 0, none⟩ = some (.int .i64 x)) (h1 : w.cell? ⟨bg, 1, none⟩ = some (.int .i64 y)) :
    Calls Try.prog 53 #[.slice (some ⟨bg, 0, none⟩) 1 cg, .func (.func 49) #[] #[]] w fun e w' => e = .returned (.int .i64 (-1)) ∧ Below w.heap.size w w' := by
  have H := hide (fun W => symbolsErr1_sy x y W hx hy)
  clear hx hy
  go_enter Try.func53, Try.ntmps53
  go_wp2
  refine wp_loop_rounds 2 ?_
  rw [rounds_succ]
  go_wp2_with (go_at_call 49; go_must (refine (H.out _).mono ?_; rintro e w1 ⟨rfl, hb⟩; have HB := hide hb; clear hb))
  rw [rounds_succ]
  go_wp2
  go_ret
  exact ⟨rfl, HB.out⟩
theorem containsGauss (bg cg : Nat) (x y : Int) (w : World) (hx : withinB x (-100000000) 100000000 = true) (hy : withinB y (-100000000) 100000000 = true) (h0 : w.cell? ⟨bg, 0, none⟩ = some (.int .i64 x)) (h1 : w.cell? ⟨bg, 1, none⟩ = some (.int .i64 y)) :
    Calls Try.prog 48 #[.slice (some ⟨bg, 0, none⟩) 1 cg, .func (.func 49) #[] #[]] w fun e w' => e = .returned (.bool false) ∧ Below w.heap.size w w' := by
  have H := hide (indexGauss bg cg x y w hx hy h0 h1)
  clear hx hy h0 h1
  go_enter Try.func48, Try.ntmps48
  go_wp2_with (go_at_call 53; go_must (refine (H.out).mono ?_; rintro e w1 ⟨rfl, hb⟩; have HB := hide hb; clear hb))
  go_ret
  exact ⟨rfl, HB.out⟩
theorem symbolsErr_sy (bg cg : Nat) (x y : Int) (w : World) (hx : withinB x (-100000000) 100000000 = true) (hy : withinB y (-100000000) 100000000 = true) (h0 : w.cell? ⟨bg, 0, none⟩ = some (.int .i64 x)) (h1 : w.cell? ⟨bg, 1, none⟩ = some (.int .i64 y)) :
    Calls Try.prog 40 #[.slice (some ⟨bg, 0, none⟩) 1 cg] w fun e w' => e = .returned (.int .i64 0) ∧ Below w.heap.size w w' := by
  have H := hide (containsGauss bg cg x y w hx hy h0 h1)
  have HU := hide (fun e W => unless_any true e W)
  clear hx hy h0 h1
  go_enter Try.func40, Try.ntmps40
  go_wp2_with (first
    | (go_at_call 48; go_must (refine H.out.mono ?_; rintro e w1 ⟨rfl, hb⟩; have HB := hide hb; clear hb))
    | (go_at_call 24; go_must (refine (HU.out _ _).mono ?_; rintro e w2 ⟨rfl, rfl⟩; simp only [unlessE, if_true]))
    | (go_at_call 18; go_must (refine (first3z _ _ rfl).mono ?_; rintro e w2 ⟨rfl, rfl⟩; simp only [])))
  go_ret
  exact ⟨rfl, HB.out.alloc HB.out.size _⟩
theorem orderErr4 (w : World) : Calls Try.prog 29 #[.int .i64 4] w fun e w' => e = .returned (.int .i64 0) ∧ Below w.heap.size w w' := by
  have HU := hide (fun e W => unless_any true e W)
  go_enter Try.func29, Try.ntmps29
  go_wp2
  refine wp_loop_rounds 2 ?_
  rw [rounds_succ]
  go_wp2
  rw [rounds_succ]
  go_wp2_with (go_at_call 24; go_must (refine (HU.out _ _).mono ?_; rintro e w2 ⟨rfl, rfl⟩; simp only [unlessE, if_true]))
  go_ret
  exact ⟨rfl, by go_grown⟩
set_option maxRecDepth 100000 in
set_option maxHeartbeats 4000000 in
theorem receivedErr_sy (bg cg : Nat) (w : World) (h0 : w.cell? ⟨bg, 0, none⟩ = some (.int .i64 5)) (h1 : w.cell? ⟨bg, 1, none⟩ = some (.int .i64 1)) :
    Calls Try.prog 32 #[.agg #[.int .i64 4, .int .i64 2, .slice (some ⟨bg, 0, none⟩) 1 cg]] w fun e w' => e = .returned (.int .i64 0) ∧ Below w.heap.size w w' := by
  have HG := hide (fun W (h : Below w.heap.size w W) => symbolsErr_sy bg cg 5 1 W rfl rfl ((h.cell (lt_of_cell h0)).trans h0) ((h.cell (lt_of_cell h1)).trans h1))
  have HU := hide (fun e W => unless_any true e W)
  have HO := hide orderErr4
  have HW := hide (fun W => within_sy 2 1 10000000 W)
  rw [show withinB 2 1 10000000 = true by rw [withinB_iff]; omega] at HW
  have HX := hide ((stay_new w 45 #[.int .i64 4, .int .i64 2, .slice (some ⟨bg, 0, none⟩) 1 cg]).and (stay_below (show Below w.heap.size w (w.alloc (.cells #[.int .i64 4, .int .i64 2, .slice (some ⟨bg, 0, none⟩) 1 cg] 45)) from by go_grown)))
  clear h0 h1
  go_enter Try.func32, Try.ntmps32
  go_wp2
  obtain ⟨v, hv⟩ : ∃ W, w.alloc (.cells #[.int .i64 4, .int .i64 2, .slice (some ⟨bg, 0, none⟩) 1 cg] 45) = W := ⟨_, rfl⟩
  rw [hv] at HX ⊢
  clear hv
  have HH := hide (show (fun w' => Blk w' w.heap.size 45 #[.int .i64 4, .int .i64 2, .slice (some ⟨bg, 0, none⟩) 1 cg] ∧ Below w.heap.size w w') v.drew from ⟨HX.out.now.1, below_drewN HX.out.now.2 1⟩)
  refine wp_region_held_drew (S := fun w' => Blk w' w.heap.size 45 #[.int .i64 4, .int .i64 2, .slice (some ⟨bg, 0, none⟩) 1 cg] ∧ Below w.heap.size w w') (by kernel_rfl) HH.out (fun hHeld => ?_)
  refine take_at (i := 0) 3 (v := .pointer (some ⟨w.heap.size, 0, none⟩)) rfl rfl (by kernel_rfl) (by kernel_rfl) (by kernel_rfl) (fun _ _ _ h => h) (Or.inl ⟨by rfl, by intro w hSw; go_simp⟩) (by assumption) ?_
  try simp only [Act.put, List.setIfInBounds_toArray, List.set_cons_zero, List.set_cons_succ]
  refine take_at (i := 1) 4 (v := .int .i64 4) rfl rfl (by kernel_rfl) (by kernel_rfl) (by kernel_rfl) (fun _ _ _ h => h) (Or.inl ⟨by rfl, by intro w1 hSw; have q0 := hSw.1.cell 0; go_simp⟩) (by assumption) ?_
  try simp only [Act.put, List.setIfInBounds_toArray, List.set_cons_zero, List.set_cons_succ]
  refine take_at (i := 3) 6 (v := .pointer (some ⟨w.heap.size, 1, none⟩)) rfl rfl (by kernel_rfl) (by kernel_rfl) (by kernel_rfl) (fun _ _ _ h => h) (Or.inl ⟨by rfl, by intro w hSw; go_simp⟩) (by assumption) ?_
  try simp only [Act.put, List.setIfInBounds_toArray, List.set_cons_zero, List.set_cons_succ]
  refine take_at (i := 4) 7 (v := .int .i64 2) rfl rfl (by kernel_rfl) (by kernel_rfl) (by kernel_rfl) (fun _ _ _ h => h) (Or.inl ⟨by rfl, by intro w1 hSw; have q0 := hSw.1.cell 1; go_simp⟩) (by assumption) ?_
  try simp only [Act.put, List.setIfInBounds_toArray, List.set_cons_zero, List.set_cons_succ]
  refine take_at (i := 7) 10 (v := .pointer (some ⟨w.heap.size, 2, none⟩)) rfl rfl (by kernel_rfl) (by kernel_rfl) (by kernel_rfl) (fun _ _ _ h => h) (Or.inl ⟨by rfl, by intro w hSw; go_simp⟩) (by assumption) ?_
  try simp only [Act.put, List.setIfInBounds_toArray, List.set_cons_zero, List.set_cons_succ]
  refine take_at (i := 8) 11 (v := .slice (some ⟨bg, 0, none⟩) 1 cg) rfl rfl (by kernel_rfl) (by kernel_rfl) (by kernel_rfl) (fun _ _ _ h => h) (Or.inl ⟨by rfl, by intro w1 hSw; have q0 := hSw.1.cell 2; go_simp⟩) (by assumption) ?_
  try simp only [Act.put, List.setIfInBounds_toArray, List.set_cons_zero, List.set_cons_succ]
  obtain ⟨v0, hv0⟩ : ∃ W, v.drew = W := ⟨_, rfl⟩
  rw [hv0] at HH hHeld ⊢
  clear hv0
  refine wpAnyH_ready (rs := [2]) (by kernel_rfl) (by simp) ?_
  refine AllReadyH.cons rfl (fun K hK => ?_) AllReadyH.nil
  go_simp
  refine (HO.out _).mono ?_
  rintro e u ⟨rfl, hb⟩
  have HHa := hide (show (fun w' => Blk w' w.heap.size 45 #[.int .i64 4, .int .i64 2, .slice (some ⟨bg, 0, none⟩) 1 cg] ∧ Below w.heap.size w w') u from ⟨HH.out.1.below hb HH.out.1.lt, Below.step HH.out.2 hb⟩)
  clear hb
  replace HH := HHa
  clear HHa
  simp only []
  refine hK.out _ _ HH.out (fun hHeld => ?_)
  clear hK K
  try simp only [Act.put, List.setIfInBounds_toArray, List.set_cons_zero, List.set_cons_succ]
  refine wpAnyH_ready (rs := [5]) (by kernel_rfl) (by simp) ?_
  refine AllReadyH.cons rfl (fun K hK => ?_) AllReadyH.nil
  go_simp
  refine (HW.out _).mono ?_
  rintro e u2 ⟨rfl, rfl⟩
  simp only []
  refine hK.out _ _ HH.out (fun hHeld => ?_)
  clear hK K
  try simp only [Act.put, List.setIfInBounds_toArray, List.set_cons_zero, List.set_cons_succ]
  refine wpAnyH_ready (rs := [6]) (by kernel_rfl) (by simp) ?_
  refine AllReadyH.cons rfl (fun K hK => ?_) AllReadyH.nil
  go_simp
  refine (HU.out _ _).mono ?_
  rintro e u2 ⟨rfl, rfl⟩
  simp only [unlessE, if_true]
  refine hK.out _ _ HH.out (fun hHeld => ?_)
  clear hK K
  try simp only [Act.put, List.setIfInBounds_toArray, List.set_cons_zero, List.set_cons_succ]
  refine wpAnyH_ready (rs := [9]) (by kernel_rfl) (by simp) ?_
  refine AllReadyH.cons rfl (fun K hK => ?_) AllReadyH.nil
  go_simp
  refine (HG.out _ HH.out.2).mono ?_
  rintro e u2 ⟨rfl, hb⟩
  have HHa := hide (show (fun w' => Blk w' w.heap.size 45 #[.int .i64 4, .int .i64 2, .slice (some ⟨bg, 0, none⟩) 1 cg] ∧ Below w.heap.size w w') u2 from ⟨HH.out.1.below hb HH.out.1.lt, Below.step HH.out.2 hb⟩)
  clear hb
  replace HH := HHa
  clear HHa
  simp only []
  refine hK.out _ _ HH.out (fun hHeld => ?_)
  clear hK K
  try simp only [Act.put, List.setIfInBounds_toArray, List.set_cons_zero, List.set_cons_succ]
  refine wpAnyH_ready (rs := [10]) (by kernel_rfl) (by simp) ?_
  refine AllReadyH.cons rfl (fun K hK => ?_) AllReadyH.nil
  go_simp
  have HHA := hide (show (fun w' => Blk w' w.heap.size 45 #[.int .i64 4, .int .i64 2, .slice (some ⟨bg, 0, none⟩) 1 cg] ∧ Below w.heap.size w w') (u2.alloc (.cells #[.int .i64 0, .int .i64 0, .int .i64 0] 28)) from ⟨HH.out.1.alloc _, HH.out.2.alloc HH.out.2.size _⟩)
  refine hK.out _ _ HHA.out (fun hHeld => ?_)
  clear hK K
  try simp only [Act.put, List.setIfInBounds_toArray, List.set_cons_zero, List.set_cons_succ]
  refine wpAnyH_ready (rs := [11]) (by kernel_rfl) (by simp) ?_
  refine AllReadyH.cons rfl (fun K hK => ?_) AllReadyH.nil
  go_simp
  refine (first3z _ _ rfl).mono ?_
  rintro e w5 ⟨rfl, rfl⟩
  simp only []
  refine hK.out _ _ HHA.out (fun hHeld => ?_)
  clear hK K
  try simp only [Act.put, List.setIfInBounds_toArray, List.set_cons_zero, List.set_cons_succ]
  refine take_at (i := 12) 2 (v := .int .i64 0) rfl rfl (by kernel_rfl) (by kernel_rfl) (by kernel_rfl) (fun _ _ _ h => h) (Or.inl ⟨by rfl, by intro w hSw; go_simp⟩) (by assumption) ?_
  try simp only [Act.put, List.setIfInBounds_toArray, List.set_cons_zero, List.set_cons_succ]
  refine wpAnyH_done (by kernel_rfl) ?_ _
  go_wp2
  go_ret
  exact ⟨rfl, HHA.out.2⟩
end Go.Proofs.Ytehcmhblppjalaa
