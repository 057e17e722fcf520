import Derived.Test.YtppkibgemacdbaaSbC
namespace Go.Proofs.Ytppkibgemacdbaa
open Go.RowKit Go.WideShapes Go.ChangeShapes

/-! bearerErr, bearersErr, openAll of right bearers -/
set_option maxRecDepth 100000 in
set_option maxHeartbeats 8000000 in
theorem bearerErr_zero (B C P : Int) (A : Option Addr) (c n : Nat) (T : List Int) (x : Ber) (w : World) (ho : OkR T x) (hk : x.kd = 0) :
    Calls Try.prog 27 #[.agg #[.int .i64 B, .int .i64 C, .int .i64 P, .slice A n c], .agg #[strV x.nm, .int .i64 x.kd, .int .i64 x.pr, .int .i64 x.wt, .int .i64 x.pw, .int .i64 x.le, .int .i64 x.bu, .int .i64 x.ra, .int .i64 x.de]] w fun e w' => e = .returned (.int .i64 0) ∧ Below w.heap.size w w' := by
  have HIN := hide (fun W => isName_sched x.nm W (OkB.nm_ ho))
  obtain ⟨e1, e2, e3, e4⟩ := OkB.best ho hk
  have H1 := hide (show withinB x.pr 0 100 = true by have := OkB.pr_ ho; simp [withinB]; omega)
  have H2 := hide (show withinB x.wt 1 100 = true by have := OkB.wt_ ho; simp [withinB]; omega)
  have H3 := hide (show withinB x.pw 0 100000 = true by have := OkB.pw_ ho; simp [withinB]; omega)
  rw [hk, e1, e2, e3, e4]
  have HT := hide (((stay_blk (blk_up w 74 32 #[.int .i64 B, .int .i64 C, .int .i64 P, .slice A n c] #[strV x.nm, .int .i64 0, .int .i64 x.pr, .int .i64 x.wt, .int .i64 x.pw, .int .i64 0, .int .i64 0, .int .i64 0, .int .i64 0]))).and (stay_below (((Below.refl _ w).alloc (Nat.le_refl _) (.cells #[.int .i64 B, .int .i64 C, .int .i64 P, .slice A n c] 74)).alloc (by simp) (.cells #[strV x.nm, .int .i64 0, .int .i64 x.pr, .int .i64 x.wt, .int .i64 x.pw, .int .i64 0, .int .i64 0, .int .i64 0, .int .i64 0] 32))))
  clear ho hk e1 e2 e3 e4
  go_enter Try.func27, Try.ntmps27
  go_wp2_with (go_at_call 41; go_must (refine (within_sy _ _ _ _).mono ?_; rintro e w' ⟨rfl, rfl⟩; (first | rw [H1.out] | rw [H2.out] | rw [H3.out]); simp only []))
  obtain ⟨W0, hW0⟩ : ∃ W0, (w.alloc (.cells #[.int .i64 B, .int .i64 C, .int .i64 P, .slice A n c] 74)).alloc (.cells #[strV x.nm, .int .i64 0, .int .i64 x.pr, .int .i64 x.wt, .int .i64 x.pw, .int .i64 0, .int .i64 0, .int .i64 0, .int .i64 0] 32) = W0 := ⟨_, rfl⟩
  rw [hW0] at HT ⊢
  clear hW0
  refine wp_region_held_drew (S := fun w' => Below W0.heap.size W0 w') (by kernel_rfl) (below_drewN (Below.refl W0.heap.size W0) 1) (fun hHeld => ?_)
  refine take_at (i := 0) 21 (v := .pointer (some ⟨w.heap.size + 1, 0, none⟩)) rfl rfl (by kernel_rfl) (by kernel_rfl) (by kernel_rfl) (fun _ _ _ h => h) (Or.inl ⟨by rfl, by intro w_ hSw; go_simp⟩) (by assumption) ?_
  try simp only [Act.put, List.setIfInBounds_toArray, List.set_cons_zero, List.set_cons_succ]
  refine take_at (i := 1) 22 (v := strV x.nm) rfl rfl (by kernel_rfl) (by kernel_rfl) (by kernel_rfl) (fun _ _ _ h => h) (Or.inl ⟨by rfl, by intro w_ hSw; have c0 : w_.cell? ⟨w.heap.size + 1, 0, none⟩ = some (strV x.nm) := (HT.out _ hSw).1.cell 0; go_simp⟩) (by assumption) ?_
  try simp only [Act.put, List.setIfInBounds_toArray, List.set_cons_zero, List.set_cons_succ]
  refine take_at (i := 4) 25 (v := .pointer (some ⟨w.heap.size + 1, 1, none⟩)) rfl rfl (by kernel_rfl) (by kernel_rfl) (by kernel_rfl) (fun _ _ _ h => h) (Or.inl ⟨by rfl, by intro w_ hSw; go_simp⟩) (by assumption) ?_
  try simp only [Act.put, List.setIfInBounds_toArray, List.set_cons_zero, List.set_cons_succ]
  refine take_at (i := 5) 26 (v := .int .i64 0) rfl rfl (by kernel_rfl) (by kernel_rfl) (by kernel_rfl) (fun _ _ _ h => h) (Or.inl ⟨by rfl, by intro w_ hSw; have c0 : w_.cell? ⟨w.heap.size + 1, 1, none⟩ = some (.int .i64 0) := (HT.out _ hSw).1.cell 1; go_simp⟩) (by assumption) ?_
  try simp only [Act.put, List.setIfInBounds_toArray, List.set_cons_zero, List.set_cons_succ]
  refine take_at (i := 8) 29 (v := .bool true) rfl rfl (by kernel_rfl) (by kernel_rfl) (by kernel_rfl) (fun _ _ _ h => h) (Or.inl ⟨by rfl, by intro w_ hSw; go_simp⟩) (by assumption) ?_
  try simp only [Act.put, List.setIfInBounds_toArray, List.set_cons_zero, List.set_cons_succ]
  refine wpAnyH_ready (rs := [2]) (by kernel_rfl) (by simp) ?_
  refine AllReadyH.cons rfl (fun K hK => ?_) AllReadyH.nil
  go_simp
  go_at_call 47
  refine (HIN.out _).mono ?_
  rintro e w2 ⟨rfl, hb⟩
  replace hHeld := Below.step hHeld hb
  clear hb
  simp only []
  refine hK.out _ _ hHeld (fun hHeld => ?_)
  clear hK K
  try simp only [Act.put, List.setIfInBounds_toArray, List.set_cons_zero, List.set_cons_succ]
  refine wpAnyH_ready (rs := [3]) (by kernel_rfl) (by simp) ?_
  refine AllReadyH.cons rfl (fun K hK => ?_) AllReadyH.nil
  go_simp
  go_at_call 28
  refine (unless_any true 4 _).mono ?_
  rintro e w' ⟨rfl, rfl⟩
  simp only [unlessE, if_true]
  refine hK.out _ _ hHeld (fun hHeld => ?_)
  clear hK K
  try simp only [Act.put, List.setIfInBounds_toArray, List.set_cons_zero, List.set_cons_succ]
  refine wpAnyH_ready (rs := [6]) (by kernel_rfl) (by simp) ?_
  refine AllReadyH.cons rfl (fun K hK => ?_) AllReadyH.nil
  go_simp
  go_at_call 41
  refine (within_sy 0 0 2 _).mono ?_
  rintro e w' ⟨rfl, rfl⟩
  rw [show withinB 0 0 2 = true by decide]
  simp only []
  refine hK.out _ _ hHeld (fun hHeld => ?_)
  clear hK K
  try simp only [Act.put, List.setIfInBounds_toArray, List.set_cons_zero, List.set_cons_succ]
  refine wpAnyH_ready (rs := [7]) (by kernel_rfl) (by simp) ?_
  refine AllReadyH.cons rfl (fun K hK => ?_) AllReadyH.nil
  go_simp
  go_at_call 28
  refine (unless_any true 15 _).mono ?_
  rintro e w' ⟨rfl, rfl⟩
  simp only [unlessE, if_true]
  refine hK.out _ _ hHeld (fun hHeld => ?_)
  clear hK K
  try simp only [Act.put, List.setIfInBounds_toArray, List.set_cons_zero, List.set_cons_succ]
  refine wpAnyH_ready (rs := [9]) (by kernel_rfl) (by simp) ?_
  refine AllReadyH.cons rfl (fun K hK => ?_) AllReadyH.nil
  go_simp
  go_at_call 28
  refine (unless_any true 2 _).mono ?_
  rintro e w' ⟨rfl, rfl⟩
  simp only [unlessE, if_true]
  refine hK.out _ _ hHeld (fun hHeld => ?_)
  clear hK K
  try simp only [Act.put, List.setIfInBounds_toArray, List.set_cons_zero, List.set_cons_succ]
  refine wpAnyH_ready (rs := [10]) (by kernel_rfl) (by simp) ?_
  refine AllReadyH.cons rfl (fun K hK => ?_) AllReadyH.nil
  go_simp
  replace hHeld := hHeld.alloc hHeld.size (.cells #[.int .i64 0, .int .i64 0, .int .i64 0] 36)
  refine hK.out _ _ hHeld (fun hHeld => ?_)
  clear hK K
  try simp only [Act.put, List.setIfInBounds_toArray, List.set_cons_zero, List.set_cons_succ]
  refine wpAnyH_ready (rs := [11]) (by kernel_rfl) (by simp) ?_
  refine AllReadyH.cons rfl (fun K hK => ?_) AllReadyH.nil
  go_simp
  go_at_call 26
  refine (first3 w2 _ 0 0 0 rfl).mono ?_
  rintro e w8 ⟨rfl, rfl⟩
  simp only [firstOf, if_true]
  refine hK.out _ _ hHeld (fun hHeld => ?_)
  clear hK K
  try simp only [Act.put, List.setIfInBounds_toArray, List.set_cons_zero, List.set_cons_succ]
  refine take_at (i := 12) 6 (v := .int .i64 0) rfl rfl (by kernel_rfl) (by kernel_rfl) (by kernel_rfl) (fun _ _ _ h => h) (Or.inl ⟨by rfl, by intro w_ hSw; go_simp⟩) (by assumption) ?_
  try simp only [Act.put, List.setIfInBounds_toArray, List.set_cons_zero, List.set_cons_succ]
  refine wpAnyH_done (by kernel_rfl) ?_ _
  replace HT := hide (HT.out.step hHeld)
  clear hHeld
  obtain ⟨W5, hW5⟩ : ∃ W5, w2.alloc (.cells #[.int .i64 0, .int .i64 0, .int .i64 0] 36) = W5 := ⟨_, rfl⟩
  rw [hW5] at HT ⊢
  clear hW5
  have b1 : W5.cell? ⟨w.heap.size + 1, 1, none⟩ = some (.int .i64 0) := HT.out.now.1.cell 1
  have b5 : W5.cell? ⟨w.heap.size + 1, 5, none⟩ = some (.int .i64 0) := HT.out.now.1.cell 5
  have b6 : W5.cell? ⟨w.heap.size + 1, 6, none⟩ = some (.int .i64 0) := HT.out.now.1.cell 6
  have b7 : W5.cell? ⟨w.heap.size + 1, 7, none⟩ = some (.int .i64 0) := HT.out.now.1.cell 7
  have b8 : W5.cell? ⟨w.heap.size + 1, 8, none⟩ = some (.int .i64 0) := HT.out.now.1.cell 8
  go_wp2_with (go_at_call 28; go_must (refine (unless_any true 3 _).mono ?_; rintro e w7 ⟨rfl, rfl⟩; simp only [unlessE, if_true]))
  go_ret
  exact ⟨rfl, HT.out.now.2⟩
theorem bearerErr_all (B C P : Int) (A : Option Addr) (c n : Nat) (T : List Int) (x : Ber) (w : World) (hn : T.length = n) (hs : Sl w A (iv T)) (hs2 : OkS B C P T) (ho : OkR T x) :
    Calls Try.prog 27 #[.agg #[.int .i64 B, .int .i64 C, .int .i64 P, .slice A n c], .agg #[strV x.nm, .int .i64 x.kd, .int .i64 x.pr, .int .i64 x.wt, .int .i64 x.pw, .int .i64 x.le, .int .i64 x.bu, .int .i64 x.ra, .int .i64 x.de]] w fun e w' => e = .returned (.int .i64 0) ∧ Below w.heap.size w w' := by
  by_cases h : x.kd = 0
  · exact bearerErr_zero B C P A c n T x w ho h
  · exact bearerErr_ok B C P A c n T x.nm x.kd x.pr x.wt x.pw x.le x.bu x.ra x.de w hn hs (by have := hs2.few; omega) ho (fun i h => (hs2.in_ i h).1) h
end Go.Proofs.Ytppkibgemacdbaa
