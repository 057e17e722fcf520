import Derived.Test.YtfolipkbcibgdaaGpE
import Derived.Test.YtfolipkbcibgdaaGrY
namespace Go.Proofs.Ytfolipkbcibgdaa
open Go.RowKit Go.WideShapes Go.ChangeShapes

/-! the owner of the example's element -/
theorem exP_at {A : Option Addr} {w : World} (h : Prts w A exP) : ∃ b o, A = some ⟨b, o, none⟩ ∧ w.cell? ⟨b, o, none⟩ = some (.int .i64 0) ∧ w.cell? ⟨b, o + 1, none⟩ = some (.int .i64 0) ∧ w.cell? ⟨b, o + 2, none⟩ = some (.int .i64 4) := by
  obtain ⟨b, o, e, h0, h1, h2⟩ := Prts.at_ h 0 (by decide)
  simp only [Nat.zero_mul, Nat.add_zero] at h0 h1 h2
  exact ⟨b, o, e, h0, h1, h2⟩
theorem slots0 (w : World) : Calls Try.prog 25 #[.int .i64 0] w fun e w' => e = .returned (.int .i64 1) ∧ w = w' := slotsOf_int (mu := 0) (by omega) w
set_option maxRecDepth 100000 in
set_option maxHeartbeats 8000000 in
theorem checkPlace_ex (A3 A4 : Option Addr) (c3 c4 : Nat) (w : World) (hP : Prts w A3 exP) (hS : Sigs w A4 exS) :
    Calls Try.prog 33 #[.agg #[strV [99], .int .i64 4, .int .i64 48, .slice A3 1 c3, .slice A4 4 c4], .agg #[.int .i64 0, .int .i64 0, .int .i64 0, .int .i64 2, .int .i64 23]] w fun e w' => e = .returned (.int .i64 0) ∧ Below w.heap.size w w' := by
  have HOP := hide (fun W k k2 => (show Calls Try.prog 30 #[.agg #[strV [99], .int .i64 4, .int .i64 48, .slice A3 1 c3, .slice A4 4 c4]] W fun e w' => e = .returned (.tuple #[.agg #[strV [99], .int .i64 4, .int .i64 48, .slice A3 1 c3, .slice A4 4 c4], .int .i64 0]) ∧ Below W.heap.size W w' from open_ok [99] 4 48 A3 A4 c3 c4 exP exS W ex_okN ex_okC k k2))
  have HT := hide ((((((stay_blk (Blk.new w 25 #[strV [99], .int .i64 4, .int .i64 48, .slice A3 1 c3, .slice A4 4 c4])).alloc (.cells #[.int .i64 0, .int .i64 0, .int .i64 0, .int .i64 2, .int .i64 23] 47)).and (stay_blk (blk_up w 25 47 #[strV [99], .int .i64 4, .int .i64 48, .slice A3 1 c3, .slice A4 4 c4] #[.int .i64 0, .int .i64 0, .int .i64 0, .int .i64 2, .int .i64 23]))).and (stay_below (((Below.refl _ w).alloc (Nat.le_refl _) (.cells #[strV [99], .int .i64 4, .int .i64 48, .slice A3 1 c3, .slice A4 4 c4] 25)).alloc (by simp) (.cells #[.int .i64 0, .int .i64 0, .int .i64 0, .int .i64 2, .int .i64 23] 47)))).and (((stay_rws hP).alloc (.cells #[strV [99], .int .i64 4, .int .i64 48, .slice A3 1 c3, .slice A4 4 c4] 25)).alloc (.cells #[.int .i64 0, .int .i64 0, .int .i64 0, .int .i64 2, .int .i64 23] 47))).and (((stay_rws hS).alloc (.cells #[strV [99], .int .i64 4, .int .i64 48, .slice A3 1 c3, .slice A4 4 c4] 25)).alloc (.cells #[.int .i64 0, .int .i64 0, .int .i64 0, .int .i64 2, .int .i64 23] 47)))
  obtain ⟨b, o, rfl, -⟩ := exP_at hP
  have HPQ := hide (fun W (h : Prts W (some ⟨b, o, none⟩) exP) => show W.cell? ⟨b, o, none⟩ = some (.int .i64 0) ∧ W.cell? ⟨b, o + 1, none⟩ = some (.int .i64 0) ∧ W.cell? ⟨b, o + 2, none⟩ = some (.int .i64 4) from by
    obtain ⟨b', o', e, h⟩ := exP_at h
    injection e with e; injection e with e1 e2; subst e1 e2
    exact h)
  clear hP hS
  obtain ⟨nmv, hnm⟩ : ∃ S, strV [99] = S := ⟨_, rfl⟩
  have hone : nmv.oneCell' = true := by rw [← hnm]; rfl
  have wr0 : IntKind.i64.wrap 0 = 0 := IntWalk.i64_in _ (by omega)
  have wr48 : IntKind.i64.wrap 48 = 48 := IntWalk.i64_in _ (by omega)
  have wr47 : IntKind.i64.wrap 47 = 47 := IntWalk.i64_in _ (by omega)
  rw [hnm] at HT HOP ⊢
  clear hnm
  obtain ⟨W0, hW0⟩ : ∃ W0, (w.alloc (.cells #[nmv, .int .i64 4, .int .i64 48, .slice (some ⟨b, o, none⟩) 1 c3, .slice A4 4 c4] 25)).alloc (.cells #[.int .i64 0, .int .i64 0, .int .i64 0, .int .i64 2, .int .i64 23] 47) = W0 := ⟨_, rfl⟩
  rw [hW0] at HT
  have z0 : W0.cell? ⟨w.heap.size, 0, none⟩ = some (nmv) := HT.out.now.1.1.1.1.cell 0
  have z1 : W0.cell? ⟨w.heap.size, 1, none⟩ = some (.int .i64 4) := HT.out.now.1.1.1.1.cell 1
  have z2 : W0.cell? ⟨w.heap.size, 2, none⟩ = some (.int .i64 48) := HT.out.now.1.1.1.1.cell 2
  have z3 : W0.cell? ⟨w.heap.size, 3, none⟩ = some (.slice (some ⟨b, o, none⟩) 1 c3) := HT.out.now.1.1.1.1.cell 3
  have z4 : W0.cell? ⟨w.heap.size, 4, none⟩ = some (.slice A4 4 c4) := HT.out.now.1.1.1.1.cell 4
  go_enter Try.func33, Try.ntmps33
  go_wp2_with fail
  first | rw [hW0] | skip
  clear hW0
  go_at_call 30
  refine (HOP.out _ HT.out.now.1.2 HT.out.now.2).mono ?_
  rintro e w1 ⟨rfl, hb⟩
  replace HT := hide (HT.out.step hb)
  clear hb HOP z0 z1 z2 z3 z4
  simp only []
  go_wp2_with (refine wpList_store_row rfl 58 (.tmp 5) (.tmp 12) rfl w1.heap.size #[nmv, .int .i64 4, .int .i64 48, .slice (some ⟨b, o, none⟩) 1 c3, .slice A4 4 c4] rfl rfl 58 #[.string ⟨#[]⟩, .int .i64 0, .int .i64 0, .slice none 0 0, .slice none 0 0] (Blk.new w1 58 #[.string ⟨#[]⟩, .int .i64 0, .int .i64 0, .slice none 0 0, .slice none 0 0]) (by kernel_rfl) rfl (by simpa [Value.oneCell'] using hone) ?_; have HX := hide ((Blk.new w1 58 #[.string ⟨#[]⟩, .int .i64 0, .int .i64 0, .slice none 0 0, .slice none 0 0]).row #[nmv, .int .i64 4, .int .i64 48, .slice (some ⟨b, o, none⟩) 1 c3, .slice A4 4 c4]); replace HT := hide ((HT.out.step (Below.row (g := w1.heap.size) ((Below.refl w1.heap.size w1).alloc (Nat.le_refl _) (.cells #[.string ⟨#[]⟩, .int .i64 0, .int .i64 0, .slice none 0 0, .slice none 0 0] 58)) (Nat.le_refl _) #[nmv, .int .i64 4, .int .i64 48, .slice (some ⟨b, o, none⟩) 1 c3, .slice A4 4 c4])).and (stay_blk HX.out)); clear HX)
  obtain ⟨Y, hY⟩ : ∃ Y, w1.heap.size = Y := ⟨_, rfl⟩
  obtain ⟨W1, hW1⟩ : ∃ W1, (w1.alloc (.cells #[.string ⟨#[]⟩, .int .i64 0, .int .i64 0, .slice none 0 0, .slice none 0 0] 58)).setRow w1.heap.size #[nmv, .int .i64 4, .int .i64 48, .slice (some ⟨b, o, none⟩) 1 c3, .slice A4 4 c4] = W1 := ⟨_, rfl⟩
  rw [hW1] at HT ⊢
  rw [hY] at HT ⊢
  clear hW1 hY
  refine wp_region_held_drew (S := fun w_ => Below W1.heap.size W1 w_) (by kernel_rfl) (below_drewN (Below.refl W1.heap.size W1) 1) (fun hHeld => ?_)
  refine take_at (i := 0) 14 (v := .int .i64 0) rfl rfl (by kernel_rfl) (by kernel_rfl) (by kernel_rfl) (fun _ _ _ h => h) (Or.inl ⟨by rfl, by intro w_ hSw; go_simp⟩) (by assumption) ?_
  try simp only [Act.put, List.setIfInBounds_toArray, List.set_cons_zero, List.set_cons_succ]
  refine take_at (i := 1) 15 (v := .agg #[nmv, .int .i64 4, .int .i64 48, .slice (some ⟨b, o, none⟩) 1 c3, .slice A4 4 c4]) rfl rfl (by kernel_rfl) (by kernel_rfl) (by kernel_rfl) (fun _ _ _ h => h) (Or.inl ⟨by rfl, by intro w_ hSw; have c0 : w_.cell? ⟨Y, 0, none⟩ = some (nmv) := (HT.out _ hSw).2.cell 0; have c1 : w_.cell? ⟨Y, 1, none⟩ = some (.int .i64 4) := (HT.out _ hSw).2.cell 1; have c2 : w_.cell? ⟨Y, 2, none⟩ = some (.int .i64 48) := (HT.out _ hSw).2.cell 2; have c3 : w_.cell? ⟨Y, 3, none⟩ = some (.slice (some ⟨b, o, none⟩) 1 c3) := (HT.out _ hSw).2.cell 3; have c4 : w_.cell? ⟨Y, 4, none⟩ = some (.slice A4 4 c4) := (HT.out _ hSw).2.cell 4; go_simp⟩) (by assumption) ?_
  try simp only [Act.put, List.setIfInBounds_toArray, List.set_cons_zero, List.set_cons_succ]
  refine take_at (i := 2) 16 (v := .pointer (some ⟨w.heap.size + 1, 0, none⟩)) rfl rfl (by kernel_rfl) (by kernel_rfl) (by kernel_rfl) (fun _ _ _ h => h) (Or.inl ⟨by rfl, by intro w_ hSw; go_simp⟩) (by assumption) ?_
  try simp only [Act.put, List.setIfInBounds_toArray, List.set_cons_zero, List.set_cons_succ]
  refine take_at (i := 3) 17 (v := .int .i64 0) rfl rfl (by kernel_rfl) (by kernel_rfl) (by kernel_rfl) (fun _ _ _ h => h) (Or.inl ⟨by rfl, by intro w_ hSw; have c0 : w_.cell? ⟨w.heap.size + 1, 0, none⟩ = some (.int .i64 0) := (HT.out _ hSw).1.1.1.1.2.cell 0; go_simp⟩) (by assumption) ?_
  try simp only [Act.put, List.setIfInBounds_toArray, List.set_cons_zero, List.set_cons_succ]
  refine take_at (i := 5) 19 (v := .pointer (some ⟨w.heap.size + 1, 1, none⟩)) rfl rfl (by kernel_rfl) (by kernel_rfl) (by kernel_rfl) (fun _ _ _ h => h) (Or.inl ⟨by rfl, by intro w_ hSw; go_simp⟩) (by assumption) ?_
  try simp only [Act.put, List.setIfInBounds_toArray, List.set_cons_zero, List.set_cons_succ]
  refine take_at (i := 6) 20 (v := .int .i64 0) rfl rfl (by kernel_rfl) (by kernel_rfl) (by kernel_rfl) (fun _ _ _ h => h) (Or.inl ⟨by rfl, by intro w_ hSw; have c1 : w_.cell? ⟨w.heap.size + 1, 1, none⟩ = some (.int .i64 0) := (HT.out _ hSw).1.1.1.1.2.cell 1; go_simp⟩) (by assumption) ?_
  try simp only [Act.put, List.setIfInBounds_toArray, List.set_cons_zero, List.set_cons_succ]
  refine wpAnyH_ready (rs := [4]) (by kernel_rfl) (by simp) ?_
  refine AllReadyH.cons rfl (fun K hK => ?_) AllReadyH.nil
  go_simp
  go_at_call 21
  refine (cpartErr_ok _ _ _ _ _ _ _ _ _ _ _ (by omega) (by omega)).mono ?_
  rintro e v2_1 ⟨rfl, hb⟩
  replace hHeld := Below.step hHeld hb
  clear hb
  try simp only []
  refine hK.out _ _ hHeld (fun hHeld => ?_)
  clear hK K
  try simp only [Act.put, List.setIfInBounds_toArray, List.set_cons_zero, List.set_cons_succ]
  refine wpAnyH_ready (rs := [7]) (by kernel_rfl) (by simp) ?_
  refine AllReadyH.cons rfl (fun K hK => ?_) AllReadyH.nil
  go_simp
  go_at_call 22
  refine (subframeErr_ok _ _ (by omega)).mono ?_
  rintro e w' ⟨rfl, rfl⟩
  try simp only []
  refine hK.out _ _ hHeld (fun hHeld => ?_)
  clear hK K
  try simp only [Act.put, List.setIfInBounds_toArray, List.set_cons_zero, List.set_cons_succ]
  refine wpAnyH_ready (rs := [8]) (by kernel_rfl) (by simp) ?_
  refine AllReadyH.cons rfl (fun K hK => ?_) AllReadyH.nil
  go_simp
  refine hK.out _ _ (hHeld.alloc hHeld.size _) (fun hHeld => ?_)
  clear hK K
  try simp only [Act.put, List.setIfInBounds_toArray, List.set_cons_zero, List.set_cons_succ]
  refine wpAnyH_ready (rs := [9]) (by kernel_rfl) (by simp) ?_
  refine AllReadyH.cons rfl (fun K hK => ?_) AllReadyH.nil
  go_simp
  go_at_call 20
  refine (first_z3 _ _ (by first | rfl | simp)).mono ?_
  rintro e w' ⟨rfl, rfl⟩
  try simp only []
  refine hK.out _ _ hHeld (fun hHeld => ?_)
  clear hK K
  try simp only [Act.put, List.setIfInBounds_toArray, List.set_cons_zero, List.set_cons_succ]
  refine take_at (i := 10) 6 (v := .int .i64 0) rfl rfl (by kernel_rfl) (by kernel_rfl) (by kernel_rfl) (fun _ _ _ h => h) (Or.inl ⟨by rfl, by intro w_ hSw; go_simp⟩) (by assumption) ?_
  try simp only [Act.put, List.setIfInBounds_toArray, List.set_cons_zero, List.set_cons_succ]
  refine wpAnyH_done (by kernel_rfl) ?_ _
  replace HT := hide (HT.out.step hHeld)
  clear hHeld
  obtain ⟨W2, hW2⟩ : ∃ W2, (v2_1.alloc (.cells #[.int .i64 0, .int .i64 0, .int .i64 0] 35)) = W2 := ⟨_, rfl⟩
  first | rw [hW2] at HT ⊢ | (change Hid (Stay (v2_1.alloc (.cells #[.int .i64 0, .int .i64 0, .int .i64 0] 35)) _) at HT; rw [hW2] at HT ⊢)
  clear hW2
  have z3 : W2.cell? ⟨w.heap.size, 3, none⟩ = some (.slice (some ⟨b, o, none⟩) 1 c3) := HT.out.now.1.1.1.1.1.cell 3
  have x0 : W2.cell? ⟨w.heap.size + 1, 0, none⟩ = some (.int .i64 0) := HT.out.now.1.1.1.1.2.cell 0
  obtain ⟨p0, p1, p2⟩ := HPQ.out _ HT.out.now.1.1.2
  go_wp2_with fail
  clear x0 z3 p0 p1 p2
  replace HT := hide ((HT.out.alloc (.cells #[.int .i64 0, .int .i64 0, .int .i64 4] 56)).and (stay_blk (Blk.new W2 56 #[.int .i64 0, .int .i64 0, .int .i64 4])))
  obtain ⟨Z, hZ⟩ : ∃ Z, W2.heap.size = Z := ⟨_, rfl⟩
  obtain ⟨W3, hW3⟩ : ∃ W3, W2.alloc (.cells #[.int .i64 0, .int .i64 0, .int .i64 4] 56) = W3 := ⟨_, rfl⟩
  rw [hW3] at HT ⊢
  rw [hZ] at HT ⊢
  clear hW3 hZ
  refine wp_region_held_drew (S := fun w_ => Below W3.heap.size W3 w_) (by kernel_rfl) (below_drewN (Below.refl W3.heap.size W3) 1) (fun hHeld => ?_)
  refine take_at (i := 0) 33 (v := .pointer (some ⟨w.heap.size + 1, 2, none⟩)) rfl rfl (by kernel_rfl) (by kernel_rfl) (by kernel_rfl) (fun _ _ _ h => h) (Or.inl ⟨by rfl, by intro w_ hSw; go_simp⟩) (by assumption) ?_
  try simp only [Act.put, List.setIfInBounds_toArray, List.set_cons_zero, List.set_cons_succ]
  refine take_at (i := 1) 34 (v := .int .i64 0) rfl rfl (by kernel_rfl) (by kernel_rfl) (by kernel_rfl) (fun _ _ _ h => h) (Or.inl ⟨by rfl, by intro w_ hSw; have c2 : w_.cell? ⟨w.heap.size + 1, 2, none⟩ = some (.int .i64 0) := (HT.out _ hSw).1.1.1.1.1.2.cell 2; go_simp⟩) (by assumption) ?_
  try simp only [Act.put, List.setIfInBounds_toArray, List.set_cons_zero, List.set_cons_succ]
  refine take_at (i := 2) 35 (v := .pointer (some ⟨Z, 0, none⟩)) rfl rfl (by kernel_rfl) (by kernel_rfl) (by kernel_rfl) (fun _ _ _ h => h) (Or.inl ⟨by rfl, by intro w_ hSw; go_simp⟩) (by assumption) ?_
  try simp only [Act.put, List.setIfInBounds_toArray, List.set_cons_zero, List.set_cons_succ]
  refine take_at (i := 3) 36 (v := .int .i64 0) rfl rfl (by kernel_rfl) (by kernel_rfl) (by kernel_rfl) (fun _ _ _ h => h) (Or.inl ⟨by rfl, by intro w_ hSw; have c0 : w_.cell? ⟨Z, 0, none⟩ = some (.int .i64 0) := (HT.out _ hSw).2.cell 0; go_simp⟩) (by assumption) ?_
  try simp only [Act.put, List.setIfInBounds_toArray, List.set_cons_zero, List.set_cons_succ]
  refine wpAnyH_ready (rs := [4]) (by kernel_rfl) (by simp) ?_
  refine AllReadyH.cons rfl (fun K hK => ?_) AllReadyH.nil
  go_simp
  go_at_call 25
  refine (slots0 _).mono ?_
  rintro e w' ⟨rfl, rfl⟩
  try simp only []
  refine hK.out _ _ hHeld (fun hHeld => ?_)
  clear hK K
  try simp only [Act.put, List.setIfInBounds_toArray, List.set_cons_zero, List.set_cons_succ]
  refine take_at (i := 5) 38 (v := .int .i64 0) rfl rfl (by kernel_rfl) (by kernel_rfl) (by kernel_rfl) (fun _ _ _ h => h) (Or.inl ⟨by rfl, by intro w_ hSw; go_simp⟩) (by assumption) ?_
  try simp only [Act.put, List.setIfInBounds_toArray, List.set_cons_zero, List.set_cons_succ]
  refine wpAnyH_ready (rs := [6]) (by kernel_rfl) (by simp) ?_
  refine AllReadyH.cons rfl (fun K hK => ?_) AllReadyH.nil
  go_simp
  go_at_call 37
  refine (within_yes _ _ _ (by omega) _).mono ?_
  rintro e w' ⟨rfl, rfl⟩
  try simp only []
  refine hK.out _ _ hHeld (fun hHeld => ?_)
  clear hK K
  try simp only [Act.put, List.setIfInBounds_toArray, List.set_cons_zero, List.set_cons_succ]
  refine take_at (i := 7) 40 (v := .bool true) rfl rfl (by kernel_rfl) (by kernel_rfl) (by kernel_rfl) (fun _ _ _ h => h) (Or.inl ⟨by rfl, by intro w_ hSw; go_simp⟩) (by assumption) ?_
  try simp only [Act.put, List.setIfInBounds_toArray, List.set_cons_zero, List.set_cons_succ]
  refine take_at (i := 8) 41 (v := .pointer (some ⟨w.heap.size + 1, 3, none⟩)) rfl rfl (by kernel_rfl) (by kernel_rfl) (by kernel_rfl) (fun _ _ _ h => h) (Or.inl ⟨by rfl, by intro w_ hSw; go_simp⟩) (by assumption) ?_
  try simp only [Act.put, List.setIfInBounds_toArray, List.set_cons_zero, List.set_cons_succ]
  refine take_at (i := 9) 42 (v := .int .i64 2) rfl rfl (by kernel_rfl) (by kernel_rfl) (by kernel_rfl) (fun _ _ _ h => h) (Or.inl ⟨by rfl, by intro w_ hSw; have c3 : w_.cell? ⟨w.heap.size + 1, 3, none⟩ = some (.int .i64 2) := (HT.out _ hSw).1.1.1.1.1.2.cell 3; go_simp⟩) (by assumption) ?_
  try simp only [Act.put, List.setIfInBounds_toArray, List.set_cons_zero, List.set_cons_succ]
  refine wpAnyH_ready (rs := [10]) (by kernel_rfl) (by simp) ?_
  refine AllReadyH.cons rfl (fun K hK => ?_) AllReadyH.nil
  go_simp
  go_at_call 37
  refine (within_yes _ _ _ (by omega) _).mono ?_
  rintro e w' ⟨rfl, rfl⟩
  try simp only []
  refine hK.out _ _ hHeld (fun hHeld => ?_)
  clear hK K
  try simp only [Act.put, List.setIfInBounds_toArray, List.set_cons_zero, List.set_cons_succ]
  refine take_at (i := 11) 44 (v := .bool true) rfl rfl (by kernel_rfl) (by kernel_rfl) (by kernel_rfl) (fun _ _ _ h => h) (Or.inl ⟨by rfl, by intro w_ hSw; go_simp⟩) (by assumption) ?_
  try simp only [Act.put, List.setIfInBounds_toArray, List.set_cons_zero, List.set_cons_succ]
  refine take_at (i := 12) 45 (v := .bool true) rfl rfl (by kernel_rfl) (by kernel_rfl) (by kernel_rfl) (fun _ _ _ h => h) (Or.inl ⟨by rfl, by intro w_ hSw; go_simp⟩) (by assumption) ?_
  try simp only [Act.put, List.setIfInBounds_toArray, List.set_cons_zero, List.set_cons_succ]
  refine take_at (i := 13) 46 (v := .pointer (some ⟨w.heap.size + 1, 4, none⟩)) rfl rfl (by kernel_rfl) (by kernel_rfl) (by kernel_rfl) (fun _ _ _ h => h) (Or.inl ⟨by rfl, by intro w_ hSw; go_simp⟩) (by assumption) ?_
  try simp only [Act.put, List.setIfInBounds_toArray, List.set_cons_zero, List.set_cons_succ]
  refine take_at (i := 14) 47 (v := .int .i64 23) rfl rfl (by kernel_rfl) (by kernel_rfl) (by kernel_rfl) (fun _ _ _ h => h) (Or.inl ⟨by rfl, by intro w_ hSw; have c4 : w_.cell? ⟨w.heap.size + 1, 4, none⟩ = some (.int .i64 23) := (HT.out _ hSw).1.1.1.1.1.2.cell 4; go_simp⟩) (by assumption) ?_
  try simp only [Act.put, List.setIfInBounds_toArray, List.set_cons_zero, List.set_cons_succ]
  refine take_at (i := 15) 48 (v := .pointer (some ⟨Z, 2, none⟩)) rfl rfl (by kernel_rfl) (by kernel_rfl) (by kernel_rfl) (fun _ _ _ h => h) (Or.inl ⟨by rfl, by intro w_ hSw; go_simp⟩) (by assumption) ?_
  try simp only [Act.put, List.setIfInBounds_toArray, List.set_cons_zero, List.set_cons_succ]
  refine take_at (i := 16) 49 (v := .int .i64 4) rfl rfl (by kernel_rfl) (by kernel_rfl) (by kernel_rfl) (fun _ _ _ h => h) (Or.inl ⟨by rfl, by intro w_ hSw; have c2 : w_.cell? ⟨Z, 2, none⟩ = some (.int .i64 4) := (HT.out _ hSw).2.cell 2; go_simp⟩) (by assumption) ?_
  try simp only [Act.put, List.setIfInBounds_toArray, List.set_cons_zero, List.set_cons_succ]
  refine take_at (i := 17) 50 (v := .int .i64 48) rfl rfl (by kernel_rfl) (by kernel_rfl) (by kernel_rfl) (fun _ _ _ h => h) (Or.inl ⟨by rfl, by intro w_ hSw; go_simp⟩) (by assumption) ?_
  try simp only [Act.put, List.setIfInBounds_toArray, List.set_cons_zero, List.set_cons_succ]
  refine take_at (i := 18) 51 (v := .int .i64 47) rfl rfl (by kernel_rfl) (by kernel_rfl) (by kernel_rfl) (fun _ _ _ h => h) (Or.inl ⟨by rfl, by intro w_ hSw; go_simp⟩) (by assumption) ?_
  try simp only [Act.put, List.setIfInBounds_toArray, List.set_cons_zero, List.set_cons_succ]
  refine wpAnyH_ready (rs := [19]) (by kernel_rfl) (by simp) ?_
  refine AllReadyH.cons rfl (fun K hK => ?_) AllReadyH.nil
  go_simp
  go_at_call 37
  refine (within_yes _ _ _ (by omega) _).mono ?_
  rintro e w' ⟨rfl, rfl⟩
  try simp only []
  refine hK.out _ _ hHeld (fun hHeld => ?_)
  clear hK K
  try simp only [Act.put, List.setIfInBounds_toArray, List.set_cons_zero, List.set_cons_succ]
  refine take_at (i := 20) 53 (v := .bool true) rfl rfl (by kernel_rfl) (by kernel_rfl) (by kernel_rfl) (fun _ _ _ h => h) (Or.inl ⟨by rfl, by intro w_ hSw; go_simp⟩) (by assumption) ?_
  try simp only [Act.put, List.setIfInBounds_toArray, List.set_cons_zero, List.set_cons_succ]
  refine take_at (i := 21) 8 (v := .bool true) rfl rfl (by kernel_rfl) (by kernel_rfl) (by kernel_rfl) (fun _ _ _ h => h) (Or.inl ⟨by rfl, by intro w_ hSw; go_simp⟩) (by assumption) ?_
  try simp only [Act.put, List.setIfInBounds_toArray, List.set_cons_zero, List.set_cons_succ]
  refine wpAnyH_done (by kernel_rfl) ?_ _
  have HB := hide (Below.step HT.out.now.1.1.1.1.2 hHeld)
  clear hHeld
  go_wp2_with (go_at_call 23; go_must (refine (unless_yes _ _).mono ?_; rintro e w' ⟨rfl, rfl⟩; simp only []))
  go_ret
  exact ⟨rfl, HB.out⟩
theorem stands0 (w : World) : Calls Try.prog 36 #[.agg #[.int .i64 0, .int .i64 0, .int .i64 20, .int .i64 0, .int .i64 0, .int .i64 2, .int .i64 2, .int .i64 0, .int .i64 2, .int .i64 1, .int .i64 0], .int .i64 0] w fun e w' => e = .returned (.bool true) ∧ Below w.heap.size w w' :=
  stands_grid ⟨0, 0, 20, 0, 0, 2, 2, 0, 2, 1, 0⟩ 0 w (by decide) (by decide) (by decide)
theorem has0 (nmv : Value) (b o c3 c4 : Nat) (A4 : Option Addr) (w : World) : Calls Try.prog 38 #[.agg #[nmv, .int .i64 4, .int .i64 48, .slice (some ⟨b, o, none⟩) 1 c3, .slice A4 4 c4], .agg #[.int .i64 0, .int .i64 0, .int .i64 20, .int .i64 0, .int .i64 0, .int .i64 2, .int .i64 2, .int .i64 0, .int .i64 2, .int .i64 1, .int .i64 0], .int .i64 23] w fun e w' => e = .returned (.bool true) ∧ Below w.heap.size w w' :=
  has_grid nmv 48 0 20 0 0 2 2 b o 1 c3 A4 4 c4 0 0 2 1 0 4 23 w (by omega) (by omega) (by omega) (by omega) (by omega) (by omega)
set_option maxRecDepth 100000 in
set_option maxHeartbeats 8000000 in
theorem owner1_ex (nmv : Value) (b o c3 c4 : Nat) (A4 : Option Addr) (q1 q2 : Nat) (w : World) (h1 : Blk w q1 47 #[.int .i64 0, .int .i64 0, .int .i64 0, .int .i64 2, .int .i64 23]) (h2 : Blk w q2 58 #[nmv, .int .i64 4, .int .i64 48, .slice (some ⟨b, o, none⟩) 1 c3, .slice A4 4 c4]) :
    Calls Try.prog 35 #[.agg #[.int .i64 0, .int .i64 0, .int .i64 20, .int .i64 0, .int .i64 0, .int .i64 2, .int .i64 2, .int .i64 0, .int .i64 2, .int .i64 1, .int .i64 0], .pointer (some ⟨q1, 0, none⟩), .pointer (some ⟨q2, 0, none⟩)] w fun e w' => e = .returned (.bool true) ∧ Below w.heap.size w w' := by
  have HT := hide ((((stay_blk h1).and (stay_blk h2)).and (stay_below (Below.refl w.heap.size w))).alloc (.cells #[.int .i64 0, .int .i64 0, .int .i64 20, .int .i64 0, .int .i64 0, .int .i64 2, .int .i64 2, .int .i64 0, .int .i64 2, .int .i64 1, .int .i64 0] 82) |>.and (stay_blk (Blk.new w 82 #[.int .i64 0, .int .i64 0, .int .i64 20, .int .i64 0, .int .i64 0, .int .i64 2, .int .i64 2, .int .i64 0, .int .i64 2, .int .i64 1, .int .i64 0])))
  clear h1 h2
  obtain ⟨W0, hW0⟩ : ∃ W0, w.alloc (.cells #[.int .i64 0, .int .i64 0, .int .i64 20, .int .i64 0, .int .i64 0, .int .i64 2, .int .i64 2, .int .i64 0, .int .i64 2, .int .i64 1, .int .i64 0] 82) = W0 := ⟨_, rfl⟩
  rw [hW0] at HT
  have s0 : W0.cell? ⟨w.heap.size, 0, none⟩ = some (.int .i64 0) := HT.out.now.2.cell 0
  have s1 : W0.cell? ⟨w.heap.size, 1, none⟩ = some (.int .i64 0) := HT.out.now.2.cell 1
  have s2 : W0.cell? ⟨w.heap.size, 2, none⟩ = some (.int .i64 20) := HT.out.now.2.cell 2
  have s3 : W0.cell? ⟨w.heap.size, 3, none⟩ = some (.int .i64 0) := HT.out.now.2.cell 3
  have s4 : W0.cell? ⟨w.heap.size, 4, none⟩ = some (.int .i64 0) := HT.out.now.2.cell 4
  have s5 : W0.cell? ⟨w.heap.size, 5, none⟩ = some (.int .i64 2) := HT.out.now.2.cell 5
  have s6 : W0.cell? ⟨w.heap.size, 6, none⟩ = some (.int .i64 2) := HT.out.now.2.cell 6
  have s7 : W0.cell? ⟨w.heap.size, 7, none⟩ = some (.int .i64 0) := HT.out.now.2.cell 7
  have s8 : W0.cell? ⟨w.heap.size, 8, none⟩ = some (.int .i64 2) := HT.out.now.2.cell 8
  have s9 : W0.cell? ⟨w.heap.size, 9, none⟩ = some (.int .i64 1) := HT.out.now.2.cell 9
  have s10 : W0.cell? ⟨w.heap.size, 10, none⟩ = some (.int .i64 0) := HT.out.now.2.cell 10
  have p0 : W0.cell? ⟨q1, 0, none⟩ = some (.int .i64 0) := HT.out.now.1.1.1.cell 0
  have p1 : W0.cell? ⟨q1, 1, none⟩ = some (.int .i64 0) := HT.out.now.1.1.1.cell 1
  have p2 : W0.cell? ⟨q1, 2, none⟩ = some (.int .i64 0) := HT.out.now.1.1.1.cell 2
  have p3 : W0.cell? ⟨q1, 3, none⟩ = some (.int .i64 2) := HT.out.now.1.1.1.cell 3
  have p4 : W0.cell? ⟨q1, 4, none⟩ = some (.int .i64 23) := HT.out.now.1.1.1.cell 4
  have k0 : W0.cell? ⟨q2, 0, none⟩ = some (nmv) := HT.out.now.1.1.2.cell 0
  have k1 : W0.cell? ⟨q2, 1, none⟩ = some (.int .i64 4) := HT.out.now.1.1.2.cell 1
  have k2 : W0.cell? ⟨q2, 2, none⟩ = some (.int .i64 48) := HT.out.now.1.1.2.cell 2
  have k3 : W0.cell? ⟨q2, 3, none⟩ = some (.slice (some ⟨b, o, none⟩) 1 c3) := HT.out.now.1.1.2.cell 3
  have k4 : W0.cell? ⟨q2, 4, none⟩ = some (.slice A4 4 c4) := HT.out.now.1.1.2.cell 4
  go_enter Try.func35, Try.ntmps35
  go_wp2_with fail
  first | rw [hW0] | skip
  clear hW0
  go_at_call 36
  refine (stands0 _).mono ?_
  rintro e w1 ⟨rfl, hb⟩
  replace HT := hide (HT.out.step hb)
  clear hb s0 s1 s2 s3 s4 s5 s6 s7 s8 s9 s10 p0 p1 p2 p3 p4 k0 k1 k2 k3 k4
  simp only []
  have s0 : w1.cell? ⟨w.heap.size, 0, none⟩ = some (.int .i64 0) := HT.out.now.2.cell 0
  have s1 : w1.cell? ⟨w.heap.size, 1, none⟩ = some (.int .i64 0) := HT.out.now.2.cell 1
  have s2 : w1.cell? ⟨w.heap.size, 2, none⟩ = some (.int .i64 20) := HT.out.now.2.cell 2
  have s3 : w1.cell? ⟨w.heap.size, 3, none⟩ = some (.int .i64 0) := HT.out.now.2.cell 3
  have s4 : w1.cell? ⟨w.heap.size, 4, none⟩ = some (.int .i64 0) := HT.out.now.2.cell 4
  have s5 : w1.cell? ⟨w.heap.size, 5, none⟩ = some (.int .i64 2) := HT.out.now.2.cell 5
  have s6 : w1.cell? ⟨w.heap.size, 6, none⟩ = some (.int .i64 2) := HT.out.now.2.cell 6
  have s7 : w1.cell? ⟨w.heap.size, 7, none⟩ = some (.int .i64 0) := HT.out.now.2.cell 7
  have s8 : w1.cell? ⟨w.heap.size, 8, none⟩ = some (.int .i64 2) := HT.out.now.2.cell 8
  have s9 : w1.cell? ⟨w.heap.size, 9, none⟩ = some (.int .i64 1) := HT.out.now.2.cell 9
  have s10 : w1.cell? ⟨w.heap.size, 10, none⟩ = some (.int .i64 0) := HT.out.now.2.cell 10
  have p0 : w1.cell? ⟨q1, 0, none⟩ = some (.int .i64 0) := HT.out.now.1.1.1.cell 0
  have p1 : w1.cell? ⟨q1, 1, none⟩ = some (.int .i64 0) := HT.out.now.1.1.1.cell 1
  have p2 : w1.cell? ⟨q1, 2, none⟩ = some (.int .i64 0) := HT.out.now.1.1.1.cell 2
  have p3 : w1.cell? ⟨q1, 3, none⟩ = some (.int .i64 2) := HT.out.now.1.1.1.cell 3
  have p4 : w1.cell? ⟨q1, 4, none⟩ = some (.int .i64 23) := HT.out.now.1.1.1.cell 4
  have k0 : w1.cell? ⟨q2, 0, none⟩ = some (nmv) := HT.out.now.1.1.2.cell 0
  have k1 : w1.cell? ⟨q2, 1, none⟩ = some (.int .i64 4) := HT.out.now.1.1.2.cell 1
  have k2 : w1.cell? ⟨q2, 2, none⟩ = some (.int .i64 48) := HT.out.now.1.1.2.cell 2
  have k3 : w1.cell? ⟨q2, 3, none⟩ = some (.slice (some ⟨b, o, none⟩) 1 c3) := HT.out.now.1.1.2.cell 3
  have k4 : w1.cell? ⟨q2, 4, none⟩ = some (.slice A4 4 c4) := HT.out.now.1.1.2.cell 4
  go_wp2_with (first
    | (go_at_call 37; go_must (refine (within_yes _ _ _ (by omega) _).mono ?_; rintro e w' ⟨rfl, rfl⟩; simp only []))
    | (go_at_call 38; go_must (refine (has0 nmv b o c3 c4 A4 _).mono ?_; rintro e w2 ⟨rfl, hb⟩; have HB := hide (Below.step HT.out.now.1.2 hb); clear hb s0 s1 s2 s3 s4 s5 s6 s7 s8 s9 s10 p0 p1 p2 p3 p4 k0 k1 k2 k3 k4; simp only [])))
  go_ret
  exact ⟨rfl, HB.out⟩
set_option maxRecDepth 100000 in
set_option maxHeartbeats 8000000 in
theorem idx_ex (nmv : Value) (b o c3 c4 : Nat) (A4 : Option Addr) (q1 q2 : Nat) (w : World) (h1 : Blk w q1 47 #[.int .i64 0, .int .i64 0, .int .i64 0, .int .i64 2, .int .i64 23]) (h2 : Blk w q2 58 #[nmv, .int .i64 4, .int .i64 48, .slice (some ⟨b, o, none⟩) 1 c3, .slice A4 4 c4]) (hS : Sigs w A4 exS) :
    Calls Try.prog 34 #[.slice A4 4 c4, .func (.func 35) #[] #[.pointer (some ⟨q1, 0, none⟩), .pointer (some ⟨q2, 0, none⟩)]] w fun e w' => e = .returned (.int .i64 0) ∧ Below w.heap.size w w' := by
  have HN := hide (owner1_ex nmv b o c3 c4 A4 q1 q2 w h1 h2)
  obtain ⟨b4, o4, rfl, s0, s1, s2, s3, s4, s5, s6, s7, s8, s9, s10⟩ := Sigs.at_ hS 0 (by decide)
  simp only [Nat.zero_mul, Nat.add_zero] at s0 s1 s2 s3 s4 s5 s6 s7 s8 s9 s10
  have t0 : w.cell? ⟨b4, o4, none⟩ = some (.int .i64 0) := s0
  have t1 : w.cell? ⟨b4, o4 + 1, none⟩ = some (.int .i64 0) := s1
  have t2 : w.cell? ⟨b4, o4 + 2, none⟩ = some (.int .i64 20) := s2
  have t3 : w.cell? ⟨b4, o4 + 3, none⟩ = some (.int .i64 0) := s3
  have t4 : w.cell? ⟨b4, o4 + 4, none⟩ = some (.int .i64 0) := s4
  have t5 : w.cell? ⟨b4, o4 + 5, none⟩ = some (.int .i64 2) := s5
  have t6 : w.cell? ⟨b4, o4 + 6, none⟩ = some (.int .i64 2) := s6
  have t7 : w.cell? ⟨b4, o4 + 7, none⟩ = some (.int .i64 0) := s7
  have t8 : w.cell? ⟨b4, o4 + 8, none⟩ = some (.int .i64 2) := s8
  have t9 : w.cell? ⟨b4, o4 + 9, none⟩ = some (.int .i64 1) := s9
  have t10 : w.cell? ⟨b4, o4 + 10, none⟩ = some (.int .i64 0) := s10
  clear h1 h2 hS s0 s1 s2 s3 s4 s5 s6 s7 s8 s9 s10
  go_enter Try.func34, Try.ntmps34
  go_wp2_with fail
  go_loopw [5, 8] (fun _ i wr => i = .int .i64 0 ∧ w = wr) (fun _ _ _ => 0)
  case atStart => exact ⟨rfl, rfl⟩
  case round =>
    obtain ⟨rfl, rfl⟩ := hrel
    go_wp2_with (go_at_call 35; go_must (refine HN.out.mono ?_; rintro e w2 ⟨rfl, hb⟩; have HB := hide hb; clear hb; simp only []))
    go_ret
    exact ⟨rfl, HB.out⟩
set_option maxRecDepth 100000 in
set_option maxHeartbeats 8000000 in
theorem ownerOf_ex (A3 A4 : Option Addr) (c3 c4 : Nat) (w : World) (hP : Prts w A3 exP) (hS : Sigs w A4 exS) :
    Calls Try.prog 14 #[.agg #[strV [99], .int .i64 4, .int .i64 48, .slice A3 1 c3, .slice A4 4 c4], .agg #[.int .i64 0, .int .i64 0, .int .i64 0, .int .i64 2, .int .i64 23]] w fun e w' => e = .returned (.tuple #[.int .i64 0, .int .i64 0]) ∧ Below w.heap.size w w' := by
  have HCP := hide (fun W k k2 => checkPlace_ex A3 A4 c3 c4 W k k2)
  have HT := hide ((((((stay_blk (Blk.new w 25 #[strV [99], .int .i64 4, .int .i64 48, .slice A3 1 c3, .slice A4 4 c4])).alloc (.cells #[.int .i64 0, .int .i64 0, .int .i64 0, .int .i64 2, .int .i64 23] 47)).and (stay_blk (blk_up w 25 47 #[strV [99], .int .i64 4, .int .i64 48, .slice A3 1 c3, .slice A4 4 c4] #[.int .i64 0, .int .i64 0, .int .i64 0, .int .i64 2, .int .i64 23]))).and (stay_below (((Below.refl _ w).alloc (Nat.le_refl _) (.cells #[strV [99], .int .i64 4, .int .i64 48, .slice A3 1 c3, .slice A4 4 c4] 25)).alloc (by simp) (.cells #[.int .i64 0, .int .i64 0, .int .i64 0, .int .i64 2, .int .i64 23] 47)))).and (((stay_rws hP).alloc (.cells #[strV [99], .int .i64 4, .int .i64 48, .slice A3 1 c3, .slice A4 4 c4] 25)).alloc (.cells #[.int .i64 0, .int .i64 0, .int .i64 0, .int .i64 2, .int .i64 23] 47))).and (((stay_rws hS).alloc (.cells #[strV [99], .int .i64 4, .int .i64 48, .slice A3 1 c3, .slice A4 4 c4] 25)).alloc (.cells #[.int .i64 0, .int .i64 0, .int .i64 0, .int .i64 2, .int .i64 23] 47)))
  obtain ⟨b, o, rfl, -⟩ := exP_at hP
  clear hP hS
  obtain ⟨nmv, hnm⟩ : ∃ S, strV [99] = S := ⟨_, rfl⟩
  have hone : nmv.oneCell' = true := by rw [← hnm]; rfl
  rw [hnm] at HT HCP ⊢
  clear hnm
  obtain ⟨W0, hW0⟩ : ∃ W0, (w.alloc (.cells #[nmv, .int .i64 4, .int .i64 48, .slice (some ⟨b, o, none⟩) 1 c3, .slice A4 4 c4] 25)).alloc (.cells #[.int .i64 0, .int .i64 0, .int .i64 0, .int .i64 2, .int .i64 23] 47) = W0 := ⟨_, rfl⟩
  rw [hW0] at HT
  have z0 : W0.cell? ⟨w.heap.size, 0, none⟩ = some (nmv) := HT.out.now.1.1.1.1.cell 0
  have z1 : W0.cell? ⟨w.heap.size, 1, none⟩ = some (.int .i64 4) := HT.out.now.1.1.1.1.cell 1
  have z2 : W0.cell? ⟨w.heap.size, 2, none⟩ = some (.int .i64 48) := HT.out.now.1.1.1.1.cell 2
  have z3 : W0.cell? ⟨w.heap.size, 3, none⟩ = some (.slice (some ⟨b, o, none⟩) 1 c3) := HT.out.now.1.1.1.1.cell 3
  have z4 : W0.cell? ⟨w.heap.size, 4, none⟩ = some (.slice A4 4 c4) := HT.out.now.1.1.1.1.cell 4
  have x0 : W0.cell? ⟨w.heap.size + 1, 0, none⟩ = some (.int .i64 0) := HT.out.now.1.1.1.2.cell 0
  have x1 : W0.cell? ⟨w.heap.size + 1, 1, none⟩ = some (.int .i64 0) := HT.out.now.1.1.1.2.cell 1
  have x2 : W0.cell? ⟨w.heap.size + 1, 2, none⟩ = some (.int .i64 0) := HT.out.now.1.1.1.2.cell 2
  have x3 : W0.cell? ⟨w.heap.size + 1, 3, none⟩ = some (.int .i64 2) := HT.out.now.1.1.1.2.cell 3
  have x4 : W0.cell? ⟨w.heap.size + 1, 4, none⟩ = some (.int .i64 23) := HT.out.now.1.1.1.2.cell 4
  have HW0 := hide hW0
  clear hW0
  go_enter Try.func14, Try.ntmps14
  go_wp2_with fail
  first | rw [HW0.out] | skip
  go_wp2_with fail
  go_at_call 33
  refine (HCP.out _ HT.out.now.1.2 HT.out.now.2).mono ?_
  rintro e w1 ⟨rfl, hb⟩
  replace HT := hide (HT.out.step hb)
  clear hb HCP z0 z1 z2 z3 z4 x0 x1 x2 x3 x4
  simp only []
  have z0 : w1.cell? ⟨w.heap.size, 0, none⟩ = some (nmv) := HT.out.now.1.1.1.1.cell 0
  have z1 : w1.cell? ⟨w.heap.size, 1, none⟩ = some (.int .i64 4) := HT.out.now.1.1.1.1.cell 1
  have z2 : w1.cell? ⟨w.heap.size, 2, none⟩ = some (.int .i64 48) := HT.out.now.1.1.1.1.cell 2
  have z3 : w1.cell? ⟨w.heap.size, 3, none⟩ = some (.slice (some ⟨b, o, none⟩) 1 c3) := HT.out.now.1.1.1.1.cell 3
  have z4 : w1.cell? ⟨w.heap.size, 4, none⟩ = some (.slice A4 4 c4) := HT.out.now.1.1.1.1.cell 4
  go_wp2_with (first
    | (refine wpList_store_row rfl 58 (.tmp 7) (.tmp 16) rfl w1.heap.size #[nmv, .int .i64 4, .int .i64 48, .slice (some ⟨b, o, none⟩) 1 c3, .slice A4 4 c4] rfl rfl 58 #[.string ⟨#[]⟩, .int .i64 0, .int .i64 0, .slice none 0 0, .slice none 0 0] (Blk.new w1 58 #[.string ⟨#[]⟩, .int .i64 0, .int .i64 0, .slice none 0 0, .slice none 0 0]) (by kernel_rfl) rfl (by simpa [Value.oneCell'] using hone) ?_; have HX := hide ((Blk.new w1 58 #[.string ⟨#[]⟩, .int .i64 0, .int .i64 0, .slice none 0 0, .slice none 0 0]).row #[nmv, .int .i64 4, .int .i64 48, .slice (some ⟨b, o, none⟩) 1 c3, .slice A4 4 c4]); replace HT := hide ((HT.out.step (Below.row (g := w1.heap.size) ((Below.refl w1.heap.size w1).alloc (Nat.le_refl _) (.cells #[.string ⟨#[]⟩, .int .i64 0, .int .i64 0, .slice none 0 0, .slice none 0 0] 58)) (Nat.le_refl _) #[nmv, .int .i64 4, .int .i64 48, .slice (some ⟨b, o, none⟩) 1 c3, .slice A4 4 c4])).and (stay_blk HX.out)); clear HX; have z4' := HT.out.now.1.1.1.1.1.cell 4)
    | (go_at_call 34; go_must (refine (idx_ex nmv b o c3 c4 A4 _ _ _ HT.out.now.1.1.1.1.2 HT.out.now.2 HT.out.now.1.2).mono ?_; rintro e w2 ⟨rfl, hb⟩; have HB := hide (Below.step HT.out.now.1.1.1.2 hb); clear hb; simp only []))
    | (go_at_call 23; go_must (refine (unless_yes _ _).mono ?_; rintro e w' ⟨rfl, rfl⟩; simp only [])))
  go_ret2
  exact ⟨rfl, HB.out⟩
end Go.Proofs.Ytfolipkbcibgdaa
