import Derived.Test.YtppkibgemacdbaaSef
namespace Go.Proofs.Ytppkibgemacdbaa
open Go.RowKit Go.WideShapes Go.ChangeShapes

/-! Admit of a bearer that is too large, to no bearers -/
set_option maxRecDepth 100000 in
set_option maxHeartbeats 8000000 in
theorem admit_large (B C P : Int) (A : Option Addr) (c n : Nat) (T : List Int) (nm : Bs) (kd pr wt pw le bu ra de : Int) (w : World) (hn : T.length = n) (hs : Sl w A (iv T)) (hs2 : OkS B C P T) (ho : OkB T nm kd pr wt pw le bu ra de) (hk : kd ≠ 0) (hf : fitB B P pw ra bu de (tbO T le) = false) :
    Calls Try.prog 10 #[.agg #[.int .i64 B, .int .i64 C, .int .i64 P, .slice A n c], .slice none 0 0, .agg #[strV nm, .int .i64 kd, .int .i64 pr, .int .i64 wt, .int .i64 pw, .int .i64 le, .int .i64 bu, .int .i64 ra, .int .i64 de]] w fun e w' => e = .returned (.tuple #[.agg #[.slice none 0 0, .slice none 0 0], .int .i64 8]) ∧ Below w.heap.size w w' := by
  have HOA := hide (fun W k => openAllNone B C P A c n T none 0 W hn k hs2)
  have HBE := hide (fun W k => bearerErr_ok B C P A c n T nm kd pr wt pw le bu ra de W hn k (by have := hs2.few; omega) ho (fun i h => (hs2.in_ i h).1) hk)
  have HFI := hide (fun W g k k2 => fitOne B C P A c n T nm kd pr wt pw le bu ra de W hn k hs2 ho hk g 1 k2)
  rw [hf] at HFI
  have HT : Hid (Stay (((w.alloc (.cells #[.int .i64 B, .int .i64 C, .int .i64 P, .slice A n c] 24)).alloc (.cells #[strV nm, .int .i64 kd, .int .i64 pr, .int .i64 wt, .int .i64 pw, .int .i64 le, .int .i64 bu, .int .i64 ra, .int .i64 de] 32)).alloc (.cells #[.slice none 0 0, .slice none 0 0] 35)) (fun W => (((Blk W w.heap.size 24 #[.int .i64 B, .int .i64 C, .int .i64 P, .slice A n c] ∧ Blk W (w.heap.size + 1) 32 #[strV nm, .int .i64 kd, .int .i64 pr, .int .i64 wt, .int .i64 pw, .int .i64 le, .int .i64 bu, .int .i64 ra, .int .i64 de]) ∧ Blk W (w.heap.size + 2) 35 #[.slice none 0 0, .slice none 0 0]) ∧ Sl W A (iv T)) ∧ Below w.heap.size w W)) := hide
    ((((((stay_blk (Blk.new w 24 #[.int .i64 B, .int .i64 C, .int .i64 P, .slice A n c])).alloc (.cells #[strV nm, .int .i64 kd, .int .i64 pr, .int .i64 wt, .int .i64 pw, .int .i64 le, .int .i64 bu, .int .i64 ra, .int .i64 de] 32)).alloc (.cells #[.slice none 0 0, .slice none 0 0] 35)).and ((stay_blk (blk_up w 24 32 #[.int .i64 B, .int .i64 C, .int .i64 P, .slice A n c] #[strV nm, .int .i64 kd, .int .i64 pr, .int .i64 wt, .int .i64 pw, .int .i64 le, .int .i64 bu, .int .i64 ra, .int .i64 de])).alloc (.cells #[.slice none 0 0, .slice none 0 0] 35))).and (stay_blk (blk_up2 w 24 32 35 #[.int .i64 B, .int .i64 C, .int .i64 P, .slice A n c] #[strV nm, .int .i64 kd, .int .i64 pr, .int .i64 wt, .int .i64 pw, .int .i64 le, .int .i64 bu, .int .i64 ra, .int .i64 de] #[.slice none 0 0, .slice none 0 0]))).and (((stay_sl (hs.alloc (.cells #[.int .i64 B, .int .i64 C, .int .i64 P, .slice A n c] 24))).alloc (.cells #[strV nm, .int .i64 kd, .int .i64 pr, .int .i64 wt, .int .i64 pw, .int .i64 le, .int .i64 bu, .int .i64 ra, .int .i64 de] 32)).alloc (.cells #[.slice none 0 0, .slice none 0 0] 35)) |>.and (stay_below ((((Below.refl _ w).alloc (Nat.le_refl _) (.cells #[.int .i64 B, .int .i64 C, .int .i64 P, .slice A n c] 24)).alloc (by simp) (.cells #[strV nm, .int .i64 kd, .int .i64 pr, .int .i64 wt, .int .i64 pw, .int .i64 le, .int .i64 bu, .int .i64 ra, .int .i64 de] 32)).alloc (by simp; omega) (.cells #[.slice none 0 0, .slice none 0 0] 35))))
  clear hs hs2 ho hk hn hf
  go_enter Try.func10, Try.ntmps10
  obtain ⟨W0, hW0⟩ : ∃ W0, ((w.alloc (.cells #[.int .i64 B, .int .i64 C, .int .i64 P, .slice A n c] 24)).alloc (.cells #[strV nm, .int .i64 kd, .int .i64 pr, .int .i64 wt, .int .i64 pw, .int .i64 le, .int .i64 bu, .int .i64 ra, .int .i64 de] 32)).alloc (.cells #[.slice none 0 0, .slice none 0 0] 35) = W0 := ⟨_, rfl⟩
  rw [hW0] at HT
  have z0 : W0.cell? ⟨w.heap.size, 0, none⟩ = some (.int .i64 B) := HT.out.now.1.1.1.1.cell 0
  have z1 : W0.cell? ⟨w.heap.size, 1, none⟩ = some (.int .i64 C) := HT.out.now.1.1.1.1.cell 1
  have z2 : W0.cell? ⟨w.heap.size, 2, none⟩ = some (.int .i64 P) := HT.out.now.1.1.1.1.cell 2
  have z3 : W0.cell? ⟨w.heap.size, 3, none⟩ = some (.slice A n c) := HT.out.now.1.1.1.1.cell 3
  go_wp2_with (first
    | (go_at_call 25; go_must (refine (HOA.out _ HT.out.now.1.2).mono ?_; rintro e w1 ⟨rfl, hb⟩; replace HT := hide (HT.out.step hb); clear hb hW0 z0 z1 z2 z3; simp only []))
    | (refine wpList_store_row rfl 74 (.tmp 8) (.tmp 19) rfl w1.heap.size #[.int .i64 B, .int .i64 C, .int .i64 P, .slice A n c] rfl rfl 74 #[.int .i64 0, .int .i64 0, .int .i64 0, .slice none 0 0] (Blk.new w1 74 #[.int .i64 0, .int .i64 0, .int .i64 0, .slice none 0 0]) (by kernel_rfl) rfl (by simp [Value.oneCell']) ?_; have HX := hide ((Blk.new w1 74 #[.int .i64 0, .int .i64 0, .int .i64 0, .slice none 0 0]).row #[.int .i64 B, .int .i64 C, .int .i64 P, .slice A n c]); replace HT := hide ((HT.out.step (Below.row (g := w1.heap.size) ((Below.refl w1.heap.size w1).alloc (Nat.le_refl _) (.cells #[.int .i64 0, .int .i64 0, .int .i64 0, .slice none 0 0] 74)) (Nat.le_refl _) #[.int .i64 B, .int .i64 C, .int .i64 P, .slice A n c])).and (stay_blk HX.out)); clear HX))
  obtain ⟨W4, hW4⟩ : ∃ W4, (w1.alloc (.cells #[.int .i64 0, .int .i64 0, .int .i64 0, .slice none 0 0] 74)).setRow w1.heap.size #[.int .i64 B, .int .i64 C, .int .i64 P, .slice A n c] = W4 := ⟨_, rfl⟩
  rw [hW4] at HT ⊢
  clear hW4
  refine wp_region_held_drew (S := fun w' => Below W4.heap.size W4 w') (by kernel_rfl) (below_drewN (Below.refl W4.heap.size W4) 1) (fun hHeld => ?_)
  refine take_at (i := 0) 25 (v := .agg #[.int .i64 B, .int .i64 C, .int .i64 P, .slice A n c]) rfl rfl (by kernel_rfl) (by kernel_rfl) (by kernel_rfl) (fun _ _ _ h => h) (Or.inl ⟨by rfl, by intro w_ hSw; have c0 : w_.cell? ⟨w1.heap.size, 0, none⟩ = some (.int .i64 B) := (HT.out _ hSw).2.cell 0; have c1 : w_.cell? ⟨w1.heap.size, 1, none⟩ = some (.int .i64 C) := (HT.out _ hSw).2.cell 1; have c2 : w_.cell? ⟨w1.heap.size, 2, none⟩ = some (.int .i64 P) := (HT.out _ hSw).2.cell 2; have c3 : w_.cell? ⟨w1.heap.size, 3, none⟩ = some (.slice A n c) := (HT.out _ hSw).2.cell 3; go_simp⟩) (by assumption) ?_
  try simp only [Act.put, List.setIfInBounds_toArray, List.set_cons_zero, List.set_cons_succ]
  refine take_at (i := 1) 26 (v := .agg #[strV nm, .int .i64 kd, .int .i64 pr, .int .i64 wt, .int .i64 pw, .int .i64 le, .int .i64 bu, .int .i64 ra, .int .i64 de]) rfl rfl (by kernel_rfl) (by kernel_rfl) (by kernel_rfl) (fun _ _ _ h => h) (Or.inl ⟨by rfl, by intro w_ hSw; have c0 : w_.cell? ⟨w.heap.size + 1, 0, none⟩ = some (strV nm) := (HT.out _ hSw).1.1.1.1.2.cell 0; have c1 : w_.cell? ⟨w.heap.size + 1, 1, none⟩ = some (.int .i64 kd) := (HT.out _ hSw).1.1.1.1.2.cell 1; have c2 : w_.cell? ⟨w.heap.size + 1, 2, none⟩ = some (.int .i64 pr) := (HT.out _ hSw).1.1.1.1.2.cell 2; have c3 : w_.cell? ⟨w.heap.size + 1, 3, none⟩ = some (.int .i64 wt) := (HT.out _ hSw).1.1.1.1.2.cell 3; have c4 : w_.cell? ⟨w.heap.size + 1, 4, none⟩ = some (.int .i64 pw) := (HT.out _ hSw).1.1.1.1.2.cell 4; have c5 : w_.cell? ⟨w.heap.size + 1, 5, none⟩ = some (.int .i64 le) := (HT.out _ hSw).1.1.1.1.2.cell 5; have c6 : w_.cell? ⟨w.heap.size + 1, 6, none⟩ = some (.int .i64 bu) := (HT.out _ hSw).1.1.1.1.2.cell 6; have c7 : w_.cell? ⟨w.heap.size + 1, 7, none⟩ = some (.int .i64 ra) := (HT.out _ hSw).1.1.1.1.2.cell 7; have c8 : w_.cell? ⟨w.heap.size + 1, 8, none⟩ = some (.int .i64 de) := (HT.out _ hSw).1.1.1.1.2.cell 8; go_simp⟩) (by assumption) ?_
  try simp only [Act.put, List.setIfInBounds_toArray, List.set_cons_zero, List.set_cons_succ]
  refine take_at (i := 3) 28 (v := .slice none 0 0) rfl rfl (by kernel_rfl) (by kernel_rfl) (by kernel_rfl) (fun _ _ _ h => h) (Or.inl ⟨by rfl, by intro w_ hSw; go_simp⟩) (by assumption) ?_
  try simp only [Act.put, List.setIfInBounds_toArray, List.set_cons_zero, List.set_cons_succ]
  refine take_at (i := 4) 29 (v := .pointer (some ⟨w.heap.size + 1, 0, none⟩)) rfl rfl (by kernel_rfl) (by kernel_rfl) (by kernel_rfl) (fun _ _ _ h => h) (Or.inl ⟨by rfl, by intro w_ hSw; go_simp⟩) (by assumption) ?_
  try simp only [Act.put, List.setIfInBounds_toArray, List.set_cons_zero, List.set_cons_succ]
  refine take_at (i := 5) 30 (v := strV nm) rfl rfl (by kernel_rfl) (by kernel_rfl) (by kernel_rfl) (fun _ _ _ h => h) (Or.inl ⟨by rfl, by intro w_ hSw; have c0 : w_.cell? ⟨w.heap.size + 1, 0, none⟩ = some (strV nm) := (HT.out _ hSw).1.1.1.1.2.cell 0; go_simp⟩) (by assumption) ?_
  try simp only [Act.put, List.setIfInBounds_toArray, List.set_cons_zero, List.set_cons_succ]
  refine wpAnyH_ready (rs := [2]) (by kernel_rfl) (by simp) ?_
  refine AllReadyH.cons rfl (fun K hK => ?_) AllReadyH.nil
  go_simp
  go_at_call 27
  refine (HBE.out _ (HT.out _ hHeld).1.1.2).mono ?_
  rintro e w5 ⟨rfl, hb⟩
  replace hHeld := Below.step hHeld hb
  clear hb
  simp only []
  refine hK.out _ _ hHeld (fun hHeld => ?_)
  clear hK K
  try simp only [Act.put, List.setIfInBounds_toArray, List.set_cons_zero, List.set_cons_succ]
  refine wpAnyH_ready (rs := [6]) (by kernel_rfl) (by simp) ?_
  refine AllReadyH.cons rfl (fun K hK => ?_) AllReadyH.nil
  go_simp
  go_at_call 29
  refine (namedNone none 0 nm _).mono ?_
  rintro e w6 ⟨rfl, hb⟩
  replace hHeld := Below.step hHeld hb
  clear hb
  simp only []
  refine hK.out _ _ hHeld (fun hHeld => ?_)
  clear hK K
  try simp only [Act.put, List.setIfInBounds_toArray, List.set_cons_zero, List.set_cons_succ]
  refine take_at (i := 7) 32 (v := .bool true) rfl rfl (by kernel_rfl) (by kernel_rfl) (by kernel_rfl) (fun _ _ _ h => h) (Or.inl ⟨by rfl, by intro w_ hSw; go_simp⟩) (by assumption) ?_
  try simp only [Act.put, List.setIfInBounds_toArray, List.set_cons_zero, List.set_cons_succ]
  refine wpAnyH_ready (rs := [8]) (by kernel_rfl) (by simp) ?_
  refine AllReadyH.cons rfl (fun K hK => ?_) AllReadyH.nil
  go_simp
  go_at_call 28
  refine (unless_any true 5 _).mono ?_
  rintro e w7 ⟨rfl, rfl⟩
  simp only [unlessE, if_true]
  refine hK.out _ _ hHeld (fun hHeld => ?_)
  clear hK K
  try simp only [Act.put, List.setIfInBounds_toArray, List.set_cons_zero, List.set_cons_succ]
  refine wpAnyH_ready (rs := [9]) (by kernel_rfl) (by simp) ?_
  refine AllReadyH.cons rfl (fun K hK => ?_) AllReadyH.nil
  go_simp
  replace hHeld := hHeld.alloc hHeld.size (.cells #[.int .i64 0, .int .i64 0] 36)
  refine hK.out _ _ hHeld (fun hHeld => ?_)
  clear hK K
  try simp only [Act.put, List.setIfInBounds_toArray, List.set_cons_zero, List.set_cons_succ]
  refine wpAnyH_ready (rs := [10]) (by kernel_rfl) (by simp) ?_
  refine AllReadyH.cons rfl (fun K hK => ?_) AllReadyH.nil
  go_simp
  go_at_call 26
  refine (first2 w6 _ 0 0 rfl).mono ?_
  rintro e w8 ⟨rfl, rfl⟩
  simp only [firstOf, if_true]
  refine hK.out _ _ hHeld (fun hHeld => ?_)
  clear hK K
  try simp only [Act.put, List.setIfInBounds_toArray, List.set_cons_zero, List.set_cons_succ]
  refine take_at (i := 11) 9 (v := .int .i64 0) rfl rfl (by kernel_rfl) (by kernel_rfl) (by kernel_rfl) (fun _ _ _ h => h) (Or.inl ⟨by rfl, by intro w_ hSw; go_simp⟩) (by assumption) ?_
  try simp only [Act.put, List.setIfInBounds_toArray, List.set_cons_zero, List.set_cons_succ]
  refine wpAnyH_done (by kernel_rfl) ?_ _
  replace HT := hide ((HT.out.step hHeld))
  clear hHeld HOA HBE
  obtain ⟨W8, hW8⟩ : ∃ W8, w6.alloc (.cells #[.int .i64 0, .int .i64 0] 36) = W8 := ⟨_, rfl⟩
  rw [hW8] at HT ⊢
  clear hW8
  have s0 : W8.cell? ⟨w1.heap.size, 0, none⟩ = some (.int .i64 B) := HT.out.now.2.cell 0
  have s1 : W8.cell? ⟨w1.heap.size, 1, none⟩ = some (.int .i64 C) := HT.out.now.2.cell 1
  have s2 : W8.cell? ⟨w1.heap.size, 2, none⟩ = some (.int .i64 P) := HT.out.now.2.cell 2
  have s3 : W8.cell? ⟨w1.heap.size, 3, none⟩ = some (.slice A n c) := HT.out.now.2.cell 3
  have b0 : W8.cell? ⟨w.heap.size + 1, 0, none⟩ = some (strV nm) := HT.out.now.1.1.1.1.2.cell 0
  have b1 : W8.cell? ⟨w.heap.size + 1, 1, none⟩ = some (.int .i64 kd) := HT.out.now.1.1.1.1.2.cell 1
  have b2 : W8.cell? ⟨w.heap.size + 1, 2, none⟩ = some (.int .i64 pr) := HT.out.now.1.1.1.1.2.cell 2
  have b3 : W8.cell? ⟨w.heap.size + 1, 3, none⟩ = some (.int .i64 wt) := HT.out.now.1.1.1.1.2.cell 3
  have b4 : W8.cell? ⟨w.heap.size + 1, 4, none⟩ = some (.int .i64 pw) := HT.out.now.1.1.1.1.2.cell 4
  have b5 : W8.cell? ⟨w.heap.size + 1, 5, none⟩ = some (.int .i64 le) := HT.out.now.1.1.1.1.2.cell 5
  have b6 : W8.cell? ⟨w.heap.size + 1, 6, none⟩ = some (.int .i64 bu) := HT.out.now.1.1.1.1.2.cell 6
  have b7 : W8.cell? ⟨w.heap.size + 1, 7, none⟩ = some (.int .i64 ra) := HT.out.now.1.1.1.1.2.cell 7
  have b8 : W8.cell? ⟨w.heap.size + 1, 8, none⟩ = some (.int .i64 de) := HT.out.now.1.1.1.1.2.cell 8
  go_wp2_with (first
    | (go_at_call 30; go_must (refine (HFI.out _ W8.heap.size ((HT.out.alloc (.cells #[strV nm, .int .i64 kd, .int .i64 pr, .int .i64 wt, .int .i64 pw, .int .i64 le, .int .i64 bu, .int .i64 ra, .int .i64 de] 32)).now.1.1.2) (Blk.new W8 32 #[strV nm, .int .i64 kd, .int .i64 pr, .int .i64 wt, .int .i64 pw, .int .i64 le, .int .i64 bu, .int .i64 ra, .int .i64 de])).mono ?_; rintro e w9 ⟨rfl, hb⟩; replace HT := hide ((HT.out.alloc (.cells #[strV nm, .int .i64 kd, .int .i64 pr, .int .i64 wt, .int .i64 pw, .int .i64 le, .int .i64 bu, .int .i64 ra, .int .i64 de] 32)).step hb); clear hb s0 s1 s2 s3 b0 b1 b2 b3 b4 b5 b6 b7 b8; simp only []))
    | (go_at_call 28; go_must (refine (unless_any false 8 _).mono ?_; rintro e w10 ⟨rfl, rfl⟩; simp only [unlessE, Bool.false_eq_true, if_false]))
    | (refine wpList_store_row rfl 35 (.tmp 6) (.tmp 45) rfl (w.heap.size + 2) #[.slice none 0 0, .slice none 0 0] rfl rfl 35 #[.slice none 0 0, .slice none 0 0] HT.out.now.1.1.1.2 (by kernel_rfl) rfl (by simp [Value.oneCell']) ?_))
  exact bodyPost_ret (results_row_tmp rfl _ _ (w.heap.size + 2) 35 #[.slice none 0 0, .slice none 0 0] _ (.int .i64 8) rfl rfl (HT.out.now.1.1.1.2.row #[.slice none 0 0, .slice none 0 0]) Try.underlying35 rfl (by kernel_rfl)) rfl ⟨rfl, Below.row HT.out.now.1.2 (by omega) _⟩
end Go.Proofs.Ytppkibgemacdbaa

namespace Go.Proofs.Ytppkibgemacdbaa
open Go.RowKit Go.WideShapes Go.ChangeShapes

/-! divisor, at the numbers of the example -/
set_option maxRecDepth 100000 in
set_option maxHeartbeats 4000000 in
theorem divisor_3_6 (p c : Nat) (w : World) (hb : Blk w p 3 #[.int .i64 3, .int .i64 6]) : Calls Try.prog 59 #[.slice (some ⟨p, 0, none⟩) 2 c] w fun e w' => e = .returned (.int .i64 3) ∧ Below w.heap.size w w' := by
  have b0 : w.cell? ⟨p, 0, none⟩ = some (.int .i64 3) := hb.cell 0
  have b1 : w.cell? ⟨p, 1, none⟩ = some (.int .i64 6) := hb.cell 1
  clear hb
  go_enter Try.func59, Try.ntmps59
  go_wp2_with fail
  refine wp_loop_rounds 3 ?_
  rw [rounds_succ]
  go_wp2_with fail
  refine wp_loop_rounds 2 ?_
  rw [rounds_succ]
  go_wp2_with fail
  go_quiet (fail)
  go_wp2_with fail
  rw [rounds_succ]
  go_wp2_with fail
  rw [rounds_succ]
  go_wp2_with fail
  refine wp_loop_rounds 3 ?_
  rw [rounds_succ]
  go_wp2_with fail
  go_quiet (fail)
  go_wp2_with fail
  rw [rounds_succ]
  go_wp2_with fail
  go_quiet (fail)
  go_wp2_with fail
  rw [rounds_succ]
  go_wp2_with fail
  rw [rounds_succ]
  go_wp2_with fail
  go_ret
  exact ⟨rfl, below_drewN (Below.refl _ _) _⟩
set_option maxRecDepth 100000 in
set_option maxHeartbeats 4000000 in
theorem divisor_3_8 (p c : Nat) (w : World) (hb : Blk w p 3 #[.int .i64 3, .int .i64 8]) : Calls Try.prog 59 #[.slice (some ⟨p, 0, none⟩) 2 c] w fun e w' => e = .returned (.int .i64 1) ∧ Below w.heap.size w w' := by
  have b0 : w.cell? ⟨p, 0, none⟩ = some (.int .i64 3) := hb.cell 0
  have b1 : w.cell? ⟨p, 1, none⟩ = some (.int .i64 8) := hb.cell 1
  clear hb
  go_enter Try.func59, Try.ntmps59
  go_wp2_with fail
  refine wp_loop_rounds 3 ?_
  rw [rounds_succ]
  go_wp2_with fail
  refine wp_loop_rounds 2 ?_
  rw [rounds_succ]
  go_wp2_with fail
  go_quiet (fail)
  go_wp2_with fail
  rw [rounds_succ]
  go_wp2_with fail
  rw [rounds_succ]
  go_wp2_with fail
  refine wp_loop_rounds 5 ?_
  rw [rounds_succ]
  go_wp2_with fail
  go_quiet (fail)
  go_wp2_with fail
  rw [rounds_succ]
  go_wp2_with fail
  go_quiet (fail)
  go_wp2_with fail
  rw [rounds_succ]
  go_wp2_with fail
  go_quiet (fail)
  go_wp2_with fail
  rw [rounds_succ]
  go_wp2_with fail
  go_quiet (fail)
  go_wp2_with fail
  rw [rounds_succ]
  go_wp2_with fail
  rw [rounds_succ]
  go_wp2_with fail
  go_ret
  exact ⟨rfl, below_drewN (Below.refl _ _) _⟩
set_option maxRecDepth 100000 in
set_option maxHeartbeats 4000000 in
theorem divisor_1_16 (p c : Nat) (w : World) (hb : Blk w p 3 #[.int .i64 1, .int .i64 16]) : Calls Try.prog 59 #[.slice (some ⟨p, 0, none⟩) 2 c] w fun e w' => e = .returned (.int .i64 1) ∧ Below w.heap.size w w' := by
  have b0 : w.cell? ⟨p, 0, none⟩ = some (.int .i64 1) := hb.cell 0
  have b1 : w.cell? ⟨p, 1, none⟩ = some (.int .i64 16) := hb.cell 1
  clear hb
  go_enter Try.func59, Try.ntmps59
  go_wp2_with fail
  refine wp_loop_rounds 3 ?_
  rw [rounds_succ]
  go_wp2_with fail
  refine wp_loop_rounds 2 ?_
  rw [rounds_succ]
  go_wp2_with fail
  go_quiet (fail)
  go_wp2_with fail
  rw [rounds_succ]
  go_wp2_with fail
  rw [rounds_succ]
  go_wp2_with fail
  refine wp_loop_rounds 3 ?_
  rw [rounds_succ]
  go_wp2_with fail
  go_quiet (fail)
  go_wp2_with fail
  rw [rounds_succ]
  go_wp2_with fail
  go_quiet (fail)
  go_wp2_with fail
  rw [rounds_succ]
  go_wp2_with fail
  rw [rounds_succ]
  go_wp2_with fail
  go_ret
  exact ⟨rfl, below_drewN (Below.refl _ _) _⟩
end Go.Proofs.Ytppkibgemacdbaa

namespace Go.Proofs.Ytppkibgemacdbaa
open Go.RowKit Go.WideShapes Go.ChangeShapes

/-! demandErr at the example's demand -/
theorem within_true (n lo hi : Int) (w : World) (h : withinB n lo hi = true) : Calls Try.prog 41 #[.int .i64 n, .int .i64 lo, .int .i64 hi] w fun x w' => x = .returned (.bool true) ∧ w = w' := by
  rw [← h]; exact within_sy n lo hi w
set_option maxRecDepth 100000 in
set_option maxHeartbeats 8000000 in
theorem demandErr_ex (p q : Nat) (w : World) (hp : Blk w p 3 #[.int .i64 2, .int .i64 10, .int .i64 10]) (hq : Blk w q 3 #[.int .i64 1, .int .i64 1, .int .i64 2]) :
    Calls Try.prog 43 #[.agg #[.int .i64 10, .slice (some ⟨p, 0, none⟩) 3 3, .slice (some ⟨q, 0, none⟩) 3 3]] w fun e w' => e = .returned (.int .i64 0) ∧ Below w.heap.size w w' := by
  have HT := hide ((stay_blk (Blk.new w 69 #[.int .i64 10, .slice (some ⟨p, 0, none⟩) 3 3, .slice (some ⟨q, 0, none⟩) 3 3])).and ((stay_blk hp).alloc (.cells #[.int .i64 10, .slice (some ⟨p, 0, none⟩) 3 3, .slice (some ⟨q, 0, none⟩) 3 3] 69)) |>.and ((stay_blk hq).alloc (.cells #[.int .i64 10, .slice (some ⟨p, 0, none⟩) 3 3, .slice (some ⟨q, 0, none⟩) 3 3] 69)) |>.and (stay_below ((Below.refl _ w).alloc (Nat.le_refl _) (.cells #[.int .i64 10, .slice (some ⟨p, 0, none⟩) 3 3, .slice (some ⟨q, 0, none⟩) 3 3] 69))))
  clear hp hq
  go_enter Try.func43, Try.ntmps43
  go_wp2_with fail
  obtain ⟨W0, hW0⟩ : ∃ W0, w.alloc (.cells #[.int .i64 10, .slice (some ⟨p, 0, none⟩) 3 3, .slice (some ⟨q, 0, none⟩) 3 3] 69) = W0 := ⟨_, rfl⟩
  rw [hW0] at HT ⊢
  clear hW0
  refine wp_region_held_drew (S := fun w' => Below W0.heap.size W0 w') (by kernel_rfl) (below_drewN (Below.refl W0.heap.size W0) 1) (fun hHeld => ?_)
  refine take_at (i := 0) 6 (v := .pointer (some ⟨w.heap.size, 0, none⟩)) rfl rfl (by kernel_rfl) (by kernel_rfl) (by kernel_rfl) (fun _ _ _ h => h) (Or.inl ⟨by rfl, by intro w_ hSw; go_simp⟩) (by assumption) ?_
  try simp only [Act.put, List.setIfInBounds_toArray, List.set_cons_zero, List.set_cons_succ]
  refine take_at (i := 1) 7 (v := .int .i64 10) rfl rfl (by kernel_rfl) (by kernel_rfl) (by kernel_rfl) (fun _ _ _ h => h) (Or.inl ⟨by rfl, by intro w_ hSw; have c0 : w_.cell? ⟨w.heap.size, 0, none⟩ = some (.int .i64 10) := (HT.out _ hSw).1.1.1.cell 0; go_simp⟩) (by assumption) ?_
  try simp only [Act.put, List.setIfInBounds_toArray, List.set_cons_zero, List.set_cons_succ]
  refine take_at (i := 4) 10 (v := .pointer (some ⟨w.heap.size, 1, none⟩)) rfl rfl (by kernel_rfl) (by kernel_rfl) (by kernel_rfl) (fun _ _ _ h => h) (Or.inl ⟨by rfl, by intro w_ hSw; go_simp⟩) (by assumption) ?_
  try simp only [Act.put, List.setIfInBounds_toArray, List.set_cons_zero, List.set_cons_succ]
  refine take_at (i := 5) 11 (v := .slice (some ⟨p, 0, none⟩) 3 3) rfl rfl (by kernel_rfl) (by kernel_rfl) (by kernel_rfl) (fun _ _ _ h => h) (Or.inl ⟨by rfl, by intro w_ hSw; have c0 : w_.cell? ⟨w.heap.size, 1, none⟩ = some (.slice (some ⟨p, 0, none⟩) 3 3) := (HT.out _ hSw).1.1.1.cell 1; go_simp⟩) (by assumption) ?_
  try simp only [Act.put, List.setIfInBounds_toArray, List.set_cons_zero, List.set_cons_succ]
  refine take_at (i := 6) 12 (v := .int .i64 3) rfl rfl (by kernel_rfl) (by kernel_rfl) (by kernel_rfl) (fun _ _ _ h => h) (Or.inl ⟨by rfl, by intro w_ hSw; go_simp⟩) (by assumption) ?_
  try simp only [Act.put, List.setIfInBounds_toArray, List.set_cons_zero, List.set_cons_succ]
  refine take_at (i := 7) 13 (v := .bool true) rfl rfl (by kernel_rfl) (by kernel_rfl) (by kernel_rfl) (fun _ _ _ h => h) (Or.inl ⟨by rfl, by intro w_ hSw; go_simp⟩) (by assumption) ?_
  try simp only [Act.put, List.setIfInBounds_toArray, List.set_cons_zero, List.set_cons_succ]
  refine take_at (i := 18) 24 (v := .pointer (some ⟨w.heap.size, 1, none⟩)) rfl rfl (by kernel_rfl) (by kernel_rfl) (by kernel_rfl) (fun _ _ _ h => h) (Or.inl ⟨by rfl, by intro w_ hSw; go_simp⟩) (by assumption) ?_
  try simp only [Act.put, List.setIfInBounds_toArray, List.set_cons_zero, List.set_cons_succ]
  refine take_at (i := 19) 25 (v := .slice (some ⟨p, 0, none⟩) 3 3) rfl rfl (by kernel_rfl) (by kernel_rfl) (by kernel_rfl) (fun _ _ _ h => h) (Or.inl ⟨by rfl, by intro w_ hSw; have c0 : w_.cell? ⟨w.heap.size, 1, none⟩ = some (.slice (some ⟨p, 0, none⟩) 3 3) := (HT.out _ hSw).1.1.1.cell 1; go_simp⟩) (by assumption) ?_
  try simp only [Act.put, List.setIfInBounds_toArray, List.set_cons_zero, List.set_cons_succ]
  refine take_at (i := 20) 26 (v := .int .i64 3) rfl rfl (by kernel_rfl) (by kernel_rfl) (by kernel_rfl) (fun _ _ _ h => h) (Or.inl ⟨by rfl, by intro w_ hSw; go_simp⟩) (by assumption) ?_
  try simp only [Act.put, List.setIfInBounds_toArray, List.set_cons_zero, List.set_cons_succ]
  refine take_at (i := 21) 27 (v := .bool true) rfl rfl (by kernel_rfl) (by kernel_rfl) (by kernel_rfl) (fun _ _ _ h => h) (Or.inl ⟨by rfl, by intro w_ hSw; go_simp⟩) (by assumption) ?_
  try simp only [Act.put, List.setIfInBounds_toArray, List.set_cons_zero, List.set_cons_succ]
  refine wpAnyH_ready (rs := [2]) (by kernel_rfl) (by simp) ?_
  refine AllReadyH.cons rfl (fun K hK => ?_) AllReadyH.nil
  go_simp
  go_at_call 41
  refine (within_true 10 0 1000000 _ (by decide)).mono ?_
  rintro e w1 ⟨rfl, rfl⟩
  simp only []
  refine hK.out _ _ hHeld (fun hHeld => ?_)
  clear hK K
  try simp only [Act.put, List.setIfInBounds_toArray, List.set_cons_zero, List.set_cons_succ]
  refine wpAnyH_ready (rs := [3]) (by kernel_rfl) (by simp) ?_
  refine AllReadyH.cons rfl (fun K hK => ?_) AllReadyH.nil
  go_simp
  go_at_call 28
  refine (unless_any true 2 _).mono ?_
  rintro e3 w3 ⟨rfl, rfl⟩
  simp only [unlessE, if_true]
  refine hK.out _ _ hHeld (fun hHeld => ?_)
  clear hK K
  try simp only [Act.put, List.setIfInBounds_toArray, List.set_cons_zero, List.set_cons_succ]
  refine take_at (i := 8) 14 (v := .bool true) rfl rfl (by kernel_rfl) (by kernel_rfl) (by kernel_rfl) (fun _ _ _ h => h) (Or.inl ⟨by rfl, by intro w_ hSw; go_simp⟩) (by assumption) ?_
  try simp only [Act.put, List.setIfInBounds_toArray, List.set_cons_zero, List.set_cons_succ]
  refine take_at (i := 9) 15 (v := .pointer (some ⟨w.heap.size, 1, none⟩)) rfl rfl (by kernel_rfl) (by kernel_rfl) (by kernel_rfl) (fun _ _ _ h => h) (Or.inl ⟨by rfl, by intro w_ hSw; go_simp⟩) (by assumption) ?_
  try simp only [Act.put, List.setIfInBounds_toArray, List.set_cons_zero, List.set_cons_succ]
  refine take_at (i := 10) 16 (v := .slice (some ⟨p, 0, none⟩) 3 3) rfl rfl (by kernel_rfl) (by kernel_rfl) (by kernel_rfl) (fun _ _ _ h => h) (Or.inl ⟨by rfl, by intro w_ hSw; have c0 : w_.cell? ⟨w.heap.size, 1, none⟩ = some (.slice (some ⟨p, 0, none⟩) 3 3) := (HT.out _ hSw).1.1.1.cell 1; go_simp⟩) (by assumption) ?_
  try simp only [Act.put, List.setIfInBounds_toArray, List.set_cons_zero, List.set_cons_succ]
  refine take_at (i := 11) 17 (v := .int .i64 3) rfl rfl (by kernel_rfl) (by kernel_rfl) (by kernel_rfl) (fun _ _ _ h => h) (Or.inl ⟨by rfl, by intro w_ hSw; go_simp⟩) (by assumption) ?_
  try simp only [Act.put, List.setIfInBounds_toArray, List.set_cons_zero, List.set_cons_succ]
  refine take_at (i := 12) 18 (v := .pointer (some ⟨w.heap.size, 2, none⟩)) rfl rfl (by kernel_rfl) (by kernel_rfl) (by kernel_rfl) (fun _ _ _ h => h) (Or.inl ⟨by rfl, by intro w_ hSw; go_simp⟩) (by assumption) ?_
  try simp only [Act.put, List.setIfInBounds_toArray, List.set_cons_zero, List.set_cons_succ]
  refine take_at (i := 13) 19 (v := .slice (some ⟨q, 0, none⟩) 3 3) rfl rfl (by kernel_rfl) (by kernel_rfl) (by kernel_rfl) (fun _ _ _ h => h) (Or.inl ⟨by rfl, by intro w_ hSw; have c0 : w_.cell? ⟨w.heap.size, 2, none⟩ = some (.slice (some ⟨q, 0, none⟩) 3 3) := (HT.out _ hSw).1.1.1.cell 2; go_simp⟩) (by assumption) ?_
  try simp only [Act.put, List.setIfInBounds_toArray, List.set_cons_zero, List.set_cons_succ]
  refine take_at (i := 14) 20 (v := .int .i64 3) rfl rfl (by kernel_rfl) (by kernel_rfl) (by kernel_rfl) (fun _ _ _ h => h) (Or.inl ⟨by rfl, by intro w_ hSw; go_simp⟩) (by assumption) ?_
  try simp only [Act.put, List.setIfInBounds_toArray, List.set_cons_zero, List.set_cons_succ]
  refine take_at (i := 15) 21 (v := .bool true) rfl rfl (by kernel_rfl) (by kernel_rfl) (by kernel_rfl) (fun _ _ _ h => h) (Or.inl ⟨by rfl, by intro w_ hSw; go_simp⟩) (by assumption) ?_
  try simp only [Act.put, List.setIfInBounds_toArray, List.set_cons_zero, List.set_cons_succ]
  refine take_at (i := 16) 22 (v := .bool true) rfl rfl (by kernel_rfl) (by kernel_rfl) (by kernel_rfl) (fun _ _ _ h => h) (Or.inl ⟨by rfl, by intro w_ hSw; go_simp⟩) (by assumption) ?_
  try simp only [Act.put, List.setIfInBounds_toArray, List.set_cons_zero, List.set_cons_succ]
  refine wpAnyH_ready (rs := [17]) (by kernel_rfl) (by simp) ?_
  refine AllReadyH.cons rfl (fun K hK => ?_) AllReadyH.nil
  go_simp
  go_at_call 28
  refine (unless_any true 10 _).mono ?_
  rintro e4 w4 ⟨rfl, rfl⟩
  simp only [unlessE, if_true]
  refine hK.out _ _ hHeld (fun hHeld => ?_)
  clear hK K
  try simp only [Act.put, List.setIfInBounds_toArray, List.set_cons_zero, List.set_cons_succ]
  refine wpAnyH_ready (rs := [22]) (by kernel_rfl) (by simp) ?_
  refine AllReadyH.cons rfl (fun K hK => ?_) AllReadyH.nil
  go_simp
  go_at_call 28
  refine (unless_any true 8 _).mono ?_
  rintro e5 w5 ⟨rfl, rfl⟩
  simp only [unlessE, if_true]
  refine hK.out _ _ hHeld (fun hHeld => ?_)
  clear hK K
  try simp only [Act.put, List.setIfInBounds_toArray, List.set_cons_zero, List.set_cons_succ]
  refine wpAnyH_ready (rs := [23]) (by kernel_rfl) (by simp) ?_
  refine AllReadyH.cons rfl (fun K hK => ?_) AllReadyH.nil
  go_simp
  try simp only [World.size_drew]
  replace hHeld := hHeld.alloc hHeld.size (.cells #[.int .i64 0, .int .i64 0, .int .i64 0] 36)
  refine hK.out _ _ hHeld (fun hHeld => ?_)
  clear hK K
  try simp only [Act.put, List.setIfInBounds_toArray, List.set_cons_zero, List.set_cons_succ]
  refine wpAnyH_ready (rs := [24]) (by kernel_rfl) (by simp) ?_
  refine AllReadyH.cons rfl (fun K hK => ?_) AllReadyH.nil
  go_simp
  go_at_call 26
  replace hHeld : Below W0.heap.size W0 (W0.alloc (.cells #[.int .i64 0, .int .i64 0, .int .i64 0] 36)).drew := hHeld
  refine (first3d W0 _ 0 0 0 rfl).mono ?_
  rintro e w7 ⟨rfl, rfl⟩
  simp only [firstOf, if_true]
  refine hK.out _ _ hHeld (fun hHeld => ?_)
  clear hK K
  try simp only [Act.put, List.setIfInBounds_toArray, List.set_cons_zero, List.set_cons_succ]
  refine take_at (i := 25) 3 (v := .int .i64 0) rfl rfl (by kernel_rfl) (by kernel_rfl) (by kernel_rfl) (fun _ _ _ h => h) (Or.inl ⟨by rfl, by intro w_ hSw; go_simp⟩) (by assumption) ?_
  try simp only [Act.put, List.setIfInBounds_toArray, List.set_cons_zero, List.set_cons_succ]
  refine wpAnyH_done (by kernel_rfl) ?_ _
  replace HT := hide (HT.out.step hHeld)
  clear hHeld
  obtain ⟨W8, hW8⟩ : ∃ W8, (W0.alloc (.cells #[.int .i64 0, .int .i64 0, .int .i64 0] 36)).drew = W8 := ⟨_, rfl⟩
  rw [hW8] at HT ⊢
  clear hW8
  have q1 : W8.cell? ⟨w.heap.size, 1, none⟩ = some (.slice (some ⟨p, 0, none⟩) 3 3) := HT.out.now.1.1.1.cell 1
  have q2 : W8.cell? ⟨w.heap.size, 2, none⟩ = some (.slice (some ⟨q, 0, none⟩) 3 3) := HT.out.now.1.1.1.cell 2
  have p0 : W8.cell? ⟨p, 0, none⟩ = some (.int .i64 2) := HT.out.now.1.1.2.cell 0
  have p1 : W8.cell? ⟨p, 1, none⟩ = some (.int .i64 10) := HT.out.now.1.1.2.cell 1
  have p2 : W8.cell? ⟨p, 2, none⟩ = some (.int .i64 10) := HT.out.now.1.1.2.cell 2
  have w0 : W8.cell? ⟨q, 0, none⟩ = some (.int .i64 1) := HT.out.now.1.2.cell 0
  have w1 : W8.cell? ⟨q, 1, none⟩ = some (.int .i64 1) := HT.out.now.1.2.cell 1
  have w2 : W8.cell? ⟨q, 2, none⟩ = some (.int .i64 2) := HT.out.now.1.2.cell 2
  go_wp2_with fail
  refine wp_loop_rounds 4 ?_
  rw [rounds_succ]
  go_wp2_with (go_at_call 41; go_must (refine (within_true _ _ _ _ (by decide)).mono ?_; rintro e w9 ⟨rfl, rfl⟩; simp only []))
  rw [rounds_succ]
  go_wp2_with (go_at_call 41; go_must (refine (within_true _ _ _ _ (by decide)).mono ?_; rintro e w9 ⟨rfl, rfl⟩; simp only []))
  rw [rounds_succ]
  go_wp2_with (go_at_call 41; go_must (refine (within_true _ _ _ _ (by decide)).mono ?_; rintro e w9 ⟨rfl, rfl⟩; simp only []))
  rw [rounds_succ]
  go_wp2
  go_ret
  exact ⟨rfl, HT.out.now.2⟩
end Go.Proofs.Ytppkibgemacdbaa

