import Derived.Test.YtppkibgemacdbaaSdO
namespace Go.Proofs.Ytppkibgemacdbaa
open Go.RowKit Go.WideShapes Go.ChangeShapes

/-! openAll of one bearer -/
set_option maxRecDepth 100000 in
set_option maxHeartbeats 8000000 in
theorem bearersErrOne (B C P : Int) (A : Option Addr) (c n : Nat) (T : List Int) (nm : Bs) (kd pr wt pw le bu ra de : Int) (w : World) (hn : T.length = n) (hs : Sl w A (iv T)) (hs2 : OkS B C P T) (ho : OkB T nm kd pr wt pw le bu ra de) (hk : kd ≠ 0) (hf : fitB B P pw ra bu de (tbO T le) = true) (g d : Nat) (hg : Blk w g 32 #[strV nm, .int .i64 kd, .int .i64 pr, .int .i64 wt, .int .i64 pw, .int .i64 le, .int .i64 bu, .int .i64 ra, .int .i64 de]) :
    Calls Try.prog 60 #[.agg #[.int .i64 B, .int .i64 C, .int .i64 P, .slice A n c], .slice (some ⟨g, 0, none⟩) 1 d] w fun e w' => e = .returned (.tuple #[.int .i64 0, .int .i64 0]) ∧ Below w.heap.size w w' := by
  have HF := hide (fun W k k2 => fitOne B C P A c n T nm kd pr wt pw le bu ra de W hn k hs2 ho hk g d k2)
  rw [hf] at HF
  have HBE := hide (fun W k => bearerErr_ok B C P A c n T nm kd pr wt pw le bu ra de W hn k (by have := hs2.few; omega) ho (fun i h => (hs2.in_ i h).1) hk)
  have HT := hide ((((stay_blk (Blk.new w 74 #[.int .i64 B, .int .i64 C, .int .i64 P, .slice A n c])).and ((stay_blk hg).alloc (.cells #[.int .i64 B, .int .i64 C, .int .i64 P, .slice A n c] 74))).and ((stay_sl hs).alloc (.cells #[.int .i64 B, .int .i64 C, .int .i64 P, .slice A n c] 74))).and (stay_below ((Below.refl _ w).alloc (Nat.le_refl _) (.cells #[.int .i64 B, .int .i64 C, .int .i64 P, .slice A n c] 74))))
  clear hs hs2 ho hk hn hf hg
  go_enter Try.func60, Try.ntmps60
  go_wp2_with fail
  obtain ⟨W0, hW0⟩ : ∃ W0, w.alloc (.cells #[.int .i64 B, .int .i64 C, .int .i64 P, .slice A n c] 74) = W0 := ⟨_, rfl⟩
  rw [hW0] at HT ⊢
  clear hW0
  have z0 : W0.cell? ⟨g, 0, none⟩ = some (strV nm) := HT.out.now.1.1.2.cell 0
  have z1 : W0.cell? ⟨g, 1, none⟩ = some (.int .i64 kd) := HT.out.now.1.1.2.cell 1
  have z2 : W0.cell? ⟨g, 2, none⟩ = some (.int .i64 pr) := HT.out.now.1.1.2.cell 2
  have z3 : W0.cell? ⟨g, 3, none⟩ = some (.int .i64 wt) := HT.out.now.1.1.2.cell 3
  have z4 : W0.cell? ⟨g, 4, none⟩ = some (.int .i64 pw) := HT.out.now.1.1.2.cell 4
  have z5 : W0.cell? ⟨g, 5, none⟩ = some (.int .i64 le) := HT.out.now.1.1.2.cell 5
  have z6 : W0.cell? ⟨g, 6, none⟩ = some (.int .i64 bu) := HT.out.now.1.1.2.cell 6
  have z7 : W0.cell? ⟨g, 7, none⟩ = some (.int .i64 ra) := HT.out.now.1.1.2.cell 7
  have z8 : W0.cell? ⟨g, 8, none⟩ = some (.int .i64 de) := HT.out.now.1.1.2.cell 8
  refine wp_loop_rounds 2 ?_
  rw [rounds_succ]
  go_wp2_with (
    refine wpList_store_row rfl 32 (.tmp 7) (.tmp 18) rfl W0.heap.size #[strV nm, .int .i64 kd, .int .i64 pr, .int .i64 wt, .int .i64 pw, .int .i64 le, .int .i64 bu, .int .i64 ra, .int .i64 de] rfl rfl 32 #[.string ⟨#[]⟩, .int .i64 0, .int .i64 0, .int .i64 0, .int .i64 0, .int .i64 0, .int .i64 0, .int .i64 0, .int .i64 0] (Blk.new W0 32 #[.string ⟨#[]⟩, .int .i64 0, .int .i64 0, .int .i64 0, .int .i64 0, .int .i64 0, .int .i64 0, .int .i64 0, .int .i64 0]) (by kernel_rfl) rfl (by simp [Value.oneCell', strV]) ?_
    have HZ := hide ((Blk.new W0 32 #[.string ⟨#[]⟩, .int .i64 0, .int .i64 0, .int .i64 0, .int .i64 0, .int .i64 0, .int .i64 0, .int .i64 0, .int .i64 0]).row #[strV nm, .int .i64 kd, .int .i64 pr, .int .i64 wt, .int .i64 pw, .int .i64 le, .int .i64 bu, .int .i64 ra, .int .i64 de])
    replace HT := hide ((HT.out.step (Below.row (g := W0.heap.size) ((Below.refl W0.heap.size W0).alloc (Nat.le_refl _) (.cells #[.string ⟨#[]⟩, .int .i64 0, .int .i64 0, .int .i64 0, .int .i64 0, .int .i64 0, .int .i64 0, .int .i64 0, .int .i64 0] 32)) (Nat.le_refl _) #[strV nm, .int .i64 kd, .int .i64 pr, .int .i64 wt, .int .i64 pw, .int .i64 le, .int .i64 bu, .int .i64 ra, .int .i64 de])).and (stay_blk HZ.out))
    obtain ⟨W4, hW4⟩ : ∃ W4, (W0.alloc (.cells #[.string ⟨#[]⟩, .int .i64 0, .int .i64 0, .int .i64 0, .int .i64 0, .int .i64 0, .int .i64 0, .int .i64 0, .int .i64 0] 32)).setRow W0.heap.size #[strV nm, .int .i64 kd, .int .i64 pr, .int .i64 wt, .int .i64 pw, .int .i64 le, .int .i64 bu, .int .i64 ra, .int .i64 de] = W4 := ⟨_, rfl⟩
    rw [hW4] at HT ⊢
    clear hW4 HZ z0 z1 z2 z3 z4 z5 z6 z7 z8)
  refine wp_region_held_drew (S := fun w' => Below W4.heap.size W4 w') (by kernel_rfl) (below_drewN (Below.refl _ _) 1) (fun hHeld => ?_)
  refine take_at (i := 0) 19 (v := .agg #[.int .i64 B, .int .i64 C, .int .i64 P, .slice A n c]) rfl rfl (by kernel_rfl) (by kernel_rfl) (by kernel_rfl) (fun _ _ _ h => h) (Or.inl ⟨by rfl, by intro w_ hSw; have hb := HT.out w_ hSw; have s0 : w_.cell? ⟨w.heap.size, 0, none⟩ = some (.int .i64 B) := hb.1.1.1.1.cell 0; have s1 : w_.cell? ⟨w.heap.size, 1, none⟩ = some (.int .i64 C) := hb.1.1.1.1.cell 1; have s2 : w_.cell? ⟨w.heap.size, 2, none⟩ = some (.int .i64 P) := hb.1.1.1.1.cell 2; have s3 : w_.cell? ⟨w.heap.size, 3, none⟩ = some (.slice A n c) := hb.1.1.1.1.cell 3; have d0 : w_.cell? ⟨W0.heap.size, 0, none⟩ = some (strV nm) := hb.2.cell 0; have d1 : w_.cell? ⟨W0.heap.size, 1, none⟩ = some (.int .i64 kd) := hb.2.cell 1; have d2 : w_.cell? ⟨W0.heap.size, 2, none⟩ = some (.int .i64 pr) := hb.2.cell 2; have d3 : w_.cell? ⟨W0.heap.size, 3, none⟩ = some (.int .i64 wt) := hb.2.cell 3; have d4 : w_.cell? ⟨W0.heap.size, 4, none⟩ = some (.int .i64 pw) := hb.2.cell 4; have d5 : w_.cell? ⟨W0.heap.size, 5, none⟩ = some (.int .i64 le) := hb.2.cell 5; have d6 : w_.cell? ⟨W0.heap.size, 6, none⟩ = some (.int .i64 bu) := hb.2.cell 6; have d7 : w_.cell? ⟨W0.heap.size, 7, none⟩ = some (.int .i64 ra) := hb.2.cell 7; have d8 : w_.cell? ⟨W0.heap.size, 8, none⟩ = some (.int .i64 de) := hb.2.cell 8; go_simp⟩) (by assumption) ?_
  try simp only [Act.put, List.setIfInBounds_toArray, List.set_cons_zero, List.set_cons_succ]
  refine take_at (i := 1) 20 (v := .agg #[strV nm, .int .i64 kd, .int .i64 pr, .int .i64 wt, .int .i64 pw, .int .i64 le, .int .i64 bu, .int .i64 ra, .int .i64 de]) rfl rfl (by kernel_rfl) (by kernel_rfl) (by kernel_rfl) (fun _ _ _ h => h) (Or.inl ⟨by rfl, by intro w_ hSw; have hb := HT.out w_ hSw; have s0 : w_.cell? ⟨w.heap.size, 0, none⟩ = some (.int .i64 B) := hb.1.1.1.1.cell 0; have s1 : w_.cell? ⟨w.heap.size, 1, none⟩ = some (.int .i64 C) := hb.1.1.1.1.cell 1; have s2 : w_.cell? ⟨w.heap.size, 2, none⟩ = some (.int .i64 P) := hb.1.1.1.1.cell 2; have s3 : w_.cell? ⟨w.heap.size, 3, none⟩ = some (.slice A n c) := hb.1.1.1.1.cell 3; have d0 : w_.cell? ⟨W0.heap.size, 0, none⟩ = some (strV nm) := hb.2.cell 0; have d1 : w_.cell? ⟨W0.heap.size, 1, none⟩ = some (.int .i64 kd) := hb.2.cell 1; have d2 : w_.cell? ⟨W0.heap.size, 2, none⟩ = some (.int .i64 pr) := hb.2.cell 2; have d3 : w_.cell? ⟨W0.heap.size, 3, none⟩ = some (.int .i64 wt) := hb.2.cell 3; have d4 : w_.cell? ⟨W0.heap.size, 4, none⟩ = some (.int .i64 pw) := hb.2.cell 4; have d5 : w_.cell? ⟨W0.heap.size, 5, none⟩ = some (.int .i64 le) := hb.2.cell 5; have d6 : w_.cell? ⟨W0.heap.size, 6, none⟩ = some (.int .i64 bu) := hb.2.cell 6; have d7 : w_.cell? ⟨W0.heap.size, 7, none⟩ = some (.int .i64 ra) := hb.2.cell 7; have d8 : w_.cell? ⟨W0.heap.size, 8, none⟩ = some (.int .i64 de) := hb.2.cell 8; go_simp⟩) (by assumption) ?_
  try simp only [Act.put, List.setIfInBounds_toArray, List.set_cons_zero, List.set_cons_succ]
  refine take_at (i := 3) 22 (v := .slice (some ⟨g, 0, none⟩) 1 d) rfl rfl (by kernel_rfl) (by kernel_rfl) (by kernel_rfl) (fun _ _ _ h => h) (Or.inl ⟨by rfl, by intro w hSw; go_simp⟩) (by assumption) ?_
  try simp only [Act.put, List.setIfInBounds_toArray, List.set_cons_zero, List.set_cons_succ]
  refine take_at (i := 4) 23 (v := .int .i64 0) rfl rfl (by kernel_rfl) (by kernel_rfl) (by kernel_rfl) (fun _ _ _ h => h) (Or.inl ⟨by rfl, by intro w hSw; go_simp⟩) (by assumption) ?_
  try simp only [Act.put, List.setIfInBounds_toArray, List.set_cons_zero, List.set_cons_succ]
  refine take_at (i := 5) 24 (v := .slice (some ⟨g, 0, none⟩) 0 d) rfl rfl (by kernel_rfl) (by kernel_rfl) (by kernel_rfl) (fun _ _ _ h => h) (Or.inl ⟨by rfl, by intro w hSw; go_simp⟩) (by assumption) ?_
  try simp only [Act.put, List.setIfInBounds_toArray, List.set_cons_zero, List.set_cons_succ]
  refine take_at (i := 6) 25 (v := .pointer (some ⟨W0.heap.size, 0, none⟩)) rfl rfl (by kernel_rfl) (by kernel_rfl) (by kernel_rfl) (fun _ _ _ h => h) (Or.inl ⟨by rfl, by intro w hSw; go_simp⟩) (by assumption) ?_
  try simp only [Act.put, List.setIfInBounds_toArray, List.set_cons_zero, List.set_cons_succ]
  refine take_at (i := 7) 26 (v := strV nm) rfl rfl (by kernel_rfl) (by kernel_rfl) (by kernel_rfl) (fun _ _ _ h => h) (Or.inl ⟨by rfl, by intro w_ hSw; have hb := HT.out w_ hSw; have s0 : w_.cell? ⟨w.heap.size, 0, none⟩ = some (.int .i64 B) := hb.1.1.1.1.cell 0; have s1 : w_.cell? ⟨w.heap.size, 1, none⟩ = some (.int .i64 C) := hb.1.1.1.1.cell 1; have s2 : w_.cell? ⟨w.heap.size, 2, none⟩ = some (.int .i64 P) := hb.1.1.1.1.cell 2; have s3 : w_.cell? ⟨w.heap.size, 3, none⟩ = some (.slice A n c) := hb.1.1.1.1.cell 3; have d0 : w_.cell? ⟨W0.heap.size, 0, none⟩ = some (strV nm) := hb.2.cell 0; have d1 : w_.cell? ⟨W0.heap.size, 1, none⟩ = some (.int .i64 kd) := hb.2.cell 1; have d2 : w_.cell? ⟨W0.heap.size, 2, none⟩ = some (.int .i64 pr) := hb.2.cell 2; have d3 : w_.cell? ⟨W0.heap.size, 3, none⟩ = some (.int .i64 wt) := hb.2.cell 3; have d4 : w_.cell? ⟨W0.heap.size, 4, none⟩ = some (.int .i64 pw) := hb.2.cell 4; have d5 : w_.cell? ⟨W0.heap.size, 5, none⟩ = some (.int .i64 le) := hb.2.cell 5; have d6 : w_.cell? ⟨W0.heap.size, 6, none⟩ = some (.int .i64 bu) := hb.2.cell 6; have d7 : w_.cell? ⟨W0.heap.size, 7, none⟩ = some (.int .i64 ra) := hb.2.cell 7; have d8 : w_.cell? ⟨W0.heap.size, 8, none⟩ = some (.int .i64 de) := hb.2.cell 8; go_simp⟩) (by assumption) ?_
  try simp only [Act.put, List.setIfInBounds_toArray, List.set_cons_zero, List.set_cons_succ]
  refine wpAnyH_ready (rs := [2]) (by kernel_rfl) (by simp) ?_
  refine AllReadyH.cons rfl (fun K hK => ?_) AllReadyH.nil
  go_simp
  go_at_call 27
  refine (HBE.out _ (HT.out _ (below_drewN (Below.refl _ _) 1)).1.1.2).mono ?_
  rintro e v1 ⟨rfl, hb⟩
  have B2 := hide (Below.step (below_drewN (Below.refl W4.heap.size W4) 1) hb)
  clear hb
  try simp only []
  refine hK.out _ _ B2.out (fun hHeld => ?_)
  clear hK K
  try simp only [Act.put, List.setIfInBounds_toArray, List.set_cons_zero, List.set_cons_succ]
  refine wpAnyH_ready (rs := [8]) (by kernel_rfl) (by simp) ?_
  refine AllReadyH.cons rfl (fun K hK => ?_) AllReadyH.nil
  go_simp
  go_at_call 29
  refine (namedNone _ _ _ _).mono ?_
  rintro e v2 ⟨rfl, hb⟩
  have B3 := hide (Below.step B2.out hb)
  clear hb
  try simp only []
  refine hK.out _ _ B3.out (fun hHeld => ?_)
  clear hK K
  try simp only [Act.put, List.setIfInBounds_toArray, List.set_cons_zero, List.set_cons_succ]
  refine take_at (i := 9) 28 (v := .bool true) rfl rfl (by kernel_rfl) (by kernel_rfl) (by kernel_rfl) (fun _ _ _ h => h) (Or.inl ⟨by rfl, by intro w hSw; go_simp⟩) (by assumption) ?_
  try simp only [Act.put, List.setIfInBounds_toArray, List.set_cons_zero, List.set_cons_succ]
  refine wpAnyH_ready (rs := [10]) (by kernel_rfl) (by simp) ?_
  refine AllReadyH.cons rfl (fun K hK => ?_) AllReadyH.nil
  go_simp
  go_at_call 28
  refine (unless_any _ _ _).mono ?_
  rintro e w' ⟨rfl, rfl⟩
  rw [show unlessE true 5 = 0 from rfl]
  try simp only []
  refine hK.out _ _ B3.out (fun hHeld => ?_)
  clear hK K
  try simp only [Act.put, List.setIfInBounds_toArray, List.set_cons_zero, List.set_cons_succ]
  refine wpAnyH_ready (rs := [11]) (by kernel_rfl) (by simp) ?_
  refine AllReadyH.cons rfl (fun K hK => ?_) AllReadyH.nil
  go_simp
  refine hK.out _ _ (B3.out.alloc B3.out.size _) (fun hHeld => ?_)
  clear hK K
  try simp only [Act.put, List.setIfInBounds_toArray, List.set_cons_zero, List.set_cons_succ]
  refine wpAnyH_ready (rs := [12]) (by kernel_rfl) (by simp) ?_
  refine AllReadyH.cons rfl (fun K hK => ?_) AllReadyH.nil
  go_simp
  go_at_call 26
  refine (first2 _ _ _ _ (by first | rfl | simp)).mono ?_
  rintro e w' ⟨rfl, rfl⟩
  rw [show firstOf [0, 0] = 0 from rfl]
  try simp only []
  refine hK.out _ _ (B3.out.alloc B3.out.size _) (fun hHeld => ?_)
  clear hK K
  try simp only [Act.put, List.setIfInBounds_toArray, List.set_cons_zero, List.set_cons_succ]
  refine take_at (i := 13) 8 (v := .int .i64 0) rfl rfl (by kernel_rfl) (by kernel_rfl) (by kernel_rfl) (fun _ _ _ h => h) (Or.inl ⟨by rfl, by intro w hSw; go_simp⟩) (by assumption) ?_
  try simp only [Act.put, List.setIfInBounds_toArray, List.set_cons_zero, List.set_cons_succ]
  refine wpAnyH_done (by kernel_rfl) ?_ _
  replace HT := hide (HT.out.step (B3.out.alloc B3.out.size (.cells #[.int .i64 0, .int .i64 0] 36)))
  clear B2 B3 hHeld HBE
  obtain ⟨W5, hW5⟩ : ∃ W5, v2.alloc (.cells #[.int .i64 0, .int .i64 0] 36) = W5 := ⟨_, rfl⟩
  rw [hW5] at HT ⊢
  clear hW5
  have s0 : W5.cell? ⟨w.heap.size, 0, none⟩ = some (.int .i64 B) := HT.out.now.1.1.1.1.cell 0
  have s1 : W5.cell? ⟨w.heap.size, 1, none⟩ = some (.int .i64 C) := HT.out.now.1.1.1.1.cell 1
  have s2 : W5.cell? ⟨w.heap.size, 2, none⟩ = some (.int .i64 P) := HT.out.now.1.1.1.1.cell 2
  have s3 : W5.cell? ⟨w.heap.size, 3, none⟩ = some (.slice A n c) := HT.out.now.1.1.1.1.cell 3
  go_wp2_with fail
  rw [rounds_succ]
  go_wp2_with (first
    | (go_at_call 30; go_must (refine (HF.out _ HT.out.now.1.1.2 HT.out.now.1.1.1.2).mono ?_; rintro e w9 ⟨rfl, hb⟩; replace HT := hide (HT.out.step hb); clear hb; simp only []))
    | (go_at_call 28; go_must (refine (unless_any _ _ _).mono ?_; rintro e w' ⟨rfl, rfl⟩; rw [show unlessE true 16 = 0 from rfl]; simp only [])))
  exact bodyPost_ret (v := .tuple #[.int .i64 0, .int .i64 0]) (by simp [results, Try.results60, go_sem]) rfl ⟨rfl, HT.out.now.1.2⟩
theorem checkBearersOne (B C P : Int) (A : Option Addr) (c n : Nat) (T : List Int) (nm : Bs) (kd pr wt pw le bu ra de : Int) (w : World) (hn : T.length = n) (hs : Sl w A (iv T)) (hs2 : OkS B C P T) (ho : OkB T nm kd pr wt pw le bu ra de) (hk : kd ≠ 0) (hf : fitB B P pw ra bu de (tbO T le) = true) (g d : Nat) (hg : Blk w g 32 #[strV nm, .int .i64 kd, .int .i64 pr, .int .i64 wt, .int .i64 pw, .int .i64 le, .int .i64 bu, .int .i64 ra, .int .i64 de]) :
    Calls Try.prog 46 #[.agg #[.int .i64 B, .int .i64 C, .int .i64 P, .slice A n c], .slice (some ⟨g, 0, none⟩) 1 d] w fun e w' => e = .returned (.tuple #[.int .i64 0, .int .i64 0]) ∧ Below w.heap.size w w' := by
  have HO := hide (fun W k => open_ok B C P A c n T W hn k hs2)
  have HE := hide (fun W k k2 => bearersErrOne B C P A c n T nm kd pr wt pw le bu ra de W hn k hs2 ho hk hf g d k2)
  have HT := hide (((stay_blk hg).alloc (.cells #[.int .i64 B, .int .i64 C, .int .i64 P, .slice A n c] 24)).and ((stay_sl hs).alloc (.cells #[.int .i64 B, .int .i64 C, .int .i64 P, .slice A n c] 24)) |>.and (stay_below ((Below.refl _ w).alloc (Nat.le_refl _) (.cells #[.int .i64 B, .int .i64 C, .int .i64 P, .slice A n c] 24))))
  clear hs hs2 ho hk hn hf hg
  go_enter Try.func46, Try.ntmps46
  go_wp2_with (first
    | (go_at_call 58; go_must (refine (HO.out _ HT.out.now.1.2).mono ?_; rintro e w1 ⟨rfl, hb⟩; replace HT := hide ((HT.out.step hb).alloc (.cells #[.int .i64 B, .int .i64 C, .int .i64 P, .slice A n c] 74)); clear hb; simp only []))
    | (go_at_call 60; go_must (refine (HE.out _ HT.out.now.1.2 HT.out.now.1.1).mono ?_; rintro e w2 ⟨rfl, hb⟩; replace HT := hide (HT.out.step hb); clear hb; simp only [])))
  exact bodyPost_ret (v := .tuple #[.int .i64 0, .int .i64 0]) (by simp [results, Try.results46, go_sem]) rfl ⟨rfl, HT.out.now.2⟩
theorem openAllOne (B C P : Int) (A : Option Addr) (c n : Nat) (T : List Int) (nm : Bs) (kd pr wt pw le bu ra de : Int) (w : World) (hn : T.length = n) (hs : Sl w A (iv T)) (hs2 : OkS B C P T) (ho : OkB T nm kd pr wt pw le bu ra de) (hk : kd ≠ 0) (hf : fitB B P pw ra bu de (tbO T le) = true) (g d : Nat) (hg : Blk w g 32 #[strV nm, .int .i64 kd, .int .i64 pr, .int .i64 wt, .int .i64 pw, .int .i64 le, .int .i64 bu, .int .i64 ra, .int .i64 de]) :
    Calls Try.prog 25 #[.agg #[.int .i64 B, .int .i64 C, .int .i64 P, .slice A n c], .slice (some ⟨g, 0, none⟩) 1 d] w fun e w' => e = .returned (.tuple #[.agg #[.int .i64 B, .int .i64 C, .int .i64 P, .slice A n c], .int .i64 0]) ∧ Below w.heap.size w w' := by
  have HE := hide (fun W k k2 => checkBearersOne B C P A c n T nm kd pr wt pw le bu ra de W hn k hs2 ho hk hf g d k2)
  have HT := hide ((((stay_blk (Blk.new w 24 #[.int .i64 B, .int .i64 C, .int .i64 P, .slice A n c])).alloc (.cells #[.int .i64 0, .int .i64 0, .int .i64 0, .slice none 0 0] 74)).and (stay_blk (blk_up w 24 74 #[.int .i64 B, .int .i64 C, .int .i64 P, .slice A n c] #[.int .i64 0, .int .i64 0, .int .i64 0, .slice none 0 0]))).and (((stay_sl (hs.alloc (.cells #[.int .i64 B, .int .i64 C, .int .i64 P, .slice A n c] 24))).alloc (.cells #[.int .i64 0, .int .i64 0, .int .i64 0, .slice none 0 0] 74)).and (((stay_blk hg).alloc (.cells #[.int .i64 B, .int .i64 C, .int .i64 P, .slice A n c] 24)).alloc (.cells #[.int .i64 0, .int .i64 0, .int .i64 0, .slice none 0 0] 74))) |>.and (stay_below (((Below.refl _ w).alloc (Nat.le_refl _) (.cells #[.int .i64 B, .int .i64 C, .int .i64 P, .slice A n c] 24)).alloc (by simp) (.cells #[.int .i64 0, .int .i64 0, .int .i64 0, .slice none 0 0] 74))))
  clear hs hs2 ho hk hn hf hg
  go_enter Try.func25, Try.ntmps25
  go_wp2_with (first
    | (go_at_call 46; go_must (refine (HE.out _ HT.out.now.1.2.1 HT.out.now.1.2.2).mono ?_; rintro e w1 ⟨rfl, hb⟩; replace HT := hide (HT.out.step hb); clear hb; have z0 : w1.cell? ⟨w.heap.size, 0, none⟩ = some (.int .i64 B) := HT.out.now.1.1.1.cell 0; have z1 : w1.cell? ⟨w.heap.size, 1, none⟩ = some (.int .i64 C) := HT.out.now.1.1.1.cell 1; have z2 : w1.cell? ⟨w.heap.size, 2, none⟩ = some (.int .i64 P) := HT.out.now.1.1.1.cell 2; have z3 : w1.cell? ⟨w.heap.size, 3, none⟩ = some (.slice A n c) := HT.out.now.1.1.1.cell 3; simp only []))
    | (refine wpList_store_row rfl 74 (.tmp 4) (.tmp 15) rfl (w.heap.size + 1) #[.int .i64 B, .int .i64 C, .int .i64 P, .slice A n c] rfl rfl 74 #[.int .i64 0, .int .i64 0, .int .i64 0, .slice none 0 0] HT.out.now.1.1.2 (by kernel_rfl) rfl (by simp [Value.oneCell']) ?_))
  exact bodyPost_ret (results_row_tmp rfl _ _ (w.heap.size + 1) 74 #[.int .i64 B, .int .i64 C, .int .i64 P, .slice A n c] _ (.int .i64 0) rfl rfl (HT.out.now.1.1.2.row _) Try.underlying74 rfl (by kernel_rfl)) rfl ⟨rfl, Below.row HT.out.now.2 (by omega) _⟩
end Go.Proofs.Ytppkibgemacdbaa
