import Derived.Test.YtppkibgemacdbaaSdZ
namespace Go.Proofs.Ytppkibgemacdbaa
open Go.RowKit Go.WideShapes Go.ChangeShapes

/-! newRun of one bearer -/
theorem ptr_info : (Try.prog.info? 94).map (fun i => (i.zero, i.size, i.bytes)) = some (some (.pointer none), 1, 8) := by kernel_rfl
theorem field_need (a b c : Int) (w : World) : (Instr.field 51 (.agg #[.int .i64 a, .int .i64 b, .int .i64 c]) 0).run Try.prog w = .ok (.int .i64 a) w := by kernel_rfl
def NewRunR (B C P : Int) (A : Option Addr) (c n : Nat) (cs : Array Value) (w : World) (e : Ending) (w' : World) : Prop :=
  ∃ R U V vc, e = .returned (.pointer (some ⟨R, 0, none⟩)) ∧ Blk w' R 93 #[.int .i64 B, .int .i64 C, .int .i64 P, .slice A n c, .slice (some ⟨V, 0, none⟩) 1 vc] ∧ w'.cell? ⟨V, 0, none⟩ = some (.pointer (some ⟨U, 0, none⟩)) ∧ Blk w' U 97 cs ∧ R ≠ U ∧ V ≠ U ∧ w.heap.size ≤ U ∧ Below w.heap.size w w'
set_option maxRecDepth 100000 in
set_option maxHeartbeats 8000000 in
theorem newRun_one (B C P : Int) (A : Option Addr) (c n : Nat) (T : List Int) (nm : Bs) (kd pr wt pw le bu ra de : Int) (w : World) (hn : T.length = n) (hs : Sl w A (iv T)) (hs2 : OkS B C P T) (ho : OkB T nm kd pr wt pw le bu ra de) (hk : kd ≠ 0) (g d : Nat) (hg : Blk w g 32 #[strV nm, .int .i64 kd, .int .i64 pr, .int .i64 wt, .int .i64 pw, .int .i64 le, .int .i64 bu, .int .i64 ra, .int .i64 de]) :
    Calls Try.prog 54 #[.agg #[.int .i64 B, .int .i64 C, .int .i64 P, .slice A n c], .slice (some ⟨g, 0, none⟩) 1 d] w (NewRunR B C P A c n #[strV nm, .int .i64 kd, .int .i64 pr, .int .i64 wt, .int .i64 pw, .int .i64 le, .int .i64 bu, .int .i64 ra, .int .i64 de, .int .i64 (needB ra bu de (tbO T le)), .int .i64 0, .int .i64 0, .int .i64 0, .int .i64 0] w) := by
  have HNE := hide (fun W k => need_ok B C P A c n T nm kd pr wt pw le bu ra de W hn k hs2 ho hk)
  obtain ⟨NB, hNB⟩ : ∃ z, needB ra bu de (tbO T le) = z := ⟨_, rfl⟩
  rw [hNB] at HNE ⊢
  have hgl := hg.lt
  obtain ⟨W1, hW1⟩ : ∃ W1, (w.alloc (.cells #[.int .i64 B, .int .i64 C, .int .i64 P, .slice A n c] 74)).alloc (.cells #[.int .i64 B, .int .i64 C, .int .i64 P, .slice A n c, .slice none 0 0] 93) = W1 := ⟨_, rfl⟩
  have HT : Hid (Stay W1 (fun W => ((((Blk W w.heap.size 74 #[.int .i64 B, .int .i64 C, .int .i64 P, .slice A n c] ∧ Blk W (w.heap.size + 1) 93 #[.int .i64 B, .int .i64 C, .int .i64 P, .slice A n c, .slice none 0 0]) ∧ Blk W g 32 #[strV nm, .int .i64 kd, .int .i64 pr, .int .i64 wt, .int .i64 pw, .int .i64 le, .int .i64 bu, .int .i64 ra, .int .i64 de]) ∧ Sl W A (iv T)) ∧ Below w.heap.size w W))) := hide (by
    rw [← hW1]
    exact ((((stay_blk (Blk.new w 74 #[.int .i64 B, .int .i64 C, .int .i64 P, .slice A n c])).alloc (.cells #[.int .i64 B, .int .i64 C, .int .i64 P, .slice A n c, .slice none 0 0] 93)).and (stay_blk (blk_up w 74 93 #[.int .i64 B, .int .i64 C, .int .i64 P, .slice A n c] #[.int .i64 B, .int .i64 C, .int .i64 P, .slice A n c, .slice none 0 0]))).and (((stay_blk hg).alloc (.cells #[.int .i64 B, .int .i64 C, .int .i64 P, .slice A n c] 74)).alloc (.cells #[.int .i64 B, .int .i64 C, .int .i64 P, .slice A n c, .slice none 0 0] 93))).and (((stay_sl hs).alloc (.cells #[.int .i64 B, .int .i64 C, .int .i64 P, .slice A n c] 74)).alloc (.cells #[.int .i64 B, .int .i64 C, .int .i64 P, .slice A n c, .slice none 0 0] 93)) |>.and (stay_below (((Below.refl _ w).alloc (Nat.le_refl _) (.cells #[.int .i64 B, .int .i64 C, .int .i64 P, .slice A n c] 74)).alloc (by simp) (.cells #[.int .i64 B, .int .i64 C, .int .i64 P, .slice A n c, .slice none 0 0] 93))))
  have z0 : W1.heap.size = w.heap.size + 2 := by rw [← hW1]; simp
  have HZ0 := hide z0
  clear hs hs2 ho hk hn hg hNB z0
  go_enter Try.func54, Try.ntmps54
  go_wp2_with fail
  clear hW1
  refine wp_loop_rounds 2 ?_
  rw [rounds_succ]
  have b0 : W1.cell? ⟨g, 0, none⟩ = some (strV nm) := HT.out.now.1.1.2.cell 0
  have b1 : W1.cell? ⟨g, 1, none⟩ = some (.int .i64 kd) := HT.out.now.1.1.2.cell 1
  have b2 : W1.cell? ⟨g, 2, none⟩ = some (.int .i64 pr) := HT.out.now.1.1.2.cell 2
  have b3 : W1.cell? ⟨g, 3, none⟩ = some (.int .i64 wt) := HT.out.now.1.1.2.cell 3
  have b4 : W1.cell? ⟨g, 4, none⟩ = some (.int .i64 pw) := HT.out.now.1.1.2.cell 4
  have b5 : W1.cell? ⟨g, 5, none⟩ = some (.int .i64 le) := HT.out.now.1.1.2.cell 5
  have b6 : W1.cell? ⟨g, 6, none⟩ = some (.int .i64 bu) := HT.out.now.1.1.2.cell 6
  have b7 : W1.cell? ⟨g, 7, none⟩ = some (.int .i64 ra) := HT.out.now.1.1.2.cell 7
  have b8 : W1.cell? ⟨g, 8, none⟩ = some (.int .i64 de) := HT.out.now.1.1.2.cell 8
  go_wp2_with (refine wpList_store_row rfl 32 (.tmp 7) (.tmp 16) rfl W1.heap.size #[strV nm, .int .i64 kd, .int .i64 pr, .int .i64 wt, .int .i64 pw, .int .i64 le, .int .i64 bu, .int .i64 ra, .int .i64 de] rfl rfl 32 #[.string ⟨#[]⟩, .int .i64 0, .int .i64 0, .int .i64 0, .int .i64 0, .int .i64 0, .int .i64 0, .int .i64 0, .int .i64 0] (Blk.new W1 32 #[.string ⟨#[]⟩, .int .i64 0, .int .i64 0, .int .i64 0, .int .i64 0, .int .i64 0, .int .i64 0, .int .i64 0, .int .i64 0]) (by kernel_rfl) rfl (by simp [Value.oneCell', strV]) ?_; have HX := hide ((Blk.new W1 32 #[.string ⟨#[]⟩, .int .i64 0, .int .i64 0, .int .i64 0, .int .i64 0, .int .i64 0, .int .i64 0, .int .i64 0, .int .i64 0]).row #[strV nm, .int .i64 kd, .int .i64 pr, .int .i64 wt, .int .i64 pw, .int .i64 le, .int .i64 bu, .int .i64 ra, .int .i64 de]); replace HT := hide (HT.out.step (Below.row (g := W1.heap.size) ((Below.refl W1.heap.size W1).alloc (Nat.le_refl _) (.cells #[.string ⟨#[]⟩, .int .i64 0, .int .i64 0, .int .i64 0, .int .i64 0, .int .i64 0, .int .i64 0, .int .i64 0, .int .i64 0] 32)) (Nat.le_refl _) #[strV nm, .int .i64 kd, .int .i64 pr, .int .i64 wt, .int .i64 pw, .int .i64 le, .int .i64 bu, .int .i64 ra, .int .i64 de])); clear b0 b1 b2 b3 b4 b5 b6 b7 b8)
  replace HT := hide (HT.out.and (stay_blk HX.out))
  clear HX
  obtain ⟨W4, hW4⟩ : ∃ W4, (W1.alloc (.cells #[.string ⟨#[]⟩, .int .i64 0, .int .i64 0, .int .i64 0, .int .i64 0, .int .i64 0, .int .i64 0, .int .i64 0, .int .i64 0] 32)).setRow W1.heap.size #[strV nm, .int .i64 kd, .int .i64 pr, .int .i64 wt, .int .i64 pw, .int .i64 le, .int .i64 bu, .int .i64 ra, .int .i64 de] = W4 := ⟨_, rfl⟩
  rw [hW4] at HT ⊢
  clear hW4
  have hfd := fun W => field_need NB 1 (NB * pw) W
  obtain ⟨i1, hi0, hz0, hz1, hz2⟩ := info_parts ptr_info
  try simp only [Act.put]
  go_wp2_with fail
  have hHeld := (below_drew (Below.refl W4.heap.size W4))
  refine UpM.start (Z := [16]) (S := fun w' => Below W4.heap.size W4 w') (by kernel_rfl) ?_
  refine UpM.pure (i := 0) 17 (v := .pointer (some ⟨w.heap.size + 1, 0, none⟩)) rfl rfl (by kernel_rfl) (by kernel_rfl) (by kernel_rfl) (fun _ _ _ h => h) (Or.inl ⟨by rfl, by intro w_ hSw; go_simp⟩) ?_
  try simp only [Act.put, List.setIfInBounds_toArray, List.set_cons_zero, List.set_cons_succ]
  refine UpM.pure (i := 1) 18 (v := .pointer (some ⟨w.heap.size + 1, 0, none⟩)) rfl rfl (by kernel_rfl) (by kernel_rfl) (by kernel_rfl) (fun _ _ _ h => h) (Or.inl ⟨by rfl, by intro w_ hSw; go_simp⟩) ?_
  try simp only [Act.put, List.setIfInBounds_toArray, List.set_cons_zero, List.set_cons_succ]
  refine UpM.pure (i := 2) 19 (v := .pointer (some ⟨w.heap.size + 1, 0, none⟩)) rfl rfl (by kernel_rfl) (by kernel_rfl) (by kernel_rfl) (fun _ _ _ h => h) (Or.inl ⟨by rfl, by intro w_ hSw; go_simp⟩) ?_
  try simp only [Act.put, List.setIfInBounds_toArray, List.set_cons_zero, List.set_cons_succ]
  refine UpM.pure (i := 3) 20 (v := .pointer (some ⟨w.heap.size + 1, 4, none⟩)) rfl rfl (by kernel_rfl) (by kernel_rfl) (by kernel_rfl) (fun _ _ _ h => h) (Or.inl ⟨by rfl, by intro w_ hSw; go_simp⟩) ?_
  try simp only [Act.put, List.setIfInBounds_toArray, List.set_cons_zero, List.set_cons_succ]
  refine UpM.take (i := 4) 21 (v := .slice none 0 0) rfl rfl (by kernel_rfl) (by kernel_rfl) (by kernel_rfl) (by kernel_rfl) (fun _ _ _ h => h) hHeld (Or.inl ⟨by rfl, by intro w_ hSw; have c4 : w_.cell? ⟨w.heap.size + 1, 4, none⟩ = some (.slice none 0 0) := (HT.out _ hSw).1.1.1.1.2.cell 4; go_simp⟩) ?_
  try simp only [Act.put, List.setIfInBounds_toArray, List.set_cons_zero, List.set_cons_succ]
  refine UpM.take (i := 5) 22 (v := .agg #[strV nm, .int .i64 kd, .int .i64 pr, .int .i64 wt, .int .i64 pw, .int .i64 le, .int .i64 bu, .int .i64 ra, .int .i64 de]) rfl rfl (by kernel_rfl) (by kernel_rfl) (by kernel_rfl) (by kernel_rfl) (fun _ _ _ h => h) hHeld (Or.inl ⟨by rfl, by intro w_ hSw; have c0 : w_.cell? ⟨W1.heap.size, 0, none⟩ = some (strV nm) := (HT.out _ hSw).2.cell 0; have c1 : w_.cell? ⟨W1.heap.size, 1, none⟩ = some (.int .i64 kd) := (HT.out _ hSw).2.cell 1; have c2 : w_.cell? ⟨W1.heap.size, 2, none⟩ = some (.int .i64 pr) := (HT.out _ hSw).2.cell 2; have c3 : w_.cell? ⟨W1.heap.size, 3, none⟩ = some (.int .i64 wt) := (HT.out _ hSw).2.cell 3; have c4 : w_.cell? ⟨W1.heap.size, 4, none⟩ = some (.int .i64 pw) := (HT.out _ hSw).2.cell 4; have c5 : w_.cell? ⟨W1.heap.size, 5, none⟩ = some (.int .i64 le) := (HT.out _ hSw).2.cell 5; have c6 : w_.cell? ⟨W1.heap.size, 6, none⟩ = some (.int .i64 bu) := (HT.out _ hSw).2.cell 6; have c7 : w_.cell? ⟨W1.heap.size, 7, none⟩ = some (.int .i64 ra) := (HT.out _ hSw).2.cell 7; have c8 : w_.cell? ⟨W1.heap.size, 8, none⟩ = some (.int .i64 de) := (HT.out _ hSw).2.cell 8; go_simp⟩) ?_
  try simp only [Act.put, List.setIfInBounds_toArray, List.set_cons_zero, List.set_cons_succ]
  refine UpM.take (i := 6) 23 (v := .agg #[.int .i64 B, .int .i64 C, .int .i64 P, .slice A n c]) rfl rfl (by kernel_rfl) (by kernel_rfl) (by kernel_rfl) (by kernel_rfl) (fun _ _ _ h => h) hHeld (Or.inl ⟨by rfl, by intro w_ hSw; have c0 : w_.cell? ⟨w.heap.size, 0, none⟩ = some (.int .i64 B) := (HT.out _ hSw).1.1.1.1.1.cell 0; have c1 : w_.cell? ⟨w.heap.size, 1, none⟩ = some (.int .i64 C) := (HT.out _ hSw).1.1.1.1.1.cell 1; have c2 : w_.cell? ⟨w.heap.size, 2, none⟩ = some (.int .i64 P) := (HT.out _ hSw).1.1.1.1.1.cell 2; have c3 : w_.cell? ⟨w.heap.size, 3, none⟩ = some (.slice A n c) := (HT.out _ hSw).1.1.1.1.1.cell 3; go_simp⟩) ?_
  try simp only [Act.put, List.setIfInBounds_toArray, List.set_cons_zero, List.set_cons_succ]
  refine UpM.take (i := 7) 24 (v := .agg #[strV nm, .int .i64 kd, .int .i64 pr, .int .i64 wt, .int .i64 pw, .int .i64 le, .int .i64 bu, .int .i64 ra, .int .i64 de]) rfl rfl (by kernel_rfl) (by kernel_rfl) (by kernel_rfl) (by kernel_rfl) (fun _ _ _ h => h) hHeld (Or.inl ⟨by rfl, by intro w_ hSw; have c0 : w_.cell? ⟨W1.heap.size, 0, none⟩ = some (strV nm) := (HT.out _ hSw).2.cell 0; have c1 : w_.cell? ⟨W1.heap.size, 1, none⟩ = some (.int .i64 kd) := (HT.out _ hSw).2.cell 1; have c2 : w_.cell? ⟨W1.heap.size, 2, none⟩ = some (.int .i64 pr) := (HT.out _ hSw).2.cell 2; have c3 : w_.cell? ⟨W1.heap.size, 3, none⟩ = some (.int .i64 wt) := (HT.out _ hSw).2.cell 3; have c4 : w_.cell? ⟨W1.heap.size, 4, none⟩ = some (.int .i64 pw) := (HT.out _ hSw).2.cell 4; have c5 : w_.cell? ⟨W1.heap.size, 5, none⟩ = some (.int .i64 le) := (HT.out _ hSw).2.cell 5; have c6 : w_.cell? ⟨W1.heap.size, 6, none⟩ = some (.int .i64 bu) := (HT.out _ hSw).2.cell 6; have c7 : w_.cell? ⟨W1.heap.size, 7, none⟩ = some (.int .i64 ra) := (HT.out _ hSw).2.cell 7; have c8 : w_.cell? ⟨W1.heap.size, 8, none⟩ = some (.int .i64 de) := (HT.out _ hSw).2.cell 8; go_simp⟩) ?_
  try simp only [Act.put, List.setIfInBounds_toArray, List.set_cons_zero, List.set_cons_succ]
  refine UpM.next (i := 8) (by kernel_rfl) rfl (fun K hK => ?_)
  go_simp
  go_at_call 40
  refine (HNE.out _ (HT.out _ hHeld).1.1.2).mono ?_
  rintro e v1 ⟨rfl, hb⟩
  replace hHeld := Below.step hHeld hb
  have hU0 := hHeld.size
  clear hb HNE
  obtain ⟨U, hU⟩ : ∃ U, v1.heap.size = U := ⟨_, rfl⟩
  simp only []
  refine hK.out _ _ (fun _ _ => hHeld) ?_
  clear hK K
  try simp only [Act.put, List.setIfInBounds_toArray, List.set_cons_zero, List.set_cons_succ]
  refine UpM.pure (i := 9) 26 (v := .int .i64 NB) rfl rfl (by kernel_rfl) (by kernel_rfl) (by kernel_rfl) (fun _ _ _ h => h) (Or.inl ⟨by rfl, by intro w_ hSw; go_simp⟩) ?_
  try simp only [Act.put, List.setIfInBounds_toArray, List.set_cons_zero, List.set_cons_succ]
  refine UpM.pure (i := 10) 27 (v := .agg #[strV nm, .int .i64 kd, .int .i64 pr, .int .i64 wt, .int .i64 pw, .int .i64 le, .int .i64 bu, .int .i64 ra, .int .i64 de, .int .i64 NB, .int .i64 0, .int .i64 0, .int .i64 0, .int .i64 0]) rfl rfl (by kernel_rfl) (by kernel_rfl) (by kernel_rfl) (fun _ _ _ h => h) (Or.inl ⟨by rfl, by intro w_ hSw; go_simp⟩) ?_
  try simp only [Act.put, List.setIfInBounds_toArray, List.set_cons_zero, List.set_cons_succ]
  refine UpM.next (i := 11) (by kernel_rfl) rfl (fun K hK => ?_)
  go_simp
  replace hHeld := hHeld.alloc hHeld.size (.cells #[strV nm, .int .i64 kd, .int .i64 pr, .int .i64 wt, .int .i64 pw, .int .i64 le, .int .i64 bu, .int .i64 ra, .int .i64 de, .int .i64 NB, .int .i64 0, .int .i64 0, .int .i64 0, .int .i64 0] 97)
  have HBU := hide (Blk.newN v1 97 #[strV nm, .int .i64 kd, .int .i64 pr, .int .i64 wt, .int .i64 pw, .int .i64 le, .int .i64 bu, .int .i64 ra, .int .i64 de, .int .i64 NB, .int .i64 0, .int .i64 0, .int .i64 0, .int .i64 0] hU)
  obtain ⟨v2, hv2⟩ : ∃ v2, v1.alloc (.cells #[strV nm, .int .i64 kd, .int .i64 pr, .int .i64 wt, .int .i64 pw, .int .i64 le, .int .i64 bu, .int .i64 ra, .int .i64 de, .int .i64 NB, .int .i64 0, .int .i64 0, .int .i64 0, .int .i64 0] 97) = v2 := ⟨_, rfl⟩
  have hv3 : v2.heap.size = U + 1 := by rw [← hv2, ← hU]; simp
  rw [hv2] at hHeld HBU ⊢
  have hUl : W4.heap.size ≤ U := by rw [← hU]; exact hU0
  clear hv2 hU hU0
  refine hK.out _ _ (fun _ _ => hHeld) ?_
  clear hK K
  try simp only [Act.put, List.setIfInBounds_toArray, List.set_cons_zero, List.set_cons_succ]
  refine UpM.next (i := 12) (by kernel_rfl) rfl (fun K hK => ?_)
  go_simp
  replace hHeld := hHeld.alloc hHeld.size (.cells #[.pointer (some ⟨U, 0, none⟩)] 94)
  refine hK.out _ _ (fun _ _ => hHeld) ?_
  clear hK K
  try simp only [Act.put, List.setIfInBounds_toArray, List.set_cons_zero, List.set_cons_succ]
  refine UpM.next (i := 13) (by kernel_rfl) rfl (fun K hK => ?_)
  refine step_append_any _ (by rfl) (.tmp 21) (.tmp 29) 91 (by rfl) (U + 1) 94 i1 (.pointer none) 1 8 Try.underlying91 hi0 hz0 hz1 hz2 rfl (by omega) (.slice none 0 0) 0 [] (by rfl) ⟨rfl, .inl ⟨rfl, rfl⟩⟩ (U + 1 + 1) (some ⟨U + 1, 0, none⟩) 1 1 [.pointer (some ⟨U, 0, none⟩)] (by rfl) (hv3 ▸ reads_one v2 _ _) (by simp [Value.oneCell']) (by decide) (by decide) (by simp; omega) ?_
  intro v' w6 hown' hgrow _
  replace hgrow : (v2.alloc (.cells #[.pointer (some ⟨U, 0, none⟩)] 94)).grownBy w6 none := hgrow
  simp only [Nat.zero_add, List.nil_append] at hown'
  obtain ⟨V, vc, rfl, -, -⟩ := hown'.form (by decide)
  have hVl : U + 1 ≤ V := (hown'.lt _ rfl).1
  have hVc := hown'.cells (g := V) rfl 0 _ rfl
  rw [add_lit] at hVc
  replace hHeld := hHeld.grown hgrow (by simp; omega) (by simp)
  replace HBU := hide ((HBU.out.alloc (.cells #[.pointer (some ⟨U, 0, none⟩)] 94)).grown hgrow (by simp))
  clear hgrow hown'
  have r4 : w6.cell? ⟨w.heap.size + 1, 4, none⟩ = some (.slice none 0 0) := (HT.out _ hHeld).1.1.1.1.2.cell 4
  have f4 := (HT.out _ hHeld).1.1.1.1.2.frozen 4
  refine hK.out _ _ (fun _ _ => hHeld) ?_
  clear hK K
  try simp only [Act.put, List.setIfInBounds_toArray]
  refine UpM.pure (i := 14) 31 (v := .pointer (some ⟨w.heap.size + 1, 0, none⟩)) rfl rfl (by kernel_rfl) (by kernel_rfl) (by kernel_rfl) (fun _ _ _ h => h) (Or.inl ⟨by rfl, by intro w_ hSw; go_simp⟩) ?_
  try simp only [Act.put]
  refine UpM.pure (i := 15) 32 (v := .pointer (some ⟨w.heap.size + 1, 4, none⟩)) rfl rfl (by kernel_rfl) (by kernel_rfl) (by kernel_rfl) (fun _ _ _ h => h) (Or.inl ⟨by rfl, by intro w_ hSw; go_simp⟩) ?_
  try simp only [Act.put]
  refine UpM.next (i := 16) (by kernel_rfl) rfl (fun K hK => ?_)
  go_simp
  refine hK.out _ _ (fun h => (h (by decide)).elim) ?_
  clear hK K
  try simp only [Act.put, List.setIfInBounds_toArray, List.set_cons_zero, List.set_cons_succ]
  refine UpM.done (by kernel_rfl) ?_ _
  have hz1 := HT.out.now.2.lt
  have hz2 := HZ0.out
  have hUw : w.heap.size + 2 < U := by omega
  have HBE := hide ((HT.out _ hHeld).1.2.setCell (p := ⟨w.heap.size + 1, 4, none⟩) (by show _ ≤ w.heap.size + 1; omega) (.slice (some ⟨V, 0, none⟩) 1 vc))
  have HRE : Hid (Blk (w6.setCell ⟨w.heap.size + 1, 4, none⟩ (.slice (some ⟨V, 0, none⟩) 1 vc)) (w.heap.size + 1) 93 #[.int .i64 B, .int .i64 C, .int .i64 P, .slice A n c, .slice (some ⟨V, 0, none⟩) 1 vc]) := hide ((HT.out _ hHeld).1.1.1.1.2.set_ 4 (.slice (some ⟨V, 0, none⟩) 1 vc))
  have HUE := hide (HBU.out.far (p := ⟨w.heap.size + 1, 4, none⟩) (by show U ≠ w.heap.size + 1; omega) (.slice (some ⟨V, 0, none⟩) 1 vc))
  have HVE := hide (show (w6.setCell ⟨w.heap.size + 1, 4, none⟩ (.slice (some ⟨V, 0, none⟩) 1 vc)).cell? ⟨V, 0, none⟩ = some (.pointer (some ⟨U, 0, none⟩)) from (World.cell?_setCell_other w6 _ _ _ (by intro e; injection e with e1; omega)).trans hVc)
  clear hHeld HT HBU hVc hfd r4 f4 hi0 hz0 hz1 hz2 HZ0 hv3 hUl
  go_wp2_with fail
  rw [rounds_succ]
  go_wp2
  go_ret
  exact ⟨_, _, _, _, rfl, HRE.out, HVE.out, HUE.out, by omega, by omega, by omega, HBE.out⟩
end Go.Proofs.Ytppkibgemacdbaa

namespace Go.Proofs.Ytppkibgemacdbaa
open Go.RowKit Go.WideShapes Go.ChangeShapes

/-! openRun of one bearer -/
theorem stay_slots {w : World} {D : Option Addr} {m : Nat} {le : Int} {ar : Nat → Int} (h : SlotsAt w D m le ar) : Stay w (fun W => SlotsAt W D m le ar) := fun _ hW => h.bel hW
def OpenRunR (B C P : Int) (A : Option Addr) (c n : Nat) (cs : Array Value) (w : World) (e : Ending) (w' : World) : Prop :=
  ∃ R U V vc, e = .returned (.tuple #[.pointer (some ⟨R, 0, none⟩), .int .i64 0]) ∧ Blk w' R 93 #[.int .i64 B, .int .i64 C, .int .i64 P, .slice A n c, .slice (some ⟨V, 0, none⟩) 1 vc] ∧ w'.cell? ⟨V, 0, none⟩ = some (.pointer (some ⟨U, 0, none⟩)) ∧ Blk w' U 97 cs ∧ R ≠ U ∧ V ≠ U ∧ w.heap.size ≤ U ∧ Below w.heap.size w w'
set_option maxRecDepth 100000 in
set_option maxHeartbeats 8000000 in
theorem openRun_one (B C P : Int) (A : Option Addr) (c n : Nat) (T : List Int) (nm : Bs) (kd pr wt pw le bu ra de : Int) (w : World) (hn : T.length = n) (hs : Sl w A (iv T)) (hs2 : OkS B C P T) (ho : OkB T nm kd pr wt pw le bu ra de) (hk : kd ≠ 0) (hf : fitB B P pw ra bu de (tbO T le) = true) (g d : Nat) (hg : Blk w g 32 #[strV nm, .int .i64 kd, .int .i64 pr, .int .i64 wt, .int .i64 pw, .int .i64 le, .int .i64 bu, .int .i64 ra, .int .i64 de]) (D : Option Addr) (dd m : Nat) (ar : Nat → Int) (hsl : SlotsAt w D m le ar) (hm : m ≤ 60) (har : ∀ k, k < m → 0 ≤ ar k ∧ ar k ≤ 1000000) :
    Calls Try.prog 36 #[.agg #[.int .i64 B, .int .i64 C, .int .i64 P, .slice A n c], .slice (some ⟨g, 0, none⟩) 1 d, .slice D m dd] w (OpenRunR B C P A c n #[strV nm, .int .i64 kd, .int .i64 pr, .int .i64 wt, .int .i64 pw, .int .i64 le, .int .i64 bu, .int .i64 ra, .int .i64 de, .int .i64 (needB ra bu de (tbO T le)), .int .i64 0, .int .i64 0, .int .i64 0, .int .i64 0] w) := by
  have HOA := hide (fun W k k2 => openAllOne B C P A c n T nm kd pr wt pw le bu ra de W hn k hs2 ho hk hf g d k2)
  have HNR := hide (fun W k k2 => newRun_one B C P A c n T nm kd pr wt pw le bu ra de W hn k hs2 ho hk g d k2)
  have hle := (ho.sure hk).1
  have HSE := hide (fun W k => slotsErr_ok B C P A c n D dd m le ar W k hm (by have := hs2.few; omega) (by omega) har)
  have HT : Hid (Stay (w.alloc (.cells #[.int .i64 B, .int .i64 C, .int .i64 P, .slice A n c] 24)) (fun W => (((Blk W w.heap.size 24 #[.int .i64 B, .int .i64 C, .int .i64 P, .slice A n c] ∧ Blk W g 32 #[strV nm, .int .i64 kd, .int .i64 pr, .int .i64 wt, .int .i64 pw, .int .i64 le, .int .i64 bu, .int .i64 ra, .int .i64 de]) ∧ Sl W A (iv T)) ∧ SlotsAt W D m le ar) ∧ Below w.heap.size w W)) := hide
    ((((stay_blk (Blk.new w 24 #[.int .i64 B, .int .i64 C, .int .i64 P, .slice A n c])).and ((stay_blk hg).alloc (.cells #[.int .i64 B, .int .i64 C, .int .i64 P, .slice A n c] 24))).and ((stay_sl hs).alloc (.cells #[.int .i64 B, .int .i64 C, .int .i64 P, .slice A n c] 24))).and ((stay_slots hsl).alloc (.cells #[.int .i64 B, .int .i64 C, .int .i64 P, .slice A n c] 24)) |>.and (stay_below ((Below.refl _ w).alloc (Nat.le_refl _) (.cells #[.int .i64 B, .int .i64 C, .int .i64 P, .slice A n c] 24))))
  clear hs hs2 ho hk hn hf hg hsl hm har hle
  go_enter Try.func36, Try.ntmps36
  obtain ⟨W0, hW0⟩ : ∃ W0, w.alloc (.cells #[.int .i64 B, .int .i64 C, .int .i64 P, .slice A n c] 24) = W0 := ⟨_, rfl⟩
  rw [hW0] at HT
  have z0 : W0.cell? ⟨w.heap.size, 0, none⟩ = some (.int .i64 B) := HT.out.now.1.1.1.1.cell 0
  have z1 : W0.cell? ⟨w.heap.size, 1, none⟩ = some (.int .i64 C) := HT.out.now.1.1.1.1.cell 1
  have z2 : W0.cell? ⟨w.heap.size, 2, none⟩ = some (.int .i64 P) := HT.out.now.1.1.1.1.cell 2
  have z3 : W0.cell? ⟨w.heap.size, 3, none⟩ = some (.slice A n c) := HT.out.now.1.1.1.1.cell 3
  go_wp2_with (first
    | (go_at_call 25; go_must (refine (HOA.out _ HT.out.now.1.1.2 HT.out.now.1.1.1.2).mono ?_; rintro e w1 ⟨rfl, hb⟩; replace HT := hide (HT.out.step hb); clear hb hW0 z0 z1 z2 z3; simp only []))
    | (refine wpList_store_row rfl 74 (.tmp 8) (.tmp 14) rfl w1.heap.size #[.int .i64 B, .int .i64 C, .int .i64 P, .slice A n c] rfl rfl 74 #[.int .i64 0, .int .i64 0, .int .i64 0, .slice none 0 0] (Blk.new w1 74 #[.int .i64 0, .int .i64 0, .int .i64 0, .slice none 0 0]) (by kernel_rfl) rfl (by simp [Value.oneCell']) ?_; have HX := hide ((Blk.new w1 74 #[.int .i64 0, .int .i64 0, .int .i64 0, .slice none 0 0]).row #[.int .i64 B, .int .i64 C, .int .i64 P, .slice A n c]); replace HT := hide ((HT.out.step (Below.row (g := w1.heap.size) ((Below.refl w1.heap.size w1).alloc (Nat.le_refl _) (.cells #[.int .i64 0, .int .i64 0, .int .i64 0, .slice none 0 0] 74)) (Nat.le_refl _) #[.int .i64 B, .int .i64 C, .int .i64 P, .slice A n c])).and (stay_blk HX.out)); clear HX))
  obtain ⟨W4, hW4⟩ : ∃ W4, (w1.alloc (.cells #[.int .i64 0, .int .i64 0, .int .i64 0, .slice none 0 0] 74)).setRow w1.heap.size #[.int .i64 B, .int .i64 C, .int .i64 P, .slice A n c] = W4 := ⟨_, rfl⟩
  rw [hW4] at HT ⊢
  have hz4 : w1.heap.size < W4.heap.size := by rw [← hW4]; simp
  clear hW4
  refine wp_region_held_drew (S := fun w' => Below W4.heap.size W4 w') (by kernel_rfl) (below_drewN (Below.refl W4.heap.size W4) 1) (fun hHeld => ?_)
  refine take_at (i := 0) 19 (v := .agg #[.int .i64 B, .int .i64 C, .int .i64 P, .slice A n c]) rfl rfl (by kernel_rfl) (by kernel_rfl) (by kernel_rfl) (fun _ _ _ h => h) (Or.inl ⟨by rfl, by intro w_ hSw; have c0 : w_.cell? ⟨w1.heap.size, 0, none⟩ = some (.int .i64 B) := (HT.out _ hSw).2.cell 0; have c1 : w_.cell? ⟨w1.heap.size, 1, none⟩ = some (.int .i64 C) := (HT.out _ hSw).2.cell 1; have c2 : w_.cell? ⟨w1.heap.size, 2, none⟩ = some (.int .i64 P) := (HT.out _ hSw).2.cell 2; have c3 : w_.cell? ⟨w1.heap.size, 3, none⟩ = some (.slice A n c) := (HT.out _ hSw).2.cell 3; go_simp⟩) (by assumption) ?_
  try simp only [Act.put, List.setIfInBounds_toArray, List.set_cons_zero, List.set_cons_succ]
  refine take_at (i := 1) 20 (v := .slice (some ⟨g, 0, none⟩) 1 d) rfl rfl (by kernel_rfl) (by kernel_rfl) (by kernel_rfl) (fun _ _ _ h => h) (Or.inl ⟨by rfl, by intro w_ hSw; go_simp⟩) (by assumption) ?_
  try simp only [Act.put, List.setIfInBounds_toArray, List.set_cons_zero, List.set_cons_succ]
  refine take_at (i := 3) 22 (v := .agg #[.int .i64 B, .int .i64 C, .int .i64 P, .slice A n c]) rfl rfl (by kernel_rfl) (by kernel_rfl) (by kernel_rfl) (fun _ _ _ h => h) (Or.inl ⟨by rfl, by intro w_ hSw; have c0 : w_.cell? ⟨w1.heap.size, 0, none⟩ = some (.int .i64 B) := (HT.out _ hSw).2.cell 0; have c1 : w_.cell? ⟨w1.heap.size, 1, none⟩ = some (.int .i64 C) := (HT.out _ hSw).2.cell 1; have c2 : w_.cell? ⟨w1.heap.size, 2, none⟩ = some (.int .i64 P) := (HT.out _ hSw).2.cell 2; have c3 : w_.cell? ⟨w1.heap.size, 3, none⟩ = some (.slice A n c) := (HT.out _ hSw).2.cell 3; go_simp⟩) (by assumption) ?_
  try simp only [Act.put, List.setIfInBounds_toArray, List.set_cons_zero, List.set_cons_succ]
  refine take_at (i := 4) 23 (v := .slice (some ⟨g, 0, none⟩) 1 d) rfl rfl (by kernel_rfl) (by kernel_rfl) (by kernel_rfl) (fun _ _ _ h => h) (Or.inl ⟨by rfl, by intro w_ hSw; go_simp⟩) (by assumption) ?_
  try simp only [Act.put, List.setIfInBounds_toArray, List.set_cons_zero, List.set_cons_succ]
  refine take_at (i := 5) 24 (v := .int .i64 1) rfl rfl (by kernel_rfl) (by kernel_rfl) (by kernel_rfl) (fun _ _ _ h => h) (Or.inl ⟨by rfl, by intro w_ hSw; go_simp⟩) (by assumption) ?_
  try simp only [Act.put, List.setIfInBounds_toArray, List.set_cons_zero, List.set_cons_succ]
  refine take_at (i := 6) 25 (v := .slice D m dd) rfl rfl (by kernel_rfl) (by kernel_rfl) (by kernel_rfl) (fun _ _ _ h => h) (Or.inl ⟨by rfl, by intro w_ hSw; go_simp⟩) (by assumption) ?_
  try simp only [Act.put, List.setIfInBounds_toArray, List.set_cons_zero, List.set_cons_succ]
  refine wpAnyH_ready (rs := [2]) (by kernel_rfl) (by simp) ?_
  refine AllReadyH.cons rfl (fun K hK => ?_) AllReadyH.nil
  go_simp
  go_at_call 54
  refine (HNR.out _ (HT.out _ hHeld).1.1.1.2 (HT.out _ hHeld).1.1.1.1.2).mono ?_
  rintro e w5 ⟨R, U, V, vc, rfl, hR, hV, hU, hRU, hVU, hUw, hb⟩
  replace hHeld := Below.step hHeld hb
  have HN := hide ((stay_blk hR).and (stay_at hV) |>.and (stay_blk hU))
  replace hUw : w.heap.size ≤ U := by have h1 := (HT.out.now.1.2).size; have h2 : W4.drew.heap.size = W4.heap.size := rfl; omega
  clear hR hV hU hb HNR HOA
  simp only []
  refine hK.out _ _ hHeld (fun hHeld => ?_)
  clear hK K
  try simp only [Act.put, List.setIfInBounds_toArray, List.set_cons_zero, List.set_cons_succ]
  refine wpAnyH_ready (rs := [7]) (by kernel_rfl) (by simp) ?_
  refine AllReadyH.cons rfl (fun K hK => ?_) AllReadyH.nil
  go_simp
  go_at_call 55
  refine (HSE.out _ (HT.out _ hHeld).1.1.2).mono ?_
  rintro e w6 ⟨rfl, hb⟩
  replace hHeld := Below.step hHeld hb
  replace HN := hide (HN.out.step hb)
  have HB := hide ((HT.out _ hHeld).1.2)
  clear hb
  simp only []
  refine hK.out _ _ hHeld (fun hHeld => ?_)
  clear hK K
  try simp only [Act.put, List.setIfInBounds_toArray, List.set_cons_zero, List.set_cons_succ]
  refine take_at (i := 8) 6 (v := .pointer (some ⟨R, 0, none⟩)) rfl rfl (by kernel_rfl) (by kernel_rfl) (by kernel_rfl) (fun _ _ _ h => h) (Or.inl ⟨by rfl, by intro w_ hSw; go_simp⟩) (by assumption) ?_
  try simp only [Act.put, List.setIfInBounds_toArray, List.set_cons_zero, List.set_cons_succ]
  refine take_at (i := 9) 7 (v := .int .i64 0) rfl rfl (by kernel_rfl) (by kernel_rfl) (by kernel_rfl) (fun _ _ _ h => h) (Or.inl ⟨by rfl, by intro w_ hSw; go_simp⟩) (by assumption) ?_
  try simp only [Act.put, List.setIfInBounds_toArray, List.set_cons_zero, List.set_cons_succ]
  refine wpAnyH_done (by kernel_rfl) ?_ _
  clear hHeld
  go_wp2
  refine bodyPost_ret (v := .tuple #[.pointer (some ⟨R, 0, none⟩), .int .i64 0]) (by simp [results, Try.results36, go_sem]) rfl ⟨R, U, V, vc, rfl, HN.out.now.1.1, HN.out.now.1.2, HN.out.now.2, hRU, hVU, hUw, HB.out⟩
end Go.Proofs.Ytppkibgemacdbaa

namespace Go.Proofs.Ytppkibgemacdbaa
open Go.RowKit Go.WideShapes Go.ChangeShapes

/-! a slot of the run of one burst -/
def arrT (bu : Int) (t : Nat) : Int := if t = 0 then bu else 0
def wtT (bu bits : Int) (t : Nat) : Int := if t = 0 then 0 else waitsAt bu bits t
theorem wt_arr {bu bits : Int} (hb : 0 ≤ bu) (t : Nat) : wtT bu bits t + arrT bu t = waitsAt bu bits t := by
  unfold wtT arrT
  by_cases h : t = 0
  · subst h; unfold waitsAt; simp; omega
  · simp [h]
theorem wt_bd {bu bits : Int} (h0 : 0 ≤ bu) (hb : 0 ≤ bits) (t : Nat) : 0 ≤ wtT bu bits t ∧ wtT bu bits t ≤ bu := by
  have h := waits_bd h0 hb t
  unfold wtT
  split <;> omega
theorem arr_bd {bu : Int} (h0 : 0 ≤ bu) (t : Nat) : 0 ≤ arrT bu t ∧ arrT bu t ≤ bu := by
  unfold arrT
  split <;> omega
def TurnR (U : Nat) (nm : Bs) (kd pr wt pw le bu ra de ne wa : Int) (w : World) (e : Ending) (w' : World) : Prop :=
  ∃ A c se rt bl, e = .returned (.slice A 1 c) ∧ Blk w' U 97 #[strV nm, .int .i64 kd, .int .i64 pr, .int .i64 wt, .int .i64 pw, .int .i64 le, .int .i64 bu, .int .i64 ra, .int .i64 de, .int .i64 ne, .int .i64 wa, .int .i64 se, .int .i64 rt, .int .i64 bl] ∧ 0 ≤ se ∧ se + wa ≤ bu ∧ w.grownBy w' (some U)
theorem slot_turn (B C P : Int) (ab ao : Nat) (c n : Nat) (T : List Int) (R U V vc : Nat) (nm : Bs) (kd pr wt pw bu ra de : Int) (rb ro r qb qo q kk t : Nat) (se rt bl : Int) (w : World)
    (hn : T.length = n) (hs2 : OkS B C P T) (ho : OkB T nm kd pr wt pw (kk : Int) bu ra de) (hk : kd ≠ 0) (hBN : B = needB ra bu de (tbO T (kk : Int)))
    (hR : Blk w R 93 #[.int .i64 B, .int .i64 C, .int .i64 P, .slice (some ⟨ab, ao, none⟩) n c, .slice (some ⟨V, 0, none⟩) 1 vc]) (hV : w.cell? ⟨V, 0, none⟩ = some (.pointer (some ⟨U, 0, none⟩))) (hU : Blk w U 97 #[strV nm, .int .i64 kd, .int .i64 pr, .int .i64 wt, .int .i64 pw, .int .i64 (kk : Int), .int .i64 bu, .int .i64 ra, .int .i64 de, .int .i64 (needB ra bu de (tbO T (kk : Int))), .int .i64 (wtT bu (needB ra bu de (tbO T (kk : Int)) * tbO T (kk : Int)) t), .int .i64 se, .int .i64 rt, .int .i64 bl]) (hRU : R ≠ U) (hVU : V ≠ U) (habU : ab ≠ U) (hrbU : rb ≠ U) (hqbU : qb ≠ U)
    (hT : w.cell? ⟨ab, ao + kk, none⟩ = some (.int .i64 (tbO T (kk : Int)))) (hr : w.cell? ⟨rb, ro, none⟩ = some (.int .i64 (kk : Int))) (hq : w.cell? ⟨qb, qo, none⟩ = some (.int .i64 (arrT bu t)))
    (hse : 0 ≤ se) (hsw : se + waitsAt bu (needB ra bu de (tbO T (kk : Int)) * tbO T (kk : Int)) t ≤ bu) :
    Calls Try.prog 37 #[.pointer (some ⟨R, 0, none⟩), .agg #[.slice (some ⟨rb, ro, none⟩) 1 r, .slice (some ⟨qb, qo, none⟩) 1 q]] w (TurnR U nm kd pr wt pw (kk : Int) bu ra de (needB ra bu de (tbO T (kk : Int))) (waitsAt bu (needB ra bu de (tbO T (kk : Int)) * tbO T (kk : Int)) (t + 1)) w) := by
  obtain ⟨t0, t1⟩ := tb_ok hs2 ho hk
  obtain ⟨n0, n1⟩ := need_bd hs2 ho hk
  obtain ⟨hle, hbu, hra, hde, -⟩ := ho.sure hk
  have hpw := ho.pw_
  have hb := hs2.b
  have hc := hs2.c
  have hp := hs2.p
  have hbits : 0 ≤ needB ra bu de (tbO T (kk : Int)) * tbO T (kk : Int) := Int.mul_nonneg (by omega) (by omega)
  have h1 := wt_bd (bu := bu) (by omega) hbits t
  have h2 := arr_bd (bu := bu) (by omega) t
  have h3 := wt_arr (bu := bu) (bits := needB ra bu de (tbO T (kk : Int)) * tbO T (kk : Int)) (by omega) t
  have h4 := waits_bd (bu := bu) (by omega) hbits t
  have h5 := waits_succ (bu := bu) hbits t
  have h6 := sends (w := waitsAt bu (needB ra bu de (tbO T (kk : Int)) * tbO T (kk : Int)) t) t0 h4.1 (show 0 ≤ needB ra bu de (tbO T (kk : Int)) by omega)
  have h7 := ceil_mul (n := waitsAt bu (needB ra bu de (tbO T (kk : Int)) * tbO T (kk : Int)) t) t0
  have hcase : B - blN (needB ra bu de (tbO T (kk : Int))) (wtT bu (needB ra bu de (tbO T (kk : Int)) * tbO T (kk : Int)) t + arrT bu t) (tbO T (kk : Int)) = 0 ∨ B - blN (needB ra bu de (tbO T (kk : Int))) (wtT bu (needB ra bu de (tbO T (kk : Int)) * tbO T (kk : Int)) t + arrT bu t) (tbO T (kk : Int)) ≠ 0 ∧ wtT bu (needB ra bu de (tbO T (kk : Int)) * tbO T (kk : Int)) t + arrT bu t ≤ blN (needB ra bu de (tbO T (kk : Int))) (wtT bu (needB ra bu de (tbO T (kk : Int)) * tbO T (kk : Int)) t + arrT bu t) (tbO T (kk : Int)) * tbO T (kk : Int) := by
    rw [h3]
    unfold blN
    rcases Int.le_total (needB ra bu de (tbO T (kk : Int))) (ceilI (waitsAt bu (needB ra bu de (tbO T (kk : Int)) * tbO T (kk : Int)) t) (tbO T (kk : Int))) with h | h
    · left; omega
    · by_cases h' : B - min (needB ra bu de (tbO T (kk : Int))) (ceilI (waitsAt bu (needB ra bu de (tbO T (kk : Int)) * tbO T (kk : Int)) t) (tbO T (kk : Int))) = 0
      · exact .inl h'
      · refine .inr ⟨h', ?_⟩
        rw [show min (needB ra bu de (tbO T (kk : Int))) (ceilI (waitsAt bu (needB ra bu de (tbO T (kk : Int)) * tbO T (kk : Int)) t) (tbO T (kk : Int))) = ceilI (waitsAt bu (needB ra bu de (tbO T (kk : Int)) * tbO T (kk : Int)) t) (tbO T (kk : Int)) by omega]
        exact h7
  have hmain := slot_one B C P ab ao c n R U V vc nm kd pr wt pw (kk : Int) bu ra de (needB ra bu de (tbO T (kk : Int))) (wtT bu (needB ra bu de (tbO T (kk : Int)) * tbO T (kk : Int)) t) se rt bl rb ro r qb qo q kk (arrT bu t) (tbO T (kk : Int)) w
    hR hV hU hRU hVU habU hrbU hqbU (by omega) hT hr hq hk ⟨t0, t1⟩ (by omega) (by omega) (by omega) (by omega) (by omega) (by omega) (by omega) (by omega) hcase
  rw [h3] at hmain
  refine hmain.mono ?_
  rintro e w' ⟨A', c', rfl, hU', hg⟩
  have h8 : sentN (needB ra bu de (tbO T (kk : Int))) (waitsAt bu (needB ra bu de (tbO T (kk : Int)) * tbO T (kk : Int)) t) (tbO T (kk : Int)) = min (waitsAt bu (needB ra bu de (tbO T (kk : Int)) * tbO T (kk : Int)) t) (needB ra bu de (tbO T (kk : Int)) * tbO T (kk : Int)) := h6
  rw [h8, h5] at hU'
  exact ⟨A', c', _, _, _, rfl, hU', by omega, by omega, hg⟩
end Go.Proofs.Ytppkibgemacdbaa

