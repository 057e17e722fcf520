import Derived.Test.YtppkibgemacdbaaSdZ
namespace Go.Proofs.Ytppkibgemacdbaa
open Go.RowKit Go.WideShapes Go.ChangeShapes

/-! newRun of one bearer -/
theorem ptr_info : (Try.prog.info? 94).map (fun i => (i.zero, i.size, i.bytes)) = some (some (.pointer none), 1, 8) := by kernel_rfl
theorem field_need (a b c : Int) (w : World) : (Instr.field 51 (.agg #[.int .i64 a, .int .i64 b, .int .i64 c]) 0).run Try.prog w = .ok (.int .i64 a) w := by kernel_rfl
def NewRunR (B C P : Int) (A : Option Addr) (c n : Nat) (cs : Array Value) (w : World) (e : Ending) (w' : World) : Prop :=
  ∃ R U V vc, e = .returned (.pointer (some ⟨R, 0, none⟩)) ∧ Blk w' R 93 #[.int .i64 B, .int .i64 C, .int .i64 P, .slice A n c, .slice (some ⟨V, 0, none⟩) 1 vc] ∧ w'.cell? ⟨V, 0, none⟩ = some (.pointer (some ⟨U, 0, none⟩)) ∧ Blk w' U 97 cs ∧ R ≠ U ∧ V ≠ U ∧ w.heap.size ≤ U ∧ Below w.heap.size w w'
set_option maxRecDepth 100000 in
set_option maxHeartbeats 8000000 in
theorem newRun_one (B C P : Int) (A : Option Addr) (c n : Nat) (T : List Int) (nm : Bs) (kd pr wt pw le bu ra de : Int) (w : World) (hn : T.length = n) (hs : Sl w A (iv T)) (hs2 : OkS B C P T) (ho : OkB T nm kd pr wt pw le bu ra de) (hk : kd ≠ 0) (g d : Nat) (hg : Blk w g 32 #[strV nm, .int .i64 kd, .int .i64 pr, .int .i64 wt, .int .i64 pw, .int .i64 le, .int .i64 bu, .int .i64 ra, .int .i64 de]) :
    Calls Try.prog 54 #[.agg #[.int .i64 B, .int .i64 C, .int .i64 P, .slice A n c], .slice (some ⟨g, 0, none⟩) 1 d] w (NewRunR B C P A c n #[strV nm, .int .i64 kd, .int .i64 pr, .int .i64 wt, .int .i64 pw, .int .i64 le, .int .i64 bu, .int .i64 ra, .int .i64 de, .int .i64 (needB ra bu de (tbO T le)), .int .i64 0, .int .i64 0, .int .i64 0, .int .i64 0] w) := by
  have HNE := hide (fun W k => need_ok B C P A c n T nm kd pr wt pw le bu ra de W hn k hs2 ho hk)
  obtain ⟨NB, hNB⟩ : ∃ z, needB ra bu de (tbO T le) = z := ⟨_, rfl⟩
  rw [hNB] at HNE ⊢
  have hgl := hg.lt
  obtain ⟨W1, hW1⟩ : ∃ W1, (w.alloc (.cells #[.int .i64 B, .int .i64 C, .int .i64 P, .slice A n c] 74)).alloc (.cells #[.int .i64 B, .int .i64 C, .int .i64 P, .slice A n c, .slice none 0 0] 93) = W1 := ⟨_, rfl⟩
  have HT : Hid (Stay W1 (fun W => ((((Blk W w.heap.size 74 #[.int .i64 B, .int .i64 C, .int .i64 P, .slice A n c] ∧ Blk W (w.heap.size + 1) 93 #[.int .i64 B, .int .i64 C, .int .i64 P, .slice A n c, .slice none 0 0]) ∧ Blk W g 32 #[strV nm, .int .i64 kd, .int .i64 pr, .int .i64 wt, .int .i64 pw, .int .i64 le, .int .i64 bu, .int .i64 ra, .int .i64 de]) ∧ Sl W A (iv T)) ∧ Below w.heap.size w W))) := hide (by
    rw [← hW1]
    exact ((((stay_blk (Blk.new w 74 #[.int .i64 B, .int .i64 C, .int .i64 P, .slice A n c])).alloc (.cells #[.int .i64 B, .int .i64 C, .int .i64 P, .slice A n c, .slice none 0 0] 93)).and (stay_blk (blk_up w 74 93 #[.int .i64 B, .int .i64 C, .int .i64 P, .slice A n c] #[.int .i64 B, .int .i64 C, .int .i64 P, .slice A n c, .slice none 0 0]))).and (((stay_blk hg).alloc (.cells #[.int .i64 B, .int .i64 C, .int .i64 P, .slice A n c] 74)).alloc (.cells #[.int .i64 B, .int .i64 C, .int .i64 P, .slice A n c, .slice none 0 0] 93))).and (((stay_sl hs).alloc (.cells #[.int .i64 B, .int .i64 C, .int .i64 P, .slice A n c] 74)).alloc (.cells #[.int .i64 B, .int .i64 C, .int .i64 P, .slice A n c, .slice none 0 0] 93)) |>.and (stay_below (((Below.refl _ w).alloc (Nat.le_refl _) (.cells #[.int .i64 B, .int .i64 C, .int .i64 P, .slice A n c] 74)).alloc (by simp) (.cells #[.int .i64 B, .int .i64 C, .int .i64 P, .slice A n c, .slice none 0 0] 93))))
  have z0 : W1.heap.size = w.heap.size + 2 := by rw [← hW1]; simp
  have HZ0 := hide z0
  clear hs hs2 ho hk hn hg hNB z0
  go_enter Try.func54, Try.ntmps54
  go_wp2_with fail
  clear hW1
  refine wp_loop_rounds 2 ?_
  rw [rounds_succ]
  have b0 : W1.cell? ⟨g, 0, none⟩ = some (strV nm) := HT.out.now.1.1.2.cell 0
  have b1 : W1.cell? ⟨g, 1, none⟩ = some (.int .i64 kd) := HT.out.now.1.1.2.cell 1
  have b2 : W1.cell? ⟨g, 2, none⟩ = some (.int .i64 pr) := HT.out.now.1.1.2.cell 2
  have b3 : W1.cell? ⟨g, 3, none⟩ = some (.int .i64 wt) := HT.out.now.1.1.2.cell 3
  have b4 : W1.cell? ⟨g, 4, none⟩ = some (.int .i64 pw) := HT.out.now.1.1.2.cell 4
  have b5 : W1.cell? ⟨g, 5, none⟩ = some (.int .i64 le) := HT.out.now.1.1.2.cell 5
  have b6 : W1.cell? ⟨g, 6, none⟩ = some (.int .i64 bu) := HT.out.now.1.1.2.cell 6
  have b7 : W1.cell? ⟨g, 7, none⟩ = some (.int .i64 ra) := HT.out.now.1.1.2.cell 7
  have b8 : W1.cell? ⟨g, 8, none⟩ = some (.int .i64 de) := HT.out.now.1.1.2.cell 8
  go_wp2_with (refine wpList_store_row rfl 32 (.tmp 7) (.tmp 16) rfl W1.heap.size #[strV nm, .int .i64 kd, .int .i64 pr, .int .i64 wt, .int .i64 pw, .int .i64 le, .int .i64 bu, .int .i64 ra, .int .i64 de] rfl rfl 32 #[.string ⟨#[]⟩, .int .i64 0, .int .i64 0, .int .i64 0, .int .i64 0, .int .i64 0, .int .i64 0, .int .i64 0, .int .i64 0] (Blk.new W1 32 #[.string ⟨#[]⟩, .int .i64 0, .int .i64 0, .int .i64 0, .int .i64 0, .int .i64 0, .int .i64 0, .int .i64 0, .int .i64 0]) (by kernel_rfl) rfl (by simp [Value.oneCell', strV]) ?_; have HX := hide ((Blk.new W1 32 #[.string ⟨#[]⟩, .int .i64 0, .int .i64 0, .int .i64 0, .int .i64 0, .int .i64 0, .int .i64 0, .int .i64 0, .int .i64 0]).row #[strV nm, .int .i64 kd, .int .i64 pr, .int .i64 wt, .int .i64 pw, .int .i64 le, .int .i64 bu, .int .i64 ra, .int .i64 de]); replace HT := hide (HT.out.step (Below.row (g := W1.heap.size) ((Below.refl W1.heap.size W1).alloc (Nat.le_refl _) (.cells #[.string ⟨#[]⟩, .int .i64 0, .int .i64 0, .int .i64 0, .int .i64 0, .int .i64 0, .int .i64 0, .int .i64 0, .int .i64 0] 32)) (Nat.le_refl _) #[strV nm, .int .i64 kd, .int .i64 pr, .int .i64 wt, .int .i64 pw, .int .i64 le, .int .i64 bu, .int .i64 ra, .int .i64 de])); clear b0 b1 b2 b3 b4 b5 b6 b7 b8)
  replace HT := hide (HT.out.and (stay_blk HX.out))
  clear HX
  obtain ⟨W4, hW4⟩ : ∃ W4, (W1.alloc (.cells #[.string ⟨#[]⟩, .int .i64 0, .int .i64 0, .int .i64 0, .int .i64 0, .int .i64 0, .int .i64 0, .int .i64 0, .int .i64 0] 32)).setRow W1.heap.size #[strV nm, .int .i64 kd, .int .i64 pr, .int .i64 wt, .int .i64 pw, .int .i64 le, .int .i64 bu, .int .i64 ra, .int .i64 de] = W4 := ⟨_, rfl⟩
  rw [hW4] at HT ⊢
  clear hW4
  have hfd := fun W => field_need NB 1 (NB * pw) W
  obtain ⟨i1, hi0, hz0, hz1, hz2⟩ := info_parts ptr_info
  try simp only [Act.put]
  go_wp2_with fail
  have hHeld := (below_drew (Below.refl W4.heap.size W4))
  refine UpM.start (Z := [16]) (S := fun w' => Below W4.heap.size W4 w') (by kernel_rfl) ?_
  refine UpM.pure (i := 0) 17 (v := .pointer (some ⟨w.heap.size + 1, 0, none⟩)) rfl rfl (by kernel_rfl) (by kernel_rfl) (by kernel_rfl) (fun _ _ _ h => h) (Or.inl ⟨by rfl, by intro w_ hSw; go_simp⟩) ?_
  try simp only [Act.put, List.setIfInBounds_toArray, List.set_cons_zero, List.set_cons_succ]
  refine UpM.pure (i := 1) 18 (v := .pointer (some ⟨w.heap.size + 1, 0, none⟩)) rfl rfl (by kernel_rfl) (by kernel_rfl) (by kernel_rfl) (fun _ _ _ h => h) (Or.inl ⟨by rfl, by intro w_ hSw; go_simp⟩) ?_
  try simp only [Act.put, List.setIfInBounds_toArray, List.set_cons_zero, List.set_cons_succ]
  refine UpM.pure (i := 2) 19 (v := .pointer (some ⟨w.heap.size + 1, 0, none⟩)) rfl rfl (by kernel_rfl) (by kernel_rfl) (by kernel_rfl) (fun _ _ _ h => h) (Or.inl ⟨by rfl, by intro w_ hSw; go_simp⟩) ?_
  try simp only [Act.put, List.setIfInBounds_toArray, List.set_cons_zero, List.set_cons_succ]
  refine UpM.pure (i := 3) 20 (v := .pointer (some ⟨w.heap.size + 1, 4, none⟩)) rfl rfl (by kernel_rfl) (by kernel_rfl) (by kernel_rfl) (fun _ _ _ h => h) (Or.inl ⟨by rfl, by intro w_ hSw; go_simp⟩) ?_
  try simp only [Act.put, List.setIfInBounds_toArray, List.set_cons_zero, List.set_cons_succ]
  refine UpM.take (i := 4) 21 (v := .slice none 0 0) rfl rfl (by kernel_rfl) (by kernel_rfl) (by kernel_rfl) (by kernel_rfl) (fun _ _ _ h => h) hHeld (Or.inl ⟨by rfl, by intro w_ hSw; have c4 : w_.cell? ⟨w.heap.size + 1, 4, none⟩ = some (.slice none 0 0) := (HT.out _ hSw).1.1.1.1.2.cell 4; go_simp⟩) ?_
  try simp only [Act.put, List.setIfInBounds_toArray, List.set_cons_zero, List.set_cons_succ]
  refine UpM.take (i := 5) 22 (v := .agg #[strV nm, .int .i64 kd, .int .i64 pr, .int .i64 wt, .int .i64 pw, .int .i64 le, .int .i64 bu, .int .i64 ra, .int .i64 de]) rfl rfl (by kernel_rfl) (by kernel_rfl) (by kernel_rfl) (by kernel_rfl) (fun _ _ _ h => h) hHeld (Or.inl ⟨by rfl, by intro w_ hSw; have c0 : w_.cell? ⟨W1.heap.size, 0, none⟩ = some (strV nm) := (HT.out _ hSw).2.cell 0; have c1 : w_.cell? ⟨W1.heap.size, 1, none⟩ = some (.int .i64 kd) := (HT.out _ hSw).2.cell 1; have c2 : w_.cell? ⟨W1.heap.size, 2, none⟩ = some (.int .i64 pr) := (HT.out _ hSw).2.cell 2; have c3 : w_.cell? ⟨W1.heap.size, 3, none⟩ = some (.int .i64 wt) := (HT.out _ hSw).2.cell 3; have c4 : w_.cell? ⟨W1.heap.size, 4, none⟩ = some (.int .i64 pw) := (HT.out _ hSw).2.cell 4; have c5 : w_.cell? ⟨W1.heap.size, 5, none⟩ = some (.int .i64 le) := (HT.out _ hSw).2.cell 5; have c6 : w_.cell? ⟨W1.heap.size, 6, none⟩ = some (.int .i64 bu) := (HT.out _ hSw).2.cell 6; have c7 : w_.cell? ⟨W1.heap.size, 7, none⟩ = some (.int .i64 ra) := (HT.out _ hSw).2.cell 7; have c8 : w_.cell? ⟨W1.heap.size, 8, none⟩ = some (.int .i64 de) := (HT.out _ hSw).2.cell 8; go_simp⟩) ?_
  try simp only [Act.put, List.setIfInBounds_toArray, List.set_cons_zero, List.set_cons_succ]
  refine UpM.take (i := 6) 23 (v := .agg #[.int .i64 B, .int .i64 C, .int .i64 P, .slice A n c]) rfl rfl (by kernel_rfl) (by kernel_rfl) (by kernel_rfl) (by kernel_rfl) (fun _ _ _ h => h) hHeld (Or.inl ⟨by rfl, by intro w_ hSw; have c0 : w_.cell? ⟨w.heap.size, 0, none⟩ = some (.int .i64 B) := (HT.out _ hSw).1.1.1.1.1.cell 0; have c1 : w_.cell? ⟨w.heap.size, 1, none⟩ = some (.int .i64 C) := (HT.out _ hSw).1.1.1.1.1.cell 1; have c2 : w_.cell? ⟨w.heap.size, 2, none⟩ = some (.int .i64 P) := (HT.out _ hSw).1.1.1.1.1.cell 2; have c3 : w_.cell? ⟨w.heap.size, 3, none⟩ = some (.slice A n c) := (HT.out _ hSw).1.1.1.1.1.cell 3; go_simp⟩) ?_
  try simp only [Act.put, List.setIfInBounds_toArray, List.set_cons_zero, List.set_cons_succ]
  refine UpM.take (i := 7) 24 (v := .agg #[strV nm, .int .i64 kd, .int .i64 pr, .int .i64 wt, .int .i64 pw, .int .i64 le, .int .i64 bu, .int .i64 ra, .int .i64 de]) rfl rfl (by kernel_rfl) (by kernel_rfl) (by kernel_rfl) (by kernel_rfl) (fun _ _ _ h => h) hHeld (Or.inl ⟨by rfl, by intro w_ hSw; have c0 : w_.cell? ⟨W1.heap.size, 0, none⟩ = some (strV nm) := (HT.out _ hSw).2.cell 0; have c1 : w_.cell? ⟨W1.heap.size, 1, none⟩ = some (.int .i64 kd) := (HT.out _ hSw).2.cell 1; have c2 : w_.cell? ⟨W1.heap.size, 2, none⟩ = some (.int .i64 pr) := (HT.out _ hSw).2.cell 2; have c3 : w_.cell? ⟨W1.heap.size, 3, none⟩ = some (.int .i64 wt) := (HT.out _ hSw).2.cell 3; have c4 : w_.cell? ⟨W1.heap.size, 4, none⟩ = some (.int .i64 pw) := (HT.out _ hSw).2.cell 4; have c5 : w_.cell? ⟨W1.heap.size, 5, none⟩ = some (.int .i64 le) := (HT.out _ hSw).2.cell 5; have c6 : w_.cell? ⟨W1.heap.size, 6, none⟩ = some (.int .i64 bu) := (HT.out _ hSw).2.cell 6; have c7 : w_.cell? ⟨W1.heap.size, 7, none⟩ = some (.int .i64 ra) := (HT.out _ hSw).2.cell 7; have c8 : w_.cell? ⟨W1.heap.size, 8, none⟩ = some (.int .i64 de) := (HT.out _ hSw).2.cell 8; go_simp⟩) ?_
  try simp only [Act.put, List.setIfInBounds_toArray, List.set_cons_zero, List.set_cons_succ]
  refine UpM.next (i := 8) (by kernel_rfl) rfl (fun K hK => ?_)
  go_simp
  go_at_call 40
  refine (HNE.out _ (HT.out _ hHeld).1.1.2).mono ?_
  rintro e v1 ⟨rfl, hb⟩
  replace hHeld := Below.step hHeld hb
  have hU0 := hHeld.size
  clear hb HNE
  obtain ⟨U, hU⟩ : ∃ U, v1.heap.size = U := ⟨_, rfl⟩
  simp only []
  refine hK.out _ _ (fun _ _ => hHeld) ?_
  clear hK K
  try simp only [Act.put, List.setIfInBounds_toArray, List.set_cons_zero, List.set_cons_succ]
  refine UpM.pure (i := 9) 26 (v := .int .i64 NB) rfl rfl (by kernel_rfl) (by kernel_rfl) (by kernel_rfl) (fun _ _ _ h => h) (Or.inl ⟨by rfl, by intro w_ hSw; go_simp⟩) ?_
  try simp only [Act.put, List.setIfInBounds_toArray, List.set_cons_zero, List.set_cons_succ]
  refine UpM.pure (i := 10) 27 (v := .agg #[strV nm, .int .i64 kd, .int .i64 pr, .int .i64 wt, .int .i64 pw, .int .i64 le, .int .i64 bu, .int .i64 ra, .int .i64 de, .int .i64 NB, .int .i64 0, .int .i64 0, .int .i64 0, .int .i64 0]) rfl rfl (by kernel_rfl) (by kernel_rfl) (by kernel_rfl) (fun _ _ _ h => h) (Or.inl ⟨by rfl, by intro w_ hSw; go_simp⟩) ?_
  try simp only [Act.put, List.setIfInBounds_toArray, List.set_cons_zero, List.set_cons_succ]
  refine UpM.next (i := 11) (by kernel_rfl) rfl (fun K hK => ?_)
  go_simp
  replace hHeld := hHeld.alloc hHeld.size (.cells #[strV nm, .int .i64 kd, .int .i64 pr, .int .i64 wt, .int .i64 pw, .int .i64 le, .int .i64 bu, .int .i64 ra, .int .i64 de, .int .i64 NB, .int .i64 0, .int .i64 0, .int .i64 0, .int .i64 0] 97)
  have HBU := hide (Blk.newN v1 97 #[strV nm, .int .i64 kd, .int .i64 pr, .int .i64 wt, .int .i64 pw, .int .i64 le, .int .i64 bu, .int .i64 ra, .int .i64 de, .int .i64 NB, .int .i64 0, .int .i64 0, .int .i64 0, .int .i64 0] hU)
  obtain ⟨v2, hv2⟩ : ∃ v2, v1.alloc (.cells #[strV nm, .int .i64 kd, .int .i64 pr, .int .i64 wt, .int .i64 pw, .int .i64 le, .int .i64 bu, .int .i64 ra, .int .i64 de, .int .i64 NB, .int .i64 0, .int .i64 0, .int .i64 0, .int .i64 0] 97) = v2 := ⟨_, rfl⟩
  have hv3 : v2.heap.size = U + 1 := by rw [← hv2, ← hU]; simp
  rw [hv2] at hHeld HBU ⊢
  have hUl : W4.heap.size ≤ U := by rw [← hU]; exact hU0
  clear hv2 hU hU0
  refine hK.out _ _ (fun _ _ => hHeld) ?_
  clear hK K
  try simp only [Act.put, List.setIfInBounds_toArray, List.set_cons_zero, List.set_cons_succ]
  refine UpM.next (i := 12) (by kernel_rfl) rfl (fun K hK => ?_)
  go_simp
  replace hHeld := hHeld.alloc hHeld.size (.cells #[.pointer (some ⟨U, 0, none⟩)] 94)
  refine hK.out _ _ (fun _ _ => hHeld) ?_
  clear hK K
  try simp only [Act.put, List.setIfInBounds_toArray, List.set_cons_zero, List.set_cons_succ]
  refine UpM.next (i := 13) (by kernel_rfl) rfl (fun K hK => ?_)
  refine step_append_any _ (by rfl) (.tmp 21) (.tmp 29) 91 (by rfl) (U + 1) 94 i1 (.pointer none) 1 8 Try.underlying91 hi0 hz0 hz1 hz2 rfl (by omega) (.slice none 0 0) 0 [] (by rfl) ⟨rfl, .inl ⟨rfl, rfl⟩⟩ (U + 1 + 1) (some ⟨U + 1, 0, none⟩) 1 1 [.pointer (some ⟨U, 0, none⟩)] (by rfl) (hv3 ▸ reads_one v2 _ _) (by simp [Value.oneCell']) (by decide) (by decide) (by simp; omega) ?_
  intro v' w6 hown' hgrow _
  replace hgrow : (v2.alloc (.cells #[.pointer (some ⟨U, 0, none⟩)] 94)).grownBy w6 none := hgrow
  simp only [Nat.zero_add, List.nil_append] at hown'
  obtain ⟨V, vc, rfl, -, -⟩ := hown'.form (by decide)
  have hVl : U + 1 ≤ V := (hown'.lt _ rfl).1
  have hVc := hown'.cells (g := V) rfl 0 _ rfl
  rw [add_lit] at hVc
  replace hHeld := hHeld.grown hgrow (by simp; omega) (by simp)
  replace HBU := hide ((HBU.out.alloc (.cells #[.pointer (some ⟨U, 0, none⟩)] 94)).grown hgrow (by simp))
  clear hgrow hown'
  have r4 : w6.cell? ⟨w.heap.size + 1, 4, none⟩ = some (.slice none 0 0) := (HT.out _ hHeld).1.1.1.1.2.cell 4
  have f4 := (HT.out _ hHeld).1.1.1.1.2.frozen 4
  refine hK.out _ _ (fun _ _ => hHeld) ?_
  clear hK K
  try simp only [Act.put, List.setIfInBounds_toArray]
  refine UpM.pure (i := 14) 31 (v := .pointer (some ⟨w.heap.size + 1, 0, none⟩)) rfl rfl (by kernel_rfl) (by kernel_rfl) (by kernel_rfl) (fun _ _ _ h => h) (Or.inl ⟨by rfl, by intro w_ hSw; go_simp⟩) ?_
  try simp only [Act.put]
  refine UpM.pure (i := 15) 32 (v := .pointer (some ⟨w.heap.size + 1, 4, none⟩)) rfl rfl (by kernel_rfl) (by kernel_rfl) (by kernel_rfl) (fun _ _ _ h => h) (Or.inl ⟨by rfl, by intro w_ hSw; go_simp⟩) ?_
  try simp only [Act.put]
  refine UpM.next (i := 16) (by kernel_rfl) rfl (fun K hK => ?_)
  go_simp
  refine hK.out _ _ (fun h => (h (by decide)).elim) ?_
  clear hK K
  try simp only [Act.put, List.setIfInBounds_toArray, List.set_cons_zero, List.set_cons_succ]
  refine UpM.done (by kernel_rfl) ?_ _
  have hz1 := HT.out.now.2.lt
  have hz2 := HZ0.out
  have hUw : w.heap.size + 2 < U := by omega
  have HBE := hide ((HT.out _ hHeld).1.2.setCell (p := ⟨w.heap.size + 1, 4, none⟩) (by show _ ≤ w.heap.size + 1; omega) (.slice (some ⟨V, 0, none⟩) 1 vc))
  have HRE : Hid (Blk (w6.setCell ⟨w.heap.size + 1, 4, none⟩ (.slice (some ⟨V, 0, none⟩) 1 vc)) (w.heap.size + 1) 93 #[.int .i64 B, .int .i64 C, .int .i64 P, .slice A n c, .slice (some ⟨V, 0, none⟩) 1 vc]) := hide ((HT.out _ hHeld).1.1.1.1.2.set_ 4 (.slice (some ⟨V, 0, none⟩) 1 vc))
  have HUE := hide (HBU.out.far (p := ⟨w.heap.size + 1, 4, none⟩) (by show U ≠ w.heap.size + 1; omega) (.slice (some ⟨V, 0, none⟩) 1 vc))
  have HVE := hide (show (w6.setCell ⟨w.heap.size + 1, 4, none⟩ (.slice (some ⟨V, 0, none⟩) 1 vc)).cell? ⟨V, 0, none⟩ = some (.pointer (some ⟨U, 0, none⟩)) from (World.cell?_setCell_other w6 _ _ _ (by intro e; injection e with e1; omega)).trans hVc)
  clear hHeld HT HBU hVc hfd r4 f4 hi0 hz0 hz1 hz2 HZ0 hv3 hUl
  go_wp2_with fail
  rw [rounds_succ]
  go_wp2
  go_ret
  exact ⟨_, _, _, _, rfl, HRE.out, HVE.out, HUE.out, by omega, by omega, by omega, HBE.out⟩
end Go.Proofs.Ytppkibgemacdbaa
