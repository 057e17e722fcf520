import Derived.Test.YtppkibgemacdbaaMgb
namespace Go.Proofs.Ytppkibgemacdbaa
open Go.RowKit Go.WideShapes Go.ChangeShapes

/-! bearers: the program -/
set_option maxRecDepth 100000 in
set_option maxHeartbeats 4000000 in
theorem open_ok (B C P : Int) (A : Option Addr) (c n : Nat) (T : List Int) (w : World) (hn : T.length = n) (hs : Sl w A (iv T)) (ho : OkS B C P T) :
    Calls Try.prog 58 #[.agg #[.int .i64 B, .int .i64 C, .int .i64 P, .slice A n c]] w fun e w' => e = .returned (.tuple #[.agg #[.int .i64 B, .int .i64 C, .int .i64 P, .slice A n c], .int .i64 0]) ∧ Below w.heap.size w w' := by
  have HCK := hide (fun W k => checkSite_ok B C P A c n T W hn k ho)
  have hz : Blk ((w.alloc (.cells #[.int .i64 B, .int .i64 C, .int .i64 P, .slice A n c] 24)).alloc (.cells #[.int .i64 0, .int .i64 0, .int .i64 0, .slice none 0 0] 74)) (w.heap.size + 1) 74 #[.int .i64 0, .int .i64 0, .int .i64 0, .slice none 0 0] := blk_up w 24 74 #[.int .i64 B, .int .i64 C, .int .i64 P, .slice A n c] #[.int .i64 0, .int .i64 0, .int .i64 0, .slice none 0 0]
  have HT := hide (((stay_blk ((Blk.new w 24 #[.int .i64 B, .int .i64 C, .int .i64 P, .slice A n c]).alloc (.cells #[.int .i64 0, .int .i64 0, .int .i64 0, .slice none 0 0] 74))).and (stay_blk hz)).and ((stay_sl (hs.alloc (.cells #[.int .i64 B, .int .i64 C, .int .i64 P, .slice A n c] 24))).alloc _) |>.and (stay_below (((Below.refl _ w).alloc (Nat.le_refl _) (.cells #[.int .i64 B, .int .i64 C, .int .i64 P, .slice A n c] 24)).alloc (by simp) (.cells #[.int .i64 0, .int .i64 0, .int .i64 0, .slice none 0 0] 74))))
  clear hz hs ho hn
  go_enter Try.func58, Try.ntmps58
  go_wp2_with fail
  obtain ⟨W0, hW0⟩ : ∃ W0, (w.alloc (.cells #[.int .i64 B, .int .i64 C, .int .i64 P, .slice A n c] 24)).alloc (.cells #[.int .i64 0, .int .i64 0, .int .i64 0, .slice none 0 0] 74) = W0 := ⟨_, rfl⟩
  rw [hW0] at HT ⊢
  clear hW0
  refine wp_region_held_drew (S := fun w' => Blk w' w.heap.size 24 #[.int .i64 B, .int .i64 C, .int .i64 P, .slice A n c]) (by kernel_rfl) ((HT.out.drewN 1).now.1.1.1) (fun hHeld => ?_)
  refine take_at (i := 0) 4 (v := .agg #[.int .i64 B, .int .i64 C, .int .i64 P, .slice A n c]) rfl rfl (by kernel_rfl) (by kernel_rfl) (by kernel_rfl) (fun _ _ _ h => h) (Or.inl ⟨by rfl, by intro w1 hSw; have c0 : w1.cell? ⟨w.heap.size, 0, none⟩ = some (.int .i64 B) := hSw.cell 0; have c1 : w1.cell? ⟨w.heap.size, 1, none⟩ = some (.int .i64 C) := hSw.cell 1; have c2 : w1.cell? ⟨w.heap.size, 2, none⟩ = some (.int .i64 P) := hSw.cell 2; have c3 : w1.cell? ⟨w.heap.size, 3, none⟩ = some (.slice A n c) := hSw.cell 3; go_simp⟩) (by assumption) ?_
  try simp only [Act.put, List.setIfInBounds_toArray, List.set_cons_zero, List.set_cons_succ]
  refine take_at (i := 1) 5 (v := .agg #[.int .i64 B, .int .i64 C, .int .i64 P, .slice A n c]) rfl rfl (by kernel_rfl) (by kernel_rfl) (by kernel_rfl) (fun _ _ _ h => h) (Or.inl ⟨by rfl, by intro w hSw; go_simp⟩) (by assumption) ?_
  try simp only [Act.put, List.setIfInBounds_toArray, List.set_cons_zero, List.set_cons_succ]
  refine take_at (i := 2) 6 (v := .agg #[.int .i64 B, .int .i64 C, .int .i64 P, .slice A n c]) rfl rfl (by kernel_rfl) (by kernel_rfl) (by kernel_rfl) (fun _ _ _ h => h) (Or.inl ⟨by rfl, by intro w1 hSw; have c0 : w1.cell? ⟨w.heap.size, 0, none⟩ = some (.int .i64 B) := hSw.cell 0; have c1 : w1.cell? ⟨w.heap.size, 1, none⟩ = some (.int .i64 C) := hSw.cell 1; have c2 : w1.cell? ⟨w.heap.size, 2, none⟩ = some (.int .i64 P) := hSw.cell 2; have c3 : w1.cell? ⟨w.heap.size, 3, none⟩ = some (.slice A n c) := hSw.cell 3; go_simp⟩) (by assumption) ?_
  try simp only [Act.put, List.setIfInBounds_toArray, List.set_cons_zero, List.set_cons_succ]
  replace HT := hide (HT.out.drewN 1)
  refine wpAnyH_ready (rs := [3]) (by kernel_rfl) (by simp) ?_
  refine AllReadyH.cons rfl (fun K hK => ?_) AllReadyH.nil
  go_simp
  go_at_call 64
  refine (HCK.out _ HT.out.now.1.2).mono ?_
  rintro e w2 ⟨rfl, hb⟩
  replace HT := hide (HT.out.step hb)
  clear hb
  try simp only []
  refine hK.out _ _ (HT.out.now.1.1.1) (fun hHeld => ?_)
  clear hK K
  try simp only [Act.put, List.setIfInBounds_toArray, List.set_cons_zero, List.set_cons_succ]
  refine wpAnyH_ready (rs := [4]) (by kernel_rfl) (by simp) ?_
  refine AllReadyH.cons rfl (fun K hK => ?_) AllReadyH.nil
  refine step_store_rowF rfl 74 _ _ rfl (w.heap.size + 1) #[.int .i64 B, .int .i64 C, .int .i64 P, .slice A n c] rfl rfl 74 #[.int .i64 0, .int .i64 0, .int .i64 0, .slice none 0 0] HT.out.now.1.1.2 (by kernel_rfl) rfl (by simp [Value.oneCell']) ?_
  have HX := hide (HT.out.now.1.1.2.row #[.int .i64 B, .int .i64 C, .int .i64 P, .slice A n c])
  refine hK.out _ _ (HT.out.now.1.1.1.rowFar (by omega) _) (fun hHeld => ?_)
  clear hK K
  try simp only [Act.put, List.setIfInBounds_toArray]
  refine take_at (i := 5) 3 (v := .int .i64 0) rfl rfl (by kernel_rfl) (by kernel_rfl) (by kernel_rfl) (fun _ _ _ h => h) (Or.inl ⟨by rfl, by intro w hSw; go_simp⟩) (by assumption) ?_
  try simp only [Act.put]
  refine wpAnyH_done (by kernel_rfl) ?_ _
  clear hHeld
  have HB := hide (Below.row (g := w.heap.size + 1) HT.out.now.2 (Nat.le_succ _) #[.int .i64 B, .int .i64 C, .int .i64 P, .slice A n c])
  clear HT HCK
  obtain ⟨W5, hW5⟩ : ∃ W5, w2.setRow (w.heap.size + 1) #[.int .i64 B, .int .i64 C, .int .i64 P, .slice A n c] = W5 := ⟨_, rfl⟩
  rw [hW5] at HX HB ⊢
  clear hW5
  go_wp2
  refine bodyPost_ret (v := .tuple #[.agg #[.int .i64 B, .int .i64 C, .int .i64 P, .slice A n c], .int .i64 0]) ?_ rfl ⟨rfl, HB.out⟩
  have y0 : W5.cell? ⟨w.heap.size + 1, 0, none⟩ = some (.int .i64 B) := HX.out.cell 0
  have y1 : W5.cell? ⟨w.heap.size + 1, 1, none⟩ = some (.int .i64 C) := HX.out.cell 1
  have y2 : W5.cell? ⟨w.heap.size + 1, 2, none⟩ = some (.int .i64 P) := HX.out.cell 2
  have y3 : W5.cell? ⟨w.heap.size + 1, 3, none⟩ = some (.slice A n c) := HX.out.cell 3
  simp [results, Try.results58, go_sem, y0, y1, y2, y3]
end Go.Proofs.Ytppkibgemacdbaa
