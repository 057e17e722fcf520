import Derived.Test.YtppkibgemacdbaaSdI
namespace Go.Proofs.Ytppkibgemacdbaa
open Go.RowKit Go.WideShapes Go.ChangeShapes

/-! openBearer, need -/
theorem blk_up2 (w : World) (t t' t'' : TypeId) (cs cs' cs'' : Array Value) : Blk (((w.alloc (.cells cs t)).alloc (.cells cs' t')).alloc (.cells cs'' t'')) (w.heap.size + 2) t'' cs'' := by
  have h := Blk.new ((w.alloc (.cells cs t)).alloc (.cells cs' t')) t'' cs''
  rw [World.size_alloc, World.size_alloc] at h
  exact h
set_option maxRecDepth 100000 in
set_option maxHeartbeats 8000000 in
theorem openBearer_ok (B C P : Int) (A : Option Addr) (c n : Nat) (T : List Int) (nm : Bs) (kd pr wt pw le bu ra de : Int) (w : World) (hn : T.length = n) (hs : Sl w A (iv T)) (hs2 : OkS B C P T) (ho : OkB T nm kd pr wt pw le bu ra de) (hk : kd ≠ 0) :
    Calls Try.prog 39 #[.agg #[.int .i64 B, .int .i64 C, .int .i64 P, .slice A n c], .agg #[strV nm, .int .i64 kd, .int .i64 pr, .int .i64 wt, .int .i64 pw, .int .i64 le, .int .i64 bu, .int .i64 ra, .int .i64 de]] w fun e w' => e = .returned (.tuple #[.agg #[.int .i64 B, .int .i64 C, .int .i64 P, .slice A n c], .int .i64 0]) ∧ Below w.heap.size w w' := by
  have HOP := hide (fun W k => open_ok B C P A c n T W hn k hs2)
  have HBE := hide (fun W k => bearerErr_ok B C P A c n T nm kd pr wt pw le bu ra de W hn k (by have := hs2.few; omega) ho (fun i h => (hs2.in_ i h).1) hk)
  have HT := hide (((((stay_blk ((Blk.new w 24 #[.int .i64 B, .int .i64 C, .int .i64 P, .slice A n c]).alloc (.cells #[strV nm, .int .i64 kd, .int .i64 pr, .int .i64 wt, .int .i64 pw, .int .i64 le, .int .i64 bu, .int .i64 ra, .int .i64 de] 32))).alloc (.cells #[.int .i64 0, .int .i64 0, .int .i64 0, .slice none 0 0] 74)).and ((stay_blk (blk_up w 24 32 #[.int .i64 B, .int .i64 C, .int .i64 P, .slice A n c] #[strV nm, .int .i64 kd, .int .i64 pr, .int .i64 wt, .int .i64 pw, .int .i64 le, .int .i64 bu, .int .i64 ra, .int .i64 de])).alloc (.cells #[.int .i64 0, .int .i64 0, .int .i64 0, .slice none 0 0] 74))).and (stay_blk (blk_up2 w 24 32 74 #[.int .i64 B, .int .i64 C, .int .i64 P, .slice A n c] #[strV nm, .int .i64 kd, .int .i64 pr, .int .i64 wt, .int .i64 pw, .int .i64 le, .int .i64 bu, .int .i64 ra, .int .i64 de] #[.int .i64 0, .int .i64 0, .int .i64 0, .slice none 0 0]))).and (((stay_sl (hs.alloc (.cells #[.int .i64 B, .int .i64 C, .int .i64 P, .slice A n c] 24))).alloc (.cells #[strV nm, .int .i64 kd, .int .i64 pr, .int .i64 wt, .int .i64 pw, .int .i64 le, .int .i64 bu, .int .i64 ra, .int .i64 de] 32)).alloc (.cells #[.int .i64 0, .int .i64 0, .int .i64 0, .slice none 0 0] 74)) |>.and (stay_below ((((Below.refl _ w).alloc (Nat.le_refl _) (.cells #[.int .i64 B, .int .i64 C, .int .i64 P, .slice A n c] 24)).alloc (by simp) (.cells #[strV nm, .int .i64 kd, .int .i64 pr, .int .i64 wt, .int .i64 pw, .int .i64 le, .int .i64 bu, .int .i64 ra, .int .i64 de] 32)).alloc (by simp; omega) (.cells #[.int .i64 0, .int .i64 0, .int .i64 0, .slice none 0 0] 74))))
  clear hs hs2 ho hk hn
  go_enter Try.func39, Try.ntmps39
  go_wp2_with fail
  go_at_call 58
  refine (HOP.out _ HT.out.now.1.2).mono ?_
  rintro e w1 ⟨rfl, hb⟩
  have hg2 : w.heap.size + 2 < w1.heap.size := by have h := hb.size; simp at h; omega
  replace HT := hide ((HT.out.step hb).alloc (.cells #[.int .i64 B, .int .i64 C, .int .i64 P, .slice A n c] 74) |>.and (stay_blk (Blk.new w1 74 #[.int .i64 B, .int .i64 C, .int .i64 P, .slice A n c])))
  clear hb
  simp only []
  go_wp2_with fail
  obtain ⟨W0, hW0⟩ : ∃ W0, w1.alloc (.cells #[.int .i64 B, .int .i64 C, .int .i64 P, .slice A n c] 74) = W0 := ⟨_, rfl⟩
  rw [hW0] at HT ⊢
  clear hW0
  refine wp_region_held_drew (S := fun w' => Blk w' w1.heap.size 74 #[.int .i64 B, .int .i64 C, .int .i64 P, .slice A n c] ∧ Blk w' (w.heap.size + 1) 32 #[strV nm, .int .i64 kd, .int .i64 pr, .int .i64 wt, .int .i64 pw, .int .i64 le, .int .i64 bu, .int .i64 ra, .int .i64 de]) (by kernel_rfl) ⟨(HT.out.drewN 1).now.2, (HT.out.drewN 1).now.1.1.1.1.2⟩ (fun hHeld => ?_)
  refine take_at (i := 0) 17 (v := .agg #[.int .i64 B, .int .i64 C, .int .i64 P, .slice A n c]) rfl rfl (by kernel_rfl) (by kernel_rfl) (by kernel_rfl) (fun _ _ _ h => h) (Or.inl ⟨by rfl, by intro w_ hSw; have c0 : w_.cell? ⟨w1.heap.size, 0, none⟩ = some (.int .i64 B) := hSw.1.cell 0; have c1 : w_.cell? ⟨w1.heap.size, 1, none⟩ = some (.int .i64 C) := hSw.1.cell 1; have c2 : w_.cell? ⟨w1.heap.size, 2, none⟩ = some (.int .i64 P) := hSw.1.cell 2; have c3 : w_.cell? ⟨w1.heap.size, 3, none⟩ = some (.slice A n c) := hSw.1.cell 3; go_simp⟩) (by assumption) ?_
  try simp only [Act.put, List.setIfInBounds_toArray, List.set_cons_zero, List.set_cons_succ]
  refine take_at (i := 1) 18 (v := .agg #[.int .i64 B, .int .i64 C, .int .i64 P, .slice A n c]) rfl rfl (by kernel_rfl) (by kernel_rfl) (by kernel_rfl) (fun _ _ _ h => h) (Or.inl ⟨by rfl, by intro w_ hSw; have c0 : w_.cell? ⟨w1.heap.size, 0, none⟩ = some (.int .i64 B) := hSw.1.cell 0; have c1 : w_.cell? ⟨w1.heap.size, 1, none⟩ = some (.int .i64 C) := hSw.1.cell 1; have c2 : w_.cell? ⟨w1.heap.size, 2, none⟩ = some (.int .i64 P) := hSw.1.cell 2; have c3 : w_.cell? ⟨w1.heap.size, 3, none⟩ = some (.slice A n c) := hSw.1.cell 3; go_simp⟩) (by assumption) ?_
  try simp only [Act.put, List.setIfInBounds_toArray, List.set_cons_zero, List.set_cons_succ]
  refine take_at (i := 2) 19 (v := .agg #[strV nm, .int .i64 kd, .int .i64 pr, .int .i64 wt, .int .i64 pw, .int .i64 le, .int .i64 bu, .int .i64 ra, .int .i64 de]) rfl rfl (by kernel_rfl) (by kernel_rfl) (by kernel_rfl) (fun _ _ _ h => h) (Or.inl ⟨by rfl, by intro w_ hSw; have c0 : w_.cell? ⟨w.heap.size + 1, 0, none⟩ = some (strV nm) := hSw.2.cell 0; have c1 : w_.cell? ⟨w.heap.size + 1, 1, none⟩ = some (.int .i64 kd) := hSw.2.cell 1; have c2 : w_.cell? ⟨w.heap.size + 1, 2, none⟩ = some (.int .i64 pr) := hSw.2.cell 2; have c3 : w_.cell? ⟨w.heap.size + 1, 3, none⟩ = some (.int .i64 wt) := hSw.2.cell 3; have c4 : w_.cell? ⟨w.heap.size + 1, 4, none⟩ = some (.int .i64 pw) := hSw.2.cell 4; have c5 : w_.cell? ⟨w.heap.size + 1, 5, none⟩ = some (.int .i64 le) := hSw.2.cell 5; have c6 : w_.cell? ⟨w.heap.size + 1, 6, none⟩ = some (.int .i64 bu) := hSw.2.cell 6; have c7 : w_.cell? ⟨w.heap.size + 1, 7, none⟩ = some (.int .i64 ra) := hSw.2.cell 7; have c8 : w_.cell? ⟨w.heap.size + 1, 8, none⟩ = some (.int .i64 de) := hSw.2.cell 8; go_simp⟩) (by assumption) ?_
  try simp only [Act.put, List.setIfInBounds_toArray, List.set_cons_zero, List.set_cons_succ]
  replace HT := hide (HT.out.drewN 1)
  refine wpAnyH_ready (rs := [3]) (by kernel_rfl) (by simp) ?_
  refine AllReadyH.cons rfl (fun K hK => ?_) AllReadyH.nil
  go_simp
  go_at_call 27
  refine (HBE.out _ HT.out.now.1.1.2).mono ?_
  rintro e w2 ⟨rfl, hb⟩
  replace HT := hide (HT.out.step hb)
  clear hb
  try simp only []
  refine hK.out _ _ ⟨HT.out.now.2, HT.out.now.1.1.1.1.2⟩ (fun hHeld => ?_)
  clear hK K
  try simp only [Act.put, List.setIfInBounds_toArray, List.set_cons_zero, List.set_cons_succ]
  refine wpAnyH_ready (rs := [4]) (by kernel_rfl) (by simp) ?_
  refine AllReadyH.cons rfl (fun K hK => ?_) AllReadyH.nil
  refine step_store_rowF rfl 74 _ _ rfl (w.heap.size + 2) #[.int .i64 B, .int .i64 C, .int .i64 P, .slice A n c] rfl rfl 74 #[.int .i64 0, .int .i64 0, .int .i64 0, .slice none 0 0] HT.out.now.1.1.1.2 (by kernel_rfl) rfl (by simp [Value.oneCell']) ?_
  have HX := hide (HT.out.now.1.1.1.2.row #[.int .i64 B, .int .i64 C, .int .i64 P, .slice A n c])
  refine hK.out _ _ ⟨HT.out.now.2.rowFar (by omega) _, HT.out.now.1.1.1.1.2.rowFar (by omega) _⟩ (fun hHeld => ?_)
  clear hK K
  try simp only [Act.put, List.setIfInBounds_toArray]
  refine take_at (i := 5) 5 (v := .int .i64 0) rfl rfl (by kernel_rfl) (by kernel_rfl) (by kernel_rfl) (fun _ _ _ h => h) (Or.inl ⟨by rfl, by intro w hSw; go_simp⟩) (by assumption) ?_
  try simp only [Act.put]
  refine wpAnyH_done (by kernel_rfl) ?_ _
  clear hHeld
  have HB := hide (Below.row (g := w.heap.size + 2) HT.out.now.1.2 (by omega) #[.int .i64 B, .int .i64 C, .int .i64 P, .slice A n c])
  clear HT HOP HBE hg2
  obtain ⟨W5, hW5⟩ : ∃ W5, w2.setRow (w.heap.size + 2) #[.int .i64 B, .int .i64 C, .int .i64 P, .slice A n c] = W5 := ⟨_, rfl⟩
  rw [hW5] at HX HB ⊢
  clear hW5
  go_wp2
  refine bodyPost_ret (v := .tuple #[.agg #[.int .i64 B, .int .i64 C, .int .i64 P, .slice A n c], .int .i64 0]) ?_ rfl ⟨rfl, HB.out⟩
  have y0 : W5.cell? ⟨w.heap.size + 2, 0, none⟩ = some (.int .i64 B) := HX.out.cell 0
  have y1 : W5.cell? ⟨w.heap.size + 2, 1, none⟩ = some (.int .i64 C) := HX.out.cell 1
  have y2 : W5.cell? ⟨w.heap.size + 2, 2, none⟩ = some (.int .i64 P) := HX.out.cell 2
  have y3 : W5.cell? ⟨w.heap.size + 2, 3, none⟩ = some (.slice A n c) := HX.out.cell 3
  simp [results, Try.results39, go_sem, y0, y1, y2, y3]
end Go.Proofs.Ytppkibgemacdbaa
