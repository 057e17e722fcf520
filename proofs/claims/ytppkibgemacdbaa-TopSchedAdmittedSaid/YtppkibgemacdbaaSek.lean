import Derived.Test.YtppkibgemacdbaaSej
namespace Go.Proofs.Ytppkibgemacdbaa
open Go.RowKit Go.WideShapes Go.ChangeShapes

/-! the examples of the chapter -/
def SharesR (w : World) (e : Ending) (w' : World) : Prop := ∃ G c, e = .returned (.tuple #[.agg #[.int .i64 3, .slice (some ⟨G, 0, none⟩) 3 c], .int .i64 0]) ∧ w'.cell? ⟨G, 0, none⟩ = some (.int .i64 6) ∧ w'.cell? ⟨G, 1, none⟩ = some (.int .i64 8) ∧ w'.cell? ⟨G, 2, none⟩ = some (.int .i64 16) ∧ Below w.heap.size w w'
set_option maxRecDepth 100000 in
set_option maxHeartbeats 8000000 in
theorem sharesOf_ex (p q : Nat) (w : World) (hp : Blk w p 3 #[.int .i64 2, .int .i64 10, .int .i64 10]) (hq : Blk w q 3 #[.int .i64 1, .int .i64 1, .int .i64 2]) :
    Calls Try.prog 21 #[.agg #[.int .i64 10, .slice (some ⟨p, 0, none⟩) 3 3, .slice (some ⟨q, 0, none⟩) 3 3]] w (SharesR w) := by
  have HD := hide (fun W k1 k2 => demandErr_ex p q W k1 k2)
  have HF := hide (fun W k1 k2 => fair_ex p q W k1 k2)
  have HT := hide ((((stay_blk (Blk.new w 69 #[.int .i64 10, .slice (some ⟨p, 0, none⟩) 3 3, .slice (some ⟨q, 0, none⟩) 3 3])).alloc (.cells #[.int .i64 0, .slice none 0 0] 65)).and ((stay_blk (blk_up w 69 65 #[.int .i64 10, .slice (some ⟨p, 0, none⟩) 3 3, .slice (some ⟨q, 0, none⟩) 3 3] #[.int .i64 0, .slice none 0 0]))) |>.and (((stay_blk hp).alloc (.cells #[.int .i64 10, .slice (some ⟨p, 0, none⟩) 3 3, .slice (some ⟨q, 0, none⟩) 3 3] 69)).alloc (.cells #[.int .i64 0, .slice none 0 0] 65)) |>.and (((stay_blk hq).alloc (.cells #[.int .i64 10, .slice (some ⟨p, 0, none⟩) 3 3, .slice (some ⟨q, 0, none⟩) 3 3] 69)).alloc (.cells #[.int .i64 0, .slice none 0 0] 65))) |>.and (stay_below (((Below.refl _ w).alloc (Nat.le_refl _) (.cells #[.int .i64 10, .slice (some ⟨p, 0, none⟩) 3 3, .slice (some ⟨q, 0, none⟩) 3 3] 69)).alloc (by simp) (.cells #[.int .i64 0, .slice none 0 0] 65))))
  clear hp hq
  go_enter Try.func21, Try.ntmps21
  obtain ⟨W0, hW0⟩ : ∃ W0, (w.alloc (.cells #[.int .i64 10, .slice (some ⟨p, 0, none⟩) 3 3, .slice (some ⟨q, 0, none⟩) 3 3] 69)).alloc (.cells #[.int .i64 0, .slice none 0 0] 65) = W0 := ⟨_, rfl⟩
  rw [hW0] at HT
  have q0 : W0.cell? ⟨w.heap.size, 0, none⟩ = some (.int .i64 10) := HT.out.now.1.1.1.1.cell 0
  have q1 : W0.cell? ⟨w.heap.size, 1, none⟩ = some (.slice (some ⟨p, 0, none⟩) 3 3) := HT.out.now.1.1.1.1.cell 1
  have q2 : W0.cell? ⟨w.heap.size, 2, none⟩ = some (.slice (some ⟨q, 0, none⟩) 3 3) := HT.out.now.1.1.1.1.cell 2
  go_wp2_with (first
    | (go_at_call 43; go_must (refine (HD.out _ HT.out.now.1.1.2 HT.out.now.1.2).mono ?_; rintro e w1 ⟨rfl, hb⟩; replace HT := hide (HT.out.step hb); clear hb hW0 q0 q1 q2; have q0 : w1.cell? ⟨w.heap.size, 0, none⟩ = some (.int .i64 10) := HT.out.now.1.1.1.1.cell 0; have q1 : w1.cell? ⟨w.heap.size, 1, none⟩ = some (.slice (some ⟨p, 0, none⟩) 3 3) := HT.out.now.1.1.1.1.cell 1; have q2 : w1.cell? ⟨w.heap.size, 2, none⟩ = some (.slice (some ⟨q, 0, none⟩) 3 3) := HT.out.now.1.1.1.1.cell 2; simp only []))
    | (go_at_call 44; go_must (refine (HF.out _ HT.out.now.1.1.2 HT.out.now.1.2).mono ?_; rintro e w2 ⟨G, c, rfl, hg0, hg1, hg2, hb⟩; replace HT := hide (HT.out.step hb |>.and ((stay_at hg0).and (stay_at hg1) |>.and (stay_at hg2))); clear hb q0 q1 q2 hg0 hg1 hg2; simp only []))
    | (refine wpList_store_row rfl 65 (.tmp 2) (.tmp 12) rfl (w.heap.size + 1) #[.int .i64 3, .slice (some ⟨G, 0, none⟩) 3 c] rfl rfl 65 #[.int .i64 0, .slice none 0 0] HT.out.now.1.1.1.1.2 (by kernel_rfl) rfl (by simp [Value.oneCell']) ?_))
  have hne : G ≠ w.heap.size + 1 := by
    intro e
    have h1 := HT.out.now.2.1.1
    have h2 : w2.cell? ⟨w.heap.size + 1, 0, none⟩ = some (.int .i64 0) := HT.out.now.1.1.1.1.2.cell 0
    rw [e, h2] at h1
    simp at h1
  have far : ∀ i v cs, w2.cell? ⟨G, i, none⟩ = some v → (w2.setRow (w.heap.size + 1) cs).cell? ⟨G, i, none⟩ = some v := fun i v cs h => by
    rw [← h]
    unfold World.cell?
    rw [setRow_other w2 (w.heap.size + 1) G cs hne]
  exact bodyPost_ret (results_row_tmp rfl _ _ (w.heap.size + 1) 65 #[.int .i64 3, .slice (some ⟨G, 0, none⟩) 3 c] _ (.int .i64 0) rfl rfl (HT.out.now.1.1.1.1.2.row _) Try.underlying65 rfl (by kernel_rfl)) rfl ⟨G, c, rfl, far _ _ _ HT.out.now.2.1.1, far _ _ _ HT.out.now.2.1.2, far _ _ _ HT.out.now.2.2, Below.row HT.out.now.1.2 (by omega) _⟩
theorem sl_three {w : World} {g : Nat} {a b c : Int} (h0 : w.cell? ⟨g, 0, none⟩ = some (.int .i64 a)) (h1 : w.cell? ⟨g, 1, none⟩ = some (.int .i64 b)) (h2 : w.cell? ⟨g, 2, none⟩ = some (.int .i64 c)) : Sl w (some ⟨g, 0, none⟩) (iv [a, b, c]) := fun k hk => by
  have hk : k < 3 := hk
  rcases (by omega : k = 0 ∨ k = 1 ∨ k = 2) with rfl | rfl | rfl
  · exact ⟨g, 0, rfl, h0⟩
  · exact ⟨g, 0, rfl, h1⟩
  · exact ⟨g, 0, rfl, h2⟩
set_option maxRecDepth 100000 in
set_option maxHeartbeats 8000000 in
theorem same_ex (G H c d : Nat) (w : World) (h0 : w.cell? ⟨G, 0, none⟩ = some (.int .i64 6)) (h1 : w.cell? ⟨G, 1, none⟩ = some (.int .i64 8)) (h2 : w.cell? ⟨G, 2, none⟩ = some (.int .i64 16)) (k0 : w.cell? ⟨H, 0, none⟩ = some (.int .i64 6)) (k1 : w.cell? ⟨H, 1, none⟩ = some (.int .i64 8)) (k2 : w.cell? ⟨H, 2, none⟩ = some (.int .i64 16)) :
    Calls Try.prog 22 #[.agg #[.int .i64 3, .slice (some ⟨G, 0, none⟩) 3 c], .agg #[.int .i64 3, .slice (some ⟨H, 0, none⟩) 3 d]] w fun e w' => e = .returned (.bool true) ∧ Below w.heap.size w w' := by
  have HI := hide (fun W k k' => ints_base (some ⟨G, 0, none⟩) (some ⟨H, 0, none⟩) c d [6, 8, 16] [6, 8, 16] W k k' (by simp) (by simp))
  have HT := hide (((((stay_sl (sl_three h0 h1 h2)).alloc (.cells #[.int .i64 3, .slice (some ⟨G, 0, none⟩) 3 c] 65)).alloc (.cells #[.int .i64 3, .slice (some ⟨H, 0, none⟩) 3 d] 65)).and (((stay_sl (sl_three k0 k1 k2)).alloc (.cells #[.int .i64 3, .slice (some ⟨G, 0, none⟩) 3 c] 65)).alloc (.cells #[.int .i64 3, .slice (some ⟨H, 0, none⟩) 3 d] 65))).and (((stay_blk (Blk.new w 65 #[.int .i64 3, .slice (some ⟨G, 0, none⟩) 3 c])).alloc (.cells #[.int .i64 3, .slice (some ⟨H, 0, none⟩) 3 d] 65)).and (stay_blk (blk_up w 65 65 #[.int .i64 3, .slice (some ⟨G, 0, none⟩) 3 c] #[.int .i64 3, .slice (some ⟨H, 0, none⟩) 3 d]))) |>.and (stay_below (((Below.refl _ w).alloc (Nat.le_refl _) (.cells #[.int .i64 3, .slice (some ⟨G, 0, none⟩) 3 c] 65)).alloc (by simp) (.cells #[.int .i64 3, .slice (some ⟨H, 0, none⟩) 3 d] 65))))
  clear h0 h1 h2 k0 k1 k2
  go_enter Try.func22, Try.ntmps22
  obtain ⟨W0, hW0⟩ : ∃ W0, (w.alloc (.cells #[.int .i64 3, .slice (some ⟨G, 0, none⟩) 3 c] 65)).alloc (.cells #[.int .i64 3, .slice (some ⟨H, 0, none⟩) 3 d] 65) = W0 := ⟨_, rfl⟩
  rw [hW0] at HT
  have a0 : W0.cell? ⟨w.heap.size, 0, none⟩ = some (.int .i64 3) := HT.out.now.1.2.1.cell 0
  have a1 : W0.cell? ⟨w.heap.size, 1, none⟩ = some (.slice (some ⟨G, 0, none⟩) 3 c) := HT.out.now.1.2.1.cell 1
  have b0 : W0.cell? ⟨w.heap.size + 1, 0, none⟩ = some (.int .i64 3) := HT.out.now.1.2.2.cell 0
  have b1 : W0.cell? ⟨w.heap.size + 1, 1, none⟩ = some (.slice (some ⟨H, 0, none⟩) 3 d) := HT.out.now.1.2.2.cell 1
  go_wp2_with (go_at_call 45; go_must (refine (HI.out _ HT.out.now.1.1.1 HT.out.now.1.1.2).mono ?_; rintro e w1 ⟨rfl, k, rfl⟩; replace HT := hide (HT.out.drewN k); rw [show intsEq [6, 8, 16] [6, 8, 16] = true by decide]; simp only []))
  go_ret
  exact ⟨rfl, HT.out.now.2⟩
set_option maxRecDepth 100000 in
set_option maxHeartbeats 8000000 in
theorem site_ex (w : World) : Calls Try.prog 19 #[] w fun e w' => ∃ g, e = .returned (.agg #[.int .i64 10, .int .i64 3, .int .i64 1000, .slice (some ⟨g, 0, none⟩) 4 4]) ∧ Blk w' g 3 #[.int .i64 0, .int .i64 10, .int .i64 20, .int .i64 40] ∧ Below w.heap.size w w' := by
  go_enter Try.func19, Try.ntmps19
  go_wp2_with fail
  have HB := (Blk.new w 24 #[.int .i64 10, .int .i64 3, .int .i64 1000, .slice (some ⟨w.heap.size + 1, 0, none⟩) 4 4]).alloc (.cells #[.int .i64 0, .int .i64 10, .int .i64 20, .int .i64 40] 3)
  refine bodyPost_ret (v := .agg #[.int .i64 10, .int .i64 3, .int .i64 1000, .slice (some ⟨w.heap.size + 1, 0, none⟩) 4 4]) ?_ rfl ⟨w.heap.size + 1, rfl, blk_up w 24 3 #[.int .i64 10, .int .i64 3, .int .i64 1000, .slice (some ⟨w.heap.size + 1, 0, none⟩) 4 4] #[.int .i64 0, .int .i64 10, .int .i64 20, .int .i64 40], ((Below.refl _ w).alloc (Nat.le_refl _) (.cells #[.int .i64 10, .int .i64 3, .int .i64 1000, .slice (some ⟨w.heap.size + 1, 0, none⟩) 4 4] 24)).alloc (by simp) (.cells #[.int .i64 0, .int .i64 10, .int .i64 20, .int .i64 40] 3)⟩
  have y0 := HB.cell 0
  have y1 := HB.cell 1
  have y2 := HB.cell 2
  have y3 := HB.cell 3
  simp [results, Try.results19, go_sem, y0, y1, y2, y3]
set_option maxRecDepth 100000 in
set_option maxHeartbeats 8000000 in
theorem voice_ex (w : World) : Calls Try.prog 20 #[] w fun e w' => e = .returned (.agg #[strV [118], .int .i64 1, .int .i64 1, .int .i64 1, .int .i64 20, .int .i64 1, .int .i64 100, .int .i64 20, .int .i64 4]) ∧ Below w.heap.size w w' := by
  go_enter Try.func20, Try.ntmps20
  have HB := Blk.new w 32 #[.string ⟨#[]⟩, .int .i64 0, .int .i64 0, .int .i64 0, .int .i64 0, .int .i64 0, .int .i64 0, .int .i64 0, .int .i64 0]
  go_wp2_with (refine wpList_store_row rfl 32 (.tmp 0) (.tmp 1) rfl w.heap.size #[strV [118], .int .i64 1, .int .i64 1, .int .i64 1, .int .i64 20, .int .i64 1, .int .i64 100, .int .i64 20, .int .i64 4] rfl rfl 32 #[.string ⟨#[]⟩, .int .i64 0, .int .i64 0, .int .i64 0, .int .i64 0, .int .i64 0, .int .i64 0, .int .i64 0, .int .i64 0] HB (by kernel_rfl) rfl (by simp [Value.oneCell', strV]) ?_)
  have HZ := HB.row #[strV [118], .int .i64 1, .int .i64 1, .int .i64 1, .int .i64 20, .int .i64 1, .int .i64 100, .int .i64 20, .int .i64 4]
  refine bodyPost_ret (v := .agg #[strV [118], .int .i64 1, .int .i64 1, .int .i64 1, .int .i64 20, .int .i64 1, .int .i64 100, .int .i64 20, .int .i64 4]) ?_ rfl ⟨rfl, Below.row ((Below.refl _ w).alloc (Nat.le_refl _) (.cells #[.string ⟨#[]⟩, .int .i64 0, .int .i64 0, .int .i64 0, .int .i64 0, .int .i64 0, .int .i64 0, .int .i64 0, .int .i64 0] 32)) (Nat.le_refl _) _⟩
  have y0 : _ = some (strV [118]) := HZ.cell 0
  have y1 := HZ.cell 1
  have y2 := HZ.cell 2
  have y3 := HZ.cell 3
  have y4 := HZ.cell 4
  have y5 := HZ.cell 5
  have y6 := HZ.cell 6
  have y7 := HZ.cell 7
  have y8 := HZ.cell 8
  simp [results, Try.results20, go_sem, y0, y1, y2, y3, y4, y5, y6, y7, y8]
theorem okS_ex : OkS 10 3 1000 [0, 10, 20, 40] := ⟨by omega, by omega, by omega, by simp, by simp, by decide, fun i h => by have h : i + 1 < 4 := h; rcases (by omega : i = 0 ∨ i = 1 ∨ i = 2) with rfl | rfl | rfl <;> simp⟩
theorem okB_ex : OkB [0, 10, 20, 40] [118] 1 1 1 20 1 100 20 4 := ⟨⟨by simp, by simp, by decide⟩, by omega, by omega, by omega, by omega, by omega, by intro _; simp⟩
set_option maxRecDepth 100000 in
set_option maxHeartbeats 8000000 in
theorem scheduled_ok (w : World) : Calls Try.prog 5 #[] w fun e w' => e = .returned (.bool true) ∧ Below w.heap.size w w' := by
  have HN := hide (fun W g k => NeedOf_ok 10 3 1000 (some ⟨g, 0, none⟩) 4 4 [0, 10, 20, 40] [118] 1 1 1 20 1 100 20 4 W rfl k okS_ex okB_ex (by decide))
  rw [show needB 20 100 4 (tbO [0, 10, 20, 40] 1) = 3 by decide] at HN
  have HSI := hide site_ex
  have HVO := hide voice_ex
  go_enter Try.func5, Try.ntmps5
  go_wp2_with (first
    | (go_at_call 19; go_must (refine (HSI.out _).mono ?_; rintro e w1 ⟨g, rfl, hg, hb⟩; have HB := hide hb; have HS := hide (stay_sl (show Sl w1 (some ⟨g, 0, none⟩) (iv [0, 10, 20, 40]) from fun k hk => ⟨g, 0, rfl, by rw [Nat.zero_add, hg.cell]; have hk : k < 4 := hk; rcases (by omega : k = 0 ∨ k = 1 ∨ k = 2 ∨ k = 3) with rfl | rfl | rfl | rfl <;> rfl⟩)); clear hg hb; simp only []))
    | (go_at_call 20; go_must (refine (HVO.out _).mono ?_; rintro e w2 ⟨rfl, hb⟩; replace HS := hide (HS.out.step hb); replace HB := hide (Below.step HB.out hb); clear hb; simp only []))
    | (go_at_call 16; go_must (refine (HN.out _ g HS.out.now).mono ?_; rintro e w3 ⟨rfl, hb⟩; replace HB := hide (Below.step HB.out hb); clear hb HS; simp only []))
    | (go_at_call 21; go_must (refine (sharesOf_ex (w3.heap.size + 1) (w3.heap.size + 1 + 1) _ ((blk_up w3 51 3 #[.int .i64 3, .int .i64 1, .int .i64 60] #[.int .i64 2, .int .i64 10, .int .i64 10]).alloc (.cells #[.int .i64 1, .int .i64 1, .int .i64 2] 3)) (blk_up2 w3 51 3 3 #[.int .i64 3, .int .i64 1, .int .i64 60] #[.int .i64 2, .int .i64 10, .int .i64 10] #[.int .i64 1, .int .i64 1, .int .i64 2])).mono ?_; rintro e w4 ⟨G, c, rfl, hg0, hg1, hg2, hb⟩; have hlt : w3.heap.size < w4.heap.size := Nat.lt_of_lt_of_le (by simp only [World.size_alloc]; omega) hb.size; replace HB := hide (Below.step (((HB.out.alloc HB.out.size (.cells #[.int .i64 3, .int .i64 1, .int .i64 60] 51)).alloc (Nat.le_trans HB.out.size (by simp)) (.cells #[.int .i64 2, .int .i64 10, .int .i64 10] 3)).alloc (Nat.le_trans HB.out.size (by simp; omega)) (.cells #[.int .i64 1, .int .i64 1, .int .i64 2] 3)) hb); have HNB := hide (Blk.below (((Blk.new w3 51 #[.int .i64 3, .int .i64 1, .int .i64 60]).alloc (.cells #[.int .i64 2, .int .i64 10, .int .i64 10] 3)).alloc (.cells #[.int .i64 1, .int .i64 1, .int .i64 2] 3)) hb (by simp; omega)); have n0 : w4.cell? ⟨w3.heap.size, 0, none⟩ = some (.int .i64 3) := HNB.out.cell 0; have n1 : w4.cell? ⟨w3.heap.size, 1, none⟩ = some (.int .i64 1) := HNB.out.cell 1; have n2 : w4.cell? ⟨w3.heap.size, 2, none⟩ = some (.int .i64 60) := HNB.out.cell 2; have HG := hide ((stay_at hg0).and (stay_at hg1) |>.and (stay_at hg2)); clear hg0 hg1 hg2 hb HNB; simp only []))
    | (go_at_call 22; go_must (refine (same_ex G (w4.heap.size + 1) c 3 _ (((HG.out.alloc (.cells #[.int .i64 3, .slice (some ⟨G, 0, none⟩) 3 c] 65)).alloc (.cells #[.int .i64 6, .int .i64 8, .int .i64 16] 3)).now.1.1) (((HG.out.alloc (.cells #[.int .i64 3, .slice (some ⟨G, 0, none⟩) 3 c] 65)).alloc (.cells #[.int .i64 6, .int .i64 8, .int .i64 16] 3)).now.1.2) (((HG.out.alloc (.cells #[.int .i64 3, .slice (some ⟨G, 0, none⟩) 3 c] 65)).alloc (.cells #[.int .i64 6, .int .i64 8, .int .i64 16] 3)).now.2) ((blk_up w4 65 3 #[.int .i64 3, .slice (some ⟨G, 0, none⟩) 3 c] #[.int .i64 6, .int .i64 8, .int .i64 16]).cell 0) ((blk_up w4 65 3 #[.int .i64 3, .slice (some ⟨G, 0, none⟩) 3 c] #[.int .i64 6, .int .i64 8, .int .i64 16]).cell 1) ((blk_up w4 65 3 #[.int .i64 3, .slice (some ⟨G, 0, none⟩) 3 c] #[.int .i64 6, .int .i64 8, .int .i64 16]).cell 2)).mono ?_; rintro e w5 ⟨rfl, hb⟩; replace HB := hide (Below.step ((HB.out.alloc HB.out.size (.cells #[.int .i64 3, .slice (some ⟨G, 0, none⟩) 3 c] 65)).alloc (Nat.le_trans HB.out.size (by simp)) (.cells #[.int .i64 6, .int .i64 8, .int .i64 16] 3)) hb); clear hb; simp only [])))
  go_ret
  exact ⟨rfl, HB.out⟩
end Go.Proofs.Ytppkibgemacdbaa
