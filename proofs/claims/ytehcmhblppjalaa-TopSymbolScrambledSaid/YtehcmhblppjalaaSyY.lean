import Derived.Test.YtehcmhblppjalaaSyX
namespace Go.Proofs.Ytehcmhblppjalaa
open Go.RowKit Go.WideShapes Go.ChangeShapes

/-! the soft bits of one number of order four; the point of four bits (program) -/
set_option maxRecDepth 100000 in
theorem Soft_sy (bg cg : Nat) (w : World) (h0 : w.cell? ⟨bg, 0, none⟩ = some (.int .i64 5)) (h1 : w.cell? ⟨bg, 1, none⟩ = some (.int .i64 1)) :
    Calls Try.prog 14 #[.agg #[.int .i64 4, .int .i64 2, .slice (some ⟨bg, 0, none⟩) 1 cg]] w fun e w' => ∃ C q, e = .returned (.tuple #[.slice C 4 q, .int .i64 0]) ∧
      w'.ownsRow w.heap.size 3 1 (.slice C 4 q) 4 (iv [48, 8, -8, 24]) ∧ Below w.heap.size w w' := by
  have HG := hide (fun W (h : Below w.heap.size w W) => show W.cell? ⟨bg, 0, none⟩ = some (.int .i64 5) ∧ W.cell? ⟨bg, 1, none⟩ = some (.int .i64 1) from ⟨(h.cell (lt_of_cell h0)).trans h0, (h.cell (lt_of_cell h1)).trans h1⟩)
  have HX := hide ((stay_new w 45 #[.int .i64 4, .int .i64 2, .slice (some ⟨bg, 0, none⟩) 1 cg]).and (stay_below (show Below w.heap.size w (w.alloc (.cells #[.int .i64 4, .int .i64 2, .slice (some ⟨bg, 0, none⟩) 1 cg] 45)) from by go_grown)))
  clear h0 h1
  go_enter Try.func14, Try.ntmps14
  go_wp2_with (go_at_call 32; go_must (obtain ⟨g0, g1⟩ := HG.out _ HX.out.now.2; refine (receivedErr_sy bg cg _ g0 g1).mono ?_; rintro e w1 ⟨rfl, hb⟩; have HB := hide hb; have k0 := (HX.out w1 hb).1.cell 0; have k1 := (HX.out w1 hb).1.cell 1; have k2 := (HX.out w1 hb).1.cell 2; clear hb g0 g1))
  go_wp2_with (go_at_call 33; go_must (obtain ⟨g0, g1⟩ := HG.out _ (HX.out w1 HB.out).2; refine (judged_sy bg cg _ g0 g1).mono ?_; rintro e w2 ⟨C, q, rfl, ho, hb⟩; have HO := hide ho; have HB2 := hide hb; clear hb ho g0 g1))
  exact bodyPost_ret (results_tmp2 rfl _ _ _) rfl ⟨C, q, rfl, HO.out.weaken (HX.out w1 HB.out).2.size, Below.step (HX.out w1 HB.out).2 HB2.out⟩
/-- the array of two lists -/
def Pair2 (W : World) (base gA : Nat) (n0 n1 : Nat) (x0 x1 : List Int) : Prop :=
  ∃ C0 q0 C1 q1, Blk W gA 75 #[.slice C0 n0 q0, .slice C1 n1 q1] ∧ W.ownsRow base 3 1 (.slice C0 n0 q0) n0 (iv x0) ∧ W.ownsRow base 3 1 (.slice C1 n1 q1) n1 (iv x1) ∧ Apt (.slice C0 n0 q0) (.slice C1 n1 q1)
theorem kept_otherB {W w6 : World} {gA n0 : Nat} {v0 v1 v1' : Value} {x0 : List Value} {u : Value} (h0 : W.ownsRow gA 3 1 v0 n0 x0) (hne : Apt v0 v1)
    (hg : (W.alloc (.cells #[u] 3)).grownBy w6 v1.ownBlock) (hor : v1'.ownBlock = v1.ownBlock ∨ v1'.ownBlock = some (W.alloc (.cells #[u] 3)).heap.size) :
    w6.ownsRow gA 3 1 v0 n0 x0 ∧ Apt v0 v1' := kept_other h0 hne hg hor
set_option maxRecDepth 100000 in
set_option maxHeartbeats 8000000 in
theorem point_sy (bx cx : Nat) (w : World) (h0 : w.cell? ⟨bx, 0, none⟩ = some (.int .i64 0)) (h1 : w.cell? ⟨bx, 1, none⟩ = some (.int .i64 1)) (h2 : w.cell? ⟨bx, 2, none⟩ = some (.int .i64 1)) (h3 : w.cell? ⟨bx, 3, none⟩ = some (.int .i64 0)) :
    Calls Try.prog 31 #[.slice (some ⟨bx, 0, none⟩) 4 cx] w fun e w' => e = .returned (.agg #[.int .i64 3, .int .i64 (-1)]) ∧ Below w.heap.size w w' := by
  obtain ⟨i0, hi0, hz0, hz1, hz2⟩ := info_parts int_info
  have HG := hide (fun W (h : Below w.heap.size w W) => show W.cell? ⟨bx, 0, none⟩ = some (.int .i64 0) ∧ W.cell? ⟨bx, 1, none⟩ = some (.int .i64 1) ∧ W.cell? ⟨bx, 2, none⟩ = some (.int .i64 1) ∧ W.cell? ⟨bx, 3, none⟩ = some (.int .i64 0) from ⟨(h.cell (lt_of_cell h0)).trans h0, (h.cell (lt_of_cell h1)).trans h1, (h.cell (lt_of_cell h2)).trans h2, (h.cell (lt_of_cell h3)).trans h3⟩)
  clear h0 h1 h2 h3
  go_enter Try.func31, Try.ntmps31
  go_wp2
  obtain ⟨v, hv⟩ : ∃ W, ((w.alloc (.cells #[.int .i64 0, .int .i64 0] 43)).alloc (.cells #[.slice none 0 0, .slice none 0 0] 75)) = W := ⟨_, rfl⟩
  have HA := hide (show Blk v (w.heap.size + 1) 75 #[.slice none 0 0, .slice none 0 0] from by rw [← hv]; exact Blk.newN _ _ _ (by simp))
  have HR := hide (show Blk v w.heap.size 43 #[.int .i64 0, .int .i64 0] from by rw [← hv]; exact (Blk.new w _ _).alloc _)
  have HB := hide (show Below w.heap.size w v from by rw [← hv]; go_grown)
  have HZ := hide (show v.heap.size = w.heap.size + 2 by rw [← hv]; simp)
  rw [hv]
  clear hv
  have HP0 := hide (World.ownsRow_nil v w.heap.size 3 1)
  have HP1 := hide (World.ownsRow_nil v w.heap.size 3 1)
  have HAP := hide (show Apt (.slice none 0 0) (.slice none 0 0) from fun _ h _ => by cases h)
  refine wp_loop_rounds 5 ?_
  have HBV := HB
  simp only [rounds_succ]
  have a0 := HA.out.cell 0
  have e0 := (HG.out v HBV.out).1
  have hb0 : w.heap.size ≤ (v.alloc (.cells #[.int .i64 0] 3)).heap.size := (HBV.out.alloc HBV.out.size (.cells #[.int .i64 0] 3)).size
  go_wp2_with (at_builtin
               refine wpList_append_any _ rfl (.tmp 18) (.tmp 20) 22 rfl w.heap.size 3 i0 _ 1 8 Try.underlying22 hi0 hz0 hz1 hz2 rfl (by decide) (.slice none 0 0) 0 [] rfl (HP0.out.alloc (.cells #[.int .i64 0] 3)) (v.heap.size + 1) (some ⟨v.heap.size, 0, none⟩) 1 1 [.int .i64 0] rfl (reads_one v (.int .i64 0) 3) (by simp [Value.oneCell']) (by decide) (by decide) hb0 ?_
               intro v' w6 hown hgr hor
               obtain ⟨C0, q0, rfl⟩ := own_form hown
               have HA6 := hide ((HA.out.alloc (.cells #[.int .i64 0] 3)).grown hgr (fun e => own_blk_ne (HP0.out.alloc (.cells #[.int .i64 0] 3)) (HA.out.alloc (.cells #[.int .i64 0] 3)) (by decide) e.symm))
               have HRa := hide ((HR.out.alloc (.cells #[.int .i64 0] 3)).grown hgr (fun e => own_blk_ne (HP0.out.alloc (.cells #[.int .i64 0] 3)) (HR.out.alloc (.cells #[.int .i64 0] 3)) (by decide) e.symm))
               have c6 := HA6.out.cell 0
               have f6 := HA6.out.frozen 0
               have HK := hide (kept_other HP1.out (HAP.out.symm) hgr hor)
               have HPn := hide hown
               have HB6 := hide (Below.app HBV.out HP0.out hgr)
               clear hown hgr hor)
  clear a0 e0 c6 f6 hb0
  obtain ⟨v1, hw⟩ : ∃ W, w6.setCell ⟨w.heap.size + 1, 0, none⟩ (.slice C0 1 q0) = W := ⟨_, rfl⟩
  replace HA := hide (show Blk v1 (w.heap.size + 1) 75 #[.slice C0 1 q0, .slice none 0 0] from by rw [← hw]; exact HA6.out.set_ 0 _)
  replace HR := hide (show Blk v1 w.heap.size 43 #[.int .i64 0, .int .i64 0] from by rw [← hw]; exact HRa.out.far (p := ⟨w.heap.size + 1, 0, none⟩) (by show w.heap.size ≠ w.heap.size + 1; omega) _)
  replace HBV := hide (show Below w.heap.size w v1 from by rw [← hw]; exact HB6.out.setCell (p := ⟨w.heap.size + 1, 0, none⟩) (by show w.heap.size ≤ w.heap.size + 1; omega) _)
  replace HP0 := hide (show v1.ownsRow w.heap.size 3 1 (.slice C0 1 q0) 1 [.int .i64 0] from by rw [← hw]; exact own_far HPn.out HA6.out (by decide))
  replace HP1 := hide (show v1.ownsRow w.heap.size 3 1 (.slice none 0 0) 0 [] from by rw [← hw]; exact own_far HK.out.1 HA6.out (by decide))
  replace HAP := hide (show Apt (.slice C0 1 q0) (.slice none 0 0) from HK.out.2.symm)
  clear HA6 HRa HK HPn HB6
  rw [show w6.setCell ⟨w.heap.size + 1, 0, none⟩ (.slice C0 1 q0) = v1 from hw]
  clear hw
  simp only [rounds_succ]
  have a0 := HA.out.cell 1
  have e0 := (HG.out v1 HBV.out).2.1
  have hb0 : w.heap.size ≤ (v1.alloc (.cells #[.int .i64 1] 3)).heap.size := (HBV.out.alloc HBV.out.size (.cells #[.int .i64 1] 3)).size
  go_wp2_with (at_builtin
               refine wpList_append_any _ rfl (.tmp 18) (.tmp 20) 22 rfl w.heap.size 3 i0 _ 1 8 Try.underlying22 hi0 hz0 hz1 hz2 rfl (by decide) (.slice none 0 0) 0 [] rfl (HP1.out.alloc (.cells #[.int .i64 1] 3)) (v1.heap.size + 1) (some ⟨v1.heap.size, 0, none⟩) 1 1 [.int .i64 1] rfl (reads_one v1 (.int .i64 1) 3) (by simp [Value.oneCell']) (by decide) (by decide) hb0 ?_
               intro v' w6 hown hgr hor
               obtain ⟨C1, q1, rfl⟩ := own_form hown
               have HA6 := hide ((HA.out.alloc (.cells #[.int .i64 1] 3)).grown hgr (fun e => own_blk_ne (HP1.out.alloc (.cells #[.int .i64 1] 3)) (HA.out.alloc (.cells #[.int .i64 1] 3)) (by decide) e.symm))
               have HRa := hide ((HR.out.alloc (.cells #[.int .i64 1] 3)).grown hgr (fun e => own_blk_ne (HP1.out.alloc (.cells #[.int .i64 1] 3)) (HR.out.alloc (.cells #[.int .i64 1] 3)) (by decide) e.symm))
               have c6 := HA6.out.cell 1
               have f6 := HA6.out.frozen 1
               have HK := hide (kept_other HP0.out (HAP.out) hgr hor)
               have HPn := hide hown
               have HB6 := hide (Below.app HBV.out HP1.out hgr)
               clear hown hgr hor)
  clear a0 e0 c6 f6 hb0
  obtain ⟨v2, hw⟩ : ∃ W, w6.setCell ⟨w.heap.size + 1, 1, none⟩ (.slice C1 1 q1) = W := ⟨_, rfl⟩
  replace HA := hide (show Blk v2 (w.heap.size + 1) 75 #[.slice C0 1 q0, .slice C1 1 q1] from by rw [← hw]; exact HA6.out.set_ 1 _)
  replace HR := hide (show Blk v2 w.heap.size 43 #[.int .i64 0, .int .i64 0] from by rw [← hw]; exact HRa.out.far (p := ⟨w.heap.size + 1, 1, none⟩) (by show w.heap.size ≠ w.heap.size + 1; omega) _)
  replace HBV := hide (show Below w.heap.size w v2 from by rw [← hw]; exact HB6.out.setCell (p := ⟨w.heap.size + 1, 1, none⟩) (by show w.heap.size ≤ w.heap.size + 1; omega) _)
  replace HP1 := hide (show v2.ownsRow w.heap.size 3 1 (.slice C1 1 q1) 1 [.int .i64 1] from by rw [← hw]; exact own_far HPn.out HA6.out (by decide))
  replace HP0 := hide (show v2.ownsRow w.heap.size 3 1 (.slice C0 1 q0) 1 [.int .i64 0] from by rw [← hw]; exact own_far HK.out.1 HA6.out (by decide))
  replace HAP := hide (show Apt (.slice C0 1 q0) (.slice C1 1 q1) from HK.out.2)
  clear HA6 HRa HK HPn HB6
  rw [show w6.setCell ⟨w.heap.size + 1, 1, none⟩ (.slice C1 1 q1) = v2 from hw]
  clear hw
  simp only [rounds_succ]
  have a0 := HA.out.cell 0
  have e0 := (HG.out v2 HBV.out).2.2.1
  have hb0 : w.heap.size ≤ (v2.alloc (.cells #[.int .i64 1] 3)).heap.size := (HBV.out.alloc HBV.out.size (.cells #[.int .i64 1] 3)).size
  go_wp2_with (at_builtin
               refine wpList_append_any _ rfl (.tmp 18) (.tmp 20) 22 rfl w.heap.size 3 i0 _ 1 8 Try.underlying22 hi0 hz0 hz1 hz2 rfl (by decide) (.slice C0 1 q0) 1 [.int .i64 0] rfl (HP0.out.alloc (.cells #[.int .i64 1] 3)) (v2.heap.size + 1) (some ⟨v2.heap.size, 0, none⟩) 1 1 [.int .i64 1] rfl (reads_one v2 (.int .i64 1) 3) (by simp [Value.oneCell']) (by decide) (by decide) hb0 ?_
               intro v' w6 hown hgr hor
               obtain ⟨C2, q2, rfl⟩ := own_form hown
               have HA6 := hide ((HA.out.alloc (.cells #[.int .i64 1] 3)).grown hgr (fun e => own_blk_ne (HP0.out.alloc (.cells #[.int .i64 1] 3)) (HA.out.alloc (.cells #[.int .i64 1] 3)) (by decide) e.symm))
               have HRa := hide ((HR.out.alloc (.cells #[.int .i64 1] 3)).grown hgr (fun e => own_blk_ne (HP0.out.alloc (.cells #[.int .i64 1] 3)) (HR.out.alloc (.cells #[.int .i64 1] 3)) (by decide) e.symm))
               have c6 := HA6.out.cell 0
               have f6 := HA6.out.frozen 0
               have HK := hide (kept_other HP1.out (HAP.out.symm) hgr hor)
               have HPn := hide hown
               have HB6 := hide (Below.app HBV.out HP0.out hgr)
               clear hown hgr hor)
  clear a0 e0 c6 f6 hb0
  obtain ⟨v3, hw⟩ : ∃ W, w6.setCell ⟨w.heap.size + 1, 0, none⟩ (.slice C2 2 q2) = W := ⟨_, rfl⟩
  replace HA := hide (show Blk v3 (w.heap.size + 1) 75 #[.slice C2 2 q2, .slice C1 1 q1] from by rw [← hw]; exact HA6.out.set_ 0 _)
  replace HR := hide (show Blk v3 w.heap.size 43 #[.int .i64 0, .int .i64 0] from by rw [← hw]; exact HRa.out.far (p := ⟨w.heap.size + 1, 0, none⟩) (by show w.heap.size ≠ w.heap.size + 1; omega) _)
  replace HBV := hide (show Below w.heap.size w v3 from by rw [← hw]; exact HB6.out.setCell (p := ⟨w.heap.size + 1, 0, none⟩) (by show w.heap.size ≤ w.heap.size + 1; omega) _)
  replace HP0 := hide (show v3.ownsRow w.heap.size 3 1 (.slice C2 2 q2) 2 [.int .i64 0, .int .i64 1] from by rw [← hw]; exact own_far HPn.out HA6.out (by decide))
  replace HP1 := hide (show v3.ownsRow w.heap.size 3 1 (.slice C1 1 q1) 1 [.int .i64 1] from by rw [← hw]; exact own_far HK.out.1 HA6.out (by decide))
  replace HAP := hide (show Apt (.slice C2 2 q2) (.slice C1 1 q1) from HK.out.2.symm)
  clear HA6 HRa HK HPn HB6
  rw [show w6.setCell ⟨w.heap.size + 1, 0, none⟩ (.slice C2 2 q2) = v3 from hw]
  clear hw
  simp only [rounds_succ]
  have a0 := HA.out.cell 1
  have e0 := (HG.out v3 HBV.out).2.2.2
  have hb0 : w.heap.size ≤ (v3.alloc (.cells #[.int .i64 0] 3)).heap.size := (HBV.out.alloc HBV.out.size (.cells #[.int .i64 0] 3)).size
  go_wp2_with (at_builtin
               refine wpList_append_any _ rfl (.tmp 18) (.tmp 20) 22 rfl w.heap.size 3 i0 _ 1 8 Try.underlying22 hi0 hz0 hz1 hz2 rfl (by decide) (.slice C1 1 q1) 1 [.int .i64 1] rfl (HP1.out.alloc (.cells #[.int .i64 0] 3)) (v3.heap.size + 1) (some ⟨v3.heap.size, 0, none⟩) 1 1 [.int .i64 0] rfl (reads_one v3 (.int .i64 0) 3) (by simp [Value.oneCell']) (by decide) (by decide) hb0 ?_
               intro v' w6 hown hgr hor
               obtain ⟨C3, q3, rfl⟩ := own_form hown
               have HA6 := hide ((HA.out.alloc (.cells #[.int .i64 0] 3)).grown hgr (fun e => own_blk_ne (HP1.out.alloc (.cells #[.int .i64 0] 3)) (HA.out.alloc (.cells #[.int .i64 0] 3)) (by decide) e.symm))
               have HRa := hide ((HR.out.alloc (.cells #[.int .i64 0] 3)).grown hgr (fun e => own_blk_ne (HP1.out.alloc (.cells #[.int .i64 0] 3)) (HR.out.alloc (.cells #[.int .i64 0] 3)) (by decide) e.symm))
               have c6 := HA6.out.cell 1
               have f6 := HA6.out.frozen 1
               have HK := hide (kept_other HP0.out (HAP.out) hgr hor)
               have HPn := hide hown
               have HB6 := hide (Below.app HBV.out HP1.out hgr)
               clear hown hgr hor)
  clear a0 e0 c6 f6 hb0
  obtain ⟨v4, hw⟩ : ∃ W, w6.setCell ⟨w.heap.size + 1, 1, none⟩ (.slice C3 2 q3) = W := ⟨_, rfl⟩
  replace HA := hide (show Blk v4 (w.heap.size + 1) 75 #[.slice C2 2 q2, .slice C3 2 q3] from by rw [← hw]; exact HA6.out.set_ 1 _)
  replace HR := hide (show Blk v4 w.heap.size 43 #[.int .i64 0, .int .i64 0] from by rw [← hw]; exact HRa.out.far (p := ⟨w.heap.size + 1, 1, none⟩) (by show w.heap.size ≠ w.heap.size + 1; omega) _)
  replace HBV := hide (show Below w.heap.size w v4 from by rw [← hw]; exact HB6.out.setCell (p := ⟨w.heap.size + 1, 1, none⟩) (by show w.heap.size ≤ w.heap.size + 1; omega) _)
  replace HP1 := hide (show v4.ownsRow w.heap.size 3 1 (.slice C3 2 q3) 2 [.int .i64 1, .int .i64 0] from by rw [← hw]; exact own_far HPn.out HA6.out (by decide))
  replace HP0 := hide (show v4.ownsRow w.heap.size 3 1 (.slice C2 2 q2) 2 [.int .i64 0, .int .i64 1] from by rw [← hw]; exact own_far HK.out.1 HA6.out (by decide))
  replace HAP := hide (show Apt (.slice C2 2 q2) (.slice C3 2 q3) from HK.out.2)
  clear HA6 HRa HK HPn HB6
  rw [show w6.setCell ⟨w.heap.size + 1, 1, none⟩ (.slice C3 2 q3) = v4 from hw]
  clear hw
  simp only [rounds_succ]
  go_wp2
  have HH := hide (show (fun W => Blk W (w.heap.size + 1) 75 #[.slice C2 2 q2, .slice C3 2 q3] ∧ Blk W w.heap.size 43 #[.int .i64 0, .int .i64 0] ∧ Below w.heap.size w W) v4.drew from ⟨HA.out, HR.out, below_drewN HBV.out 1⟩)
  have hHeld := HH.out
  refine UpTo.start (z := 7) (S := fun W => Blk W (w.heap.size + 1) 75 #[.slice C2 2 q2, .slice C3 2 q3] ∧ Blk W w.heap.size 43 #[.int .i64 0, .int .i64 0] ∧ Below w.heap.size w W) (by kernel_rfl) ?_
  refine UpTo.take (i := 0) 24 (v := .pointer (some ⟨w.heap.size + 1, 0, none⟩)) rfl rfl (by kernel_rfl) (by kernel_rfl) (by kernel_rfl) (by kernel_rfl) (fun _ _ _ h => h) hHeld (Or.inl ⟨by rfl, by intro w hSw; go_simp⟩) ?_
  try simp only [Act.put, List.setIfInBounds_toArray, List.set_cons_zero, List.set_cons_succ]
  refine UpTo.take (i := 1) 25 (v := .slice C2 2 q2) rfl rfl (by kernel_rfl) (by kernel_rfl) (by kernel_rfl) (by kernel_rfl) (fun _ _ _ h => h) hHeld (Or.inl ⟨by rfl, by intro w1 hSw; have q0 := hSw.1.cell 0; go_simp⟩) ?_
  try simp only [Act.put, List.setIfInBounds_toArray, List.set_cons_zero, List.set_cons_succ]
  refine UpTo.take (i := 3) 27 (v := .pointer (some ⟨w.heap.size + 1, 1, none⟩)) rfl rfl (by kernel_rfl) (by kernel_rfl) (by kernel_rfl) (by kernel_rfl) (fun _ _ _ h => h) hHeld (Or.inl ⟨by rfl, by intro w hSw; go_simp⟩) ?_
  try simp only [Act.put, List.setIfInBounds_toArray, List.set_cons_zero, List.set_cons_succ]
  refine UpTo.take (i := 4) 28 (v := .slice C3 2 q3) rfl rfl (by kernel_rfl) (by kernel_rfl) (by kernel_rfl) (by kernel_rfl) (fun _ _ _ h => h) hHeld (Or.inl ⟨by rfl, by intro w1 hSw; have q0 := hSw.1.cell 1; go_simp⟩) ?_
  try simp only [Act.put, List.setIfInBounds_toArray, List.set_cons_zero, List.set_cons_succ]
  have HL0 := hide (fun k => level_of _ _ 1 w.heap.size (v4.drew.drewN k) (by omega) (own_bel HP0.out (below_drewN (below_drewN (Below.refl _ _) 1) k)))
  have HL1 := hide (fun k => level_of _ _ 2 w.heap.size (v4.drew.drewN k) (by omega) (own_bel HP1.out (below_drewN (below_drewN (Below.refl _ _) 1) k)))
  obtain ⟨v5, hv5⟩ : ∃ W, v4.drew = W := ⟨_, rfl⟩
  rw [hv5] at HH hHeld HL0 HL1 ⊢
  clear hv5
  refine UpTo.next (i := 2) (by kernel_rfl) rfl (fun K hK => ?_)
  go_simp
  refine (HL0.out 0).mono ?_
  rintro e u ⟨rfl, n1, rfl⟩
  simp only []
  obtain ⟨k1, hk1⟩ := drewN2 v5 0 n1
  rw [hk1]
  refine hK.out _ _ (fun _ => ⟨HH.out.1, HH.out.2.1, below_drewN HH.out.2.2 _⟩) ?_
  clear hK K
  try simp only [Act.put, List.setIfInBounds_toArray, List.set_cons_zero, List.set_cons_succ]
  refine UpTo.next (i := 5) (by kernel_rfl) rfl (fun K hK => ?_)
  go_simp
  refine (HL1.out _).mono ?_
  rintro e u ⟨rfl, n2, rfl⟩
  simp only []
  obtain ⟨k2, hk2⟩ := drewN2 v5 k1 n2
  rw [hk2]
  refine hK.out _ _ (fun _ => ⟨HH.out.1, HH.out.2.1, below_drewN HH.out.2.2 _⟩) ?_
  clear hK K
  try simp only [Act.put, List.setIfInBounds_toArray, List.set_cons_zero, List.set_cons_succ]
  refine UpTo.next (i := 6) (by kernel_rfl) rfl (fun K hK => ?_)
  go_simp
  refine hK.out _ _ (fun _ => ⟨HH.out.1, HH.out.2.1, below_drewN HH.out.2.2 _⟩) ?_
  clear hK K
  try simp only [Act.put, List.setIfInBounds_toArray, List.set_cons_zero, List.set_cons_succ]
  have r0 := HH.out.2.1.cell 0
  have r1 := HH.out.2.1.cell 1
  have rf0 := HH.out.2.1.frozen 0
  have rf1 := HH.out.2.1.frozen 1
  refine UpTo.next (i := 7) (by kernel_rfl) rfl (fun K hK => ?_)
  go_simp
  refine hK.out _ _ (fun h => absurd rfl h) ?_
  clear hK K
  refine UpTo.done (by kernel_rfl) ?_ _
  go_wp2
  have hrow : Blk (((v5.drewN k2).setCell ⟨w.heap.size, 0, none⟩ (.int .i64 (lv2 1))).setCell ⟨w.heap.size, 1, none⟩ (.int .i64 (lv2 2))) w.heap.size 43 #[.int .i64 (lv2 1), .int .i64 (lv2 2)] := (HH.out.2.1.set_ 0 (.int .i64 (lv2 1))).set_ 1 (.int .i64 (lv2 2))
  have hbl : Below w.heap.size w (((v5.drewN k2).setCell ⟨w.heap.size, 0, none⟩ (.int .i64 (lv2 1))).setCell ⟨w.heap.size, 1, none⟩ (.int .i64 (lv2 2))) := ((below_drewN HH.out.2.2 k2).setCell (p := ⟨w.heap.size, 0, none⟩) (Nat.le_refl _) _).setCell (p := ⟨w.heap.size, 1, none⟩) (Nat.le_refl _) _
  exact bodyPost_ret (results_cell_row rfl _ _ w.heap.size 43 #[.int .i64 (lv2 1), .int .i64 (lv2 2)] (0, 0) _ rfl hrow Try.underlying43 rfl (by kernel_rfl)) rfl ⟨rfl, hbl⟩
end Go.Proofs.Ytehcmhblppjalaa
