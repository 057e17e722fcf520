import Derived.Test.YtppkibgemacdbaaSdK
namespace Go.Proofs.Ytppkibgemacdbaa
open Go.RowKit Go.WideShapes Go.ChangeShapes

/-! the delay that so many blocks prove -/
set_option maxRecDepth 100000 in
set_option maxHeartbeats 8000000 in
theorem DelayOf_ok (B C P : Int) (A : Option Addr) (c n : Nat) (T : List Int) (nm : Bs) (kd pr wt pw le bu ra de : Int) (w : World) (hn : T.length = n) (hs : Sl w A (iv T)) (hs2 : OkS B C P T) (ho : OkB T nm kd pr wt pw le bu ra de) (hk : kd ≠ 0) (N : Int) (hN0 : 1 ≤ N) (hN1 : N ≤ B) (hNr : ra ≤ N * tbO T le) :
    Calls Try.prog 17 #[.agg #[.int .i64 B, .int .i64 C, .int .i64 P, .slice A n c], .agg #[strV nm, .int .i64 kd, .int .i64 pr, .int .i64 wt, .int .i64 pw, .int .i64 le, .int .i64 bu, .int .i64 ra, .int .i64 de], .int .i64 N] w fun e w' => e = .returned (.tuple #[.int .i64 (ceilI bu (N * tbO T le)), .int .i64 0]) ∧ Below w.heap.size w w' := by
  have HOB := hide (fun W k => openBearer_ok B C P A c n T nm kd pr wt pw le bu ra de W hn k hs2 ho hk)
  obtain ⟨t0, t1⟩ := tb_ok hs2 ho hk
  obtain ⟨⟨l0, l1⟩, hbu, hra, hde, -⟩ := ho.sure hk
  have hB := hs2.b
  have hkd : (kd == 0) = false := by rw [beq_eq_false_iff_ne]; exact hk
  have hb0 : 0 < N * tbO T le := Int.mul_pos (by omega) t0
  have hb1 : N * tbO T le ≤ 20 * 1000 := Int.mul_le_mul (by omega) t1 (by omega) (by omega)
  have HC := hide (fun W => ceil_sched bu (N * tbO T le) W hb0 (by omega) (by omega) (by omega))
  have HW := hide (show withinB N 1 B = true by simp [withinB]; omega)
  obtain ⟨t, ht⟩ := Int.eq_ofNat_of_zero_le l0
  have htT : t < T.length := by omega
  have htn : t < n := by omega
  obtain ⟨b, off, rfl, hd0⟩ := hs.int htT
  clear hd0
  have HTB := hide (fun W (h : Sl W (some ⟨b, off, none⟩) (iv T)) => show W.cell? ⟨b, off + t, none⟩ = some (.int .i64 T[t]) from by
    obtain ⟨b', off', e, d⟩ := h.int htT
    injection e with e
    injection e with e1 e2
    subst e1 e2
    exact d)
  have hx : T[t] = tbO T le := by unfold tbO; rw [ht, Int.toNat_natCast, List.getElem?_eq_getElem htT]; rfl
  rw [hx] at HTB
  obtain ⟨x, hx2⟩ : ∃ z, tbO T le = z := ⟨_, rfl⟩
  rw [hx2] at HTB HC hb0 hb1 hNr ⊢
  have g1 : (t : Int) < (n : Int) := by omega
  have ww : IntKind.i64.wrap (N * x) = N * x := IntWalk.i64_in _ (by omega)
  obtain ⟨Z, hZ⟩ : ∃ z, N * x = z := ⟨_, rfl⟩
  rw [hZ] at HC hb0 hb1 hNr ⊢
  replace ww := ww.trans hZ
  have hnl : ¬ Z < ra := by omega
  obtain ⟨V, hV⟩ : ∃ z, ceilI bu Z = z := ⟨_, rfl⟩
  rw [hV] at HC ⊢
  have HT := hide ((((stay_blk (Blk.new w 24 #[.int .i64 B, .int .i64 C, .int .i64 P, .slice (some ⟨b, off, none⟩) n c])).alloc (.cells #[strV nm, .int .i64 kd, .int .i64 pr, .int .i64 wt, .int .i64 pw, .int .i64 le, .int .i64 bu, .int .i64 ra, .int .i64 de] 32)).and (stay_blk (blk_up w 24 32 #[.int .i64 B, .int .i64 C, .int .i64 P, .slice (some ⟨b, off, none⟩) n c] #[strV nm, .int .i64 kd, .int .i64 pr, .int .i64 wt, .int .i64 pw, .int .i64 le, .int .i64 bu, .int .i64 ra, .int .i64 de]))).and ((stay_sl (hs.alloc (.cells #[.int .i64 B, .int .i64 C, .int .i64 P, .slice (some ⟨b, off, none⟩) n c] 24))).alloc (.cells #[strV nm, .int .i64 kd, .int .i64 pr, .int .i64 wt, .int .i64 pw, .int .i64 le, .int .i64 bu, .int .i64 ra, .int .i64 de] 32)) |>.and (stay_below (((Below.refl _ w).alloc (Nat.le_refl _) (.cells #[.int .i64 B, .int .i64 C, .int .i64 P, .slice (some ⟨b, off, none⟩) n c] 24)).alloc (by simp) (.cells #[strV nm, .int .i64 kd, .int .i64 pr, .int .i64 wt, .int .i64 pw, .int .i64 le, .int .i64 bu, .int .i64 ra, .int .i64 de] 32))))
  subst ht
  clear hs hs2 ho hk hn htT hx hx2 t0 t1 l0 l1 hbu hra hde hB hb0 hb1 hN0 hN1 hNr hZ hV
  have HG := hide (fun W => guaranteed_sched nm kd pr wt pw (t : Int) bu ra de W)
  go_enter Try.func17, Try.ntmps17
  go_wp2_with fail
  go_at_call 39
  refine (HOB.out _ HT.out.now.1.2).mono ?_
  rintro e w1 ⟨rfl, hb⟩
  replace HT := hide ((HT.out.step hb).alloc (.cells #[.int .i64 B, .int .i64 C, .int .i64 P, .slice (some ⟨b, off, none⟩) n c] 74))
  clear hb
  simp only []
  go_wp2_with fail
  obtain ⟨W0, hW0⟩ : ∃ W0, w1.alloc (.cells #[.int .i64 B, .int .i64 C, .int .i64 P, .slice (some ⟨b, off, none⟩) n c] 74) = W0 := ⟨_, rfl⟩
  rw [hW0] at HT ⊢
  clear hW0
  have HL := hide (fun W (h : Below W0.heap.size W0 W) => (HT.out W h).1.1)
  refine wp_region_held_drew (S := fun w' => Below W0.heap.size W0 w') (by kernel_rfl) (below_drewN (Below.refl _ _) 1) (fun hHeld => ?_)
  refine take_at (i := 0) 17 (v := .int .i64 0) rfl rfl (by kernel_rfl) (by kernel_rfl) (by kernel_rfl) (fun _ _ _ h => h) (Or.inl ⟨by rfl, by intro w hSw; go_simp⟩) (by assumption) ?_
  try simp only [Act.put, List.setIfInBounds_toArray, List.set_cons_zero, List.set_cons_succ]
  refine take_at (i := 1) 18 (v := .agg #[strV nm, .int .i64 kd, .int .i64 pr, .int .i64 wt, .int .i64 pw, .int .i64 (t : Int), .int .i64 bu, .int .i64 ra, .int .i64 de]) rfl rfl (by kernel_rfl) (by kernel_rfl) (by kernel_rfl) (fun _ _ _ h => h) (Or.inl ⟨by rfl, by intro w_ hSw; have hb := HL.out w_ hSw; have c0 : w_.cell? ⟨w.heap.size, 0, none⟩ = some (.int .i64 B) := hb.1.cell 0; have d0 : w_.cell? ⟨w.heap.size + 1, 0, none⟩ = some (strV nm) := hb.2.cell 0; have d1 : w_.cell? ⟨w.heap.size + 1, 1, none⟩ = some (.int .i64 kd) := hb.2.cell 1; have d2 : w_.cell? ⟨w.heap.size + 1, 2, none⟩ = some (.int .i64 pr) := hb.2.cell 2; have d3 : w_.cell? ⟨w.heap.size + 1, 3, none⟩ = some (.int .i64 wt) := hb.2.cell 3; have d4 : w_.cell? ⟨w.heap.size + 1, 4, none⟩ = some (.int .i64 pw) := hb.2.cell 4; have d5 : w_.cell? ⟨w.heap.size + 1, 5, none⟩ = some (.int .i64 (t : Int)) := hb.2.cell 5; have d6 : w_.cell? ⟨w.heap.size + 1, 6, none⟩ = some (.int .i64 bu) := hb.2.cell 6; have d7 : w_.cell? ⟨w.heap.size + 1, 7, none⟩ = some (.int .i64 ra) := hb.2.cell 7; have d8 : w_.cell? ⟨w.heap.size + 1, 8, none⟩ = some (.int .i64 de) := hb.2.cell 8; go_simp⟩) (by assumption) ?_
  try simp only [Act.put, List.setIfInBounds_toArray, List.set_cons_zero, List.set_cons_succ]
  refine take_at (i := 4) 21 (v := .int .i64 N) rfl rfl (by kernel_rfl) (by kernel_rfl) (by kernel_rfl) (fun _ _ _ h => h) (Or.inl ⟨by rfl, by intro w hSw; go_simp⟩) (by assumption) ?_
  try simp only [Act.put, List.setIfInBounds_toArray, List.set_cons_zero, List.set_cons_succ]
  refine take_at (i := 5) 22 (v := .pointer (some ⟨w.heap.size, 0, none⟩)) rfl rfl (by kernel_rfl) (by kernel_rfl) (by kernel_rfl) (fun _ _ _ h => h) (Or.inl ⟨by rfl, by intro w hSw; go_simp⟩) (by assumption) ?_
  try simp only [Act.put, List.setIfInBounds_toArray, List.set_cons_zero, List.set_cons_succ]
  refine take_at (i := 6) 23 (v := .int .i64 B) rfl rfl (by kernel_rfl) (by kernel_rfl) (by kernel_rfl) (fun _ _ _ h => h) (Or.inl ⟨by rfl, by intro w_ hSw; have hb := HL.out w_ hSw; have c0 : w_.cell? ⟨w.heap.size, 0, none⟩ = some (.int .i64 B) := hb.1.cell 0; have d0 : w_.cell? ⟨w.heap.size + 1, 0, none⟩ = some (strV nm) := hb.2.cell 0; have d1 : w_.cell? ⟨w.heap.size + 1, 1, none⟩ = some (.int .i64 kd) := hb.2.cell 1; have d2 : w_.cell? ⟨w.heap.size + 1, 2, none⟩ = some (.int .i64 pr) := hb.2.cell 2; have d3 : w_.cell? ⟨w.heap.size + 1, 3, none⟩ = some (.int .i64 wt) := hb.2.cell 3; have d4 : w_.cell? ⟨w.heap.size + 1, 4, none⟩ = some (.int .i64 pw) := hb.2.cell 4; have d5 : w_.cell? ⟨w.heap.size + 1, 5, none⟩ = some (.int .i64 (t : Int)) := hb.2.cell 5; have d6 : w_.cell? ⟨w.heap.size + 1, 6, none⟩ = some (.int .i64 bu) := hb.2.cell 6; have d7 : w_.cell? ⟨w.heap.size + 1, 7, none⟩ = some (.int .i64 ra) := hb.2.cell 7; have d8 : w_.cell? ⟨w.heap.size + 1, 8, none⟩ = some (.int .i64 de) := hb.2.cell 8; go_simp⟩) (by assumption) ?_
  try simp only [Act.put, List.setIfInBounds_toArray, List.set_cons_zero, List.set_cons_succ]
  refine wpAnyH_ready (rs := [2]) (by kernel_rfl) (by simp) ?_
  refine AllReadyH.cons rfl (fun K hK => ?_) AllReadyH.nil
  go_simp
  go_at_call 38
  refine (HG.out _).mono ?_
  rintro e w2 ⟨rfl, hb⟩
  rw [hkd]
  have B2 := hide (Below.step (below_drewN (Below.refl W0.heap.size W0) 1) hb)
  clear hb
  try simp only [Bool.not_false]
  refine hK.out _ _ B2.out (fun hHeld => ?_)
  clear hK K
  try simp only [Act.put, List.setIfInBounds_toArray, List.set_cons_zero, List.set_cons_succ]
  refine wpAnyH_ready (rs := [3]) (by kernel_rfl) (by simp) ?_
  refine AllReadyH.cons rfl (fun K hK => ?_) AllReadyH.nil
  go_simp
  go_at_call 28
  refine (unless_any _ _ _).mono ?_
  rintro e w' ⟨rfl, rfl⟩
  rw [show unlessE true 15 = 0 from rfl]
  try simp only []
  refine hK.out _ _ B2.out (fun hHeld => ?_)
  clear hK K
  try simp only [Act.put, List.setIfInBounds_toArray, List.set_cons_zero, List.set_cons_succ]
  refine wpAnyH_ready (rs := [7]) (by kernel_rfl) (by simp) ?_
  refine AllReadyH.cons rfl (fun K hK => ?_) AllReadyH.nil
  go_simp
  go_at_call 41
  refine (within_sy _ _ _ _).mono ?_
  rintro e w' ⟨rfl, rfl⟩
  rw [HW.out]
  try simp only []
  refine hK.out _ _ B2.out (fun hHeld => ?_)
  clear hK K
  try simp only [Act.put, List.setIfInBounds_toArray, List.set_cons_zero, List.set_cons_succ]
  refine wpAnyH_ready (rs := [8]) (by kernel_rfl) (by simp) ?_
  refine AllReadyH.cons rfl (fun K hK => ?_) AllReadyH.nil
  go_simp
  go_at_call 28
  refine (unless_any _ _ _).mono ?_
  rintro e w' ⟨rfl, rfl⟩
  rw [show unlessE true 2 = 0 from rfl]
  try simp only []
  refine hK.out _ _ B2.out (fun hHeld => ?_)
  clear hK K
  try simp only [Act.put, List.setIfInBounds_toArray, List.set_cons_zero, List.set_cons_succ]
  refine wpAnyH_ready (rs := [9]) (by kernel_rfl) (by simp) ?_
  refine AllReadyH.cons rfl (fun K hK => ?_) AllReadyH.nil
  go_simp
  refine hK.out _ _ (B2.out.alloc B2.out.size _) (fun hHeld => ?_)
  clear hK K
  try simp only [Act.put, List.setIfInBounds_toArray, List.set_cons_zero, List.set_cons_succ]
  refine wpAnyH_ready (rs := [10]) (by kernel_rfl) (by simp) ?_
  refine AllReadyH.cons rfl (fun K hK => ?_) AllReadyH.nil
  go_simp
  go_at_call 26
  refine (first3 _ _ _ _ _ (by first | rfl | simp)).mono ?_
  rintro e w' ⟨rfl, rfl⟩
  rw [show firstOf [0, 0, 0] = 0 from rfl]
  try simp only []
  refine hK.out _ _ (B2.out.alloc B2.out.size _) (fun hHeld => ?_)
  clear hK K
  try simp only [Act.put, List.setIfInBounds_toArray, List.set_cons_zero, List.set_cons_succ]
  refine take_at (i := 11) 9 (v := .int .i64 0) rfl rfl (by kernel_rfl) (by kernel_rfl) (by kernel_rfl) (fun _ _ _ h => h) (Or.inl ⟨by rfl, by intro w hSw; go_simp⟩) (by assumption) ?_
  try simp only [Act.put, List.setIfInBounds_toArray, List.set_cons_zero, List.set_cons_succ]
  refine wpAnyH_done (by kernel_rfl) ?_ _
  replace HT := hide (HT.out.step (B2.out.alloc B2.out.size (.cells #[.int .i64 0, .int .i64 0, .int .i64 0] 36)))
  clear B2 HL hHeld
  obtain ⟨W5, hW5⟩ : ∃ W5, w2.alloc (.cells #[.int .i64 0, .int .i64 0, .int .i64 0] 36) = W5 := ⟨_, rfl⟩
  rw [hW5] at HT ⊢
  clear hW5
  have z3 : W5.cell? ⟨w.heap.size, 3, none⟩ = some (.slice (some ⟨b, off, none⟩) n c) := HT.out.now.1.1.1.cell 3
  have y5 : W5.cell? ⟨w.heap.size + 1, 5, none⟩ = some (.int .i64 (t : Int)) := HT.out.now.1.1.2.cell 5
  have y6 : W5.cell? ⟨w.heap.size + 1, 6, none⟩ = some (.int .i64 bu) := HT.out.now.1.1.2.cell 6
  have y7 : W5.cell? ⟨w.heap.size + 1, 7, none⟩ = some (.int .i64 ra) := HT.out.now.1.1.2.cell 7
  have ct : W5.cell? ⟨b, off + t, none⟩ = some (.int .i64 x) := HTB.out _ HT.out.now.1.2
  go_wp2_with (go_at_call 42; go_must (refine (HC.out _).mono ?_; rintro e w' ⟨rfl, rfl⟩; simp only []))
  exact bodyPost_ret (v := .tuple #[.int .i64 V, .int .i64 0]) (by simp [results, Try.results17, go_sem]) rfl ⟨rfl, HT.out.now.2⟩
end Go.Proofs.Ytppkibgemacdbaa
