import Derived.Test.YtppkibgemacdbaaSdH
namespace Go.Proofs.Ytppkibgemacdbaa
open Go.RowKit Go.WideShapes Go.ChangeShapes

/-! bearers: the program (guaranteed ones) -/
set_option maxRecDepth 100000 in
set_option maxHeartbeats 8000000 in
theorem bearerErr_ok (B C P : Int) (A : Option Addr) (c n : Nat) (T : List Int) (nm : Bs) (kd pr wt pw le bu ra de : Int) (w : World) (hn : T.length = n) (hs : Sl w A (iv T)) (hl : n ≤ 1000) (ho : OkB T nm kd pr wt pw le bu ra de) (hp : ∀ i (h : i < T.length), 0 ≤ T[i]) (hk : kd ≠ 0) :
    Calls Try.prog 27 #[.agg #[.int .i64 B, .int .i64 C, .int .i64 P, .slice A n c], .agg #[strV nm, .int .i64 kd, .int .i64 pr, .int .i64 wt, .int .i64 pw, .int .i64 le, .int .i64 bu, .int .i64 ra, .int .i64 de]] w fun e w' => e = .returned (.int .i64 0) ∧ Below w.heap.size w w' := by
  have HIN := hide (fun W => isName_sched nm W ho.nm_)
  obtain ⟨⟨l0, l1⟩, hbu, hra, hde, hT⟩ := ho.sure hk
  have hn0 : 0 < n := by omega
  have HIR := hide (fun W => isReport_sched B C P A c n le W hn0 (by omega))
  have H1 := hide (show withinB pr 0 100 = true by have := ho.pr_; simp [withinB]; omega)
  have H2 := hide (show withinB wt 1 100 = true by have := ho.wt_; simp [withinB]; omega)
  have H3 := hide (show withinB pw 0 100000 = true by have := ho.pw_; simp [withinB]; omega)
  have H4 := hide (show withinB kd 0 2 = true by have := ho.kd_; simp [withinB]; omega)
  have H5 := hide (show withinB le 0 ((n : Int) - 1) = true by simp [withinB]; omega)
  have H6 := hide (show withinB bu 1 1000000 = true by simp [withinB]; omega)
  have H7 := hide (show withinB ra 0 1000000 = true by simp [withinB]; omega)
  have H8 := hide (show withinB de 1 1000 = true by simp [withinB]; omega)
  have hkd : (kd == 0) = false := by rw [beq_eq_false_iff_ne]; exact hk
  have HT := hide ((((stay_blk (Blk.new w 74 #[.int .i64 B, .int .i64 C, .int .i64 P, .slice A n c])).alloc (.cells #[strV nm, .int .i64 kd, .int .i64 pr, .int .i64 wt, .int .i64 pw, .int .i64 le, .int .i64 bu, .int .i64 ra, .int .i64 de] 32)).and (stay_blk (blk_up w 74 32 #[.int .i64 B, .int .i64 C, .int .i64 P, .slice A n c] #[strV nm, .int .i64 kd, .int .i64 pr, .int .i64 wt, .int .i64 pw, .int .i64 le, .int .i64 bu, .int .i64 ra, .int .i64 de]))).and ((stay_sl (hs.alloc (.cells #[.int .i64 B, .int .i64 C, .int .i64 P, .slice A n c] 74))).alloc (.cells #[strV nm, .int .i64 kd, .int .i64 pr, .int .i64 wt, .int .i64 pw, .int .i64 le, .int .i64 bu, .int .i64 ra, .int .i64 de] 32)) |>.and (stay_below (((Below.refl _ w).alloc (Nat.le_refl _) (.cells #[.int .i64 B, .int .i64 C, .int .i64 P, .slice A n c] 74)).alloc (by simp) (.cells #[strV nm, .int .i64 kd, .int .i64 pr, .int .i64 wt, .int .i64 pw, .int .i64 le, .int .i64 bu, .int .i64 ra, .int .i64 de] 32))))
  obtain ⟨t, ht⟩ := Int.eq_ofNat_of_zero_le l0
  have htn : t < n := by omega
  have htT : t < T.length := by omega
  obtain ⟨b, off, rfl, hd0⟩ := hs.int htT
  clear hd0
  have HTB := hide (fun W (h : Sl W (some ⟨b, off, none⟩) (iv T)) => show W.cell? ⟨b, off + t, none⟩ = some (.int .i64 T[t]) from by
    obtain ⟨b', off', e, d⟩ := h.int htT
    injection e with e
    injection e with e1 e2
    subst e1 e2
    exact d)
  have hx0 : T[t] ≠ 0 := by rw [ht, Int.toNat_natCast, List.getElem?_eq_getElem htT] at hT; exact hT
  have hx1 := hp t htT
  obtain ⟨x, hx⟩ : ∃ x, T[t] = x := ⟨_, rfl⟩
  rw [hx] at HTB hx0 hx1
  have hxp : 0 < x := by omega
  have hxd : decide (0 < x) = true := decide_eq_true hxp
  have g1 : (t : Int) < (n : Int) := by omega
  subst ht
  clear hs ho hp hk hT htT hx hx0 hx1 hn l0 l1 hbu hra hde
  go_enter Try.func27, Try.ntmps27
  go_wp2_with (go_at_call 41; go_must (refine (within_sy _ _ _ _).mono ?_; rintro e w' ⟨rfl, rfl⟩; (first | rw [H1.out] | rw [H2.out] | rw [H3.out]); simp only []))
  obtain ⟨W0, hW0⟩ : ∃ W0, (w.alloc (.cells #[.int .i64 B, .int .i64 C, .int .i64 P, .slice (some ⟨b, off, none⟩) n c] 74)).alloc (.cells #[strV nm, .int .i64 kd, .int .i64 pr, .int .i64 wt, .int .i64 pw, .int .i64 (t : Int), .int .i64 bu, .int .i64 ra, .int .i64 de] 32) = W0 := ⟨_, rfl⟩
  rw [hW0] at HT ⊢
  clear hW0
  have HL := hide (fun W (h : Below W0.heap.size W0 W) => (HT.out W h).1.1.2)
  refine wp_region_held_drew (S := fun w' => Below W0.heap.size W0 w') (by kernel_rfl) (below_drewN (Below.refl _ _) 1) (fun hHeld => ?_)
  refine take_at (i := 0) 21 (v := .pointer (some ⟨w.heap.size + 1, 0, none⟩)) rfl rfl (by kernel_rfl) (by kernel_rfl) (by kernel_rfl) (fun _ _ _ h => h) (Or.inl ⟨by rfl, by intro w hSw; go_simp⟩) (by assumption) ?_
  try simp only [Act.put, List.setIfInBounds_toArray, List.set_cons_zero, List.set_cons_succ]
  refine take_at (i := 1) 22 (v := strV nm) rfl rfl (by kernel_rfl) (by kernel_rfl) (by kernel_rfl) (fun _ _ _ h => h) (Or.inl ⟨by rfl, by intro w_ hSw; have hb := HL.out w_ hSw; have c0 : w_.cell? ⟨w.heap.size + 1, 0, none⟩ = some (strV nm) := hb.cell 0; have c1 : w_.cell? ⟨w.heap.size + 1, 1, none⟩ = some (.int .i64 kd) := hb.cell 1; go_simp⟩) (by assumption) ?_
  try simp only [Act.put, List.setIfInBounds_toArray, List.set_cons_zero, List.set_cons_succ]
  refine take_at (i := 4) 25 (v := .pointer (some ⟨w.heap.size + 1, 1, none⟩)) rfl rfl (by kernel_rfl) (by kernel_rfl) (by kernel_rfl) (fun _ _ _ h => h) (Or.inl ⟨by rfl, by intro w hSw; go_simp⟩) (by assumption) ?_
  try simp only [Act.put, List.setIfInBounds_toArray, List.set_cons_zero, List.set_cons_succ]
  refine take_at (i := 5) 26 (v := .int .i64 kd) rfl rfl (by kernel_rfl) (by kernel_rfl) (by kernel_rfl) (fun _ _ _ h => h) (Or.inl ⟨by rfl, by intro w_ hSw; have hb := HL.out w_ hSw; have c0 : w_.cell? ⟨w.heap.size + 1, 0, none⟩ = some (strV nm) := hb.cell 0; have c1 : w_.cell? ⟨w.heap.size + 1, 1, none⟩ = some (.int .i64 kd) := hb.cell 1; go_simp⟩) (by assumption) ?_
  try simp only [Act.put, List.setIfInBounds_toArray, List.set_cons_zero, List.set_cons_succ]
  refine take_at (i := 8) 29 (v := .bool true) rfl rfl (by kernel_rfl) (by kernel_rfl) (by kernel_rfl) (fun _ _ _ h => h) (Or.inl ⟨by rfl, by intro w hSw; go_simp⟩) (by assumption) ?_
  try simp only [Act.put, List.setIfInBounds_toArray, List.set_cons_zero, List.set_cons_succ]
  refine wpAnyH_ready (rs := [2]) (by kernel_rfl) (by simp) ?_
  refine AllReadyH.cons rfl (fun K hK => ?_) AllReadyH.nil
  go_simp
  go_at_call 47
  refine (HIN.out _).mono ?_
  rintro e w2 ⟨rfl, hb⟩
  have B2 := hide (Below.step (below_drewN (Below.refl W0.heap.size W0) 1) hb)
  clear hb
  try simp only []
  refine hK.out _ _ B2.out (fun hHeld => ?_)
  clear hK K
  try simp only [Act.put, List.setIfInBounds_toArray, List.set_cons_zero, List.set_cons_succ]
  refine wpAnyH_ready (rs := [3]) (by kernel_rfl) (by simp) ?_
  refine AllReadyH.cons rfl (fun K hK => ?_) AllReadyH.nil
  go_simp
  go_at_call 28
  refine (unless_any _ _ _).mono ?_
  rintro e w' ⟨rfl, rfl⟩
  rw [show unlessE true 4 = 0 from rfl]
  try simp only []
  refine hK.out _ _ B2.out (fun hHeld => ?_)
  clear hK K
  try simp only [Act.put, List.setIfInBounds_toArray, List.set_cons_zero, List.set_cons_succ]
  refine wpAnyH_ready (rs := [6]) (by kernel_rfl) (by simp) ?_
  refine AllReadyH.cons rfl (fun K hK => ?_) AllReadyH.nil
  go_simp
  go_at_call 41
  refine (within_sy _ _ _ _).mono ?_
  rintro e w' ⟨rfl, rfl⟩
  rw [H4.out]
  try simp only []
  refine hK.out _ _ B2.out (fun hHeld => ?_)
  clear hK K
  try simp only [Act.put, List.setIfInBounds_toArray, List.set_cons_zero, List.set_cons_succ]
  refine wpAnyH_ready (rs := [7]) (by kernel_rfl) (by simp) ?_
  refine AllReadyH.cons rfl (fun K hK => ?_) AllReadyH.nil
  go_simp
  go_at_call 28
  refine (unless_any _ _ _).mono ?_
  rintro e w' ⟨rfl, rfl⟩
  rw [show unlessE true 15 = 0 from rfl]
  try simp only []
  refine hK.out _ _ B2.out (fun hHeld => ?_)
  clear hK K
  try simp only [Act.put, List.setIfInBounds_toArray, List.set_cons_zero, List.set_cons_succ]
  refine wpAnyH_ready (rs := [9]) (by kernel_rfl) (by simp) ?_
  refine AllReadyH.cons rfl (fun K hK => ?_) AllReadyH.nil
  go_simp
  go_at_call 28
  refine (unless_any _ _ _).mono ?_
  rintro e w' ⟨rfl, rfl⟩
  rw [show unlessE true 2 = 0 from rfl]
  try simp only []
  refine hK.out _ _ B2.out (fun hHeld => ?_)
  clear hK K
  try simp only [Act.put, List.setIfInBounds_toArray, List.set_cons_zero, List.set_cons_succ]
  refine wpAnyH_ready (rs := [10]) (by kernel_rfl) (by simp) ?_
  refine AllReadyH.cons rfl (fun K hK => ?_) AllReadyH.nil
  go_simp
  refine hK.out _ _ (B2.out.alloc B2.out.size _) (fun hHeld => ?_)
  clear hK K
  try simp only [Act.put, List.setIfInBounds_toArray, List.set_cons_zero, List.set_cons_succ]
  refine wpAnyH_ready (rs := [11]) (by kernel_rfl) (by simp) ?_
  refine AllReadyH.cons rfl (fun K hK => ?_) AllReadyH.nil
  go_simp
  go_at_call 26
  refine (first3 _ _ _ _ _ (by first | rfl | simp)).mono ?_
  rintro e w' ⟨rfl, rfl⟩
  rw [show firstOf [0, 0, 0] = 0 from rfl]
  try simp only []
  refine hK.out _ _ (B2.out.alloc B2.out.size _) (fun hHeld => ?_)
  clear hK K
  try simp only [Act.put, List.setIfInBounds_toArray, List.set_cons_zero, List.set_cons_succ]
  refine take_at (i := 12) 6 (v := .int .i64 0) rfl rfl (by kernel_rfl) (by kernel_rfl) (by kernel_rfl) (fun _ _ _ h => h) (Or.inl ⟨by rfl, by intro w hSw; go_simp⟩) (by assumption) ?_
  try simp only [Act.put, List.setIfInBounds_toArray, List.set_cons_zero, List.set_cons_succ]
  refine wpAnyH_done (by kernel_rfl) ?_ _
  replace HT := hide (HT.out.step (B2.out.alloc B2.out.size (.cells #[.int .i64 0, .int .i64 0, .int .i64 0] 36)))
  clear B2 HL hHeld
  obtain ⟨W5, hW5⟩ : ∃ W5, w2.alloc (.cells #[.int .i64 0, .int .i64 0, .int .i64 0] 36) = W5 := ⟨_, rfl⟩
  rw [hW5] at HT ⊢
  clear hW5
  have z0 : W5.cell? ⟨w.heap.size, 0, none⟩ = some (.int .i64 B) := HT.out.now.1.1.1.cell 0
  have z1 : W5.cell? ⟨w.heap.size, 1, none⟩ = some (.int .i64 C) := HT.out.now.1.1.1.cell 1
  have z2 : W5.cell? ⟨w.heap.size, 2, none⟩ = some (.int .i64 P) := HT.out.now.1.1.1.cell 2
  have z3 : W5.cell? ⟨w.heap.size, 3, none⟩ = some (.slice (some ⟨b, off, none⟩) n c) := HT.out.now.1.1.1.cell 3
  have z4 : W5.cell? ⟨w.heap.size + 1, 1, none⟩ = some (.int .i64 kd) := HT.out.now.1.1.2.cell 1
  have z5 : W5.cell? ⟨w.heap.size + 1, 5, none⟩ = some (.int .i64 (t : Int)) := HT.out.now.1.1.2.cell 5
  go_wp2_with (first
    | (go_at_call 48; go_must (refine (HIR.out _).mono ?_; rintro e w3 ⟨rfl, hb⟩; rw [H5.out]; replace HT := hide (HT.out.step hb); clear hb z0 z1 z2 z3 z4 z5; have z6 : w3.cell? ⟨w.heap.size + 1, 6, none⟩ = some (.int .i64 bu) := HT.out.now.1.1.2.cell 6; have z7 : w3.cell? ⟨w.heap.size + 1, 7, none⟩ = some (.int .i64 ra) := HT.out.now.1.1.2.cell 7; have z8 : w3.cell? ⟨w.heap.size + 1, 8, none⟩ = some (.int .i64 de) := HT.out.now.1.1.2.cell 8; simp only []))
    | (go_at_call 41; go_must (refine (within_sy _ _ _ _).mono ?_; rintro e w' ⟨rfl, rfl⟩; (first | rw [H6.out] | rw [H7.out] | rw [H8.out]); simp only [])))
  clear z6 z7 z8
  have HL := hide (fun W (h : Below w3.heap.size w3 W) => And.intro (HT.out W h).1.1 (HTB.out W (HT.out W h).1.2))
  refine wp_region_held_drew (S := fun w' => Below w3.heap.size w3 w') (by kernel_rfl) (below_drewN (Below.refl _ _) 1) (fun hHeld => ?_)
  refine take_at (i := 0) 79 (v := .bool true) rfl rfl (by kernel_rfl) (by kernel_rfl) (by kernel_rfl) (fun _ _ _ h => h) (Or.inl ⟨by rfl, by intro w hSw; go_simp⟩) (by assumption) ?_
  try simp only [Act.put, List.setIfInBounds_toArray, List.set_cons_zero, List.set_cons_succ]
  refine take_at (i := 2) 81 (v := .pointer (some ⟨w.heap.size, 0, none⟩)) rfl rfl (by kernel_rfl) (by kernel_rfl) (by kernel_rfl) (fun _ _ _ h => h) (Or.inl ⟨by rfl, by intro w hSw; go_simp⟩) (by assumption) ?_
  try simp only [Act.put, List.setIfInBounds_toArray, List.set_cons_zero, List.set_cons_succ]
  refine take_at (i := 3) 82 (v := .pointer (some ⟨w.heap.size, 3, none⟩)) rfl rfl (by kernel_rfl) (by kernel_rfl) (by kernel_rfl) (fun _ _ _ h => h) (Or.inl ⟨by rfl, by intro w hSw; go_simp⟩) (by assumption) ?_
  try simp only [Act.put, List.setIfInBounds_toArray, List.set_cons_zero, List.set_cons_succ]
  refine take_at (i := 4) 83 (v := .slice (some ⟨b, off, none⟩) n c) rfl rfl (by kernel_rfl) (by kernel_rfl) (by kernel_rfl) (fun _ _ _ h => h) (Or.inl ⟨by rfl, by intro w_ hSw; have hb := HL.out w_ hSw; have c3 : w_.cell? ⟨w.heap.size, 3, none⟩ = some (.slice (some ⟨b, off, none⟩) n c) := hb.1.1.cell 3; have c5 : w_.cell? ⟨w.heap.size + 1, 5, none⟩ = some (.int .i64 (t : Int)) := hb.1.2.cell 5; have ct : w_.cell? ⟨b, off + t, none⟩ = some (.int .i64 x) := hb.2; go_simp⟩) (by assumption) ?_
  try simp only [Act.put, List.setIfInBounds_toArray, List.set_cons_zero, List.set_cons_succ]
  refine take_at (i := 5) 84 (v := .pointer (some ⟨w.heap.size + 1, 5, none⟩)) rfl rfl (by kernel_rfl) (by kernel_rfl) (by kernel_rfl) (fun _ _ _ h => h) (Or.inl ⟨by rfl, by intro w hSw; go_simp⟩) (by assumption) ?_
  try simp only [Act.put, List.setIfInBounds_toArray, List.set_cons_zero, List.set_cons_succ]
  refine take_at (i := 6) 85 (v := .int .i64 (t : Int)) rfl rfl (by kernel_rfl) (by kernel_rfl) (by kernel_rfl) (fun _ _ _ h => h) (Or.inl ⟨by rfl, by intro w_ hSw; have hb := HL.out w_ hSw; have c3 : w_.cell? ⟨w.heap.size, 3, none⟩ = some (.slice (some ⟨b, off, none⟩) n c) := hb.1.1.cell 3; have c5 : w_.cell? ⟨w.heap.size + 1, 5, none⟩ = some (.int .i64 (t : Int)) := hb.1.2.cell 5; have ct : w_.cell? ⟨b, off + t, none⟩ = some (.int .i64 x) := hb.2; go_simp⟩) (by assumption) ?_
  try simp only [Act.put, List.setIfInBounds_toArray, List.set_cons_zero, List.set_cons_succ]
  refine take_at (i := 7) 86 (v := .pointer (some ⟨b, off + t, none⟩)) rfl rfl (by kernel_rfl) (by kernel_rfl) (by kernel_rfl) (fun _ _ _ h => h) (Or.inl ⟨by rfl, by intro w hSw; go_simp⟩) (by assumption) ?_
  try simp only [Act.put, List.setIfInBounds_toArray, List.set_cons_zero, List.set_cons_succ]
  refine take_at (i := 8) 87 (v := .int .i64 x) rfl rfl (by kernel_rfl) (by kernel_rfl) (by kernel_rfl) (fun _ _ _ h => h) (Or.inl ⟨by rfl, by intro w_ hSw; have hb := HL.out w_ hSw; have c3 : w_.cell? ⟨w.heap.size, 3, none⟩ = some (.slice (some ⟨b, off, none⟩) n c) := hb.1.1.cell 3; have c5 : w_.cell? ⟨w.heap.size + 1, 5, none⟩ = some (.int .i64 (t : Int)) := hb.1.2.cell 5; have ct : w_.cell? ⟨b, off + t, none⟩ = some (.int .i64 x) := hb.2; go_simp⟩) (by assumption) ?_
  try simp only [Act.put, List.setIfInBounds_toArray, List.set_cons_zero, List.set_cons_succ]
  refine take_at (i := 9) 88 (v := .bool true) rfl rfl (by kernel_rfl) (by kernel_rfl) (by kernel_rfl) (fun _ _ _ h => h) (Or.inl ⟨by rfl, by intro w hSw; go_simp⟩) (by assumption) ?_
  try simp only [Act.put, List.setIfInBounds_toArray, List.set_cons_zero, List.set_cons_succ]
  refine wpAnyH_ready (rs := [1]) (by kernel_rfl) (by simp) ?_
  refine AllReadyH.cons rfl (fun K hK => ?_) AllReadyH.nil
  go_simp
  go_at_call 28
  refine (unless_any _ _ _).mono ?_
  rintro e w' ⟨rfl, rfl⟩
  rw [show unlessE true 2 = 0 from rfl]
  try simp only []
  refine hK.out _ _ (below_drewN (Below.refl _ _) 1) (fun hHeld => ?_)
  clear hK K
  try simp only [Act.put, List.setIfInBounds_toArray, List.set_cons_zero, List.set_cons_succ]
  refine wpAnyH_ready (rs := [10]) (by kernel_rfl) (by simp) ?_
  refine AllReadyH.cons rfl (fun K hK => ?_) AllReadyH.nil
  go_simp
  go_at_call 28
  refine (unless_any _ _ _).mono ?_
  rintro e w' ⟨rfl, rfl⟩
  rw [show unlessE true 11 = 0 from rfl]
  try simp only []
  refine hK.out _ _ (below_drewN (Below.refl _ _) 1) (fun hHeld => ?_)
  clear hK K
  try simp only [Act.put, List.setIfInBounds_toArray, List.set_cons_zero, List.set_cons_succ]
  refine wpAnyH_ready (rs := [11]) (by kernel_rfl) (by simp) ?_
  refine AllReadyH.cons rfl (fun K hK => ?_) AllReadyH.nil
  go_simp
  refine hK.out _ _ (below_drewN ((Below.refl _ _).alloc (Nat.le_refl _) _) 1) (fun hHeld => ?_)
  clear hK K
  try simp only [Act.put, List.setIfInBounds_toArray, List.set_cons_zero, List.set_cons_succ]
  refine wpAnyH_ready (rs := [12]) (by kernel_rfl) (by simp) ?_
  refine AllReadyH.cons rfl (fun K hK => ?_) AllReadyH.nil
  go_simp
  go_at_call 26
  refine (first2d _ _ _ _ (by first | rfl | simp)).mono ?_
  rintro e w' ⟨rfl, rfl⟩
  rw [show firstOf [0, 0] = 0 from rfl]
  try simp only []
  refine hK.out _ _ (below_drewN ((Below.refl _ _).alloc (Nat.le_refl _) _) 1) (fun hHeld => ?_)
  clear hK K
  try simp only [Act.put, List.setIfInBounds_toArray, List.set_cons_zero, List.set_cons_succ]
  refine take_at (i := 13) 4 (v := .int .i64 0) rfl rfl (by kernel_rfl) (by kernel_rfl) (by kernel_rfl) (fun _ _ _ h => h) (Or.inl ⟨by rfl, by intro w hSw; go_simp⟩) (by assumption) ?_
  try simp only [Act.put, List.setIfInBounds_toArray, List.set_cons_zero, List.set_cons_succ]
  refine wpAnyH_done (by kernel_rfl) ?_ _
  have HB := hide (Below.step HT.out.now.2 (below_drewN ((Below.refl w3.heap.size w3).alloc (Nat.le_refl _) (.cells #[.int .i64 0, .int .i64 0] 36)) 1))
  clear HT HL hHeld
  obtain ⟨W7, hW7⟩ : ∃ W7, (w3.alloc (.cells #[.int .i64 0, .int .i64 0] 36)).drew = W7 := ⟨_, rfl⟩
  replace HB := hide (show Below w.heap.size w W7 from by rw [← hW7]; exact HB.out)
  rw [hW7]
  clear hW7
  go_wp2
  go_ret
  exact ⟨rfl, HB.out⟩
end Go.Proofs.Ytppkibgemacdbaa
