import Derived.Test.YtehcmhblppjalaaSyI
namespace Go.Proofs.Ytehcmhblppjalaa
open Go.RowKit Go.WideShapes Go.ChangeShapes

/-! registers in memory of their own -/
theorem own_rowFar {w : World} {base e size n g : Nat} {v : Value} {xs : List Value} (h : w.ownsRow base e size v n xs) (hg : g < base) (cs : Array Value) : (w.setRow g cs).ownsRow base e size v n xs :=
  h.kept (row := some g) ⟨rfl, rfl, rfl, by simp, fun k _ hne => setRow_other w g k cs (fun e => hne (by rw [e]))⟩ (.inr fun e => by have := (h.lt g e).1; omega)
set_option maxRecDepth 100000 in
set_option maxHeartbeats 4000000 in
theorem behind_sy (LL : Int) (A1 A2 : Option Addr) (m m2 c1 c2 : Nat) (T : List Int) (x tp top : Nat) (w : World) (hm : T.length = m) (hs1 : Sl w A1 (iv T)) (hm2 : top + 1 = m2) (h0 : 0 < m) (hl : m ≤ 1000) (hx : x < 65536) (htop : top < 10) :
    Calls Try.prog 28 #[.agg (rgA LL A1 A2 m m2 c1 c2), .agg (wrA x tp top)] w fun e w' => ∃ A1' A2' c1' c2', e = .returned (.agg (rgA LL A1' A2' m m2 c1' c2')) ∧ w'.ownsRow w.heap.size 3 1 (.slice A1' m c1') m (iv T) ∧ w'.ownsRow w.heap.size 3 1 (.slice A2' m2 c2') m2 (iv (stL x m2)) ∧ Below w.heap.size w w' := by
  have HX := hide (show Stay (((w.alloc (.cells #[.int .i64 LL, .slice A1 m c1, .slice A2 m2 c2] 24)).alloc (.cells (wrA x tp top) 55)).alloc (.cells #[.int .i64 0, .slice none 0 0, .slice none 0 0] 24)) (fun W => Blk W w.heap.size 24 #[.int .i64 LL, .slice A1 m c1, .slice A2 m2 c2] ∧ Blk W (w.heap.size + 1) 55 (wrA x tp top) ∧ Blk W (w.heap.size + 2) 24 #[.int .i64 0, .slice none 0 0, .slice none 0 0] ∧ Below w.heap.size w W) from (((stay_new w 24 #[.int .i64 LL, .slice A1 m c1, .slice A2 m2 c2]).alloc _).alloc _).and ((stay_blk ((Blk.newN (w.alloc (.cells #[.int .i64 LL, .slice A1 m c1, .slice A2 m2 c2] 24)) 55 (wrA x tp top) (g := w.heap.size + 1) (by simp)).alloc (.cells #[.int .i64 0, .slice none 0 0, .slice none 0 0] 24))).and ((stay_blk (Blk.newN ((w.alloc (.cells #[.int .i64 LL, .slice A1 m c1, .slice A2 m2 c2] 24)).alloc (.cells (wrA x tp top) 55)) 24 #[.int .i64 0, .slice none 0 0, .slice none 0 0] (g := (w.heap.size + 2)) (by simp))).and (stay_below (show Below w.heap.size w (((w.alloc (.cells #[.int .i64 LL, .slice A1 m c1, .slice A2 m2 c2] 24)).alloc (.cells (wrA x tp top) 55)).alloc (.cells #[.int .i64 0, .slice none 0 0, .slice none 0 0] 24)) from by go_grown)))))
  have HVZ := hide (show (((w.alloc (.cells #[.int .i64 LL, .slice A1 m c1, .slice A2 m2 c2] 24)).alloc (.cells (wrA x tp top) 55)).alloc (.cells #[.int .i64 0, .slice none 0 0, .slice none 0 0] 24)).heap.size = w.heap.size + 3 by simp)
  have HS1 := hide (stay_sl hs1)
  have HC1 := hide (fun W (h : Sl W A1 (iv T)) => clone_sy A1 c1 m T W hm h0 h (by omega))
  have HC2 := hide (fun W => state_sy x tp top W hx htop)
  rw [hm2] at HC2
  clear hs1 hm h0 hx
  unfold rgA
  go_enter Try.func28, Try.ntmps28
  go_wp2
  obtain ⟨v, hv⟩ : ∃ W, (((w.alloc (.cells #[.int .i64 LL, .slice A1 m c1, .slice A2 m2 c2] 24)).alloc (.cells (wrA x tp top) 55)).alloc (.cells #[.int .i64 0, .slice none 0 0, .slice none 0 0] 24)) = W := ⟨_, rfl⟩
  rw [hv] at HX HVZ
  rw [show (((w.alloc (.cells #[.int .i64 LL, .slice A1 m c1, .slice A2 m2 c2] 24)).alloc (.cells #[.int .u16 (x : Int), .int .u16 (tp : Int), .int .i64 (top : Int)] 55)).alloc (.cells #[.int .i64 0, .slice none 0 0, .slice none 0 0] 24)) = v from hv]
  clear hv
  have HH := hide (show Below v.heap.size v v.drew from below_drewN (Below.refl _ _) 1)
  refine wp_region_held_drew (S := fun w' => Blk w' w.heap.size 24 #[.int .i64 LL, .slice A1 m c1, .slice A2 m2 c2] ∧ Blk w' (w.heap.size + 1) 55 (wrA x tp top)) (by kernel_rfl) (⟨(HX.out _ HH.out).1, (HX.out _ HH.out).2.1⟩) (fun hHeld => ?_)
  refine take_at (i := 0) 5 (v := .pointer (some ⟨w.heap.size, 0, none⟩)) rfl rfl (by kernel_rfl) (by kernel_rfl) (by kernel_rfl) (fun _ _ _ h => h) (Or.inl ⟨by rfl, by intro w hSw; go_simp⟩) (by assumption) ?_
  try simp only [Act.put, List.setIfInBounds_toArray, List.set_cons_zero, List.set_cons_succ]
  refine take_at (i := 1) 6 (v := .int .i64 LL) rfl rfl (by kernel_rfl) (by kernel_rfl) (by kernel_rfl) (fun _ _ _ h => h) (Or.inl ⟨by rfl, by intro w1 hSw; have q := hSw.1.cell 0; go_simp⟩) (by assumption) ?_
  try simp only [Act.put, List.setIfInBounds_toArray, List.set_cons_zero, List.set_cons_succ]
  refine take_at (i := 2) 7 (v := .pointer (some ⟨w.heap.size, 1, none⟩)) rfl rfl (by kernel_rfl) (by kernel_rfl) (by kernel_rfl) (fun _ _ _ h => h) (Or.inl ⟨by rfl, by intro w hSw; go_simp⟩) (by assumption) ?_
  try simp only [Act.put, List.setIfInBounds_toArray, List.set_cons_zero, List.set_cons_succ]
  refine take_at (i := 3) 8 (v := .slice A1 m c1) rfl rfl (by kernel_rfl) (by kernel_rfl) (by kernel_rfl) (fun _ _ _ h => h) (Or.inl ⟨by rfl, by intro w1 hSw; have q := hSw.1.cell 1; go_simp⟩) (by assumption) ?_
  try simp only [Act.put, List.setIfInBounds_toArray, List.set_cons_zero, List.set_cons_succ]
  refine take_at (i := 5) 10 (v := .agg #[.int .u16 (x : Int), .int .u16 (tp : Int), .int .i64 (top : Int)]) rfl rfl (by kernel_rfl) (by kernel_rfl) (by kernel_rfl) (fun _ _ _ h => h) (Or.inl ⟨by rfl, by intro w1 hSw; have q0 := hSw.2.cell 0; have q1 := hSw.2.cell 1; have q2 := hSw.2.cell 2; go_simp⟩) (by assumption) ?_
  try simp only [Act.put, List.setIfInBounds_toArray, List.set_cons_zero, List.set_cons_succ]
  obtain ⟨v0, hv0⟩ : ∃ W, v.drew = W := ⟨_, rfl⟩
  rw [hv0] at HH hHeld ⊢
  clear hv0
  refine wpAnyH_ready (rs := [4]) (by kernel_rfl) (by simp) ?_
  refine AllReadyH.cons rfl (fun K hK => ?_) AllReadyH.nil
  go_simp
  refine (HC1.out _ (HS1.out _ (HX.out _ HH.out).2.2.2)).mono ?_
  rintro e u1 ⟨A1', c1', rfl, ho1, hb⟩
  have HO1 := hide (ho1.weaken HH.out.size)
  replace HH := hide (Below.step HH.out hb)
  clear hb ho1
  simp only []
  refine hK.out _ _ (⟨(HX.out _ HH.out).1, (HX.out _ HH.out).2.1⟩) (fun hHeld => ?_)
  clear hK K
  try simp only [Act.put, List.setIfInBounds_toArray, List.set_cons_zero, List.set_cons_succ]
  refine wpAnyH_ready (rs := [6]) (by kernel_rfl) (by simp) ?_
  refine AllReadyH.cons rfl (fun K hK => ?_) AllReadyH.nil
  go_simp
  refine (HC2.out _).mono ?_
  rintro e u2 ⟨A2', c2', rfl, ho2, hb⟩
  have HO2 := hide (ho2.weaken HH.out.size)
  replace HO1 := hide (own_bel HO1.out hb)
  replace HH := hide (Below.step HH.out hb)
  clear hb ho2
  simp only []
  refine hK.out _ _ (⟨(HX.out _ HH.out).1, (HX.out _ HH.out).2.1⟩) (fun hHeld => ?_)
  clear hK K
  try simp only [Act.put, List.setIfInBounds_toArray, List.set_cons_zero, List.set_cons_succ]
  refine take_at (i := 7) 12 (v := .agg #[.int .i64 LL, .slice A1' m c1', .slice A2' m2 c2']) rfl rfl (by kernel_rfl) (by kernel_rfl) (by kernel_rfl) (fun _ _ _ h => h) (Or.inl ⟨by rfl, by intro w hSw; go_simp⟩) (by assumption) ?_
  try simp only [Act.put, List.setIfInBounds_toArray, List.set_cons_zero, List.set_cons_succ]
  refine wpAnyH_ready (rs := [8]) (by kernel_rfl) (by simp) ?_
  refine AllReadyH.cons rfl (fun K hK => ?_) AllReadyH.nil
  refine step_store_rowF rfl 24 (.tmp 4) (.tmp 12) rfl (w.heap.size + 2) #[.int .i64 LL, .slice A1' m c1', .slice A2' m2 c2'] rfl rfl 24 #[.int .i64 0, .slice none 0 0, .slice none 0 0] (HX.out u2 HH.out).2.2.1 (by kernel_rfl) rfl (by simp [Value.oneCell']) ?_
  have HRZ := hide ((HX.out u2 HH.out).2.2.1.row #[.int .i64 LL, .slice A1' m c1', .slice A2' m2 c2'])
  have HBZ := hide (show Below w.heap.size w (u2.setRow (w.heap.size + 2) #[.int .i64 LL, .slice A1' m c1', .slice A2' m2 c2']) from Below.row (HX.out u2 HH.out).2.2.2 (by omega) _)
  have hvz : (w.heap.size + 2) < v.heap.size := by rw [HVZ.out]; omega
  replace HO1 := hide (own_rowFar HO1.out hvz #[.int .i64 LL, .slice A1' m c1', .slice A2' m2 c2'])
  replace HO2 := hide (own_rowFar HO2.out hvz #[.int .i64 LL, .slice A1' m c1', .slice A2' m2 c2'])
  refine hK.out _ _ ⟨(HX.out u2 HH.out).1.rowFar (by omega) _, (HX.out u2 HH.out).2.1.rowFar (by omega) _⟩ (fun hHeld => ?_)
  clear hK K
  try simp only [Act.put, List.setIfInBounds_toArray]
  refine wpAnyH_done (by kernel_rfl) ?_ _
  go_wp2
  exact bodyPost_ret (results_cell_row rfl _ _ (w.heap.size + 2) 24 #[.int .i64 LL, .slice A1' m c1', .slice A2' m2 c2'] (0, 0) _ rfl HRZ.out Try.underlying24 rfl (by kernel_rfl)) rfl ⟨A1', A2', c1', c2', rfl, HO1.out.weaken (by rw [HVZ.out]; omega), HO2.out.weaken (by rw [HVZ.out]; omega), HBZ.out⟩
set_option maxRecDepth 100000 in
set_option maxHeartbeats 4000000 in
theorem copyReg_ref (LL : Int) (A1 A2 : Option Addr) (m m2 c1 c2 : Nat) (T : List Int) (B : List Int) (w : World) (hm : T.length = m) (hs1 : Sl w A1 (iv T)) (hm2 : B.length = m2) (hs2 : Sl w A2 (iv B)) (hl : m ≤ 1000) (hl2 : m2 ≤ 1000) :
    Calls Try.prog 8 #[.agg (rgA LL A1 A2 m m2 c1 c2)] w fun e w' => ∃ A1' A2' c1' c2', e = .returned (.agg (rgA LL A1' A2' m m2 c1' c2')) ∧ w'.ownsRow w.heap.size 3 1 (.slice A1' m c1') m (iv T) ∧ w'.ownsRow w.heap.size 3 1 (.slice A2' m2 c2') m2 (iv B) ∧ Below w.heap.size w w' := by
  have HX := hide (show Stay ((w.alloc (.cells #[.int .i64 LL, .slice A1 m c1, .slice A2 m2 c2] 24)).alloc (.cells #[.int .i64 0, .slice none 0 0, .slice none 0 0] 24)) (fun W => Blk W w.heap.size 24 #[.int .i64 LL, .slice A1 m c1, .slice A2 m2 c2] ∧ True ∧ Blk W (w.heap.size + 1) 24 #[.int .i64 0, .slice none 0 0, .slice none 0 0] ∧ Below w.heap.size w W) from ((stay_new w 24 #[.int .i64 LL, .slice A1 m c1, .slice A2 m2 c2]).alloc _).and ((Stay.triv _).and ((stay_blk (Blk.newN (w.alloc (.cells #[.int .i64 LL, .slice A1 m c1, .slice A2 m2 c2] 24)) 24 #[.int .i64 0, .slice none 0 0, .slice none 0 0] (g := (w.heap.size + 1)) (by simp))).and (stay_below (show Below w.heap.size w ((w.alloc (.cells #[.int .i64 LL, .slice A1 m c1, .slice A2 m2 c2] 24)).alloc (.cells #[.int .i64 0, .slice none 0 0, .slice none 0 0] 24)) from by go_grown)))))
  have HVZ := hide (show ((w.alloc (.cells #[.int .i64 LL, .slice A1 m c1, .slice A2 m2 c2] 24)).alloc (.cells #[.int .i64 0, .slice none 0 0, .slice none 0 0] 24)).heap.size = w.heap.size + 2 by simp)
  have HS1 := hide (stay_sl hs1)
  have HS2 := hide (stay_sl hs2)
  have HC1 := hide (fun W (h : Sl W A1 (iv T)) => by have := copyInts A1 c1 T W h (by omega); unfold RetI OwnI at this; rw [hm] at this; exact this)
  have HC2 := hide (fun W (h : Sl W A2 (iv B)) => by have := copyInts A2 c2 B W h (by omega); unfold RetI OwnI at this; rw [hm2] at this; exact this)
  clear hs1 hs2 hm hm2
  unfold rgA
  go_enter Try.func8, Try.ntmps8
  go_wp2
  obtain ⟨v, hv⟩ : ∃ W, ((w.alloc (.cells #[.int .i64 LL, .slice A1 m c1, .slice A2 m2 c2] 24)).alloc (.cells #[.int .i64 0, .slice none 0 0, .slice none 0 0] 24)) = W := ⟨_, rfl⟩
  rw [hv] at HX HVZ
  rw [hv]
  clear hv
  have HH := hide (show Below v.heap.size v v.drew from below_drewN (Below.refl _ _) 1)
  refine wp_region_held_drew (S := fun w' => Blk w' w.heap.size 24 #[.int .i64 LL, .slice A1 m c1, .slice A2 m2 c2] ∧ True) (by kernel_rfl) (⟨(HX.out _ HH.out).1, (HX.out _ HH.out).2.1⟩) (fun hHeld => ?_)
  refine take_at (i := 0) 3 (v := .pointer (some ⟨w.heap.size, 0, none⟩)) rfl rfl (by kernel_rfl) (by kernel_rfl) (by kernel_rfl) (fun _ _ _ h => h) (Or.inl ⟨by rfl, by intro w hSw; go_simp⟩) (by assumption) ?_
  try simp only [Act.put, List.setIfInBounds_toArray, List.set_cons_zero, List.set_cons_succ]
  refine take_at (i := 1) 4 (v := .int .i64 LL) rfl rfl (by kernel_rfl) (by kernel_rfl) (by kernel_rfl) (fun _ _ _ h => h) (Or.inl ⟨by rfl, by intro w1 hSw; have q := hSw.1.cell 0; go_simp⟩) (by assumption) ?_
  try simp only [Act.put, List.setIfInBounds_toArray, List.set_cons_zero, List.set_cons_succ]
  refine take_at (i := 2) 5 (v := .pointer (some ⟨w.heap.size, 1, none⟩)) rfl rfl (by kernel_rfl) (by kernel_rfl) (by kernel_rfl) (fun _ _ _ h => h) (Or.inl ⟨by rfl, by intro w hSw; go_simp⟩) (by assumption) ?_
  try simp only [Act.put, List.setIfInBounds_toArray, List.set_cons_zero, List.set_cons_succ]
  refine take_at (i := 3) 6 (v := .slice A1 m c1) rfl rfl (by kernel_rfl) (by kernel_rfl) (by kernel_rfl) (fun _ _ _ h => h) (Or.inl ⟨by rfl, by intro w1 hSw; have q := hSw.1.cell 1; go_simp⟩) (by assumption) ?_
  try simp only [Act.put, List.setIfInBounds_toArray, List.set_cons_zero, List.set_cons_succ]
  refine take_at (i := 5) 8 (v := .pointer (some ⟨w.heap.size, 2, none⟩)) rfl rfl (by kernel_rfl) (by kernel_rfl) (by kernel_rfl) (fun _ _ _ h => h) (Or.inl ⟨by rfl, by intro w hSw; go_simp⟩) (by assumption) ?_
  try simp only [Act.put, List.setIfInBounds_toArray, List.set_cons_zero, List.set_cons_succ]
  refine take_at (i := 6) 9 (v := .slice A2 m2 c2) rfl rfl (by kernel_rfl) (by kernel_rfl) (by kernel_rfl) (fun _ _ _ h => h) (Or.inl ⟨by rfl, by intro w1 hSw; have q := hSw.1.cell 2; go_simp⟩) (by assumption) ?_
  try simp only [Act.put, List.setIfInBounds_toArray, List.set_cons_zero, List.set_cons_succ]
  obtain ⟨v0, hv0⟩ : ∃ W, v.drew = W := ⟨_, rfl⟩
  rw [hv0] at HH hHeld ⊢
  clear hv0
  refine wpAnyH_ready (rs := [4]) (by kernel_rfl) (by simp) ?_
  refine AllReadyH.cons rfl (fun K hK => ?_) AllReadyH.nil
  go_simp
  refine (HC1.out _ (HS1.out _ (HX.out _ HH.out).2.2.2)).mono ?_
  rintro e u1 ⟨A1', c1', rfl, ho1, hb⟩
  have HO1 := hide (ho1.weaken HH.out.size)
  replace HH := hide (Below.step HH.out hb)
  clear hb ho1
  simp only []
  refine hK.out _ _ (⟨(HX.out _ HH.out).1, (HX.out _ HH.out).2.1⟩) (fun hHeld => ?_)
  clear hK K
  try simp only [Act.put, List.setIfInBounds_toArray, List.set_cons_zero, List.set_cons_succ]
  refine wpAnyH_ready (rs := [7]) (by kernel_rfl) (by simp) ?_
  refine AllReadyH.cons rfl (fun K hK => ?_) AllReadyH.nil
  go_simp
  refine (HC2.out _ (HS2.out _ (HX.out _ HH.out).2.2.2)).mono ?_
  rintro e u2 ⟨A2', c2', rfl, ho2, hb⟩
  have HO2 := hide (ho2.weaken HH.out.size)
  replace HO1 := hide (own_bel HO1.out hb)
  replace HH := hide (Below.step HH.out hb)
  clear hb ho2
  simp only []
  refine hK.out _ _ (⟨(HX.out _ HH.out).1, (HX.out _ HH.out).2.1⟩) (fun hHeld => ?_)
  clear hK K
  try simp only [Act.put, List.setIfInBounds_toArray, List.set_cons_zero, List.set_cons_succ]
  refine take_at (i := 8) 11 (v := .agg #[.int .i64 LL, .slice A1' m c1', .slice A2' m2 c2']) rfl rfl (by kernel_rfl) (by kernel_rfl) (by kernel_rfl) (fun _ _ _ h => h) (Or.inl ⟨by rfl, by intro w hSw; go_simp⟩) (by assumption) ?_
  try simp only [Act.put, List.setIfInBounds_toArray, List.set_cons_zero, List.set_cons_succ]
  refine wpAnyH_ready (rs := [9]) (by kernel_rfl) (by simp) ?_
  refine AllReadyH.cons rfl (fun K hK => ?_) AllReadyH.nil
  refine step_store_rowF rfl 24 (.tmp 2) (.tmp 11) rfl (w.heap.size + 1) #[.int .i64 LL, .slice A1' m c1', .slice A2' m2 c2'] rfl rfl 24 #[.int .i64 0, .slice none 0 0, .slice none 0 0] (HX.out u2 HH.out).2.2.1 (by kernel_rfl) rfl (by simp [Value.oneCell']) ?_
  have HRZ := hide ((HX.out u2 HH.out).2.2.1.row #[.int .i64 LL, .slice A1' m c1', .slice A2' m2 c2'])
  have HBZ := hide (show Below w.heap.size w (u2.setRow (w.heap.size + 1) #[.int .i64 LL, .slice A1' m c1', .slice A2' m2 c2']) from Below.row (HX.out u2 HH.out).2.2.2 (by omega) _)
  have hvz : (w.heap.size + 1) < v.heap.size := by rw [HVZ.out]; omega
  replace HO1 := hide (own_rowFar HO1.out hvz #[.int .i64 LL, .slice A1' m c1', .slice A2' m2 c2'])
  replace HO2 := hide (own_rowFar HO2.out hvz #[.int .i64 LL, .slice A1' m c1', .slice A2' m2 c2'])
  refine hK.out _ _ ⟨(HX.out u2 HH.out).1.rowFar (by omega) _, trivial⟩ (fun hHeld => ?_)
  clear hK K
  try simp only [Act.put, List.setIfInBounds_toArray]
  refine wpAnyH_done (by kernel_rfl) ?_ _
  go_wp2
  exact bodyPost_ret (results_cell_row rfl _ _ (w.heap.size + 1) 24 #[.int .i64 LL, .slice A1' m c1', .slice A2' m2 c2'] (0, 0) _ rfl HRZ.out Try.underlying24 rfl (by kernel_rfl)) rfl ⟨A1', A2', c1', c2', rfl, HO1.out.weaken (by rw [HVZ.out]; omega), HO2.out.weaken (by rw [HVZ.out]; omega), HBZ.out⟩
end Go.Proofs.Ytehcmhblppjalaa
