import Derived.Test.YthfmjohbokpceaaFouC
namespace Go.Proofs.Ythfmjohbokpceaa
open Go.RowKit Go.WideShapes Go.ChangeShapes

/-! wave.Four: the ok case -/
def foL (x : List (Int × Int)) (s : Bool) : List (Int × Int) := [fo x s 0 4, fo x s 1 4, fo x s 2 4, fo x s 3 4]
theorem kg9 {x : List (Int × Int)} (hx : eachE foE x = 0) (i : Nat) : cle 1000000000 (kg x i) := by
  unfold kg
  by_cases hi : i < x.length
  · rw [List.getElem?_eq_getElem hi]
    have h := eachE_ok hx _ (List.getElem_mem hi)
    unfold foE unlessE at h
    by_cases e : entB 1000000000 x[i] = true
    · exact (entB_iff _ _).mp e
    · rw [if_neg e] at h; exact absurd h (by decide)
  · rw [List.getElem?_eq_none (by omega)]; unfold cle; decide
theorem fo_le8 {x : List (Int × Int)} (hx : eachE foE x = 0) (s : Bool) (k : Nat) (hk : k < 4) : cle 8000000000 (fo x s k 4) := fo_le (kg9 hx) s k (by omega) 4 (by omega)
theorem Vis.at {x : List (Int × Int)} {s : Bool} {V : Array Value} (h : Vis x s V 4 0) {j : Nat} (hj : j < 4) : ∃ a b, V[j]? = some (.complex .f64 a b) ∧ IsC a b (fo x s j 4) := by
  obtain ⟨a, b, h1, h2⟩ := h.2 j hj
  exact ⟨a, b, h1, by unfold foV at h2; rw [if_pos hj] at h2; exact h2⟩
set_option maxRecDepth 100000 in
set_option maxHeartbeats 8000000 in
theorem Four_ok (x : List (Int × Int)) (w : World) (hx4 : x.length = 4) (hx : eachE foE x = 0) :
    Calls Try.prog 70 #[.agg (gv x).toArray] w fun e w' => e = .returned (.tuple #[.agg (gv (foL x true)).toArray, .int .i64 0]) ∧ Below w.heap.size w w' := by
  have HF := hide (fun W => four_ok x true _ _ isC_i W hx4 hx)
  have HG := hide (fun k (hk : k < 4) a b (h : IsC a b (fo x true k 4)) W => gauss_wave a b _ W h (by have := fo_le8 hx true k hk; unfold cle at *; omega))
  have HSZX := hide (show (gv x).toArray.size = 8 by simp [gv_len, hx4])
  have HL := hide (show (gv (foL x true)).toArray = #[.int .i64 (fo x true 0 4).1, .int .i64 (fo x true 0 4).2, .int .i64 (fo x true 1 4).1, .int .i64 (fo x true 1 4).2, .int .i64 (fo x true 2 4).1, .int .i64 (fo x true 2 4).2, .int .i64 (fo x true 3 4).1, .int .i64 (fo x true 3 4).2] from rfl)
  obtain ⟨X, hX⟩ : ∃ X, (gv x).toArray = X := ⟨_, rfl⟩
  rw [hX] at HSZX HF
  rw [hX, HL.out]
  clear hx4 hX hx
  have HT := hide ((stay_new w 105 X).alloc (.cells z8 105))
  have HR := hide (stay_blk (Blk.newN (w.alloc (.cells X 105)) 105 z8 (g := w.heap.size + 1) (by simp)))
  have HB := hide (stay_below (show Below w.heap.size w ((w.alloc (.cells X 105)).alloc (.cells z8 105)) from by go_grown))
  have hone4 : z4.all (·.oneCell') = true := by simp [z4, Value.oneCell']
  have hz4 : z4.size = 4 := rfl
  go_enter Try.func70, Try.ntmps70
  go_wp2_with (first
    | (refine wpList_load_row rfl 105 (.tmp 1) rfl w.heap.size rfl 105 X (0, 0) _ (by exact HT.out.now) Try.underlying105 rfl (by rw [HSZX.out]; kernel_rfl) ?_)
    | (go_at_call 149; go_must (refine (HF.out _).mono ?_; rintro e w1 ⟨V, hV, rfl, hb⟩; have hVS := hide hV.1; have hVO : V.all (·.oneCell') = true := (by rw [Array.all_eq_true]; intro j hj; obtain ⟨a2, b2, h1, _⟩ := hV.at (j := j) (by rw [hV.1] at hj; exact hj); obtain ⟨_, h2⟩ := Array.getElem?_eq_some_iff.1 h1; rw [h2]; rfl); replace HR := hide (HR.out.step hb); have hlt1 := HR.out.now.lt; replace HB := hide (HB.out.step hb); clear hb; simp only []))
    | (refine wpList_store_row rfl 200 (.tmp 4) (.tmp 9) rfl w1.heap.size V rfl rfl 200 z4 (Blk.new w1 _ _) (by rw [hVS.out]; kernel_rfl) (by rw [hVS.out]; rfl) hVO ?_; have hrow : Below w1.heap.size w1 ((w1.alloc (.cells z4 200)).setRow w1.heap.size V) := Below.row ((Below.refl _ _).alloc (Nat.le_refl _) _) (Nat.le_refl _) _; replace HR := hide (HR.out.step hrow); replace HB := hide (HB.out.step hrow); have HV := hide (stay_blk ((Blk.new w1 200 z4).row V)); clear hrow))
  obtain ⟨a0, b0, e0, i0⟩ := hV.at (j := 0) (by omega)
  obtain ⟨a1, b1, e1, i1⟩ := hV.at (j := 1) (by omega)
  obtain ⟨a2, b2, e2, i2⟩ := hV.at (j := 2) (by omega)
  obtain ⟨a3, b3, e3, i3⟩ := hV.at (j := 3) (by omega)
  have HG0 := hide (fun W => HG.out 0 (by omega) _ _ i0 W)
  have HE0 := hide e0
  have HG1 := hide (fun W => HG.out 1 (by omega) _ _ i1 W)
  have HE1 := hide e1
  have HG2 := hide (fun W => HG.out 2 (by omega) _ _ i2 W)
  have HE2 := hide e2
  have HG3 := hide (fun W => HG.out 3 (by omega) _ _ i3 W)
  have HE3 := hide e3
  obtain ⟨f0, hf0⟩ : ∃ f, fo x true 0 4 = f := ⟨_, rfl⟩
  rw [hf0] at HG0
  have HQ0 := hide hf0
  obtain ⟨f1, hf1⟩ : ∃ f, fo x true 1 4 = f := ⟨_, rfl⟩
  rw [hf1] at HG1
  have HQ1 := hide hf1
  obtain ⟨f2, hf2⟩ : ∃ f, fo x true 2 4 = f := ⟨_, rfl⟩
  rw [hf2] at HG2
  have HQ2 := hide hf2
  obtain ⟨f3, hf3⟩ : ∃ f, fo x true 3 4 = f := ⟨_, rfl⟩
  rw [hf3] at HG3
  have HQ3 := hide hf3
  obtain ⟨g, hg⟩ : ∃ g, w1.heap.size = g := ⟨_, rfl⟩
  obtain ⟨v0, hv0⟩ : ∃ W, ((w1.alloc (.cells z4 200)).setRow w1.heap.size V) = W := ⟨_, rfl⟩
  rw [hv0] at HR HB HV
  rw [show (w1.alloc (.cells #[.complex .f64 0 0, .complex .f64 0 0, .complex .f64 0 0, .complex .f64 0 0] 200)).setRow w1.heap.size V = v0 from hv0, hg]
  rw [hg] at HV hlt1
  clear hv0 hg HG HL i0 i1 i2 i3 e0 e1 e2 e3 hf0 hf1 hf2 hf3
  have HH0 := hide (show Below v0.heap.size v0 v0.drew from below_drewN (Below.refl _ _) 1)
  refine wp_region_held_drew (S := fun w' => Blk w' g 200 V) (by kernel_rfl) (HV.out _ HH0.out) (fun hHeld => ?_)
  refine take_at (i := 0) 15 (v := .pointer (some ⟨g, 0, none⟩)) rfl rfl (by kernel_rfl) (by kernel_rfl) (by kernel_rfl) (fun _ _ _ h => h) (Or.inl ⟨by rfl, by intro w hSw; go_simp⟩) (by assumption) ?_
  try simp only [Act.put, List.setIfInBounds_toArray, List.set_cons_zero, List.set_cons_succ]
  refine take_at (i := 1) 16 (v := .complex .f64 a0 b0) rfl rfl (by kernel_rfl) (by kernel_rfl) (by kernel_rfl) (fun _ _ _ h => h) (Or.inl ⟨by rfl, by intro w hSw; have c0 := hSw.cell 0; rw [HE0.out] at c0; go_simp⟩) (by assumption) ?_
  try simp only [Act.put, List.setIfInBounds_toArray, List.set_cons_zero, List.set_cons_succ]
  refine take_at (i := 3) 18 (v := .pointer (some ⟨g, 1, none⟩)) rfl rfl (by kernel_rfl) (by kernel_rfl) (by kernel_rfl) (fun _ _ _ h => h) (Or.inl ⟨by rfl, by intro w hSw; go_simp⟩) (by assumption) ?_
  try simp only [Act.put, List.setIfInBounds_toArray, List.set_cons_zero, List.set_cons_succ]
  refine take_at (i := 4) 19 (v := .complex .f64 a1 b1) rfl rfl (by kernel_rfl) (by kernel_rfl) (by kernel_rfl) (fun _ _ _ h => h) (Or.inl ⟨by rfl, by intro w hSw; have c0 := hSw.cell 1; rw [HE1.out] at c0; go_simp⟩) (by assumption) ?_
  try simp only [Act.put, List.setIfInBounds_toArray, List.set_cons_zero, List.set_cons_succ]
  refine take_at (i := 6) 21 (v := .pointer (some ⟨g, 2, none⟩)) rfl rfl (by kernel_rfl) (by kernel_rfl) (by kernel_rfl) (fun _ _ _ h => h) (Or.inl ⟨by rfl, by intro w hSw; go_simp⟩) (by assumption) ?_
  try simp only [Act.put, List.setIfInBounds_toArray, List.set_cons_zero, List.set_cons_succ]
  refine take_at (i := 7) 22 (v := .complex .f64 a2 b2) rfl rfl (by kernel_rfl) (by kernel_rfl) (by kernel_rfl) (fun _ _ _ h => h) (Or.inl ⟨by rfl, by intro w hSw; have c0 := hSw.cell 2; rw [HE2.out] at c0; go_simp⟩) (by assumption) ?_
  try simp only [Act.put, List.setIfInBounds_toArray, List.set_cons_zero, List.set_cons_succ]
  refine take_at (i := 9) 24 (v := .pointer (some ⟨g, 3, none⟩)) rfl rfl (by kernel_rfl) (by kernel_rfl) (by kernel_rfl) (fun _ _ _ h => h) (Or.inl ⟨by rfl, by intro w hSw; go_simp⟩) (by assumption) ?_
  try simp only [Act.put, List.setIfInBounds_toArray, List.set_cons_zero, List.set_cons_succ]
  refine take_at (i := 10) 25 (v := .complex .f64 a3 b3) rfl rfl (by kernel_rfl) (by kernel_rfl) (by kernel_rfl) (fun _ _ _ h => h) (Or.inl ⟨by rfl, by intro w hSw; have c0 := hSw.cell 3; rw [HE3.out] at c0; go_simp⟩) (by assumption) ?_
  try simp only [Act.put, List.setIfInBounds_toArray, List.set_cons_zero, List.set_cons_succ]
  obtain ⟨u0, hu0⟩ : ∃ W, v0.drew = W := ⟨_, rfl⟩
  rw [hu0] at HH0 hHeld ⊢
  clear hu0
  refine wpAnyH_ready (rs := [2]) (by kernel_rfl) (by simp) ?_
  refine AllReadyH.cons rfl (fun K hK => ?_) AllReadyH.nil
  go_simp
  refine (HG0.out _).mono ?_
  rintro e u1 ⟨rfl, hb⟩
  replace HH0 := hide (Below.step HH0.out hb)
  clear hb
  simp only []
  refine hK.out _ _ (HV.out _ HH0.out) (fun hHeld => ?_)
  clear hK K
  try simp only [Act.put, List.setIfInBounds_toArray, List.set_cons_zero, List.set_cons_succ]
  refine wpAnyH_ready (rs := [5]) (by kernel_rfl) (by simp) ?_
  refine AllReadyH.cons rfl (fun K hK => ?_) AllReadyH.nil
  go_simp
  refine (HG1.out _).mono ?_
  rintro e u2 ⟨rfl, hb⟩
  replace HH0 := hide (Below.step HH0.out hb)
  clear hb
  simp only []
  refine hK.out _ _ (HV.out _ HH0.out) (fun hHeld => ?_)
  clear hK K
  try simp only [Act.put, List.setIfInBounds_toArray, List.set_cons_zero, List.set_cons_succ]
  refine wpAnyH_ready (rs := [8]) (by kernel_rfl) (by simp) ?_
  refine AllReadyH.cons rfl (fun K hK => ?_) AllReadyH.nil
  go_simp
  refine (HG2.out _).mono ?_
  rintro e u3 ⟨rfl, hb⟩
  replace HH0 := hide (Below.step HH0.out hb)
  clear hb
  simp only []
  refine hK.out _ _ (HV.out _ HH0.out) (fun hHeld => ?_)
  clear hK K
  try simp only [Act.put, List.setIfInBounds_toArray, List.set_cons_zero, List.set_cons_succ]
  refine wpAnyH_ready (rs := [11]) (by kernel_rfl) (by simp) ?_
  refine AllReadyH.cons rfl (fun K hK => ?_) AllReadyH.nil
  go_simp
  refine (HG3.out _).mono ?_
  rintro e u4 ⟨rfl, hb⟩
  replace HH0 := hide (Below.step HH0.out hb)
  clear hb
  simp only []
  refine hK.out _ _ (HV.out _ HH0.out) (fun hHeld => ?_)
  clear hK K
  try simp only [Act.put, List.setIfInBounds_toArray, List.set_cons_zero, List.set_cons_succ]
  refine take_at (i := 12) 27 (v := .agg #[.int .i64 f0.1, .int .i64 f0.2, .int .i64 f1.1, .int .i64 f1.2, .int .i64 f2.1, .int .i64 f2.2, .int .i64 f3.1, .int .i64 f3.2]) rfl rfl (by kernel_rfl) (by kernel_rfl) (by kernel_rfl) (fun _ _ _ h => h) (Or.inl ⟨by rfl, by intro w hSw; go_simp⟩) (by assumption) ?_
  try simp only [Act.put, List.setIfInBounds_toArray, List.set_cons_zero, List.set_cons_succ]
  refine wpAnyH_ready (rs := [13]) (by kernel_rfl) (by simp) ?_
  refine AllReadyH.cons rfl (fun K hK => ?_) AllReadyH.nil
  refine step_store_rowF rfl 105 (.tmp 2) (.tmp 27) rfl (w.heap.size + 1) #[.int .i64 f0.1, .int .i64 f0.2, .int .i64 f1.1, .int .i64 f1.2, .int .i64 f2.1, .int .i64 f2.2, .int .i64 f3.1, .int .i64 f3.2] rfl rfl 105 z8 (HR.out u4 HH0.out) (by kernel_rfl) rfl (by simp [Value.oneCell']) ?_
  have HRZ := hide ((HR.out u4 HH0.out).row #[.int .i64 f0.1, .int .i64 f0.2, .int .i64 f1.1, .int .i64 f1.2, .int .i64 f2.1, .int .i64 f2.2, .int .i64 f3.1, .int .i64 f3.2])
  have HBZ := hide (show Below w.heap.size w (u4.setRow (w.heap.size + 1) #[.int .i64 f0.1, .int .i64 f0.2, .int .i64 f1.1, .int .i64 f1.2, .int .i64 f2.1, .int .i64 f2.2, .int .i64 f3.1, .int .i64 f3.2]) from Below.row (HB.out u4 HH0.out) (by omega) _)
  refine hK.out _ _ ((HV.out u4 HH0.out).rowFar (by omega) _) (fun hHeld => ?_)
  clear hK K
  try simp only [Act.put, List.setIfInBounds_toArray]
  refine take_at (i := 14) 3 (v := .int .i64 0) rfl rfl (by kernel_rfl) (by kernel_rfl) (by kernel_rfl) (fun _ _ _ h => h) (Or.inl ⟨by rfl, by intro w hSw; go_simp⟩) (by assumption) ?_
  try simp only [Act.put]
  refine wpAnyH_done (by kernel_rfl) ?_ _
  go_wp2
  exact bodyPost_ret (results_row_tmp rfl _ _ (w.heap.size + 1) 105 #[.int .i64 f0.1, .int .i64 f0.2, .int .i64 f1.1, .int .i64 f1.2, .int .i64 f2.1, .int .i64 f2.2, .int .i64 f3.1, .int .i64 f3.2] _ (.int .i64 0) rfl rfl HRZ.out Try.underlying105 rfl (by kernel_rfl)) rfl ⟨by rw [HQ0.out, HQ1.out, HQ2.out, HQ3.out], HBZ.out⟩
end Go.Proofs.Ythfmjohbokpceaa
