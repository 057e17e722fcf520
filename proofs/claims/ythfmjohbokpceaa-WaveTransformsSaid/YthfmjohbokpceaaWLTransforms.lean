import Derived.Test.YthfmjohbokpceaaWvEG
import Derived.Test.YthfmjohbokpceaaListN
import Derived.Test.YthfmjohbokpceaaListG
import Derived.Test.YthfmjohbokpceaaGuards
import Derived.Test.YthfmjohbokpceaaStay
namespace Go.Proofs.Ythfmjohbokpceaa
open Go.RowKit Go.WideShapes Go.ChangeShapes

/-! the statement WaveTransforms -/
theorem small_all8 (l : List Nm) : (eachE numE l == 0) = l.all (fitsB 1000000000) := by
  cases h : l.all (fitsB 1000000000)
  · rw [beq_eq_false_iff_ne]
    intro h0
    have : l.all (fitsB 1000000000) = true := by
      rw [List.all_eq_true]
      intro x hx
      exact (fitsB_iff _ _).2 (numE_ok (eachE_ok h0 x hx))
    rw [h] at this
    exact absurd this (by decide)
  · rw [beq_iff_eq]
    refine eachE_zero fun x hx => ?_
    rw [List.all_eq_true] at h
    unfold numE unlessE
    rw [h x hx]; rfl
theorem tr_key1 (x : List (Int × Int)) (hx8 : x.length = 8) : ∃ (D e : Int) (A : Array Value), Hid (∀ W, Calls Try.prog 88 #[.agg (gv x).toArray] W fun r w' => r = .returned (.tuple #[.agg A, .int .i64 e]) ∧ Below W.heap.size W w') ∧
    Hid (∀ W g, Blk W g 137 (gv x).toArray → Calls Try.prog 59 #[.slice (some ⟨g, 0, none⟩) 8 8] W fun r w' => r = .returned (.int .i64 D) ∧ Below W.heap.size W w') ∧ A.size = 32 ∧ A.all (·.oneCell') = true ∧
    (((D != 0) = true ∧ e = D ∧ ∀ w, (binOp .neq 96 (.agg A) (.agg #[.int .i64 0, .int .i64 0, .int .i64 0, .int .i64 0, .int .i64 0, .int .i64 0, .int .i64 0, .int .i64 0, .int .i64 0, .int .i64 0, .int .i64 0, .int .i64 0, .int .i64 0, .int .i64 0, .int .i64 0, .int .i64 0, .int .i64 0, .int .i64 0, .int .i64 0, .int .i64 0, .int .i64 0, .int .i64 0, .int .i64 0, .int .i64 0, .int .i64 0, .int .i64 0, .int .i64 0, .int .i64 0, .int .i64 0, .int .i64 0, .int .i64 0, .int .i64 0])).run Try.prog w = .ok (.bool false) w) ∨
     (D = 0 ∧ e = 0 ∧ Hid (∀ W, Calls Try.prog 91 #[.agg (gv x).toArray] W fun r w' => r = .returned (.agg A) ∧ Below W.heap.size W w') ∧ ∀ w, (binOp .neq 96 (.agg A) (.agg A)).run Try.prog w = .ok (.bool false) w)) := by
  have HE := hide (fun W g (h : Blk W g 137 (gv x).toArray) => by have := errGauss (some ⟨g, 0, none⟩) 8 x W h.sl (by omega); rw [hx8] at this; exact this)
  by_cases h : eachE entE x = 0
  · rw [h] at HE
    refine ⟨0, 0, (nvs (smpL x 8)).toArray, hide (fun W => Samples_ok x W hx8 h), HE, by simp [nvs_len, smpL, tab_len], by rw [← numArr_full (smpL x 8) 8 (tab_len _ 8)]; exact numArr_one _ _, .inr ⟨rfl, rfl, hide (fun W => samples_ref x W hx8 (eachE_ok h)), ?_⟩⟩
    rw [← numArr_full (smpL x 8) 8 (tab_len _ 8)]
    exact arr8_neq _ (by simp [smpL, tab_len])
  · exact ⟨eachE entE x, eachE entE x, numArr [] 8, hide (fun W => Samples_err x W hx8 h), HE, numArr_size _ 8 (by simp), numArr_one _ _, .inl ⟨by rw [bne_iff_ne]; exact h, rfl, fun w => arr8_neq [] (by simp) w⟩⟩
theorem tr_key2 (y : List Nm) (hy8 : y.length = 8) : ∃ (D f g : Int) (B C : Array Value), Hid (∀ W, Calls Try.prog 89 #[.agg (nvs y).toArray] W fun r w' => r = .returned (.tuple #[.agg B, .int .i64 f]) ∧ Below W.heap.size W w') ∧
    Hid (∀ W, Calls Try.prog 90 #[.agg (nvs y).toArray] W fun r w' => r = .returned (.tuple #[.agg C, .int .i64 g]) ∧ Below W.heap.size W w') ∧
    Hid (∀ W g, Blk W g 96 (nvs y).toArray → Calls Try.prog 92 #[.slice (some ⟨g, 0, none⟩) 8 8] W fun r w' => r = .returned (.int .i64 D) ∧ Below W.heap.size W w') ∧
    B.size = 32 ∧ B.all (·.oneCell') = true ∧ C.size = 16 ∧ C.all (·.oneCell') = true ∧
    (((D != 0) = true ∧ f = D ∧ g = D ∧ (∀ w, (binOp .eql 96 (.agg B) (.agg #[.int .i64 0, .int .i64 0, .int .i64 0, .int .i64 0, .int .i64 0, .int .i64 0, .int .i64 0, .int .i64 0, .int .i64 0, .int .i64 0, .int .i64 0, .int .i64 0, .int .i64 0, .int .i64 0, .int .i64 0, .int .i64 0, .int .i64 0, .int .i64 0, .int .i64 0, .int .i64 0, .int .i64 0, .int .i64 0, .int .i64 0, .int .i64 0, .int .i64 0, .int .i64 0, .int .i64 0, .int .i64 0, .int .i64 0, .int .i64 0, .int .i64 0, .int .i64 0])).run Try.prog w = .ok (.bool true) w) ∧ (∀ w, (binOp .eql 137 (.agg C) (.agg #[.int .i64 0, .int .i64 0, .int .i64 0, .int .i64 0, .int .i64 0, .int .i64 0, .int .i64 0, .int .i64 0, .int .i64 0, .int .i64 0, .int .i64 0, .int .i64 0, .int .i64 0, .int .i64 0, .int .i64 0, .int .i64 0])).run Try.prog w = .ok (.bool true) w)) ∨
     (D = 0 ∧ Hid (∀ W, Calls Try.prog 94 #[.agg (nvs y).toArray] W fun r w' => r = .returned (.tuple #[.agg C, .int .i64 g]) ∧ Below W.heap.size W w') ∧ (∀ w, (binOp .eql 137 (.agg C) (.agg C)).run Try.prog w = .ok (.bool true) w) ∧
      ∃ B2 : Array Value, Hid (∀ W, Calls Try.prog 93 #[.agg (nvs y).toArray] W fun r w' => r = .returned (.agg B2) ∧ Below W.heap.size W w') ∧ B2.size = 32 ∧ B2.all (·.oneCell') = true ∧
       ((f = 0 ∧ Hid (∀ W g, Blk W g 96 B2 → Calls Try.prog 69 #[.slice (some ⟨g, 0, none⟩) 8 8] W fun r w' => r = .returned (.bool true) ∧ Below W.heap.size W w') ∧ (∀ w, (binOp .neq 96 (.agg B) (.agg B2)).run Try.prog w = .ok (.bool false) w)) ∨
        (f = 8 ∧ Hid (∀ W g, Blk W g 96 B2 → Calls Try.prog 69 #[.slice (some ⟨g, 0, none⟩) 8 8] W fun r w' => r = .returned (.bool false) ∧ Below W.heap.size W w') ∧ (∀ w, (binOp .neq 96 (.agg B) (.agg #[.int .i64 0, .int .i64 0, .int .i64 0, .int .i64 0, .int .i64 0, .int .i64 0, .int .i64 0, .int .i64 0, .int .i64 0, .int .i64 0, .int .i64 0, .int .i64 0, .int .i64 0, .int .i64 0, .int .i64 0, .int .i64 0, .int .i64 0, .int .i64 0, .int .i64 0, .int .i64 0, .int .i64 0, .int .i64 0, .int .i64 0, .int .i64 0, .int .i64 0, .int .i64 0, .int .i64 0, .int .i64 0, .int .i64 0, .int .i64 0, .int .i64 0, .int .i64 0])).run Try.prog w = .ok (.bool false) w))))) := by
  have HE := hide (fun W g (h : Blk W g 96 (nvs y).toArray) => by have := errNum (some ⟨g, 0, none⟩) 8 y W h.sl (by omega); rw [hy8] at this; exact this)
  by_cases h : eachE numE y = 0
  · rw [h] at HE
    have hyl : ∀ z ∈ y, nle 1000000000 z := fun z hz => numE_ok (eachE_ok h z hz)
    have hl8 : (trL y 8).length = 8 := trL_len y 8
    have HAS : ∀ v, (trL y 8).all (fitsB 1000000000) = v → Hid (∀ W g, Blk W g 96 (nvs (trL y 8)).toArray → Calls Try.prog 69 #[.slice (some ⟨g, 0, none⟩) 8 8] W fun r w' => r = .returned (.bool v) ∧ Below W.heap.size W w') := fun v hv => hide (fun W g hb => by
      have := areSmall_ref (some ⟨g, 0, none⟩) 8 (trL y 8) W hb.sl (by omega)
      rw [small_all8, hl8, hv] at this
      exact this)
    have hsz : (nvs (trL y 8)).toArray.size = 32 := by simp [nvs_len, hl8]
    have hone : (nvs (trL y 8)).toArray.all (·.oneCell') = true := by rw [← numArr_full (trL y 8) 8 hl8]; exact numArr_one _ _
    obtain ⟨C, g, hsp, hc1, hc2, hc3⟩ : ∃ (C : Array Value) (g : Int), spOut (trL y 8) = .tuple #[.agg C, .int .i64 g] ∧ C.size = 16 ∧ C.all (·.oneCell') = true ∧ ∀ w, (binOp .eql 137 (.agg C) (.agg C)).run Try.prog w = .ok (.bool true) w := by
      cases ha : (trL y 8).all spB
      · exact ⟨_, _, spOut_bad ha, garr_size _ 8 (by simp), garr_one _ _, ga8_eql _ (by simp)⟩
      · exact ⟨_, _, spOut_good ha, garr_size _ 8 (by simp [hl8]), garr_one _ _, ga8_eql _ (by simp [hl8])⟩
    have HS1 := hide (fun W => by have := Spectrum_wave y W hy8 h; rw [hsp] at this; exact this)
    have HS2 := hide (fun W => by have := Spectrum_ref y W hy8 h; rw [hsp] at this; exact this)
    cases ha : (trL y 8).all (fitsB 1000000000)
    · exact ⟨0, 8, g, numArr [] 8, C, hide (fun W => Transform_large y W hy8 h ha), HS1, HE, numArr_size _ 8 (by simp), numArr_one _ _, hc1, hc2, .inr ⟨rfl, HS2, hc3, (nvs (trL y 8)).toArray, hide (fun W => transform_ref y W hy8 hyl), hsz, hone, .inr ⟨rfl, HAS _ ha, fun w => arr8_neq [] (by simp) w⟩⟩⟩
    · refine ⟨0, 0, g, (nvs (trL y 8)).toArray, C, hide (fun W => Transform_ok y W hy8 h ha), HS1, HE, hsz, hone, hc1, hc2, .inr ⟨rfl, HS2, hc3, (nvs (trL y 8)).toArray, hide (fun W => transform_ref y W hy8 hyl), hsz, hone, .inl ⟨rfl, HAS _ ha, ?_⟩⟩⟩
      rw [← numArr_full (trL y 8) 8 hl8]
      exact arr8_neq _ (by simp [hl8])
  · exact ⟨eachE numE y, eachE numE y, eachE numE y, numArr [] 8, garr [] 8, hide (fun W => Transform_err y W hy8 h), hide (fun W => Spectrum_err y W hy8 h), HE, numArr_size _ 8 (by simp), numArr_one _ _, garr_size _ 8 (by simp), garr_one _ _,
      .inl ⟨by rw [bne_iff_ne]; exact h, rfl, rfl, fun w => arr8_eql [] (by simp) w, fun w => ga8_eql [] (by simp) w⟩⟩
set_option maxRecDepth 100000 in
set_option maxHeartbeats 20000000 in
theorem WaveTransforms_law (x : List (Int × Int)) (hx8 : x.length = 8) (y : List Nm) (hy8 : y.length = 8) (w : World) :
    Calls Try.prog 16 #[.agg (gv x).toArray, .agg (nvs y).toArray] w fun e w' => e = .returned (.bool true) ∧ Below w.heap.size w w' := by
  have hsl1 := slice_ga8
  have hsl2 := slice_wn8
  obtain ⟨D, e, A, HSAM, HEE, ha1, ha2, k1⟩ := tr_key1 x hx8
  obtain ⟨D2, f, g, B, C, HTRA, HSPE, HNE, hb1, hb2, hc1, hc2, k2⟩ := tr_key2 y hy8
  have hX1 : (gv x).toArray.size = 16 := by simp [gv_len, hx8]
  have hY1 : (nvs y).toArray.size = 32 := by simp [nvs_len, hy8]
  obtain ⟨X, hX⟩ : ∃ X, (gv x).toArray = X := ⟨_, rfl⟩
  obtain ⟨Y, hY⟩ : ∃ Y, (nvs y).toArray = Y := ⟨_, rfl⟩
  rw [hX] at hX1 HSAM HEE k1
  rw [hY] at hY1 HTRA HSPE HNE k2
  rw [hX, hY]
  have HXZ := hide hX1
  have HYZ := hide hY1
  have HAZ := hide ha1
  have HBZ := hide hb1
  have HCZ := hide hc1
  have HA1 := hide ha2
  have HB1 := hide hb2
  have HC1 := hide hc2
  clear hX hY hX1 hY1 ha1 ha2 hb1 hb2 hc1 hc2 hx8 hy8
  have HT0 := hide (((stay_blk ((Blk.new w 137 X).alloc (.cells Y 96))).and (stay_blk (show Blk ((w.alloc (.cells X 137)).alloc (.cells Y 96)) (w.heap.size + 1) 96 Y from Blk.newN _ _ _ (by simp)))).and (stay_below (show Below w.heap.size w ((w.alloc (.cells X 137)).alloc (.cells Y 96)) from ((Below.refl _ _).alloc (Nat.le_refl _) _).alloc (by simp) _)))
  rcases k1 with ⟨hD, rfl, hqA⟩ | ⟨rfl, rfl, HRS, hqA⟩ <;> rcases k2 with ⟨hD2, rfl, rfl, hqB, hqC⟩ | ⟨rfl, HRSP, hqC, B2, HRT, hw1, hw2, ⟨rfl, HAS, hqB⟩ | ⟨rfl, HAS, hqB⟩⟩
  · go_enter Try.func16, Try.ntmps16
    go_wp2_with (first
      | (go_at_call 20; go_must (refine (awake_ok _).mono ?_; rintro e w1 ⟨rfl, hb⟩; have HT := hide (HT0.out.step hb); clear hb; simp only []))
      | (refine wpList_load_row rfl 137 (.tmp 2) rfl (w.heap.size) rfl 137 X (0, 0) _ HT.out.now.1.1 Try.underlying137 rfl (by rw [HXZ.out]; kernel_rfl) ?_)
      | (go_at_call 88; go_must (refine (HSAM.out _).mono ?_; rintro e w2 ⟨rfl, hb⟩; replace HT := hide (HT.out.step hb); (try replace HA := hide (HA.out.step hb)); (try replace HB := hide (HB.out.step hb)); (try replace HC := hide (HC.out.step hb)); (try replace HW := hide (HW.out.step hb)); clear hb; simp only []))
      | (refine wpList_store_row rfl 96 (.tmp 5) (.tmp 21) rfl w2.heap.size A rfl rfl 96 (numArr [] 8) (Blk.new w2 _ _) (by rw [HAZ.out]; kernel_rfl) (by rw [HAZ.out]; rfl) HA1.out ?_; have hrow : Below w2.heap.size w2 ((w2.alloc (.cells (numArr [] 8) 96)).setRow w2.heap.size A) := Below.row ((Below.refl _ _).alloc (Nat.le_refl _) _) (Nat.le_refl _) _; replace HT := hide (HT.out.step hrow); (try replace HA := hide (HA.out.step hrow)); (try replace HB := hide (HB.out.step hrow)); (try replace HC := hide (HC.out.step hrow)); (try replace HW := hide (HW.out.step hrow)); clear hrow; have HA := hide (stay_blk ((Blk.new w2 96 (numArr [] 8)).row A)))
      | (refine wpList_load_row rfl 96 (.tmp 3) rfl (w.heap.size + 1) rfl 96 Y (0, 0) _ HT.out.now.1.2 Try.underlying96 rfl (by rw [HYZ.out]; kernel_rfl) ?_)
      | (go_at_call 89; go_must (refine (HTRA.out _).mono ?_; rintro e w3 ⟨rfl, hb⟩; replace HT := hide (HT.out.step hb); (try replace HA := hide (HA.out.step hb)); (try replace HB := hide (HB.out.step hb)); (try replace HC := hide (HC.out.step hb)); (try replace HW := hide (HW.out.step hb)); clear hb; simp only []))
      | (refine wpList_store_row rfl 96 (.tmp 7) (.tmp 26) rfl w3.heap.size B rfl rfl 96 (numArr [] 8) (Blk.new w3 _ _) (by rw [HBZ.out]; kernel_rfl) (by rw [HBZ.out]; rfl) HB1.out ?_; have hrow : Below w3.heap.size w3 ((w3.alloc (.cells (numArr [] 8) 96)).setRow w3.heap.size B) := Below.row ((Below.refl _ _).alloc (Nat.le_refl _) _) (Nat.le_refl _) _; replace HT := hide (HT.out.step hrow); (try replace HA := hide (HA.out.step hrow)); (try replace HB := hide (HB.out.step hrow)); (try replace HC := hide (HC.out.step hrow)); (try replace HW := hide (HW.out.step hrow)); clear hrow; have HB := hide (stay_blk ((Blk.new w3 96 (numArr [] 8)).row B)))
      | (go_at_call 90; go_must (refine (HSPE.out _).mono ?_; rintro e w4 ⟨rfl, hb⟩; replace HT := hide (HT.out.step hb); (try replace HA := hide (HA.out.step hb)); (try replace HB := hide (HB.out.step hb)); (try replace HC := hide (HC.out.step hb)); (try replace HW := hide (HW.out.step hb)); clear hb; simp only []))
      | (refine wpList_store_row rfl 137 (.tmp 9) (.tmp 31) rfl w4.heap.size C rfl rfl 137 (garr [] 8) (Blk.new w4 _ _) (by rw [HCZ.out]; kernel_rfl) (by rw [HCZ.out]; rfl) HC1.out ?_; have hrow : Below w4.heap.size w4 ((w4.alloc (.cells (garr [] 8) 137)).setRow w4.heap.size C) := Below.row ((Below.refl _ _).alloc (Nat.le_refl _) _) (Nat.le_refl _) _; replace HT := hide (HT.out.step hrow); (try replace HA := hide (HA.out.step hrow)); (try replace HB := hide (HB.out.step hrow)); (try replace HC := hide (HC.out.step hrow)); (try replace HW := hide (HW.out.step hrow)); clear hrow; have HC := hide (stay_blk ((Blk.new w4 137 (garr [] 8)).row C)))
      | (go_at_call 59; go_must (refine (HEE.out _ _ HT.out.now.1.1).mono ?_; rintro e w5 ⟨rfl, hb⟩; replace HT := hide (HT.out.step hb); (try replace HA := hide (HA.out.step hb)); (try replace HB := hide (HB.out.step hb)); (try replace HC := hide (HC.out.step hb)); (try replace HW := hide (HW.out.step hb)); clear hb; simp only []))
      | (refine wpList_load_rowG 96 (.tmp 5) rfl (by rfl) (w2.heap.size) rfl 96 A _ HA.out.now Try.underlying96 rfl (by rw [HAZ.out]; kernel_rfl) ?_)
      | (go_at_call 92; go_must (refine (HNE.out _ _ HT.out.now.1.2).mono ?_; rintro e w6 ⟨rfl, hb⟩; replace HT := hide (HT.out.step hb); (try replace HA := hide (HA.out.step hb)); (try replace HB := hide (HB.out.step hb)); (try replace HC := hide (HC.out.step hb)); (try replace HW := hide (HW.out.step hb)); clear hb; simp only []))
      | (refine wpList_load_rowG 96 (.tmp 7) rfl (by rfl) (w3.heap.size) rfl 96 B _ HB.out.now Try.underlying96 rfl (by rw [HBZ.out]; kernel_rfl) ?_)
      | (refine wpList_load_rowG 137 (.tmp 9) rfl (by rfl) (w4.heap.size) rfl 137 C _ HC.out.now Try.underlying137 rfl (by rw [HCZ.out]; kernel_rfl) ?_)
      | (refine wpList_load_row rfl 96 (.tmp 3) rfl (w.heap.size + 1) rfl 96 Y (0, 0) _ HT.out.now.1.2 Try.underlying96 rfl (by rw [HYZ.out]; kernel_rfl) ?_)
      | (go_at_call 93; go_must (refine (HRT.out _).mono ?_; rintro e w7 ⟨rfl, hb⟩; replace HT := hide (HT.out.step hb); (try replace HA := hide (HA.out.step hb)); (try replace HB := hide (HB.out.step hb)); (try replace HC := hide (HC.out.step hb)); (try replace HW := hide (HW.out.step hb)); clear hb; simp only []))
      | (refine wpList_store_row rfl 96 (.tmp 13) (.tmp 76) rfl w7.heap.size B2 rfl rfl 96 (numArr [] 8) (Blk.new w7 _ _) (by rw [hw1]; kernel_rfl) (by rw [hw1]; rfl) hw2 ?_; have hrow : Below w7.heap.size w7 ((w7.alloc (.cells (numArr [] 8) 96)).setRow w7.heap.size B2) := Below.row ((Below.refl _ _).alloc (Nat.le_refl _) _) (Nat.le_refl _) _; replace HT := hide (HT.out.step hrow); (try replace HA := hide (HA.out.step hrow)); (try replace HB := hide (HB.out.step hrow)); (try replace HC := hide (HC.out.step hrow)); (try replace HW := hide (HW.out.step hrow)); clear hrow; have HW := hide (stay_blk ((Blk.new w7 96 (numArr [] 8)).row B2)))
      | (go_at_call 69; go_must (refine (HAS.out _ _ HW.out.now).mono ?_; rintro e w8 ⟨rfl, hb⟩; replace HT := hide (HT.out.step hb); (try replace HA := hide (HA.out.step hb)); (try replace HB := hide (HB.out.step hb)); (try replace HC := hide (HC.out.step hb)); (try replace HW := hide (HW.out.step hb)); clear hb; simp only []))
      | (refine wpList_load_rowG 96 (.tmp 13) rfl (by rfl) (w7.heap.size) rfl 96 B2 _ HW.out.now Try.underlying96 rfl (by rw [hw1]; kernel_rfl) ?_)
      | (go_at_call 94; go_must (refine (HRSP.out _).mono ?_; rintro e w9 ⟨rfl, hb⟩; replace HT := hide (HT.out.step hb); (try replace HA := hide (HA.out.step hb)); (try replace HB := hide (HB.out.step hb)); (try replace HC := hide (HC.out.step hb)); (try replace HW := hide (HW.out.step hb)); clear hb; simp only []))
      | (refine wpList_store_row rfl 137 (.tmp 14) (.tmp 96) rfl w9.heap.size C rfl rfl 137 (garr [] 8) (Blk.new w9 _ _) (by rw [HCZ.out]; kernel_rfl) (by rw [HCZ.out]; rfl) HC1.out ?_; have hrow : Below w9.heap.size w9 ((w9.alloc (.cells (garr [] 8) 137)).setRow w9.heap.size C) := Below.row ((Below.refl _ _).alloc (Nat.le_refl _) _) (Nat.le_refl _) _; replace HT := hide (HT.out.step hrow); (try replace HA := hide (HA.out.step hrow)); (try replace HB := hide (HB.out.step hrow)); (try replace HC := hide (HC.out.step hrow)); (try replace HW := hide (HW.out.step hrow)); clear hrow; have HS := hide (stay_blk ((Blk.new w9 137 (garr [] 8)).row C)))
      | (refine wpList_load_rowG 137 (.tmp 14) rfl (by rfl) (w9.heap.size) rfl 137 C _ HS.out.now Try.underlying137 rfl (by rw [HCZ.out]; kernel_rfl) ?_))
    go_ret
    exact ⟨rfl, HT.out.now.2⟩
  · go_enter Try.func16, Try.ntmps16
    go_wp2_with (first
      | (go_at_call 20; go_must (refine (awake_ok _).mono ?_; rintro e w1 ⟨rfl, hb⟩; have HT := hide (HT0.out.step hb); clear hb; simp only []))
      | (refine wpList_load_row rfl 137 (.tmp 2) rfl (w.heap.size) rfl 137 X (0, 0) _ HT.out.now.1.1 Try.underlying137 rfl (by rw [HXZ.out]; kernel_rfl) ?_)
      | (go_at_call 88; go_must (refine (HSAM.out _).mono ?_; rintro e w2 ⟨rfl, hb⟩; replace HT := hide (HT.out.step hb); (try replace HA := hide (HA.out.step hb)); (try replace HB := hide (HB.out.step hb)); (try replace HC := hide (HC.out.step hb)); (try replace HW := hide (HW.out.step hb)); clear hb; simp only []))
      | (refine wpList_store_row rfl 96 (.tmp 5) (.tmp 21) rfl w2.heap.size A rfl rfl 96 (numArr [] 8) (Blk.new w2 _ _) (by rw [HAZ.out]; kernel_rfl) (by rw [HAZ.out]; rfl) HA1.out ?_; have hrow : Below w2.heap.size w2 ((w2.alloc (.cells (numArr [] 8) 96)).setRow w2.heap.size A) := Below.row ((Below.refl _ _).alloc (Nat.le_refl _) _) (Nat.le_refl _) _; replace HT := hide (HT.out.step hrow); (try replace HA := hide (HA.out.step hrow)); (try replace HB := hide (HB.out.step hrow)); (try replace HC := hide (HC.out.step hrow)); (try replace HW := hide (HW.out.step hrow)); clear hrow; have HA := hide (stay_blk ((Blk.new w2 96 (numArr [] 8)).row A)))
      | (refine wpList_load_row rfl 96 (.tmp 3) rfl (w.heap.size + 1) rfl 96 Y (0, 0) _ HT.out.now.1.2 Try.underlying96 rfl (by rw [HYZ.out]; kernel_rfl) ?_)
      | (go_at_call 89; go_must (refine (HTRA.out _).mono ?_; rintro e w3 ⟨rfl, hb⟩; replace HT := hide (HT.out.step hb); (try replace HA := hide (HA.out.step hb)); (try replace HB := hide (HB.out.step hb)); (try replace HC := hide (HC.out.step hb)); (try replace HW := hide (HW.out.step hb)); clear hb; simp only []))
      | (refine wpList_store_row rfl 96 (.tmp 7) (.tmp 26) rfl w3.heap.size B rfl rfl 96 (numArr [] 8) (Blk.new w3 _ _) (by rw [HBZ.out]; kernel_rfl) (by rw [HBZ.out]; rfl) HB1.out ?_; have hrow : Below w3.heap.size w3 ((w3.alloc (.cells (numArr [] 8) 96)).setRow w3.heap.size B) := Below.row ((Below.refl _ _).alloc (Nat.le_refl _) _) (Nat.le_refl _) _; replace HT := hide (HT.out.step hrow); (try replace HA := hide (HA.out.step hrow)); (try replace HB := hide (HB.out.step hrow)); (try replace HC := hide (HC.out.step hrow)); (try replace HW := hide (HW.out.step hrow)); clear hrow; have HB := hide (stay_blk ((Blk.new w3 96 (numArr [] 8)).row B)))
      | (go_at_call 90; go_must (refine (HSPE.out _).mono ?_; rintro e w4 ⟨rfl, hb⟩; replace HT := hide (HT.out.step hb); (try replace HA := hide (HA.out.step hb)); (try replace HB := hide (HB.out.step hb)); (try replace HC := hide (HC.out.step hb)); (try replace HW := hide (HW.out.step hb)); clear hb; simp only []))
      | (refine wpList_store_row rfl 137 (.tmp 9) (.tmp 31) rfl w4.heap.size C rfl rfl 137 (garr [] 8) (Blk.new w4 _ _) (by rw [HCZ.out]; kernel_rfl) (by rw [HCZ.out]; rfl) HC1.out ?_; have hrow : Below w4.heap.size w4 ((w4.alloc (.cells (garr [] 8) 137)).setRow w4.heap.size C) := Below.row ((Below.refl _ _).alloc (Nat.le_refl _) _) (Nat.le_refl _) _; replace HT := hide (HT.out.step hrow); (try replace HA := hide (HA.out.step hrow)); (try replace HB := hide (HB.out.step hrow)); (try replace HC := hide (HC.out.step hrow)); (try replace HW := hide (HW.out.step hrow)); clear hrow; have HC := hide (stay_blk ((Blk.new w4 137 (garr [] 8)).row C)))
      | (go_at_call 59; go_must (refine (HEE.out _ _ HT.out.now.1.1).mono ?_; rintro e w5 ⟨rfl, hb⟩; replace HT := hide (HT.out.step hb); (try replace HA := hide (HA.out.step hb)); (try replace HB := hide (HB.out.step hb)); (try replace HC := hide (HC.out.step hb)); (try replace HW := hide (HW.out.step hb)); clear hb; simp only []))
      | (refine wpList_load_rowG 96 (.tmp 5) rfl (by rfl) (w2.heap.size) rfl 96 A _ HA.out.now Try.underlying96 rfl (by rw [HAZ.out]; kernel_rfl) ?_)
      | (go_at_call 92; go_must (refine (HNE.out _ _ HT.out.now.1.2).mono ?_; rintro e w6 ⟨rfl, hb⟩; replace HT := hide (HT.out.step hb); (try replace HA := hide (HA.out.step hb)); (try replace HB := hide (HB.out.step hb)); (try replace HC := hide (HC.out.step hb)); (try replace HW := hide (HW.out.step hb)); clear hb; simp only []))
      | (refine wpList_load_rowG 96 (.tmp 7) rfl (by rfl) (w3.heap.size) rfl 96 B _ HB.out.now Try.underlying96 rfl (by rw [HBZ.out]; kernel_rfl) ?_)
      | (refine wpList_load_rowG 137 (.tmp 9) rfl (by rfl) (w4.heap.size) rfl 137 C _ HC.out.now Try.underlying137 rfl (by rw [HCZ.out]; kernel_rfl) ?_)
      | (refine wpList_load_row rfl 96 (.tmp 3) rfl (w.heap.size + 1) rfl 96 Y (0, 0) _ HT.out.now.1.2 Try.underlying96 rfl (by rw [HYZ.out]; kernel_rfl) ?_)
      | (go_at_call 93; go_must (refine (HRT.out _).mono ?_; rintro e w7 ⟨rfl, hb⟩; replace HT := hide (HT.out.step hb); (try replace HA := hide (HA.out.step hb)); (try replace HB := hide (HB.out.step hb)); (try replace HC := hide (HC.out.step hb)); (try replace HW := hide (HW.out.step hb)); clear hb; simp only []))
      | (refine wpList_store_row rfl 96 (.tmp 13) (.tmp 76) rfl w7.heap.size B2 rfl rfl 96 (numArr [] 8) (Blk.new w7 _ _) (by rw [hw1]; kernel_rfl) (by rw [hw1]; rfl) hw2 ?_; have hrow : Below w7.heap.size w7 ((w7.alloc (.cells (numArr [] 8) 96)).setRow w7.heap.size B2) := Below.row ((Below.refl _ _).alloc (Nat.le_refl _) _) (Nat.le_refl _) _; replace HT := hide (HT.out.step hrow); (try replace HA := hide (HA.out.step hrow)); (try replace HB := hide (HB.out.step hrow)); (try replace HC := hide (HC.out.step hrow)); (try replace HW := hide (HW.out.step hrow)); clear hrow; have HW := hide (stay_blk ((Blk.new w7 96 (numArr [] 8)).row B2)))
      | (go_at_call 69; go_must (refine (HAS.out _ _ HW.out.now).mono ?_; rintro e w8 ⟨rfl, hb⟩; replace HT := hide (HT.out.step hb); (try replace HA := hide (HA.out.step hb)); (try replace HB := hide (HB.out.step hb)); (try replace HC := hide (HC.out.step hb)); (try replace HW := hide (HW.out.step hb)); clear hb; simp only []))
      | (refine wpList_load_rowG 96 (.tmp 13) rfl (by rfl) (w7.heap.size) rfl 96 B2 _ HW.out.now Try.underlying96 rfl (by rw [hw1]; kernel_rfl) ?_)
      | (go_at_call 94; go_must (refine (HRSP.out _).mono ?_; rintro e w9 ⟨rfl, hb⟩; replace HT := hide (HT.out.step hb); (try replace HA := hide (HA.out.step hb)); (try replace HB := hide (HB.out.step hb)); (try replace HC := hide (HC.out.step hb)); (try replace HW := hide (HW.out.step hb)); clear hb; simp only []))
      | (refine wpList_store_row rfl 137 (.tmp 14) (.tmp 96) rfl w9.heap.size C rfl rfl 137 (garr [] 8) (Blk.new w9 _ _) (by rw [HCZ.out]; kernel_rfl) (by rw [HCZ.out]; rfl) HC1.out ?_; have hrow : Below w9.heap.size w9 ((w9.alloc (.cells (garr [] 8) 137)).setRow w9.heap.size C) := Below.row ((Below.refl _ _).alloc (Nat.le_refl _) _) (Nat.le_refl _) _; replace HT := hide (HT.out.step hrow); (try replace HA := hide (HA.out.step hrow)); (try replace HB := hide (HB.out.step hrow)); (try replace HC := hide (HC.out.step hrow)); (try replace HW := hide (HW.out.step hrow)); clear hrow; have HS := hide (stay_blk ((Blk.new w9 137 (garr [] 8)).row C)))
      | (refine wpList_load_rowG 137 (.tmp 14) rfl (by rfl) (w9.heap.size) rfl 137 C _ HS.out.now Try.underlying137 rfl (by rw [HCZ.out]; kernel_rfl) ?_))
    go_ret
    exact ⟨rfl, HT.out.now.2⟩
  · go_enter Try.func16, Try.ntmps16
    go_wp2_with (first
      | (go_at_call 20; go_must (refine (awake_ok _).mono ?_; rintro e w1 ⟨rfl, hb⟩; have HT := hide (HT0.out.step hb); clear hb; simp only []))
      | (refine wpList_load_row rfl 137 (.tmp 2) rfl (w.heap.size) rfl 137 X (0, 0) _ HT.out.now.1.1 Try.underlying137 rfl (by rw [HXZ.out]; kernel_rfl) ?_)
      | (go_at_call 88; go_must (refine (HSAM.out _).mono ?_; rintro e w2 ⟨rfl, hb⟩; replace HT := hide (HT.out.step hb); (try replace HA := hide (HA.out.step hb)); (try replace HB := hide (HB.out.step hb)); (try replace HC := hide (HC.out.step hb)); (try replace HW := hide (HW.out.step hb)); clear hb; simp only []))
      | (refine wpList_store_row rfl 96 (.tmp 5) (.tmp 21) rfl w2.heap.size A rfl rfl 96 (numArr [] 8) (Blk.new w2 _ _) (by rw [HAZ.out]; kernel_rfl) (by rw [HAZ.out]; rfl) HA1.out ?_; have hrow : Below w2.heap.size w2 ((w2.alloc (.cells (numArr [] 8) 96)).setRow w2.heap.size A) := Below.row ((Below.refl _ _).alloc (Nat.le_refl _) _) (Nat.le_refl _) _; replace HT := hide (HT.out.step hrow); (try replace HA := hide (HA.out.step hrow)); (try replace HB := hide (HB.out.step hrow)); (try replace HC := hide (HC.out.step hrow)); (try replace HW := hide (HW.out.step hrow)); clear hrow; have HA := hide (stay_blk ((Blk.new w2 96 (numArr [] 8)).row A)))
      | (refine wpList_load_row rfl 96 (.tmp 3) rfl (w.heap.size + 1) rfl 96 Y (0, 0) _ HT.out.now.1.2 Try.underlying96 rfl (by rw [HYZ.out]; kernel_rfl) ?_)
      | (go_at_call 89; go_must (refine (HTRA.out _).mono ?_; rintro e w3 ⟨rfl, hb⟩; replace HT := hide (HT.out.step hb); (try replace HA := hide (HA.out.step hb)); (try replace HB := hide (HB.out.step hb)); (try replace HC := hide (HC.out.step hb)); (try replace HW := hide (HW.out.step hb)); clear hb; simp only []))
      | (refine wpList_store_row rfl 96 (.tmp 7) (.tmp 26) rfl w3.heap.size B rfl rfl 96 (numArr [] 8) (Blk.new w3 _ _) (by rw [HBZ.out]; kernel_rfl) (by rw [HBZ.out]; rfl) HB1.out ?_; have hrow : Below w3.heap.size w3 ((w3.alloc (.cells (numArr [] 8) 96)).setRow w3.heap.size B) := Below.row ((Below.refl _ _).alloc (Nat.le_refl _) _) (Nat.le_refl _) _; replace HT := hide (HT.out.step hrow); (try replace HA := hide (HA.out.step hrow)); (try replace HB := hide (HB.out.step hrow)); (try replace HC := hide (HC.out.step hrow)); (try replace HW := hide (HW.out.step hrow)); clear hrow; have HB := hide (stay_blk ((Blk.new w3 96 (numArr [] 8)).row B)))
      | (go_at_call 90; go_must (refine (HSPE.out _).mono ?_; rintro e w4 ⟨rfl, hb⟩; replace HT := hide (HT.out.step hb); (try replace HA := hide (HA.out.step hb)); (try replace HB := hide (HB.out.step hb)); (try replace HC := hide (HC.out.step hb)); (try replace HW := hide (HW.out.step hb)); clear hb; simp only []))
      | (refine wpList_store_row rfl 137 (.tmp 9) (.tmp 31) rfl w4.heap.size C rfl rfl 137 (garr [] 8) (Blk.new w4 _ _) (by rw [HCZ.out]; kernel_rfl) (by rw [HCZ.out]; rfl) HC1.out ?_; have hrow : Below w4.heap.size w4 ((w4.alloc (.cells (garr [] 8) 137)).setRow w4.heap.size C) := Below.row ((Below.refl _ _).alloc (Nat.le_refl _) _) (Nat.le_refl _) _; replace HT := hide (HT.out.step hrow); (try replace HA := hide (HA.out.step hrow)); (try replace HB := hide (HB.out.step hrow)); (try replace HC := hide (HC.out.step hrow)); (try replace HW := hide (HW.out.step hrow)); clear hrow; have HC := hide (stay_blk ((Blk.new w4 137 (garr [] 8)).row C)))
      | (go_at_call 59; go_must (refine (HEE.out _ _ HT.out.now.1.1).mono ?_; rintro e w5 ⟨rfl, hb⟩; replace HT := hide (HT.out.step hb); (try replace HA := hide (HA.out.step hb)); (try replace HB := hide (HB.out.step hb)); (try replace HC := hide (HC.out.step hb)); (try replace HW := hide (HW.out.step hb)); clear hb; simp only []))
      | (refine wpList_load_rowG 96 (.tmp 5) rfl (by rfl) (w2.heap.size) rfl 96 A _ HA.out.now Try.underlying96 rfl (by rw [HAZ.out]; kernel_rfl) ?_)
      | (go_at_call 92; go_must (refine (HNE.out _ _ HT.out.now.1.2).mono ?_; rintro e w6 ⟨rfl, hb⟩; replace HT := hide (HT.out.step hb); (try replace HA := hide (HA.out.step hb)); (try replace HB := hide (HB.out.step hb)); (try replace HC := hide (HC.out.step hb)); (try replace HW := hide (HW.out.step hb)); clear hb; simp only []))
      | (refine wpList_load_rowG 96 (.tmp 7) rfl (by rfl) (w3.heap.size) rfl 96 B _ HB.out.now Try.underlying96 rfl (by rw [HBZ.out]; kernel_rfl) ?_)
      | (refine wpList_load_rowG 137 (.tmp 9) rfl (by rfl) (w4.heap.size) rfl 137 C _ HC.out.now Try.underlying137 rfl (by rw [HCZ.out]; kernel_rfl) ?_)
      | (refine wpList_load_row rfl 96 (.tmp 3) rfl (w.heap.size + 1) rfl 96 Y (0, 0) _ HT.out.now.1.2 Try.underlying96 rfl (by rw [HYZ.out]; kernel_rfl) ?_)
      | (go_at_call 93; go_must (refine (HRT.out _).mono ?_; rintro e w7 ⟨rfl, hb⟩; replace HT := hide (HT.out.step hb); (try replace HA := hide (HA.out.step hb)); (try replace HB := hide (HB.out.step hb)); (try replace HC := hide (HC.out.step hb)); (try replace HW := hide (HW.out.step hb)); clear hb; simp only []))
      | (refine wpList_store_row rfl 96 (.tmp 13) (.tmp 76) rfl w7.heap.size B2 rfl rfl 96 (numArr [] 8) (Blk.new w7 _ _) (by rw [hw1]; kernel_rfl) (by rw [hw1]; rfl) hw2 ?_; have hrow : Below w7.heap.size w7 ((w7.alloc (.cells (numArr [] 8) 96)).setRow w7.heap.size B2) := Below.row ((Below.refl _ _).alloc (Nat.le_refl _) _) (Nat.le_refl _) _; replace HT := hide (HT.out.step hrow); (try replace HA := hide (HA.out.step hrow)); (try replace HB := hide (HB.out.step hrow)); (try replace HC := hide (HC.out.step hrow)); (try replace HW := hide (HW.out.step hrow)); clear hrow; have HW := hide (stay_blk ((Blk.new w7 96 (numArr [] 8)).row B2)))
      | (go_at_call 69; go_must (refine (HAS.out _ _ HW.out.now).mono ?_; rintro e w8 ⟨rfl, hb⟩; replace HT := hide (HT.out.step hb); (try replace HA := hide (HA.out.step hb)); (try replace HB := hide (HB.out.step hb)); (try replace HC := hide (HC.out.step hb)); (try replace HW := hide (HW.out.step hb)); clear hb; simp only []))
      | (refine wpList_load_rowG 96 (.tmp 13) rfl (by rfl) (w7.heap.size) rfl 96 B2 _ HW.out.now Try.underlying96 rfl (by rw [hw1]; kernel_rfl) ?_)
      | (go_at_call 94; go_must (refine (HRSP.out _).mono ?_; rintro e w9 ⟨rfl, hb⟩; replace HT := hide (HT.out.step hb); (try replace HA := hide (HA.out.step hb)); (try replace HB := hide (HB.out.step hb)); (try replace HC := hide (HC.out.step hb)); (try replace HW := hide (HW.out.step hb)); clear hb; simp only []))
      | (refine wpList_store_row rfl 137 (.tmp 14) (.tmp 96) rfl w9.heap.size C rfl rfl 137 (garr [] 8) (Blk.new w9 _ _) (by rw [HCZ.out]; kernel_rfl) (by rw [HCZ.out]; rfl) HC1.out ?_; have hrow : Below w9.heap.size w9 ((w9.alloc (.cells (garr [] 8) 137)).setRow w9.heap.size C) := Below.row ((Below.refl _ _).alloc (Nat.le_refl _) _) (Nat.le_refl _) _; replace HT := hide (HT.out.step hrow); (try replace HA := hide (HA.out.step hrow)); (try replace HB := hide (HB.out.step hrow)); (try replace HC := hide (HC.out.step hrow)); (try replace HW := hide (HW.out.step hrow)); clear hrow; have HS := hide (stay_blk ((Blk.new w9 137 (garr [] 8)).row C)))
      | (refine wpList_load_rowG 137 (.tmp 14) rfl (by rfl) (w9.heap.size) rfl 137 C _ HS.out.now Try.underlying137 rfl (by rw [HCZ.out]; kernel_rfl) ?_))
    go_ret
    exact ⟨rfl, HT.out.now.2⟩
  · go_enter Try.func16, Try.ntmps16
    go_wp2_with (first
      | (go_at_call 20; go_must (refine (awake_ok _).mono ?_; rintro e w1 ⟨rfl, hb⟩; have HT := hide (HT0.out.step hb); clear hb; simp only []))
      | (refine wpList_load_row rfl 137 (.tmp 2) rfl (w.heap.size) rfl 137 X (0, 0) _ HT.out.now.1.1 Try.underlying137 rfl (by rw [HXZ.out]; kernel_rfl) ?_)
      | (go_at_call 88; go_must (refine (HSAM.out _).mono ?_; rintro e w2 ⟨rfl, hb⟩; replace HT := hide (HT.out.step hb); (try replace HA := hide (HA.out.step hb)); (try replace HB := hide (HB.out.step hb)); (try replace HC := hide (HC.out.step hb)); (try replace HW := hide (HW.out.step hb)); clear hb; simp only []))
      | (refine wpList_store_row rfl 96 (.tmp 5) (.tmp 21) rfl w2.heap.size A rfl rfl 96 (numArr [] 8) (Blk.new w2 _ _) (by rw [HAZ.out]; kernel_rfl) (by rw [HAZ.out]; rfl) HA1.out ?_; have hrow : Below w2.heap.size w2 ((w2.alloc (.cells (numArr [] 8) 96)).setRow w2.heap.size A) := Below.row ((Below.refl _ _).alloc (Nat.le_refl _) _) (Nat.le_refl _) _; replace HT := hide (HT.out.step hrow); (try replace HA := hide (HA.out.step hrow)); (try replace HB := hide (HB.out.step hrow)); (try replace HC := hide (HC.out.step hrow)); (try replace HW := hide (HW.out.step hrow)); clear hrow; have HA := hide (stay_blk ((Blk.new w2 96 (numArr [] 8)).row A)))
      | (refine wpList_load_row rfl 96 (.tmp 3) rfl (w.heap.size + 1) rfl 96 Y (0, 0) _ HT.out.now.1.2 Try.underlying96 rfl (by rw [HYZ.out]; kernel_rfl) ?_)
      | (go_at_call 89; go_must (refine (HTRA.out _).mono ?_; rintro e w3 ⟨rfl, hb⟩; replace HT := hide (HT.out.step hb); (try replace HA := hide (HA.out.step hb)); (try replace HB := hide (HB.out.step hb)); (try replace HC := hide (HC.out.step hb)); (try replace HW := hide (HW.out.step hb)); clear hb; simp only []))
      | (refine wpList_store_row rfl 96 (.tmp 7) (.tmp 26) rfl w3.heap.size B rfl rfl 96 (numArr [] 8) (Blk.new w3 _ _) (by rw [HBZ.out]; kernel_rfl) (by rw [HBZ.out]; rfl) HB1.out ?_; have hrow : Below w3.heap.size w3 ((w3.alloc (.cells (numArr [] 8) 96)).setRow w3.heap.size B) := Below.row ((Below.refl _ _).alloc (Nat.le_refl _) _) (Nat.le_refl _) _; replace HT := hide (HT.out.step hrow); (try replace HA := hide (HA.out.step hrow)); (try replace HB := hide (HB.out.step hrow)); (try replace HC := hide (HC.out.step hrow)); (try replace HW := hide (HW.out.step hrow)); clear hrow; have HB := hide (stay_blk ((Blk.new w3 96 (numArr [] 8)).row B)))
      | (go_at_call 90; go_must (refine (HSPE.out _).mono ?_; rintro e w4 ⟨rfl, hb⟩; replace HT := hide (HT.out.step hb); (try replace HA := hide (HA.out.step hb)); (try replace HB := hide (HB.out.step hb)); (try replace HC := hide (HC.out.step hb)); (try replace HW := hide (HW.out.step hb)); clear hb; simp only []))
      | (refine wpList_store_row rfl 137 (.tmp 9) (.tmp 31) rfl w4.heap.size C rfl rfl 137 (garr [] 8) (Blk.new w4 _ _) (by rw [HCZ.out]; kernel_rfl) (by rw [HCZ.out]; rfl) HC1.out ?_; have hrow : Below w4.heap.size w4 ((w4.alloc (.cells (garr [] 8) 137)).setRow w4.heap.size C) := Below.row ((Below.refl _ _).alloc (Nat.le_refl _) _) (Nat.le_refl _) _; replace HT := hide (HT.out.step hrow); (try replace HA := hide (HA.out.step hrow)); (try replace HB := hide (HB.out.step hrow)); (try replace HC := hide (HC.out.step hrow)); (try replace HW := hide (HW.out.step hrow)); clear hrow; have HC := hide (stay_blk ((Blk.new w4 137 (garr [] 8)).row C)))
      | (go_at_call 59; go_must (refine (HEE.out _ _ HT.out.now.1.1).mono ?_; rintro e w5 ⟨rfl, hb⟩; replace HT := hide (HT.out.step hb); (try replace HA := hide (HA.out.step hb)); (try replace HB := hide (HB.out.step hb)); (try replace HC := hide (HC.out.step hb)); (try replace HW := hide (HW.out.step hb)); clear hb; simp only [])))
    have HH0 := hide (show (fun w' => Blk w' w.heap.size 137 X ∧ Blk w' w2.heap.size 96 A ∧ Below w5.heap.size w5 w') w5.drew from ⟨HT.out.now.1.1, HA.out.now, below_drewN (Below.refl _ _) 1⟩)
    refine wp_region_held_drew (S := fun w' => Blk w' w.heap.size 137 X ∧ Blk w' w2.heap.size 96 A ∧ Below w5.heap.size w5 w') (by kernel_rfl) HH0.out (fun hHeld => ?_)
    refine take_at (i := 0) 45 (v := .int .i64 0) rfl rfl (by kernel_rfl) (by kernel_rfl) (by kernel_rfl) (fun _ _ _ h => h) (Or.inl ⟨by rfl, by intro w hSw; go_simp⟩) (by assumption) ?_
    try simp only [Act.put, List.setIfInBounds_toArray, List.set_cons_zero, List.set_cons_succ]
    refine take_at (i := 1) 46 (v := .bool false) rfl rfl (by kernel_rfl) (by kernel_rfl) (by kernel_rfl) (fun _ _ _ h => h) (Or.inl ⟨by rfl, by intro w hSw; go_simp⟩) (by assumption) ?_
    try simp only [Act.put, List.setIfInBounds_toArray, List.set_cons_zero, List.set_cons_succ]
    refine take_at (i := 2) 47 (v := .bool false) rfl rfl (by kernel_rfl) (by kernel_rfl) (by kernel_rfl) (fun _ _ _ h => h) (Or.inl ⟨by rfl, by intro w hSw; go_simp⟩) (by assumption) ?_
    try simp only [Act.put, List.setIfInBounds_toArray, List.set_cons_zero, List.set_cons_succ]
    refine take_at (i := 3) 48 (v := .agg A) rfl rfl (by kernel_rfl) (by kernel_rfl) (by kernel_rfl) (fun _ _ _ h => h) (yields_arr w2.heap.size (by rfl) (.tmp 5) rfl rfl (fun _ h => h.2.1) Try.underlying96 rfl (by rw [HAZ.out]; kernel_rfl)) (by assumption) ?_
    try simp only [Act.put, List.setIfInBounds_toArray, List.set_cons_zero, List.set_cons_succ]
    refine take_at (i := 4) 49 (v := .agg X) rfl rfl (by kernel_rfl) (by kernel_rfl) (by kernel_rfl) (fun _ _ _ h => h) (yields_arr w.heap.size (by rfl) (.tmp 2) rfl rfl (fun _ h => h.1) Try.underlying137 rfl (by rw [HXZ.out]; kernel_rfl)) (by assumption) ?_
    try simp only [Act.put, List.setIfInBounds_toArray, List.set_cons_zero, List.set_cons_succ]
    refine wpAnyH_ready (rs := [5]) (by kernel_rfl) (by simp) ?_
    refine AllReadyH.cons rfl (fun K hK => ?_) AllReadyH.nil
    go_simp
    refine (HRS.out _).mono ?_
    rintro e w10 ⟨rfl, hb⟩
    have HH1 := hide (show (fun w' => Blk w' w.heap.size 137 X ∧ Blk w' w2.heap.size 96 A ∧ Below w5.heap.size w5 w') w10 from ⟨HH0.out.1.below hb HH0.out.1.lt, HH0.out.2.1.below hb HH0.out.2.1.lt, Below.step HH0.out.2.2 hb⟩)
    clear hb
    simp only []
    refine hK.out _ _ HH1.out (fun hHeld => ?_)
    clear hK K
    try simp only [Act.put, List.setIfInBounds_toArray, List.set_cons_zero, List.set_cons_succ]
    refine take_at (i := 6) 51 (v := .bool false) rfl rfl (by kernel_rfl) (by kernel_rfl) (by kernel_rfl) (fun _ _ _ h => h) (Or.inl ⟨by rfl, by intro w hSw; go_simp⟩) (by assumption) ?_
    try simp only [Act.put, List.setIfInBounds_toArray, List.set_cons_zero, List.set_cons_succ]
    refine take_at (i := 7) 52 (v := .bool false) rfl rfl (by kernel_rfl) (by kernel_rfl) (by kernel_rfl) (fun _ _ _ h => h) (Or.inl ⟨by rfl, by intro w hSw; go_simp⟩) (by assumption) ?_
    try simp only [Act.put, List.setIfInBounds_toArray, List.set_cons_zero, List.set_cons_succ]
    refine wpAnyH_done (by kernel_rfl) ?_ _
    have hbx := HH1.out.2.2
    replace HT := hide (HT.out.step hbx)
    (try replace HA := hide (HA.out.step hbx))
    (try replace HB := hide (HB.out.step hbx))
    (try replace HC := hide (HC.out.step hbx))
    (try replace HW := hide (HW.out.step hbx))
    clear hbx
    go_wp2_with (first
      | (go_at_call 92; go_must (refine (HNE.out _ _ HT.out.now.1.2).mono ?_; rintro e w6 ⟨rfl, hb⟩; replace HT := hide (HT.out.step hb); (try replace HA := hide (HA.out.step hb)); (try replace HB := hide (HB.out.step hb)); (try replace HC := hide (HC.out.step hb)); (try replace HW := hide (HW.out.step hb)); clear hb; simp only []))
      | (refine wpList_load_rowG 96 (.tmp 7) rfl (by rfl) (w3.heap.size) rfl 96 B _ HB.out.now Try.underlying96 rfl (by rw [HBZ.out]; kernel_rfl) ?_)
      | (refine wpList_load_rowG 137 (.tmp 9) rfl (by rfl) (w4.heap.size) rfl 137 C _ HC.out.now Try.underlying137 rfl (by rw [HCZ.out]; kernel_rfl) ?_)
      | (refine wpList_load_row rfl 96 (.tmp 3) rfl (w.heap.size + 1) rfl 96 Y (0, 0) _ HT.out.now.1.2 Try.underlying96 rfl (by rw [HYZ.out]; kernel_rfl) ?_)
      | (go_at_call 93; go_must (refine (HRT.out _).mono ?_; rintro e w7 ⟨rfl, hb⟩; replace HT := hide (HT.out.step hb); (try replace HA := hide (HA.out.step hb)); (try replace HB := hide (HB.out.step hb)); (try replace HC := hide (HC.out.step hb)); (try replace HW := hide (HW.out.step hb)); clear hb; simp only []))
      | (refine wpList_store_row rfl 96 (.tmp 13) (.tmp 76) rfl w7.heap.size B2 rfl rfl 96 (numArr [] 8) (Blk.new w7 _ _) (by rw [hw1]; kernel_rfl) (by rw [hw1]; rfl) hw2 ?_; have hrow : Below w7.heap.size w7 ((w7.alloc (.cells (numArr [] 8) 96)).setRow w7.heap.size B2) := Below.row ((Below.refl _ _).alloc (Nat.le_refl _) _) (Nat.le_refl _) _; replace HT := hide (HT.out.step hrow); (try replace HA := hide (HA.out.step hrow)); (try replace HB := hide (HB.out.step hrow)); (try replace HC := hide (HC.out.step hrow)); (try replace HW := hide (HW.out.step hrow)); clear hrow; have HW := hide (stay_blk ((Blk.new w7 96 (numArr [] 8)).row B2)))
      | (go_at_call 69; go_must (refine (HAS.out _ _ HW.out.now).mono ?_; rintro e w8 ⟨rfl, hb⟩; replace HT := hide (HT.out.step hb); (try replace HA := hide (HA.out.step hb)); (try replace HB := hide (HB.out.step hb)); (try replace HC := hide (HC.out.step hb)); (try replace HW := hide (HW.out.step hb)); clear hb; simp only []))
      | (refine wpList_load_rowG 96 (.tmp 13) rfl (by rfl) (w7.heap.size) rfl 96 B2 _ HW.out.now Try.underlying96 rfl (by rw [hw1]; kernel_rfl) ?_)
      | (go_at_call 94; go_must (refine (HRSP.out _).mono ?_; rintro e w9 ⟨rfl, hb⟩; replace HT := hide (HT.out.step hb); (try replace HA := hide (HA.out.step hb)); (try replace HB := hide (HB.out.step hb)); (try replace HC := hide (HC.out.step hb)); (try replace HW := hide (HW.out.step hb)); clear hb; simp only []))
      | (refine wpList_store_row rfl 137 (.tmp 14) (.tmp 96) rfl w9.heap.size C rfl rfl 137 (garr [] 8) (Blk.new w9 _ _) (by rw [HCZ.out]; kernel_rfl) (by rw [HCZ.out]; rfl) HC1.out ?_; have hrow : Below w9.heap.size w9 ((w9.alloc (.cells (garr [] 8) 137)).setRow w9.heap.size C) := Below.row ((Below.refl _ _).alloc (Nat.le_refl _) _) (Nat.le_refl _) _; replace HT := hide (HT.out.step hrow); (try replace HA := hide (HA.out.step hrow)); (try replace HB := hide (HB.out.step hrow)); (try replace HC := hide (HC.out.step hrow)); (try replace HW := hide (HW.out.step hrow)); clear hrow; have HS := hide (stay_blk ((Blk.new w9 137 (garr [] 8)).row C)))
      | (refine wpList_load_rowG 137 (.tmp 14) rfl (by rfl) (w9.heap.size) rfl 137 C _ HS.out.now Try.underlying137 rfl (by rw [HCZ.out]; kernel_rfl) ?_))
    go_ret
    exact ⟨rfl, HT.out.now.2⟩
  · go_enter Try.func16, Try.ntmps16
    go_wp2_with (first
      | (go_at_call 20; go_must (refine (awake_ok _).mono ?_; rintro e w1 ⟨rfl, hb⟩; have HT := hide (HT0.out.step hb); clear hb; simp only []))
      | (refine wpList_load_row rfl 137 (.tmp 2) rfl (w.heap.size) rfl 137 X (0, 0) _ HT.out.now.1.1 Try.underlying137 rfl (by rw [HXZ.out]; kernel_rfl) ?_)
      | (go_at_call 88; go_must (refine (HSAM.out _).mono ?_; rintro e w2 ⟨rfl, hb⟩; replace HT := hide (HT.out.step hb); (try replace HA := hide (HA.out.step hb)); (try replace HB := hide (HB.out.step hb)); (try replace HC := hide (HC.out.step hb)); (try replace HW := hide (HW.out.step hb)); clear hb; simp only []))
      | (refine wpList_store_row rfl 96 (.tmp 5) (.tmp 21) rfl w2.heap.size A rfl rfl 96 (numArr [] 8) (Blk.new w2 _ _) (by rw [HAZ.out]; kernel_rfl) (by rw [HAZ.out]; rfl) HA1.out ?_; have hrow : Below w2.heap.size w2 ((w2.alloc (.cells (numArr [] 8) 96)).setRow w2.heap.size A) := Below.row ((Below.refl _ _).alloc (Nat.le_refl _) _) (Nat.le_refl _) _; replace HT := hide (HT.out.step hrow); (try replace HA := hide (HA.out.step hrow)); (try replace HB := hide (HB.out.step hrow)); (try replace HC := hide (HC.out.step hrow)); (try replace HW := hide (HW.out.step hrow)); clear hrow; have HA := hide (stay_blk ((Blk.new w2 96 (numArr [] 8)).row A)))
      | (refine wpList_load_row rfl 96 (.tmp 3) rfl (w.heap.size + 1) rfl 96 Y (0, 0) _ HT.out.now.1.2 Try.underlying96 rfl (by rw [HYZ.out]; kernel_rfl) ?_)
      | (go_at_call 89; go_must (refine (HTRA.out _).mono ?_; rintro e w3 ⟨rfl, hb⟩; replace HT := hide (HT.out.step hb); (try replace HA := hide (HA.out.step hb)); (try replace HB := hide (HB.out.step hb)); (try replace HC := hide (HC.out.step hb)); (try replace HW := hide (HW.out.step hb)); clear hb; simp only []))
      | (refine wpList_store_row rfl 96 (.tmp 7) (.tmp 26) rfl w3.heap.size B rfl rfl 96 (numArr [] 8) (Blk.new w3 _ _) (by rw [HBZ.out]; kernel_rfl) (by rw [HBZ.out]; rfl) HB1.out ?_; have hrow : Below w3.heap.size w3 ((w3.alloc (.cells (numArr [] 8) 96)).setRow w3.heap.size B) := Below.row ((Below.refl _ _).alloc (Nat.le_refl _) _) (Nat.le_refl _) _; replace HT := hide (HT.out.step hrow); (try replace HA := hide (HA.out.step hrow)); (try replace HB := hide (HB.out.step hrow)); (try replace HC := hide (HC.out.step hrow)); (try replace HW := hide (HW.out.step hrow)); clear hrow; have HB := hide (stay_blk ((Blk.new w3 96 (numArr [] 8)).row B)))
      | (go_at_call 90; go_must (refine (HSPE.out _).mono ?_; rintro e w4 ⟨rfl, hb⟩; replace HT := hide (HT.out.step hb); (try replace HA := hide (HA.out.step hb)); (try replace HB := hide (HB.out.step hb)); (try replace HC := hide (HC.out.step hb)); (try replace HW := hide (HW.out.step hb)); clear hb; simp only []))
      | (refine wpList_store_row rfl 137 (.tmp 9) (.tmp 31) rfl w4.heap.size C rfl rfl 137 (garr [] 8) (Blk.new w4 _ _) (by rw [HCZ.out]; kernel_rfl) (by rw [HCZ.out]; rfl) HC1.out ?_; have hrow : Below w4.heap.size w4 ((w4.alloc (.cells (garr [] 8) 137)).setRow w4.heap.size C) := Below.row ((Below.refl _ _).alloc (Nat.le_refl _) _) (Nat.le_refl _) _; replace HT := hide (HT.out.step hrow); (try replace HA := hide (HA.out.step hrow)); (try replace HB := hide (HB.out.step hrow)); (try replace HC := hide (HC.out.step hrow)); (try replace HW := hide (HW.out.step hrow)); clear hrow; have HC := hide (stay_blk ((Blk.new w4 137 (garr [] 8)).row C)))
      | (go_at_call 59; go_must (refine (HEE.out _ _ HT.out.now.1.1).mono ?_; rintro e w5 ⟨rfl, hb⟩; replace HT := hide (HT.out.step hb); (try replace HA := hide (HA.out.step hb)); (try replace HB := hide (HB.out.step hb)); (try replace HC := hide (HC.out.step hb)); (try replace HW := hide (HW.out.step hb)); clear hb; simp only [])))
    have HH0 := hide (show (fun w' => Blk w' w.heap.size 137 X ∧ Blk w' w2.heap.size 96 A ∧ Below w5.heap.size w5 w') w5.drew from ⟨HT.out.now.1.1, HA.out.now, below_drewN (Below.refl _ _) 1⟩)
    refine wp_region_held_drew (S := fun w' => Blk w' w.heap.size 137 X ∧ Blk w' w2.heap.size 96 A ∧ Below w5.heap.size w5 w') (by kernel_rfl) HH0.out (fun hHeld => ?_)
    refine take_at (i := 0) 45 (v := .int .i64 0) rfl rfl (by kernel_rfl) (by kernel_rfl) (by kernel_rfl) (fun _ _ _ h => h) (Or.inl ⟨by rfl, by intro w hSw; go_simp⟩) (by assumption) ?_
    try simp only [Act.put, List.setIfInBounds_toArray, List.set_cons_zero, List.set_cons_succ]
    refine take_at (i := 1) 46 (v := .bool false) rfl rfl (by kernel_rfl) (by kernel_rfl) (by kernel_rfl) (fun _ _ _ h => h) (Or.inl ⟨by rfl, by intro w hSw; go_simp⟩) (by assumption) ?_
    try simp only [Act.put, List.setIfInBounds_toArray, List.set_cons_zero, List.set_cons_succ]
    refine take_at (i := 2) 47 (v := .bool false) rfl rfl (by kernel_rfl) (by kernel_rfl) (by kernel_rfl) (fun _ _ _ h => h) (Or.inl ⟨by rfl, by intro w hSw; go_simp⟩) (by assumption) ?_
    try simp only [Act.put, List.setIfInBounds_toArray, List.set_cons_zero, List.set_cons_succ]
    refine take_at (i := 3) 48 (v := .agg A) rfl rfl (by kernel_rfl) (by kernel_rfl) (by kernel_rfl) (fun _ _ _ h => h) (yields_arr w2.heap.size (by rfl) (.tmp 5) rfl rfl (fun _ h => h.2.1) Try.underlying96 rfl (by rw [HAZ.out]; kernel_rfl)) (by assumption) ?_
    try simp only [Act.put, List.setIfInBounds_toArray, List.set_cons_zero, List.set_cons_succ]
    refine take_at (i := 4) 49 (v := .agg X) rfl rfl (by kernel_rfl) (by kernel_rfl) (by kernel_rfl) (fun _ _ _ h => h) (yields_arr w.heap.size (by rfl) (.tmp 2) rfl rfl (fun _ h => h.1) Try.underlying137 rfl (by rw [HXZ.out]; kernel_rfl)) (by assumption) ?_
    try simp only [Act.put, List.setIfInBounds_toArray, List.set_cons_zero, List.set_cons_succ]
    refine wpAnyH_ready (rs := [5]) (by kernel_rfl) (by simp) ?_
    refine AllReadyH.cons rfl (fun K hK => ?_) AllReadyH.nil
    go_simp
    refine (HRS.out _).mono ?_
    rintro e w10 ⟨rfl, hb⟩
    have HH1 := hide (show (fun w' => Blk w' w.heap.size 137 X ∧ Blk w' w2.heap.size 96 A ∧ Below w5.heap.size w5 w') w10 from ⟨HH0.out.1.below hb HH0.out.1.lt, HH0.out.2.1.below hb HH0.out.2.1.lt, Below.step HH0.out.2.2 hb⟩)
    clear hb
    simp only []
    refine hK.out _ _ HH1.out (fun hHeld => ?_)
    clear hK K
    try simp only [Act.put, List.setIfInBounds_toArray, List.set_cons_zero, List.set_cons_succ]
    refine take_at (i := 6) 51 (v := .bool false) rfl rfl (by kernel_rfl) (by kernel_rfl) (by kernel_rfl) (fun _ _ _ h => h) (Or.inl ⟨by rfl, by intro w hSw; go_simp⟩) (by assumption) ?_
    try simp only [Act.put, List.setIfInBounds_toArray, List.set_cons_zero, List.set_cons_succ]
    refine take_at (i := 7) 52 (v := .bool false) rfl rfl (by kernel_rfl) (by kernel_rfl) (by kernel_rfl) (fun _ _ _ h => h) (Or.inl ⟨by rfl, by intro w hSw; go_simp⟩) (by assumption) ?_
    try simp only [Act.put, List.setIfInBounds_toArray, List.set_cons_zero, List.set_cons_succ]
    refine wpAnyH_done (by kernel_rfl) ?_ _
    have hbx := HH1.out.2.2
    replace HT := hide (HT.out.step hbx)
    (try replace HA := hide (HA.out.step hbx))
    (try replace HB := hide (HB.out.step hbx))
    (try replace HC := hide (HC.out.step hbx))
    (try replace HW := hide (HW.out.step hbx))
    clear hbx
    go_wp2_with (first
      | (go_at_call 92; go_must (refine (HNE.out _ _ HT.out.now.1.2).mono ?_; rintro e w6 ⟨rfl, hb⟩; replace HT := hide (HT.out.step hb); (try replace HA := hide (HA.out.step hb)); (try replace HB := hide (HB.out.step hb)); (try replace HC := hide (HC.out.step hb)); (try replace HW := hide (HW.out.step hb)); clear hb; simp only []))
      | (refine wpList_load_rowG 96 (.tmp 7) rfl (by rfl) (w3.heap.size) rfl 96 B _ HB.out.now Try.underlying96 rfl (by rw [HBZ.out]; kernel_rfl) ?_)
      | (refine wpList_load_rowG 137 (.tmp 9) rfl (by rfl) (w4.heap.size) rfl 137 C _ HC.out.now Try.underlying137 rfl (by rw [HCZ.out]; kernel_rfl) ?_)
      | (refine wpList_load_row rfl 96 (.tmp 3) rfl (w.heap.size + 1) rfl 96 Y (0, 0) _ HT.out.now.1.2 Try.underlying96 rfl (by rw [HYZ.out]; kernel_rfl) ?_)
      | (go_at_call 93; go_must (refine (HRT.out _).mono ?_; rintro e w7 ⟨rfl, hb⟩; replace HT := hide (HT.out.step hb); (try replace HA := hide (HA.out.step hb)); (try replace HB := hide (HB.out.step hb)); (try replace HC := hide (HC.out.step hb)); (try replace HW := hide (HW.out.step hb)); clear hb; simp only []))
      | (refine wpList_store_row rfl 96 (.tmp 13) (.tmp 76) rfl w7.heap.size B2 rfl rfl 96 (numArr [] 8) (Blk.new w7 _ _) (by rw [hw1]; kernel_rfl) (by rw [hw1]; rfl) hw2 ?_; have hrow : Below w7.heap.size w7 ((w7.alloc (.cells (numArr [] 8) 96)).setRow w7.heap.size B2) := Below.row ((Below.refl _ _).alloc (Nat.le_refl _) _) (Nat.le_refl _) _; replace HT := hide (HT.out.step hrow); (try replace HA := hide (HA.out.step hrow)); (try replace HB := hide (HB.out.step hrow)); (try replace HC := hide (HC.out.step hrow)); (try replace HW := hide (HW.out.step hrow)); clear hrow; have HW := hide (stay_blk ((Blk.new w7 96 (numArr [] 8)).row B2)))
      | (go_at_call 69; go_must (refine (HAS.out _ _ HW.out.now).mono ?_; rintro e w8 ⟨rfl, hb⟩; replace HT := hide (HT.out.step hb); (try replace HA := hide (HA.out.step hb)); (try replace HB := hide (HB.out.step hb)); (try replace HC := hide (HC.out.step hb)); (try replace HW := hide (HW.out.step hb)); clear hb; simp only []))
      | (refine wpList_load_rowG 96 (.tmp 13) rfl (by rfl) (w7.heap.size) rfl 96 B2 _ HW.out.now Try.underlying96 rfl (by rw [hw1]; kernel_rfl) ?_)
      | (go_at_call 94; go_must (refine (HRSP.out _).mono ?_; rintro e w9 ⟨rfl, hb⟩; replace HT := hide (HT.out.step hb); (try replace HA := hide (HA.out.step hb)); (try replace HB := hide (HB.out.step hb)); (try replace HC := hide (HC.out.step hb)); (try replace HW := hide (HW.out.step hb)); clear hb; simp only []))
      | (refine wpList_store_row rfl 137 (.tmp 14) (.tmp 96) rfl w9.heap.size C rfl rfl 137 (garr [] 8) (Blk.new w9 _ _) (by rw [HCZ.out]; kernel_rfl) (by rw [HCZ.out]; rfl) HC1.out ?_; have hrow : Below w9.heap.size w9 ((w9.alloc (.cells (garr [] 8) 137)).setRow w9.heap.size C) := Below.row ((Below.refl _ _).alloc (Nat.le_refl _) _) (Nat.le_refl _) _; replace HT := hide (HT.out.step hrow); (try replace HA := hide (HA.out.step hrow)); (try replace HB := hide (HB.out.step hrow)); (try replace HC := hide (HC.out.step hrow)); (try replace HW := hide (HW.out.step hrow)); clear hrow; have HS := hide (stay_blk ((Blk.new w9 137 (garr [] 8)).row C)))
      | (refine wpList_load_rowG 137 (.tmp 14) rfl (by rfl) (w9.heap.size) rfl 137 C _ HS.out.now Try.underlying137 rfl (by rw [HCZ.out]; kernel_rfl) ?_))
    go_ret
    exact ⟨rfl, HT.out.now.2⟩
  · go_enter Try.func16, Try.ntmps16
    go_wp2_with (first
      | (go_at_call 20; go_must (refine (awake_ok _).mono ?_; rintro e w1 ⟨rfl, hb⟩; have HT := hide (HT0.out.step hb); clear hb; simp only []))
      | (refine wpList_load_row rfl 137 (.tmp 2) rfl (w.heap.size) rfl 137 X (0, 0) _ HT.out.now.1.1 Try.underlying137 rfl (by rw [HXZ.out]; kernel_rfl) ?_)
      | (go_at_call 88; go_must (refine (HSAM.out _).mono ?_; rintro e w2 ⟨rfl, hb⟩; replace HT := hide (HT.out.step hb); (try replace HA := hide (HA.out.step hb)); (try replace HB := hide (HB.out.step hb)); (try replace HC := hide (HC.out.step hb)); (try replace HW := hide (HW.out.step hb)); clear hb; simp only []))
      | (refine wpList_store_row rfl 96 (.tmp 5) (.tmp 21) rfl w2.heap.size A rfl rfl 96 (numArr [] 8) (Blk.new w2 _ _) (by rw [HAZ.out]; kernel_rfl) (by rw [HAZ.out]; rfl) HA1.out ?_; have hrow : Below w2.heap.size w2 ((w2.alloc (.cells (numArr [] 8) 96)).setRow w2.heap.size A) := Below.row ((Below.refl _ _).alloc (Nat.le_refl _) _) (Nat.le_refl _) _; replace HT := hide (HT.out.step hrow); (try replace HA := hide (HA.out.step hrow)); (try replace HB := hide (HB.out.step hrow)); (try replace HC := hide (HC.out.step hrow)); (try replace HW := hide (HW.out.step hrow)); clear hrow; have HA := hide (stay_blk ((Blk.new w2 96 (numArr [] 8)).row A)))
      | (refine wpList_load_row rfl 96 (.tmp 3) rfl (w.heap.size + 1) rfl 96 Y (0, 0) _ HT.out.now.1.2 Try.underlying96 rfl (by rw [HYZ.out]; kernel_rfl) ?_)
      | (go_at_call 89; go_must (refine (HTRA.out _).mono ?_; rintro e w3 ⟨rfl, hb⟩; replace HT := hide (HT.out.step hb); (try replace HA := hide (HA.out.step hb)); (try replace HB := hide (HB.out.step hb)); (try replace HC := hide (HC.out.step hb)); (try replace HW := hide (HW.out.step hb)); clear hb; simp only []))
      | (refine wpList_store_row rfl 96 (.tmp 7) (.tmp 26) rfl w3.heap.size B rfl rfl 96 (numArr [] 8) (Blk.new w3 _ _) (by rw [HBZ.out]; kernel_rfl) (by rw [HBZ.out]; rfl) HB1.out ?_; have hrow : Below w3.heap.size w3 ((w3.alloc (.cells (numArr [] 8) 96)).setRow w3.heap.size B) := Below.row ((Below.refl _ _).alloc (Nat.le_refl _) _) (Nat.le_refl _) _; replace HT := hide (HT.out.step hrow); (try replace HA := hide (HA.out.step hrow)); (try replace HB := hide (HB.out.step hrow)); (try replace HC := hide (HC.out.step hrow)); (try replace HW := hide (HW.out.step hrow)); clear hrow; have HB := hide (stay_blk ((Blk.new w3 96 (numArr [] 8)).row B)))
      | (go_at_call 90; go_must (refine (HSPE.out _).mono ?_; rintro e w4 ⟨rfl, hb⟩; replace HT := hide (HT.out.step hb); (try replace HA := hide (HA.out.step hb)); (try replace HB := hide (HB.out.step hb)); (try replace HC := hide (HC.out.step hb)); (try replace HW := hide (HW.out.step hb)); clear hb; simp only []))
      | (refine wpList_store_row rfl 137 (.tmp 9) (.tmp 31) rfl w4.heap.size C rfl rfl 137 (garr [] 8) (Blk.new w4 _ _) (by rw [HCZ.out]; kernel_rfl) (by rw [HCZ.out]; rfl) HC1.out ?_; have hrow : Below w4.heap.size w4 ((w4.alloc (.cells (garr [] 8) 137)).setRow w4.heap.size C) := Below.row ((Below.refl _ _).alloc (Nat.le_refl _) _) (Nat.le_refl _) _; replace HT := hide (HT.out.step hrow); (try replace HA := hide (HA.out.step hrow)); (try replace HB := hide (HB.out.step hrow)); (try replace HC := hide (HC.out.step hrow)); (try replace HW := hide (HW.out.step hrow)); clear hrow; have HC := hide (stay_blk ((Blk.new w4 137 (garr [] 8)).row C)))
      | (go_at_call 59; go_must (refine (HEE.out _ _ HT.out.now.1.1).mono ?_; rintro e w5 ⟨rfl, hb⟩; replace HT := hide (HT.out.step hb); (try replace HA := hide (HA.out.step hb)); (try replace HB := hide (HB.out.step hb)); (try replace HC := hide (HC.out.step hb)); (try replace HW := hide (HW.out.step hb)); clear hb; simp only [])))
    have HH0 := hide (show (fun w' => Blk w' w.heap.size 137 X ∧ Blk w' w2.heap.size 96 A ∧ Below w5.heap.size w5 w') w5.drew from ⟨HT.out.now.1.1, HA.out.now, below_drewN (Below.refl _ _) 1⟩)
    refine wp_region_held_drew (S := fun w' => Blk w' w.heap.size 137 X ∧ Blk w' w2.heap.size 96 A ∧ Below w5.heap.size w5 w') (by kernel_rfl) HH0.out (fun hHeld => ?_)
    refine take_at (i := 0) 45 (v := .int .i64 0) rfl rfl (by kernel_rfl) (by kernel_rfl) (by kernel_rfl) (fun _ _ _ h => h) (Or.inl ⟨by rfl, by intro w hSw; go_simp⟩) (by assumption) ?_
    try simp only [Act.put, List.setIfInBounds_toArray, List.set_cons_zero, List.set_cons_succ]
    refine take_at (i := 1) 46 (v := .bool false) rfl rfl (by kernel_rfl) (by kernel_rfl) (by kernel_rfl) (fun _ _ _ h => h) (Or.inl ⟨by rfl, by intro w hSw; go_simp⟩) (by assumption) ?_
    try simp only [Act.put, List.setIfInBounds_toArray, List.set_cons_zero, List.set_cons_succ]
    refine take_at (i := 2) 47 (v := .bool false) rfl rfl (by kernel_rfl) (by kernel_rfl) (by kernel_rfl) (fun _ _ _ h => h) (Or.inl ⟨by rfl, by intro w hSw; go_simp⟩) (by assumption) ?_
    try simp only [Act.put, List.setIfInBounds_toArray, List.set_cons_zero, List.set_cons_succ]
    refine take_at (i := 3) 48 (v := .agg A) rfl rfl (by kernel_rfl) (by kernel_rfl) (by kernel_rfl) (fun _ _ _ h => h) (yields_arr w2.heap.size (by rfl) (.tmp 5) rfl rfl (fun _ h => h.2.1) Try.underlying96 rfl (by rw [HAZ.out]; kernel_rfl)) (by assumption) ?_
    try simp only [Act.put, List.setIfInBounds_toArray, List.set_cons_zero, List.set_cons_succ]
    refine take_at (i := 4) 49 (v := .agg X) rfl rfl (by kernel_rfl) (by kernel_rfl) (by kernel_rfl) (fun _ _ _ h => h) (yields_arr w.heap.size (by rfl) (.tmp 2) rfl rfl (fun _ h => h.1) Try.underlying137 rfl (by rw [HXZ.out]; kernel_rfl)) (by assumption) ?_
    try simp only [Act.put, List.setIfInBounds_toArray, List.set_cons_zero, List.set_cons_succ]
    refine wpAnyH_ready (rs := [5]) (by kernel_rfl) (by simp) ?_
    refine AllReadyH.cons rfl (fun K hK => ?_) AllReadyH.nil
    go_simp
    refine (HRS.out _).mono ?_
    rintro e w10 ⟨rfl, hb⟩
    have HH1 := hide (show (fun w' => Blk w' w.heap.size 137 X ∧ Blk w' w2.heap.size 96 A ∧ Below w5.heap.size w5 w') w10 from ⟨HH0.out.1.below hb HH0.out.1.lt, HH0.out.2.1.below hb HH0.out.2.1.lt, Below.step HH0.out.2.2 hb⟩)
    clear hb
    simp only []
    refine hK.out _ _ HH1.out (fun hHeld => ?_)
    clear hK K
    try simp only [Act.put, List.setIfInBounds_toArray, List.set_cons_zero, List.set_cons_succ]
    refine take_at (i := 6) 51 (v := .bool false) rfl rfl (by kernel_rfl) (by kernel_rfl) (by kernel_rfl) (fun _ _ _ h => h) (Or.inl ⟨by rfl, by intro w hSw; go_simp⟩) (by assumption) ?_
    try simp only [Act.put, List.setIfInBounds_toArray, List.set_cons_zero, List.set_cons_succ]
    refine take_at (i := 7) 52 (v := .bool false) rfl rfl (by kernel_rfl) (by kernel_rfl) (by kernel_rfl) (fun _ _ _ h => h) (Or.inl ⟨by rfl, by intro w hSw; go_simp⟩) (by assumption) ?_
    try simp only [Act.put, List.setIfInBounds_toArray, List.set_cons_zero, List.set_cons_succ]
    refine wpAnyH_done (by kernel_rfl) ?_ _
    have hbx := HH1.out.2.2
    replace HT := hide (HT.out.step hbx)
    (try replace HA := hide (HA.out.step hbx))
    (try replace HB := hide (HB.out.step hbx))
    (try replace HC := hide (HC.out.step hbx))
    (try replace HW := hide (HW.out.step hbx))
    clear hbx
    go_wp2_with (first
      | (go_at_call 92; go_must (refine (HNE.out _ _ HT.out.now.1.2).mono ?_; rintro e w6 ⟨rfl, hb⟩; replace HT := hide (HT.out.step hb); (try replace HA := hide (HA.out.step hb)); (try replace HB := hide (HB.out.step hb)); (try replace HC := hide (HC.out.step hb)); (try replace HW := hide (HW.out.step hb)); clear hb; simp only []))
      | (refine wpList_load_rowG 96 (.tmp 7) rfl (by rfl) (w3.heap.size) rfl 96 B _ HB.out.now Try.underlying96 rfl (by rw [HBZ.out]; kernel_rfl) ?_)
      | (refine wpList_load_rowG 137 (.tmp 9) rfl (by rfl) (w4.heap.size) rfl 137 C _ HC.out.now Try.underlying137 rfl (by rw [HCZ.out]; kernel_rfl) ?_)
      | (refine wpList_load_row rfl 96 (.tmp 3) rfl (w.heap.size + 1) rfl 96 Y (0, 0) _ HT.out.now.1.2 Try.underlying96 rfl (by rw [HYZ.out]; kernel_rfl) ?_)
      | (go_at_call 93; go_must (refine (HRT.out _).mono ?_; rintro e w7 ⟨rfl, hb⟩; replace HT := hide (HT.out.step hb); (try replace HA := hide (HA.out.step hb)); (try replace HB := hide (HB.out.step hb)); (try replace HC := hide (HC.out.step hb)); (try replace HW := hide (HW.out.step hb)); clear hb; simp only []))
      | (refine wpList_store_row rfl 96 (.tmp 13) (.tmp 76) rfl w7.heap.size B2 rfl rfl 96 (numArr [] 8) (Blk.new w7 _ _) (by rw [hw1]; kernel_rfl) (by rw [hw1]; rfl) hw2 ?_; have hrow : Below w7.heap.size w7 ((w7.alloc (.cells (numArr [] 8) 96)).setRow w7.heap.size B2) := Below.row ((Below.refl _ _).alloc (Nat.le_refl _) _) (Nat.le_refl _) _; replace HT := hide (HT.out.step hrow); (try replace HA := hide (HA.out.step hrow)); (try replace HB := hide (HB.out.step hrow)); (try replace HC := hide (HC.out.step hrow)); (try replace HW := hide (HW.out.step hrow)); clear hrow; have HW := hide (stay_blk ((Blk.new w7 96 (numArr [] 8)).row B2)))
      | (go_at_call 69; go_must (refine (HAS.out _ _ HW.out.now).mono ?_; rintro e w8 ⟨rfl, hb⟩; replace HT := hide (HT.out.step hb); (try replace HA := hide (HA.out.step hb)); (try replace HB := hide (HB.out.step hb)); (try replace HC := hide (HC.out.step hb)); (try replace HW := hide (HW.out.step hb)); clear hb; simp only []))
      | (refine wpList_load_rowG 96 (.tmp 13) rfl (by rfl) (w7.heap.size) rfl 96 B2 _ HW.out.now Try.underlying96 rfl (by rw [hw1]; kernel_rfl) ?_)
      | (go_at_call 94; go_must (refine (HRSP.out _).mono ?_; rintro e w9 ⟨rfl, hb⟩; replace HT := hide (HT.out.step hb); (try replace HA := hide (HA.out.step hb)); (try replace HB := hide (HB.out.step hb)); (try replace HC := hide (HC.out.step hb)); (try replace HW := hide (HW.out.step hb)); clear hb; simp only []))
      | (refine wpList_store_row rfl 137 (.tmp 14) (.tmp 96) rfl w9.heap.size C rfl rfl 137 (garr [] 8) (Blk.new w9 _ _) (by rw [HCZ.out]; kernel_rfl) (by rw [HCZ.out]; rfl) HC1.out ?_; have hrow : Below w9.heap.size w9 ((w9.alloc (.cells (garr [] 8) 137)).setRow w9.heap.size C) := Below.row ((Below.refl _ _).alloc (Nat.le_refl _) _) (Nat.le_refl _) _; replace HT := hide (HT.out.step hrow); (try replace HA := hide (HA.out.step hrow)); (try replace HB := hide (HB.out.step hrow)); (try replace HC := hide (HC.out.step hrow)); (try replace HW := hide (HW.out.step hrow)); clear hrow; have HS := hide (stay_blk ((Blk.new w9 137 (garr [] 8)).row C)))
      | (refine wpList_load_rowG 137 (.tmp 14) rfl (by rfl) (w9.heap.size) rfl 137 C _ HS.out.now Try.underlying137 rfl (by rw [HCZ.out]; kernel_rfl) ?_))
    go_ret
    exact ⟨rfl, HT.out.now.2⟩
end Go.Proofs.Ythfmjohbokpceaa
