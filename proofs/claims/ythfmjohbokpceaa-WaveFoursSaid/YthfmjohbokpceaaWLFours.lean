import Derived.Test.YthfmjohbokpceaaFouF
import Derived.Test.YthfmjohbokpceaaFouJ
import Derived.Test.YthfmjohbokpceaaArr
import Derived.Test.YthfmjohbokpceaaFlat
namespace Go.Proofs.Ythfmjohbokpceaa

/-! four points: there and back -/
theorem fo_four (a b c d : Int × Int) : foL [a, b, c, d] true = [(a.1 + b.1 + c.1 + d.1, a.2 + b.2 + c.2 + d.2), (a.1 - b.2 - c.1 + d.2, a.2 + b.1 - c.2 - d.1), (a.1 - b.1 + c.1 - d.1, a.2 - b.2 + c.2 - d.2), (a.1 + b.2 - c.1 - d.2, a.2 - b.1 - c.2 + d.1)] := by
  simp only [foL, fo, cp, uI, cmul, cadd, kg, if_true]
  simp
  omega
theorem fo_four_back (a b c d : Int × Int) : foL [a, b, c, d] false = [(a.1 + b.1 + c.1 + d.1, a.2 + b.2 + c.2 + d.2), (a.1 + b.2 - c.1 - d.2, a.2 - b.1 - c.2 + d.1), (a.1 - b.1 + c.1 - d.1, a.2 - b.2 + c.2 - d.2), (a.1 - b.2 - c.1 + d.2, a.2 + b.1 - c.2 - d.1)] := by
  simp only [foL, fo, cp, uI, cmul, cadd, kg]
  simp
  omega
theorem four_list {x : List (Int × Int)} (h : x.length = 4) : ∃ a b c d, x = [a, b, c, d] := by
  match x, h with
  | [a, b, c, d], _ => exact ⟨a, b, c, d, rfl⟩
theorem fo_back {x : List (Int × Int)} (h : x.length = 4) : foL (foL x true) false = x.map fun z => (4 * z.1, 4 * z.2) := by
  obtain ⟨a, b, c, d, rfl⟩ := four_list h
  rw [fo_four, fo_four_back]
  simp
  omega
end Go.Proofs.Ythfmjohbokpceaa

namespace Go.Proofs.Ythfmjohbokpceaa
open Go.RowKit Go.WideShapes Go.ChangeShapes

/-! the statement WaveFours -/
set_option maxRecDepth 100000 in
theorem eqI_ga4 : EqI 10000 105 (4 * 2) := by
  obtain ⟨i0, hi0, hz0, hz1, hz2⟩ := info_parts ga_infoW
  exact EqI.array (d := 9999) (i := i0) Try.underlying105 hi0 (by kernel_rfl) (EqP.agg isAgg_gauss sizeOf_gauss (eqI_gauss 9997))
theorem ga4_neq (L : List (Int × Int)) (h : L.length ≤ 4) (w : World) : (binOp .neq 105 (.agg (garr L 4)) (.agg (garr L 4))).run Try.prog w = .ok (.bool false) w := by
  obtain ⟨zs, e, hl⟩ := garr_iv L 4 h
  rw [e, eqI_ga4.neq zs zs hl hl]
  simp
theorem ga4_eql (L : List (Int × Int)) (h : L.length ≤ 4) (w : World) : (binOp .eql 105 (.agg (garr L 4)) (.agg (garr L 4))).run Try.prog w = .ok (.bool true) w := by
  obtain ⟨zs, e, hl⟩ := garr_iv L 4 h
  rw [e, eqI_ga4.eql zs zs hl hl]
  simp
theorem fb_back {x : List (Int × Int)} (h : x.length = 4) : fbOut (foL (foL x true) false) = .tuple #[.agg (gv x).toArray, .int .i64 0] := by
  rw [fo_back h]
  have h1 : (x.map fun z => (4 * z.1, 4 * z.2)).all fbB = true := by
    rw [List.all_eq_true]
    intro z hz
    obtain ⟨y, _, rfl⟩ := List.mem_map.1 hz
    unfold fbB
    simp
  have h2 : (x.map fun z => (4 * z.1, 4 * z.2)).map fbV = x := by
    rw [List.map_map]
    conv => rhs; rw [← List.map_id x]
    refine List.map_congr_left fun z _ => ?_
    unfold fbV
    simp
  rw [fbOut_good h1, h2, garr_full x 4 h]
/-- what the law needs of the functions as values, with cases -/
theorem fo_key (x : List (Int × Int)) (hx4 : x.length = 4) : ∃ (D e f : Int) (A B : Array Value), Hid (∀ W, Calls Try.prog 70 #[.agg (gv x).toArray] W fun r w' => r = .returned (.tuple #[.agg A, .int .i64 e]) ∧ Below W.heap.size W w') ∧
    Hid (∀ W, Calls Try.prog 71 #[.agg (gv x).toArray] W fun r w' => r = .returned (.tuple #[.agg B, .int .i64 f]) ∧ Below W.heap.size W w') ∧
    Hid (∀ W, Calls Try.prog 72 #[.agg (gv x).toArray] W fun r w' => r = .returned (.int .i64 D) ∧ Below W.heap.size W w') ∧
    A.size = 8 ∧ A.all (·.oneCell') = true ∧ B.size = 8 ∧ B.all (·.oneCell') = true ∧
    (((D != 0) = true ∧ e = D ∧ f = D ∧ (∀ w, (binOp .eql 105 (.agg A) (.agg #[.int .i64 0, .int .i64 0, .int .i64 0, .int .i64 0, .int .i64 0, .int .i64 0, .int .i64 0, .int .i64 0])).run Try.prog w = .ok (.bool true) w) ∧ (∀ w, (binOp .eql 105 (.agg B) (.agg #[.int .i64 0, .int .i64 0, .int .i64 0, .int .i64 0, .int .i64 0, .int .i64 0, .int .i64 0, .int .i64 0])).run Try.prog w = .ok (.bool true) w)) ∨
     (D = 0 ∧ e = 0 ∧ Hid (∀ W, Calls Try.prog 73 #[.agg (gv x).toArray] W fun r w' => r = .returned (.tuple #[.agg B, .int .i64 f]) ∧ Below W.heap.size W w') ∧
      Hid (∀ W, Calls Try.prog 74 #[.agg (gv x).toArray] W fun r w' => r = .returned (.agg A) ∧ Below W.heap.size W w') ∧
      (∀ w, (binOp .neq 105 (.agg A) (.agg A)).run Try.prog w = .ok (.bool false) w) ∧ (∀ w, (binOp .neq 105 (.agg B) (.agg B)).run Try.prog w = .ok (.bool false) w) ∧
      ∃ D2 : Int, Hid (∀ W, Calls Try.prog 72 #[.agg A] W fun r w' => r = .returned (.int .i64 D2) ∧ Below W.heap.size W w') ∧
       ((D2 != 0) = true ∨ (D2 = 0 ∧ Hid (∀ W, Calls Try.prog 71 #[.agg A] W fun r w' => r = .returned (.tuple #[.agg (gv x).toArray, .int .i64 0]) ∧ Below W.heap.size W w') ∧ (∀ w, (binOp .eql 105 (.agg (gv x).toArray) (.agg (gv x).toArray)).run Try.prog w = .ok (.bool true) w))))) := by
  have HE := hide (fun W => FourErr_ref x W hx4)
  by_cases h : eachE foE x = 0
  · rw [h] at HE
    have hA4 : (foL x true).length = 4 := rfl
    have hsz : (gv (foL x true)).toArray.size = 8 := by simp [gv_len, hA4]
    have hone : (gv (foL x true)).toArray.all (·.oneCell') = true := by rw [← garr_full (foL x true) 4 hA4]; exact garr_one _ _
    have hneq : ∀ w, (binOp .neq 105 (.agg (gv (foL x true)).toArray) (.agg (gv (foL x true)).toArray)).run Try.prog w = .ok (.bool false) w := by rw [← garr_full (foL x true) 4 hA4]; exact ga4_neq _ (by rw [hA4]; omega)
    have hxe : ∀ w, (binOp .eql 105 (.agg (gv x).toArray) (.agg (gv x).toArray)).run Try.prog w = .ok (.bool true) w := by rw [← garr_full x 4 hx4]; exact ga4_eql _ (by omega)
    obtain ⟨B, g, hsp, hc1, hc2, hc3⟩ : ∃ (C : Array Value) (g : Int), fbOut (foL x false) = .tuple #[.agg C, .int .i64 g] ∧ C.size = 8 ∧ C.all (·.oneCell') = true ∧ ∀ w, (binOp .neq 105 (.agg C) (.agg C)).run Try.prog w = .ok (.bool false) w := by
      have hl : ((foL x false).map fbV).length ≤ 4 := by rw [List.length_map]; exact Nat.le_refl 4
      cases ha : (foL x false).all fbB
      · exact ⟨_, _, fbOut_bad ha, garr_size _ 4 (by simp), garr_one _ _, ga4_neq _ (by simp)⟩
      · exact ⟨_, _, fbOut_good ha, garr_size _ 4 hl, garr_one _ _, ga4_neq _ hl⟩
    have HS1 := hide (fun W => by have := FourBack_ok x W hx4 h; rw [hsp] at this; exact this)
    have HS2 := hide (fun W => by have := FourBack_ref x W hx4 h; rw [hsp] at this; exact this)
    refine ⟨0, 0, g, (gv (foL x true)).toArray, B, hide (fun W => Four_ok x W hx4 h), HS1, HE, hsz, hone, hc1, hc2, .inr ⟨rfl, rfl, HS2, hide (fun W => Four_ref x W hx4 h), hneq, hc3, eachE foE (foL x true), hide (fun W => FourErr_ref (foL x true) W hA4), ?_⟩⟩
    by_cases h2 : eachE foE (foL x true) = 0
    · refine .inr ⟨h2, hide (fun W => by have := FourBack_ok (foL x true) W hA4 h2; rw [fb_back hx4] at this; exact this), hxe⟩
    · exact .inl (by rw [bne_iff_ne]; exact h2)
  · exact ⟨eachE foE x, eachE foE x, eachE foE x, garr [] 4, garr [] 4, hide (fun W => Four_err x W hx4 h), hide (fun W => FourBack_err x W hx4 h), HE, garr_size _ 4 (by simp), garr_one _ _, garr_size _ 4 (by simp), garr_one _ _,
      .inl ⟨by rw [bne_iff_ne]; exact h, rfl, rfl, fun w => ga4_eql [] (by simp) w, fun w => ga4_eql [] (by simp) w⟩⟩
set_option maxRecDepth 100000 in
set_option maxHeartbeats 20000000 in
theorem WaveFours_law (x : List (Int × Int)) (hx4 : x.length = 4) (w : World) :
    Calls Try.prog 11 #[.agg (gv x).toArray] w fun e w' => e = .returned (.bool true) ∧ Below w.heap.size w w' := by
  obtain ⟨D, e, f, A, B, HFO, HFB, HFE, ha1, ha2, hb1, hb2, k1⟩ := fo_key x hx4
  have hX1 : (gv x).toArray.size = 8 := by simp [gv_len, hx4]
  have hX2 : (gv x).toArray.all (·.oneCell') = true := by rw [← garr_full x 4 hx4]; exact garr_one _ _
  obtain ⟨X, hX⟩ : ∃ X, (gv x).toArray = X := ⟨_, rfl⟩
  rw [hX] at hX1 hX2 HFO HFB HFE k1
  rw [hX]
  have HXZ := hide hX1
  have HX1 := hide hX2
  have HAZ := hide ha1
  have HBZ := hide hb1
  have HA1 := hide ha2
  have HB1 := hide hb2
  clear hX hX1 hX2 ha1 ha2 hb1 hb2 hx4
  have HT0 := hide ((stay_new w 105 X).and (stay_below (show Below w.heap.size w (w.alloc (.cells X 105)) from (Below.refl _ _).alloc (Nat.le_refl _) _)))
  rcases k1 with ⟨hD, rfl, rfl, hqA, hqB⟩ | ⟨rfl, rfl, HRB, HRF, hqA, hqB, D2, HE2, hD2 | ⟨rfl, HB2, hqX⟩⟩
  · go_enter Try.func11, Try.ntmps11
    go_wp2_with (first
      | (go_at_call 20; go_must (refine (awake_ok _).mono ?_; rintro e w1 ⟨rfl, hb⟩; have HT := hide (HT0.out.step hb); clear hb; simp only []))
      | (refine wpList_load_row rfl 105 (.tmp 1) rfl (w.heap.size) rfl 105 X (0, 0) _ HT.out.now.1 Try.underlying105 rfl (by rw [HXZ.out]; kernel_rfl) ?_)
      | (go_at_call 70; go_must (refine (HFO.out _).mono ?_; rintro e w2 ⟨rfl, hb⟩; replace HT := hide (HT.out.step hb); (try replace HA := hide (HA.out.step hb)); (try replace HB := hide (HB.out.step hb)); (try replace HC := hide (HC.out.step hb)); clear hb; simp only []))
      | (refine wpList_store_row rfl 105 (.tmp 3) (.tmp 17) rfl w2.heap.size A rfl rfl 105 (garr [] 4) (Blk.new w2 _ _) (by rw [HAZ.out]; kernel_rfl) (by rw [HAZ.out]; rfl) HA1.out ?_; have hrow : Below w2.heap.size w2 ((w2.alloc (.cells (garr [] 4) 105)).setRow w2.heap.size A) := Below.row ((Below.refl _ _).alloc (Nat.le_refl _) _) (Nat.le_refl _) _; replace HT := hide (HT.out.step hrow); (try replace HA := hide (HA.out.step hrow)); (try replace HB := hide (HB.out.step hrow)); (try replace HC := hide (HC.out.step hrow)); clear hrow; have HA := hide (stay_blk ((Blk.new w2 105 (garr [] 4)).row A)))
      | (go_at_call 71; go_must (refine (HFB.out _).mono ?_; rintro e w3 ⟨rfl, hb⟩; replace HT := hide (HT.out.step hb); (try replace HA := hide (HA.out.step hb)); (try replace HB := hide (HB.out.step hb)); (try replace HC := hide (HC.out.step hb)); clear hb; simp only []))
      | (refine wpList_store_row rfl 105 (.tmp 5) (.tmp 22) rfl w3.heap.size B rfl rfl 105 (garr [] 4) (Blk.new w3 _ _) (by rw [HBZ.out]; kernel_rfl) (by rw [HBZ.out]; rfl) HB1.out ?_; have hrow : Below w3.heap.size w3 ((w3.alloc (.cells (garr [] 4) 105)).setRow w3.heap.size B) := Below.row ((Below.refl _ _).alloc (Nat.le_refl _) _) (Nat.le_refl _) _; replace HT := hide (HT.out.step hrow); (try replace HA := hide (HA.out.step hrow)); (try replace HB := hide (HB.out.step hrow)); (try replace HC := hide (HC.out.step hrow)); clear hrow; have HB := hide (stay_blk ((Blk.new w3 105 (garr [] 4)).row B)))
      | (go_at_call 72; go_must (refine (HFE.out _).mono ?_; rintro e w4 ⟨rfl, hb⟩; replace HT := hide (HT.out.step hb); (try replace HA := hide (HA.out.step hb)); (try replace HB := hide (HB.out.step hb)); (try replace HC := hide (HC.out.step hb)); clear hb; simp only []))
      | (refine wpList_load_rowG 105 (.tmp 3) rfl (by rfl) (w2.heap.size) rfl 105 A _ HA.out.now Try.underlying105 rfl (by rw [HAZ.out]; kernel_rfl) ?_)
      | (refine wpList_load_rowG 105 (.tmp 5) rfl (by rfl) (w3.heap.size) rfl 105 B _ HB.out.now Try.underlying105 rfl (by rw [HBZ.out]; kernel_rfl) ?_))
    go_ret
    exact ⟨rfl, HT.out.now.2⟩
  · go_enter Try.func11, Try.ntmps11
    go_wp2_with (first
      | (go_at_call 20; go_must (refine (awake_ok _).mono ?_; rintro e w1 ⟨rfl, hb⟩; have HT := hide (HT0.out.step hb); clear hb; simp only []))
      | (refine wpList_load_row rfl 105 (.tmp 1) rfl (w.heap.size) rfl 105 X (0, 0) _ HT.out.now.1 Try.underlying105 rfl (by rw [HXZ.out]; kernel_rfl) ?_)
      | (go_at_call 70; go_must (refine (HFO.out _).mono ?_; rintro e w2 ⟨rfl, hb⟩; replace HT := hide (HT.out.step hb); (try replace HA := hide (HA.out.step hb)); (try replace HB := hide (HB.out.step hb)); (try replace HC := hide (HC.out.step hb)); clear hb; simp only []))
      | (refine wpList_store_row rfl 105 (.tmp 3) (.tmp 17) rfl w2.heap.size A rfl rfl 105 (garr [] 4) (Blk.new w2 _ _) (by rw [HAZ.out]; kernel_rfl) (by rw [HAZ.out]; rfl) HA1.out ?_; have hrow : Below w2.heap.size w2 ((w2.alloc (.cells (garr [] 4) 105)).setRow w2.heap.size A) := Below.row ((Below.refl _ _).alloc (Nat.le_refl _) _) (Nat.le_refl _) _; replace HT := hide (HT.out.step hrow); (try replace HA := hide (HA.out.step hrow)); (try replace HB := hide (HB.out.step hrow)); (try replace HC := hide (HC.out.step hrow)); clear hrow; have HA := hide (stay_blk ((Blk.new w2 105 (garr [] 4)).row A)))
      | (go_at_call 71; go_must (refine (HFB.out _).mono ?_; rintro e w3 ⟨rfl, hb⟩; replace HT := hide (HT.out.step hb); (try replace HA := hide (HA.out.step hb)); (try replace HB := hide (HB.out.step hb)); (try replace HC := hide (HC.out.step hb)); clear hb; simp only []))
      | (refine wpList_store_row rfl 105 (.tmp 5) (.tmp 22) rfl w3.heap.size B rfl rfl 105 (garr [] 4) (Blk.new w3 _ _) (by rw [HBZ.out]; kernel_rfl) (by rw [HBZ.out]; rfl) HB1.out ?_; have hrow : Below w3.heap.size w3 ((w3.alloc (.cells (garr [] 4) 105)).setRow w3.heap.size B) := Below.row ((Below.refl _ _).alloc (Nat.le_refl _) _) (Nat.le_refl _) _; replace HT := hide (HT.out.step hrow); (try replace HA := hide (HA.out.step hrow)); (try replace HB := hide (HB.out.step hrow)); (try replace HC := hide (HC.out.step hrow)); clear hrow; have HB := hide (stay_blk ((Blk.new w3 105 (garr [] 4)).row B)))
      | (go_at_call 72; go_must (refine (HFE.out _).mono ?_; rintro e w4 ⟨rfl, hb⟩; replace HT := hide (HT.out.step hb); (try replace HA := hide (HA.out.step hb)); (try replace HB := hide (HB.out.step hb)); (try replace HC := hide (HC.out.step hb)); clear hb; simp only []))
      | (go_at_call 73; go_must (refine (HRB.out _).mono ?_; rintro e w5 ⟨rfl, hb⟩; replace HT := hide (HT.out.step hb); (try replace HA := hide (HA.out.step hb)); (try replace HB := hide (HB.out.step hb)); (try replace HC := hide (HC.out.step hb)); clear hb; simp only []))
      | (refine wpList_store_row rfl 105 (.tmp 8) (.tmp 49) rfl w5.heap.size B rfl rfl 105 (garr [] 4) (Blk.new w5 _ _) (by rw [HBZ.out]; kernel_rfl) (by rw [HBZ.out]; rfl) HB1.out ?_; have hrow : Below w5.heap.size w5 ((w5.alloc (.cells (garr [] 4) 105)).setRow w5.heap.size B) := Below.row ((Below.refl _ _).alloc (Nat.le_refl _) _) (Nat.le_refl _) _; replace HT := hide (HT.out.step hrow); (try replace HA := hide (HA.out.step hrow)); (try replace HB := hide (HB.out.step hrow)); (try replace HC := hide (HC.out.step hrow)); clear hrow; have HC := hide (stay_blk ((Blk.new w5 105 (garr [] 4)).row B))))
    obtain ⟨v5, hv5⟩ : ∃ W, (w5.alloc (.cells (garr [] 4) 105)).setRow w5.heap.size B = W := ⟨_, rfl⟩
    rw [hv5] at HT HA HB HC
    rw [show (w5.alloc (.cells #[.int .i64 0, .int .i64 0, .int .i64 0, .int .i64 0, .int .i64 0, .int .i64 0, .int .i64 0, .int .i64 0] 105)).setRow w5.heap.size B = v5 from hv5]
    clear hv5
    have HH0 := hide (show (fun w' => Blk w' w.heap.size 105 X ∧ Blk w' w2.heap.size 105 A ∧ Blk w' w3.heap.size 105 B ∧ Blk w' w5.heap.size 105 B ∧ Below v5.heap.size v5 w') v5.drew from ⟨HT.out.now.1, HA.out.now, HB.out.now, HC.out.now, below_drewN (Below.refl _ _) 1⟩)
    refine wp_region_held_drew (S := fun w' => Blk w' w.heap.size 105 X ∧ Blk w' w2.heap.size 105 A ∧ Blk w' w3.heap.size 105 B ∧ Blk w' w5.heap.size 105 B ∧ Below v5.heap.size v5 w') (by kernel_rfl) HH0.out (fun hHeld => ?_)
    refine take_at (i := 0) 51 (v := .int .i64 0) rfl rfl (by kernel_rfl) (by kernel_rfl) (by kernel_rfl) (fun _ _ _ h => h) (Or.inl ⟨by rfl, by intro w hSw; go_simp⟩) (by assumption) ?_
    try simp only [Act.put, List.setIfInBounds_toArray, List.set_cons_zero, List.set_cons_succ]
    refine take_at (i := 1) 52 (v := .bool false) rfl rfl (by kernel_rfl) (by kernel_rfl) (by kernel_rfl) (fun _ _ _ h => h) (Or.inl ⟨by rfl, by intro w hSw; go_simp⟩) (by assumption) ?_
    try simp only [Act.put, List.setIfInBounds_toArray, List.set_cons_zero, List.set_cons_succ]
    refine take_at (i := 2) 53 (v := .bool false) rfl rfl (by kernel_rfl) (by kernel_rfl) (by kernel_rfl) (fun _ _ _ h => h) (Or.inl ⟨by rfl, by intro w hSw; go_simp⟩) (by assumption) ?_
    try simp only [Act.put, List.setIfInBounds_toArray, List.set_cons_zero, List.set_cons_succ]
    refine take_at (i := 3) 54 (v := .agg A) rfl rfl (by kernel_rfl) (by kernel_rfl) (by kernel_rfl) (fun _ _ _ h => h) (yields_arr (w2.heap.size) (by rfl) (.tmp 3) rfl rfl (fun _ h => h.2.1) Try.underlying105 rfl (by rw [HAZ.out]; kernel_rfl)) (by assumption) ?_
    try simp only [Act.put, List.setIfInBounds_toArray, List.set_cons_zero, List.set_cons_succ]
    refine take_at (i := 4) 55 (v := .agg X) rfl rfl (by kernel_rfl) (by kernel_rfl) (by kernel_rfl) (fun _ _ _ h => h) (yields_arr (w.heap.size) (by rfl) (.tmp 1) rfl rfl (fun _ h => h.1) Try.underlying105 rfl (by rw [HXZ.out]; kernel_rfl)) (by assumption) ?_
    try simp only [Act.put, List.setIfInBounds_toArray, List.set_cons_zero, List.set_cons_succ]
    refine wpAnyH_ready (rs := [5]) (by kernel_rfl) (by simp) ?_
    refine AllReadyH.cons rfl (fun K hK => ?_) AllReadyH.nil
    go_simp
    refine (HRF.out _).mono ?_
    rintro e w10 ⟨rfl, hb⟩
    have HH1 := hide (show (fun w' => Blk w' w.heap.size 105 X ∧ Blk w' w2.heap.size 105 A ∧ Blk w' w3.heap.size 105 B ∧ Blk w' w5.heap.size 105 B ∧ Below v5.heap.size v5 w') w10 from ⟨HH0.out.1.below hb HH0.out.1.lt, HH0.out.2.1.below hb HH0.out.2.1.lt, HH0.out.2.2.1.below hb HH0.out.2.2.1.lt, HH0.out.2.2.2.1.below hb HH0.out.2.2.2.1.lt, Below.step HH0.out.2.2.2.2 hb⟩)
    clear hb
    simp only []
    refine hK.out _ _ HH1.out (fun hHeld => ?_)
    clear hK K
    try simp only [Act.put, List.setIfInBounds_toArray, List.set_cons_zero, List.set_cons_succ]
    refine take_at (i := 6) 57 (v := .bool false) rfl rfl (by kernel_rfl) (by kernel_rfl) (by kernel_rfl) (fun _ _ _ h => h) (Or.inl ⟨by rfl, by intro w hSw; go_simp⟩) (by assumption) ?_
    try simp only [Act.put, List.setIfInBounds_toArray, List.set_cons_zero, List.set_cons_succ]
    refine take_at (i := 7) 58 (v := .bool false) rfl rfl (by kernel_rfl) (by kernel_rfl) (by kernel_rfl) (fun _ _ _ h => h) (Or.inl ⟨by rfl, by intro w hSw; go_simp⟩) (by assumption) ?_
    try simp only [Act.put, List.setIfInBounds_toArray, List.set_cons_zero, List.set_cons_succ]
    refine take_at (i := 8) 59 (v := .bool false) rfl rfl (by kernel_rfl) (by kernel_rfl) (by kernel_rfl) (fun _ _ _ h => h) (Or.inl ⟨by rfl, by intro w hSw; go_simp⟩) (by assumption) ?_
    try simp only [Act.put, List.setIfInBounds_toArray, List.set_cons_zero, List.set_cons_succ]
    refine take_at (i := 9) 60 (v := .int .i64 f) rfl rfl (by kernel_rfl) (by kernel_rfl) (by kernel_rfl) (fun _ _ _ h => h) (Or.inl ⟨by rfl, by intro w hSw; go_simp⟩) (by assumption) ?_
    try simp only [Act.put, List.setIfInBounds_toArray, List.set_cons_zero, List.set_cons_succ]
    refine take_at (i := 10) 61 (v := .int .i64 f) rfl rfl (by kernel_rfl) (by kernel_rfl) (by kernel_rfl) (fun _ _ _ h => h) (Or.inl ⟨by rfl, by intro w hSw; go_simp⟩) (by assumption) ?_
    try simp only [Act.put, List.setIfInBounds_toArray, List.set_cons_zero, List.set_cons_succ]
    refine take_at (i := 11) 62 (v := .bool false) rfl rfl (by kernel_rfl) (by kernel_rfl) (by kernel_rfl) (fun _ _ _ h => h) (Or.inl ⟨by rfl, by intro w hSw; go_simp⟩) (by assumption) ?_
    try simp only [Act.put, List.setIfInBounds_toArray, List.set_cons_zero, List.set_cons_succ]
    refine take_at (i := 12) 63 (v := .bool false) rfl rfl (by kernel_rfl) (by kernel_rfl) (by kernel_rfl) (fun _ _ _ h => h) (Or.inl ⟨by rfl, by intro w hSw; go_simp⟩) (by assumption) ?_
    try simp only [Act.put, List.setIfInBounds_toArray, List.set_cons_zero, List.set_cons_succ]
    refine take_at (i := 13) 64 (v := .bool false) rfl rfl (by kernel_rfl) (by kernel_rfl) (by kernel_rfl) (fun _ _ _ h => h) (Or.inl ⟨by rfl, by intro w hSw; go_simp⟩) (by assumption) ?_
    try simp only [Act.put, List.setIfInBounds_toArray, List.set_cons_zero, List.set_cons_succ]
    refine take_at (i := 14) 65 (v := .agg B) rfl rfl (by kernel_rfl) (by kernel_rfl) (by kernel_rfl) (fun _ _ _ h => h) (yields_arr (w3.heap.size) (by rfl) (.tmp 5) rfl rfl (fun _ h => h.2.2.1) Try.underlying105 rfl (by rw [HBZ.out]; kernel_rfl)) (by assumption) ?_
    try simp only [Act.put, List.setIfInBounds_toArray, List.set_cons_zero, List.set_cons_succ]
    refine take_at (i := 15) 66 (v := .agg B) rfl rfl (by kernel_rfl) (by kernel_rfl) (by kernel_rfl) (fun _ _ _ h => h) (yields_arr (w5.heap.size) (by rfl) (.tmp 8) rfl rfl (fun _ h => h.2.2.2.1) Try.underlying105 rfl (by rw [HBZ.out]; kernel_rfl)) (by assumption) ?_
    try simp only [Act.put, List.setIfInBounds_toArray, List.set_cons_zero, List.set_cons_succ]
    refine take_at (i := 16) 67 (v := .bool false) rfl rfl (by kernel_rfl) (by kernel_rfl) (by kernel_rfl) (fun _ _ _ h => h) (Or.inl ⟨by rfl, by intro w hSw; go_simp⟩) (by assumption) ?_
    try simp only [Act.put, List.setIfInBounds_toArray, List.set_cons_zero, List.set_cons_succ]
    refine take_at (i := 17) 68 (v := .bool false) rfl rfl (by kernel_rfl) (by kernel_rfl) (by kernel_rfl) (fun _ _ _ h => h) (Or.inl ⟨by rfl, by intro w hSw; go_simp⟩) (by assumption) ?_
    try simp only [Act.put, List.setIfInBounds_toArray, List.set_cons_zero, List.set_cons_succ]
    refine wpAnyH_done (by kernel_rfl) ?_ _
    have hbx := HH1.out.2.2.2.2
    replace HT := hide (HT.out.step hbx)
    (try replace HA := hide (HA.out.step hbx))
    (try replace HB := hide (HB.out.step hbx))
    (try replace HC := hide (HC.out.step hbx))
    clear hbx
    go_wp2_with (first
      | (refine wpList_load_row rfl 105 (.tmp 3) rfl (w2.heap.size) rfl 105 A (0, 0) _ HA.out.now Try.underlying105 rfl (by rw [HAZ.out]; kernel_rfl) ?_)
      | (go_at_call 72; go_must (refine (HE2.out _).mono ?_; rintro e w11 ⟨rfl, hb⟩; replace HT := hide (HT.out.step hb); (try replace HA := hide (HA.out.step hb)); (try replace HB := hide (HB.out.step hb)); (try replace HC := hide (HC.out.step hb)); clear hb; simp only [])))
    go_ret
    exact ⟨rfl, HT.out.now.2⟩
  · go_enter Try.func11, Try.ntmps11
    go_wp2_with (first
      | (go_at_call 20; go_must (refine (awake_ok _).mono ?_; rintro e w1 ⟨rfl, hb⟩; have HT := hide (HT0.out.step hb); clear hb; simp only []))
      | (refine wpList_load_row rfl 105 (.tmp 1) rfl (w.heap.size) rfl 105 X (0, 0) _ HT.out.now.1 Try.underlying105 rfl (by rw [HXZ.out]; kernel_rfl) ?_)
      | (go_at_call 70; go_must (refine (HFO.out _).mono ?_; rintro e w2 ⟨rfl, hb⟩; replace HT := hide (HT.out.step hb); (try replace HA := hide (HA.out.step hb)); (try replace HB := hide (HB.out.step hb)); (try replace HC := hide (HC.out.step hb)); clear hb; simp only []))
      | (refine wpList_store_row rfl 105 (.tmp 3) (.tmp 17) rfl w2.heap.size A rfl rfl 105 (garr [] 4) (Blk.new w2 _ _) (by rw [HAZ.out]; kernel_rfl) (by rw [HAZ.out]; rfl) HA1.out ?_; have hrow : Below w2.heap.size w2 ((w2.alloc (.cells (garr [] 4) 105)).setRow w2.heap.size A) := Below.row ((Below.refl _ _).alloc (Nat.le_refl _) _) (Nat.le_refl _) _; replace HT := hide (HT.out.step hrow); (try replace HA := hide (HA.out.step hrow)); (try replace HB := hide (HB.out.step hrow)); (try replace HC := hide (HC.out.step hrow)); clear hrow; have HA := hide (stay_blk ((Blk.new w2 105 (garr [] 4)).row A)))
      | (go_at_call 71; go_must (refine (HFB.out _).mono ?_; rintro e w3 ⟨rfl, hb⟩; replace HT := hide (HT.out.step hb); (try replace HA := hide (HA.out.step hb)); (try replace HB := hide (HB.out.step hb)); (try replace HC := hide (HC.out.step hb)); clear hb; simp only []))
      | (refine wpList_store_row rfl 105 (.tmp 5) (.tmp 22) rfl w3.heap.size B rfl rfl 105 (garr [] 4) (Blk.new w3 _ _) (by rw [HBZ.out]; kernel_rfl) (by rw [HBZ.out]; rfl) HB1.out ?_; have hrow : Below w3.heap.size w3 ((w3.alloc (.cells (garr [] 4) 105)).setRow w3.heap.size B) := Below.row ((Below.refl _ _).alloc (Nat.le_refl _) _) (Nat.le_refl _) _; replace HT := hide (HT.out.step hrow); (try replace HA := hide (HA.out.step hrow)); (try replace HB := hide (HB.out.step hrow)); (try replace HC := hide (HC.out.step hrow)); clear hrow; have HB := hide (stay_blk ((Blk.new w3 105 (garr [] 4)).row B)))
      | (go_at_call 72; go_must (refine (HFE.out _).mono ?_; rintro e w4 ⟨rfl, hb⟩; replace HT := hide (HT.out.step hb); (try replace HA := hide (HA.out.step hb)); (try replace HB := hide (HB.out.step hb)); (try replace HC := hide (HC.out.step hb)); clear hb; simp only []))
      | (go_at_call 73; go_must (refine (HRB.out _).mono ?_; rintro e w5 ⟨rfl, hb⟩; replace HT := hide (HT.out.step hb); (try replace HA := hide (HA.out.step hb)); (try replace HB := hide (HB.out.step hb)); (try replace HC := hide (HC.out.step hb)); clear hb; simp only []))
      | (refine wpList_store_row rfl 105 (.tmp 8) (.tmp 49) rfl w5.heap.size B rfl rfl 105 (garr [] 4) (Blk.new w5 _ _) (by rw [HBZ.out]; kernel_rfl) (by rw [HBZ.out]; rfl) HB1.out ?_; have hrow : Below w5.heap.size w5 ((w5.alloc (.cells (garr [] 4) 105)).setRow w5.heap.size B) := Below.row ((Below.refl _ _).alloc (Nat.le_refl _) _) (Nat.le_refl _) _; replace HT := hide (HT.out.step hrow); (try replace HA := hide (HA.out.step hrow)); (try replace HB := hide (HB.out.step hrow)); (try replace HC := hide (HC.out.step hrow)); clear hrow; have HC := hide (stay_blk ((Blk.new w5 105 (garr [] 4)).row B))))
    obtain ⟨v5, hv5⟩ : ∃ W, (w5.alloc (.cells (garr [] 4) 105)).setRow w5.heap.size B = W := ⟨_, rfl⟩
    rw [hv5] at HT HA HB HC
    rw [show (w5.alloc (.cells #[.int .i64 0, .int .i64 0, .int .i64 0, .int .i64 0, .int .i64 0, .int .i64 0, .int .i64 0, .int .i64 0] 105)).setRow w5.heap.size B = v5 from hv5]
    clear hv5
    have HH0 := hide (show (fun w' => Blk w' w.heap.size 105 X ∧ Blk w' w2.heap.size 105 A ∧ Blk w' w3.heap.size 105 B ∧ Blk w' w5.heap.size 105 B ∧ Below v5.heap.size v5 w') v5.drew from ⟨HT.out.now.1, HA.out.now, HB.out.now, HC.out.now, below_drewN (Below.refl _ _) 1⟩)
    refine wp_region_held_drew (S := fun w' => Blk w' w.heap.size 105 X ∧ Blk w' w2.heap.size 105 A ∧ Blk w' w3.heap.size 105 B ∧ Blk w' w5.heap.size 105 B ∧ Below v5.heap.size v5 w') (by kernel_rfl) HH0.out (fun hHeld => ?_)
    refine take_at (i := 0) 51 (v := .int .i64 0) rfl rfl (by kernel_rfl) (by kernel_rfl) (by kernel_rfl) (fun _ _ _ h => h) (Or.inl ⟨by rfl, by intro w hSw; go_simp⟩) (by assumption) ?_
    try simp only [Act.put, List.setIfInBounds_toArray, List.set_cons_zero, List.set_cons_succ]
    refine take_at (i := 1) 52 (v := .bool false) rfl rfl (by kernel_rfl) (by kernel_rfl) (by kernel_rfl) (fun _ _ _ h => h) (Or.inl ⟨by rfl, by intro w hSw; go_simp⟩) (by assumption) ?_
    try simp only [Act.put, List.setIfInBounds_toArray, List.set_cons_zero, List.set_cons_succ]
    refine take_at (i := 2) 53 (v := .bool false) rfl rfl (by kernel_rfl) (by kernel_rfl) (by kernel_rfl) (fun _ _ _ h => h) (Or.inl ⟨by rfl, by intro w hSw; go_simp⟩) (by assumption) ?_
    try simp only [Act.put, List.setIfInBounds_toArray, List.set_cons_zero, List.set_cons_succ]
    refine take_at (i := 3) 54 (v := .agg A) rfl rfl (by kernel_rfl) (by kernel_rfl) (by kernel_rfl) (fun _ _ _ h => h) (yields_arr (w2.heap.size) (by rfl) (.tmp 3) rfl rfl (fun _ h => h.2.1) Try.underlying105 rfl (by rw [HAZ.out]; kernel_rfl)) (by assumption) ?_
    try simp only [Act.put, List.setIfInBounds_toArray, List.set_cons_zero, List.set_cons_succ]
    refine take_at (i := 4) 55 (v := .agg X) rfl rfl (by kernel_rfl) (by kernel_rfl) (by kernel_rfl) (fun _ _ _ h => h) (yields_arr (w.heap.size) (by rfl) (.tmp 1) rfl rfl (fun _ h => h.1) Try.underlying105 rfl (by rw [HXZ.out]; kernel_rfl)) (by assumption) ?_
    try simp only [Act.put, List.setIfInBounds_toArray, List.set_cons_zero, List.set_cons_succ]
    refine wpAnyH_ready (rs := [5]) (by kernel_rfl) (by simp) ?_
    refine AllReadyH.cons rfl (fun K hK => ?_) AllReadyH.nil
    go_simp
    refine (HRF.out _).mono ?_
    rintro e w10 ⟨rfl, hb⟩
    have HH1 := hide (show (fun w' => Blk w' w.heap.size 105 X ∧ Blk w' w2.heap.size 105 A ∧ Blk w' w3.heap.size 105 B ∧ Blk w' w5.heap.size 105 B ∧ Below v5.heap.size v5 w') w10 from ⟨HH0.out.1.below hb HH0.out.1.lt, HH0.out.2.1.below hb HH0.out.2.1.lt, HH0.out.2.2.1.below hb HH0.out.2.2.1.lt, HH0.out.2.2.2.1.below hb HH0.out.2.2.2.1.lt, Below.step HH0.out.2.2.2.2 hb⟩)
    clear hb
    simp only []
    refine hK.out _ _ HH1.out (fun hHeld => ?_)
    clear hK K
    try simp only [Act.put, List.setIfInBounds_toArray, List.set_cons_zero, List.set_cons_succ]
    refine take_at (i := 6) 57 (v := .bool false) rfl rfl (by kernel_rfl) (by kernel_rfl) (by kernel_rfl) (fun _ _ _ h => h) (Or.inl ⟨by rfl, by intro w hSw; go_simp⟩) (by assumption) ?_
    try simp only [Act.put, List.setIfInBounds_toArray, List.set_cons_zero, List.set_cons_succ]
    refine take_at (i := 7) 58 (v := .bool false) rfl rfl (by kernel_rfl) (by kernel_rfl) (by kernel_rfl) (fun _ _ _ h => h) (Or.inl ⟨by rfl, by intro w hSw; go_simp⟩) (by assumption) ?_
    try simp only [Act.put, List.setIfInBounds_toArray, List.set_cons_zero, List.set_cons_succ]
    refine take_at (i := 8) 59 (v := .bool false) rfl rfl (by kernel_rfl) (by kernel_rfl) (by kernel_rfl) (fun _ _ _ h => h) (Or.inl ⟨by rfl, by intro w hSw; go_simp⟩) (by assumption) ?_
    try simp only [Act.put, List.setIfInBounds_toArray, List.set_cons_zero, List.set_cons_succ]
    refine take_at (i := 9) 60 (v := .int .i64 f) rfl rfl (by kernel_rfl) (by kernel_rfl) (by kernel_rfl) (fun _ _ _ h => h) (Or.inl ⟨by rfl, by intro w hSw; go_simp⟩) (by assumption) ?_
    try simp only [Act.put, List.setIfInBounds_toArray, List.set_cons_zero, List.set_cons_succ]
    refine take_at (i := 10) 61 (v := .int .i64 f) rfl rfl (by kernel_rfl) (by kernel_rfl) (by kernel_rfl) (fun _ _ _ h => h) (Or.inl ⟨by rfl, by intro w hSw; go_simp⟩) (by assumption) ?_
    try simp only [Act.put, List.setIfInBounds_toArray, List.set_cons_zero, List.set_cons_succ]
    refine take_at (i := 11) 62 (v := .bool false) rfl rfl (by kernel_rfl) (by kernel_rfl) (by kernel_rfl) (fun _ _ _ h => h) (Or.inl ⟨by rfl, by intro w hSw; go_simp⟩) (by assumption) ?_
    try simp only [Act.put, List.setIfInBounds_toArray, List.set_cons_zero, List.set_cons_succ]
    refine take_at (i := 12) 63 (v := .bool false) rfl rfl (by kernel_rfl) (by kernel_rfl) (by kernel_rfl) (fun _ _ _ h => h) (Or.inl ⟨by rfl, by intro w hSw; go_simp⟩) (by assumption) ?_
    try simp only [Act.put, List.setIfInBounds_toArray, List.set_cons_zero, List.set_cons_succ]
    refine take_at (i := 13) 64 (v := .bool false) rfl rfl (by kernel_rfl) (by kernel_rfl) (by kernel_rfl) (fun _ _ _ h => h) (Or.inl ⟨by rfl, by intro w hSw; go_simp⟩) (by assumption) ?_
    try simp only [Act.put, List.setIfInBounds_toArray, List.set_cons_zero, List.set_cons_succ]
    refine take_at (i := 14) 65 (v := .agg B) rfl rfl (by kernel_rfl) (by kernel_rfl) (by kernel_rfl) (fun _ _ _ h => h) (yields_arr (w3.heap.size) (by rfl) (.tmp 5) rfl rfl (fun _ h => h.2.2.1) Try.underlying105 rfl (by rw [HBZ.out]; kernel_rfl)) (by assumption) ?_
    try simp only [Act.put, List.setIfInBounds_toArray, List.set_cons_zero, List.set_cons_succ]
    refine take_at (i := 15) 66 (v := .agg B) rfl rfl (by kernel_rfl) (by kernel_rfl) (by kernel_rfl) (fun _ _ _ h => h) (yields_arr (w5.heap.size) (by rfl) (.tmp 8) rfl rfl (fun _ h => h.2.2.2.1) Try.underlying105 rfl (by rw [HBZ.out]; kernel_rfl)) (by assumption) ?_
    try simp only [Act.put, List.setIfInBounds_toArray, List.set_cons_zero, List.set_cons_succ]
    refine take_at (i := 16) 67 (v := .bool false) rfl rfl (by kernel_rfl) (by kernel_rfl) (by kernel_rfl) (fun _ _ _ h => h) (Or.inl ⟨by rfl, by intro w hSw; go_simp⟩) (by assumption) ?_
    try simp only [Act.put, List.setIfInBounds_toArray, List.set_cons_zero, List.set_cons_succ]
    refine take_at (i := 17) 68 (v := .bool false) rfl rfl (by kernel_rfl) (by kernel_rfl) (by kernel_rfl) (fun _ _ _ h => h) (Or.inl ⟨by rfl, by intro w hSw; go_simp⟩) (by assumption) ?_
    try simp only [Act.put, List.setIfInBounds_toArray, List.set_cons_zero, List.set_cons_succ]
    refine wpAnyH_done (by kernel_rfl) ?_ _
    have hbx := HH1.out.2.2.2.2
    replace HT := hide (HT.out.step hbx)
    (try replace HA := hide (HA.out.step hbx))
    (try replace HB := hide (HB.out.step hbx))
    (try replace HC := hide (HC.out.step hbx))
    clear hbx
    go_wp2_with (first
      | (refine wpList_load_row rfl 105 (.tmp 3) rfl (w2.heap.size) rfl 105 A (0, 0) _ HA.out.now Try.underlying105 rfl (by rw [HAZ.out]; kernel_rfl) ?_)
      | (go_at_call 72; go_must (refine (HE2.out _).mono ?_; rintro e w11 ⟨rfl, hb⟩; replace HT := hide (HT.out.step hb); (try replace HA := hide (HA.out.step hb)); (try replace HB := hide (HB.out.step hb)); (try replace HC := hide (HC.out.step hb)); clear hb; simp only []))
      | (go_at_call 71; go_must (refine (HB2.out _).mono ?_; rintro e w12 ⟨rfl, hb⟩; replace HT := hide (HT.out.step hb); (try replace HA := hide (HA.out.step hb)); (try replace HB := hide (HB.out.step hb)); (try replace HC := hide (HC.out.step hb)); clear hb; simp only []))
      | (refine wpList_store_row rfl 105 (.tmp 10) (.tmp 75) rfl w12.heap.size X rfl rfl 105 (garr [] 4) (Blk.new w12 _ _) (by rw [HXZ.out]; kernel_rfl) (by rw [HXZ.out]; rfl) HX1.out ?_; have hrow : Below w12.heap.size w12 ((w12.alloc (.cells (garr [] 4) 105)).setRow w12.heap.size X) := Below.row ((Below.refl _ _).alloc (Nat.le_refl _) _) (Nat.le_refl _) _; replace HT := hide (HT.out.step hrow); (try replace HA := hide (HA.out.step hrow)); (try replace HB := hide (HB.out.step hrow)); (try replace HC := hide (HC.out.step hrow)); clear hrow; have HD := hide (stay_blk ((Blk.new w12 105 (garr [] 4)).row X)))
      | (refine wpList_load_rowG 105 (.tmp 10) rfl (by rfl) (w12.heap.size) rfl 105 X _ HD.out.now Try.underlying105 rfl (by rw [HXZ.out]; kernel_rfl) ?_)
      | (refine wpList_load_rowG 105 (.tmp 1) rfl (by rfl) (w.heap.size) rfl 105 X _ HT.out.now.1 Try.underlying105 rfl (by rw [HXZ.out]; kernel_rfl) ?_))
    go_ret
    exact ⟨rfl, HT.out.now.2⟩
theorem flat_ga4 : Flat 105 (4 * 2) := Flat.array Try.underlying105 (by kernel_rfl) flat_gauss
theorem WaveFours_lawZ (z0 : List Int) (w : World) (h0 : z0.length = 4 * 2) :
    Calls Try.prog 11 #[.agg (iv z0).toArray] w fun e w' => e = .returned (.bool true) ∧ Below w.heap.size w w' := by
  obtain ⟨x, hx, e0⟩ := gausses_of 4 z0 h0
  rw [e0]
  exact WaveFours_law x hx w
end Go.Proofs.Ythfmjohbokpceaa
