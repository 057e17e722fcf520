import Derived.Test.YthfmjohbokpceaaWvED
namespace Go.Proofs.Ythfmjohbokpceaa
open Go.RowKit Go.WideShapes Go.ChangeShapes

/-! the transform as it is told (program) -/
theorem trL_len (x : List Nm) (n : Nat) : (trL x n).length = n := tab_len _ n
theorem each8 (x : List Nm) (hx8 : x.length = 8) (A : Option Addr) (W : World) (h : Sl W A (nvs x)) : Calls Try.prog 135 #[.slice A 8 8, .func (.func 126) #[] #[]] W fun e w' => e = .returned (.int .i64 (eachE numE x)) ∧ Below W.heap.size W w' := by
  have := each_num 126 numE A 8 x W (enters Try.func126 (by kernel_rfl) rfl) (fun z W => numberErr_wave z W) h (by omega)
  rw [hx8] at this
  exact this
set_option maxRecDepth 100000 in
set_option maxHeartbeats 4000000 in
theorem Transform_err (x : List Nm) (w : World) (hx8 : x.length = 8) (h : eachE numE x ≠ 0) :
    Calls Try.prog 89 #[.agg (nvs x).toArray] w fun e w' => e = .returned (.tuple #[.agg (numArr [] 8), .int .i64 (eachE numE x)]) ∧ Below w.heap.size w w' := by
  have hsl := slice_wn8
  have HEACH := hide (fun A W (h : Sl W A (nvs x)) => each8 x hx8 A W h)
  obtain ⟨E, hE⟩ : ∃ E, eachE numE x = E := ⟨_, rfl⟩
  rw [hE] at h HEACH
  rw [hE]
  have hq : (E != 0) = true := by rw [bne_iff_ne]; exact h
  obtain ⟨X, hX⟩ : ∃ X, (nvs x).toArray = X := ⟨_, rfl⟩
  have HSL := hide (show ∀ W g, Blk W g 96 X → Sl W (some ⟨g, 0, none⟩) (nvs x) from fun W g hb => by rw [← hX] at hb; exact hb.sl)
  rw [hX]
  clear h hE hX hx8
  go_enter Try.func89, Try.ntmps89
  go_wp2_with (first
    | (go_at_call 135; go_must (refine (HEACH.out _ _ (HSL.out _ _ (by exact (Blk.new w 96 X).alloc _))).mono ?_; rintro e w1 ⟨rfl, hb1⟩; have b1 : Below w.heap.size w w1 := Below.step (by go_grown) hb1; have HR := hide (Blk.bel2 hb1 (show Blk _ (w.heap.size + 1) 96 (numArr [] 8) from Blk.newN _ _ _ (by simp)) (by simp <;> omega)); clear hb1; simp only []))
    | (refine wpList_store_row rfl 96 (.tmp 2) (.tmp 11) rfl (w.heap.size + 1) (numArr [] 8) rfl rfl 96 (numArr [] 8) HR.out (by kernel_rfl) (by kernel_rfl) (numArr_one _ _) ?_))
  exact bodyPost_ret (results_row_tmp2 rfl _ _ (w.heap.size + 1) 96 (numArr [] 8) _ (.int .i64 E) rfl rfl (HR.out.row (numArr [] 8)) Try.underlying96 rfl (by kernel_rfl)) rfl ⟨rfl, Below.row b1 (by omega) _⟩
set_option maxRecDepth 100000 in
set_option maxHeartbeats 4000000 in
theorem Transform_large (x : List Nm) (w : World) (hx8 : x.length = 8) (h : eachE numE x = 0) (ha : (trL x 8).all (fitsB 1000000000) = false) :
    Calls Try.prog 89 #[.agg (nvs x).toArray] w fun e w' => e = .returned (.tuple #[.agg (numArr [] 8), .int .i64 8]) ∧ Below w.heap.size w w' := by
  have hsl := slice_wn8
  have HEACH := hide (fun A W (h : Sl W A (nvs x)) => each8 x hx8 A W h)
  rw [h] at HEACH
  have HTR := hide (fun W => transform_wave x W hx8 (fun z hz => numE_ok (eachE_ok h z hz)))
  have HTI := hide (fun C c W (h : Sl W C (nvs (trL x 8))) => (toldIf_wave C c (trL x 8) W h (by rw [trL_len]; omega)).mono fun e w' ht => show e = .returned (.tuple #[.slice none 0 0, .int .i64 8]) ∧ Below W.heap.size W w' from by
    rcases ht with ⟨h1, _, _⟩ | ⟨_, h2, h3⟩
    · rw [ha] at h1; exact absurd h1 (by decide)
    · exact ⟨h2, h3⟩)
  rw [trL_len] at HTI
  have hszx : (nvs x).toArray.size = 32 := by simp [nvs_len, hx8]
  obtain ⟨X, hX⟩ : ∃ X, (nvs x).toArray = X := ⟨_, rfl⟩
  have HSL := hide (show ∀ W g, Blk W g 96 X → Sl W (some ⟨g, 0, none⟩) (nvs x) from fun W g hb => by rw [← hX] at hb; exact hb.sl)
  rw [hX] at HTR hszx
  rw [hX]
  have HSZX := hide hszx
  clear h hX hx8 ha hszx
  go_enter Try.func89, Try.ntmps89
  go_wp2_with (first
    | (go_at_call 135; go_must (refine (HEACH.out _ _ (HSL.out _ _ (by exact (Blk.new w 96 X).alloc _))).mono ?_; rintro e w1 ⟨rfl, hb1⟩; have b1 : Below w.heap.size w w1 := Below.step (by go_grown) hb1; have HR := hide (Blk.bel2 hb1 (show Blk _ (w.heap.size + 1) 96 (numArr [] 8) from Blk.newN _ _ _ (by simp)) (by simp <;> omega)); have HX1 := hide (Blk.bel2 hb1 (show Blk _ w.heap.size 96 X from (Blk.new w 96 X).alloc _) (by simp <;> omega)); clear hb1; simp only []))
    | (refine wpList_load_row rfl 96 (.tmp 1) rfl w.heap.size rfl 96 X (0, 0) _ HX1.out Try.underlying96 rfl (by rw [HSZX.out]; kernel_rfl) ?_)
    | (go_at_call 160; go_must (refine (HTR.out _).mono ?_; rintro e w2 ⟨C, q, rfl, ho, hb2⟩; have b2 : Below w.heap.size w w2 := Below.step b1 hb2; have HR2 := hide (HR.out.below hb2 HR.out.lt); have HS := hide (Sl.of_ownN ho); clear hb2 ho; simp only []))
    | (go_at_call 113; go_must (refine (HTI.out _ _ _ HS.out).mono ?_; rintro e w3 ⟨rfl, hb3⟩; have b3 : Below w.heap.size w w3 := Below.step b2 hb3; have HR3 := hide (HR2.out.below hb3 HR2.out.lt); clear hb3; simp only []))
    | (refine wpList_store_row rfl 96 (.tmp 2) (.tmp 21) rfl (w.heap.size + 1) (numArr [] 8) rfl rfl 96 (numArr [] 8) HR3.out (by kernel_rfl) (by kernel_rfl) (numArr_one _ _) ?_))
  exact bodyPost_ret (results_row_tmp2 rfl _ _ (w.heap.size + 1) 96 (numArr [] 8) _ (.int .i64 8) rfl rfl (HR3.out.row (numArr [] 8)) Try.underlying96 rfl (by kernel_rfl)) rfl ⟨rfl, Below.row b3 (by omega) _⟩
set_option maxRecDepth 100000 in
set_option maxHeartbeats 4000000 in
theorem Transform_ok (x : List Nm) (w : World) (hx8 : x.length = 8) (h : eachE numE x = 0) (ha : (trL x 8).all (fitsB 1000000000) = true) :
    Calls Try.prog 89 #[.agg (nvs x).toArray] w fun e w' => e = .returned (.tuple #[.agg (nvs (trL x 8)).toArray, .int .i64 0]) ∧ Below w.heap.size w w' := by
  have hsl := slice_wn8
  have HEACH := hide (fun A W (h : Sl W A (nvs x)) => each8 x hx8 A W h)
  rw [h] at HEACH
  have HTR := hide (fun W => transform_wave x W hx8 (fun z hz => numE_ok (eachE_ok h z hz)))
  have HTI := hide (fun C c W (h : Sl W C (nvs (trL x 8))) => (toldIf_wave C c (trL x 8) W h (by rw [trL_len]; omega)).mono fun e w' ht => show (∃ b off k, e = .returned (.tuple #[.slice (some ⟨b, off, none⟩) (trL x 8).length k, .int .i64 0]) ∧ Sl w' (some ⟨b, off, none⟩) (nvs (trL x 8))) ∧ Below W.heap.size W w' from by
    rcases ht with ⟨_, ⟨A, c, h2, h4⟩, h3⟩ | ⟨h1, _, _⟩
    · obtain ⟨b, off, rfl, _⟩ := h4 0 (by rw [nvs_len, trL_len]; omega)
      exact ⟨⟨b, off, c, h2, h4⟩, h3⟩
    · rw [ha] at h1; exact absurd h1 (by decide))
  rw [trL_len] at HTI
  have hszx : (nvs x).toArray.size = 32 := by simp [nvs_len, hx8]
  have hszy : (nvs (trL x 8)).length = 32 := by rw [nvs_len, trL_len]
  have hone : (nvs (trL x 8)).toArray.all (·.oneCell') = true := by rw [← numArr_full (trL x 8) 8 (trL_len x 8)]; exact numArr_one _ _
  obtain ⟨X, hX⟩ : ∃ X, (nvs x).toArray = X := ⟨_, rfl⟩
  have HSL := hide (show ∀ W g, Blk W g 96 X → Sl W (some ⟨g, 0, none⟩) (nvs x) from fun W g hb => by rw [← hX] at hb; exact hb.sl)
  rw [hX] at HTR hszx
  rw [hX]
  have HAR := hide (fun (W : World) (p : Addr) (c : Nat) => run_arrayAt (P := Try.prog) (len := 8) (c := c) p Try.underlying96 (Nat.le_refl _) W)
  obtain ⟨Y, hY⟩ : ∃ Y, nvs (trL x 8) = Y := ⟨_, rfl⟩
  rw [hY] at HTR HTI hszy hone
  rw [hY]
  have HSZX := hide hszx
  have HSZY := hide hszy
  have HONE := hide hone
  clear h hX hx8 ha hszx hszy hY hone
  go_enter Try.func89, Try.ntmps89
  go_wp2_with (first
    | (go_at_call 135; go_must (refine (HEACH.out _ _ (HSL.out _ _ (by exact (Blk.new w 96 X).alloc _))).mono ?_; rintro e w1 ⟨rfl, hb1⟩; have b1 : Below w.heap.size w w1 := Below.step (by go_grown) hb1; have HR := hide (Blk.bel2 hb1 (show Blk _ (w.heap.size + 1) 96 (numArr [] 8) from Blk.newN _ _ _ (by simp)) (by simp <;> omega)); have HX1 := hide (Blk.bel2 hb1 (show Blk _ w.heap.size 96 X from (Blk.new w 96 X).alloc _) (by simp <;> omega)); clear hb1; simp only []))
    | (refine wpList_load_row rfl 96 (.tmp 1) rfl w.heap.size rfl 96 X (0, 0) _ HX1.out Try.underlying96 rfl (by rw [HSZX.out]; kernel_rfl) ?_)
    | (go_at_call 160; go_must (refine (HTR.out _).mono ?_; rintro e w2 ⟨C, q, rfl, ho, hb2⟩; have b2 : Below w.heap.size w w2 := Below.step b1 hb2; have HR2 := hide (HR.out.below hb2 HR.out.lt); have HS := hide (Sl.of_ownN ho); clear hb2 ho; simp only []))
    | (go_at_call 113; go_must (refine (HTI.out _ _ _ HS.out).mono ?_; rintro e w3 ⟨⟨bb, off, k3, rfl, hs3⟩, hb3⟩; have b3 : Below w.heap.size w w3 := Below.step b2 hb3; have HR3 := hide (HR2.out.below hb3 HR2.out.lt); have HS3 := hide hs3; have har := HAR.out; clear hb3 hs3; simp only []))
    | (refine wpList_load_sl 96 (.tmp 24) rfl (by rfl) ⟨bb, off, none⟩ rfl Y _ HS3.out.cells Try.underlying96 rfl (by rw [HSZY.out]; kernel_rfl) ?_)
    | (refine wpList_store_row rfl 96 (.tmp 2) (.tmp 25) rfl (w.heap.size + 1) Y.toArray rfl rfl 96 (numArr [] 8) HR3.out (by rw [List.size_toArray, HSZY.out]; kernel_rfl) (by show _ = Y.length; rw [HSZY.out]; rfl) HONE.out ?_))
  exact bodyPost_ret (results_row_tmp2 rfl _ _ (w.heap.size + 1) 96 Y.toArray _ (.int .i64 0) rfl rfl (HR3.out.row Y.toArray) Try.underlying96 rfl (by rw [List.size_toArray, HSZY.out]; kernel_rfl)) rfl ⟨rfl, Below.row b3 (by omega) _⟩
end Go.Proofs.Ythfmjohbokpceaa
