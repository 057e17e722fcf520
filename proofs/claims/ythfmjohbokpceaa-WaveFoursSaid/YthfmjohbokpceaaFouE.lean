import Derived.Test.YthfmjohbokpceaaFouD
namespace Go.Proofs.Ythfmjohbokpceaa
open Go.RowKit Go.WideShapes Go.ChangeShapes

/-! wave.Four and wave.FourBack: the error -/
set_option maxRecDepth 100000 in
set_option maxHeartbeats 8000000 in
theorem Four_err (x : List (Int × Int)) (w : World) (hx4 : x.length = 4) (hx : eachE foE x ≠ 0) :
    Calls Try.prog 70 #[.agg (gv x).toArray] w fun e w' => e = .returned (.tuple #[.agg z8, .int .i64 (eachE foE x)]) ∧ Below w.heap.size w w' := by
  have HF := hide (fun t W => four_err x t W hx4 hx)
  have HSZX := hide (show (gv x).toArray.size = 8 by simp [gv_len, hx4])
  obtain ⟨X, hX⟩ : ∃ X, (gv x).toArray = X := ⟨_, rfl⟩
  rw [hX] at HSZX HF
  rw [hX]
  obtain ⟨E, hE⟩ : ∃ E, eachE foE x = E := ⟨_, rfl⟩
  rw [hE] at HF hx ⊢
  have hq : (E != 0) = true := by rw [bne_iff_ne]; exact hx
  clear hx4 hX hE hx
  have HT := hide ((stay_new w 105 X).alloc (.cells z8 105))
  have HR := hide (stay_blk (Blk.newN (w.alloc (.cells X 105)) 105 z8 (g := w.heap.size + 1) (by simp)))
  have HB := hide (stay_below (show Below w.heap.size w ((w.alloc (.cells X 105)).alloc (.cells z8 105)) from by go_grown))
  have hone : z8.all (·.oneCell') = true := by simp [z8, Value.oneCell']
  have hz8 : z8.size = 8 := rfl
  have hone4 : z4.all (·.oneCell') = true := by simp [z4, Value.oneCell']
  have hz4 : z4.size = 4 := rfl
  go_enter Try.func70, Try.ntmps70
  go_wp2_with (first
    | (refine wpList_load_row rfl 105 (.tmp 1) rfl w.heap.size rfl 105 X (0, 0) _ (by exact HT.out.now) Try.underlying105 rfl (by rw [HSZX.out]; kernel_rfl) ?_)
    | (go_at_call 149; go_must (refine (HF.out _ _).mono ?_; rintro e w1 ⟨rfl, hb⟩; replace HR := hide (HR.out.step hb); replace HB := hide (HB.out.step hb); clear hb; simp only []))
    | (refine wpList_store_row rfl 200 (.tmp 4) (.tmp 9) rfl w1.heap.size z4 rfl rfl 200 z4 (Blk.new w1 _ _) (by rw [hz4]; kernel_rfl) rfl hone4 ?_; have hrow : Below w1.heap.size w1 ((w1.alloc (.cells z4 200)).setRow w1.heap.size z4) := Below.row ((Below.refl _ _).alloc (Nat.le_refl _) _) (Nat.le_refl _) _; replace HR := hide (HR.out.step hrow); replace HB := hide (HB.out.step hrow); clear hrow)
    | (refine wpList_store_row rfl 105 (.tmp 2) (.tmp 13) rfl (w.heap.size + 1) z8 rfl rfl 105 z8 HR.out.now (by rw [hz8]; kernel_rfl) rfl hone ?_))
  exact bodyPost_ret (results_row_tmp rfl _ _ (w.heap.size + 1) 105 z8 _ (.int .i64 E) rfl rfl (HR.out.now.row _) Try.underlying105 rfl (by kernel_rfl)) rfl ⟨rfl, Below.row HB.out.now (by omega) _⟩
set_option maxRecDepth 100000 in
set_option maxHeartbeats 8000000 in
theorem FourBack_err (x : List (Int × Int)) (w : World) (hx4 : x.length = 4) (hx : eachE foE x ≠ 0) :
    Calls Try.prog 71 #[.agg (gv x).toArray] w fun e w' => e = .returned (.tuple #[.agg z8, .int .i64 (eachE foE x)]) ∧ Below w.heap.size w w' := by
  have HF := hide (fun t W => four_err x t W hx4 hx)
  have HSZX := hide (show (gv x).toArray.size = 8 by simp [gv_len, hx4])
  obtain ⟨X, hX⟩ : ∃ X, (gv x).toArray = X := ⟨_, rfl⟩
  rw [hX] at HSZX HF
  rw [hX]
  obtain ⟨E, hE⟩ : ∃ E, eachE foE x = E := ⟨_, rfl⟩
  rw [hE] at HF hx ⊢
  have hq : (E != 0) = true := by rw [bne_iff_ne]; exact hx
  clear hx4 hX hE hx
  have HT := hide ((stay_new w 105 X).alloc (.cells z8 105))
  have HR := hide (stay_blk (Blk.newN (w.alloc (.cells X 105)) 105 z8 (g := w.heap.size + 1) (by simp)))
  have HB := hide (stay_below (show Below w.heap.size w ((w.alloc (.cells X 105)).alloc (.cells z8 105)) from by go_grown))
  have hone : z8.all (·.oneCell') = true := by simp [z8, Value.oneCell']
  have hz8 : z8.size = 8 := rfl
  have hone4 : z4.all (·.oneCell') = true := by simp [z4, Value.oneCell']
  have hz4 : z4.size = 4 := rfl
  go_enter Try.func71, Try.ntmps71
  go_wp2_with (first
    | (refine wpList_load_row rfl 105 (.tmp 1) rfl w.heap.size rfl 105 X (0, 0) _ (by exact HT.out.now) Try.underlying105 rfl (by rw [HSZX.out]; kernel_rfl) ?_)
    | (go_at_call 149; go_must (refine (HF.out _ _).mono ?_; rintro e w1 ⟨rfl, hb⟩; replace HR := hide (HR.out.step hb); replace HB := hide (HB.out.step hb); clear hb; simp only []))
    | (refine wpList_store_row rfl 200 (.tmp 4) (.tmp 13) rfl w1.heap.size z4 rfl rfl 200 z4 (Blk.new w1 _ _) (by rw [hz4]; kernel_rfl) rfl hone4 ?_; have hrow : Below w1.heap.size w1 ((w1.alloc (.cells z4 200)).setRow w1.heap.size z4) := Below.row ((Below.refl _ _).alloc (Nat.le_refl _) _) (Nat.le_refl _) _; replace HR := hide (HR.out.step hrow); replace HB := hide (HB.out.step hrow); clear hrow)
    | (refine wpList_store_row rfl 105 (.tmp 2) (.tmp 17) rfl (w.heap.size + 1) z8 rfl rfl 105 z8 HR.out.now (by rw [hz8]; kernel_rfl) rfl hone ?_))
  exact bodyPost_ret (results_row_tmp rfl _ _ (w.heap.size + 1) 105 z8 _ (.int .i64 E) rfl rfl (HR.out.now.row _) Try.underlying105 rfl (by kernel_rfl)) rfl ⟨rfl, Below.row HB.out.now (by omega) _⟩
end Go.Proofs.Ythfmjohbokpceaa
