import Derived.Test.YthfmjohbokpceaaFouC
namespace Go.Proofs.Ythfmjohbokpceaa
open Go.RowKit Go.WideShapes Go.ChangeShapes

/-! wave.four's error; wave.Four -/
def z8 : Array Value := #[.int .i64 0, .int .i64 0, .int .i64 0, .int .i64 0, .int .i64 0, .int .i64 0, .int .i64 0, .int .i64 0]
set_option maxRecDepth 100000 in
set_option maxHeartbeats 8000000 in
theorem four_err (x : List (Int × Int)) (t : Value) (w : World) (hx4 : x.length = 4) (hx : eachE foE x ≠ 0) :
    Calls Try.prog 149 #[.agg (gv x).toArray, t] w fun e w' => e = .returned (.tuple #[.agg z4, .int .i64 (eachE foE x)]) ∧ Below w.heap.size w w' := by
  have hK := hide (enters Try.func182 (by kernel_rfl) rfl)
  have HSZX := hide (show (gv x).toArray.size = 8 by simp [gv_len, hx4])
  have HEN := hide (fun W A c (h : Sl W A (gv x)) => by have := each_gauss 182 foE A c x W hK.out (fun z W => fourErr1_wave z W) h (by omega); rw [hx4] at this; exact this)
  have HSL := hide (fun W g (h : Blk W g 105 (gv x).toArray) => show Sl W (some ⟨g, 0, none⟩) (gv x) from fun j hj => ⟨g, 0, rfl, by rw [h.cell, Nat.zero_add]; simp [hj]⟩)
  obtain ⟨X, hX⟩ : ∃ X, (gv x).toArray = X := ⟨_, rfl⟩
  rw [hX] at HSZX HSL
  rw [hX]
  obtain ⟨E, hE⟩ : ∃ E, eachE foE x = E := ⟨_, rfl⟩
  rw [hE] at HEN hx ⊢
  have hq : (E != 0) = true := by rw [bne_iff_ne]; exact hx
  clear hx4 hX hK hE hx
  have HT := hide (((stay_new w 105 X).alloc (.cells z4 200)).alloc (.cells z4 200))
  have HR := hide ((stay_blk (Blk.newN (w.alloc (.cells X 105)) 200 z4 (g := w.heap.size + 1) (by simp))).alloc (.cells z4 200))
  have HO := hide (stay_blk (Blk.newN ((w.alloc (.cells X 105)).alloc (.cells z4 200)) 200 z4 (g := w.heap.size + 1 + 1) (by simp)))
  have HB := hide (stay_below (show Below w.heap.size w (((w.alloc (.cells X 105)).alloc (.cells z4 200)).alloc (.cells z4 200)) from by go_grown))
  have hone : z4.all (·.oneCell') = true := by simp [z4, Value.oneCell']
  have hz4 : z4.size = 4 := rfl
  go_enter Try.func149, Try.ntmps149
  go_wp2_with (first
    | (go_at_call 140; go_must (refine (HEN.out _ _ _ (HSL.out _ w.heap.size HT.out.now)).mono ?_; rintro e w1 ⟨rfl, hb⟩; replace HR := hide (HR.out.step hb); replace HO := hide (HO.out.step hb); replace HB := hide (HB.out.step hb); clear hb; simp only []))
    | (refine wpList_load_row rfl 200 (.tmp 6) rfl (w.heap.size + 1 + 1) rfl 200 z4 (0, 0) _ (by exact HO.out.now) Try.underlying200 rfl (by rw [hz4]; kernel_rfl) ?_)
    | (refine wpList_store_row rfl 200 (.tmp 4) (.tmp 17) rfl (w.heap.size + 1) z4 rfl rfl 200 z4 HR.out.now (by rw [hz4]; kernel_rfl) rfl hone ?_))
  exact bodyPost_ret (results_row_tmp rfl _ _ (w.heap.size + 1) 200 z4 _ (.int .i64 E) rfl rfl (HR.out.now.row _) Try.underlying200 rfl (by kernel_rfl)) rfl ⟨rfl, Below.row HB.out.now (by omega) _⟩
end Go.Proofs.Ythfmjohbokpceaa
