import Derived.Test.YthfmjohbokpceaaWvEB
import Derived.Test.YthfmjohbokpceaaArr
namespace Go.Proofs.Ythfmjohbokpceaa
open Go.RowKit Go.WideShapes Go.ChangeShapes

/-! samples of entries, transforms, as they are told (program) -/
theorem slice_ga8_u : Try.prog.underlying 137 = some (.array (Try.prog.arrayLen 137) (Try.prog.elem 137)) := by kernel_rfl
theorem slice_ga8 (w : World) (a : Addr) : (Instr.sliceAt 137 (.pointer (some a)) none none none).run Try.prog w = .ok (.slice (some a) 8 8) w := by
  rw [run_sliceAt_array_all w _ a slice_ga8_u, show Try.prog.arrayLen 137 = 8 by kernel_rfl, show Try.prog.elem 137 = 30 by kernel_rfl, size_ga]
  simp [go_sem, slicedAt]
theorem slice_wn8_u : Try.prog.underlying 96 = some (.array (Try.prog.arrayLen 96) (Try.prog.elem 96)) := by kernel_rfl
theorem slice_wn8 (w : World) (a : Addr) : (Instr.sliceAt 96 (.pointer (some a)) none none none).run Try.prog w = .ok (.slice (some a) 8 8) w := by
  rw [run_sliceAt_array_all w _ a slice_wn8_u, show Try.prog.arrayLen 96 = 8 by kernel_rfl, show Try.prog.elem 96 = 38 by kernel_rfl, size_wn]
  simp [go_sem, slicedAt]
theorem results_row_tmp2 {P : Program} {fn : Func} {p q : Tmp} {ty : TypeId} (h : fn.results = #[.cell p ty, .tmp q]) (tmps : Array Value) (w : World) (g : Nat) (t : TypeId) (cs : Array Value) (d : TypeDesc) (v : Value)
    (hp : tmps.getD p undef = .pointer (some ⟨g, 0, none⟩)) (hq : tmps.getD q undef = v) (hg : Blk w g t cs)
    (hu : P.underlying ty = some d) (hd : (match d with | .struct _ | .array _ _ => true | _ => false) = true) (hi : (P.info? ty).map (·.size) = some cs.size) :
    (results fn tmps).run P w = .ok (.tuple #[.agg cs, v]) w := results_row_tmp h tmps w g t cs d v hp hq hg hu hd hi
set_option maxRecDepth 100000 in
set_option maxHeartbeats 4000000 in
theorem Samples_err (x : List (Int × Int)) (w : World) (hx8 : x.length = 8) (h : eachE entE x ≠ 0) :
    Calls Try.prog 88 #[.agg (gv x).toArray] w fun e w' => e = .returned (.tuple #[.agg (numArr [] 8), .int .i64 (eachE entE x)]) ∧ Below w.heap.size w w' := by
  have hK := hide (enters Try.func141 (by kernel_rfl) rfl)
  have hsl := slice_ga8
  obtain ⟨E, hE⟩ : ∃ E, eachE entE x = E := ⟨_, rfl⟩
  have HEACH := hide (fun A W (h : Sl W A (gv x)) => by
    have := each_gauss 141 entE A 8 x W hK.out (fun z W => entryErr_wave z W) h (by omega)
    rw [hE, hx8] at this
    exact this)
  rw [hE] at h
  rw [hE]
  have hq : (E != 0) = true := by rw [bne_iff_ne]; exact h
  obtain ⟨X, hX⟩ : ∃ X, (gv x).toArray = X := ⟨_, rfl⟩
  have HSL := hide (show ∀ W g, Blk W g 137 X → Sl W (some ⟨g, 0, none⟩) (gv x) from fun W g hb => by rw [← hX] at hb; exact hb.sl)
  rw [hX]
  clear h hE hX hx8
  go_enter Try.func88, Try.ntmps88
  go_wp2_with (first
    | (go_at_call 140; go_must (refine (HEACH.out _ _ (HSL.out _ _ (by exact (Blk.new w 137 X).alloc _))).mono ?_; rintro e w1 ⟨rfl, hb1⟩; have b1 : Below w.heap.size w w1 := Below.step (by go_grown) hb1; have HR := hide (Blk.bel2 hb1 (show Blk _ (w.heap.size + 1) 96 (numArr [] 8) from Blk.newN _ _ _ (by simp)) (by simp <;> omega)); clear hb1; simp only []))
    | (refine wpList_store_row rfl 96 (.tmp 2) (.tmp 9) rfl (w.heap.size + 1) (numArr [] 8) rfl rfl 96 (numArr [] 8) HR.out (by kernel_rfl) (by kernel_rfl) (numArr_one _ _) ?_))
  exact bodyPost_ret (results_row_tmp2 rfl _ _ (w.heap.size + 1) 96 (numArr [] 8) _ (.int .i64 E) rfl rfl (HR.out.row (numArr [] 8)) Try.underlying96 rfl (by kernel_rfl)) rfl ⟨rfl, Below.row b1 (by omega) _⟩
set_option maxRecDepth 100000 in
set_option maxHeartbeats 4000000 in
theorem Samples_ok (x : List (Int × Int)) (w : World) (hx8 : x.length = 8) (h : eachE entE x = 0) :
    Calls Try.prog 88 #[.agg (gv x).toArray] w fun e w' => e = .returned (.tuple #[.agg (nvs (smpL x 8)).toArray, .int .i64 0]) ∧ Below w.heap.size w w' := by
  have hK := hide (enters Try.func141 (by kernel_rfl) rfl)
  have hsl := slice_ga8
  have HEACH := hide (fun A W (h' : Sl W A (gv x)) => by
    have := each_gauss 141 entE A 8 x W hK.out (fun z W => entryErr_wave z W) h' (by omega)
    rw [h, hx8] at this
    exact this)
  have HSM := hide (fun W => samples_wave x W hx8 (eachE_ok h))
  have hsz : (nvs (smpL x 8)).toArray.size = 32 := by simp [nvs_len, smpL, tab_len]
  have hone : (nvs (smpL x 8)).toArray.all (·.oneCell') = true := by rw [← numArr_full (smpL x 8) 8 (tab_len _ 8)]; exact numArr_one _ _
  have hszx : (gv x).toArray.size = 16 := by simp [gv_len, hx8]
  obtain ⟨X, hX⟩ : ∃ X, (gv x).toArray = X := ⟨_, rfl⟩
  have HSL := hide (show ∀ W g, Blk W g 137 X → Sl W (some ⟨g, 0, none⟩) (gv x) from fun W g hb => by rw [← hX] at hb; exact hb.sl)
  obtain ⟨cs, hcs⟩ : ∃ cs, (nvs (smpL x 8)).toArray = cs := ⟨_, rfl⟩
  rw [hX] at HSM hszx
  rw [hcs] at HSM hsz hone
  rw [hX, hcs]
  have HSZ := hide hsz
  have HSZX := hide hszx
  clear h hX hcs hx8 hsz hszx
  go_enter Try.func88, Try.ntmps88
  go_wp2_with (first
    | (go_at_call 140; go_must (refine (HEACH.out _ _ (HSL.out _ _ (by exact (Blk.new w 137 X).alloc _))).mono ?_; rintro e w1 ⟨rfl, hb1⟩; have b1 : Below w.heap.size w w1 := Below.step (by go_grown) hb1; have HR := hide (Blk.bel2 hb1 (show Blk _ (w.heap.size + 1) 96 (numArr [] 8) from Blk.newN _ _ _ (by simp)) (by simp <;> omega)); have HX1 := hide (Blk.bel2 hb1 (show Blk _ w.heap.size 137 X from (Blk.new w 137 X).alloc _) (by simp <;> omega)); clear hb1; simp only []))
    | (refine wpList_load_row rfl 137 (.tmp 1) rfl w.heap.size rfl 137 X (0, 0) _ HX1.out Try.underlying137 rfl (by rw [HSZX.out]; kernel_rfl) ?_)
    | (go_at_call 158; go_must (refine (HSM.out _).mono ?_; rintro e w2 ⟨rfl, hb2⟩; have b2 : Below w.heap.size w w2 := Below.step b1 hb2; have HR2 := hide (HR.out.below hb2 HR.out.lt); clear hb2; simp only []))
    | (refine wpList_store_row rfl 96 (.tmp 2) (.tmp 12) rfl (w.heap.size + 1) cs rfl rfl 96 (numArr [] 8) HR2.out (by rw [HSZ.out]; kernel_rfl) (by rw [HSZ.out]; rfl) hone ?_))
  exact bodyPost_ret (results_row_tmp2 rfl _ _ (w.heap.size + 1) 96 cs _ (.int .i64 0) rfl rfl (HR2.out.row cs) Try.underlying96 rfl (by rw [HSZ.out]; kernel_rfl)) rfl ⟨rfl, Below.row b2 (by omega) _⟩
end Go.Proofs.Ythfmjohbokpceaa
