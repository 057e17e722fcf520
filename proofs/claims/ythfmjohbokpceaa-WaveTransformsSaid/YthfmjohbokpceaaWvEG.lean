import Derived.Test.YthfmjohbokpceaaWvEF
import Derived.Test.YthfmjohbokpceaaWvEC
namespace Go.Proofs.Ythfmjohbokpceaa
open Go.RowKit Go.WideShapes Go.ChangeShapes

/-! the spectrum of samples (reference) -/
set_option maxRecDepth 100000 in
set_option maxHeartbeats 8000000 in
theorem Spectrum_ref (x : List Nm) (w : World) (hx8 : x.length = 8) (h : eachE numE x = 0) :
    Calls Try.prog 94 #[.agg (nvs x).toArray] w fun e w' => e = .returned (spOut (trL x 8)) ∧ Below w.heap.size w w' := by
  have hxl : ∀ z ∈ x, nle 1000000000 z := fun z hz => numE_ok (eachE_ok h z hz)
  have HTR := hide (fun W => transform_ref x W hx8 hxl)
  have hle : ∀ k, nle 8000000000 (kn (trL x 8) k) := fun k => by
    refine kn_le' (by omega) (fun z hz => ?_) k
    obtain ⟨i, _, rfl⟩ := mem_tab hz
    exact tsm_le hxl i 8
  have HLE := hide hle
  have hlen := trL_len x 8
  have hszx : (nvs x).toArray.size = 32 := by simp [nvs_len, hx8]
  obtain ⟨X, hX⟩ : ∃ X, (nvs x).toArray = X := ⟨_, rfl⟩
  rw [hX] at HTR hszx
  rw [hX]
  have HSZX := hide hszx
  obtain ⟨R, hR⟩ : ∃ R, trL x 8 = R := ⟨_, rfl⟩
  rw [hR] at HTR HLE hlen
  rw [hR]
  have HLEN := hide hlen
  have HSZR := hide (show (nvs R).toArray.size = 32 by simp [nvs_len, hlen])
  have HONER := hide (show (nvs R).toArray.all (·.oneCell') = true by rw [← numArr_full R 8 hlen]; exact numArr_one _ _)
  have HMAP := hide (fun k (hk : k < R.length) => show (R.take (k + 1)).map spV = (R.take k).map spV ++ [spV (kn R k)] by rw [List.take_succ_eq_append_getElem hk, List.map_append, kn_at hk]; rfl)
  have HMLEN := hide (fun k (hk : k < R.length) => show ((R.take k).map spV).length = k by simp; omega)
  have HNOT := hide (fun k (hk : k < R.length) (h1 : spB (kn R k) = false) => all_not spB R k hk (by rw [← kn_at hk]; exact h1))
  have HALL := hide (fun k (hk : k < R.length) (h0 : (R.take k).all spB = true) (h1 : spB (kn R k) = true) => all_take spB R k hk h0 (by rw [← kn_at hk]; exact h1))
  clear h hX hx8 hszx hxl hle hR hlen
  go_enter Try.func94, Try.ntmps94
  go_wp2_with (first
    | (refine wpList_load_row rfl 96 (.tmp 1) rfl w.heap.size rfl 96 X (0, 0) _ (by exact ((Blk.new w 96 X).alloc _).alloc _) Try.underlying96 rfl (by rw [HSZX.out]; kernel_rfl) ?_)
    | (go_at_call 93; go_must (refine (HTR.out _).mono ?_; rintro e w1 ⟨rfl, hb1⟩; have b1 : Below w.heap.size w w1 := Below.step (by go_grown) hb1; have z1 := hb1.size; simp at z1; have HR1 := hide (Blk.bel2 hb1 (show Blk _ (w.heap.size + 1) 137 (garr [] 8) from (Blk.newN (w.alloc (.cells X 96)) 137 (garr [] 8) (by simp)).alloc _) (by simp <;> omega)); have HO1 := hide (Blk.bel2 hb1 (show Blk _ (w.heap.size + 2) 137 (garr [] 8) from Blk.newN _ _ _ (by simp)) (by simp <;> omega)); clear hb1; simp only []))
    | (refine wpList_store_row rfl 96 (.tmp 5) (.tmp 8) rfl w1.heap.size (nvs R).toArray rfl rfl 96 (numArr [] 8) (Blk.new w1 _ _) (by rw [HSZR.out]; kernel_rfl) (by rw [HSZR.out]; rfl) HONER.out ?_; have HB1 := hide ((Blk.new w1 96 (numArr [] 8)).row (nvs R).toArray)))
  have hg1 : w.heap.size + 2 < w1.heap.size := HO1.out.lt
  have HR2 := hide ((HR1.out.alloc (.cells (numArr [] 8) 96)).below (Below.row (Below.refl w1.heap.size _) (Nat.le_refl _) (nvs R).toArray) (by omega))
  have HO2 := hide ((HO1.out.alloc (.cells (numArr [] 8) 96)).below (Below.row (Below.refl w1.heap.size _) (Nat.le_refl _) (nvs R).toArray) (by omega))
  have b2 := Below.row (b1.alloc (by omega) (.cells (numArr [] 8) 96)) (show w.heap.size ≤ w1.heap.size by omega) (nvs R).toArray
  clear HTR HR1 HO1 b1 HSZX HONER z1
  obtain ⟨w2, hw2⟩ : ∃ w2, (w1.alloc (.cells (numArr [] 8) 96)).setRow w1.heap.size (nvs R).toArray = w2 := ⟨_, rfl⟩
  rw [hw2] at HB1 HR2 HO2 b2
  rw [show (w1.alloc (.cells #[.int .i64 0, .int .i64 0, .int .i64 0, .int .i64 0, .int .i64 0, .int .i64 0, .int .i64 0, .int .i64 0, .int .i64 0, .int .i64 0, .int .i64 0, .int .i64 0, .int .i64 0, .int .i64 0, .int .i64 0, .int .i64 0, .int .i64 0, .int .i64 0, .int .i64 0, .int .i64 0, .int .i64 0, .int .i64 0, .int .i64 0, .int .i64 0, .int .i64 0, .int .i64 0, .int .i64 0, .int .i64 0, .int .i64 0, .int .i64 0, .int .i64 0, .int .i64 0] 96)).setRow w1.heap.size (nvs R).toArray = w2 from hw2]
  clear hw2
  generalize w1.heap.size = g at hg1 HB1 HR2 HO2 ⊢
  go_loopw [6] (fun i wr => ∃ k : Nat, k ≤ 8 ∧ i = .int .i64 k ∧ (R.take k).all spB = true ∧ Blk wr g 96 (nvs R).toArray ∧ Blk wr (w.heap.size + 1) 137 (garr [] 8) ∧ Blk wr (w.heap.size + 2) 137 (garr ((R.take k).map spV) 8) ∧ Below w.heap.size w wr) (fun i _ => 8 - (intOf i).toNat)
  case atStart => exact ⟨0, by omega, rfl, rfl, HB1.out, HR2.out, HO2.out, b2⟩
  case round =>
    clear HB1 HR2 HO2 b2
    obtain ⟨k, hk, rfl, hall, hB, hR, hG, hbel⟩ := hrel
    have hbz := hbel.size
    have hGl := hG.lt
    have hBl := hB.lt
    by_cases hlt : k < 8
    · have hd : decide ((k : Int) < 8) = true := by rw [decide_eq_true_iff]; omega
      have hkl : k < R.length := by rw [HLEN.out]; exact hlt
      have HXC := hide (show ∀ W, Blk W g 96 (nvs R).toArray → _ from fun W h => h.ncell (k := k) hkl)
      have hle := HLE.out k
      have hmap := HMAP.out k hkl
      have hml := HMLEN.out k hkl
      have hnot := HNOT.out k hkl
      have hal := HALL.out k hkl hall
      obtain ⟨⟨y0, y1, y2, y3⟩, hy⟩ : ∃ y, kn R k = y := ⟨_, rfl⟩
      rw [hy] at HXC hle hmap hnot hal
      unfold nle at hle
      dsimp only at HXC hle
      obtain ⟨l0, l0', l1, l1', l2, l2', l3, l3'⟩ := hle
      obtain ⟨d0, d1, d2, d3⟩ := HXC.out _ hB
      have hsp := sp_cases y0 y1 y2 y3
      obtain ⟨t1, t2⟩ := tmod_bd y0
      obtain ⟨t3, t4⟩ := tmod_bd y2
      obtain ⟨t5, t6⟩ := tdiv_bd l0 l0'
      obtain ⟨t7, t8⟩ := tdiv_bd l2 l2'
      have HBB := hide hB
      have HRR := hide hR
      have HGG := hide (show Blk wr (w.heap.size + 2) 137 (garr ((R.take k).map spV ++ [(0, 0)]) 8) by rw [garr_zero _ _ (by omega)]; exact hG)
      have HMP := hide hmap
      have HML := hide hml
      have HND := hide hnot
      have HAL := hide hal
      have HSPV := hide (show spV (y0, y1, y2, y3) = (y0.tdiv 8, y2.tdiv 8) from rfl)
      obtain ⟨r0, hr0⟩ : ∃ r, y0.tmod 8 = r := ⟨_, rfl⟩
      obtain ⟨r2, hr2⟩ : ∃ r, y2.tmod 8 = r := ⟨_, rfl⟩
      obtain ⟨q0, hq0⟩ : ∃ r, y0.tdiv 8 = r := ⟨_, rfl⟩
      obtain ⟨q2, hq2⟩ : ∃ r, y2.tdiv 8 = r := ⟨_, rfl⟩
      rw [hr0] at t1 t2 hsp
      rw [hr2] at t3 t4 hsp
      rw [hq0] at t5 t6 HSPV
      rw [hq2] at t7 t8 HSPV
      clear hy hmap hml hnot hal hB hR hG hall HLE HMAP HMLEN HNOT HALL hkl
      rcases hsp with ⟨h1, hB⟩ | ⟨h1, h2, hB⟩ | ⟨h1, h2, h3, hB⟩ | ⟨h1, h2, h3, h4, hB⟩ | ⟨h1, h2, h3, h4, hB⟩
      · have HF := hide (spOut_bad (HND.out hB))
        clear hB HND HAL
        go_wp2_with (refine wpList_store_row rfl 137 (.tmp 2) (.tmp 41) rfl (w.heap.size + 1) (garr [] 8) rfl rfl 137 (garr [] 8) HRR.out (by kernel_rfl) (by kernel_rfl) (garr_one _ _) ?_)
        exact bodyPost_ret (results_row_tmp2 rfl _ _ (w.heap.size + 1) 137 (garr [] 8) _ (.int .i64 3) rfl rfl (by exact HRR.out.row (garr [] 8)) Try.underlying137 rfl (by kernel_rfl)) rfl ⟨by rw [HF.out], Below.row hbel (by omega) _⟩
      · have HF := hide (spOut_bad (HND.out hB))
        clear hB HND HAL
        go_wp2_with (refine wpList_store_row rfl 137 (.tmp 2) (.tmp 41) rfl (w.heap.size + 1) (garr [] 8) rfl rfl 137 (garr [] 8) HRR.out (by kernel_rfl) (by kernel_rfl) (garr_one _ _) ?_)
        exact bodyPost_ret (results_row_tmp2 rfl _ _ (w.heap.size + 1) 137 (garr [] 8) _ (.int .i64 3) rfl rfl (by exact HRR.out.row (garr [] 8)) Try.underlying137 rfl (by kernel_rfl)) rfl ⟨by rw [HF.out], Below.row hbel (by omega) _⟩
      · have HF := hide (spOut_bad (HND.out hB))
        clear hB HND HAL
        go_wp2_with (refine wpList_store_row rfl 137 (.tmp 2) (.tmp 41) rfl (w.heap.size + 1) (garr [] 8) rfl rfl 137 (garr [] 8) HRR.out (by kernel_rfl) (by kernel_rfl) (garr_one _ _) ?_)
        exact bodyPost_ret (results_row_tmp2 rfl _ _ (w.heap.size + 1) 137 (garr [] 8) _ (.int .i64 3) rfl rfl (by exact HRR.out.row (garr [] 8)) Try.underlying137 rfl (by kernel_rfl)) rfl ⟨by rw [HF.out], Below.row hbel (by omega) _⟩
      · have HF := hide (spOut_bad (HND.out hB))
        clear hB HND HAL
        go_wp2_with (refine wpList_store_row rfl 137 (.tmp 2) (.tmp 41) rfl (w.heap.size + 1) (garr [] 8) rfl rfl 137 (garr [] 8) HRR.out (by kernel_rfl) (by kernel_rfl) (garr_one _ _) ?_)
        exact bodyPost_ret (results_row_tmp2 rfl _ _ (w.heap.size + 1) 137 (garr [] 8) _ (.int .i64 3) rfl rfl (by exact HRR.out.row (garr [] 8)) Try.underlying137 rfl (by kernel_rfl)) rfl ⟨by rw [HF.out], Below.row hbel (by omega) _⟩
      · have HAL2 := hide (HAL.out hB)
        clear hB HND HAL
        have HH0 := hide (show (fun w' => Blk w' g 96 (nvs R).toArray ∧ Blk w' (w.heap.size + 1) 137 (garr [] 8) ∧ Blk w' (w.heap.size + 2) 137 (garr ((R.take k).map spV ++ [(0, 0)]) 8) ∧ Below w.heap.size w w') wr.drew from ⟨HBB.out, HRR.out, HGG.out, below_drewN hbel 1⟩)
        obtain ⟨u0, u1, f0, f1⟩ := (show Blk wr (w.heap.size + 1 + 1) 137 (garr ((R.take k).map spV ++ [(0, 0)]) 8) from HGG.out).ga2 HML.out
        clear HBB HRR HGG
        go_wp2
        clear d0 d1 d2 d3
        have g3 : (0 : Int) ≤ (k : Int) := by omega
        have g4 : (k : Int) < 8 := by omega
        have g5 : IntKind.i64.wrap q0 = q0 := IntWalk.i64_in _ (by omega)
        have g6 : IntKind.i64.wrap q2 = q2 := IntWalk.i64_in _ (by omega)
        refine UpTo.start (z := 13) (S := fun w' => Blk w' g 96 (nvs R).toArray ∧ Blk w' (w.heap.size + 1) 137 (garr [] 8) ∧ Blk w' (w.heap.size + 2) 137 (garr ((R.take k).map spV ++ [(0, 0)]) 8) ∧ Below w.heap.size w w') (by kernel_rfl) ?_
        refine UpTo.take (i := 0) 42 (v := .int .i64 (k : Int)) rfl rfl (by kernel_rfl) (by kernel_rfl) (by kernel_rfl) (by kernel_rfl) (fun _ _ _ h => h) HH0.out (Or.inl ⟨by rfl, by intro w hSw; go_simp⟩) ?_
        try simp only [Act.put, List.setIfInBounds_toArray, List.set_cons_zero, List.set_cons_succ]
        refine UpTo.take (i := 1) 43 (v := .int .i64 (k : Int)) rfl rfl (by kernel_rfl) (by kernel_rfl) (by kernel_rfl) (by kernel_rfl) (fun _ _ _ h => h) HH0.out (Or.inl ⟨by rfl, by intro w hSw; go_simp⟩) ?_
        try simp only [Act.put, List.setIfInBounds_toArray, List.set_cons_zero, List.set_cons_succ]
        refine UpTo.take (i := 2) 44 (v := .pointer (some ⟨g, k * 4, none⟩)) rfl rfl (by kernel_rfl) (by kernel_rfl) (by kernel_rfl) (by kernel_rfl) (fun _ _ _ h => h) HH0.out (Or.inl ⟨by rfl, by intro w hSw; go_simp⟩) ?_
        try simp only [Act.put, List.setIfInBounds_toArray, List.set_cons_zero, List.set_cons_succ]
        refine UpTo.take (i := 3) 45 (v := .pointer (some ⟨g, k * 4, none⟩)) rfl rfl (by kernel_rfl) (by kernel_rfl) (by kernel_rfl) (by kernel_rfl) (fun _ _ _ h => h) HH0.out (Or.inl ⟨by rfl, by intro w hSw; go_simp⟩) ?_
        try simp only [Act.put, List.setIfInBounds_toArray, List.set_cons_zero, List.set_cons_succ]
        refine UpTo.take (i := 4) 46 (v := .int .i64 y0) rfl rfl (by kernel_rfl) (by kernel_rfl) (by kernel_rfl) (by kernel_rfl) (fun _ _ _ h => h) HH0.out (Or.inl ⟨by rfl, by intro w hSw; obtain ⟨q0, q1, q2, q3⟩ := HXC.out _ hSw.1; go_simp⟩) ?_
        try simp only [Act.put, List.setIfInBounds_toArray, List.set_cons_zero, List.set_cons_succ]
        refine UpTo.take (i := 5) 47 (v := .int .i64 q0) rfl rfl (by kernel_rfl) (by kernel_rfl) (by kernel_rfl) (by kernel_rfl) (fun _ _ _ h => h) HH0.out (Or.inl ⟨by rfl, by intro w hSw; go_simp⟩) ?_
        try simp only [Act.put, List.setIfInBounds_toArray, List.set_cons_zero, List.set_cons_succ]
        refine UpTo.take (i := 6) 48 (v := .int .i64 (k : Int)) rfl rfl (by kernel_rfl) (by kernel_rfl) (by kernel_rfl) (by kernel_rfl) (fun _ _ _ h => h) HH0.out (Or.inl ⟨by rfl, by intro w hSw; go_simp⟩) ?_
        try simp only [Act.put, List.setIfInBounds_toArray, List.set_cons_zero, List.set_cons_succ]
        refine UpTo.take (i := 7) 49 (v := .pointer (some ⟨g, k * 4, none⟩)) rfl rfl (by kernel_rfl) (by kernel_rfl) (by kernel_rfl) (by kernel_rfl) (fun _ _ _ h => h) HH0.out (Or.inl ⟨by rfl, by intro w hSw; go_simp⟩) ?_
        try simp only [Act.put, List.setIfInBounds_toArray, List.set_cons_zero, List.set_cons_succ]
        refine UpTo.take (i := 8) 50 (v := .pointer (some ⟨g, k * 4 + 2, none⟩)) rfl rfl (by kernel_rfl) (by kernel_rfl) (by kernel_rfl) (by kernel_rfl) (fun _ _ _ h => h) HH0.out (Or.inl ⟨by rfl, by intro w hSw; go_simp⟩) ?_
        try simp only [Act.put, List.setIfInBounds_toArray, List.set_cons_zero, List.set_cons_succ]
        refine UpTo.take (i := 9) 51 (v := .int .i64 y2) rfl rfl (by kernel_rfl) (by kernel_rfl) (by kernel_rfl) (by kernel_rfl) (fun _ _ _ h => h) HH0.out (Or.inl ⟨by rfl, by intro w hSw; obtain ⟨q0, q1, q2, q3⟩ := HXC.out _ hSw.1; go_simp⟩) ?_
        try simp only [Act.put, List.setIfInBounds_toArray, List.set_cons_zero, List.set_cons_succ]
        refine UpTo.take (i := 10) 52 (v := .int .i64 q2) rfl rfl (by kernel_rfl) (by kernel_rfl) (by kernel_rfl) (by kernel_rfl) (fun _ _ _ h => h) HH0.out (Or.inl ⟨by rfl, by intro w hSw; go_simp⟩) ?_
        try simp only [Act.put, List.setIfInBounds_toArray, List.set_cons_zero, List.set_cons_succ]
        refine UpTo.take (i := 11) 53 (v := .agg #[.int .i64 q0, .int .i64 q2]) rfl rfl (by kernel_rfl) (by kernel_rfl) (by kernel_rfl) (by kernel_rfl) (fun _ _ _ h => h) HH0.out (Or.inl ⟨by rfl, by intro w hSw; go_simp⟩) ?_
        try simp only [Act.put, List.setIfInBounds_toArray, List.set_cons_zero, List.set_cons_succ]
        refine UpTo.next (i := 12) (by kernel_rfl) rfl (fun K hK => ?_)
        go_simp
        refine hK.out _ _ (fun _ => HH0.out) ?_
        clear hK K
        try simp only [Act.put, List.setIfInBounds_toArray, List.set_cons_zero, List.set_cons_succ]
        have b6 := HH0.out.2.2.2
        refine UpTo.next (i := 13) (by kernel_rfl) rfl (fun K hK => ?_)
        go_simp
        refine hK.out _ _ (fun h => absurd rfl h) ?_
        clear hK K
        refine UpTo.done (by kernel_rfl) ?_ _
        go_wp2
        go_roundw
        case rel =>
          refine ⟨k + 1, by omega, by go_num, HAL2.out, ?_, ?_, ?_, by go_grown⟩
          · exact (HH0.out.1.far (p := ⟨w.heap.size + 1 + 1, k * 2, none⟩) (by show g ≠ w.heap.size + 1 + 1; omega) (.int .i64 q0)).far (p := ⟨w.heap.size + 1 + 1, k * 2 + 1, none⟩) (by show g ≠ w.heap.size + 1 + 1; omega) (.int .i64 q2)
          · exact (HH0.out.2.1.far (p := ⟨w.heap.size + 1 + 1, k * 2, none⟩) (by show w.heap.size + 1 ≠ w.heap.size + 1 + 1; omega) (.int .i64 q0)).far (p := ⟨w.heap.size + 1 + 1, k * 2 + 1, none⟩) (by show w.heap.size + 1 ≠ w.heap.size + 1 + 1; omega) (.int .i64 q2)
          · have := (HH0.out.2.2.1.set_ (k * 2) (.int .i64 q0)).set_ (k * 2 + 1) (.int .i64 q2)
            rw [garr_upd _ 8 k (0, 0) (q0, q2) HML.out, ← HSPV.out, ← HMP.out] at this
            exact this
        case measure => simp [intOf]; omega
    · have hd : decide ((k : Int) < 8) = false := by rw [decide_eq_false_iff_not]; omega
      obtain rfl : k = 8 := by omega
      rw [show R.take 8 = R from List.take_of_length_le (by rw [HLEN.out]; omega)] at hall hG
      have hsz := garr_size (R.map spV) 8 (by rw [List.length_map, HLEN.out]; omega)
      have hone := garr_one (R.map spV) 8
      have hout := spOut_good hall
      obtain ⟨cs, hcs⟩ : ∃ cs, garr (R.map spV) 8 = cs := ⟨_, rfl⟩
      rw [hcs] at hG hsz hone hout
      have HOUT := hide hout
      have HSZ := hide hsz
      have HG := hide hG
      have HRR := hide hR
      clear hcs hsz hG hR hB hall hout HLE HMAP HMLEN HNOT HALL
      go_wp2_with (first
        | (refine wpList_load_row rfl 137 (.tmp 4) rfl (w.heap.size + 2) rfl 137 cs (0, 0) _ HG.out Try.underlying137 rfl (by rw [HSZ.out]; kernel_rfl) ?_)
        | (refine wpList_store_row rfl 137 (.tmp 2) (.tmp 55) rfl (w.heap.size + 1) cs rfl rfl 137 (garr [] 8) HRR.out (by rw [HSZ.out]; kernel_rfl) (by rw [HSZ.out]; rfl) hone ?_))
      exact bodyPost_ret (results_row_tmp2 rfl _ _ (w.heap.size + 1) 137 cs _ (.int .i64 0) rfl rfl (HRR.out.row cs) Try.underlying137 rfl (by rw [HSZ.out]; kernel_rfl)) rfl ⟨by rw [HOUT.out], Below.row hbel (by omega) _⟩
end Go.Proofs.Ythfmjohbokpceaa
