import Derived.Test.YthfmjohbokpceaaWvEE
namespace Go.Proofs.Ythfmjohbokpceaa
open Go.RowKit Go.WideShapes Go.ChangeShapes

/-! the spectrum of samples (program) -/
def spB (y : Nm) : Bool := !(y.2.1 != 0) && !(y.2.2.2 != 0) && !(y.1.tmod 8 != 0) && !(y.2.2.1.tmod 8 != 0)
def spV (y : Nm) : Int × Int := (y.1.tdiv 8, y.2.2.1.tdiv 8)
def spL (x : List Nm) : List (Int × Int) := (trL x 8).map spV
def spOut (R : List Nm) : Value := .tuple (if R.all spB then #[.agg (garr (R.map spV) 8), .int .i64 0] else #[.agg (garr [] 8), .int .i64 3])
theorem spOut_bad {R : List Nm} (h : R.all spB = false) : spOut R = .tuple #[.agg (garr [] 8), .int .i64 3] := by unfold spOut; rw [h]; rfl
theorem spOut_good {R : List Nm} (h : R.all spB = true) : spOut R = .tuple #[.agg (garr (R.map spV) 8), .int .i64 0] := by unfold spOut; rw [h]; rfl
theorem sp_cases (y0 y1 y2 y3 : Int) : ((y1 != 0) = true ∧ spB (y0, y1, y2, y3) = false) ∨ ((y1 != 0) = false ∧ (y3 != 0) = true ∧ spB (y0, y1, y2, y3) = false) ∨ ((y1 != 0) = false ∧ (y3 != 0) = false ∧ (y0.tmod 8 != 0) = true ∧ spB (y0, y1, y2, y3) = false) ∨
    ((y1 != 0) = false ∧ (y3 != 0) = false ∧ (y0.tmod 8 != 0) = false ∧ (y2.tmod 8 != 0) = true ∧ spB (y0, y1, y2, y3) = false) ∨ ((y1 != 0) = false ∧ (y3 != 0) = false ∧ (y0.tmod 8 != 0) = false ∧ (y2.tmod 8 != 0) = false ∧ spB (y0, y1, y2, y3) = true) := by
  unfold spB
  dsimp only
  cases h1 : (y1 != 0) <;> cases h2 : (y3 != 0) <;> cases h3 : (y0.tmod 8 != 0) <;> cases h4 : (y2.tmod 8 != 0) <;> simp
theorem tdiv_bd {a m : Int} (h : -m ≤ a) (h' : a ≤ m) : -m ≤ a.tdiv 8 ∧ a.tdiv 8 ≤ m := by
  by_cases h0 : 0 ≤ a
  · rw [Int.tdiv_eq_ediv_of_nonneg h0]; omega
  · have e : a.tdiv 8 = -((-a).tdiv 8) := by rw [Int.neg_tdiv]; omega
    rw [e, Int.tdiv_eq_ediv_of_nonneg (by omega)]; omega
theorem tmod_bd (a : Int) : -8 < a.tmod 8 ∧ a.tmod 8 < 8 := by
  have h1 := Int.tmod_eq_emod (a := a) (b := 8)
  rw [h1]
  constructor <;> split <;> omega
set_option maxRecDepth 100000 in
set_option maxHeartbeats 4000000 in
theorem Spectrum_err (x : List Nm) (w : World) (hx8 : x.length = 8) (h : eachE numE x ≠ 0) :
    Calls Try.prog 90 #[.agg (nvs x).toArray] w fun e w' => e = .returned (.tuple #[.agg (garr [] 8), .int .i64 (eachE numE x)]) ∧ Below w.heap.size w w' := by
  have hsl := slice_wn8
  have HEACH := hide (fun A W (h : Sl W A (nvs x)) => each8 x hx8 A W h)
  obtain ⟨E, hE⟩ : ∃ E, eachE numE x = E := ⟨_, rfl⟩
  rw [hE] at h HEACH
  rw [hE]
  have hq : (E != 0) = true := by rw [bne_iff_ne]; exact h
  obtain ⟨X, hX⟩ : ∃ X, (nvs x).toArray = X := ⟨_, rfl⟩
  have HSL := hide (show ∀ W g, Blk W g 96 X → Sl W (some ⟨g, 0, none⟩) (nvs x) from fun W g hb => by rw [← hX] at hb; exact hb.sl)
  rw [hX]
  clear h hE hX hx8
  go_enter Try.func90, Try.ntmps90
  go_wp2_with (first
    | (go_at_call 135; go_must (refine (HEACH.out _ _ (HSL.out _ _ (by exact (Blk.new w 96 X).alloc _))).mono ?_; rintro e w1 ⟨rfl, hb1⟩; have b1 : Below w.heap.size w w1 := Below.step (by go_grown) hb1; have HR := hide (Blk.bel2 hb1 (show Blk _ (w.heap.size + 1) 137 (garr [] 8) from Blk.newN _ _ _ (by simp)) (by simp <;> omega)); clear hb1; simp only []))
    | (refine wpList_store_row rfl 137 (.tmp 2) (.tmp 12) rfl (w.heap.size + 1) (garr [] 8) rfl rfl 137 (garr [] 8) HR.out (by kernel_rfl) (by kernel_rfl) (garr_one _ _) ?_))
  exact bodyPost_ret (results_row_tmp2 rfl _ _ (w.heap.size + 1) 137 (garr [] 8) _ (.int .i64 E) rfl rfl (HR.out.row (garr [] 8)) Try.underlying137 rfl (by kernel_rfl)) rfl ⟨rfl, Below.row b1 (by omega) _⟩
set_option maxRecDepth 100000 in
set_option maxHeartbeats 8000000 in
theorem Spectrum_wave (x : List Nm) (w : World) (hx8 : x.length = 8) (h : eachE numE x = 0) :
    Calls Try.prog 90 #[.agg (nvs x).toArray] w fun e w' => e = .returned (spOut (trL x 8)) ∧ Below w.heap.size w w' := by
  have hsl := slice_wn8
  have HEACH := hide (fun A W (h : Sl W A (nvs x)) => each8 x hx8 A W h)
  rw [h] at HEACH
  have hxl : ∀ z ∈ x, nle 1000000000 z := fun z hz => numE_ok (eachE_ok h z hz)
  have HTR := hide (fun W => transform_wave x W hx8 hxl)
  have hle : ∀ k, nle 8000000000 (kn (trL x 8) k) := fun k => by
    refine kn_le' (by omega) (fun z hz => ?_) k
    obtain ⟨i, _, rfl⟩ := mem_tab hz
    exact tsm_le hxl i 8
  have HLE := hide hle
  have hlen := trL_len x 8
  have hszx : (nvs x).toArray.size = 32 := by simp [nvs_len, hx8]
  obtain ⟨X, hX⟩ : ∃ X, (nvs x).toArray = X := ⟨_, rfl⟩
  have HSL := hide (show ∀ W g, Blk W g 96 X → Sl W (some ⟨g, 0, none⟩) (nvs x) from fun W g hb => by rw [← hX] at hb; exact hb.sl)
  rw [hX] at HTR hszx
  rw [hX]
  have HSZX := hide hszx
  obtain ⟨R, hR⟩ : ∃ R, trL x 8 = R := ⟨_, rfl⟩
  rw [hR] at HTR HLE hlen
  rw [hR]
  have HLEN := hide hlen
  have HMAP := hide (fun k (hk : k < R.length) => show (R.take (k + 1)).map spV = (R.take k).map spV ++ [spV (kn R k)] by rw [List.take_succ_eq_append_getElem hk, List.map_append, kn_at hk]; rfl)
  have HMLEN := hide (fun k (hk : k < R.length) => show ((R.take k).map spV).length = k by simp; omega)
  have HNOT := hide (fun k (hk : k < R.length) (h1 : spB (kn R k) = false) => all_not spB R k hk (by rw [← kn_at hk]; exact h1))
  have HALL := hide (fun k (hk : k < R.length) (h0 : (R.take k).all spB = true) (h1 : spB (kn R k) = true) => all_take spB R k hk h0 (by rw [← kn_at hk]; exact h1))
  clear h hX hx8 hszx hxl hle hR hlen
  go_enter Try.func90, Try.ntmps90
  go_wp2_with (first
    | (go_at_call 135; go_must (refine (HEACH.out _ _ (HSL.out _ _ (by exact (Blk.new w 96 X).alloc _))).mono ?_; rintro e w1 ⟨rfl, hb1⟩; have b1 : Below w.heap.size w w1 := Below.step (by go_grown) hb1; have z1 := b1.size; have HR := hide (Blk.bel2 hb1 (show Blk _ (w.heap.size + 1) 137 (garr [] 8) from Blk.newN _ _ _ (by simp)) (by simp <;> omega)); have HX1 := hide (Blk.bel2 hb1 (show Blk _ w.heap.size 96 X from (Blk.new w 96 X).alloc _) (by simp <;> omega)); clear hb1; simp only []))
    | (refine wpList_load_row rfl 96 (.tmp 1) rfl w.heap.size rfl 96 X (0, 0) _ (by exact HX1.out.alloc _) Try.underlying96 rfl (by rw [HSZX.out]; kernel_rfl) ?_)
    | (go_at_call 160; go_must (refine (HTR.out _).mono ?_; rintro e w2 ⟨C, q, rfl, ho, hb2⟩; have b2 : Below w.heap.size w w2 := Below.step (by go_grown) hb2; have HR2 := hide ((HR.out.alloc (.cells (garr [] 8) 137)).below hb2 (by have := HR.out.lt; simp; omega)); have HG2 := hide ((Blk.new w1 137 (garr [] 8)).below hb2 (by simp)); have HO2 := hide ho; clear hb2 ho; simp only [])))
  have hg1 : w.heap.size + 1 < w1.heap.size := HR.out.lt
  have HO3 : Hid (w2.ownsRow (w.heap.size + 2) 162 4 (.slice C 8 q) 8 (nvs R)) := hide (HO2.out.weaken (by simp; omega))
  clear HR HX1 HTR HEACH HSL b1 z1 hsl HO2
  have hng : w.heap.size + 1 ≠ w1.heap.size := by omega
  generalize w1.heap.size = g at hng hg1 HG2 ⊢
  go_loopw [17] (fun i wr => ∃ k : Nat, k ≤ 8 ∧ i = .int .i64 k ∧ (R.take k).all spB = true ∧ Blk wr (w.heap.size + 1) 137 (garr [] 8) ∧ Blk wr g 137 (garr ((R.take k).map spV) 8) ∧ wr.ownsRow (w.heap.size + 2) 162 4 (.slice C 8 q) 8 (nvs R) ∧ Below w.heap.size w wr) (fun i _ => 8 - (intOf i).toNat)
  case atStart => exact ⟨0, by omega, rfl, rfl, HR2.out, HG2.out, HO3.out, b2⟩
  case round =>
    clear HR2 HG2 HO3 b2
    obtain ⟨k, hk, rfl, hall, hR, hG, hrow, hbel⟩ := hrel
    have hbz := hbel.size
    have hGl := hG.lt
    by_cases hlt : k < 8
    · have hd : decide ((k : Int) < 8) = true := by rw [decide_eq_true_iff]; omega
      have hkl : k < R.length := by rw [HLEN.out]; exact hlt
      obtain ⟨b, off, rfl, d0, d1, d2, d3⟩ := (Sl.of_ownN hrow).atN hkl
      have hle := HLE.out k
      have hmap := HMAP.out k hkl
      have hml := HMLEN.out k hkl
      have hnot := HNOT.out k hkl
      have hal := HALL.out k hkl hall
      obtain ⟨⟨y0, y1, y2, y3⟩, hy⟩ : ∃ y, kn R k = y := ⟨_, rfl⟩
      rw [hy] at d0 d1 d2 d3 hle hmap hnot hal
      unfold nle at hle
      dsimp only at d0 d1 d2 d3 hle
      obtain ⟨l0, l0', l1, l1', l2, l2', l3, l3'⟩ := hle
      have hsp := sp_cases y0 y1 y2 y3
      obtain ⟨t1, t2⟩ := tmod_bd y0
      obtain ⟨t3, t4⟩ := tmod_bd y2
      obtain ⟨t5, t6⟩ := tdiv_bd l0 l0'
      obtain ⟨t7, t8⟩ := tdiv_bd l2 l2'
      have HROW := hide hrow
      have HRR := hide hR
      have HGG := hide (show Blk wr g 137 (garr ((R.take k).map spV ++ [(0, 0)]) 8) by rw [garr_zero _ _ (by omega)]; exact hG)
      have HMP := hide hmap
      have HML := hide hml
      have HND := hide hnot
      have HAL := hide hal
      have HSPV := hide (show spV (y0, y1, y2, y3) = (y0.tdiv 8, y2.tdiv 8) from rfl)
      obtain ⟨r0, hr0⟩ : ∃ r, y0.tmod 8 = r := ⟨_, rfl⟩
      obtain ⟨r2, hr2⟩ : ∃ r, y2.tmod 8 = r := ⟨_, rfl⟩
      obtain ⟨q0, hq0⟩ : ∃ r, y0.tdiv 8 = r := ⟨_, rfl⟩
      obtain ⟨q2, hq2⟩ : ∃ r, y2.tdiv 8 = r := ⟨_, rfl⟩
      rw [hr0] at t1 t2 hsp
      rw [hr2] at t3 t4 hsp
      rw [hq0] at t5 t6 HSPV
      rw [hq2] at t7 t8 HSPV
      clear hy hmap hml hnot hal hrow hR hG hall HLE HMAP HMLEN HNOT HALL hkl
      rcases hsp with ⟨h1, hB⟩ | ⟨h1, h2, hB⟩ | ⟨h1, h2, h3, hB⟩ | ⟨h1, h2, h3, h4, hB⟩ | ⟨h1, h2, h3, h4, hB⟩
      · have HF := hide (spOut_bad (HND.out hB))
        clear hB HND HAL
        go_wp2_with (refine wpList_store_row rfl 137 (.tmp 2) (.tmp 42) rfl (w.heap.size + 1) (garr [] 8) rfl rfl 137 (garr [] 8) (by exact HRR.out.alloc _) (by kernel_rfl) (by kernel_rfl) (garr_one _ _) ?_)
        have hrow2 : Below w.heap.size w ((wr.alloc (.cells #[.int .i64 y0, .int .i64 y1, .int .i64 y2, .int .i64 y3] 162)).setRow (w.heap.size + 1) (garr [] 8)) := Below.row (by go_grown) (by omega) _
        exact bodyPost_ret (results_row_tmp2 rfl _ _ (w.heap.size + 1) 137 (garr [] 8) _ (.int .i64 3) rfl rfl (by exact (HRR.out.alloc _).row (garr [] 8)) Try.underlying137 rfl (by kernel_rfl)) rfl ⟨by rw [HF.out], hrow2⟩
      · have HF := hide (spOut_bad (HND.out hB))
        clear hB HND HAL
        go_wp2_with (refine wpList_store_row rfl 137 (.tmp 2) (.tmp 42) rfl (w.heap.size + 1) (garr [] 8) rfl rfl 137 (garr [] 8) (by exact HRR.out.alloc _) (by kernel_rfl) (by kernel_rfl) (garr_one _ _) ?_)
        have hrow2 : Below w.heap.size w ((wr.alloc (.cells #[.int .i64 y0, .int .i64 y1, .int .i64 y2, .int .i64 y3] 162)).setRow (w.heap.size + 1) (garr [] 8)) := Below.row (by go_grown) (by omega) _
        exact bodyPost_ret (results_row_tmp2 rfl _ _ (w.heap.size + 1) 137 (garr [] 8) _ (.int .i64 3) rfl rfl (by exact (HRR.out.alloc _).row (garr [] 8)) Try.underlying137 rfl (by kernel_rfl)) rfl ⟨by rw [HF.out], hrow2⟩
      · have HF := hide (spOut_bad (HND.out hB))
        clear hB HND HAL
        go_wp2_with (refine wpList_store_row rfl 137 (.tmp 2) (.tmp 42) rfl (w.heap.size + 1) (garr [] 8) rfl rfl 137 (garr [] 8) (by exact HRR.out.alloc _) (by kernel_rfl) (by kernel_rfl) (garr_one _ _) ?_)
        have hrow2 : Below w.heap.size w ((wr.alloc (.cells #[.int .i64 y0, .int .i64 y1, .int .i64 y2, .int .i64 y3] 162)).setRow (w.heap.size + 1) (garr [] 8)) := Below.row (by go_grown) (by omega) _
        exact bodyPost_ret (results_row_tmp2 rfl _ _ (w.heap.size + 1) 137 (garr [] 8) _ (.int .i64 3) rfl rfl (by exact (HRR.out.alloc _).row (garr [] 8)) Try.underlying137 rfl (by kernel_rfl)) rfl ⟨by rw [HF.out], hrow2⟩
      · have HF := hide (spOut_bad (HND.out hB))
        clear hB HND HAL
        go_wp2_with (refine wpList_store_row rfl 137 (.tmp 2) (.tmp 42) rfl (w.heap.size + 1) (garr [] 8) rfl rfl 137 (garr [] 8) (by exact HRR.out.alloc _) (by kernel_rfl) (by kernel_rfl) (garr_one _ _) ?_)
        have hrow2 : Below w.heap.size w ((wr.alloc (.cells #[.int .i64 y0, .int .i64 y1, .int .i64 y2, .int .i64 y3] 162)).setRow (w.heap.size + 1) (garr [] 8)) := Below.row (by go_grown) (by omega) _
        exact bodyPost_ret (results_row_tmp2 rfl _ _ (w.heap.size + 1) 137 (garr [] 8) _ (.int .i64 3) rfl rfl (by exact (HRR.out.alloc _).row (garr [] 8)) Try.underlying137 rfl (by kernel_rfl)) rfl ⟨by rw [HF.out], hrow2⟩
      · have HAL2 := hide (HAL.out hB)
        clear hB HND HAL
        obtain ⟨u0, u1, f0, f1⟩ := HGG.out.ga2 HML.out
        go_wp2
        go_roundw
        case rel =>
          refine ⟨k + 1, by omega, by go_num, HAL2.out, ?_, ?_, ?_, by go_grown⟩
          · exact ((HRR.out.far (by show _ ≠ _; omega) _).far (by show _ ≠ _; omega) _).alloc _
          · have := ((HGG.out.set_ (k * 2) (.int .i64 q0)).set_ (k * 2 + 1) (.int .i64 q2)).alloc (.cells #[.int .i64 y0, .int .i64 y1, .int .i64 y2, .int .i64 y3] 162)
            rw [garr_upd _ 8 k (0, 0) (q0, q2) HML.out, ← HSPV.out, ← HMP.out] at this
            exact this
          · exact (own_far (own_far HROW.out HGG.out (by decide)) (HGG.out.set_ (k * 2) _) (by decide)).alloc _
        case measure => simp [intOf]; omega
    · have hd : decide ((k : Int) < 8) = false := by rw [decide_eq_false_iff_not]; omega
      obtain rfl : k = 8 := by omega
      rw [show R.take 8 = R from List.take_of_length_le (by rw [HLEN.out]; omega)] at hall hG
      have hsz := garr_size (R.map spV) 8 (by rw [List.length_map, HLEN.out]; omega)
      have hone := garr_one (R.map spV) 8
      have hout := spOut_good hall
      obtain ⟨cs, hcs⟩ : ∃ cs, garr (R.map spV) 8 = cs := ⟨_, rfl⟩
      rw [hcs] at hG hsz hone hout
      have HOUT := hide hout
      have HSZ := hide hsz
      have HG := hide hG
      have HRR := hide hR
      clear hcs hsz hG hR hall hrow hout HLE HMAP HMLEN HNOT HALL
      go_wp2_with (first
        | (refine wpList_load_row rfl 137 (.tmp 5) rfl g rfl 137 cs (0, 0) _ HG.out Try.underlying137 rfl (by rw [HSZ.out]; kernel_rfl) ?_)
        | (refine wpList_store_row rfl 137 (.tmp 2) (.tmp 53) rfl (w.heap.size + 1) cs rfl rfl 137 (garr [] 8) HRR.out (by rw [HSZ.out]; kernel_rfl) (by rw [HSZ.out]; rfl) hone ?_))
      exact bodyPost_ret (results_row_tmp2 rfl _ _ (w.heap.size + 1) 137 cs _ (.int .i64 0) rfl rfl (HRR.out.row cs) Try.underlying137 rfl (by rw [HSZ.out]; kernel_rfl)) rfl ⟨by rw [HOUT.out], Below.row hbel (by omega) _⟩
end Go.Proofs.Ythfmjohbokpceaa
