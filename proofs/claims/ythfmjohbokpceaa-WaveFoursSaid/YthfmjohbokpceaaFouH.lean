import Derived.Test.YthfmjohbokpceaaFouE
import Derived.Test.YthfmjohbokpceaaFouF
namespace Go.Proofs.Ythfmjohbokpceaa
open Go.RowKit Go.WideShapes Go.ChangeShapes

/-! wave.FourBack: the ok case -/
def fbB (y : Int × Int) : Bool := !(y.1.tmod 4 != 0) && !(y.2.tmod 4 != 0)
def fbV (y : Int × Int) : Int × Int := (y.1.tdiv 4, y.2.tdiv 4)
def fbOut (R : List (Int × Int)) : Value := .tuple (if R.all fbB then #[.agg (garr (R.map fbV) 4), .int .i64 0] else #[.agg (garr [] 4), .int .i64 3])
theorem fbOut_bad {R : List (Int × Int)} (h : R.all fbB = false) : fbOut R = .tuple #[.agg (garr [] 4), .int .i64 3] := by unfold fbOut; rw [h]; rfl
theorem fbOut_good {R : List (Int × Int)} (h : R.all fbB = true) : fbOut R = .tuple #[.agg (garr (R.map fbV) 4), .int .i64 0] := by unfold fbOut; rw [h]; rfl
theorem fb_cases (y0 y1 : Int) : ((y0.tmod 4 != 0) = true ∧ fbB (y0, y1) = false) ∨ ((y0.tmod 4 != 0) = false ∧ (y1.tmod 4 != 0) = true ∧ fbB (y0, y1) = false) ∨ ((y0.tmod 4 != 0) = false ∧ (y1.tmod 4 != 0) = false ∧ fbB (y0, y1) = true) := by
  unfold fbB
  dsimp only
  cases h3 : (y0.tmod 4 != 0) <;> cases h4 : (y1.tmod 4 != 0) <;> simp
theorem tdiv4_bd {a m : Int} (h : -m ≤ a) (h' : a ≤ m) : -m ≤ a.tdiv 4 ∧ a.tdiv 4 ≤ m := by
  by_cases h0 : 0 ≤ a
  · rw [Int.tdiv_eq_ediv_of_nonneg h0]; omega
  · have e : a.tdiv 4 = -((-a).tdiv 4) := by rw [Int.neg_tdiv]; omega
    rw [e, Int.tdiv_eq_ediv_of_nonneg (by omega)]; omega
theorem tmod4_bd (a : Int) : -4 < a.tmod 4 ∧ a.tmod 4 < 4 := by
  have h1 := Int.tmod_eq_emod (a := a) (b := 4)
  rw [h1]
  constructor <;> split <;> omega
theorem all_take4 (p : Int × Int → Bool) (R : List (Int × Int)) (k : Nat) (hk : k < R.length) (h0 : (R.take k).all p = true) (h1 : p (kg R k) = true) : (R.take (k + 1)).all p = true := by
  rw [List.take_succ_eq_append_getElem hk, List.all_append, h0, ← kg_at hk]; simp [h1]
theorem all_not4 (p : Int × Int → Bool) (R : List (Int × Int)) (k : Nat) (hk : k < R.length) (h1 : p (kg R k) = false) : R.all p = false := by
  rw [kg_at hk] at h1
  cases h : R.all p
  · rfl
  · rw [List.all_eq_true] at h
    rw [h _ (List.getElem_mem hk)] at h1
    exact absurd h1 (by decide)
theorem idx_cplx (t : TypeId) (n : Nat) (cs : Array Value) (i : Nat) (ht : Try.prog.underlying t = some (.array n 199)) (hi : i < n) (v : Value) (hv : cs[i]? = some v) (w : World) :
    (Instr.index t (.agg cs) (.int .i64 (i : Int))).run Try.prog w = .ok v w := by
  have h1 : 0 ≤ (i : Int) ∧ (i : Int) < (n : Int) := by omega
  have h2 : ¬ n ≤ i := by omega
  simp [Instr.index, run_underlying ht, asIntOf, h1, h2, part, go_sem, hv]
set_option maxRecDepth 100000 in
set_option maxHeartbeats 8000000 in
theorem FourBack_ok (x : List (Int × Int)) (w : World) (hx4 : x.length = 4) (hx : eachE foE x = 0) :
    Calls Try.prog 71 #[.agg (gv x).toArray] w fun e w' => e = .returned (fbOut (foL x false)) ∧ Below w.heap.size w w' := by
  have HF := hide (fun W => four_ok x false _ _ isC_mi W hx4 hx)
  have HG := hide (fun k (hk : k < 4) a b (h : IsC a b (kg (foL x false) k)) W => gauss_wave a b _ W h (by
    have := fo_le8 hx false k hk
    have e : kg (foL x false) k = fo x false k 4 := by match k, hk with | 0, _ => rfl | 1, _ => rfl | 2, _ => rfl | 3, _ => rfl
    rw [e]; unfold cle at *; omega))
  have HLE := hide (fun k (hk : k < 4) => show cle 8000000000 (kg (foL x false) k) from by
    have := fo_le8 hx false k hk
    have e : kg (foL x false) k = fo x false k 4 := by match k, hk with | 0, _ => rfl | 1, _ => rfl | 2, _ => rfl | 3, _ => rfl
    rw [e]; exact this)
  have HVA := hide (fun V (h : Vis x false V 4 0) k (hk : k < 4) => show ∃ a b, V[k]? = some (.complex .f64 a b) ∧ IsC a b (kg (foL x false) k) from by
    have e : kg (foL x false) k = fo x false k 4 := by match k, hk with | 0, _ => rfl | 1, _ => rfl | 2, _ => rfl | 3, _ => rfl
    rw [e]; exact h.at hk)
  have HLEN := hide (show (foL x false).length = 4 from rfl)
  have HSZX := hide (show (gv x).toArray.size = 8 by simp [gv_len, hx4])
  obtain ⟨X, hX⟩ : ∃ X, (gv x).toArray = X := ⟨_, rfl⟩
  rw [hX] at HSZX HF
  rw [hX]
  obtain ⟨R, hR⟩ : ∃ R, foL x false = R := ⟨_, rfl⟩
  rw [hR] at HG HLE HVA HLEN
  rw [hR]
  have HMAP := hide (fun k (hk : k < R.length) => show (R.take (k + 1)).map fbV = (R.take k).map fbV ++ [fbV (kg R k)] by rw [List.take_succ_eq_append_getElem hk, List.map_append, kg_at hk]; rfl)
  have HMLEN := hide (fun k (hk : k < R.length) => show ((R.take k).map fbV).length = k by simp; omega)
  have HNOT := hide (fun k (hk : k < R.length) (h1 : fbB (kg R k) = false) => all_not4 fbB R k hk h1)
  have HALL := hide (fun k (hk : k < R.length) (h0 : (R.take k).all fbB = true) (h1 : fbB (kg R k) = true) => all_take4 fbB R k hk h0 h1)
  clear hx4 hX hx hR
  have HT := hide ((stay_new w 105 X).alloc (.cells (garr [] 4) 105))
  have HR := hide (stay_blk (Blk.newN (w.alloc (.cells X 105)) 105 (garr [] 4) (g := w.heap.size + 1) (by simp)))
  have HB := hide (stay_below (show Below w.heap.size w ((w.alloc (.cells X 105)).alloc (.cells (garr [] 4) 105)) from by go_grown))
  have hone4 : z4.all (·.oneCell') = true := by simp [z4, Value.oneCell']
  have hz4 : z4.size = 4 := rfl
  go_enter Try.func71, Try.ntmps71
  go_wp2_with (first
    | (refine wpList_load_row rfl 105 (.tmp 1) rfl w.heap.size rfl 105 X (0, 0) _ (by exact HT.out.now) Try.underlying105 rfl (by rw [HSZX.out]; kernel_rfl) ?_)
    | (go_at_call 149; go_must (refine (HF.out _).mono ?_; rintro e w1 ⟨V, hV, rfl, hb⟩; have hVS := hide hV.1; have HVV := hide (HVA.out V hV); have hVO : V.all (·.oneCell') = true := (by rw [Array.all_eq_true]; intro j hj; obtain ⟨a2, b2, h1, _⟩ := hV.at (j := j) (by rw [hV.1] at hj; exact hj); obtain ⟨_, h2⟩ := Array.getElem?_eq_some_iff.1 h1; rw [h2]; rfl); replace HR := hide (HR.out.step hb); have hlt1 := HR.out.now.lt; replace HB := hide (HB.out.step hb); clear hb; simp only []))
    | (refine wpList_store_row rfl 200 (.tmp 4) (.tmp 13) rfl w1.heap.size V rfl rfl 200 z4 (Blk.new w1 _ _) (by rw [hVS.out]; kernel_rfl) (by rw [hVS.out]; rfl) hVO ?_; have hrow : Below w1.heap.size w1 ((w1.alloc (.cells z4 200)).setRow w1.heap.size V) := Below.row ((Below.refl _ _).alloc (Nat.le_refl _) _) (Nat.le_refl _) _; replace HR := hide (HR.out.step hrow); replace HB := hide (HB.out.step hrow); have HV := hide (stay_blk ((Blk.new w1 200 z4).row V)); clear hrow)
    | (refine wpList_load_row rfl 200 (.tmp 4) rfl w1.heap.size rfl 200 V (0, 0) _ (by exact HV.out.now.alloc _) Try.underlying200 rfl (by rw [hVS.out]; kernel_rfl) ?_))
  clear HF HVA hVO hone4 hz4 hV

  obtain ⟨v0, hv0⟩ : ∃ W, (w1.alloc (.cells z4 200)).setRow w1.heap.size V = W := ⟨_, rfl⟩
  rw [hv0] at HR HB HV
  rw [show (w1.alloc (.cells #[.complex .f64 0 0, .complex .f64 0 0, .complex .f64 0 0, .complex .f64 0 0] 200)).setRow w1.heap.size V = v0 from hv0]
  have hvz : v0.heap.size = w1.heap.size + 1 := by rw [← hv0]; simp
  clear hv0
  have HR2 := hide (HR.out.now.alloc (.cells (garr [] 4) 105))
  have HG2 := hide (Blk.new v0 105 (garr [] 4))
  have hb2 : Below w.heap.size w (v0.alloc (.cells (garr [] 4) 105)) := HB.out.now.alloc HB.out.now.size _
  have hng : w.heap.size + 1 < v0.heap.size := HR.out.now.lt
  clear HR HB HV HT
  rw [hvz] at hng HG2
  clear hvz
  generalize w1.heap.size + 1 = g at hng HG2 ⊢
  have HNG := hide (show w.heap.size + 1 ≠ g by omega)
  go_loopw [20] (fun i wr => ∃ k : Nat, k ≤ 4 ∧ i = .int .i64 k ∧ (R.take k).all fbB = true ∧ Blk wr (w.heap.size + 1) 105 (garr [] 4) ∧ Blk wr g 105 (garr ((R.take k).map fbV) 4) ∧ Below w.heap.size w wr) (fun i _ => 4 - (intOf i).toNat)
  case atStart => exact ⟨0, by omega, rfl, rfl, HR2.out, HG2.out, hb2⟩
  case round =>
    clear HR2 HG2 hb2
    obtain ⟨k, hk, rfl, hall, hR, hG, hbel⟩ := hrel
    have hbz := hbel.size
    have hGl := hG.lt
    by_cases hlt : k < 4
    · have hd : decide ((k : Int) < 4) = true := by rw [decide_eq_true_iff]; omega
      have hkl : k < R.length := by rw [HLEN.out]; exact hlt
      obtain ⟨ca, cb, hcv, hca⟩ := HVV.out k hlt
      have hix := fun W => idx_cplx 200 4 V k Try.underlying200 hlt _ hcv W
      have HGA := hide (fun W => HG.out k hlt ca cb hca W)
      have hle := HLE.out k hlt
      have hmap := HMAP.out k hkl
      have hml := HMLEN.out k hkl
      have hnot := HNOT.out k hkl
      have hal := HALL.out k hkl hall
      obtain ⟨⟨y0, y1⟩, hy⟩ : ∃ y, kg R k = y := ⟨_, rfl⟩
      rw [hy] at HGA hle hmap hnot hal
      unfold cle at hle
      dsimp only at HGA hle
      obtain ⟨l0, l0', l1, l1'⟩ := hle
      have hsp := fb_cases y0 y1
      obtain ⟨t1, t2⟩ := tmod4_bd y0
      obtain ⟨t3, t4⟩ := tmod4_bd y1
      obtain ⟨t5, t6⟩ := tdiv4_bd l0 l0'
      obtain ⟨t7, t8⟩ := tdiv4_bd l1 l1'
      have HRR := hide (stay_blk hR)
      have HGG := hide (stay_blk (show Blk wr g 105 (garr ((R.take k).map fbV ++ [(0, 0)]) 4) by rw [garr_zero _ _ (by omega)]; exact hG))
      have HBE := hide (stay_below hbel)
      have HMP := hide hmap
      have HML := hide hml
      have HND := hide hnot
      have HAL := hide hal
      have HFBV := hide (show fbV (y0, y1) = (y0.tdiv 4, y1.tdiv 4) from rfl)
      obtain ⟨r0, hr0⟩ : ∃ r, y0.tmod 4 = r := ⟨_, rfl⟩
      obtain ⟨r2, hr2⟩ : ∃ r, y1.tmod 4 = r := ⟨_, rfl⟩
      obtain ⟨q0, hq0⟩ : ∃ r, y0.tdiv 4 = r := ⟨_, rfl⟩
      obtain ⟨q2, hq2⟩ : ∃ r, y1.tdiv 4 = r := ⟨_, rfl⟩
      rw [hr0] at t1 t2 hsp
      rw [hr2] at t3 t4 hsp
      rw [hq0] at t5 t6 HFBV
      rw [hq2] at t7 t8 HFBV
      clear hy hmap hml hnot hal hR hG hall HLE HMAP HMLEN HNOT HALL hkl HG hcv hca hbel HVV
      rcases hsp with ⟨h1, hB⟩ | ⟨h1, h2, hB⟩ | ⟨h1, h2, hB⟩
      · have HF := hide (fbOut_bad (HND.out hB))
        clear hB HND HAL
        go_wp2_with (first
          | (go_at_call 150; go_must (refine (HGA.out _).mono ?_; rintro e w2 ⟨rfl, hb⟩; replace HRR := hide (HRR.out.step hb); replace HGG := hide (HGG.out.step hb); replace HBE := hide (HBE.out.step hb); have hz2 := HBE.out.now.size; have hGl2 := HGG.out.now.lt; obtain ⟨u0, u1, f0, f1⟩ := HGG.out.now.ga2 HML.out; clear hb; simp only []))
          | (refine wpList_store_row rfl 105 (.tmp 2) (.tmp 36) rfl (w.heap.size + 1) (garr [] 4) rfl rfl 105 (garr [] 4) (by first | exact HRR.out.now.alloc _ | exact (HRR.out.now.alloc _).rowFar (by omega) _) (by kernel_rfl) (by kernel_rfl) (garr_one _ _) ?_))
        exact bodyPost_ret (results_row_tmp rfl _ _ (w.heap.size + 1) 105 (garr [] 4) _ (.int .i64 3) rfl rfl (by exact (HRR.out.now.alloc _).row (garr [] 4)) Try.underlying105 rfl (by kernel_rfl)) rfl ⟨by rw [HF.out], Below.row (HBE.out.now.alloc hz2 _) (by omega) _⟩
      · have HF := hide (fbOut_bad (HND.out hB))
        clear hB HND HAL
        go_wp2_with (first
          | (go_at_call 150; go_must (refine (HGA.out _).mono ?_; rintro e w2 ⟨rfl, hb⟩; replace HRR := hide (HRR.out.step hb); replace HGG := hide (HGG.out.step hb); replace HBE := hide (HBE.out.step hb); have hz2 := HBE.out.now.size; have hGl2 := HGG.out.now.lt; obtain ⟨u0, u1, f0, f1⟩ := HGG.out.now.ga2 HML.out; clear hb; simp only []))
          | (refine wpList_store_row rfl 105 (.tmp 2) (.tmp 36) rfl (w.heap.size + 1) (garr [] 4) rfl rfl 105 (garr [] 4) (by first | exact HRR.out.now.alloc _ | exact (HRR.out.now.alloc _).rowFar (by omega) _) (by kernel_rfl) (by kernel_rfl) (garr_one _ _) ?_))
        exact bodyPost_ret (results_row_tmp rfl _ _ (w.heap.size + 1) 105 (garr [] 4) _ (.int .i64 3) rfl rfl (by exact (HRR.out.now.alloc _).row (garr [] 4)) Try.underlying105 rfl (by kernel_rfl)) rfl ⟨by rw [HF.out], Below.row (HBE.out.now.alloc hz2 _) (by omega) _⟩
      · have HAL2 := hide (HAL.out hB)
        clear hB HND HAL
        go_wp2_with (go_at_call 150; go_must (refine (HGA.out _).mono ?_; rintro e w2 ⟨rfl, hb⟩; replace HRR := hide (HRR.out.step hb); replace HGG := hide (HGG.out.step hb); replace HBE := hide (HBE.out.step hb); have hz2 := HBE.out.now.size; have hGl2 := HGG.out.now.lt; obtain ⟨u0, u1, f0, f1⟩ := HGG.out.now.ga2 HML.out; clear hb; simp only []))
        go_roundw
        case rel =>
          refine ⟨k + 1, by omega, by go_num, HAL2.out, ?_, ?_, by have hb9 := HBE.out.now; go_grown⟩
          · exact ((HRR.out.now.far (p := ⟨g, k * 2, none⟩) HNG.out (.int .i64 q0)).far (p := ⟨g, k * 2 + 1, none⟩) HNG.out (.int .i64 q2)).alloc _
          · have := ((HGG.out.now.set_ (k * 2) (.int .i64 q0)).set_ (k * 2 + 1) (.int .i64 q2)).alloc (.cells #[.int .i64 y0, .int .i64 y1] 30)
            rw [garr_upd _ 4 k (0, 0) (q0, q2) HML.out, ← HFBV.out, ← HMP.out] at this
            exact this
        case measure => simp [intOf]; omega
    · have hd : decide ((k : Int) < 4) = false := by rw [decide_eq_false_iff_not]; omega
      obtain rfl : k = 4 := by omega
      rw [show R.take 4 = R from List.take_of_length_le (by rw [HLEN.out]; omega)] at hall hG
      have hsz := garr_size (R.map fbV) 4 (by rw [List.length_map, HLEN.out]; omega)
      have hone := garr_one (R.map fbV) 4
      have hout := fbOut_good hall
      obtain ⟨cs, hcs⟩ : ∃ cs, garr (R.map fbV) 4 = cs := ⟨_, rfl⟩
      rw [hcs] at hG hsz hone hout
      have HOUT := hide hout
      have HSZ := hide hsz
      have HGX := hide hG
      have HRR := hide hR
      clear hcs hsz hG hR hall hout HLE HMAP HMLEN HNOT HALL HG
      go_wp2_with (first
        | (refine wpList_load_row rfl 105 (.tmp 6) rfl g rfl 105 cs (0, 0) _ HGX.out Try.underlying105 rfl (by rw [HSZ.out]; kernel_rfl) ?_)
        | (refine wpList_store_row rfl 105 (.tmp 2) (.tmp 47) rfl (w.heap.size + 1) cs rfl rfl 105 (garr [] 4) HRR.out (by rw [HSZ.out]; kernel_rfl) (by rw [HSZ.out]; rfl) hone ?_))
      exact bodyPost_ret (results_row_tmp rfl _ _ (w.heap.size + 1) 105 cs _ (.int .i64 0) rfl rfl (HRR.out.row cs) Try.underlying105 rfl (by rw [HSZ.out]; kernel_rfl)) rfl ⟨by rw [HOUT.out], Below.row hbel (by omega) _⟩
end Go.Proofs.Ythfmjohbokpceaa
