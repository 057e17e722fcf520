import Derived.Test.YthfmjohbokpceaaFouB
namespace Go.Proofs.Ythfmjohbokpceaa
open Go.RowKit Go.WideShapes Go.ChangeShapes

/-! wave.four, the ok case -/
def z8 : Array Value := #[.int .i64 0, .int .i64 0, .int .i64 0, .int .i64 0, .int .i64 0, .int .i64 0, .int .i64 0, .int .i64 0]
def z4 : Array Value := #[.complex .f64 0 0, .complex .f64 0 0, .complex .f64 0 0, .complex .f64 0 0]
set_option maxRecDepth 100000 in
set_option maxHeartbeats 8000000 in
theorem four_ok (x : List (Int × Int)) (s : Bool) (ta tb : Nat) (ht : IsC ta tb (uI s)) (w : World) (hx4 : x.length = 4) (hx : eachE foE x = 0) :
    Calls Try.prog 149 #[.agg (gv x).toArray, .complex .f64 ta tb] w fun e w' => ∃ V, Vis x s V 4 0 ∧ e = .returned (.tuple #[.agg V, .int .i64 0]) ∧ Below w.heap.size w w' := by
  have hK := hide (enters Try.func182 (by kernel_rfl) rfl)
  have HB9 := hide (show ∀ i, cle 1000000000 (kg x i) from fun i => by
    unfold kg
    by_cases hi : i < x.length
    · rw [List.getElem?_eq_getElem hi]
      have h := eachE_ok hx _ (List.getElem_mem hi)
      unfold foE unlessE at h
      by_cases e : entB 1000000000 x[i] = true
      · exact (entB_iff _ _).mp e
      · rw [if_neg e] at h; exact absurd h (by decide)
    · rw [List.getElem?_eq_none (by omega)]; unfold cle; decide)
  have HIX := hide (fun j (hj : j < 4) W => idx_gauss 105 4 x j Try.underlying105 hj hx4 W)
  have HSZX := hide (show (gv x).toArray.size = 8 by simp [gv_len, hx4])
  have HEN := hide (fun W A c (h : Sl W A (gv x)) => by have := each_gauss 182 foE A c x W hK.out (fun z W => fourErr1_wave z W) h (by omega); rw [hx, hx4] at this; exact this)
  have HSL := hide (fun W g (h : Blk W g 105 (gv x).toArray) => show Sl W (some ⟨g, 0, none⟩) (gv x) from fun j hj => ⟨g, 0, rfl, by rw [h.cell, Nat.zero_add]; simp [hj]⟩)
  have HTT := hide ht
  obtain ⟨X, hX⟩ : ∃ X, (gv x).toArray = X := ⟨_, rfl⟩
  rw [hX] at HIX HSZX HSL
  rw [hX]
  clear hx4 hx hX hK ht
  go_enter Try.func149, Try.ntmps149
  go_wp2_with (first
    | (go_at_call 140; go_must (refine (HEN.out _ _ _ (HSL.out _ w.heap.size (((Blk.new w 105 X).alloc _).alloc _))).mono ?_; rintro e w1 ⟨rfl, hb⟩; simp only [])))
  have HT := hide (show Stay w1 (fun W => Blk W w.heap.size 105 X ∧ Blk W (w.heap.size + 1) 200 z4 ∧ Below w.heap.size w W) from
    (((stay_blk ((Blk.new w 105 X).alloc _)).alloc _).step hb).and ((((stay_blk (Blk.newN (w.alloc (.cells X 105)) 200 z4 (by simp))).alloc _).step hb).and ((stay_below (show Below w.heap.size w (((w.alloc (.cells X 105)).alloc (.cells z4 200)).alloc (.cells z4 200)) from by go_grown)).step hb)))
  have HO := hide (show Blk w1 (w.heap.size + 1 + 1) 200 z4 from (stay_blk (Blk.newN ((w.alloc (.cells X 105)).alloc (.cells z4 200)) 200 z4 (by simp))).step hb |>.now)
  have hg := HO.out.lt
  clear hb HEN HSL
  go_loopw [8, 19] (fun r i wr => ∃ (k a b : Nat) (V : Array Value), k ≤ 4 ∧ i = .int .i64 (k : Int) ∧ r = .complex .f64 a b ∧ IsC a b (cp (uI s) k) ∧ Vis x s V k 0 ∧ Blk wr (w.heap.size + 1 + 1) 200 V ∧ Blk wr w.heap.size 105 X ∧ Blk wr (w.heap.size + 1) 200 z4 ∧ Below w.heap.size w wr) (fun _ i _ => 4 - (intOf i).toNat)
  case atStart => exact ⟨0, _, _, z4, by omega, rfl, rfl, isC_one, Vis.zero x s, HO.out, HT.out.now.1, HT.out.now.2.1, HT.out.now.2.2⟩
  case round =>
    clear HT HO hg
    obtain ⟨k, a, b, V, hk, rfl, rfl, hc, hv, hO, hX1, hZ, hbel⟩ := hrel
    have HC := hide hc
    have HV := hide hv
    have HO := hide hO
    have HX1 := hide hX1
    have HZ := hide hZ
    have HBE := hide hbel
    have hg := hO.lt
    clear hc hv hO hX1 hZ hbel
    by_cases hlt : k < 4
    · have hd : decide ((k : Int) < 4) = true := by rw [decide_eq_true_iff]; omega
      go_wp2_with (refine wpList_load_row rfl 105 (.tmp 2) rfl w.heap.size rfl 105 X (0, 0) _ (by exact HX1.out) Try.underlying105 rfl (by rw [HSZX.out]; kernel_rfl) ?_)
      obtain ⟨wo, hwo⟩ : ∃ wo : World, wr = wo := ⟨_, rfl⟩
      rw [hwo] at HO HX1 HZ HBE ⊢
      clear hwo
      have HC1 := hide (cp1_bd s k (by omega))
      go_loopw [10, 23] (fun p i wr => ∃ (i' c d : Nat) (V : Array Value), i' ≤ 4 ∧ i = .int .i64 (i' : Int) ∧ p = .complex .f64 c d ∧ IsC c d (cp (cp (uI s) k) i') ∧ Vis x s V k i' ∧ Blk wr (w.heap.size + 1 + 1) 200 V ∧ Blk wr w.heap.size 105 X ∧ Blk wr (w.heap.size + 1) 200 z4 ∧ Below w.heap.size w wr) (fun _ i _ => 4 - (intOf i).toNat)
      case atStart => exact ⟨0, _, _, V, by omega, rfl, rfl, isC_one, HV.out, HO.out, HX1.out, HZ.out, HBE.out⟩
      case round =>
        clear HV HO HX1 HZ HBE
        obtain ⟨i, c, d, V, hi, rfl, rfl, hc, hv, hO, hX1, hZ, hbel⟩ := hrel
        have HP := hide hc
        have HV := hide hv
        have HO := hide hO
        have HX1 := hide hX1
        have HZ := hide hZ
        have HBE := hide hbel
        have hg := hO.lt
        clear hc hv hO hX1 hZ hbel
        by_cases hlt4 : i < 4
        · have hd2 : decide ((i : Int) < 4) = true := by rw [decide_eq_true_iff]; omega
          have hix := HIX.out i hlt4
          have b1 := HB9.out i
          have b2 := cp_bd s k i (by omega) (by omega)
          have b3 := fo_le HB9.out s k (by omega) i (by omega)
          obtain ⟨a', b', hv1, hv2⟩ := HV.out.2 k hlt
          have hv3 : foV x s k i k = fo x s k i := by unfold foV; rw [if_neg (by omega), if_pos rfl]
          rw [hv3] at hv2
          have hF := HP.out
          have hst : fo x s k (i + 1) = cadd (fo x s k i) (cmul (kg x i) (cp (cp (uI s) k) i)) := rfl
          obtain ⟨r1, s1, hmu, m1, m2⟩ := cmul_is (z := kg x i) (w := cp (cp (uI s) k) i) (a := floatOfInt .f64 (kg x i).1) (b := floatOfInt .f64 (kg x i).2) (c := c) (d := d) ⟨fint_is _ (by unfold cle at b1; omega), fint_is _ (by unfold cle at b1; omega)⟩ hF b1 b2 (by decide)
          obtain ⟨r2, s2, had, m3⟩ := cadd_is hv2 m1 b3 m2 (by omega)
          rw [← hst] at m3
          have HNV := hide (HV.out.set hlt m3)
          obtain ⟨r3, s3, hmp, m4, _⟩ := cmul_is hF HC.out b2 HC1.out (by decide)
          have HNP := hide (show IsC r3 s3 (cp (cp (uI s) k) (i + 1)) from m4)
          obtain ⟨g, hgg⟩ : ∃ g, kg x i = g := ⟨_, rfl⟩
          rw [hgg] at hix hmu
          have hmu' := fun w => run_complex_mul (P := Try.prog) w 199 _ _ _ _ _ _ hmu
          have had' := fun w => run_complex_sum (P := Try.prog) w .add (.inl rfl) 199 .f64 _ _ _ _ _ _ had
          have hmp' := fun w => run_complex_mul (P := Try.prog) w 199 _ _ _ _ _ _ hmp
          have hcv : ∀ (n : Int) (w : World), (convert 3 229 (.int .i64 n)).run Try.prog w = .ok (.float .f64 (floatOfInt .f64 n)) w := fun n w => run_convert_int_float w 3 229 .i64 .f64 n (by kernel_rfl) (by kernel_rfl)
          have k1 : (0 : Int) ≤ (k : Int) := by omega
          have k2 : (k : Int) < 4 := by omega
          clear b1 b2 b3 hv2 hv3 hF hst m1 m2 m3 m4 hmu had hmp hgg
          go_wp2
          have HA := hide (show Blk (wr.alloc (.cells #[.int .i64 g.1, .int .i64 g.2] 30)) (w.heap.size + 1 + 1) 200 V from HO.out.alloc _)
          have HH0 := hide (show (fun w' => Blk w' (w.heap.size + 1 + 1) 200 V ∧ Blk w' wr.heap.size 30 #[.int .i64 g.1, .int .i64 g.2]) (wr.alloc (.cells #[.int .i64 g.1, .int .i64 g.2] 30)).drew from ⟨HA.out, Blk.new wr 30 _⟩)
          have HVK := hide hv1
          clear hv1
          have hHeld := HH0.out
          refine UpTo.start (z := 14) (S := fun w' => Blk w' (w.heap.size + 1 + 1) 200 V ∧ Blk w' wr.heap.size 30 #[.int .i64 g.1, .int .i64 g.2]) (by kernel_rfl) ?_
          refine UpTo.take (i := 0) 26 (v := .int .i64 (k : Int)) rfl rfl (by kernel_rfl) (by kernel_rfl) (by kernel_rfl) (by kernel_rfl) (fun _ _ _ h => h) hHeld (Or.inl ⟨by rfl, by intro w hSw; go_simp⟩) ?_
          try simp only [Act.put, List.setIfInBounds_toArray, List.set_cons_zero, List.set_cons_succ]
          refine UpTo.take (i := 1) 27 (v := .pointer (some ⟨w.heap.size + 1 + 1, k, none⟩)) rfl rfl (by kernel_rfl) (by kernel_rfl) (by kernel_rfl) (by kernel_rfl) (fun _ _ _ h => h) hHeld (Or.inl ⟨by rfl, by intro w hSw; go_simp⟩) ?_
          try simp only [Act.put, List.setIfInBounds_toArray, List.set_cons_zero, List.set_cons_succ]
          refine UpTo.take (i := 2) 28 (v := .complex .f64 a' b') rfl rfl (by kernel_rfl) (by kernel_rfl) (by kernel_rfl) (by kernel_rfl) (fun _ _ _ h => h) hHeld (Or.inl ⟨by rfl, by intro w hSw; have c0 := hSw.1.cell k; rw [HVK.out] at c0; go_simp⟩) ?_
          try simp only [Act.put, List.setIfInBounds_toArray, List.set_cons_zero, List.set_cons_succ]
          refine UpTo.take (i := 3) 29 (v := .pointer (some ⟨wr.heap.size, 0, none⟩)) rfl rfl (by kernel_rfl) (by kernel_rfl) (by kernel_rfl) (by kernel_rfl) (fun _ _ _ h => h) hHeld (Or.inl ⟨by rfl, by intro w hSw; go_simp⟩) ?_
          try simp only [Act.put, List.setIfInBounds_toArray, List.set_cons_zero, List.set_cons_succ]
          refine UpTo.take (i := 4) 30 (v := .int .i64 g.1) rfl rfl (by kernel_rfl) (by kernel_rfl) (by kernel_rfl) (by kernel_rfl) (fun _ _ _ h => h) hHeld (Or.inl ⟨by rfl, by intro w hSw; have c0 := hSw.2.cell 0; have c1 := hSw.2.cell 1; go_simp⟩) ?_
          try simp only [Act.put, List.setIfInBounds_toArray, List.set_cons_zero, List.set_cons_succ]
          refine UpTo.take (i := 5) 31 (v := .float .f64 (floatOfInt .f64 g.1)) rfl rfl (by kernel_rfl) (by kernel_rfl) (by kernel_rfl) (by kernel_rfl) (fun _ _ _ h => h) hHeld (Or.inl ⟨by rfl, by intro w hSw; go_simp⟩) ?_
          try simp only [Act.put, List.setIfInBounds_toArray, List.set_cons_zero, List.set_cons_succ]
          refine UpTo.take (i := 6) 32 (v := .pointer (some ⟨wr.heap.size, 1, none⟩)) rfl rfl (by kernel_rfl) (by kernel_rfl) (by kernel_rfl) (by kernel_rfl) (fun _ _ _ h => h) hHeld (Or.inl ⟨by rfl, by intro w hSw; go_simp⟩) ?_
          try simp only [Act.put, List.setIfInBounds_toArray, List.set_cons_zero, List.set_cons_succ]
          refine UpTo.take (i := 7) 33 (v := .int .i64 g.2) rfl rfl (by kernel_rfl) (by kernel_rfl) (by kernel_rfl) (by kernel_rfl) (fun _ _ _ h => h) hHeld (Or.inl ⟨by rfl, by intro w hSw; have c0 := hSw.2.cell 0; have c1 := hSw.2.cell 1; go_simp⟩) ?_
          try simp only [Act.put, List.setIfInBounds_toArray, List.set_cons_zero, List.set_cons_succ]
          refine UpTo.take (i := 8) 34 (v := .float .f64 (floatOfInt .f64 g.2)) rfl rfl (by kernel_rfl) (by kernel_rfl) (by kernel_rfl) (by kernel_rfl) (fun _ _ _ h => h) hHeld (Or.inl ⟨by rfl, by intro w hSw; go_simp⟩) ?_
          try simp only [Act.put, List.setIfInBounds_toArray, List.set_cons_zero, List.set_cons_succ]
          refine UpTo.take (i := 9) 35 (v := .complex .f64 (floatOfInt .f64 g.1) (floatOfInt .f64 g.2)) rfl rfl (by kernel_rfl) (by kernel_rfl) (by kernel_rfl) (by kernel_rfl) (fun _ _ _ h => h) hHeld (Or.inl ⟨by rfl, by intro w hSw; go_simp⟩) ?_
          try simp only [Act.put, List.setIfInBounds_toArray, List.set_cons_zero, List.set_cons_succ]
          refine UpTo.take (i := 10) 36 (v := .complex .f64 c d) rfl rfl (by kernel_rfl) (by kernel_rfl) (by kernel_rfl) (by kernel_rfl) (fun _ _ _ h => h) hHeld (Or.inl ⟨by rfl, by intro w hSw; go_simp⟩) ?_
          try simp only [Act.put, List.setIfInBounds_toArray, List.set_cons_zero, List.set_cons_succ]
          refine UpTo.take (i := 11) 37 (v := .complex .f64 r1 s1) rfl rfl (by kernel_rfl) (by kernel_rfl) (by kernel_rfl) (by kernel_rfl) (fun _ _ _ h => h) hHeld (Or.inl ⟨by rfl, by intro w hSw; go_simp⟩) ?_
          try simp only [Act.put, List.setIfInBounds_toArray, List.set_cons_zero, List.set_cons_succ]
          refine UpTo.take (i := 12) 38 (v := .complex .f64 r2 s2) rfl rfl (by kernel_rfl) (by kernel_rfl) (by kernel_rfl) (by kernel_rfl) (fun _ _ _ h => h) hHeld (Or.inl ⟨by rfl, by intro w hSw; go_simp⟩) ?_
          try simp only [Act.put, List.setIfInBounds_toArray, List.set_cons_zero, List.set_cons_succ]
          have HXA := hide (show Blk (wr.alloc (.cells #[.int .i64 g.1, .int .i64 g.2] 30)).drew w.heap.size 105 X from HX1.out.alloc _)
          have HZA := hide (show Blk (wr.alloc (.cells #[.int .i64 g.1, .int .i64 g.2] 30)).drew (w.heap.size + 1) 200 z4 from HZ.out.alloc _)
          have HBA := hide (show Below w.heap.size w (wr.alloc (.cells #[.int .i64 g.1, .int .i64 g.2] 30)).drew from below_drewN (HBE.out.alloc HBE.out.size _) 1)
          obtain ⟨W0, hW0⟩ : ∃ W, (wr.alloc (.cells #[.int .i64 g.1, .int .i64 g.2] 30)).drew = W := ⟨_, rfl⟩
          rw [hW0] at HH0 HXA HZA HBA ⊢
          clear hW0
          refine UpTo.next (i := 13) (by kernel_rfl) rfl (fun K hK => ?_)
          go_simp
          refine hK.out _ _ (fun _ => HH0.out) ?_
          clear hK K
          try simp only [Act.put, List.setIfInBounds_toArray, List.set_cons_zero, List.set_cons_succ]
          have hc0 := HH0.out.1.cell k
          rw [HVK.out] at hc0
          have hf0 := HH0.out.1.frozen k
          refine UpTo.next (i := 14) (by kernel_rfl) rfl (fun K hK => ?_)
          go_simp
          rw [run_store Try.prog _ _ _ _ rfl]
          go_simp
          refine hK.out _ _ (fun h => absurd rfl h) ?_
          clear hK K
          refine UpTo.done (by kernel_rfl) ?_ _
          clear hc0 hf0
          go_wp2
          go_roundw
          case rel => exact ⟨i + 1, r3, s3, _, by omega, by go_num, rfl, HNP.out, HNV.out, HH0.out.1.set_ _ _, HXA.out.far (p := ⟨w.heap.size + 1 + 1, k, none⟩) (show w.heap.size ≠ w.heap.size + 1 + 1 by omega) _, HZA.out.far (p := ⟨w.heap.size + 1 + 1, k, none⟩) (show w.heap.size + 1 ≠ w.heap.size + 1 + 1 by omega) _, HBA.out.setCell (p := ⟨w.heap.size + 1 + 1, k, none⟩) (show w.heap.size ≤ w.heap.size + 1 + 1 by omega) _⟩
          case measure => simp [intOf]; omega
        · obtain rfl : i = 4 := by omega
          have HNV := hide HV.out.next
          obtain ⟨r3, s3, hmp, m4, _⟩ := cmul_is HC.out HTT.out HC1.out (show cle 1 (uI s) by cases s <;> (unfold cle uI; decide)) (by decide)
          have HNC := hide (show IsC r3 s3 (cp (uI s) (k + 1)) from m4)
          have hmp' := fun w => run_complex_mul (P := Try.prog) w 199 _ _ _ _ _ _ hmp
          clear hmp m4
          go_wp2
          go_roundw
          case rel => exact ⟨k + 1, r3, s3, V, by omega, by go_num, rfl, HNC.out, HNV.out, HO.out, HX1.out, HZ.out, HBE.out⟩
          case measure => simp [intOf]; omega
    · obtain rfl : k = 4 := by omega
      have hvs := HV.out.1
      have hone : V.all (·.oneCell') = true := by
        rw [Array.all_eq_true]
        intro j hj
        obtain ⟨a2, b2, h1, _⟩ := HV.out.2 j (by omega)
        obtain ⟨_, h2⟩ := Array.getElem?_eq_some_iff.1 h1
        rw [h2]; rfl
      have HVS := hide hvs
      clear hvs
      go_wp2_with (first
        | (refine wpList_load_row rfl 200 (.tmp 6) rfl (w.heap.size + 1 + 1) rfl 200 V (0, 0) _ (by exact HO.out) Try.underlying200 rfl (by rw [HVS.out]; kernel_rfl) ?_)
        | (refine wpList_store_row rfl 200 (.tmp 4) (.tmp 48) rfl (w.heap.size + 1) V rfl rfl 200 z4 HZ.out (by rw [HVS.out]; kernel_rfl) (by rw [HVS.out]; rfl) hone ?_))
      exact bodyPost_ret (results_row_tmp rfl _ _ (w.heap.size + 1) 200 V _ (.int .i64 0) rfl rfl (HZ.out.row _) Try.underlying200 rfl (by rw [HVS.out]; kernel_rfl)) rfl ⟨V, HV.out, rfl, Below.row HBE.out (by omega) _⟩
end Go.Proofs.Ythfmjohbokpceaa
