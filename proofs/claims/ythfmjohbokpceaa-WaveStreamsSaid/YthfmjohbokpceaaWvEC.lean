import Derived.Test.YthfmjohbokpceaaWvEA
namespace Go.Proofs.Ythfmjohbokpceaa
open Go.RowKit Go.WideShapes Go.ChangeShapes

/-! samples of entries, the transform of samples (reference) -/
set_option maxRecDepth 100000 in
set_option maxHeartbeats 8000000 in
theorem samples_ref (x : List (Int × Int)) (w : World) (hx8 : x.length = 8) (hx : ∀ z ∈ x, entE z = 0) :
    Calls Try.prog 91 #[.agg (gv x).toArray] w fun e w' => e = .returned (.agg (nvs (smpL x 8)).toArray) ∧ Below w.heap.size w w' := by
  have HLE := hide (ssum_le hx)
  have HKG := hide (kg_le hx)
  have HSTEP := hide (show ∀ n k, ssum x n (k + 1) = nadd (ssum x n k) (tni (ent (kg x k)) ((k : Int) * (n : Int))) from fun _ _ => rfl)
  have HFULL := hide (show ∀ n, smpL x (n + 1) = smpL x n ++ [ssum x n 8] from fun n => tab_succ _ n)
  have HLEN := hide (show ∀ n, (smpL x n).length = n from fun n => tab_len _ n)
  have HR0 := hide (show smpL x 0 = [] from rfl)
  have HZ := hide (show ∀ k, ssum x k 0 = n0 from fun _ => rfl)
  have HEND := hide (numArr_full (smpL x 8) 8 (tab_len _ 8))
  have HX8 := hide hx8
  clear hx8 hx
  go_enter Try.func91, Try.ntmps91
  go_wp2
  go_loopw [4] (fun i wr => ∃ k : Nat, k ≤ 8 ∧ i = .int .i64 k ∧ Blk wr w.heap.size 137 (gv x).toArray ∧ Blk wr (w.heap.size + 1) 96 (numArr [] 8) ∧ Blk wr (w.heap.size + 2) 96 (numArr (smpL x k) 8) ∧ Below w.heap.size w wr) (fun i _ => 8 - (intOf i).toNat)
  case atStart =>
    refine ⟨0, by omega, rfl, ((Blk.new w 137 (gv x).toArray).alloc _).alloc _, ?_, ?_, by go_grown⟩
    · exact (Blk.newN (w.alloc (.cells (gv x).toArray 137)) 96 (numArr [] 8) (by simp)).alloc _
    · rw [HR0.out]; exact Blk.newN ((w.alloc (.cells (gv x).toArray 137)).alloc (.cells (numArr [] 8) 96)) 96 (numArr [] 8) (by simp)
  case round =>
    obtain ⟨k, hk, rfl, hB, hR, hO, hbel⟩ := hrel
    by_cases hlt : k < 8
    · have hd : decide ((k : Int) < 8) = true := by rw [decide_eq_true_iff]; omega
      have hlk := HLEN.out k
      have HO : Hid (Blk wr (w.heap.size + 2) 96 (numArr (smpL x k ++ [ssum x k 0]) 8)) := hide (by rw [HZ.out, numArr_n0 _ _ (by omega)]; exact hO)
      have HB := hide hB
      have HR := hide hR
      have HBEL := hide hbel
      have HLK := hide hlk
      clear hB hR hO hbel hlk
      go_wp2
      obtain ⟨wo, rfl⟩ : ∃ wo : World, wo = wr := ⟨_, rfl⟩
      go_loopw [5] (fun i wr => ∃ j : Nat, j ≤ 8 ∧ i = .int .i64 j ∧ Blk wr w.heap.size 137 (gv x).toArray ∧ Blk wr (w.heap.size + 1) 96 (numArr [] 8) ∧ Blk wr (w.heap.size + 2) 96 (numArr (smpL x k ++ [ssum x k j]) 8) ∧ Below w.heap.size w wr) (fun i _ => 8 - (intOf i).toNat)
      case atStart => exact ⟨0, Nat.zero_le _, rfl, HB.out, HR.out, HO.out, HBEL.out⟩
      case round =>
        clear HB HR HO HBEL
        obtain ⟨j, hj, rfl, hB, hR, hO, hbel⟩ := hrel
        have hbz := hbel.size
        have hOl := hO.lt
        by_cases hlt2 : j < 8
        · have hd2 : decide ((j : Int) < 8) = true := by rw [decide_eq_true_iff]; omega
          have HXC := hide (show ∀ W, Blk W w.heap.size 137 (gv x).toArray → _ from fun W h => h.gcell (k := j) (by rw [HX8.out]; exact hlt2))
          have hst := HSTEP.out k j
          have hle := HLE.out k j
          have hkg := HKG.out j
          obtain ⟨⟨a, b⟩, hz⟩ : ∃ z, kg x j = z := ⟨_, rfl⟩
          rw [hz] at hst hkg HXC
          dsimp only at hkg HXC
          obtain ⟨S, hS⟩ : ∃ S, ssum x k j = S := ⟨_, rfl⟩
          rw [hS] at hO hst hle
          have hen := hide (nle_ent (m := 4000000000000000000) (g := (a, b)) (by dsimp only; omega))
          have hm1 := mul_le_size (a := (j : Int)) (b := (k : Int)) (m := 8) (n := 8) (by omega) (by omega) (by omega) (by omega)
          obtain ⟨m1, m2⟩ := hm1
          have HTN := hide (nle_tni hen.out ((j : Int) * (k : Int)))
          have HSL := hide (nle_mono hle (show (j : Int) * 10000 ≤ 4000000000000000000 by omega))
          have HTU := hide (fun (e : Int) (he : e = (j : Int) * (k : Int)) W => he ▸ turn_ref (ent (a, b)) ((j : Int) * (k : Int)) W hen.out (by omega) (by omega))
          have g2 : IntKind.i64.wrap ((j : Int) * (k : Int)) = (j : Int) * (k : Int) := IntWalk.i64_in _ (by omega)
          have HST := hide hst
          have g3 : (0 : Int) ≤ (k : Int) := by omega
          have g4 : (k : Int) < 8 := by omega
          have g5 : (0 : Int) ≤ (j : Int) := by omega
          have g6 : (j : Int) < 8 := by omega
          have HH0 : Hid (Blk wr.drew w.heap.size 137 (gv x).toArray ∧ Blk wr.drew (w.heap.size + 1) 96 (numArr [] 8) ∧ Blk wr.drew (w.heap.size + 2) 96 (numArr (smpL x k ++ [S]) 8) ∧ Below w.heap.size w wr.drew) := hide ⟨hB, hR, hO, below_drewN hbel 1⟩
          clear hz hS hle hst hkg hB hR hO HSTEP HLE HKG HFULL HLEN HZ HR0 HEND
          go_wp2
          refine UpTo.start (z := 14) (S := fun w' => Blk w' w.heap.size 137 (gv x).toArray ∧ Blk w' (w.heap.size + 1) 96 (numArr [] 8) ∧ Blk w' (w.heap.size + 2) 96 (numArr (smpL x k ++ [S]) 8) ∧ Below w.heap.size w w') (by kernel_rfl) ?_
          refine UpTo.take (i := 0) 14 (v := .int .i64 (k : Int)) rfl rfl (by kernel_rfl) (by kernel_rfl) (by kernel_rfl) (by kernel_rfl) (fun _ _ _ h => h) HH0.out (Or.inl ⟨by rfl, by intro w hSw; go_simp⟩) ?_
          try simp only [Act.put, List.setIfInBounds_toArray, List.set_cons_zero, List.set_cons_succ]
          refine UpTo.take (i := 1) 15 (v := .int .i64 (k : Int)) rfl rfl (by kernel_rfl) (by kernel_rfl) (by kernel_rfl) (by kernel_rfl) (fun _ _ _ h => h) HH0.out (Or.inl ⟨by rfl, by intro w hSw; go_simp⟩) ?_
          try simp only [Act.put, List.setIfInBounds_toArray, List.set_cons_zero, List.set_cons_succ]
          refine UpTo.take (i := 2) 16 (v := .pointer (some ⟨w.heap.size + 2, k * 4, none⟩)) rfl rfl (by kernel_rfl) (by kernel_rfl) (by kernel_rfl) (by kernel_rfl) (fun _ _ _ h => h) HH0.out (Or.inl ⟨by rfl, by intro w hSw; go_simp⟩) ?_
          try simp only [Act.put, List.setIfInBounds_toArray, List.set_cons_zero, List.set_cons_succ]
          refine UpTo.take (i := 3) 17 (v := nv S) rfl rfl (by kernel_rfl) (by kernel_rfl) (by kernel_rfl) (by kernel_rfl) (fun _ _ _ h => h) HH0.out (Or.inl ⟨by rfl, by intro w hSw; obtain ⟨q0, q1, q2, q3, _, _, _, _⟩ := hSw.2.2.1.num4 HLK.out; go_simp⟩) ?_
          try simp only [Act.put, List.setIfInBounds_toArray, List.set_cons_zero, List.set_cons_succ]
          refine UpTo.take (i := 4) 18 (v := .int .i64 (j : Int)) rfl rfl (by kernel_rfl) (by kernel_rfl) (by kernel_rfl) (by kernel_rfl) (fun _ _ _ h => h) HH0.out (Or.inl ⟨by rfl, by intro w hSw; go_simp⟩) ?_
          try simp only [Act.put, List.setIfInBounds_toArray, List.set_cons_zero, List.set_cons_succ]
          refine UpTo.take (i := 5) 19 (v := .pointer (some ⟨w.heap.size, j * 2, none⟩)) rfl rfl (by kernel_rfl) (by kernel_rfl) (by kernel_rfl) (by kernel_rfl) (fun _ _ _ h => h) HH0.out (Or.inl ⟨by rfl, by intro w hSw; go_simp⟩) ?_
          try simp only [Act.put, List.setIfInBounds_toArray, List.set_cons_zero, List.set_cons_succ]
          refine UpTo.take (i := 6) 20 (v := .agg #[.int .i64 a, .int .i64 b]) rfl rfl (by kernel_rfl) (by kernel_rfl) (by kernel_rfl) (by kernel_rfl) (fun _ _ _ h => h) HH0.out (Or.inl ⟨by rfl, by intro w hSw; obtain ⟨q0, q1⟩ := HXC.out _ hSw.1; go_simp⟩) ?_
          try simp only [Act.put, List.setIfInBounds_toArray, List.set_cons_zero, List.set_cons_succ]
          refine UpTo.take (i := 8) 22 (v := .int .i64 (j : Int)) rfl rfl (by kernel_rfl) (by kernel_rfl) (by kernel_rfl) (by kernel_rfl) (fun _ _ _ h => h) HH0.out (Or.inl ⟨by rfl, by intro w hSw; go_simp⟩) ?_
          try simp only [Act.put, List.setIfInBounds_toArray, List.set_cons_zero, List.set_cons_succ]
          refine UpTo.take (i := 9) 23 (v := .int .i64 (k : Int)) rfl rfl (by kernel_rfl) (by kernel_rfl) (by kernel_rfl) (by kernel_rfl) (fun _ _ _ h => h) HH0.out (Or.inl ⟨by rfl, by intro w hSw; go_simp⟩) ?_
          try simp only [Act.put, List.setIfInBounds_toArray, List.set_cons_zero, List.set_cons_succ]
          refine UpTo.take (i := 10) 24 (v := .int .i64 ((j : Int) * (k : Int))) rfl rfl (by kernel_rfl) (by kernel_rfl) (by kernel_rfl) (by kernel_rfl) (fun _ _ _ h => h) HH0.out (Or.inl ⟨by rfl, by intro w hSw; go_simp⟩) ?_
          try simp only [Act.put, List.setIfInBounds_toArray, List.set_cons_zero, List.set_cons_succ]
          refine UpTo.next (i := 7) (by kernel_rfl) rfl (fun K hK => ?_)
          go_simp
          refine (entry_ref (a, b) _).mono ?_
          rintro e v1 ⟨rfl, hb⟩
          have HH1 := hide (show (fun w' => Blk w' w.heap.size 137 (gv x).toArray ∧ Blk w' (w.heap.size + 1) 96 (numArr [] 8) ∧ Blk w' (w.heap.size + 2) 96 (numArr (smpL x k ++ [S]) 8) ∧ Below w.heap.size w w') v1 from ⟨HH0.out.1.below hb HH0.out.1.lt, HH0.out.2.1.below hb HH0.out.2.1.lt, HH0.out.2.2.1.below hb HH0.out.2.2.1.lt, Below.step HH0.out.2.2.2 hb⟩)
          clear hb
          simp only []
          refine hK.out _ _ (fun _ => HH1.out) ?_
          clear hK K
          try simp only [Act.put, List.setIfInBounds_toArray, List.set_cons_zero, List.set_cons_succ]
          refine UpTo.next (i := 11) (by kernel_rfl) rfl (fun K hK => ?_)
          go_simp
          refine (HTU.out _ (by first | rfl | (simp; done) | grind) _).mono ?_
          rintro e v2 ⟨rfl, hb⟩
          have HH2 := hide (show (fun w' => Blk w' w.heap.size 137 (gv x).toArray ∧ Blk w' (w.heap.size + 1) 96 (numArr [] 8) ∧ Blk w' (w.heap.size + 2) 96 (numArr (smpL x k ++ [S]) 8) ∧ Below w.heap.size w w') v2 from ⟨HH1.out.1.below hb HH1.out.1.lt, HH1.out.2.1.below hb HH1.out.2.1.lt, HH1.out.2.2.1.below hb HH1.out.2.2.1.lt, Below.step HH1.out.2.2.2 hb⟩)
          clear hb
          simp only []
          refine hK.out _ _ (fun _ => HH2.out) ?_
          clear hK K
          try simp only [Act.put, List.setIfInBounds_toArray, List.set_cons_zero, List.set_cons_succ]
          refine UpTo.next (i := 12) (by kernel_rfl) rfl (fun K hK => ?_)
          go_simp
          refine (plus_ref S _ _ HSL.out HTN.out).mono ?_
          rintro e v6 ⟨rfl, hb⟩
          have HH6 := hide (show (fun w' => Blk w' w.heap.size 137 (gv x).toArray ∧ Blk w' (w.heap.size + 1) 96 (numArr [] 8) ∧ Blk w' (w.heap.size + 2) 96 (numArr (smpL x k ++ [S]) 8) ∧ Below w.heap.size w w') v6 from ⟨HH2.out.1.below hb HH2.out.1.lt, HH2.out.2.1.below hb HH2.out.2.1.lt, HH2.out.2.2.1.below hb HH2.out.2.2.1.lt, Below.step HH2.out.2.2.2 hb⟩)
          clear hb
          simp only []
          refine hK.out _ _ (fun _ => HH6.out) ?_
          clear hK K
          try simp only [Act.put, List.setIfInBounds_toArray, List.set_cons_zero, List.set_cons_succ]
          refine UpTo.next (i := 13) (by kernel_rfl) rfl (fun K hK => ?_)
          go_simp
          refine hK.out _ _ (fun _ => HH6.out) ?_
          clear hK K
          try simp only [Act.put, List.setIfInBounds_toArray, List.set_cons_zero, List.set_cons_succ]
          obtain ⟨u0, u1, u2, u3, f0, f1, f2, f3⟩ := HH6.out.2.2.1.num4 HLK.out
          have hz6 := HH6.out.2.2.2.size
          have hz7 := HH6.out.2.2.1.lt
          refine UpTo.next (i := 14) (by kernel_rfl) rfl (fun K hK => ?_)
          go_simp
          refine hK.out _ _ (fun h => absurd rfl h) ?_
          clear hK K
          refine UpTo.done (by kernel_rfl) ?_ _
          have b6 := HH6.out.2.2.2
          go_wp2
          go_roundw
          case rel => exact ⟨j + 1, by omega, by go_num, (((HH6.out.1.far (by first | omega | (simp; done) | (simp; omega)) _).far (by first | omega | (simp; done) | (simp; omega)) _).far (by first | omega | (simp; done) | (simp; omega)) _).far (by first | omega | (simp; done) | (simp; omega)) _, (((HH6.out.2.1.far (by first | omega | (simp; done) | (simp; omega)) _).far (by first | omega | (simp; done) | (simp; omega)) _).far (by first | omega | (simp; done) | (simp; omega)) _).far (by first | omega | (simp; done) | (simp; omega)) _, by have := (((HH6.out.2.2.1.set_ (k * 4) (.int .i64 (ssum x k (j + 1)).1)).set_ (k * 4 + 1) (.int .i64 (ssum x k (j + 1)).2.1)).set_ (k * 4 + 2) (.int .i64 (ssum x k (j + 1)).2.2.1)).set_ (k * 4 + 3) (.int .i64 (ssum x k (j + 1)).2.2.2); rw [numArr_upd _ 8 k S (ssum x k (j + 1)) HLK.out, HST.out] at this; rw [HST.out]; exact this, by go_grown⟩
          case measure => simp [intOf]; omega
        · have hd2 : decide ((j : Int) < 8) = false := by rw [decide_eq_false_iff_not]; omega
          have hj8 : j = 8 := by omega
          have HO1 := hide (show Blk wr (w.heap.size + 2) 96 (numArr (smpL x (k + 1)) 8) by rw [HFULL.out]; rw [hj8] at hO; exact hO)
          have HR1 := hide hR
          have HB1 := hide hB
          clear hj8 hO hR hB HSTEP HLE HKG HFULL HLEN HZ HR0 HEND
          go_wp2
          go_roundw
          case rel => exact ⟨k + 1, by omega, by go_num, HB1.out, HR1.out, HO1.out, hbel⟩
          case measure => simp [intOf]; omega
    · have hd : decide ((k : Int) < 8) = false := by rw [decide_eq_false_iff_not]; omega
      have hk8 : k = 8 := by omega
      rw [hk8] at hO
      have hsz := numArr_size (smpL x 8) 8 (by rw [HLEN.out]; omega)
      have hone := numArr_one (smpL x 8) 8
      rw [HEND.out] at hO hsz hone
      obtain ⟨cs, hcs⟩ : ∃ cs, (nvs (smpL x 8)).toArray = cs := ⟨_, rfl⟩
      rw [hcs] at hO hsz hone
      have HCS := hide hcs
      have HSZ := hide hsz
      have HO := hide hO
      have HR := hide hR
      clear hk8 hcs hsz hO hR hB HSTEP HLE HKG HFULL HLEN HZ HR0 HEND
      go_wp2_with (first
        | (refine wpList_load_row rfl 96 (.tmp 3) rfl (w.heap.size + 2) rfl 96 cs (0, 0) _ HO.out Try.underlying96 rfl (by rw [HSZ.out]; kernel_rfl) ?_)
        | (refine wpList_store_row rfl 96 (.tmp 2) (.tmp 28) rfl (w.heap.size + 1) cs rfl rfl 96 (numArr [] 8) HR.out (by rw [HSZ.out]; kernel_rfl) (by rw [HSZ.out]; rfl) hone ?_))
      exact bodyPost_ret (results_cell_row rfl _ _ (w.heap.size + 1) 96 cs (0, 0) _ rfl (HR.out.row cs) Try.underlying96 rfl (by rw [HSZ.out]; kernel_rfl)) rfl ⟨by rw [HCS.out], Below.row hbel (by omega) _⟩
set_option maxRecDepth 100000 in
set_option maxHeartbeats 8000000 in
theorem transform_ref (x : List (Nm)) (w : World) (hx8 : x.length = 8) (hx : ∀ z ∈ x, nle 1000000000 z) :
    Calls Try.prog 93 #[.agg (nvs x).toArray] w fun e w' => e = .returned (.agg (nvs (trL x 8)).toArray) ∧ Below w.heap.size w w' := by
  have HLE := hide (tsm_le hx)
  have HKG := hide (kn_le' (by omega : (0 : Int) ≤ 1000000000) hx)
  have HSTEP := hide (show ∀ k n, tsm x k (n + 1) = nadd (tsm x k n) (tni (kn x n) (-(k : Int) * (n : Int))) from fun _ _ => rfl)
  have HFULL := hide (show ∀ n, trL x (n + 1) = trL x n ++ [tsm x n 8] from fun n => tab_succ _ n)
  have HLEN := hide (show ∀ n, (trL x n).length = n from fun n => tab_len _ n)
  have HR0 := hide (show trL x 0 = [] from rfl)
  have HZ := hide (show ∀ k, tsm x k 0 = n0 from fun _ => rfl)
  have HEND := hide (numArr_full (trL x 8) 8 (tab_len _ 8))
  have HX8 := hide hx8
  clear hx8 hx
  go_enter Try.func93, Try.ntmps93
  go_wp2
  go_loopw [4] (fun i wr => ∃ k : Nat, k ≤ 8 ∧ i = .int .i64 k ∧ Blk wr w.heap.size 96 (nvs x).toArray ∧ Blk wr (w.heap.size + 1) 96 (numArr [] 8) ∧ Blk wr (w.heap.size + 2) 96 (numArr (trL x k) 8) ∧ Below w.heap.size w wr) (fun i _ => 8 - (intOf i).toNat)
  case atStart =>
    refine ⟨0, by omega, rfl, ((Blk.new w 96 (nvs x).toArray).alloc _).alloc _, ?_, ?_, by go_grown⟩
    · exact (Blk.newN (w.alloc (.cells (nvs x).toArray 96)) 96 (numArr [] 8) (by simp)).alloc _
    · rw [HR0.out]; exact Blk.newN ((w.alloc (.cells (nvs x).toArray 96)).alloc (.cells (numArr [] 8) 96)) 96 (numArr [] 8) (by simp)
  case round =>
    obtain ⟨k, hk, rfl, hB, hR, hO, hbel⟩ := hrel
    by_cases hlt : k < 8
    · have hd : decide ((k : Int) < 8) = true := by rw [decide_eq_true_iff]; omega
      have hlk := HLEN.out k
      have HO : Hid (Blk wr (w.heap.size + 2) 96 (numArr (trL x k ++ [tsm x k 0]) 8)) := hide (by rw [HZ.out, numArr_n0 _ _ (by omega)]; exact hO)
      have HB := hide hB
      have HR := hide hR
      have HBEL := hide hbel
      have HLK := hide hlk
      clear hB hR hO hbel hlk
      go_wp2
      obtain ⟨wo, rfl⟩ : ∃ wo : World, wo = wr := ⟨_, rfl⟩
      go_loopw [5] (fun i wr => ∃ j : Nat, j ≤ 8 ∧ i = .int .i64 j ∧ Blk wr w.heap.size 96 (nvs x).toArray ∧ Blk wr (w.heap.size + 1) 96 (numArr [] 8) ∧ Blk wr (w.heap.size + 2) 96 (numArr (trL x k ++ [tsm x k j]) 8) ∧ Below w.heap.size w wr) (fun i _ => 8 - (intOf i).toNat)
      case atStart => exact ⟨0, Nat.zero_le _, rfl, HB.out, HR.out, HO.out, HBEL.out⟩
      case round =>
        clear HB HR HO HBEL
        obtain ⟨j, hj, rfl, hB, hR, hO, hbel⟩ := hrel
        have hbz := hbel.size
        have hOl := hO.lt
        by_cases hlt2 : j < 8
        · have hd2 : decide ((j : Int) < 8) = true := by rw [decide_eq_true_iff]; omega
          have HXC := hide (show ∀ W, Blk W w.heap.size 96 (nvs x).toArray → _ from fun W h => h.ncell (k := j) (by rw [HX8.out]; exact hlt2))
          have hst := HSTEP.out k j
          have hle := HLE.out k j
          have hkg := HKG.out j
          obtain ⟨p, hz⟩ : ∃ z, kn x j = z := ⟨_, rfl⟩
          rw [hz] at hst hkg HXC
          obtain ⟨S, hS⟩ : ∃ S, tsm x k j = S := ⟨_, rfl⟩
          rw [hS] at hO hst hle
          have hkn2 := nle_mono hkg (show (1000000000 : Int) ≤ 4000000000000000000 by decide)
          have hm1 := mul_le_size (a := -(k : Int)) (b := (j : Int)) (m := 8) (n := 8) (by omega) (by omega) (by omega) (by omega)
          obtain ⟨m1, m2⟩ := hm1
          have HTN := hide (nle_tni hkn2 (-(k : Int) * (j : Int)))
          have HSL := hide (nle_mono hle (show (j : Int) * 1000000000 ≤ 4000000000000000000 by omega))
          have HTU := hide (fun (e : Int) (he : e = -(k : Int) * (j : Int)) W => he ▸ turn_ref p (-(k : Int) * (j : Int)) W hkn2 (by omega) (by omega))
          have g1 : IntKind.i64.wrap (-(k : Int)) = -(k : Int) := IntWalk.i64_in _ (by omega)
          have g2 : IntKind.i64.wrap (-(k : Int) * (j : Int)) = -(k : Int) * (j : Int) := IntWalk.i64_in _ (by omega)
          have HST := hide hst
          have g3 : (0 : Int) ≤ (k : Int) := by omega
          have g4 : (k : Int) < 8 := by omega
          have g5 : (0 : Int) ≤ (j : Int) := by omega
          have g6 : (j : Int) < 8 := by omega
          have HH0 : Hid (Blk wr.drew w.heap.size 96 (nvs x).toArray ∧ Blk wr.drew (w.heap.size + 1) 96 (numArr [] 8) ∧ Blk wr.drew (w.heap.size + 2) 96 (numArr (trL x k ++ [S]) 8) ∧ Below w.heap.size w wr.drew) := hide ⟨hB, hR, hO, below_drewN hbel 1⟩
          clear hz hS hle hst hkg hB hR hO HSTEP HLE HKG HFULL HLEN HZ HR0 HEND
          go_wp2
          refine UpTo.start (z := 14) (S := fun w' => Blk w' w.heap.size 96 (nvs x).toArray ∧ Blk w' (w.heap.size + 1) 96 (numArr [] 8) ∧ Blk w' (w.heap.size + 2) 96 (numArr (trL x k ++ [S]) 8) ∧ Below w.heap.size w w') (by kernel_rfl) ?_
          refine UpTo.take (i := 0) 14 (v := .int .i64 (k : Int)) rfl rfl (by kernel_rfl) (by kernel_rfl) (by kernel_rfl) (by kernel_rfl) (fun _ _ _ h => h) HH0.out (Or.inl ⟨by rfl, by intro w hSw; go_simp⟩) ?_
          try simp only [Act.put, List.setIfInBounds_toArray, List.set_cons_zero, List.set_cons_succ]
          refine UpTo.take (i := 1) 15 (v := .int .i64 (k : Int)) rfl rfl (by kernel_rfl) (by kernel_rfl) (by kernel_rfl) (by kernel_rfl) (fun _ _ _ h => h) HH0.out (Or.inl ⟨by rfl, by intro w hSw; go_simp⟩) ?_
          try simp only [Act.put, List.setIfInBounds_toArray, List.set_cons_zero, List.set_cons_succ]
          refine UpTo.take (i := 2) 16 (v := .pointer (some ⟨w.heap.size + 2, k * 4, none⟩)) rfl rfl (by kernel_rfl) (by kernel_rfl) (by kernel_rfl) (by kernel_rfl) (fun _ _ _ h => h) HH0.out (Or.inl ⟨by rfl, by intro w hSw; go_simp⟩) ?_
          try simp only [Act.put, List.setIfInBounds_toArray, List.set_cons_zero, List.set_cons_succ]
          refine UpTo.take (i := 3) 17 (v := nv S) rfl rfl (by kernel_rfl) (by kernel_rfl) (by kernel_rfl) (by kernel_rfl) (fun _ _ _ h => h) HH0.out (Or.inl ⟨by rfl, by intro w hSw; obtain ⟨q0, q1, q2, q3, _, _, _, _⟩ := hSw.2.2.1.num4 HLK.out; go_simp⟩) ?_
          try simp only [Act.put, List.setIfInBounds_toArray, List.set_cons_zero, List.set_cons_succ]
          refine UpTo.take (i := 4) 18 (v := .int .i64 (j : Int)) rfl rfl (by kernel_rfl) (by kernel_rfl) (by kernel_rfl) (by kernel_rfl) (fun _ _ _ h => h) HH0.out (Or.inl ⟨by rfl, by intro w hSw; go_simp⟩) ?_
          try simp only [Act.put, List.setIfInBounds_toArray, List.set_cons_zero, List.set_cons_succ]
          refine UpTo.take (i := 5) 19 (v := .pointer (some ⟨w.heap.size, j * 4, none⟩)) rfl rfl (by kernel_rfl) (by kernel_rfl) (by kernel_rfl) (by kernel_rfl) (fun _ _ _ h => h) HH0.out (Or.inl ⟨by rfl, by intro w hSw; go_simp⟩) ?_
          try simp only [Act.put, List.setIfInBounds_toArray, List.set_cons_zero, List.set_cons_succ]
          refine UpTo.take (i := 6) 20 (v := nv p) rfl rfl (by kernel_rfl) (by kernel_rfl) (by kernel_rfl) (by kernel_rfl) (fun _ _ _ h => h) HH0.out (Or.inl ⟨by rfl, by intro w hSw; obtain ⟨q0, q1, q2, q3⟩ := HXC.out _ hSw.1; go_simp⟩) ?_
          try simp only [Act.put, List.setIfInBounds_toArray, List.set_cons_zero, List.set_cons_succ]
          refine UpTo.take (i := 7) 21 (v := .int .i64 (k : Int)) rfl rfl (by kernel_rfl) (by kernel_rfl) (by kernel_rfl) (by kernel_rfl) (fun _ _ _ h => h) HH0.out (Or.inl ⟨by rfl, by intro w hSw; go_simp⟩) ?_
          try simp only [Act.put, List.setIfInBounds_toArray, List.set_cons_zero, List.set_cons_succ]
          refine UpTo.take (i := 8) 22 (v := .int .i64 (-(k : Int))) rfl rfl (by kernel_rfl) (by kernel_rfl) (by kernel_rfl) (by kernel_rfl) (fun _ _ _ h => h) HH0.out (Or.inl ⟨by rfl, by intro w hSw; go_simp⟩) ?_
          try simp only [Act.put, List.setIfInBounds_toArray, List.set_cons_zero, List.set_cons_succ]
          refine UpTo.take (i := 9) 23 (v := .int .i64 (j : Int)) rfl rfl (by kernel_rfl) (by kernel_rfl) (by kernel_rfl) (by kernel_rfl) (fun _ _ _ h => h) HH0.out (Or.inl ⟨by rfl, by intro w hSw; go_simp⟩) ?_
          try simp only [Act.put, List.setIfInBounds_toArray, List.set_cons_zero, List.set_cons_succ]
          refine UpTo.take (i := 10) 24 (v := .int .i64 (-(k : Int) * (j : Int))) rfl rfl (by kernel_rfl) (by kernel_rfl) (by kernel_rfl) (by kernel_rfl) (fun _ _ _ h => h) HH0.out (Or.inl ⟨by rfl, by intro w hSw; go_simp⟩) ?_
          try simp only [Act.put, List.setIfInBounds_toArray, List.set_cons_zero, List.set_cons_succ]
          refine UpTo.next (i := 11) (by kernel_rfl) rfl (fun K hK => ?_)
          go_simp
          refine (HTU.out _ (by first | rfl | (simp; done) | grind) _).mono ?_
          rintro e v2 ⟨rfl, hb⟩
          have HH2 := hide (show (fun w' => Blk w' w.heap.size 96 (nvs x).toArray ∧ Blk w' (w.heap.size + 1) 96 (numArr [] 8) ∧ Blk w' (w.heap.size + 2) 96 (numArr (trL x k ++ [S]) 8) ∧ Below w.heap.size w w') v2 from ⟨HH0.out.1.below hb HH0.out.1.lt, HH0.out.2.1.below hb HH0.out.2.1.lt, HH0.out.2.2.1.below hb HH0.out.2.2.1.lt, Below.step HH0.out.2.2.2 hb⟩)
          clear hb
          simp only []
          refine hK.out _ _ (fun _ => HH2.out) ?_
          clear hK K
          try simp only [Act.put, List.setIfInBounds_toArray, List.set_cons_zero, List.set_cons_succ]
          refine UpTo.next (i := 12) (by kernel_rfl) rfl (fun K hK => ?_)
          go_simp
          refine (plus_ref S _ _ HSL.out HTN.out).mono ?_
          rintro e v6 ⟨rfl, hb⟩
          have HH6 := hide (show (fun w' => Blk w' w.heap.size 96 (nvs x).toArray ∧ Blk w' (w.heap.size + 1) 96 (numArr [] 8) ∧ Blk w' (w.heap.size + 2) 96 (numArr (trL x k ++ [S]) 8) ∧ Below w.heap.size w w') v6 from ⟨HH2.out.1.below hb HH2.out.1.lt, HH2.out.2.1.below hb HH2.out.2.1.lt, HH2.out.2.2.1.below hb HH2.out.2.2.1.lt, Below.step HH2.out.2.2.2 hb⟩)
          clear hb
          simp only []
          refine hK.out _ _ (fun _ => HH6.out) ?_
          clear hK K
          try simp only [Act.put, List.setIfInBounds_toArray, List.set_cons_zero, List.set_cons_succ]
          refine UpTo.next (i := 13) (by kernel_rfl) rfl (fun K hK => ?_)
          go_simp
          refine hK.out _ _ (fun _ => HH6.out) ?_
          clear hK K
          try simp only [Act.put, List.setIfInBounds_toArray, List.set_cons_zero, List.set_cons_succ]
          obtain ⟨u0, u1, u2, u3, f0, f1, f2, f3⟩ := HH6.out.2.2.1.num4 HLK.out
          have hz6 := HH6.out.2.2.2.size
          have hz7 := HH6.out.2.2.1.lt
          refine UpTo.next (i := 14) (by kernel_rfl) rfl (fun K hK => ?_)
          go_simp
          refine hK.out _ _ (fun h => absurd rfl h) ?_
          clear hK K
          refine UpTo.done (by kernel_rfl) ?_ _
          have b6 := HH6.out.2.2.2
          go_wp2
          go_roundw
          case rel => exact ⟨j + 1, by omega, by go_num, (((HH6.out.1.far (by first | omega | (simp; done) | (simp; omega)) _).far (by first | omega | (simp; done) | (simp; omega)) _).far (by first | omega | (simp; done) | (simp; omega)) _).far (by first | omega | (simp; done) | (simp; omega)) _, (((HH6.out.2.1.far (by first | omega | (simp; done) | (simp; omega)) _).far (by first | omega | (simp; done) | (simp; omega)) _).far (by first | omega | (simp; done) | (simp; omega)) _).far (by first | omega | (simp; done) | (simp; omega)) _, by have := (((HH6.out.2.2.1.set_ (k * 4) (.int .i64 (tsm x k (j + 1)).1)).set_ (k * 4 + 1) (.int .i64 (tsm x k (j + 1)).2.1)).set_ (k * 4 + 2) (.int .i64 (tsm x k (j + 1)).2.2.1)).set_ (k * 4 + 3) (.int .i64 (tsm x k (j + 1)).2.2.2); rw [numArr_upd _ 8 k S (tsm x k (j + 1)) HLK.out, HST.out] at this; rw [HST.out]; exact this, by go_grown⟩
          case measure => simp [intOf]; omega
        · have hd2 : decide ((j : Int) < 8) = false := by rw [decide_eq_false_iff_not]; omega
          have hj8 : j = 8 := by omega
          have HO1 := hide (show Blk wr (w.heap.size + 2) 96 (numArr (trL x (k + 1)) 8) by rw [HFULL.out]; rw [hj8] at hO; exact hO)
          have HR1 := hide hR
          have HB1 := hide hB
          clear hj8 hO hR hB HSTEP HLE HKG HFULL HLEN HZ HR0 HEND
          go_wp2
          go_roundw
          case rel => exact ⟨k + 1, by omega, by go_num, HB1.out, HR1.out, HO1.out, hbel⟩
          case measure => simp [intOf]; omega
    · have hd : decide ((k : Int) < 8) = false := by rw [decide_eq_false_iff_not]; omega
      have hk8 : k = 8 := by omega
      rw [hk8] at hO
      have hsz := numArr_size (trL x 8) 8 (by rw [HLEN.out]; omega)
      have hone := numArr_one (trL x 8) 8
      rw [HEND.out] at hO hsz hone
      obtain ⟨cs, hcs⟩ : ∃ cs, (nvs (trL x 8)).toArray = cs := ⟨_, rfl⟩
      rw [hcs] at hO hsz hone
      have HCS := hide hcs
      have HSZ := hide hsz
      have HO := hide hO
      have HR := hide hR
      clear hk8 hcs hsz hO hR hB HSTEP HLE HKG HFULL HLEN HZ HR0 HEND
      go_wp2_with (first
        | (refine wpList_load_row rfl 96 (.tmp 3) rfl (w.heap.size + 2) rfl 96 cs (0, 0) _ HO.out Try.underlying96 rfl (by rw [HSZ.out]; kernel_rfl) ?_)
        | (refine wpList_store_row rfl 96 (.tmp 2) (.tmp 28) rfl (w.heap.size + 1) cs rfl rfl 96 (numArr [] 8) HR.out (by rw [HSZ.out]; kernel_rfl) (by rw [HSZ.out]; rfl) hone ?_))
      exact bodyPost_ret (results_cell_row rfl _ _ (w.heap.size + 1) 96 cs (0, 0) _ rfl (HR.out.row cs) Try.underlying96 rfl (by rw [HSZ.out]; kernel_rfl)) rfl ⟨by rw [HCS.out], Below.row hbel (by omega) _⟩
end Go.Proofs.Ythfmjohbokpceaa
