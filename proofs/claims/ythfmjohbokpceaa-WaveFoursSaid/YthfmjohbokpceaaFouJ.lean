import Derived.Test.YthfmjohbokpceaaFouI
namespace Go.Proofs.Ythfmjohbokpceaa
open Go.RowKit Go.WideShapes Go.ChangeShapes

/-! the reference's four points -/
set_option maxRecDepth 100000 in
set_option maxHeartbeats 8000000 in
theorem Four_ref (x : List (Int × Int)) (w : World) (hx4 : x.length = 4) (hx : eachE foE x = 0) :
    Calls Try.prog 74 #[.agg (gv x).toArray] w fun e w' => e = .returned (.agg (gv (foL x true)).toArray) ∧ Below w.heap.size w w' := by
  have HK9 := hide (kg9 hx)
  have HFL := hide (fun k (hk : k < 5) i (hi : i < 5) => cle_mono (fo_le (kg9 hx) true k hk i hi) (show (i : Int) * 2000000000 ≤ 1000000000000000000 by omega))
  have HCC := hide (fun W (h : Blk W w.heap.size 105 (gv x).toArray) k (hk : k < 4) => h.gcell (k := k) (by omega))
  have HSTEP := hide (show ∀ k n, n < 4 → k < 4 → fo x true k (n + 1) = cadd (fo x true k n) (cmul (kg x n) (pw (n * k % 4))) from fun k n hn hk => by rw [← (cp_pw k n hk hn).1]; rfl)
  have HZ := hide (show ∀ k, fo x true k 0 = (0, 0) from fun _ => rfl)
  have HLEN := hide (show (foL x true).length = 4 from rfl)
  have HTK := hide (fun k (hk : k < 4) => show (foL x true).take (k + 1) = (foL x true).take k ++ [fo x true k 4] from by
    rw [List.take_succ_eq_append_getElem (show k < (foL x true).length from hk), ← kg_at (show k < (foL x true).length from hk), kg_foL x true k hk])
  have HEND := hide (garr_full (foL x true) 4 rfl)
  obtain ⟨R, hR⟩ : ∃ R, foL x true = R := ⟨_, rfl⟩
  rw [hR] at HTK HLEN HEND
  rw [hR]
  have HTL := hide (fun k (hk : k < 5) => show (R.take k).length = k from by rw [List.length_take, HLEN.out]; omega)
  clear hx4 hx hR
  go_enter Try.func74, Try.ntmps74
  go_wp2
  go_loopw [4] (fun i wr => ∃ k : Nat, k ≤ 4 ∧ i = .int .i64 k ∧ Blk wr w.heap.size 105 (gv x).toArray ∧ Blk wr (w.heap.size + 1) 105 (garr [] 4) ∧ Blk wr (w.heap.size + 2) 105 (garr (R.take k) 4) ∧ Below w.heap.size w wr) (fun i _ => 4 - (intOf i).toNat)
  case atStart =>
    refine ⟨0, by omega, rfl, ((Blk.new w 105 (gv x).toArray).alloc _).alloc _, ?_, ?_, by go_grown⟩
    · exact (Blk.newN (w.alloc (.cells (gv x).toArray 105)) 105 (garr [] 4) (by simp)).alloc _
    · exact Blk.newN ((w.alloc (.cells (gv x).toArray 105)).alloc (.cells (garr [] 4) 105)) 105 (garr [] 4) (by simp)
  case round =>
    obtain ⟨k, hk, rfl, hB, hR, hO, hbel⟩ := hrel
    by_cases hlt : k < 4
    · have hd : decide ((k : Int) < 4) = true := by rw [decide_eq_true_iff]; omega
      have hlk := HTL.out k (by omega)
      have HO : Hid (Blk wr (w.heap.size + 2) 105 (garr (R.take k ++ [fo x true k 0]) 4)) := hide (by rw [HZ.out, garr_zero _ _ (by omega)]; exact hO)
      have HB := hide hB
      have HR := hide hR
      have HBEL := hide hbel
      have HLK := hide hlk
      clear hB hR hO hbel hlk
      go_wp2
      obtain ⟨wo, rfl⟩ : ∃ wo : World, wo = wr := ⟨_, rfl⟩
      go_loopw [5] (fun i wr => ∃ n : Nat, n ≤ 4 ∧ i = .int .i64 n ∧ Blk wr w.heap.size 105 (gv x).toArray ∧ Blk wr (w.heap.size + 1) 105 (garr [] 4) ∧ Blk wr (w.heap.size + 2) 105 (garr (R.take k ++ [fo x true k n]) 4) ∧ Below w.heap.size w wr) (fun i _ => 4 - (intOf i).toNat)
      case atStart => exact ⟨0, Nat.zero_le _, rfl, HB.out, HR.out, HO.out, HBEL.out⟩
      case round =>
        clear HB HR HO HBEL
        obtain ⟨n, hn, rfl, hB, hR, hO, hbel⟩ := hrel
        have hbz := hbel.size
        have hOl := hO.lt
        by_cases hlt2 : n < 4
        · have hd2 : decide ((n : Int) < 4) = true := by rw [decide_eq_true_iff]; omega
          have HXC := hide (fun W (h : Blk W w.heap.size 105 (gv x).toArray) => HCC.out W h n hlt2)
          have hst := HSTEP.out k n hlt2 hlt
          have hle := HFL.out k (by omega) n (by omega)
          have hk9 := HK9.out n
          obtain ⟨K, hK⟩ : ∃ K, n * k % 4 = K := ⟨_, rfl⟩
          have hpi := (pw_is k n hlt hlt2).2
          rw [hK] at hst hpi
          have hK4 : K < 4 := by rw [← hK]; exact Nat.mod_lt _ (by decide)
          have hpc := pw_cle K
          obtain ⟨m1, m2⟩ := mul_le_size (a := (n : Int)) (b := (k : Int)) (m := 4) (n := 4) (by omega) (by omega) (by omega) (by omega)
          have HPW := hide (fun (e : Int) (he : e = (n : Int) * (k : Int)) W => he ▸ power_refZ ((n : Int) * (k : Int)) K hK4 hpi (by omega) (by omega) W)
          obtain ⟨z, hz⟩ : ∃ z, kg x n = z := ⟨_, rfl⟩
          rw [hz] at hst hk9 HXC
          have HGM := hide (fun W => gmul_big z (pw K) W hk9 hpc)
          obtain ⟨P, hP⟩ : ∃ P, pw K = P := ⟨_, rfl⟩
          rw [hP] at hst hpc HPW HGM
          obtain ⟨S, hS2⟩ : ∃ S, fo x true k n = S := ⟨_, rfl⟩
          rw [hS2] at hO hst hle
          have hcm : cle 1000000000000000000 (cmul z P) := by
            unfold cle cmul at *
            have q := pw_bd K
            rw [hP] at q
            obtain ⟨p1, q1⟩ := mul_bd2 hk9.1 hk9.2.1 q.1 q.2.1
            obtain ⟨p2, q2⟩ := mul_bd2 hk9.2.2.1 hk9.2.2.2 q.2.2.1 q.2.2.2
            obtain ⟨p3, q3⟩ := mul_bd2 hk9.1 hk9.2.1 q.2.2.1 q.2.2.2
            obtain ⟨p4, q4⟩ := mul_bd2 hk9.2.2.1 hk9.2.2.2 q.1 q.2.1
            dsimp only
            omega
          obtain ⟨M, hM⟩ : ∃ M, cmul z P = M := ⟨_, rfl⟩
          rw [hM] at hst HGM hcm
          have HGD := hide (fun W => gadd_big S M W hle hcm)
          obtain ⟨N, hN⟩ : ∃ N, cadd S M = N := ⟨_, rfl⟩
          rw [hN] at hst HGD
          have HST := hide hst
          have g2 : IntKind.i64.wrap ((n : Int) * (k : Int)) = (n : Int) * (k : Int) := IntWalk.i64_in _ (by omega)
          have g3 : (0 : Int) ≤ (n : Int) := by omega
          have g4 : (n : Int) < 4 := by omega
          have g5 : (0 : Int) ≤ (k : Int) := by omega
          have g6 : (k : Int) < 4 := by omega
          have HH0 : Hid (Blk wr.drew w.heap.size 105 (gv x).toArray ∧ Blk wr.drew (w.heap.size + 1) 105 (garr [] 4) ∧ Blk wr.drew (w.heap.size + 2) 105 (garr (R.take k ++ [S]) 4) ∧ Below w.heap.size w wr.drew) := hide ⟨hB, hR, hO, below_drewN hbel 1⟩
          clear hz hP hM hN hS2 hB hR hO hst hle hk9 hpc hcm hpi hK hK4 HK9 HFL HCC HSTEP HTK HZ HEND HTL
          go_wp2
          refine UpTo.start (z := 14) (S := fun w' => Blk w' w.heap.size 105 (gv x).toArray ∧ Blk w' (w.heap.size + 1) 105 (garr [] 4) ∧ Blk w' (w.heap.size + 2) 105 (garr (R.take k ++ [S]) 4) ∧ Below w.heap.size w w') (by kernel_rfl) ?_
          refine UpTo.take (i := 0) 14 (v := .int .i64 (k : Int)) rfl rfl (by kernel_rfl) (by kernel_rfl) (by kernel_rfl) (by kernel_rfl) (fun _ _ _ h => h) HH0.out (Or.inl ⟨by rfl, by intro w hSw; go_simp⟩) ?_
          try simp only [Act.put, List.setIfInBounds_toArray, List.set_cons_zero, List.set_cons_succ]
          refine UpTo.take (i := 1) 15 (v := .int .i64 (k : Int)) rfl rfl (by kernel_rfl) (by kernel_rfl) (by kernel_rfl) (by kernel_rfl) (fun _ _ _ h => h) HH0.out (Or.inl ⟨by rfl, by intro w hSw; go_simp⟩) ?_
          try simp only [Act.put, List.setIfInBounds_toArray, List.set_cons_zero, List.set_cons_succ]
          refine UpTo.take (i := 2) 16 (v := .pointer (some ⟨w.heap.size + 2, k * 2, none⟩)) rfl rfl (by kernel_rfl) (by kernel_rfl) (by kernel_rfl) (by kernel_rfl) (fun _ _ _ h => h) HH0.out (Or.inl ⟨by rfl, by intro w hSw; go_simp⟩) ?_
          try simp only [Act.put, List.setIfInBounds_toArray, List.set_cons_zero, List.set_cons_succ]
          refine UpTo.take (i := 3) 17 (v := .agg #[.int .i64 S.1, .int .i64 S.2]) rfl rfl (by kernel_rfl) (by kernel_rfl) (by kernel_rfl) (by kernel_rfl) (fun _ _ _ h => h) HH0.out (Or.inl ⟨by rfl, by intro w hSw; obtain ⟨q0, q1, _, _⟩ := hSw.2.2.1.ga2 HLK.out; go_simp⟩) ?_
          try simp only [Act.put, List.setIfInBounds_toArray, List.set_cons_zero, List.set_cons_succ]
          refine UpTo.take (i := 4) 18 (v := .int .i64 (n : Int)) rfl rfl (by kernel_rfl) (by kernel_rfl) (by kernel_rfl) (by kernel_rfl) (fun _ _ _ h => h) HH0.out (Or.inl ⟨by rfl, by intro w hSw; go_simp⟩) ?_
          try simp only [Act.put, List.setIfInBounds_toArray, List.set_cons_zero, List.set_cons_succ]
          refine UpTo.take (i := 5) 19 (v := .pointer (some ⟨w.heap.size, n * 2, none⟩)) rfl rfl (by kernel_rfl) (by kernel_rfl) (by kernel_rfl) (by kernel_rfl) (fun _ _ _ h => h) HH0.out (Or.inl ⟨by rfl, by intro w hSw; go_simp⟩) ?_
          try simp only [Act.put, List.setIfInBounds_toArray, List.set_cons_zero, List.set_cons_succ]
          refine UpTo.take (i := 6) 20 (v := .agg #[.int .i64 z.1, .int .i64 z.2]) rfl rfl (by kernel_rfl) (by kernel_rfl) (by kernel_rfl) (by kernel_rfl) (fun _ _ _ h => h) HH0.out (Or.inl ⟨by rfl, by intro w hSw; obtain ⟨q0, q1⟩ := HXC.out _ hSw.1; go_simp⟩) ?_
          try simp only [Act.put, List.setIfInBounds_toArray, List.set_cons_zero, List.set_cons_succ]
          refine UpTo.take (i := 7) 21 (v := .int .i64 (n : Int)) rfl rfl (by kernel_rfl) (by kernel_rfl) (by kernel_rfl) (by kernel_rfl) (fun _ _ _ h => h) HH0.out (Or.inl ⟨by rfl, by intro w hSw; go_simp⟩) ?_
          try simp only [Act.put, List.setIfInBounds_toArray, List.set_cons_zero, List.set_cons_succ]
          refine UpTo.take (i := 8) 22 (v := .int .i64 (k : Int)) rfl rfl (by kernel_rfl) (by kernel_rfl) (by kernel_rfl) (by kernel_rfl) (fun _ _ _ h => h) HH0.out (Or.inl ⟨by rfl, by intro w hSw; go_simp⟩) ?_
          try simp only [Act.put, List.setIfInBounds_toArray, List.set_cons_zero, List.set_cons_succ]
          refine UpTo.take (i := 9) 23 (v := .int .i64 ((n : Int) * (k : Int))) rfl rfl (by kernel_rfl) (by kernel_rfl) (by kernel_rfl) (by kernel_rfl) (fun _ _ _ h => h) HH0.out (Or.inl ⟨by rfl, by intro w hSw; go_simp⟩) ?_
          try simp only [Act.put, List.setIfInBounds_toArray, List.set_cons_zero, List.set_cons_succ]
          refine UpTo.next (i := 10) (by kernel_rfl) rfl (fun K hK => ?_)
          go_simp
          refine (HPW.out _ (by first | rfl | (simp; done) | grind) _).mono ?_
          rintro e v1 ⟨rfl, hb⟩
          have HH1 := hide (show (fun w' => Blk w' w.heap.size 105 (gv x).toArray ∧ Blk w' (w.heap.size + 1) 105 (garr [] 4) ∧ Blk w' (w.heap.size + 2) 105 (garr (R.take k ++ [S]) 4) ∧ Below w.heap.size w w') v1 from ⟨HH0.out.1.below hb HH0.out.1.lt, HH0.out.2.1.below hb HH0.out.2.1.lt, HH0.out.2.2.1.below hb HH0.out.2.2.1.lt, Below.step HH0.out.2.2.2 hb⟩)
          clear hb
          simp only []
          refine hK.out _ _ (fun _ => HH1.out) ?_
          clear hK K
          try simp only [Act.put, List.setIfInBounds_toArray, List.set_cons_zero, List.set_cons_succ]
          refine UpTo.next (i := 11) (by kernel_rfl) rfl (fun K hK => ?_)
          go_simp
          refine (HGM.out _).mono ?_
          rintro e v2 ⟨rfl, hb⟩
          have HH2 := hide (show (fun w' => Blk w' w.heap.size 105 (gv x).toArray ∧ Blk w' (w.heap.size + 1) 105 (garr [] 4) ∧ Blk w' (w.heap.size + 2) 105 (garr (R.take k ++ [S]) 4) ∧ Below w.heap.size w w') v2 from ⟨HH1.out.1.below hb HH1.out.1.lt, HH1.out.2.1.below hb HH1.out.2.1.lt, HH1.out.2.2.1.below hb HH1.out.2.2.1.lt, Below.step HH1.out.2.2.2 hb⟩)
          clear hb
          simp only []
          refine hK.out _ _ (fun _ => HH2.out) ?_
          clear hK K
          try simp only [Act.put, List.setIfInBounds_toArray, List.set_cons_zero, List.set_cons_succ]
          refine UpTo.next (i := 12) (by kernel_rfl) rfl (fun K hK => ?_)
          go_simp
          refine (HGD.out _).mono ?_
          rintro e v6 ⟨rfl, hb⟩
          have HH6 := hide (show (fun w' => Blk w' w.heap.size 105 (gv x).toArray ∧ Blk w' (w.heap.size + 1) 105 (garr [] 4) ∧ Blk w' (w.heap.size + 2) 105 (garr (R.take k ++ [S]) 4) ∧ Below w.heap.size w w') v6 from ⟨HH2.out.1.below hb HH2.out.1.lt, HH2.out.2.1.below hb HH2.out.2.1.lt, HH2.out.2.2.1.below hb HH2.out.2.2.1.lt, Below.step HH2.out.2.2.2 hb⟩)
          clear hb
          simp only []
          refine hK.out _ _ (fun _ => HH6.out) ?_
          clear hK K
          try simp only [Act.put, List.setIfInBounds_toArray, List.set_cons_zero, List.set_cons_succ]
          refine UpTo.next (i := 13) (by kernel_rfl) rfl (fun K hK => ?_)
          go_simp
          refine hK.out _ _ (fun _ => HH6.out) ?_
          clear hK K
          try simp only [Act.put, List.setIfInBounds_toArray, List.set_cons_zero, List.set_cons_succ]
          obtain ⟨u0, u1, f0, f1⟩ := HH6.out.2.2.1.ga2 HLK.out
          have hz6 := HH6.out.2.2.2.size
          have hz7 := HH6.out.2.2.1.lt
          refine UpTo.next (i := 14) (by kernel_rfl) rfl (fun K hK => ?_)
          go_simp
          refine hK.out _ _ (fun h => absurd rfl h) ?_
          clear hK K
          refine UpTo.done (by kernel_rfl) ?_ _
          have b6 := HH6.out.2.2.2
          go_wp2
          go_roundw
          case rel => exact ⟨n + 1, by omega, by go_num, (HH6.out.1.far (by first | omega | (simp; done) | (simp; omega)) _).far (by first | omega | (simp; done) | (simp; omega)) _, (HH6.out.2.1.far (by first | omega | (simp; done) | (simp; omega)) _).far (by first | omega | (simp; done) | (simp; omega)) _, by have := (HH6.out.2.2.1.set_ (k * 2) (.int .i64 N.1)).set_ (k * 2 + 1) (.int .i64 N.2); rw [garr_upd _ 4 k S N HLK.out] at this; rw [HST.out]; exact this, by go_grown⟩
          case measure => simp [intOf]; omega
        · have hd2 : decide ((n : Int) < 4) = false := by rw [decide_eq_false_iff_not]; omega
          have hj8 : n = 4 := by omega
          have HO1 := hide (show Blk wr (w.heap.size + 2) 105 (garr (R.take (k + 1)) 4) by rw [HTK.out k hlt]; rw [hj8] at hO; exact hO)
          have HR1 := hide hR
          have HB1 := hide hB
          clear hj8 hO hR hB HK9 HFL HCC HSTEP HTK HZ HEND HTL
          go_wp2
          go_roundw
          case rel => exact ⟨k + 1, by omega, by go_num, HB1.out, HR1.out, HO1.out, hbel⟩
          case measure => simp [intOf]; omega
    · have hd : decide ((k : Int) < 4) = false := by rw [decide_eq_false_iff_not]; omega
      have hk8 : k = 4 := by omega
      rw [hk8, show R.take 4 = R from List.take_of_length_le (by rw [HLEN.out]; omega)] at hO
      have hsz := garr_size R 4 (by rw [HLEN.out]; omega)
      have hone := garr_one R 4
      rw [HEND.out] at hO hsz hone
      obtain ⟨cs, hcs⟩ : ∃ cs, (gv R).toArray = cs := ⟨_, rfl⟩
      rw [hcs] at hO hsz hone
      have HCS := hide hcs
      have HSZ := hide hsz
      have HO := hide hO
      have HR := hide hR
      clear hk8 hcs hsz hO hR hB HK9 HFL HCC HSTEP HTK HZ HEND HTL
      go_wp2_with (first
        | (refine wpList_load_row rfl 105 (.tmp 3) rfl (w.heap.size + 2) rfl 105 cs (0, 0) _ HO.out Try.underlying105 rfl (by rw [HSZ.out]; kernel_rfl) ?_)
        | (refine wpList_store_row rfl 105 (.tmp 2) (.tmp 28) rfl (w.heap.size + 1) cs rfl rfl 105 (garr [] 4) HR.out (by rw [HSZ.out]; kernel_rfl) (by rw [HSZ.out]; rfl) hone ?_))
      exact bodyPost_ret (results_cell_row rfl _ _ (w.heap.size + 1) 105 cs (0, 0) _ rfl (HR.out.row cs) Try.underlying105 rfl (by rw [HSZ.out]; kernel_rfl)) rfl ⟨by rw [HCS.out], Below.row hbel (by omega) _⟩
end Go.Proofs.Ythfmjohbokpceaa
