import Derived.Test.YthfmjohbokpceaaFouG
import Derived.Test.YthfmjohbokpceaaFouH
namespace Go.Proofs.Ythfmjohbokpceaa
open Go.RowKit Go.WideShapes Go.ChangeShapes

/-! the reference's error of four points, and its way back -/
set_option maxRecDepth 100000 in
theorem FourErr_ref (x : List (Int × Int)) (w : World) (hx4 : x.length = 4) :
    Calls Try.prog 72 #[.agg (gv x).toArray] w fun e w' => e = .returned (.int .i64 (eachE foE x)) ∧ Below w.heap.size w w' := by
  have HCC := hide (fun W (h : Blk W w.heap.size 105 (gv x).toArray) k (hk : k < 4) => h.gcell (k := k) (by omega))
  have HIT := hide (fun k (hk : k < 4) (h0 : eachE foE (x.drop k) = eachE foE x) (h : entB 1000000000 (kg x k) = false) => show eachE foE x = 2 from by
    have hl : k < x.length := by omega
    have h2 : foE x[k] = 2 := by rw [← kg_at hl]; unfold foE unlessE; rw [h]; rfl
    rw [← h0, eachE_hit foE x k hl (by rw [h2]; decide), h2])
  have HSK := hide (fun k (hk : k < 4) (h0 : eachE foE (x.drop k) = eachE foE x) (h : entB 1000000000 (kg x k) = true) => show eachE foE (x.drop (k + 1)) = eachE foE x from by
    have hl : k < x.length := by omega
    have h2 : foE x[k] = 0 := by rw [← kg_at hl]; unfold foE unlessE; rw [h]; rfl
    rw [← eachE_skip foE x k hl h2, h0])
  have HEND := hide (fun (h0 : eachE foE (x.drop 4) = eachE foE x) => show eachE foE x = 0 from by rw [← h0, List.drop_of_length_le (by omega)]; rfl)
  clear hx4
  go_enter Try.func72, Try.ntmps72
  go_wp2
  go_loopw [3] (fun i wr => ∃ k : Nat, k ≤ 4 ∧ i = .int .i64 k ∧ eachE foE (x.drop k) = eachE foE x ∧ Blk wr w.heap.size 105 (gv x).toArray ∧ Below w.heap.size w wr) (fun i _ => 4 - (intOf i).toNat)
  case atStart => exact ⟨0, by omega, rfl, rfl, Blk.new w 105 _, by go_grown⟩
  case round =>
    obtain ⟨k, hk, rfl, he, hB, hbel⟩ := hrel
    have HB := hide (stay_blk hB)
    have HBE := hide (stay_below hbel)
    by_cases hlt : k < 4
    · have hd : decide ((k : Int) < 4) = true := by rw [decide_eq_true_iff]; omega
      obtain ⟨c0, c1⟩ := HCC.out wr hB k hlt
      have HIS := hide (fun W => isEntry_ref (kg x k) 1000000000 W (by omega) (by omega))
      have hit := HIT.out k hlt he
      have hsk := HSK.out k hlt he
      obtain ⟨z, hz⟩ : ∃ z, kg x k = z := ⟨_, rfl⟩
      rw [hz] at HIS hit hsk c0 c1
      have HI := hide hit
      have HS := hide hsk
      clear hB hbel he hit hsk HIT HSK HEND HCC hz
      cases hb2 : entB 1000000000 z
      · have HF := hide (HI.out hb2)
        rw [hb2] at HIS
        clear hb2
        go_wp2_with (go_at_call 104; go_must (refine (HIS.out _).mono ?_; rintro e w2 ⟨rfl, hb⟩; replace HBE := hide (HBE.out.step hb); clear hb; simp only []))
        go_ret
        exact ⟨by rw [HF.out]; rfl, HBE.out.now⟩
      · have HN := hide (HS.out hb2)
        rw [hb2] at HIS
        clear hb2
        go_wp2_with (go_at_call 104; go_must (refine (HIS.out _).mono ?_; rintro e w2 ⟨rfl, hb⟩; replace HB := hide (HB.out.step hb); replace HBE := hide (HBE.out.step hb); clear hb; simp only []))
        go_roundw
        case rel => exact ⟨k + 1, by omega, by go_num, HN.out, HB.out.now, HBE.out.now⟩
        case measure => simp [intOf]; omega
    · have hd : decide ((k : Int) < 4) = false := by rw [decide_eq_false_iff_not]; omega
      obtain rfl : k = 4 := by omega
      have HF := hide (HEND.out he)
      clear he hB hbel
      go_wp2
      go_ret
      exact ⟨by rw [HF.out]; rfl, HBE.out.now⟩
theorem pw_cle (j : Nat) : cle 1000000000 (pw j) := by have := pw_bd j; unfold cle; omega
theorem pw_is (k n : Nat) (hk : k < 4) (hn : n < 4) : (-(k : Int) * (n : Int)) % 4 = (((4 - n * k % 4) % 4 : Nat) : Int) ∧ ((n : Int) * (k : Int)) % 4 = ((n * k % 4 : Nat) : Int) := by
  have h : ∀ k : Nat, k < 4 → ∀ n : Nat, n < 4 → (decide ((-(k : Int) * (n : Int)) % 4 = (((4 - n * k % 4) % 4 : Nat) : Int) ∧ ((n : Int) * (k : Int)) % 4 = ((n * k % 4 : Nat) : Int))) = true := by decide
  exact of_decide_eq_true (h k hk n hn)
theorem kg_foL (x : List (Int × Int)) (s : Bool) (k : Nat) (hk : k < 4) : kg (foL x s) k = fo x s k 4 := by
  match k, hk with
  | 0, _ => rfl
  | 1, _ => rfl
  | 2, _ => rfl
  | 3, _ => rfl
theorem cle_mono {m n : Int} {z : Int × Int} (h : cle m z) (hm : m ≤ n) : cle n z := by unfold cle at *; omega
set_option maxRecDepth 100000 in
set_option maxHeartbeats 8000000 in
theorem FourBack_ref (x : List (Int × Int)) (w : World) (hx4 : x.length = 4) (hx : eachE foE x = 0) :
    Calls Try.prog 73 #[.agg (gv x).toArray] w fun e w' => e = .returned (fbOut (foL x false)) ∧ Below w.heap.size w w' := by
  have HK9 := hide (kg9 hx)
  have HFL := hide (fun k (hk : k < 5) i (hi : i < 5) => cle_mono (fo_le (kg9 hx) false k hk i hi) (show (i : Int) * 2000000000 ≤ 1000000000000000000 by omega))
  have HCC := hide (fun W (h : Blk W w.heap.size 105 (gv x).toArray) k (hk : k < 4) => h.gcell (k := k) (by omega))
  have HSTEP := hide (show ∀ k n, n < 4 → k < 4 → fo x false k (n + 1) = cadd (fo x false k n) (cmul (kg x n) (pw ((4 - n * k % 4) % 4))) from fun k n hn hk => by rw [← (cp_pw k n hk hn).2]; rfl)
  have HKG := hide (fun k (hk : k < 4) => kg_foL x false k hk)
  have HLE := hide (fun k (hk : k < 4) => show cle 8000000000 (kg (foL x false) k) from by rw [kg_foL x false k hk]; exact fo_le8 hx false k hk)
  have HLEN := hide (show (foL x false).length = 4 from rfl)
  obtain ⟨R, hR⟩ : ∃ R, foL x false = R := ⟨_, rfl⟩
  rw [hR] at HKG HLE HLEN
  rw [hR]
  have HMAP := hide (fun k (hk : k < R.length) => show (R.take (k + 1)).map fbV = (R.take k).map fbV ++ [fbV (kg R k)] by rw [List.take_succ_eq_append_getElem hk, List.map_append, kg_at hk]; rfl)
  have HMLEN := hide (fun k (hk : k < R.length) => show ((R.take k).map fbV).length = k by simp; omega)
  have HNOT := hide (fun k (hk : k < R.length) (h1 : fbB (kg R k) = false) => all_not4 fbB R k hk h1)
  have HALL := hide (fun k (hk : k < R.length) (h0 : (R.take k).all fbB = true) (h1 : fbB (kg R k) = true) => all_take4 fbB R k hk h0 h1)
  clear hx4 hx hR
  go_enter Try.func73, Try.ntmps73
  go_wp2
  go_loopw [5] (fun i wr => ∃ k : Nat, k ≤ 4 ∧ i = .int .i64 k ∧ (R.take k).all fbB = true ∧ Blk wr w.heap.size 105 (gv x).toArray ∧ Blk wr (w.heap.size + 1) 105 (garr [] 4) ∧ Blk wr (w.heap.size + 2) 105 (garr ((R.take k).map fbV) 4) ∧ Below w.heap.size w wr) (fun i _ => 4 - (intOf i).toNat)
  case atStart =>
    refine ⟨0, by omega, rfl, rfl, ((Blk.new w 105 (gv x).toArray).alloc _).alloc _, ?_, ?_, by go_grown⟩
    · exact (Blk.newN (w.alloc (.cells (gv x).toArray 105)) 105 (garr [] 4) (by simp)).alloc _
    · exact Blk.newN ((w.alloc (.cells (gv x).toArray 105)).alloc (.cells (garr [] 4) 105)) 105 (garr [] 4) (by simp)
  case round =>
    obtain ⟨k, hk, rfl, hall, hX, hR, hG, hbel⟩ := hrel
    have hGl := hG.lt
    by_cases hlt : k < 4
    · have hd : decide ((k : Int) < 4) = true := by rw [decide_eq_true_iff]; omega
      have hkl : k < R.length := by rw [HLEN.out]; exact hlt
      have HX := hide (stay_blk hX)
      have HRR := hide (stay_blk hR)
      have HGG := hide (stay_blk (show Blk wr (w.heap.size + 2) 105 (garr ((R.take k).map fbV ++ [(0, 0)]) 4) by rw [garr_zero _ _ (by rw [HMLEN.out k hkl]; omega)]; exact hG))
      have HBE := hide (stay_below hbel)
      have HAL0 := hide hall
      clear hX hR hG hbel hall
      go_wp2
      obtain ⟨wo, rfl⟩ : ∃ wo : World, wo = wr := ⟨_, rfl⟩
      go_loopw [7] (fun i wr => ∃ n : Nat, n ≤ 4 ∧ i = .int .i64 n ∧ Blk wr wo.heap.size 30 #[.int .i64 (fo x false k n).1, .int .i64 (fo x false k n).2] ∧ Below wo.heap.size wo wr) (fun i _ => 4 - (intOf i).toNat)
      case atStart => exact ⟨0, Nat.zero_le _, rfl, Blk.new wo 30 _, by go_grown⟩
      case round =>
        obtain ⟨n, hn, rfl, hS, hbo⟩ := hrel
        have hboz := hbo.size
        have hSl := hS.lt
        by_cases hlt2 : n < 4
        · have hd2 : decide ((n : Int) < 4) = true := by rw [decide_eq_true_iff]; omega
          have hXw : Blk wr w.heap.size 105 (gv x).toArray := HX.out wr hbo
          have HXC := hide (fun W (h : Blk W w.heap.size 105 (gv x).toArray) => HCC.out W h n hlt2)
          have hst := HSTEP.out k n hlt2 hlt
          have hle := HFL.out k (by omega) n (by omega)
          have hk9 := HK9.out n
          obtain ⟨K, hK⟩ : ∃ K, (4 - n * k % 4) % 4 = K := ⟨_, rfl⟩
          have hpi := (pw_is k n hlt hlt2).1
          rw [hK] at hst hpi
          have hK4 : K < 4 := by rw [← hK]; exact Nat.mod_lt _ (by decide)
          have hpc := pw_cle K
          obtain ⟨m1, m2⟩ := mul_le_size (a := -(k : Int)) (b := (n : Int)) (m := 4) (n := 4) (by omega) (by omega) (by omega) (by omega)
          have HPW := hide (fun (e : Int) (he : e = -(k : Int) * (n : Int)) W => he ▸ power_refZ (-(k : Int) * (n : Int)) K hK4 hpi (by omega) (by omega) W)
          obtain ⟨z, hz⟩ : ∃ z, kg x n = z := ⟨_, rfl⟩
          rw [hz] at hst hk9 HXC
          have HGM := hide (fun W => gmul_big z (pw K) W hk9 hpc)
          obtain ⟨P, hP⟩ : ∃ P, pw K = P := ⟨_, rfl⟩
          rw [hP] at hst hpc HPW HGM
          obtain ⟨S, hS2⟩ : ∃ S, fo x false k n = S := ⟨_, rfl⟩
          rw [hS2] at hS hst hle
          have hcm : cle 1000000000000000000 (cmul z P) := by
            unfold cle cmul at *
            have q := pw_bd K
            rw [hP] at q
            obtain ⟨p1, q1⟩ := mul_bd2 hk9.1 hk9.2.1 q.1 q.2.1
            obtain ⟨p2, q2⟩ := mul_bd2 hk9.2.2.1 hk9.2.2.2 q.2.2.1 q.2.2.2
            obtain ⟨p3, q3⟩ := mul_bd2 hk9.1 hk9.2.1 q.2.2.1 q.2.2.2
            obtain ⟨p4, q4⟩ := mul_bd2 hk9.2.2.1 hk9.2.2.2 q.1 q.2.1
            dsimp only
            omega
          obtain ⟨M, hM⟩ : ∃ M, cmul z P = M := ⟨_, rfl⟩
          rw [hM] at hst HGM hcm
          have HGD := hide (fun W => gadd_big S M W hle hcm)
          obtain ⟨N, hN⟩ : ∃ N, cadd S M = N := ⟨_, rfl⟩
          rw [hN] at hst HGD
          have HST := hide hst
          have g1 : IntKind.i64.wrap (-(k : Int)) = -(k : Int) := IntWalk.i64_in _ (by omega)
          have g2 : IntKind.i64.wrap (-(k : Int) * (n : Int)) = -(k : Int) * (n : Int) := IntWalk.i64_in _ (by omega)
          have g3 : (0 : Int) ≤ (n : Int) := by omega
          have g4 : (n : Int) < 4 := by omega
          have HH0 : Hid (Blk wr.drew w.heap.size 105 (gv x).toArray ∧ Blk wr.drew wo.heap.size 30 #[.int .i64 S.1, .int .i64 S.2] ∧ Below wo.heap.size wo wr.drew) := hide ⟨hXw, hS, below_drewN hbo 1⟩
          clear hz hP hM hN hS2 hS hXw hst hle hk9 hpc hcm hpi hK hK4 HK9 HFL HCC HSTEP HKG HLE HMAP HMLEN HNOT HALL
          go_wp2
          refine UpTo.start (z := 11) (S := fun w' => Blk w' w.heap.size 105 (gv x).toArray ∧ Blk w' wo.heap.size 30 #[.int .i64 S.1, .int .i64 S.2] ∧ Below wo.heap.size wo w') (by kernel_rfl) ?_
          refine UpTo.take (i := 0) 16 (v := .agg #[.int .i64 S.1, .int .i64 S.2]) rfl rfl (by kernel_rfl) (by kernel_rfl) (by kernel_rfl) (by kernel_rfl) (fun _ _ _ h => h) HH0.out (Or.inl ⟨by rfl, by intro w hSw; have q1 := hSw.2.1.cell 0; have q2 := hSw.2.1.cell 1; go_simp⟩) ?_
          try simp only [Act.put, List.setIfInBounds_toArray, List.set_cons_zero, List.set_cons_succ]
          refine UpTo.take (i := 1) 17 (v := .int .i64 (n : Int)) rfl rfl (by kernel_rfl) (by kernel_rfl) (by kernel_rfl) (by kernel_rfl) (fun _ _ _ h => h) HH0.out (Or.inl ⟨by rfl, by intro w hSw; go_simp⟩) ?_
          try simp only [Act.put, List.setIfInBounds_toArray, List.set_cons_zero, List.set_cons_succ]
          refine UpTo.take (i := 2) 18 (v := .pointer (some ⟨w.heap.size, n * 2, none⟩)) rfl rfl (by kernel_rfl) (by kernel_rfl) (by kernel_rfl) (by kernel_rfl) (fun _ _ _ h => h) HH0.out (Or.inl ⟨by rfl, by intro w hSw; go_simp⟩) ?_
          try simp only [Act.put, List.setIfInBounds_toArray, List.set_cons_zero, List.set_cons_succ]
          refine UpTo.take (i := 3) 19 (v := .agg #[.int .i64 z.1, .int .i64 z.2]) rfl rfl (by kernel_rfl) (by kernel_rfl) (by kernel_rfl) (by kernel_rfl) (fun _ _ _ h => h) HH0.out (Or.inl ⟨by rfl, by intro w hSw; obtain ⟨q0, q1⟩ := HXC.out _ hSw.1; go_simp⟩) ?_
          try simp only [Act.put, List.setIfInBounds_toArray, List.set_cons_zero, List.set_cons_succ]
          refine UpTo.take (i := 4) 20 (v := .int .i64 (k : Int)) rfl rfl (by kernel_rfl) (by kernel_rfl) (by kernel_rfl) (by kernel_rfl) (fun _ _ _ h => h) HH0.out (Or.inl ⟨by rfl, by intro w hSw; go_simp⟩) ?_
          try simp only [Act.put, List.setIfInBounds_toArray, List.set_cons_zero, List.set_cons_succ]
          refine UpTo.take (i := 5) 21 (v := .int .i64 (-(k : Int))) rfl rfl (by kernel_rfl) (by kernel_rfl) (by kernel_rfl) (by kernel_rfl) (fun _ _ _ h => h) HH0.out (Or.inl ⟨by rfl, by intro w hSw; go_simp⟩) ?_
          try simp only [Act.put, List.setIfInBounds_toArray, List.set_cons_zero, List.set_cons_succ]
          refine UpTo.take (i := 6) 22 (v := .int .i64 (n : Int)) rfl rfl (by kernel_rfl) (by kernel_rfl) (by kernel_rfl) (by kernel_rfl) (fun _ _ _ h => h) HH0.out (Or.inl ⟨by rfl, by intro w hSw; go_simp⟩) ?_
          try simp only [Act.put, List.setIfInBounds_toArray, List.set_cons_zero, List.set_cons_succ]
          refine UpTo.take (i := 7) 23 (v := .int .i64 (-(k : Int) * (n : Int))) rfl rfl (by kernel_rfl) (by kernel_rfl) (by kernel_rfl) (by kernel_rfl) (fun _ _ _ h => h) HH0.out (Or.inl ⟨by rfl, by intro w hSw; go_simp⟩) ?_
          try simp only [Act.put, List.setIfInBounds_toArray, List.set_cons_zero, List.set_cons_succ]
          refine UpTo.next (i := 8) (by kernel_rfl) rfl (fun K hK => ?_)
          go_simp
          refine (HPW.out _ (by first | rfl | (simp; done) | grind) _).mono ?_
          rintro e v1 ⟨rfl, hb⟩
          have HH1 := hide (show (fun w' => Blk w' w.heap.size 105 (gv x).toArray ∧ Blk w' wo.heap.size 30 #[.int .i64 S.1, .int .i64 S.2] ∧ Below wo.heap.size wo w') v1 from ⟨HH0.out.1.below hb HH0.out.1.lt, HH0.out.2.1.below hb HH0.out.2.1.lt, Below.step HH0.out.2.2 hb⟩)
          clear hb
          simp only []
          refine hK.out _ _ (fun _ => HH1.out) ?_
          clear hK K
          try simp only [Act.put, List.setIfInBounds_toArray, List.set_cons_zero, List.set_cons_succ]
          refine UpTo.next (i := 9) (by kernel_rfl) rfl (fun K hK => ?_)
          go_simp
          refine (HGM.out _).mono ?_
          rintro e v2 ⟨rfl, hb⟩
          have HH2 := hide (show (fun w' => Blk w' w.heap.size 105 (gv x).toArray ∧ Blk w' wo.heap.size 30 #[.int .i64 S.1, .int .i64 S.2] ∧ Below wo.heap.size wo w') v2 from ⟨HH1.out.1.below hb HH1.out.1.lt, HH1.out.2.1.below hb HH1.out.2.1.lt, Below.step HH1.out.2.2 hb⟩)
          clear hb
          simp only []
          refine hK.out _ _ (fun _ => HH2.out) ?_
          clear hK K
          try simp only [Act.put, List.setIfInBounds_toArray, List.set_cons_zero, List.set_cons_succ]
          refine UpTo.next (i := 10) (by kernel_rfl) rfl (fun K hK => ?_)
          go_simp
          refine (HGD.out _).mono ?_
          rintro e v6 ⟨rfl, hb⟩
          have HH6 := hide (show (fun w' => Blk w' w.heap.size 105 (gv x).toArray ∧ Blk w' wo.heap.size 30 #[.int .i64 S.1, .int .i64 S.2] ∧ Below wo.heap.size wo w') v6 from ⟨HH2.out.1.below hb HH2.out.1.lt, HH2.out.2.1.below hb HH2.out.2.1.lt, Below.step HH2.out.2.2 hb⟩)
          clear hb
          simp only []
          refine hK.out _ _ (fun _ => HH6.out) ?_
          clear hK K
          try simp only [Act.put, List.setIfInBounds_toArray, List.set_cons_zero, List.set_cons_succ]
          have u0 := HH6.out.2.1.cell 0
          have u1 := HH6.out.2.1.cell 1
          have f0 := HH6.out.2.1.frozen 0
          have f1 := HH6.out.2.1.frozen 1
          have hz6 := HH6.out.2.2.size
          refine UpTo.next (i := 11) (by kernel_rfl) rfl (fun K hK => ?_)
          go_simp
          refine hK.out _ _ (fun h => absurd rfl h) ?_
          clear hK K
          refine UpTo.done (by kernel_rfl) ?_ _
          have b6 := HH6.out.2.2
          go_wp2
          go_roundw
          case rel => exact ⟨n + 1, by omega, by go_num, by rw [HST.out]; exact (HH6.out.2.1.set_ 0 _).set_ 1 _, by go_grown⟩
          case measure => simp [intOf]; omega
        · have hd2 : decide ((n : Int) < 4) = false := by rw [decide_eq_false_iff_not]; omega
          obtain rfl : n = 4 := by omega
          rw [← HKG.out k hlt] at hS
          have hkl : k < R.length := by rw [HLEN.out]; exact hlt
          have hle := HLE.out k hlt
          have hmap := HMAP.out k hkl
          have hml := HMLEN.out k hkl
          have hnot := HNOT.out k hkl
          have hal := HALL.out k hkl HAL0.out
          obtain ⟨⟨y0, y1⟩, hy⟩ : ∃ y, kg R k = y := ⟨_, rfl⟩
          rw [hy] at hS hle hmap hnot hal
          unfold cle at hle
          dsimp only at hS hle
          obtain ⟨l0, l0', l1, l1'⟩ := hle
          have hsp := fb_cases y0 y1
          obtain ⟨t1, t2⟩ := tmod4_bd y0
          obtain ⟨t3, t4⟩ := tmod4_bd y1
          obtain ⟨t5, t6⟩ := tdiv4_bd l0 l0'
          obtain ⟨t7, t8⟩ := tdiv4_bd l1 l1'
          have HMP := hide hmap
          have HML := hide hml
          have HND := hide hnot
          have HAL := hide hal
          have HFBV := hide (show fbV (y0, y1) = (y0.tdiv 4, y1.tdiv 4) from rfl)
          obtain ⟨r0, hr0⟩ : ∃ r, y0.tmod 4 = r := ⟨_, rfl⟩
          obtain ⟨r2, hr2⟩ : ∃ r, y1.tmod 4 = r := ⟨_, rfl⟩
          obtain ⟨q0, hq0⟩ : ∃ r, y0.tdiv 4 = r := ⟨_, rfl⟩
          obtain ⟨q2, hq2⟩ : ∃ r, y1.tdiv 4 = r := ⟨_, rfl⟩
          rw [hr0] at t1 t2 hsp
          rw [hr2] at t3 t4 hsp
          rw [hq0] at t5 t6 HFBV
          rw [hq2] at t7 t8 HFBV
          replace HX := hide (HX.out.step hbo)
          replace HRR := hide (HRR.out.step hbo)
          replace HGG := hide (HGG.out.step hbo)
          replace HBE := hide (HBE.out.step hbo)
          have HBW := hide HBE.out.now
          have hbz := HBW.out.size
          have d0 := hS.cell 0
          have d1 := hS.cell 1
          obtain ⟨u0, u1, f0, f1⟩ := HGG.out.now.ga2 HML.out
          obtain ⟨sb, hsb⟩ : ∃ sb, wo.heap.size = sb := ⟨_, rfl⟩
          rw [hsb] at d0 d1
          rw [hsb]
          clear hy hmap hml hnot hal HLE HMAP HMLEN HNOT HALL hkl HK9 HFL HCC HSTEP HKG hS HAL0 hbo hboz hSl hsb
          rcases hsp with ⟨h1, hB⟩ | ⟨h1, h2, hB⟩ | ⟨h1, h2, hB⟩
          · have HF := hide (fbOut_bad (HND.out hB))
            clear hB HND HAL
            go_wp2_with (refine wpList_store_row rfl 105 (.tmp 2) (.tmp 37) rfl (w.heap.size + 1) (garr [] 4) rfl rfl 105 (garr [] 4) HRR.out.now (by kernel_rfl) (by kernel_rfl) (garr_one _ _) ?_)
            exact bodyPost_ret (results_row_tmp rfl _ _ (w.heap.size + 1) 105 (garr [] 4) _ (.int .i64 3) rfl rfl (HRR.out.now.row (garr [] 4)) Try.underlying105 rfl (by kernel_rfl)) rfl ⟨by rw [HF.out], Below.row HBW.out (by omega) _⟩
          · have HF := hide (fbOut_bad (HND.out hB))
            clear hB HND HAL
            go_wp2_with (refine wpList_store_row rfl 105 (.tmp 2) (.tmp 37) rfl (w.heap.size + 1) (garr [] 4) rfl rfl 105 (garr [] 4) HRR.out.now (by kernel_rfl) (by kernel_rfl) (garr_one _ _) ?_)
            exact bodyPost_ret (results_row_tmp rfl _ _ (w.heap.size + 1) 105 (garr [] 4) _ (.int .i64 3) rfl rfl (HRR.out.now.row (garr [] 4)) Try.underlying105 rfl (by kernel_rfl)) rfl ⟨by rw [HF.out], Below.row HBW.out (by omega) _⟩
          · have HAL2 := hide (HAL.out hB)
            clear hB HND HAL
            have g3 : (0 : Int) ≤ (k : Int) := by omega
            have g4 : (k : Int) < 4 := by omega
            go_wp2
            go_roundw
            case rel =>
              refine ⟨k + 1, by omega, by go_num, HAL2.out, ?_, ?_, ?_, by have hb9 := HBW.out; go_grown⟩
              · exact (HX.out.now.far (p := ⟨w.heap.size + 1 + 1, k * 2, none⟩) (by show w.heap.size ≠ w.heap.size + 1 + 1; omega) (.int .i64 q0)).far (p := ⟨w.heap.size + 1 + 1, k * 2 + 1, none⟩) (by show w.heap.size ≠ w.heap.size + 1 + 1; omega) (.int .i64 q2)
              · exact (HRR.out.now.far (p := ⟨w.heap.size + 1 + 1, k * 2, none⟩) (by show w.heap.size + 1 ≠ w.heap.size + 1 + 1; omega) (.int .i64 q0)).far (p := ⟨w.heap.size + 1 + 1, k * 2 + 1, none⟩) (by show w.heap.size + 1 ≠ w.heap.size + 1 + 1; omega) (.int .i64 q2)
              · have := (HGG.out.now.set_ (k * 2) (.int .i64 q0)).set_ (k * 2 + 1) (.int .i64 q2)
                rw [garr_upd _ 4 k (0, 0) (q0, q2) HML.out, ← HFBV.out, ← HMP.out] at this
                exact this
            case measure => simp [intOf]; omega
    · have hd : decide ((k : Int) < 4) = false := by rw [decide_eq_false_iff_not]; omega
      obtain rfl : k = 4 := by omega
      rw [show R.take 4 = R from List.take_of_length_le (by rw [HLEN.out]; omega)] at hall hG
      have hsz := garr_size (R.map fbV) 4 (by rw [List.length_map, HLEN.out]; omega)
      have hone := garr_one (R.map fbV) 4
      have hout := fbOut_good hall
      obtain ⟨cs, hcs⟩ : ∃ cs, garr (R.map fbV) 4 = cs := ⟨_, rfl⟩
      rw [hcs] at hG hsz hone hout
      have HOUT := hide hout
      have HSZ := hide hsz
      have HGX := hide hG
      have HRR := hide hR
      clear hcs hsz hG hR hX hall hout HLE HMAP HMLEN HNOT HALL HK9 HFL HCC HSTEP HKG
      go_wp2_with (first
        | (refine wpList_load_row rfl 105 (.tmp 4) rfl (w.heap.size + 2) rfl 105 cs (0, 0) _ HGX.out Try.underlying105 rfl (by rw [HSZ.out]; kernel_rfl) ?_)
        | (refine wpList_store_row rfl 105 (.tmp 2) (.tmp 47) rfl (w.heap.size + 1) cs rfl rfl 105 (garr [] 4) HRR.out (by rw [HSZ.out]; kernel_rfl) (by rw [HSZ.out]; rfl) hone ?_))
      exact bodyPost_ret (results_row_tmp rfl _ _ (w.heap.size + 1) 105 cs _ (.int .i64 0) rfl rfl (HRR.out.row cs) Try.underlying105 rfl (by rw [HSZ.out]; kernel_rfl)) rfl ⟨by rw [HOUT.out], Below.row hbel (by omega) _⟩
end Go.Proofs.Ythfmjohbokpceaa
