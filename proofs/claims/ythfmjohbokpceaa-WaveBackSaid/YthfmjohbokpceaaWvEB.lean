import Derived.Test.YthfmjohbokpceaaWvEA
namespace Go.Proofs.Ythfmjohbokpceaa
open Go.RowKit Go.WideShapes Go.ChangeShapes

/-! samples of entries, the transform of samples (program) -/
set_option maxRecDepth 100000 in
set_option maxHeartbeats 8000000 in
theorem samples_wave (x : List (Int × Int)) (w : World) (hx8 : x.length = 8) (hx : ∀ z ∈ x, entE z = 0) :
    Calls Try.prog 158 #[.agg (gv x).toArray] w fun e w' => e = .returned (.agg (nvs (smpL x 8)).toArray) ∧ Below w.heap.size w w' := by
  have HLE := hide (ssum_le hx)
  have HKG := hide (kg_le hx)
  have HIX := hide (fun j (hj : j < 8) W => idx_gauss 137 8 x j Try.underlying137 hj hx8 W)
  have HSZX := hide (show (gv x).toArray.size = 16 by simp [gv_len, hx8])
  have HSTEP := hide (show ∀ n k, ssum x n (k + 1) = nadd (ssum x n k) (tni (ent (kg x k)) ((k : Int) * (n : Int))) from fun _ _ => rfl)
  have HFULL := hide (show ∀ n, smpL x (n + 1) = smpL x n ++ [ssum x n 8] from fun n => tab_succ _ n)
  have HLEN := hide (show ∀ n, (smpL x n).length = n from fun n => tab_len _ n)
  have HR0 := hide (show smpL x 0 = [] from rfl)
  have HEND := hide (numArr_full (smpL x 8) 8 (tab_len _ 8))
  obtain ⟨X, hX⟩ : ∃ X, (gv x).toArray = X := ⟨_, rfl⟩
  rw [hX] at HIX HSZX
  rw [hX]
  clear hx8 hx hX
  go_enter Try.func158, Try.ntmps158
  go_wp2
  go_loopw [8] (fun i wr => ∃ k : Nat, k ≤ 8 ∧ i = .int .i64 k ∧ Blk wr w.heap.size 137 X ∧ Blk wr (w.heap.size + 1) 96 (numArr [] 8) ∧ Blk wr (w.heap.size + 2) 96 (numArr (smpL x k) 8) ∧ Below w.heap.size w wr) (fun i _ => 8 - (intOf i).toNat)
  case atStart =>
    refine ⟨0, by omega, rfl, ((Blk.new w 137 X).alloc _).alloc _, ?_, ?_, by go_grown⟩
    · exact (Blk.newN (w.alloc (.cells X 137)) 96 (numArr [] 8) (by simp)).alloc _
    · rw [HR0.out]; exact Blk.newN ((w.alloc (.cells X 137)).alloc (.cells (numArr [] 8) 96)) 96 (numArr [] 8) (by simp)
  case round =>
    obtain ⟨k, hk, rfl, hB, hR, hO, hbel⟩ := hrel
    by_cases hlt : k < 8
    · have hd : decide ((k : Int) < 8) = true := by rw [decide_eq_true_iff]; omega
      have HBX := hide hB
      have HR := hide hR
      have HO := hide hO
      have hbz := hbel.size
      have hly := hO.lt
      clear hB hR hO
      go_wp2_with (refine wpList_load_row rfl 137 (.tmp 1) rfl w.heap.size rfl 137 X (0, 0) _ (by exact HBX.out.alloc _) Try.underlying137 rfl (by rw [HSZX.out]; kernel_rfl) ?_)
      obtain ⟨wo, rfl⟩ : ∃ wo : World, wo = wr := ⟨_, rfl⟩
      go_loopw [12] (fun i wr => ∃ j : Nat, j ≤ 8 ∧ i = .int .i64 j ∧ Blk wr wo.heap.size 162 (ncells (ssum x k j)) ∧ Below wo.heap.size wo wr) (fun i _ => 8 - (intOf i).toNat)
      case atStart => exact ⟨0, Nat.zero_le _, rfl, Blk.new wo 162 (ncells n0), by go_grown⟩
      case round =>
        obtain ⟨j, hj, rfl, hT, hbo⟩ := hrel
        have hboz := hbo.size
        have hTl := hT.lt
        by_cases hlt2 : j < 8
        · have hd2 : decide ((j : Int) < 8) = true := by rw [decide_eq_true_iff]; omega
          have hix := HIX.out j hlt2
          have hst := HSTEP.out k j
          have hle := HLE.out k j
          have hkg := HKG.out j
          obtain ⟨⟨a, b⟩, hz⟩ : ∃ z, kg x j = z := ⟨_, rfl⟩
          rw [hz] at hix hst hkg
          dsimp only at hix hkg
          obtain ⟨S, hS⟩ : ∃ S, ssum x k j = S := ⟨_, rfl⟩
          rw [hS] at hT hst hle
          have hen := hide (nle_ent (m := 4000000000000000000) (g := (a, b)) (by dsimp only; omega))
          have hm1 := mul_le_size (a := (j : Int)) (b := (k : Int)) (m := 8) (n := 8) (by omega) (by omega) (by omega) (by omega)
          obtain ⟨m1, m2⟩ := hm1
          have HTN := hide (nle_tni hen.out ((j : Int) * (k : Int)))
          have HSL := hide (nle_mono hle (show (j : Int) * 10000 ≤ 4000000000000000000 by omega))
          have HTU := hide (fun (e : Int) (he : e = (j : Int) * (k : Int)) W => he ▸ turned_wave (ent (a, b)) ((j : Int) * (k : Int)) W hen.out (by omega) (by omega))
          have HST := hide hst
          have g2 : IntKind.i64.wrap ((j : Int) * (k : Int)) = (j : Int) * (k : Int) := IntWalk.i64_in _ (by omega)
          have HH0 : Hid (Blk (wr.alloc (.cells #[.int .i64 a, .int .i64 b] 30)).drew wo.heap.size 162 (ncells S) ∧ Blk (wr.alloc (.cells #[.int .i64 a, .int .i64 b] 30)).drew wr.heap.size 30 #[.int .i64 a, .int .i64 b] ∧ Below wo.heap.size wo (wr.alloc (.cells #[.int .i64 a, .int .i64 b] 30)).drew) := hide ⟨hT.alloc _, Blk.new wr _ _, (hbo.alloc hboz (.cells #[.int .i64 a, .int .i64 b] 30)).drew⟩
          clear hz hS hst hle hkg hT HSTEP HLE HKG HFULL HLEN HR0 HIX HEND
          go_wp2
          refine UpTo.start (z := 8) (S := fun w' => Blk w' wo.heap.size 162 (ncells S) ∧ Blk w' wr.heap.size 30 #[.int .i64 a, .int .i64 b] ∧ Below wo.heap.size wo w') (by kernel_rfl) ?_
          refine UpTo.take (i := 0) 16 (v := nv S) rfl rfl (by kernel_rfl) (by kernel_rfl) (by kernel_rfl) (by kernel_rfl) (fun _ _ _ h => h) HH0.out (Or.inl ⟨by rfl, by intro w hSw; obtain ⟨q0, q1, q2, q3, _, _, _, _⟩ := hSw.1.n4; go_simp⟩) ?_
          try simp only [Act.put, List.setIfInBounds_toArray, List.set_cons_zero, List.set_cons_succ]
          refine UpTo.take (i := 1) 17 (v := .agg #[.int .i64 a, .int .i64 b]) rfl rfl (by kernel_rfl) (by kernel_rfl) (by kernel_rfl) (by kernel_rfl) (fun _ _ _ h => h) HH0.out (Or.inl ⟨by rfl, by intro w hSw; have q1 : w.cell? ⟨wr.heap.size, 0, none⟩ = some (.int .i64 a) := hSw.2.1.cell 0; have q2 : w.cell? ⟨wr.heap.size, 1, none⟩ = some (.int .i64 b) := hSw.2.1.cell 1; go_simp⟩) ?_
          try simp only [Act.put, List.setIfInBounds_toArray, List.set_cons_zero, List.set_cons_succ]
          refine UpTo.take (i := 3) 19 (v := .int .i64 (j : Int)) rfl rfl (by kernel_rfl) (by kernel_rfl) (by kernel_rfl) (by kernel_rfl) (fun _ _ _ h => h) HH0.out (Or.inl ⟨by rfl, by intro w hSw; go_simp⟩) ?_
          try simp only [Act.put, List.setIfInBounds_toArray, List.set_cons_zero, List.set_cons_succ]
          refine UpTo.take (i := 4) 20 (v := .int .i64 (k : Int)) rfl rfl (by kernel_rfl) (by kernel_rfl) (by kernel_rfl) (by kernel_rfl) (fun _ _ _ h => h) HH0.out (Or.inl ⟨by rfl, by intro w hSw; go_simp⟩) ?_
          try simp only [Act.put, List.setIfInBounds_toArray, List.set_cons_zero, List.set_cons_succ]
          refine UpTo.take (i := 5) 21 (v := .int .i64 ((j : Int) * (k : Int))) rfl rfl (by kernel_rfl) (by kernel_rfl) (by kernel_rfl) (by kernel_rfl) (fun _ _ _ h => h) HH0.out (Or.inl ⟨by rfl, by intro w hSw; go_simp⟩) ?_
          try simp only [Act.put, List.setIfInBounds_toArray, List.set_cons_zero, List.set_cons_succ]
          refine UpTo.next (i := 2) (by kernel_rfl) rfl (fun K hK => ?_)
          go_simp
          refine (whole_wave (a, b) _).mono ?_
          rintro e v1 ⟨rfl, hb⟩
          have HH1 := hide (show (fun w' => Blk w' wo.heap.size 162 (ncells S) ∧ Blk w' wr.heap.size 30 #[.int .i64 a, .int .i64 b] ∧ Below wo.heap.size wo w') v1 from ⟨HH0.out.1.below hb HH0.out.1.lt, HH0.out.2.1.below hb HH0.out.2.1.lt, Below.step HH0.out.2.2 hb⟩)
          clear hb
          simp only []
          refine hK.out _ _ (fun _ => HH1.out) ?_
          clear hK K
          try simp only [Act.put, List.setIfInBounds_toArray, List.set_cons_zero, List.set_cons_succ]
          refine UpTo.next (i := 6) (by kernel_rfl) rfl (fun K hK => ?_)
          go_simp
          refine (HTU.out _ (by first | rfl | (simp; done) | grind) _).mono ?_
          rintro e v2 ⟨rfl, hb⟩
          have HH2 := hide (show (fun w' => Blk w' wo.heap.size 162 (ncells S) ∧ Blk w' wr.heap.size 30 #[.int .i64 a, .int .i64 b] ∧ Below wo.heap.size wo w') v2 from ⟨HH1.out.1.below hb HH1.out.1.lt, HH1.out.2.1.below hb HH1.out.2.1.lt, Below.step HH1.out.2.2 hb⟩)
          clear hb
          simp only []
          refine hK.out _ _ (fun _ => HH2.out) ?_
          clear hK K
          try simp only [Act.put, List.setIfInBounds_toArray, List.set_cons_zero, List.set_cons_succ]
          refine UpTo.next (i := 7) (by kernel_rfl) rfl (fun K hK => ?_)
          go_simp
          refine (plus_wave S _ _ HSL.out HTN.out).mono ?_
          rintro e v6 ⟨rfl, hb⟩
          have HH6 := hide (show (fun w' => Blk w' wo.heap.size 162 (ncells S) ∧ Blk w' wr.heap.size 30 #[.int .i64 a, .int .i64 b] ∧ Below wo.heap.size wo w') v6 from ⟨HH2.out.1.below hb HH2.out.1.lt, HH2.out.2.1.below hb HH2.out.2.1.lt, Below.step HH2.out.2.2 hb⟩)
          clear hb
          simp only []
          refine hK.out _ _ (fun _ => HH6.out) ?_
          clear hK K
          try simp only [Act.put, List.setIfInBounds_toArray, List.set_cons_zero, List.set_cons_succ]
          obtain ⟨u0, u1, u2, u3, f0, f1, f2, f3⟩ := HH6.out.1.n4
          have hz6 := HH6.out.2.2.size
          refine UpTo.next (i := 8) (by kernel_rfl) rfl (fun K hK => ?_)
          go_simp
          refine hK.out _ _ (fun h => absurd rfl h) ?_
          clear hK K
          refine UpTo.done (by kernel_rfl) ?_ _
          have b6 := HH6.out.2.2
          go_wp2
          go_roundw
          case rel => exact ⟨j + 1, by omega, by go_num, by rw [HST.out]; exact (((HH6.out.1.set_ 0 _).set_ 1 _).set_ 2 _).set_ 3 _, by go_grown⟩
          case measure => simp [intOf]; omega
        · have hd2 : decide ((j : Int) < 8) = false := by rw [decide_eq_false_iff_not]; omega
          have hj8 : j = 8 := by omega
          have hT' : Blk wr wo.heap.size 162 (ncells (ssum x k 8)) := by rw [← hj8]; exact hT
          have hfull := HFULL.out k
          obtain ⟨Y, hY⟩ : ∃ Y, ssum x k 8 = Y := ⟨_, rfl⟩
          rw [hY] at hT' hfull
          have hlen := HLEN.out k
          have hset := numArr_set (smpL x k) 8 Y (by omega)
          rw [hlen, ← hfull] at hset
          have HSET := hide hset
          have HSZ := hide (numArr_size (smpL x k) 8 (by omega))
          have HO1 := hide (HO.out.below hbo hly)
          have HR1 := hide (HR.out.below hbo HR.out.lt)
          have HB1 := hide (HBX.out.below hbo HBX.out.lt)
          obtain ⟨y0, y1, y2, y3, _, _, _, _⟩ := hT'.n4
          have HTO := hide (fun W => told_wave Y W)
          have hbo1 := Below.step hbel hbo
          have HBE := hide hbo1
          clear hY hfull hset hlen hT hT' hj8 hbo1 HSTEP HLE HKG HFULL HLEN HR0 HIX HEND
          go_wp2_with (go_at_call 129; go_must (refine (HTO.out _).mono ?_; rintro e w2 ⟨rfl, hb2⟩; have c2 : Below w.heap.size w w2 := Below.step HBE.out hb2; have HO2 := hide (HO1.out.below hb2 HO1.out.lt); have HR2 := hide (HR1.out.below hb2 HR1.out.lt); have HB2 := hide (HB1.out.below hb2 HB1.out.lt); have hl2 := HO2.out.lt; have v0 := HO2.out.cell (k * 4); have v1 := HO2.out.cell (k * 4 + 1); have v2 := HO2.out.cell (k * 4 + 2); have v3 := HO2.out.cell (k * 4 + 3); rw [Array.getElem?_eq_getElem (by rw [HSZ.out]; omega)] at v0 v1 v2 v3; have f0 := HO2.out.frozen (k * 4); have f1 := HO2.out.frozen (k * 4 + 1); have f2 := HO2.out.frozen (k * 4 + 2); have f3 := HO2.out.frozen (k * 4 + 3); clear hb2; simp only []))
          go_roundw
          case rel =>
            refine ⟨k + 1, by omega, by go_num, ?_, ?_, ?_, by go_grown⟩
            · exact (((HB2.out.far (by first | omega | (simp; done) | (simp; omega)) _).far (by first | omega | (simp; done) | (simp; omega)) _).far (by first | omega | (simp; done) | (simp; omega)) _).far (by first | omega | (simp; done) | (simp; omega)) _
            · exact (((HR2.out.far (by first | omega | (simp; done) | (simp; omega)) _).far (by first | omega | (simp; done) | (simp; omega)) _).far (by first | omega | (simp; done) | (simp; omega)) _).far (by first | omega | (simp; done) | (simp; omega)) _
            · have := (((HO2.out.set_ (k * 4) (.int .i64 Y.1)).set_ (k * 4 + 1) (.int .i64 Y.2.1)).set_ (k * 4 + 2) (.int .i64 Y.2.2.1)).set_ (k * 4 + 3) (.int .i64 Y.2.2.2)
              rw [HSET.out] at this
              exact this
          case measure => simp [intOf]; omega
    · have hd : decide ((k : Int) < 8) = false := by rw [decide_eq_false_iff_not]; omega
      have hk8 : k = 8 := by omega
      rw [hk8] at hO
      have hsz := numArr_size (smpL x 8) 8 (by rw [HLEN.out]; omega)
      have hone := numArr_one (smpL x 8) 8
      rw [HEND.out] at hO hsz hone
      obtain ⟨cs, hcs⟩ : ∃ cs, (nvs (smpL x 8)).toArray = cs := ⟨_, rfl⟩
      rw [hcs] at hO hsz hone
      have HCS := hide hcs
      have HSZ := hide hsz
      have HO := hide hO
      have HR := hide hR
      clear hk8 hcs hsz hO hR hB HSTEP HLE HKG HFULL HLEN HR0 HIX HEND
      go_wp2_with (first
        | (refine wpList_load_row rfl 96 (.tmp 3) rfl (w.heap.size + 2) rfl 96 cs (0, 0) _ HO.out Try.underlying96 rfl (by rw [HSZ.out]; kernel_rfl) ?_)
        | (refine wpList_store_row rfl 96 (.tmp 2) (.tmp 30) rfl (w.heap.size + 1) cs rfl rfl 96 (numArr [] 8) HR.out (by rw [HSZ.out]; kernel_rfl) (by rw [HSZ.out]; rfl) hone ?_))
      exact bodyPost_ret (results_cell_row rfl _ _ (w.heap.size + 1) 96 cs (0, 0) _ rfl (HR.out.row cs) Try.underlying96 rfl (by rw [HSZ.out]; kernel_rfl)) rfl ⟨by rw [HCS.out], Below.row hbel (by omega) _⟩
set_option maxRecDepth 100000 in
set_option maxHeartbeats 8000000 in
theorem transform_wave (x : List Nm) (w : World) (hx8 : x.length = 8) (hx : ∀ z ∈ x, nle 1000000000 z) :
    Calls Try.prog 160 #[.agg (nvs x).toArray] w fun e w' => ∃ C q, e = .returned (.slice C 8 q) ∧ w'.ownsRow w.heap.size 162 4 (.slice C 8 q) 8 (nvs (trL x 8)) ∧ Below w.heap.size w w' := by
  obtain ⟨i0, hi0, hz0, hz1, hz2⟩ := info_parts nu_info
  have HLE := hide (tsm_le hx)
  have HKN := hide (kn_le' (by omega : (0 : Int) ≤ 1000000000) hx)
  have HIX := hide (fun j (hj : j < 8) W => idx_wn 96 8 x j Try.underlying96 hj hx8 W)
  have HSZX := hide (show (nvs x).toArray.size = 32 by simp [nvs_len, hx8])
  have HSTEP := hide (show ∀ k n, tsm x k (n + 1) = nadd (tsm x k n) (tni (kn x n) (-(k : Int) * (n : Int))) from fun _ _ => rfl)
  have HSC := hide (show ∀ k, trL x (k + 1) = trL x k ++ [tsm x k 8] from fun k => tab_succ _ k)
  have HR0 := hide (show trL x 0 = [] from rfl)
  obtain ⟨X, hX⟩ : ∃ X, (nvs x).toArray = X := ⟨_, rfl⟩
  rw [hX] at HIX HSZX
  rw [hX]
  clear hx8 hx hX
  go_enter Try.func160, Try.ntmps160
  go_wp2
  have HBX0 := hide (Blk.new w 96 X)
  have b40 : Below w.heap.size w (w.alloc (.cells X 96)) := by go_grown
  generalize w.alloc (.cells X 96) = w4 at *
  go_loopw [3, 8] (fun o i wr => ∃ (k : Nat) (C : Option Addr) (c1 : Nat), k ≤ 8 ∧ i = .int .i64 k ∧ o = .slice C k c1 ∧ wr.ownsRow w4.heap.size 162 4 (.slice C k c1) k (nvs (trL x k)) ∧ Below w4.heap.size w4 wr) (fun _ i _ => 8 - (intOf i).toNat)
  case atStart => exact ⟨0, none, 0, by omega, rfl, rfl, by rw [HR0.out]; exact World.ownsRow_nil _ _ _ _, Below.refl _ _⟩
  case round =>
    obtain ⟨k, C, c1, hk, rfl, rfl, hrow, hbel⟩ := hrel
    have hbz := hbel.size
    by_cases hlt : k < 8
    · have hd : decide ((k : Int) < 8) = true := by rw [decide_eq_true_iff]; omega
      have HROW := hide hrow
      have HBX := hide (HBX0.out.below hbel HBX0.out.lt)
      clear hrow
      go_wp2_with (refine wpList_load_row rfl 96 (.tmp 1) rfl w.heap.size rfl 96 X (0, 0) _ (by exact HBX.out.alloc _) Try.underlying96 rfl (by rw [HSZX.out]; kernel_rfl) ?_)
      obtain ⟨wo, rfl⟩ : ∃ wo : World, wo = wr := ⟨_, rfl⟩
      go_loopw [12] (fun i wr => ∃ j : Nat, j ≤ 8 ∧ i = .int .i64 j ∧ Blk wr wo.heap.size 162 (ncells (tsm x k j)) ∧ Below wo.heap.size wo wr) (fun i _ => 8 - (intOf i).toNat)
      case atStart => exact ⟨0, Nat.zero_le _, rfl, Blk.new wo 162 (ncells n0), by go_grown⟩
      case round =>
        obtain ⟨j, hj, rfl, hT, hbo⟩ := hrel
        have hboz := hbo.size
        have hTl := hT.lt
        by_cases hlt2 : j < 8
        · have hd2 : decide ((j : Int) < 8) = true := by rw [decide_eq_true_iff]; omega
          have hix := HIX.out j hlt2
          have hst := HSTEP.out k j
          have hle := HLE.out k j
          have hkn := HKN.out j
          obtain ⟨p, hz⟩ : ∃ z, kn x j = z := ⟨_, rfl⟩
          rw [hz] at hix hst hkn
          obtain ⟨S, hS⟩ : ∃ S, tsm x k j = S := ⟨_, rfl⟩
          rw [hS] at hT hst hle
          have hm1 := mul_le_size (a := -(k : Int)) (b := (j : Int)) (m := 8) (n := 8) (by omega) (by omega) (by omega) (by omega)
          obtain ⟨m1, m2⟩ := hm1
          have hkn2 := nle_mono hkn (show (1000000000 : Int) ≤ 4000000000000000000 by decide)
          have HTN := hide (nle_tni hkn2 (-(k : Int) * (j : Int)))
          have HSL := hide (nle_mono hle (show (j : Int) * 1000000000 ≤ 4000000000000000000 by omega))
          have HTU := hide (fun (e : Int) (he : e = -(k : Int) * (j : Int)) W => he ▸ turned_wave p (-(k : Int) * (j : Int)) W hkn2 (by omega) (by omega))
          have HST := hide hst
          have g1 : IntKind.i64.wrap (-(k : Int)) = -(k : Int) := IntWalk.i64_in _ (by omega)
          have g2 : IntKind.i64.wrap (-(k : Int) * (j : Int)) = -(k : Int) * (j : Int) := IntWalk.i64_in _ (by omega)
          have HH0 : Hid (Blk (wr.alloc (.cells (ncells p) 38)).drew wo.heap.size 162 (ncells S) ∧ Blk (wr.alloc (.cells (ncells p) 38)).drew wr.heap.size 38 (ncells p) ∧ Below wo.heap.size wo (wr.alloc (.cells (ncells p) 38)).drew) := hide ⟨hT.alloc _, Blk.new wr _ _, (hbo.alloc hboz (.cells (ncells p) 38)).drew⟩
          clear hz hS hst hle hkn hkn2 hT HSTEP HLE HKN HSC HR0 HIX
          go_wp2
          refine UpTo.start (z := 9) (S := fun w' => Blk w' wo.heap.size 162 (ncells S) ∧ Blk w' wr.heap.size 38 (ncells p) ∧ Below wo.heap.size wo w') (by kernel_rfl) ?_
          refine UpTo.take (i := 0) 16 (v := nv S) rfl rfl (by kernel_rfl) (by kernel_rfl) (by kernel_rfl) (by kernel_rfl) (fun _ _ _ h => h) HH0.out (Or.inl ⟨by rfl, by intro w hSw; obtain ⟨q0, q1, q2, q3, _, _, _, _⟩ := hSw.1.n4; go_simp⟩) ?_
          try simp only [Act.put, List.setIfInBounds_toArray, List.set_cons_zero, List.set_cons_succ]
          refine UpTo.take (i := 1) 17 (v := nv p) rfl rfl (by kernel_rfl) (by kernel_rfl) (by kernel_rfl) (by kernel_rfl) (fun _ _ _ h => h) HH0.out (Or.inl ⟨by rfl, by intro w hSw; obtain ⟨q0, q1, q2, q3, _, _, _, _⟩ := hSw.2.1.n4; go_simp⟩) ?_
          try simp only [Act.put, List.setIfInBounds_toArray, List.set_cons_zero, List.set_cons_succ]
          refine UpTo.take (i := 3) 19 (v := .int .i64 (k : Int)) rfl rfl (by kernel_rfl) (by kernel_rfl) (by kernel_rfl) (by kernel_rfl) (fun _ _ _ h => h) HH0.out (Or.inl ⟨by rfl, by intro w hSw; go_simp⟩) ?_
          try simp only [Act.put, List.setIfInBounds_toArray, List.set_cons_zero, List.set_cons_succ]
          refine UpTo.take (i := 4) 20 (v := .int .i64 (-(k : Int))) rfl rfl (by kernel_rfl) (by kernel_rfl) (by kernel_rfl) (by kernel_rfl) (fun _ _ _ h => h) HH0.out (Or.inl ⟨by rfl, by intro w hSw; go_simp⟩) ?_
          try simp only [Act.put, List.setIfInBounds_toArray, List.set_cons_zero, List.set_cons_succ]
          refine UpTo.take (i := 5) 21 (v := .int .i64 (j : Int)) rfl rfl (by kernel_rfl) (by kernel_rfl) (by kernel_rfl) (by kernel_rfl) (fun _ _ _ h => h) HH0.out (Or.inl ⟨by rfl, by intro w hSw; go_simp⟩) ?_
          try simp only [Act.put, List.setIfInBounds_toArray, List.set_cons_zero, List.set_cons_succ]
          refine UpTo.take (i := 6) 22 (v := .int .i64 (-(k : Int) * (j : Int))) rfl rfl (by kernel_rfl) (by kernel_rfl) (by kernel_rfl) (by kernel_rfl) (fun _ _ _ h => h) HH0.out (Or.inl ⟨by rfl, by intro w hSw; go_simp⟩) ?_
          try simp only [Act.put, List.setIfInBounds_toArray, List.set_cons_zero, List.set_cons_succ]
          refine UpTo.next (i := 2) (by kernel_rfl) rfl (fun K hK => ?_)
          go_simp
          refine (numberOf_wave p _).mono ?_
          rintro e v1 ⟨rfl, hb⟩
          have HH1 := hide (show (fun w' => Blk w' wo.heap.size 162 (ncells S) ∧ Blk w' wr.heap.size 38 (ncells p) ∧ Below wo.heap.size wo w') v1 from ⟨HH0.out.1.below hb HH0.out.1.lt, HH0.out.2.1.below hb HH0.out.2.1.lt, Below.step HH0.out.2.2 hb⟩)
          clear hb
          simp only []
          refine hK.out _ _ (fun _ => HH1.out) ?_
          clear hK K
          try simp only [Act.put, List.setIfInBounds_toArray, List.set_cons_zero, List.set_cons_succ]
          refine UpTo.next (i := 7) (by kernel_rfl) rfl (fun K hK => ?_)
          go_simp
          refine (HTU.out _ (by first | rfl | (simp; done) | grind) _).mono ?_
          rintro e v2 ⟨rfl, hb⟩
          have HH2 := hide (show (fun w' => Blk w' wo.heap.size 162 (ncells S) ∧ Blk w' wr.heap.size 38 (ncells p) ∧ Below wo.heap.size wo w') v2 from ⟨HH1.out.1.below hb HH1.out.1.lt, HH1.out.2.1.below hb HH1.out.2.1.lt, Below.step HH1.out.2.2 hb⟩)
          clear hb
          simp only []
          refine hK.out _ _ (fun _ => HH2.out) ?_
          clear hK K
          try simp only [Act.put, List.setIfInBounds_toArray, List.set_cons_zero, List.set_cons_succ]
          refine UpTo.next (i := 8) (by kernel_rfl) rfl (fun K hK => ?_)
          go_simp
          refine (plus_wave S _ _ HSL.out HTN.out).mono ?_
          rintro e v6 ⟨rfl, hb⟩
          have HH6 := hide (show (fun w' => Blk w' wo.heap.size 162 (ncells S) ∧ Blk w' wr.heap.size 38 (ncells p) ∧ Below wo.heap.size wo w') v6 from ⟨HH2.out.1.below hb HH2.out.1.lt, HH2.out.2.1.below hb HH2.out.2.1.lt, Below.step HH2.out.2.2 hb⟩)
          clear hb
          simp only []
          refine hK.out _ _ (fun _ => HH6.out) ?_
          clear hK K
          try simp only [Act.put, List.setIfInBounds_toArray, List.set_cons_zero, List.set_cons_succ]
          obtain ⟨u0, u1, u2, u3, f0, f1, f2, f3⟩ := HH6.out.1.n4
          have hz6 := HH6.out.2.2.size
          refine UpTo.next (i := 9) (by kernel_rfl) rfl (fun K hK => ?_)
          go_simp
          refine hK.out _ _ (fun h => absurd rfl h) ?_
          clear hK K
          refine UpTo.done (by kernel_rfl) ?_ _
          have b6 := HH6.out.2.2
          go_wp2
          go_roundw
          case rel => exact ⟨j + 1, by omega, by go_num, by rw [HST.out]; exact (((HH6.out.1.set_ 0 _).set_ 1 _).set_ 2 _).set_ 3 _, by go_grown⟩
          case measure => simp [intOf]; omega
        · have hd2 : decide ((j : Int) < 8) = false := by rw [decide_eq_false_iff_not]; omega
          have hj8 : j = 8 := by omega
          have hT' : Blk wr wo.heap.size 162 (ncells (tsm x k 8)) := by rw [← hj8]; exact hT
          have hsc := HSC.out k
          obtain ⟨y, hy⟩ : ∃ y, tsm x k 8 = y := ⟨_, rfl⟩
          rw [hy] at hT' hsc
          have HSC2 := hide (show nvs (trL x (k + 1)) = nvs (trL x k) ++ [.int .i64 y.1, .int .i64 y.2.1, .int .i64 y.2.2.1, .int .i64 y.2.2.2] by rw [hsc, nvs_snoc])
          have HROW2 := hide (own_bel HROW.out hbo)
          obtain ⟨y0, y1, y2, y3, _, _, _, _⟩ := hT'.n4
          have hbo1 : Below w4.heap.size w4 wr := Below.step hbel hbo
          have hboz1 := hbo1.size
          clear hy hsc hT hT' hj8 HSTEP HLE HKN HSC HR0 HIX
          go_wp2_with (at_builtin; go_must (
               refine wpList_append_own _ rfl _ _ 160 rfl w4.heap.size 162 i0 _ 4 32 Try.underlying160 hi0 hz0 hz1 hz2 rfl (by decide) (.slice C k c1) k (nvs (trL x k)) rfl (HROW2.out.alloc _) ⟨wr.heap.size, 0, none⟩ 1 1 [.int .i64 y.1, .int .i64 y.2.1, .int .i64 y.2.2.1, .int .i64 y.2.2.2] rfl rfl (cells_new _ _ _) (by simp [Value.oneCell']) (by simp only [maxLen]; omega) (by omega) (by simp; omega) ?_
               intro v' w5 hown' hgrow _
               obtain ⟨C2, k2, rfl⟩ := own_form hown'
               have hbel' := Below.app hbo1 HROW2.out hgrow))
          go_roundw
          case rel => exact ⟨k + 1, C2, k2, by omega, by go_num, rfl, by rw [HSC2.out]; exact hown', hbel'⟩
          case measure => simp [intOf]; omega
    · have hd : decide ((k : Int) < 8) = false := by rw [decide_eq_false_iff_not]; omega
      obtain rfl : k = 8 := by omega
      have HROW := hide hrow
      clear hrow
      go_wp2
      go_ret
      exact ⟨C, c1, rfl, HROW.out.weaken b40.size, b40.trans (hbel.mono b40.size)⟩
end Go.Proofs.Ythfmjohbokpceaa
