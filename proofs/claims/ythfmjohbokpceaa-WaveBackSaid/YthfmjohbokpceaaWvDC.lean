import Derived.Test.YthfmjohbokpceaaWvDB
namespace Go.Proofs.Ythfmjohbokpceaa
open Go.RowKit Go.WideShapes Go.ChangeShapes

/-! the reference's response and stream through paths -/
theorem nvs_upd (L r : List Nm) (s x : Nm) :
    (((((nvs (L ++ s :: r)).set (L.length * 4) (.int .i64 x.1)).set (L.length * 4 + 1) (.int .i64 x.2.1)).set (L.length * 4 + 2) (.int .i64 x.2.2.1)).set (L.length * 4 + 3) (.int .i64 x.2.2.2)) = nvs (L ++ x :: r) := by
  rw [nvs_append, nvs_cons, nvs_append, nvs_cons]
  have hl := nvs_len L
  rw [set_at (nvs L) _ _ _ _ hl.symm]
  rw [show nvs L ++ Value.int .i64 x.1 :: Value.int .i64 s.2.1 :: Value.int .i64 s.2.2.1 :: Value.int .i64 s.2.2.2 :: nvs r = (nvs L ++ [Value.int .i64 x.1]) ++ Value.int .i64 s.2.1 :: (Value.int .i64 s.2.2.1 :: Value.int .i64 s.2.2.2 :: nvs r) by simp, set_at _ _ _ _ _ (by simp [hl])]
  rw [show (nvs L ++ [Value.int .i64 x.1]) ++ Value.int .i64 x.2.1 :: (Value.int .i64 s.2.2.1 :: Value.int .i64 s.2.2.2 :: nvs r) = (nvs L ++ [Value.int .i64 x.1, Value.int .i64 x.2.1]) ++ Value.int .i64 s.2.2.1 :: (Value.int .i64 s.2.2.2 :: nvs r) by simp, set_at _ _ _ _ _ (by simp [hl])]
  rw [show (nvs L ++ [Value.int .i64 x.1, Value.int .i64 x.2.1]) ++ Value.int .i64 x.2.2.1 :: (Value.int .i64 s.2.2.2 :: nvs r) = (nvs L ++ [Value.int .i64 x.1, Value.int .i64 x.2.1, Value.int .i64 x.2.2.1]) ++ Value.int .i64 s.2.2.2 :: nvs r by simp, set_at _ _ _ _ _ (by simp [hl])]
  simp
theorem numArr_snoc (L : List Nm) (n : Nat) (s : Nm) : numArr (L ++ [s]) n = (nvs (L ++ s :: List.replicate (n - L.length - 1) n0)).toArray := by
  unfold numArr
  rw [List.append_assoc, List.length_append, List.singleton_append, show n - (L.length + [s].length) = n - L.length - 1 by simp; omega]
theorem numArr_n0 (L : List Nm) (n : Nat) (h : L.length < n) : numArr (L ++ [n0]) n = numArr L n := by
  rw [numArr_snoc]
  unfold numArr
  rw [show n - L.length = (n - L.length - 1) + 1 by omega, List.replicate_succ, Nat.add_sub_cancel]
theorem numArr_upd (L : List Nm) (n k : Nat) (s x : Nm) (hk : L.length = k) :
    ((((numArr (L ++ [s]) n).setIfInBounds (k * 4) (.int .i64 x.1)).setIfInBounds (k * 4 + 1) (.int .i64 x.2.1)).setIfInBounds (k * 4 + 2) (.int .i64 x.2.2.1)).setIfInBounds (k * 4 + 3) (.int .i64 x.2.2.2) = numArr (L ++ [x]) n := by
  subst hk
  rw [numArr_snoc, numArr_snoc]
  simp only [List.setIfInBounds_toArray]
  rw [nvs_upd]
theorem numArr_at (L : List Nm) (n k : Nat) (s : Nm) (hk : L.length = k) : (numArr (L ++ [s]) n)[k * 4]? = some (.int .i64 s.1) ∧ (numArr (L ++ [s]) n)[k * 4 + 1]? = some (.int .i64 s.2.1) ∧ (numArr (L ++ [s]) n)[k * 4 + 2]? = some (.int .i64 s.2.2.1) ∧ (numArr (L ++ [s]) n)[k * 4 + 3]? = some (.int .i64 s.2.2.2) := by
  subst hk
  rw [numArr_snoc]
  have h := nvs_at (L ++ s :: List.replicate (n - L.length - 1) n0) L.length (by simp)
  rw [show (L ++ s :: List.replicate (n - L.length - 1) n0)[L.length]'(by simp) = s by simp] at h
  simpa using h
theorem Blk.num4 {w : World} {g k n : Nat} {t : TypeId} {L : List Nm} {s : Nm} (h : Blk w g t (numArr (L ++ [s]) n)) (hk : L.length = k) : w.cell? ⟨g, k * 4, none⟩ = some (.int .i64 s.1) ∧ w.cell? ⟨g, k * 4 + 1, none⟩ = some (.int .i64 s.2.1) ∧ w.cell? ⟨g, k * 4 + 2, none⟩ = some (.int .i64 s.2.2.1) ∧ w.cell? ⟨g, k * 4 + 3, none⟩ = some (.int .i64 s.2.2.2) ∧
    w.frozen? ⟨g, k * 4, none⟩ = false ∧ w.frozen? ⟨g, k * 4 + 1, none⟩ = false ∧ w.frozen? ⟨g, k * 4 + 2, none⟩ = false ∧ w.frozen? ⟨g, k * 4 + 3, none⟩ = false := by
  obtain ⟨h1, h2, h3, h4⟩ := numArr_at L n k s hk
  exact ⟨(h.cell _).trans h1, (h.cell _).trans h2, (h.cell _).trans h3, (h.cell _).trans h4, h.frozen _, h.frozen _, h.frozen _, h.frozen _⟩
theorem rsum_succ (l : List Pth) (k n : Nat) : rsum l k (n + 1) = nadd (rsum l k n) (tni (ent (kp l n).2) (-(k : Int) * (kp l n).1)) := rfl
set_option maxRecDepth 100000 in
set_option maxHeartbeats 8000000 in
theorem responseOf_ref (A : Option Addr) (c m : Nat) (l : List Pth) (w : World) (hm : l.length = m) (hs : Sl w A (pvs l)) (h0 : (pthV l).2 = 0) :
    Calls Try.prog 67 #[.slice A m c] w fun e w' => e = .returned (.agg (numArr (rspL l 8) 8)) ∧ Below w.heap.size w w' := by
  obtain ⟨hl0, hl6, hr⟩ := pthV_ok h0
  have HLE := hide (fun k n => rsum_le hr k n)
  have HKP := hide (kp_right hr)
  have HAT := hide (fun k (hk : k < m) => hs.atP (k := k) (by omega))
  have hm6 : m ≤ 6 := by omega
  have HSTEP := hide (rsum_succ l)
  have HFULL := hide (show ∀ k, rspL l (k + 1) = rspL l k ++ [rsum l k m] from fun k => by rw [← hm]; exact rspL_succ l k)
  have HLEN := hide (rspL_len l)
  have HZ := hide (show ∀ k, rsum l k 0 = n0 from fun _ => rfl)
  have HR0 := hide (show rspL l 0 = [] from rfl)
  clear hs hl0 hl6 hr h0 hm
  go_enter Try.func67, Try.ntmps67
  go_wp2
  go_loopw [4] (fun i wr => ∃ k : Nat, k ≤ 8 ∧ i = .int .i64 k ∧ Blk wr w.heap.size 96 (numArr [] 8) ∧ Blk wr (w.heap.size + 1) 96 (numArr (rspL l k) 8) ∧ Below w.heap.size w wr) (fun i _ => 8 - (intOf i).toNat)
  case atStart => exact ⟨0, by omega, rfl, (Blk.new w 96 (numArr [] 8)).alloc _, by rw [HR0.out]; exact Blk.newN (w.alloc (.cells (numArr [] 8) 96)) 96 (numArr [] 8) (by simp), by go_grown⟩
  case round =>
    obtain ⟨k, hk, rfl, hR, hO, hbel⟩ := hrel
    by_cases hlt : k < 8
    · have hd : decide ((k : Int) < 8) = true := by rw [decide_eq_true_iff]; omega
      have hlk := HLEN.out k
      have HO : Hid (Blk wr (w.heap.size + 1) 96 (numArr (rspL l k ++ [rsum l k 0]) 8)) := hide (by rw [HZ.out, numArr_n0 _ _ (by omega)]; exact hO)
      have HR := hide hR
      have HBEL := hide hbel
      have HLK := hide hlk
      clear hR hO hbel hlk
      go_wp2
      obtain ⟨wo, rfl⟩ : ∃ wo : World, wo = wr := ⟨_, rfl⟩
      go_loopw [5] (fun i wr => ∃ j : Nat, j ≤ m ∧ i = .int .i64 j ∧ Blk wr w.heap.size 96 (numArr [] 8) ∧ Blk wr (w.heap.size + 1) 96 (numArr (rspL l k ++ [rsum l k j]) 8) ∧ Below w.heap.size w wr) (fun i _ => m - (intOf i).toNat)
      case atStart => exact ⟨0, Nat.zero_le _, rfl, HR.out, HO.out, HBEL.out⟩
      case round =>
        clear HR HO HBEL
        obtain ⟨j, hj, rfl, hR, hO, hbel⟩ := hrel
        have hbz := hbel.size
        have hOl := hO.lt
        by_cases hlt2 : j < m
        · obtain ⟨b, off, rfl, e0, e1, e2⟩ := HAT.out j hlt2
          have HX := hide (show ∀ W, Below w.heap.size w W → W.cell? ⟨b, off + j * 3, none⟩ = some (.int .i64 (kp l j).1) ∧ W.cell? ⟨b, off + j * 3 + 1, none⟩ = some (.int .i64 (kp l j).2.1) ∧ W.cell? ⟨b, off + j * 3 + 2, none⟩ = some (.int .i64 (kp l j).2.2) from fun W h =>
            ⟨(h.cell (p := ⟨b, off + j * 3, none⟩) (lt_of_cell e0)).trans e0, (h.cell (p := ⟨b, off + j * 3 + 1, none⟩) (lt_of_cell e1)).trans e1, (h.cell (p := ⟨b, off + j * 3 + 2, none⟩) (lt_of_cell e2)).trans e2⟩)
          have hst := HSTEP.out k j
          have hrt := HKP.out j
          have hle := HLE.out k j
          obtain ⟨⟨dl, ga, gb⟩, hp⟩ : ∃ p, kp l j = p := ⟨_, rfl⟩
          rw [hp] at HX hst hrt
          dsimp only at HX hst hrt
          obtain ⟨S, hS⟩ : ∃ S, rsum l k j = S := ⟨_, rfl⟩
          rw [hS] at hO hst hle
          obtain ⟨r1, r2, r3, r4, r5, r6⟩ := hrt
          have hen := hide (nle_ent (m := 4000000000000000000) (g := (ga, gb)) (by dsimp only; omega))
          have HTN := hide (nle_tni hen.out (-(k : Int) * dl))
          have HSL := hide (nle_mono hle (show (j : Int) * 100 ≤ 4000000000000000000 by omega))
          have hm1 := mul_le_size (a := -(k : Int)) (b := dl) (m := 8) (n := 7) (by omega) (by omega) (by omega) (by omega)
          obtain ⟨m1, m2⟩ := hm1
          have HTU := hide (fun (e : Int) (he : e = -(k : Int) * dl) W => he ▸ turn_ref (ent (ga, gb)) (-(k : Int) * dl) W hen.out (by omega) (by omega))
          have HST := hide hst
          have g1 : IntKind.i64.wrap (-(k : Int)) = -(k : Int) := IntWalk.i64_in _ (by omega)
          have g2 : IntKind.i64.wrap (-(k : Int) * dl) = -(k : Int) * dl := IntWalk.i64_in _ (by omega)
          have g3 : (0 : Int) ≤ (k : Int) := by omega
          have g4 : (k : Int) < 8 := by omega
          have g5 : (0 : Int) ≤ (j : Int) := by omega
          have g6 : (j : Int) < (m : Int) := by omega
          have HH0 : Hid (Blk wr.drew w.heap.size 96 (numArr [] 8) ∧ Blk wr.drew (w.heap.size + 1) 96 (numArr (rspL l k ++ [S]) 8) ∧ Below w.heap.size w wr.drew) := hide ⟨hR, hO, below_drewN hbel 1⟩
          clear hp hS hle hst hR hO e0 e1 e2 HSTEP HKP HLE HFULL HLEN HZ HR0
          go_wp2
          refine UpTo.start (z := 21) (S := fun w' => Blk w' w.heap.size 96 (numArr [] 8) ∧ Blk w' (w.heap.size + 1) 96 (numArr (rspL l k ++ [S]) 8) ∧ Below w.heap.size w w') (by kernel_rfl) ?_
          refine UpTo.take (i := 0) 16 (v := .int .i64 (k : Int)) rfl rfl (by kernel_rfl) (by kernel_rfl) (by kernel_rfl) (by kernel_rfl) (fun _ _ _ h => h) HH0.out (Or.inl ⟨by rfl, by intro w hSw; go_simp⟩) ?_
          try simp only [Act.put, List.setIfInBounds_toArray, List.set_cons_zero, List.set_cons_succ]
          refine UpTo.take (i := 1) 17 (v := .int .i64 (k : Int)) rfl rfl (by kernel_rfl) (by kernel_rfl) (by kernel_rfl) (by kernel_rfl) (fun _ _ _ h => h) HH0.out (Or.inl ⟨by rfl, by intro w hSw; go_simp⟩) ?_
          try simp only [Act.put, List.setIfInBounds_toArray, List.set_cons_zero, List.set_cons_succ]
          refine UpTo.take (i := 2) 18 (v := .pointer (some ⟨w.heap.size + 1, k * 4, none⟩)) rfl rfl (by kernel_rfl) (by kernel_rfl) (by kernel_rfl) (by kernel_rfl) (fun _ _ _ h => h) HH0.out (Or.inl ⟨by rfl, by intro w hSw; go_simp⟩) ?_
          try simp only [Act.put, List.setIfInBounds_toArray, List.set_cons_zero, List.set_cons_succ]
          refine UpTo.take (i := 3) 19 (v := nv S) rfl rfl (by kernel_rfl) (by kernel_rfl) (by kernel_rfl) (by kernel_rfl) (fun _ _ _ h => h) HH0.out (Or.inl ⟨by rfl, by intro w hSw; obtain ⟨q0, q1, q2, q3, _, _, _, _⟩ := hSw.2.1.num4 HLK.out; go_simp⟩) ?_
          try simp only [Act.put, List.setIfInBounds_toArray, List.set_cons_zero, List.set_cons_succ]
          refine UpTo.take (i := 4) 20 (v := .slice (some ⟨b, off, none⟩) m c) rfl rfl (by kernel_rfl) (by kernel_rfl) (by kernel_rfl) (by kernel_rfl) (fun _ _ _ h => h) HH0.out (Or.inl ⟨by rfl, by intro w hSw; go_simp⟩) ?_
          try simp only [Act.put, List.setIfInBounds_toArray, List.set_cons_zero, List.set_cons_succ]
          refine UpTo.take (i := 5) 21 (v := .int .i64 (j : Int)) rfl rfl (by kernel_rfl) (by kernel_rfl) (by kernel_rfl) (by kernel_rfl) (fun _ _ _ h => h) HH0.out (Or.inl ⟨by rfl, by intro w hSw; go_simp⟩) ?_
          try simp only [Act.put, List.setIfInBounds_toArray, List.set_cons_zero, List.set_cons_succ]
          refine UpTo.take (i := 6) 22 (v := .pointer (some ⟨b, off + j * 3, none⟩)) rfl rfl (by kernel_rfl) (by kernel_rfl) (by kernel_rfl) (by kernel_rfl) (fun _ _ _ h => h) HH0.out (Or.inl ⟨by rfl, by intro w hSw; go_simp⟩) ?_
          try simp only [Act.put, List.setIfInBounds_toArray, List.set_cons_zero, List.set_cons_succ]
          refine UpTo.take (i := 7) 23 (v := .pointer (some ⟨b, off + j * 3 + 1, none⟩)) rfl rfl (by kernel_rfl) (by kernel_rfl) (by kernel_rfl) (by kernel_rfl) (fun _ _ _ h => h) HH0.out (Or.inl ⟨by rfl, by intro w hSw; go_simp⟩) ?_
          try simp only [Act.put, List.setIfInBounds_toArray, List.set_cons_zero, List.set_cons_succ]
          refine UpTo.take (i := 8) 24 (v := .agg #[.int .i64 ga, .int .i64 gb]) rfl rfl (by kernel_rfl) (by kernel_rfl) (by kernel_rfl) (by kernel_rfl) (fun _ _ _ h => h) HH0.out (Or.inl ⟨by rfl, by intro w hSw; obtain ⟨q0, q1, q2⟩ := HX.out _ hSw.2.2; go_simp⟩) ?_
          try simp only [Act.put, List.setIfInBounds_toArray, List.set_cons_zero, List.set_cons_succ]
          refine UpTo.take (i := 10) 26 (v := .int .i64 (k : Int)) rfl rfl (by kernel_rfl) (by kernel_rfl) (by kernel_rfl) (by kernel_rfl) (fun _ _ _ h => h) HH0.out (Or.inl ⟨by rfl, by intro w hSw; go_simp⟩) ?_
          try simp only [Act.put, List.setIfInBounds_toArray, List.set_cons_zero, List.set_cons_succ]
          refine UpTo.take (i := 11) 27 (v := .int .i64 (-(k : Int))) rfl rfl (by kernel_rfl) (by kernel_rfl) (by kernel_rfl) (by kernel_rfl) (fun _ _ _ h => h) HH0.out (Or.inl ⟨by rfl, by intro w hSw; go_simp⟩) ?_
          try simp only [Act.put, List.setIfInBounds_toArray, List.set_cons_zero, List.set_cons_succ]
          refine UpTo.take (i := 12) 28 (v := .slice (some ⟨b, off, none⟩) m c) rfl rfl (by kernel_rfl) (by kernel_rfl) (by kernel_rfl) (by kernel_rfl) (fun _ _ _ h => h) HH0.out (Or.inl ⟨by rfl, by intro w hSw; go_simp⟩) ?_
          try simp only [Act.put, List.setIfInBounds_toArray, List.set_cons_zero, List.set_cons_succ]
          refine UpTo.take (i := 13) 29 (v := .int .i64 (j : Int)) rfl rfl (by kernel_rfl) (by kernel_rfl) (by kernel_rfl) (by kernel_rfl) (fun _ _ _ h => h) HH0.out (Or.inl ⟨by rfl, by intro w hSw; go_simp⟩) ?_
          try simp only [Act.put, List.setIfInBounds_toArray, List.set_cons_zero, List.set_cons_succ]
          refine UpTo.take (i := 14) 30 (v := .pointer (some ⟨b, off + j * 3, none⟩)) rfl rfl (by kernel_rfl) (by kernel_rfl) (by kernel_rfl) (by kernel_rfl) (fun _ _ _ h => h) HH0.out (Or.inl ⟨by rfl, by intro w hSw; go_simp⟩) ?_
          try simp only [Act.put, List.setIfInBounds_toArray, List.set_cons_zero, List.set_cons_succ]
          refine UpTo.take (i := 15) 31 (v := .pointer (some ⟨b, off + j * 3, none⟩)) rfl rfl (by kernel_rfl) (by kernel_rfl) (by kernel_rfl) (by kernel_rfl) (fun _ _ _ h => h) HH0.out (Or.inl ⟨by rfl, by intro w hSw; go_simp⟩) ?_
          try simp only [Act.put, List.setIfInBounds_toArray, List.set_cons_zero, List.set_cons_succ]
          refine UpTo.take (i := 16) 32 (v := .int .i64 dl) rfl rfl (by kernel_rfl) (by kernel_rfl) (by kernel_rfl) (by kernel_rfl) (fun _ _ _ h => h) HH0.out (Or.inl ⟨by rfl, by intro w hSw; obtain ⟨q0, q1, q2⟩ := HX.out _ hSw.2.2; go_simp⟩) ?_
          try simp only [Act.put, List.setIfInBounds_toArray, List.set_cons_zero, List.set_cons_succ]
          refine UpTo.take (i := 17) 33 (v := .int .i64 (-(k : Int) * dl)) rfl rfl (by kernel_rfl) (by kernel_rfl) (by kernel_rfl) (by kernel_rfl) (fun _ _ _ h => h) HH0.out (Or.inl ⟨by rfl, by intro w hSw; go_simp⟩) ?_
          try simp only [Act.put, List.setIfInBounds_toArray, List.set_cons_zero, List.set_cons_succ]
          refine UpTo.next (i := 9) (by kernel_rfl) rfl (fun K hK => ?_)
          go_simp
          refine (entry_ref (ga, gb) _).mono ?_
          rintro e v1 ⟨rfl, hb⟩
          have HH1 := hide (show Blk v1 w.heap.size 96 (numArr [] 8) ∧ Blk v1 (w.heap.size + 1) 96 (numArr (rspL l k ++ [S]) 8) ∧ Below w.heap.size w v1 from ⟨HH0.out.1.below hb HH0.out.1.lt, HH0.out.2.1.below hb HH0.out.2.1.lt, Below.step HH0.out.2.2 hb⟩)
          clear hb
          simp only []
          refine hK.out _ _ (fun _ => HH1.out) ?_
          clear hK K
          try simp only [Act.put, List.setIfInBounds_toArray, List.set_cons_zero, List.set_cons_succ]
          refine UpTo.next (i := 18) (by kernel_rfl) rfl (fun K hK => ?_)
          go_simp
          refine (HTU.out _ (by first | rfl | (simp; done) | grind) _).mono ?_
          rintro e v2 ⟨rfl, hb⟩
          have HH2 := hide (show Blk v2 w.heap.size 96 (numArr [] 8) ∧ Blk v2 (w.heap.size + 1) 96 (numArr (rspL l k ++ [S]) 8) ∧ Below w.heap.size w v2 from ⟨HH1.out.1.below hb HH1.out.1.lt, HH1.out.2.1.below hb HH1.out.2.1.lt, Below.step HH1.out.2.2 hb⟩)
          clear hb
          simp only []
          refine hK.out _ _ (fun _ => HH2.out) ?_
          clear hK K
          try simp only [Act.put, List.setIfInBounds_toArray, List.set_cons_zero, List.set_cons_succ]
          refine UpTo.next (i := 19) (by kernel_rfl) rfl (fun K hK => ?_)
          go_simp
          refine (plus_ref S _ _ HSL.out HTN.out).mono ?_
          rintro e v6 ⟨rfl, hb⟩
          have HH6 := hide (show Blk v6 w.heap.size 96 (numArr [] 8) ∧ Blk v6 (w.heap.size + 1) 96 (numArr (rspL l k ++ [S]) 8) ∧ Below w.heap.size w v6 from ⟨HH2.out.1.below hb HH2.out.1.lt, HH2.out.2.1.below hb HH2.out.2.1.lt, Below.step HH2.out.2.2 hb⟩)
          clear hb
          simp only []
          refine hK.out _ _ (fun _ => HH6.out) ?_
          clear hK K
          try simp only [Act.put, List.setIfInBounds_toArray, List.set_cons_zero, List.set_cons_succ]
          refine UpTo.next (i := 20) (by kernel_rfl) rfl (fun K hK => ?_)
          go_simp
          refine hK.out _ _ (fun _ => HH6.out) ?_
          clear hK K
          try simp only [Act.put, List.setIfInBounds_toArray, List.set_cons_zero, List.set_cons_succ]
          obtain ⟨u0, u1, u2, u3, f0, f1, f2, f3⟩ := HH6.out.2.1.num4 HLK.out
          have hz6 := HH6.out.2.2.size
          have hz7 := HH6.out.2.1.lt
          refine UpTo.next (i := 21) (by kernel_rfl) rfl (fun K hK => ?_)
          go_simp
          refine hK.out _ _ (fun h => absurd rfl h) ?_
          clear hK K
          refine UpTo.done (by kernel_rfl) ?_ _
          have b6 := HH6.out.2.2
          go_wp2
          go_roundw
          case rel => exact ⟨j + 1, by omega, by go_num, (((HH6.out.1.far (by simp) _).far (by simp) _).far (by simp) _).far (by simp) _, by have := (((HH6.out.2.1.set_ (k * 4) (.int .i64 (rsum l k (j + 1)).1)).set_ (k * 4 + 1) (.int .i64 (rsum l k (j + 1)).2.1)).set_ (k * 4 + 2) (.int .i64 (rsum l k (j + 1)).2.2.1)).set_ (k * 4 + 3) (.int .i64 (rsum l k (j + 1)).2.2.2); rw [numArr_upd _ 8 k S (rsum l k (j + 1)) HLK.out, HST.out] at this; rw [HST.out]; exact this, by go_grown⟩
          case measure => simp [intOf]; omega
        · have hjm : j = m := by omega
          have HO1 := hide (show Blk wr (w.heap.size + 1) 96 (numArr (rspL l (k + 1)) 8) by rw [HFULL.out, ← hjm]; exact hO)
          have HR1 := hide hR
          clear hjm hO hR HSTEP HKP HLE HFULL HLEN HZ HR0
          go_wp2
          go_roundw
          case rel => exact ⟨k + 1, by omega, by go_num, HR1.out, HO1.out, hbel⟩
          case measure => simp [intOf]; omega
    · have hd : decide ((k : Int) < 8) = false := by rw [decide_eq_false_iff_not]; omega
      have hk8 : k = 8 := by omega
      rw [hk8] at hO
      have hsz := numArr_size (rspL l 8) 8 (by rw [HLEN.out]; omega)
      obtain ⟨cs, hcs⟩ : ∃ cs, numArr (rspL l 8) 8 = cs := ⟨_, rfl⟩
      have hone := numArr_one (rspL l 8) 8
      rw [hcs] at hO hsz hone
      have HCS := hide hcs
      have HSZ := hide hsz
      have HO := hide hO
      have HR := hide hR
      clear hk8 hcs hsz hO hR HSTEP HKP HLE HFULL HLEN HZ HR0
      go_wp2_with (first
        | (refine wpList_load_row rfl 96 (.tmp 3) rfl (w.heap.size + 1) rfl 96 cs (0, 0) _ HO.out Try.underlying96 rfl (by rw [HSZ.out]; kernel_rfl) ?_)
        | (refine wpList_store_row rfl 96 (.tmp 2) (.tmp 37) rfl w.heap.size cs rfl rfl 96 (numArr [] 8) HR.out (by rw [HSZ.out]; kernel_rfl) (by rw [HSZ.out]; rfl) hone ?_))
      exact bodyPost_ret (results_cell_row rfl _ _ w.heap.size 96 cs (0, 0) _ rfl (HR.out.row cs) Try.underlying96 rfl (by rw [HSZ.out]; kernel_rfl)) rfl ⟨by rw [HCS.out], Below.row hbel (Nat.le_refl _) _⟩
end Go.Proofs.Ythfmjohbokpceaa
