import Derived.Test.YthfmjohbokpceaaWvDC
namespace Go.Proofs.Ythfmjohbokpceaa
open Go.RowKit Go.WideShapes Go.ChangeShapes

/-! what paths make of samples: the reference -/
set_option maxRecDepth 100000 in
set_option maxHeartbeats 8000000 in
theorem through_ref (A B : Option Addr) (c d m n : Nat) (l : List Pth) (x : List Nm) (w : World) (hm : l.length = m) (hn : x.length = n) (hs : Sl w A (pvs l)) (hs' : Sl w B (nvs x)) (h : thE l x = 0) :
    Calls Try.prog 68 #[.slice A m c, .slice B n d] w fun e w' => ∃ C k, e = .returned (.slice C n k) ∧ Sl w' C (nvs (thL l x n)) ∧ Below w.heap.size w w' := by
  obtain ⟨i0, hi0, hz0, hz1, hz2⟩ := info_parts wn_info
  obtain ⟨⟨hl0, hl6, hlr⟩, hx120, hxl⟩ := thE_ok h
  have HAT := hide (fun k (hk : k < m) => hs.atP (k := k) (by omega))
  have HBT := hide (fun W (hb : Below w.heap.size w W) k (hk : k < n) => (hs'.bel hb).atN (k := k) (by omega))
  have HKP := hide (kp_right hlr)
  have HKN := hide (kn_le' (by omega : (0 : Int) ≤ 1000000000) hxl)
  have HTL := hide (thr_le hlr hxl)
  have HY := hide (show ∀ (k j : Nat), (kp l j).1 ≤ (k : Int) → thr l x k (j + 1) = nadd (thr l x k j) (nmul (kn x ((k : Int) - (kp l j).1).toNat) (ent (kp l j).2)) from fun k j h => if_pos h)
  have HNO := hide (show ∀ (k j : Nat), ¬ (kp l j).1 ≤ (k : Int) → thr l x k (j + 1) = thr l x k j from fun k j h => if_neg h)
  have HSC := hide (show ∀ k, thL l x (k + 1) = thL l x k ++ [thr l x k m] from fun k => by rw [← hm]; exact tab_succ _ k)
  have HT0 := hide (show thL l x 0 = [] from rfl)
  have hm6 : m ≤ 6 := by omega
  have hn120 : n ≤ 120 := by omega
  clear hs hs' h hl0 hl6 hlr hx120 hxl hm hn
  go_enter Try.func68, Try.ntmps68
  go_wp2
  go_loopw [5, 6] (fun o i wr => ∃ (k : Nat) (C : Option Addr) (c1 : Nat), k ≤ n ∧ i = .int .i64 k ∧ o = .slice C k c1 ∧ wr.ownsRow w.heap.size 38 4 (.slice C k c1) k (nvs (thL l x k)) ∧ Below w.heap.size w wr) (fun _ i _ => n - (intOf i).toNat)
  case atStart => exact ⟨0, none, 0, Nat.zero_le _, rfl, rfl, by rw [HT0.out]; exact World.ownsRow_nil _ _ _ _, Below.refl _ _⟩
  case round =>
    obtain ⟨k, C, c1, hk, rfl, rfl, hrow, hbel⟩ := hrel
    have hbz := hbel.size
    by_cases hlt : k < n
    · have HROW := hide hrow
      clear hrow
      go_wp2
      obtain ⟨wo, rfl⟩ : ∃ wo : World, wo = wr := ⟨_, rfl⟩
      go_loopw [8] (fun i wr => ∃ j : Nat, j ≤ m ∧ i = .int .i64 j ∧ Blk wr wo.heap.size 38 (ncells (thr l x k j)) ∧ Below wo.heap.size wo wr) (fun i _ => m - (intOf i).toNat)
      case atStart => exact ⟨0, Nat.zero_le _, rfl, Blk.new wo 38 (ncells n0), by go_grown⟩
      case round =>
        obtain ⟨j, hj, rfl, hT, hbo⟩ := hrel
        have hbo1 : Below w.heap.size w wr := Below.step hbel hbo
        have hboz := hbo.size
        have hTl := hT.lt
        by_cases hlt2 : j < m
        · obtain ⟨b, off, rfl, e0, e1, e2⟩ := HAT.out j hlt2
          have HP := hide (show ∀ W, Below w.heap.size w W → W.cell? ⟨b, off + j * 3, none⟩ = some (.int .i64 (kp l j).1) ∧ W.cell? ⟨b, off + j * 3 + 1, none⟩ = some (.int .i64 (kp l j).2.1) ∧ W.cell? ⟨b, off + j * 3 + 2, none⟩ = some (.int .i64 (kp l j).2.2) from fun W h =>
            ⟨(h.cell (p := ⟨b, off + j * 3, none⟩) (lt_of_cell e0)).trans e0, (h.cell (p := ⟨b, off + j * 3 + 1, none⟩) (lt_of_cell e1)).trans e1, (h.cell (p := ⟨b, off + j * 3 + 2, none⟩) (lt_of_cell e2)).trans e2⟩)
          have hkp := HKP.out j
          have hyes := HY.out k j
          have hno := HNO.out k j
          have htl := HTL.out k j
          obtain ⟨⟨dl, ga, gb⟩, hp⟩ : ∃ p, kp l j = p := ⟨_, rfl⟩
          rw [hp] at HP hkp hyes hno
          dsimp only at HP hkp hyes hno
          obtain ⟨d0, d1, d2⟩ := HP.out _ hbo1
          obtain ⟨r1, r2, r3, r4, r5, r6⟩ := hkp
          obtain ⟨S, hS⟩ : ∃ S, thr l x k j = S := ⟨_, rfl⟩
          rw [hS] at hT hyes hno htl
          by_cases hdl : dl ≤ (k : Int)
          · have hst := hyes hdl
            obtain ⟨t, ht⟩ : ∃ t : Nat, (k : Int) - dl = (t : Int) := ⟨((k : Int) - dl).toNat, by omega⟩
            have htn : t < n := by omega
            rw [show ((k : Int) - dl).toNat = t by omega] at hst
            obtain ⟨b', off', hB', _⟩ := HBT.out _ hbo1 t htn
            subst hB'
            have HX := hide (show ∀ W, Below w.heap.size w W → W.cell? ⟨b', off' + t * 4, none⟩ = some (.int .i64 (kn x t).1) ∧ W.cell? ⟨b', off' + t * 4 + 1, none⟩ = some (.int .i64 (kn x t).2.1) ∧ W.cell? ⟨b', off' + t * 4 + 2, none⟩ = some (.int .i64 (kn x t).2.2.1) ∧ W.cell? ⟨b', off' + t * 4 + 3, none⟩ = some (.int .i64 (kn x t).2.2.2) from fun W h => by
              obtain ⟨b1, o1, e, q⟩ := HBT.out W h t htn
              injection e with e
              injection e with e1 e2
              subst e1 e2
              exact q)
            have hkn := HKN.out t
            obtain ⟨q, hq⟩ : ∃ q, kn x t = q := ⟨_, rfl⟩
            rw [hq] at HX hkn hst
            have hen := nle_ent (m := 100) (g := (ga, gb)) (by dsimp only; omega)
            have HTM := hide (fun W => times_ref (ga, gb) q W (by dsimp only; omega) hkn)
            have HMN := hide (nle_mono (nle_mul hkn hen) (show 4 * (1000000000 * 100) ≤ (4000000000000000000 : Int) by decide))
            have HSL := hide (nle_mono htl (show (j : Int) * 400000000000 ≤ 4000000000000000000 by omega))
            have HST := hide hst
            have g1 : IntKind.i64.wrap ((k : Int) - dl) = (t : Int) := by rw [ht]; exact IntWalk.i64_in _ (by omega)
            have k1 : decide (dl ≤ (k : Int)) = true := decide_eq_true hdl
            have k2 : decide ((k : Int) ≥ dl) = true := decide_eq_true hdl
            have g3 : (t : Int) < (n : Int) := by omega
            have g4 : (0 : Int) ≤ (t : Int) := by omega
            have g5 : (0 : Int) ≤ (j : Int) := by omega
            have g6 : (j : Int) < (m : Int) := by omega
            have HH0 : Hid (Blk wr.drew wo.heap.size 38 (ncells S) ∧ Below wo.heap.size wo wr.drew) := hide ⟨hT, below_drewN hbo 1⟩
            clear hp hS hq hst htl hkn hen hyes hno hT e0 e1 e2 ht HY HNO HTL HKP HKN HAT HBT HSC HT0
            go_wp2
            refine UpTo.start (z := 18) (S := fun w' => Blk w' wo.heap.size 38 (ncells S) ∧ Below wo.heap.size wo w') (by kernel_rfl) ?_
            refine UpTo.take (i := 0) 28 (v := nv S) rfl rfl (by kernel_rfl) (by kernel_rfl) (by kernel_rfl) (by kernel_rfl) (fun _ _ _ h => h) HH0.out (Or.inl ⟨by rfl, by intro w hSw; obtain ⟨q0, q1, q2, q3, _, _, _, _⟩ := hSw.1.n4; go_simp⟩) ?_
            try simp only [Act.put, List.setIfInBounds_toArray, List.set_cons_zero, List.set_cons_succ]
            refine UpTo.take (i := 1) 29 (v := .slice (some ⟨b, off, none⟩) m c) rfl rfl (by kernel_rfl) (by kernel_rfl) (by kernel_rfl) (by kernel_rfl) (fun _ _ _ h => h) HH0.out (Or.inl ⟨by rfl, by intro w hSw; go_simp⟩) ?_
            try simp only [Act.put, List.setIfInBounds_toArray, List.set_cons_zero, List.set_cons_succ]
            refine UpTo.take (i := 2) 30 (v := .int .i64 (j : Int)) rfl rfl (by kernel_rfl) (by kernel_rfl) (by kernel_rfl) (by kernel_rfl) (fun _ _ _ h => h) HH0.out (Or.inl ⟨by rfl, by intro w hSw; go_simp⟩) ?_
            try simp only [Act.put, List.setIfInBounds_toArray, List.set_cons_zero, List.set_cons_succ]
            refine UpTo.take (i := 3) 31 (v := .pointer (some ⟨b, off + j * 3, none⟩)) rfl rfl (by kernel_rfl) (by kernel_rfl) (by kernel_rfl) (by kernel_rfl) (fun _ _ _ h => h) HH0.out (Or.inl ⟨by rfl, by intro w hSw; go_simp⟩) ?_
            try simp only [Act.put, List.setIfInBounds_toArray, List.set_cons_zero, List.set_cons_succ]
            refine UpTo.take (i := 4) 32 (v := .pointer (some ⟨b, off + j * 3 + 1, none⟩)) rfl rfl (by kernel_rfl) (by kernel_rfl) (by kernel_rfl) (by kernel_rfl) (fun _ _ _ h => h) HH0.out (Or.inl ⟨by rfl, by intro w hSw; go_simp⟩) ?_
            try simp only [Act.put, List.setIfInBounds_toArray, List.set_cons_zero, List.set_cons_succ]
            refine UpTo.take (i := 5) 33 (v := .agg #[.int .i64 ga, .int .i64 gb]) rfl rfl (by kernel_rfl) (by kernel_rfl) (by kernel_rfl) (by kernel_rfl) (fun _ _ _ h => h) HH0.out (Or.inl ⟨by rfl, by intro w hSw; obtain ⟨q0, q1, q2⟩ := HP.out _ (Below.step hbel hSw.2); go_simp⟩) ?_
            try simp only [Act.put, List.setIfInBounds_toArray, List.set_cons_zero, List.set_cons_succ]
            refine UpTo.take (i := 6) 34 (v := .slice (some ⟨b', off', none⟩) n d) rfl rfl (by kernel_rfl) (by kernel_rfl) (by kernel_rfl) (by kernel_rfl) (fun _ _ _ h => h) HH0.out (Or.inl ⟨by rfl, by intro w hSw; go_simp⟩) ?_
            try simp only [Act.put, List.setIfInBounds_toArray, List.set_cons_zero, List.set_cons_succ]
            refine UpTo.take (i := 7) 35 (v := .int .i64 (k : Int)) rfl rfl (by kernel_rfl) (by kernel_rfl) (by kernel_rfl) (by kernel_rfl) (fun _ _ _ h => h) HH0.out (Or.inl ⟨by rfl, by intro w hSw; go_simp⟩) ?_
            try simp only [Act.put, List.setIfInBounds_toArray, List.set_cons_zero, List.set_cons_succ]
            refine UpTo.take (i := 8) 36 (v := .slice (some ⟨b, off, none⟩) m c) rfl rfl (by kernel_rfl) (by kernel_rfl) (by kernel_rfl) (by kernel_rfl) (fun _ _ _ h => h) HH0.out (Or.inl ⟨by rfl, by intro w hSw; go_simp⟩) ?_
            try simp only [Act.put, List.setIfInBounds_toArray, List.set_cons_zero, List.set_cons_succ]
            refine UpTo.take (i := 9) 37 (v := .int .i64 (j : Int)) rfl rfl (by kernel_rfl) (by kernel_rfl) (by kernel_rfl) (by kernel_rfl) (fun _ _ _ h => h) HH0.out (Or.inl ⟨by rfl, by intro w hSw; go_simp⟩) ?_
            try simp only [Act.put, List.setIfInBounds_toArray, List.set_cons_zero, List.set_cons_succ]
            refine UpTo.take (i := 10) 38 (v := .pointer (some ⟨b, off + j * 3, none⟩)) rfl rfl (by kernel_rfl) (by kernel_rfl) (by kernel_rfl) (by kernel_rfl) (fun _ _ _ h => h) HH0.out (Or.inl ⟨by rfl, by intro w hSw; go_simp⟩) ?_
            try simp only [Act.put, List.setIfInBounds_toArray, List.set_cons_zero, List.set_cons_succ]
            refine UpTo.take (i := 11) 39 (v := .pointer (some ⟨b, off + j * 3, none⟩)) rfl rfl (by kernel_rfl) (by kernel_rfl) (by kernel_rfl) (by kernel_rfl) (fun _ _ _ h => h) HH0.out (Or.inl ⟨by rfl, by intro w hSw; go_simp⟩) ?_
            try simp only [Act.put, List.setIfInBounds_toArray, List.set_cons_zero, List.set_cons_succ]
            refine UpTo.take (i := 12) 40 (v := .int .i64 dl) rfl rfl (by kernel_rfl) (by kernel_rfl) (by kernel_rfl) (by kernel_rfl) (fun _ _ _ h => h) HH0.out (Or.inl ⟨by rfl, by intro w hSw; obtain ⟨q0, q1, q2⟩ := HP.out _ (Below.step hbel hSw.2); go_simp⟩) ?_
            try simp only [Act.put, List.setIfInBounds_toArray, List.set_cons_zero, List.set_cons_succ]
            refine UpTo.take (i := 13) 41 (v := .int .i64 (t : Int)) rfl rfl (by kernel_rfl) (by kernel_rfl) (by kernel_rfl) (by kernel_rfl) (fun _ _ _ h => h) HH0.out (Or.inl ⟨by rfl, by intro w hSw; go_simp⟩) ?_
            try simp only [Act.put, List.setIfInBounds_toArray, List.set_cons_zero, List.set_cons_succ]
            refine UpTo.take (i := 14) 42 (v := .pointer (some ⟨b', off' + t * 4, none⟩)) rfl rfl (by kernel_rfl) (by kernel_rfl) (by kernel_rfl) (by kernel_rfl) (fun _ _ _ h => h) HH0.out (Or.inl ⟨by rfl, by intro w hSw; go_simp⟩) ?_
            try simp only [Act.put, List.setIfInBounds_toArray, List.set_cons_zero, List.set_cons_succ]
            refine UpTo.take (i := 15) 43 (v := nv q) rfl rfl (by kernel_rfl) (by kernel_rfl) (by kernel_rfl) (by kernel_rfl) (fun _ _ _ h => h) HH0.out (Or.inl ⟨by rfl, by intro w hSw; obtain ⟨q0, q1, q2, q3⟩ := HX.out _ (Below.step hbel hSw.2); go_simp⟩) ?_
            try simp only [Act.put, List.setIfInBounds_toArray, List.set_cons_zero, List.set_cons_succ]
            refine UpTo.next (i := 16) (by kernel_rfl) rfl (fun K hK => ?_)
            go_simp
            refine (HTM.out _).mono ?_
            rintro e v1 ⟨rfl, hb⟩
            have HH1 := hide (show Blk v1 wo.heap.size 38 (ncells S) ∧ Below wo.heap.size wo v1 from ⟨HH0.out.1.below hb HH0.out.1.lt, Below.step HH0.out.2 hb⟩)
            clear hb
            simp only []
            refine hK.out _ _ (fun _ => HH1.out) ?_
            clear hK K
            try simp only [Act.put, List.setIfInBounds_toArray, List.set_cons_zero, List.set_cons_succ]
            refine UpTo.next (i := 17) (by kernel_rfl) rfl (fun K hK => ?_)
            go_simp
            refine (plus_ref S _ _ HSL.out HMN.out).mono ?_
            rintro e v6 ⟨rfl, hb⟩
            have HH6 := hide (show Blk v6 wo.heap.size 38 (ncells S) ∧ Below wo.heap.size wo v6 from ⟨HH1.out.1.below hb HH1.out.1.lt, Below.step HH1.out.2 hb⟩)
            clear hb
            simp only []
            refine hK.out _ _ (fun _ => HH6.out) ?_
            clear hK K
            try simp only [Act.put, List.setIfInBounds_toArray, List.set_cons_zero, List.set_cons_succ]
            obtain ⟨u0, u1, u2, u3, f0, f1, f2, f3⟩ := HH6.out.1.n4
            have hz6 := HH6.out.2.size
            refine UpTo.next (i := 18) (by kernel_rfl) rfl (fun K hK => ?_)
            go_simp
            refine hK.out _ _ (fun h => absurd rfl h) ?_
            clear hK K
            refine UpTo.done (by kernel_rfl) ?_ _
            have b6 := HH6.out.2
            go_wp2
            go_roundw
            case rel => exact ⟨j + 1, by omega, by go_num, by rw [HST.out]; exact (((HH6.out.1.set_ 0 _).set_ 1 _).set_ 2 _).set_ 3 _, by go_grown⟩
            case measure => simp [intOf]; omega
          · have k1 : decide (dl ≤ (k : Int)) = false := decide_eq_false hdl
            have k2 : decide ((k : Int) ≥ dl) = false := decide_eq_false hdl
            have HST := hide (hno (by omega))
            have HT2 := hide hT
            clear hp hS htl hyes hno hT e0 e1 e2 hdl HY HNO HTL HKP HKN HAT HBT HSC HT0
            go_wp2
            go_roundw
            case rel => exact ⟨j + 1, by omega, by go_num, by rw [HST.out]; exact HT2.out, hbo⟩
            case measure => simp [intOf]; omega
        · have hjm : j = m := by omega
          have hT' : Blk wr wo.heap.size 38 (ncells (thr l x k m)) := by rw [← hjm]; exact hT
          have hsc := HSC.out k
          obtain ⟨y, hy⟩ : ∃ y, thr l x k m = y := ⟨_, rfl⟩
          rw [hy] at hT' hsc
          have HSC2 := hide (show nvs (thL l x (k + 1)) = nvs (thL l x k) ++ [.int .i64 y.1, .int .i64 y.2.1, .int .i64 y.2.2.1, .int .i64 y.2.2.2] by rw [hsc, nvs_snoc])
          have HROW2 := hide (own_bel HROW.out hbo)
          obtain ⟨y0, y1, y2, y3, _, _, _, _⟩ := hT'.n4
          have hboz1 := hbo1.size
          clear hy hsc hT hT' hjm HY HNO HTL HKP HKN HAT HBT HSC HT0
          go_wp2_with (at_builtin; go_must (
               refine wpList_append_own _ rfl _ _ 36 rfl w.heap.size 38 i0 _ 4 32 Try.underlying36 hi0 hz0 hz1 hz2 rfl (by decide) (.slice C k c1) k (nvs (thL l x k)) rfl (HROW2.out.alloc _) ⟨wr.heap.size, 0, none⟩ 1 1 [.int .i64 y.1, .int .i64 y.2.1, .int .i64 y.2.2.1, .int .i64 y.2.2.2] rfl rfl (cells_new _ _ _) (by simp [Value.oneCell']) (by simp only [maxLen]; omega) (by omega) (by simp; omega) ?_
               intro v' w5 hown' hgrow _
               obtain ⟨C2, k2, rfl⟩ := own_form hown'
               have hbel' := Below.app hbo1 HROW2.out hgrow))
          go_roundw
          case rel => exact ⟨k + 1, C2, k2, by omega, by go_num, rfl, by rw [HSC2.out]; exact hown', hbel'⟩
          case measure => simp [intOf]; omega
    · obtain rfl : k = n := by omega
      have HROW := hide hrow
      clear hrow
      go_wp2
      go_ret
      exact ⟨C, c1, rfl, Sl.of_ownN HROW.out, hbel⟩
end Go.Proofs.Ythfmjohbokpceaa
