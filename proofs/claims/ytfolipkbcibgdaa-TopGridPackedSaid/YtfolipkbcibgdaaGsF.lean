import Derived.Test.YtfolipkbcibgdaaGsE
import Derived.Test.YtfolipkbcibgdaaGrZ
namespace Go.Proofs.Ytfolipkbcibgdaa
open Go.RowKit Go.WideShapes Go.ChangeShapes

/-! full: no slot has so many neighbouring blocks free -/
theorem rng_now {R : List (Nat × Nat)} {A : Option Addr} {w : World} (h : Rws 2 rgc w A R) (j : Nat) (hj : j < R.length) : ∃ b o, A = some ⟨b, o, none⟩ ∧ w.cell? ⟨b, o + j * 2, none⟩ = some (.int .i64 (R[j].1 : Int)) ∧ w.cell? ⟨b, o + j * 2 + 1, none⟩ = some (.int .i64 (R[j].2 : Int)) := by
  obtain ⟨b, o, e, c⟩ := h j hj
  exact ⟨b, o, e, c 0 _ rfl, c 1 _ rfl⟩
set_option maxRecDepth 100000 in
set_option maxHeartbeats 16000000 in
theorem full_ok (nm : Bs) (ce wi : Int) (PA SA : Option Addr) (pc sc : Nat) (P : List Prt) (S : List Sig) (l : List Alo) (D : Option Addr) (d : Nat) (pa fr te sy sn bn : Int) (w : World) (hnm : OkN nm) (hc : OkCr ce wi P S) (hl : AccL ce P S l) (hx : OkWn P pa fr te sy sn bn) (hsl : S.length ≤ 1000) (hP : Prts w PA P) (hS : Sigs w SA S) (hD : Alos w D l)
    (hno : ∀ n', fr ≤ n' → n' ≤ te → ∀ s b : Nat, s < slN P pa → b < blN P pa bn → freeB ce P S l ⟨pa, n', (s : Int), sy, sn, (b : Int), bn⟩ = false) :
    Calls Try.prog 11 #[.agg #[strV nm, .int .i64 ce, .int .i64 wi, .slice PA P.length pc, .slice SA S.length sc], .slice D l.length d, .agg #[.int .i64 pa, .int .i64 fr, .int .i64 te, .int .i64 sy, .int .i64 sn, .int .i64 bn]] w fun e w' => e = .returned (.bool true) ∧ Below w.heap.size w w' := by
  have HC := hide hc
  have HX := hide hx
  have HL := hide hl
  have HNO := hide hno
  have HNM := hide hnm
  have hll : l.length ≤ 1000 := by have := hl.few; omega
  have hpl : P.length ≤ 1000 := by have := hc.pn; omega
  have HT := hide (((((((stay_blk (Blk.new w 25 #[strV nm, .int .i64 ce, .int .i64 wi, .slice PA P.length pc, .slice SA S.length sc])).alloc (.cells #[.int .i64 pa, .int .i64 fr, .int .i64 te, .int .i64 sy, .int .i64 sn, .int .i64 bn] 27)).and (stay_blk (blk_up w 25 27 #[strV nm, .int .i64 ce, .int .i64 wi, .slice PA P.length pc, .slice SA S.length sc] #[.int .i64 pa, .int .i64 fr, .int .i64 te, .int .i64 sy, .int .i64 sn, .int .i64 bn]))).and (stay_below (((Below.refl _ w).alloc (Nat.le_refl _) (.cells #[strV nm, .int .i64 ce, .int .i64 wi, .slice PA P.length pc, .slice SA S.length sc] 25)).alloc (by simp) (.cells #[.int .i64 pa, .int .i64 fr, .int .i64 te, .int .i64 sy, .int .i64 sn, .int .i64 bn] 27)))).and (((stay_rws hP).alloc (.cells #[strV nm, .int .i64 ce, .int .i64 wi, .slice PA P.length pc, .slice SA S.length sc] 25)).alloc (.cells #[.int .i64 pa, .int .i64 fr, .int .i64 te, .int .i64 sy, .int .i64 sn, .int .i64 bn] 27))).and (((stay_rws hS).alloc (.cells #[strV nm, .int .i64 ce, .int .i64 wi, .slice PA P.length pc, .slice SA S.length sc] 25)).alloc (.cells #[.int .i64 pa, .int .i64 fr, .int .i64 te, .int .i64 sy, .int .i64 sn, .int .i64 bn] 27))).and (((stay_rws hD).alloc (.cells #[strV nm, .int .i64 ce, .int .i64 wi, .slice PA P.length pc, .slice SA S.length sc] 25)).alloc (.cells #[.int .i64 pa, .int .i64 fr, .int .i64 te, .int .i64 sy, .int .i64 sn, .int .i64 bn] 27)))
  clear hP hS hD hnm hl hno
  obtain ⟨k, hk⟩ := Int.eq_ofNat_of_zero_le hx.pp.1
  have hkl : k < P.length := by have := hx.pp.2; omega
  clear hx hc
  obtain ⟨b, o, rfl, -⟩ := Prts.at_ HT.out.now.1.1.2 k hkl
  have HPQ := hide (fun W (h : Prts W (some ⟨b, o, none⟩) P) => prts_now2 h k hkl)
  have HPk := hide (HC.out.ps _ (List.getElem_mem hkl))
  have HPA := hide (show prtAt P (k : Int) = P[k]'hkl from by unfold prtAt; rw [show ((k : Nat) : Int).toNat = k from rfl, List.getElem?_eq_getElem hkl]; rfl)
  obtain ⟨p, hp⟩ : ∃ p, P[k]'hkl = p := ⟨_, rfl⟩
  rw [hp] at HPQ HPk HPA
  clear hp
  subst hk
  obtain ⟨m, hm⟩ := Int.eq_ofNat_of_zero_le HPk.out.mu.1
  have hm3 : m ≤ 3 := by have := HPk.out.mu.2; omega
  have HSN := hide (show slN P (k : Int) = 2 ^ m from by unfold slN; rw [HPA.out, hm]; rfl)
  have HBL := hide (show ((prtAt P (k : Int)).bl.toNat : Int) ≤ 24 from by rw [HPA.out]; have := HPk.out.bl; omega)
  have P2 : ∀ j : Nat, j < m → IntKind.i64.wrap (2 * ((2 ^ j : Nat) : Int)) = ((2 ^ (j + 1) : Nat) : Int) := fun j hj => by
    have h1 : (2 : Int) * ((2 ^ j : Nat) : Int) = ((2 ^ (j + 1) : Nat) : Int) := by rw [Nat.pow_succ]; push_cast; omega
    have h2 : 2 ^ (j + 1) ≤ 2 ^ 3 := Nat.pow_le_pow_right (by omega) (by omega)
    have h3 : (2 : Nat) ^ 3 = 8 := rfl
    rw [h1]
    rw [h3] at h2
    obtain ⟨X, hX⟩ : ∃ X, 2 ^ (j + 1) = X := ⟨_, rfl⟩
    rw [hX] at h2 ⊢
    exact IntWalk.i64_in _ (by omega)
  have HP2 := hide P2
  clear P2
  rw [hm] at HPQ
  clear hm
  have hki : (k : Int) < (P.length : Int) := by omega
  have HBN := hide (show 1 ≤ bn ∧ bn ≤ 24 from by have h := HX.out.bb hkl; have h2 := h.bk; simp only [Int.toNat_natCast] at h2; have h3 := HC.out.ps _ (List.getElem_mem hkl); have := h3.bl; omega)
  have HFF := hide (HX.out.ff)
  obtain ⟨W0, hW0⟩ : ∃ W0, (w.alloc (.cells #[strV nm, .int .i64 ce, .int .i64 wi, .slice (some ⟨b, o, none⟩) P.length pc, .slice SA S.length sc] 25)).alloc (.cells #[.int .i64 (k : Int), .int .i64 fr, .int .i64 te, .int .i64 sy, .int .i64 sn, .int .i64 bn] 27) = W0 := ⟨_, rfl⟩
  rw [hW0] at HT
  have z3 : W0.cell? ⟨w.heap.size, 3, none⟩ = some (.slice (some ⟨b, o, none⟩) P.length pc) := HT.out.now.1.1.1.1.1.cell 3
  have a0 : W0.cell? ⟨w.heap.size + 1, 0, none⟩ = some (.int .i64 (k : Int)) := HT.out.now.1.1.1.1.2.cell 0
  have a1 : W0.cell? ⟨w.heap.size + 1, 1, none⟩ = some (.int .i64 fr) := HT.out.now.1.1.1.1.2.cell 1
  obtain ⟨b0, -, -⟩ := HPQ.out _ HT.out.now.1.1.2
  go_enter Try.func11, Try.ntmps11
  go_wp2_with fail
  first | rw [hW0] | skip
  clear hW0
  go_loopw [7, 8] (fun s i wr => ∃ j : Nat, j ≤ m ∧ i = .int .i64 (j : Int) ∧ s = .int .i64 ((2 ^ j : Nat) : Int) ∧ W0 = wr) (fun _ i _ => m - (intOf i).toNat)
  case atStart => exact ⟨0, Nat.zero_le _, rfl, rfl, rfl⟩
  case round =>
    obtain ⟨j, hj, rfl, rfl, rfl⟩ := hrel
    by_cases hlt : j < m
    · have g1 : (j : Int) < (m : Int) := by omega
      have w1 := HP2.out j hlt
      obtain ⟨X, hX⟩ : ∃ X : Int, ((2 ^ j : Nat) : Int) = X := ⟨_, rfl⟩
      have HXX := hide hX
      rw [hX] at w1 ⊢
      clear hX
      go_wp2_with fail
      go_roundw
      case rel => exact ⟨j + 1, by omega, by go_num, rfl, by first | rfl | trivial⟩
      case measure => simp [intOf]; omega
    · obtain rfl : j = m := by omega
      have g1 : ¬ (j : Int) < (j : Int) := by omega
      obtain ⟨N, hN⟩ : ∃ N : Nat, 2 ^ j = N := ⟨_, rfl⟩
      rw [hN] at HSN ⊢
      have HN8 := hide (show N ≤ 8 from by rw [← hN]; have h2 : 2 ^ j ≤ 2 ^ 3 := Nat.pow_le_pow_right (by omega) (by omega); have h3 : (2 : Nat) ^ 3 = 8 := rfl; omega)
      clear hN
      go_wp2_with fail
      clear a1 b0 a0 z3
      go_loopw [9] (fun i wr => ∃ n : Int, fr ≤ n ∧ n ≤ te + 1 ∧ i = .int .i64 n ∧ Below W0.heap.size W0 wr) (fun i _ => (te + 1 - intOf i).toNat)
      case atStart => exact ⟨fr, Int.le_refl _, by have := HFF.out; omega, rfl, Below.refl _ _⟩
      case round =>
        obtain ⟨n, hn1, hn2, rfl, hF⟩ := hrel
        have HF := hide hF
        have HQ := hide (HT.out.step hF)
        clear hF
        have a2 : wr.cell? ⟨w.heap.size + 1, 2, none⟩ = some (.int .i64 te) := HQ.out.now.1.1.1.1.2.cell 2
        by_cases hlt : n ≤ te
        · have g2 : decide (n ≤ te) = true := decide_eq_true hlt
          have H1 := hide hlt
          have H2 := hide hn1
          clear hlt hn1 hn2
          go_wp2_with fail
          clear a2
          obtain ⟨wo, hwo⟩ : ∃ wo : World, wo = wr := ⟨_, rfl⟩
          subst hwo
          go_loopw [10] (fun i wr => ∃ s : Nat, s ≤ N ∧ i = .int .i64 (s : Int) ∧ Below wo.heap.size wo wr) (fun i _ => N - (intOf i).toNat)
          case atStart => exact ⟨0, Nat.zero_le _, rfl, Below.refl _ _⟩
          case round =>
            obtain ⟨s, hs, rfl, hF⟩ := hrel
            have HF3 := hide hF
            have HQ3 := hide (HQ.out.step hF)
            clear hF
            by_cases hlt : s < N
            · have g3 : (s : Int) < (N : Int) := by omega
              have a0 : wr.cell? ⟨w.heap.size + 1, 0, none⟩ = some (.int .i64 (k : Int)) := HQ3.out.now.1.1.1.1.2.cell 0
              have a3 : wr.cell? ⟨w.heap.size + 1, 3, none⟩ = some (.int .i64 sy) := HQ3.out.now.1.1.1.1.2.cell 3
              have a4 : wr.cell? ⟨w.heap.size + 1, 4, none⟩ = some (.int .i64 sn) := HQ3.out.now.1.1.1.1.2.cell 4
              have HR := hide (fun R => run_short (ce := ce) (P := P) (S := S) (l := l) (pa := (k : Int)) (fr := fr) (te := te) (sy := sy) (sn := sn) (bn := bn) (n := n) (N := N) (s := s) HBN.out.1 (by rw [← HSN.out]; exact HNO.out) H2.out H1.out hlt (R := R))
              have HOA := hide (show OkAl P ⟨(k : Int), n, (s : Int), sy, sn, 0, 1⟩ from by
                have h := ok_wA HC.out HX.out H2.out H1.out (sl := s) (bk := 0) (by rw [HSN.out]; exact hlt) (by unfold blN; rw [HPA.out]; have h2 := (HX.out.bb hkl).bk; have h3 := HPk.out.bl; have h4 := HPA.out; unfold prtAt at h4; rw [show ((k : Nat) : Int).toNat = k from rfl, List.getElem?_eq_getElem hkl] at h4; simp only [Int.toNat_natCast] at h2; rw [show P[k] = p from h4] at h2; omega)
                exact ⟨h.pa, h.sf, h.sl, fun q => by have h5 := h.bx q; exact ⟨h5.sy, by have := h5.bk; simp only [] at this ⊢; omega⟩⟩)
              have H3 := hide hlt
              clear hlt hs
              go_wp2_with fail
              clear a0 a3 a4
              have HA := hide ((HQ3.out.alloc (.cells #[.int .i64 (k : Int), .int .i64 n, .int .i64 (s : Int), .int .i64 sy, .int .i64 sn, .int .i64 0, .int .i64 1] 34)).and (stay_blk (Blk.new wr 34 #[.int .i64 (k : Int), .int .i64 n, .int .i64 (s : Int), .int .i64 sy, .int .i64 sn, .int .i64 0, .int .i64 1])))
              have HFA := hide (HF3.out.alloc HF3.out.size (.cells #[.int .i64 (k : Int), .int .i64 n, .int .i64 (s : Int), .int .i64 sy, .int .i64 sn, .int .i64 0, .int .i64 1] 34))
              obtain ⟨A0, hA0⟩ : ∃ A0, wr.heap.size = A0 := ⟨_, rfl⟩
              obtain ⟨wa, hwa⟩ : ∃ wa, wr.alloc (.cells #[.int .i64 (k : Int), .int .i64 n, .int .i64 (s : Int), .int .i64 sy, .int .i64 sn, .int .i64 0, .int .i64 1] 34) = wa := ⟨_, rfl⟩
              rw [hwa] at HA HFA ⊢
              rw [hA0] at HA ⊢
              clear hwa hA0
              go_cut [12, 13] from 50 to 96 (fun s12 s13 wx => ∃ (A : Option Addr) (c : Nat) (R : List (Nat × Nat)), s12 = .slice A R.length c ∧ s13 = .int .i64 0 ∧ Rws 2 rgc wx A R ∧ RunsOk (fun j => freeB ce P S l ⟨(k : Int), n, (s : Int), sy, sn, (j : Int), 1⟩) (prtAt P (k : Int)).bl.toNat R ∧ Below wa.heap.size wa wx)
              case first =>
                refine wp_region_held_drew (S := fun w_ => Below wa.heap.size wa w_) (by kernel_rfl) (below_drewN (Below.refl wa.heap.size wa) 1) (fun hHeld => ?_)
                obtain ⟨v0, hv0⟩ : ∃ v0, wa.drew = v0 := ⟨_, rfl⟩
                replace hHeld : Below wa.heap.size wa wa.drew := hHeld
                rw [hv0] at hHeld
                first | rw [hv0] | (change wpAnyH _ _ _ _ _ _ _ _ wa.drew; rw [hv0])
                clear hv0
                refine take_at (i := 0) 51 (v := .agg #[strV nm, .int .i64 ce, .int .i64 wi, .slice (some ⟨b, o, none⟩) P.length pc, .slice SA S.length sc]) rfl rfl (by kernel_rfl) (by kernel_rfl) (by kernel_rfl) (fun _ _ _ h => h) (Or.inl ⟨by rfl, by intro w_ hSw; have c0 : w_.cell? ⟨w.heap.size, 0, none⟩ = some (strV nm) := (HA.out _ hSw).1.1.1.1.1.1.cell 0; have c1 : w_.cell? ⟨w.heap.size, 1, none⟩ = some (.int .i64 ce) := (HA.out _ hSw).1.1.1.1.1.1.cell 1; have c2 : w_.cell? ⟨w.heap.size, 2, none⟩ = some (.int .i64 wi) := (HA.out _ hSw).1.1.1.1.1.1.cell 2; have c3 : w_.cell? ⟨w.heap.size, 3, none⟩ = some (.slice (some ⟨b, o, none⟩) P.length pc) := (HA.out _ hSw).1.1.1.1.1.1.cell 3; have c4 : w_.cell? ⟨w.heap.size, 4, none⟩ = some (.slice SA S.length sc) := (HA.out _ hSw).1.1.1.1.1.1.cell 4; go_simp⟩) (by assumption) ?_
                try simp only [Act.put, List.setIfInBounds_toArray, List.set_cons_zero, List.set_cons_succ]
                refine take_at (i := 2) 53 (v := .slice D l.length d) rfl rfl (by kernel_rfl) (by kernel_rfl) (by kernel_rfl) (fun _ _ _ h => h) (Or.inl ⟨by rfl, by intro w_ hSw; go_simp⟩) (by assumption) ?_
                try simp only [Act.put, List.setIfInBounds_toArray, List.set_cons_zero, List.set_cons_succ]
                refine take_at (i := 4) 55 (v := .agg #[.int .i64 (k : Int), .int .i64 n, .int .i64 (s : Int), .int .i64 sy, .int .i64 sn, .int .i64 0, .int .i64 1]) rfl rfl (by kernel_rfl) (by kernel_rfl) (by kernel_rfl) (fun _ _ _ h => h) (Or.inl ⟨by rfl, by intro w_ hSw; have d0 : w_.cell? ⟨A0, 0, none⟩ = some (.int .i64 (k : Int)) := (HA.out _ hSw).2.cell 0; have d1 : w_.cell? ⟨A0, 1, none⟩ = some (.int .i64 n) := (HA.out _ hSw).2.cell 1; have d2 : w_.cell? ⟨A0, 2, none⟩ = some (.int .i64 (s : Int)) := (HA.out _ hSw).2.cell 2; have d3 : w_.cell? ⟨A0, 3, none⟩ = some (.int .i64 sy) := (HA.out _ hSw).2.cell 3; have d4 : w_.cell? ⟨A0, 4, none⟩ = some (.int .i64 sn) := (HA.out _ hSw).2.cell 4; have d5 : w_.cell? ⟨A0, 5, none⟩ = some (.int .i64 0) := (HA.out _ hSw).2.cell 5; have d6 : w_.cell? ⟨A0, 6, none⟩ = some (.int .i64 1) := (HA.out _ hSw).2.cell 6; go_simp⟩) (by assumption) ?_
                try simp only [Act.put, List.setIfInBounds_toArray, List.set_cons_zero, List.set_cons_succ]
                refine wpAnyH_ready (rs := [1]) (by kernel_rfl) (by simp) ?_
                refine AllReadyH.cons rfl (fun K hK => ?_) AllReadyH.nil
                go_simp
                go_at_call 9
                refine (copy_ref nm ce wi (some ⟨b, o, none⟩) SA pc sc P S _ hpl hsl (HA.out _ hHeld).1.1.1.2 (HA.out _ hHeld).1.1.2).mono ?_
                rintro e v1 ⟨A1, q1, A2, q2, rfl, hs1, hs2, hb⟩
                replace hHeld := Below.step hHeld hb
                have HS1 := hide (stay_rws hs1)
                have HS2 := hide (stay_rws hs2)
                clear hs1 hs2
                clear hb
                simp only []
                refine hK.out _ _ hHeld (fun hHeld => ?_)
                clear hK K
                try simp only [Act.put, List.setIfInBounds_toArray, List.set_cons_zero, List.set_cons_succ]
                refine wpAnyH_ready (rs := [3]) (by kernel_rfl) (by simp) ?_
                refine AllReadyH.cons rfl (fun K hK => ?_) AllReadyH.nil
                go_simp
                go_at_call 10
                refine (copyAllocations_ref l D d l.length _ rfl (HA.out _ hHeld).1.2 hll).mono ?_
                rintro e v2 ⟨A3, q3, rfl, hq3, hs3, hb⟩
                replace HS1 := hide (HS1.out.step hb)
                replace HS2 := hide (HS2.out.step hb)
                replace hHeld := Below.step hHeld hb
                have HS3 := hide (stay_rws hs3)
                have HQ3c := hide hq3
                clear hs3 hq3
                clear hb
                simp only []
                refine hK.out _ _ hHeld (fun hHeld => ?_)
                clear hK K
                try simp only [Act.put, List.setIfInBounds_toArray, List.set_cons_zero, List.set_cons_succ]
                refine wpAnyH_ready (rs := [5]) (by kernel_rfl) (by simp) ?_
                refine AllReadyH.cons rfl (fun K hK => ?_) AllReadyH.nil
                go_simp
                go_at_call 28
                refine (freeBlocks_ok nm ce wi A1 A2 q1 q2 P S l A3 q3 ⟨(k : Int), n, (s : Int), sy, sn, 0, 1⟩ _ HNM.out HC.out HL.out HQ3c.out HOA.out HS1.out.now HS2.out.now HS3.out.now).mono ?_
                rintro e v3 ⟨A, c, R, rfl, hs4, hR, hb⟩
                replace HS1 := hide (HS1.out.step hb)
                replace HS2 := hide (HS2.out.step hb)
                replace HS3 := hide (HS3.out.step hb)
                replace hHeld := Below.step hHeld hb
                have HS4 := hide hs4
                have HRR := hide hR
                clear hs4 hR
                clear hb
                simp only []
                refine hK.out _ _ hHeld (fun hHeld => ?_)
                clear hK K
                try simp only [Act.put, List.setIfInBounds_toArray, List.set_cons_zero, List.set_cons_succ]
                refine take_at (i := 6) 50 (v := .tuple #[.slice A R.length c, .int .i64 0]) rfl rfl (by kernel_rfl) (by kernel_rfl) (by kernel_rfl) (fun _ _ _ h => h) (Or.inl ⟨by rfl, by intro w_ hSw; go_simp⟩) (by assumption) ?_
                try simp only [Act.put, List.setIfInBounds_toArray, List.set_cons_zero, List.set_cons_succ]
                refine take_at (i := 7) 57 (v := .slice A R.length c) rfl rfl (by kernel_rfl) (by kernel_rfl) (by kernel_rfl) (fun _ _ _ h => h) (Or.inl ⟨by rfl, by intro w_ hSw; go_simp⟩) (by assumption) ?_
                try simp only [Act.put, List.setIfInBounds_toArray, List.set_cons_zero, List.set_cons_succ]
                refine take_at (i := 8) 58 (v := .int .i64 0) rfl rfl (by kernel_rfl) (by kernel_rfl) (by kernel_rfl) (fun _ _ _ h => h) (Or.inl ⟨by rfl, by intro w_ hSw; go_simp⟩) (by assumption) ?_
                try simp only [Act.put, List.setIfInBounds_toArray, List.set_cons_zero, List.set_cons_succ]
                refine take_at (i := 9) 12 (v := .slice A R.length c) rfl rfl (by kernel_rfl) (by kernel_rfl) (by kernel_rfl) (fun _ _ _ h => h) (Or.inl ⟨by rfl, by intro w_ hSw; go_simp⟩) (by assumption) ?_
                try simp only [Act.put, List.setIfInBounds_toArray, List.set_cons_zero, List.set_cons_succ]
                refine take_at (i := 10) 13 (v := .int .i64 0) rfl rfl (by kernel_rfl) (by kernel_rfl) (by kernel_rfl) (fun _ _ _ h => h) (Or.inl ⟨by rfl, by intro w_ hSw; go_simp⟩) (by assumption) ?_
                try simp only [Act.put, List.setIfInBounds_toArray, List.set_cons_zero, List.set_cons_succ]
                refine wpAnyH_done (by kernel_rfl) ?_ _
                go_wp2_with fail
                go_meet
                exact ⟨A, c, R, rfl, rfl, HS4.out, HRR.out, hHeld⟩
              case rest =>
                obtain ⟨A, c, R, rfl, rfl, hA, hR, hB⟩ := hcut
                have HRS := hide (HR.out R hR)
                have HRL := hide (show R.length ≤ 24 from by have := hR.1; have := HBL.out; omega)
                have HRW := hide hA
                have HBC := hide (Below.step HFA.out hB)
                have HA2 := hide (HA.out.step hB)
                clear hA hR hB HR HA HFA
                go_wp2_with fail
                go_loopw [14] (fun i wr => ∃ j : Nat, j ≤ R.length ∧ i = .int .i64 (j : Int) ∧ Below wc.heap.size wc wr) (fun i _ => R.length - (intOf i).toNat)
                case atStart => exact ⟨0, Nat.zero_le _, rfl, Below.refl _ _⟩
                case round =>
                  obtain ⟨j, hj, rfl, hF⟩ := hrel
                  have HF4 := hide hF
                  by_cases hlt : j < R.length
                  · have g4 : (j : Int) < (R.length : Int) := by omega
                    have hrr := HRS.out _ (List.getElem_mem hlt)
                    obtain ⟨rb, ro, rfl, rl, rh⟩ := rng_now (HRW.out.bel hF) j hlt
                    obtain ⟨⟨lo, hi⟩, hr⟩ : ∃ r, R[j] = r := ⟨_, rfl⟩
                    rw [hr] at hrr rl rh
                    dsimp only at hrr rl rh
                    clear hr hF
                    have a5 : wr.cell? ⟨w.heap.size + 1, 5, none⟩ = some (.int .i64 bn) := (HA2.out _ HF4.out).1.1.1.1.1.2.cell 5
                    have hbl := HBL.out
                    have hrl := HRL.out
                    have hbn := HBN.out
                    have w1 : IntKind.i64.wrap ((lo : Int) + bn) = (lo : Int) + bn := IntWalk.i64_in _ (by omega)
                    have w2 : IntKind.i64.wrap ((lo : Int) + bn - 2) = (lo : Int) + bn - 2 := IntWalk.i64_in _ (by omega)
                    have K1 := hide (within_b (show withinB (lo : Int) 0 24 = true from by simp [withinB]; omega))
                    have K2 := hide (within_b (show withinB (hi : Int) (lo : Int) ((lo : Int) + bn - 2) = true from by simp [withinB]; omega))
                    clear hrr hbl hbn
                    go_wp2_with fail
                    go_quiet (first | (go_at_call 29; first | with_reducible exact Calls.quiet_of_same (K1.out _) | with_reducible exact Calls.quiet_of_same (K2.out _)))
                    go_wp2_with fail
                    go_roundw
                    case rel => exact ⟨j + 1, by omega, by go_num, below_drewN HF4.out _⟩
                    case measure => simp [intOf]; omega
                  · obtain rfl : j = R.length := by omega
                    have g4 : ¬ (R.length : Int) < (R.length : Int) := by omega
                    have H3' := H3.out
                    have hn8 := HN8.out
                    have HBE := hide (Below.step HBC.out hF)
                    clear hF
                    go_wp2_with fail
                    go_roundw
                    case rel => exact ⟨s + 1, by omega, by go_num, HBE.out⟩
                    case measure => simp [intOf]; omega
            · obtain rfl : s = N := by omega
              have g3 : ¬ (s : Int) < (s : Int) := by omega
              have h1 := H1.out
              have h2 := H2.out
              have hff := HFF.out
              have HBE := hide (Below.step HF.out HF3.out)
              have w1 : IntKind.i64.wrap (n + 1) = n + 1 := IntWalk.i64_in _ (by omega)
              go_wp2_with fail
              go_roundw
              case rel => exact ⟨n + 1, by omega, by omega, by go_num, HBE.out⟩
              case measure => simp [intOf]; omega
        · have g2 : decide (n ≤ te) = false := decide_eq_false hlt
          have HBE := hide HQ.out.now.1.1.1.2
          clear hlt hn1 hn2
          go_wp2_with fail
          go_ret
          exact ⟨rfl, HBE.out⟩
end Go.Proofs.Ytfolipkbcibgdaa
