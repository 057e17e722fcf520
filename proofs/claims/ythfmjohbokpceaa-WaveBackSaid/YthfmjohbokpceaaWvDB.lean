import Derived.Test.YthfmjohbokpceaaWvDA
import Derived.Test.YthfmjohbokpceaaListG
import Derived.Test.YthfmjohbokpceaaListP
import Derived.Test.YthfmjohbokpceaaStay
namespace Go.Proofs.Ythfmjohbokpceaa
open Go.RowKit Go.WideShapes Go.ChangeShapes

/-! paths: the errors of a response (program); the reference -/
set_option maxRecDepth 100000 in
set_option maxHeartbeats 2000000 in
theorem ResponseOf_err (A : Option Addr) (c : Nat) (l : List Pth) (w : World) (hs : Sl w A (pvs l)) (hl : l.length ≤ 1000000) (h : (pthV l).2 ≠ 0) :
    Calls Try.prog 65 #[.slice A l.length c] w fun e w' => e = .returned (.tuple #[.agg (numArr [] 8), .int .i64 (pthV l).2]) ∧ Below w.heap.size w w' := by
  have HS := hide hs
  obtain ⟨p0, hp0⟩ : ∃ z, (pthV l).1 = z := ⟨_, rfl⟩
  obtain ⟨p1, hp1⟩ : ∃ z, (pthV l).2 = z := ⟨_, rfl⟩
  have HP := hide (fun W (h : Sl W A (pvs l)) => by have := checkPaths_wave A c l W h hl; rw [hp0, hp1] at this; exact this)
  rw [hp1] at h
  rw [hp1]
  have hq : (p1 != 0) = true := by rw [bne_iff_ne]; exact h
  clear hs hp0 hp1 h
  go_enter Try.func65, Try.ntmps65
  go_wp2_with (first
    | (go_at_call 63; go_must (refine (HP.out _ (HS.out.bel (by go_grown))).mono ?_; rintro e w1 ⟨rfl, hb1⟩; have b1 : Below w.heap.size w w1 := Below.step (by go_grown) hb1; have hR := hide (Blk.bel2 hb1 (show Blk _ w.heap.size 96 (numArr [] 8) from (Blk.new w _ _).alloc _) (by simp <;> omega)); have hO := hide (Blk.bel2 hb1 (show Blk _ (w.heap.size + 1) 96 (numArr [] 8) from Blk.newN _ _ _ (by simp)) (by simp <;> omega)); clear hb1; simp only []))
    | (refine wpList_load_row rfl 96 (.tmp 4) rfl (w.heap.size + 1) rfl 96 (numArr [] 8) (0, 0) _ hO.out Try.underlying96 rfl (by kernel_rfl) ?_)
    | (refine wpList_store_row rfl 96 (.tmp 2) (.tmp 18) rfl w.heap.size (numArr [] 8) rfl rfl 96 (numArr [] 8) hR.out (by kernel_rfl) (by kernel_rfl) (numArr_one _ _) ?_))
  exact bodyPost_ret (results_row_tmp rfl _ _ w.heap.size 96 (numArr [] 8) _ (.int .i64 p1) rfl rfl (hR.out.row (numArr [] 8)) Try.underlying96 rfl (by kernel_rfl)) rfl ⟨rfl, Below.row b1 (Nat.le_refl _) _⟩
theorem entry_ref (z : Int × Int) (w : World) : Calls Try.prog 147 #[.agg #[.int .i64 z.1, .int .i64 z.2]] w fun e w' => e = .returned (nv (ent z)) ∧ Below w.heap.size w w' := by
  obtain ⟨a, b⟩ := z
  go_enter Try.func147, Try.ntmps147
  go_wp2
  go_returns
  exact ⟨rfl, by go_grown⟩
def nmulE (g : Int × Int) (x : Nm) : Nm := (g.1 * x.1 + g.2 * (tni x 2).1, g.1 * x.2.1 + g.2 * (tni x 2).2.1, g.1 * x.2.2.1 + g.2 * (tni x 2).2.2.1, g.1 * x.2.2.2 + g.2 * (tni x 2).2.2.2)
theorem nmulE_is (g : Int × Int) (x : Nm) : nmulE g x = nmul x (ent g) := by
  have h : tni x 2 = (-x.2.2.1, -x.2.2.2, x.1, x.2.1) := rfl
  unfold nmulE nmul ent
  rw [h]
  dsimp only
  refine nm_ext ?_ ?_ ?_ ?_ <;> dsimp only <;> grind
set_option maxRecDepth 100000 in
set_option maxHeartbeats 4000000 in
theorem times_ref (g : Int × Int) (x : Nm) (w : World) (hg : -100 ≤ g.1 ∧ g.1 ≤ 100 ∧ -100 ≤ g.2 ∧ g.2 ≤ 100) (hx : nle 1000000000 x) :
    Calls Try.prog 148 #[.agg #[.int .i64 g.1, .int .i64 g.2], nv x] w fun e w' => e = .returned (nv (nmul x (ent g))) ∧ Below w.heap.size w w' := by
  rw [← nmulE_is]
  have HT := hide (fun W => turn_ref x 2 W (nle_mono hx (by decide)) (by decide) (by decide))
  have hy := nle_tni hx 2
  unfold nmulE
  obtain ⟨y, hyy⟩ : ∃ y, tni x 2 = y := ⟨_, rfl⟩
  rw [hyy] at HT hy
  rw [hyy]
  obtain ⟨p, q⟩ := g
  obtain ⟨a, b, c, d⟩ := x
  obtain ⟨a', b', c', d'⟩ := y
  unfold nle at hx hy
  dsimp only at hg hx hy ⊢
  obtain ⟨g1, g2, g3, g4⟩ := hg
  obtain ⟨a1, a2, b1, b2, c1, c2, d1, d2⟩ := hx
  obtain ⟨a3, a4, b3, b4, c3, c4, d3, d4⟩ := hy
  obtain ⟨m1, m2⟩ := mul_le_size g1 g2 a1 a2
  obtain ⟨m3, m4⟩ := mul_le_size g1 g2 b1 b2
  obtain ⟨m5, m6⟩ := mul_le_size g1 g2 c1 c2
  obtain ⟨m7, m8⟩ := mul_le_size g1 g2 d1 d2
  obtain ⟨k1, k2⟩ := mul_le_size g3 g4 a3 a4
  obtain ⟨k3, k4⟩ := mul_le_size g3 g4 b3 b4
  obtain ⟨k5, k6⟩ := mul_le_size g3 g4 c3 c4
  obtain ⟨k7, k8⟩ := mul_le_size g3 g4 d3 d4
  clear hyy
  go_enter Try.func148, Try.ntmps148
  go_wp2_with (go_at_call 38; go_must (refine (HT.out _).mono ?_; rintro e w1 ⟨rfl, hb1⟩; have b1 : Below w.heap.size w w1 := Below.step (by go_grown) hb1; obtain ⟨hc1, hf1, y10, y11, y12⟩ := bloc3 w hb1 (by first | omega | (simp; done) | (simp; omega)); have z1 := b1.size; have v0 : w1.cell? ⟨w.heap.size + 1 + 1, 0, none⟩ = some (.int .i64 0) := (hc1 _ 0 (by omega)).trans (by simp [go_sem]); have v1 : w1.cell? ⟨w.heap.size + 1 + 1, 1, none⟩ = some (.int .i64 0) := (hc1 _ 1 (by omega)).trans (by simp [go_sem]); have v2 : w1.cell? ⟨w.heap.size + 1 + 1, 2, none⟩ = some (.int .i64 0) := (hc1 _ 2 (by omega)).trans (by simp [go_sem]); have v3 : w1.cell? ⟨w.heap.size + 1 + 1, 3, none⟩ = some (.int .i64 0) := (hc1 _ 3 (by omega)).trans (by simp [go_sem]); clear hb1; simp only []))
  exact bodyPost_ret (v := nv (p * a + q * a', p * b + q * b', p * c + q * c', p * d + q * d')) (by simp [results, Try.results148, go_sem, v0, v1, v2, v3, y12]) rfl ⟨rfl, by go_grown⟩
theorem pthG_zero (l : List Pth) (k : Nat) (hk : k < l.length) (last : Int) (i : Int) : pthG last i (l.drop k) = if rightB (kp l k) then (if last < (kp l k).1 then pthG (kp l k).1 (i + 1) (l.drop (k + 1)) else (i, 9)) else (i, 2) := by
  rw [kp_at hk]; exact pthG_drop l k hk last i
def lastOf (l : List Pth) (k : Nat) : Int := if k = 0 then -1 else (kp l (k - 1)).1
set_option maxRecDepth 100000 in
set_option maxHeartbeats 8000000 in
theorem checkPaths_ref (A : Option Addr) (c : Nat) (l : List Pth) (w : World) (hs : Sl w A (pvs l)) :
    Calls Try.prog 66 #[.slice A l.length c] w fun e w' => e = .returned (.tuple #[.int .i64 (pthV l).1, .int .i64 (pthV l).2]) ∧ Below w.heap.size w w' := by
  have HS := hide hs
  have HAT := hide (fun k (hk : k < l.length) => hs.atP hk)
  clear hs
  by_cases h0 : l.length = 0
  · have hv : pthV l = (0, 10) := if_pos h0
    rw [hv]
    have q1 : ((l.length : Int) == 0) = true := by rw [h0]; rfl
    clear hv h0
    go_enter Try.func66, Try.ntmps66
    go_wp2
    go_ret2
    exact ⟨rfl, Below.refl _ _⟩
  have q1 : ((l.length : Int) == 0) = false := by rw [beq_eq_false_iff_ne]; omega
  by_cases h6 : 6 < l.length
  · have hv : pthV l = (0, 8) := by unfold pthV; rw [if_neg h0, if_pos h6]
    rw [hv]
    clear hv h0
    go_enter Try.func66, Try.ntmps66
    go_wp2
    go_ret2
    exact ⟨rfl, Below.refl _ _⟩
  have HV := hide (show pthV l = pthG (lastOf l 0) 0 l by unfold pthV; rw [if_neg h0, if_neg h6]; rfl)
  have hl6 : l.length ≤ 6 := by omega
  have HG := hide (fun k hk last (i : Int) => pthG_zero l k hk last i)
  have HLA := hide (show ∀ k, lastOf l (k + 1) = (kp l k).1 from fun k => by unfold lastOf; rw [if_neg (by omega), Nat.add_sub_cancel])
  have HL0 := hide (show lastOf l 0 = -1 from rfl)
  clear h0 h6
  go_enter Try.func66, Try.ntmps66
  go_wp2
  go_loopw [4] (fun i wr => ∃ k : Nat, k ≤ l.length ∧ i = .int .i64 k ∧ pthV l = pthG (lastOf l k) k (l.drop k) ∧ Below w.heap.size w wr) (fun i _ => l.length - (intOf i).toNat)
  case atStart => exact ⟨0, Nat.zero_le _, rfl, by rw [HV.out]; rfl, Below.refl _ _⟩
  case round =>
    obtain ⟨k, hk, rfl, he, hbel⟩ := hrel
    have HE := hide he
    have hbz := hbel.size
    clear he HV
    by_cases hlt : k < l.length
    · obtain ⟨b, off, rfl, e0, e1, e2⟩ := HAT.out k hlt
      have HCE := hide (show ∀ W, Below w.heap.size w W → W.cell? ⟨b, off + k * 3, none⟩ = some (.int .i64 (kp l k).1) ∧ W.cell? ⟨b, off + k * 3 + 1, none⟩ = some (.int .i64 (kp l k).2.1) ∧ W.cell? ⟨b, off + k * 3 + 2, none⟩ = some (.int .i64 (kp l k).2.2) from fun W h =>
        ⟨(h.cell (p := ⟨b, off + k * 3, none⟩) (lt_of_cell e0)).trans e0, (h.cell (p := ⟨b, off + k * 3 + 1, none⟩) (lt_of_cell e1)).trans e1, (h.cell (p := ⟨b, off + k * 3 + 2, none⟩) (lt_of_cell e2)).trans e2⟩)
      obtain ⟨d0, d1, d2⟩ := HCE.out _ hbel
      have hst := HG.out k hlt (lastOf l k) k
      have hla := HLA.out k
      have hprev : ∀ j, k = j + 1 → ∀ W, Below w.heap.size w W → W.cell? ⟨b, off + j * 3, none⟩ = some (.int .i64 (kp l j).1) := fun j hj W h => by
        obtain ⟨b1, o1, e, f0, _⟩ := HAT.out j (by omega)
        injection e with e
        injection e with e3 e4
        subst e3 e4
        exact (h.cell (p := ⟨b, off + j * 3, none⟩) (lt_of_cell f0)).trans f0
      have HPREV := hide hprev
      obtain ⟨⟨dl, ga, gb⟩, hp⟩ : ∃ p, kp l k = p := ⟨_, rfl⟩
      rw [hp] at d0 d1 d2 hst hla HCE
      dsimp only at d0 d1 d2 hst hla HCE
      have HST := hide hst
      have HRB := hide (show rightB (dl, ga, gb) = (withinB dl 0 7 && entB 100 (ga, gb)) from rfl)
      have HNX := hide hla
      have HIE := hide (fun W => isEntry_ref (ga, gb) 100 W (by decide) (by decide))
      clear hst e0 e1 e2 hp hprev hla HG HLA
      cases hD : withinB dl 0 7
      · have hres := hide (show pthG (lastOf l k) k (l.drop k) = ((k : Int), 2) by rw [HST.out, HRB.out, hD]; rfl)
        go_wp2_with (go_at_call 24; refine (within_base _ _ _ _).mono ?_; rintro e w' ⟨rfl, rfl⟩; rw [hD]; simp only [])
        go_ret2
        exact ⟨by rw [HE.out, hres.out]; rfl, hbel⟩
      · cases hN : entB 100 (ga, gb)
        · have hres := hide (show pthG (lastOf l k) k (l.drop k) = ((k : Int), 2) by rw [HST.out, HRB.out, hD, hN]; rfl)
          rw [hN] at HIE
          go_wp2_with (first
            | (go_at_call 24; refine (within_base _ _ _ _).mono ?_; rintro e w' ⟨rfl, rfl⟩; rw [hD]; simp only [])
            | (go_at_call 104; go_must (refine (HIE.out _).mono ?_; rintro e w1 ⟨rfl, hb1⟩; have b1 := Below.step hbel hb1; clear hb1; simp only [])))
          go_ret2
          exact ⟨by rw [HE.out, hres.out]; rfl, b1⟩
        · have hdl : 0 ≤ dl ∧ dl ≤ 7 := by unfold withinB at hD; simpa using hD
          rw [hN] at HIE
          have HR2 := hide (show rightB (dl, ga, gb) = true by rw [HRB.out, hD, hN]; rfl)
          clear HRB
          by_cases hk0 : k = 0
          · have hres := hide (show pthG (lastOf l k) k (l.drop k) = pthG dl ((k : Int) + 1) (l.drop (k + 1)) by rw [HST.out, HR2.out, if_pos rfl, if_pos (by rw [hk0, HL0.out]; omega)])
            have k1 : decide ((k : Int) > 0) = false := by rw [decide_eq_false_iff_not]; omega
            have k2 : decide (0 < k) = false := by rw [decide_eq_false_iff_not]; omega
            have k3 : decide ((0 : Int) < (k : Int)) = false := by rw [decide_eq_false_iff_not]; omega
            have HK := hide hk0
            clear hk0 HPREV hN
            go_wp2_with (first
              | (go_at_call 24; refine (within_base _ _ _ _).mono ?_; rintro e w' ⟨rfl, rfl⟩; rw [hD]; simp only [])
              | (go_at_call 104; go_must (refine (HIE.out _).mono ?_; rintro e w1 ⟨rfl, hb1⟩; have b1 := Below.step hbel hb1; have z1 := b1.size; clear hb1; simp only [])))
            go_quiet (fail)
            go_wp2
            go_roundw
            case rel => exact ⟨k + 1, by omega, by go_num, by rw [HE.out, hres.out, HNX.out]; rfl, by first | exact below_drewN b1 _ | assumption⟩
            case measure => simp [intOf]; omega
          · obtain ⟨j, rfl⟩ : ∃ j, k = j + 1 := ⟨k - 1, by omega⟩
            have hjl : (kp l j).1 = lastOf l (j + 1) := by unfold lastOf; rw [if_neg (by omega), Nat.add_sub_cancel]
            have HPV := hide (HPREV.out j rfl)
            obtain ⟨la, hla⟩ : ∃ la, lastOf l (j + 1) = la := ⟨_, rfl⟩
            rw [hla] at HST HE hjl
            rw [hjl] at HPV
            have w1' : IntKind.i64.wrap (((j + 1 : Nat) : Int) - 1) = (j : Int) := by rw [show ((j + 1 : Nat) : Int) - 1 = (j : Int) by omega]; exact IntWalk.i64_in _ (by omega)
            have w2' : IntKind.i64.wrap (((j : Int) + 1) - 1) = (j : Int) := by rw [show ((j : Int) + 1) - 1 = (j : Int) by omega]; exact IntWalk.i64_in _ (by omega)
            have k1 : decide (((j + 1 : Nat) : Int) > 0) = true := by rw [decide_eq_true_iff]; omega
            have k3 : decide ((0 : Int) < ((j : Int) + 1)) = true := by rw [decide_eq_true_iff]; omega
            have k4 : decide (((j : Int) + 1) > 0) = true := by rw [decide_eq_true_iff]; omega
            have g1 : (0 : Int) ≤ (j : Int) := by omega
            have g2 : (j : Int) < (l.length : Int) := by omega
            have g3 : (0 : Int) ≤ (j : Int) + 1 := by omega
            have g4 : (j : Int) + 1 < (l.length : Int) := by omega
            clear hk0 HPREV hN hla hjl
            by_cases hord : la < dl
            · have hres := hide (show pthG la ((j + 1 : Nat) : Int) (l.drop (j + 1)) = pthG dl (((j + 1 : Nat) : Int) + 1) (l.drop (j + 1 + 1)) by rw [HST.out, HR2.out, if_pos rfl, if_pos hord])
              have k5 : decide (dl ≤ la) = false := by rw [decide_eq_false_iff_not]; omega
              go_wp2_with (first
                | (go_at_call 24; refine (within_base _ _ _ _).mono ?_; rintro e w' ⟨rfl, rfl⟩; rw [hD]; simp only [])
                | (go_at_call 104; go_must (refine (HIE.out _).mono ?_; rintro e w1 ⟨rfl, hb1⟩; have b1 := Below.step hbel hb1; have z1 := b1.size; have d3 := (HCE.out _ b1).1; have d4 := HPV.out _ b1; clear hb1; simp only [])))
              go_quiet (fail)
              go_wp2
              go_roundw
              case rel => exact ⟨j + 1 + 1, by omega, by go_num, by rw [HE.out, hres.out, HNX.out]; rfl, by first | exact below_drewN b1 _ | assumption⟩
              case measure => simp [intOf]; omega
            · have hres := hide (show pthG la ((j + 1 : Nat) : Int) (l.drop (j + 1)) = (((j + 1 : Nat) : Int), 9) by rw [HST.out, HR2.out, if_pos rfl, if_neg hord])
              have k5 : decide (dl ≤ la) = true := by rw [decide_eq_true_iff]; omega
              go_wp2_with (first
                | (go_at_call 24; refine (within_base _ _ _ _).mono ?_; rintro e w' ⟨rfl, rfl⟩; rw [hD]; simp only [])
                | (go_at_call 104; go_must (refine (HIE.out _).mono ?_; rintro e w1 ⟨rfl, hb1⟩; have b1 := Below.step hbel hb1; have z1 := b1.size; have d3 := (HCE.out _ b1).1; have d4 := HPV.out _ b1; clear hb1; simp only [])))
              go_quiet (fail)
              go_wp2
              go_ret2
              exact ⟨by rw [HE.out, hres.out]; first | rfl | exact ret2i (by omega) rfl, by first | exact below_drewN b1 _ | assumption⟩
    · obtain rfl : k = l.length := by omega
      go_wp2
      go_ret2
      exact ⟨by rw [HE.out, List.drop_eq_nil_of_le (Nat.le_refl _)]; rfl, hbel⟩
end Go.Proofs.Ythfmjohbokpceaa
