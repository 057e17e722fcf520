import Derived.Test.YthfmjohbokpceaaBtwLaw
import Derived.Test.YthfmjohbokpceaaListG
import Derived.Test.YthfmjohbokpceaaWvQ
import Derived.Test.YthfmjohbokpceaaWvEA
namespace Go.Proofs.Ythfmjohbokpceaa
open Go.RowKit Go.WideShapes Go.ChangeShapes

/-! the statement WaveBetween -/
theorem within_had {n lo hi : Int} {b : Bool} (h : withinB n lo hi = b) (w : World) : Calls Try.prog 24 #[.int .i64 n, .int .i64 lo, .int .i64 hi] w fun x w' => x = .returned (.bool b) ∧ w = w' := by
  subst h; exact within_base _ _ _ _
theorem reads_pair (W : World) (a b : Value) (t : TypeId) : Reads (W.alloc (.cells #[a, b] t)) (W.heap.size + 1) 2 (some ⟨W.heap.size, 0, none⟩) 1 [a, b] :=
  ⟨rfl, fun _ => ⟨⟨W.heap.size, 0, none⟩, rfl, Nat.lt_succ_self _, cells_new W [a, b] t⟩⟩
theorem slice_gs_u : Try.prog.underlying 83 = some (.slice (Try.prog.elem 83)) := by kernel_rfl
theorem slice_top (b off len c n : Nat) (h0 : 0 < c) (hn : n ≤ c) (w : World) : (Instr.sliceAt 83 (.slice (some ⟨b, off, none⟩) len c) none (some (.int .i64 (n : Int))) none).run Try.prog w = .ok (.slice (some ⟨b, off, none⟩) n c) w := by
  rw [run_sliceAt_slice w _ _ _ _ _ slice_gs_u, run_slice_h w _ _ _ _ slice_gs_u .i64 (n : Int) (by omega) (by omega), show Try.prog.elem 83 = 30 by kernel_rfl, size_ga]
  rw [Int.toNat_natCast]
  simp only [Result.andThen_ok, sliced, if_neg (show ¬ c = 0 by omega), Option.map_some, Nat.zero_mul, add_lit, Nat.sub_zero, Nat.add_zero]
theorem gv_take : ∀ (x : List (Int × Int)) (j : Nat), gv (x.take j) = (gv x).take (j * 2)
  | [], j => by simp [gv]
  | z :: r, 0 => by simp [gv]
  | z :: r, j + 1 => by
    rw [List.take_succ_cons, gv_cons, gv_cons, gv_take r j, show (j + 1) * 2 = j * 2 + 1 + 1 by omega, List.take_succ_cons, List.take_succ_cons]
theorem Sl.top {w : World} {A : Option Addr} {x : List (Int × Int)} (h : Sl w A (gv x)) (j : Nat) : Sl w A (gv (x.take j)) := fun k hk => by
  have hk2 : k < (gv x).length := by rw [gv_take, List.length_take] at hk; omega
  obtain ⟨b, off, e, hc⟩ := h k hk2
  refine ⟨b, off, e, ?_⟩
  rw [hc]
  congr 1
  simp only [gv_take, List.getElem_take]
theorem nth_succ (ch : List (Int × Int)) (s k : Nat) : gv (nth ch s (k + 1)) = gv (nth ch s k) ++ [.int .i64 (kg ch (k * s)).1, .int .i64 (kg ch (k * s)).2] := by
  unfold nth
  rw [List.range_succ, List.map_append, gv_append]; rfl
theorem kg_take (ch : List (Int × Int)) (N j : Nat) (h : j < N) : kg (ch.take N) j = kg ch j := by unfold kg; rw [List.getElem?_take, if_pos h]
set_option maxRecDepth 100000 in
set_option maxHeartbeats 20000000 in
theorem WaveBetween_law (A : Option Addr) (c M : Nat) (ch : List (Int × Int)) (st : Int) (w : World) (hM : ch.length = M) (hs0 : Sl w A (gv ch)) (hc : M ≤ c) :
    Calls Try.prog 12 #[.slice A M c, .int .i64 st] w fun e w' => e = .returned (.bool true) ∧ Below w.heap.size w w' := by
  have HT := hide ((stay_sl hs0).and (stay_below (Below.refl w.heap.size w)))
  clear hs0
  by_cases hm0 : M = 0
  · subst hm0
    clear hM
    go_enter Try.func12, Try.ntmps12
    go_wp2_with (first
      | (go_at_call 20; go_must (refine (awake_ok _).mono ?_; rintro e w1 ⟨rfl, hb⟩; replace HT := hide (HT.out.step hb); clear hb; simp only [])))
    go_ret
    exact ⟨rfl, HT.out.now.2⟩
  have q0 : ((M : Int) == 0) = false := by rw [beq_eq_false_iff_ne]; omega
  by_cases hm1 : 60 < M
  · clear hM hm0
    go_enter Try.func12, Try.ntmps12
    go_wp2_with (first
      | (go_at_call 20; go_must (refine (awake_ok _).mono ?_; rintro e w1 ⟨rfl, hb⟩; replace HT := hide (HT.out.step hb); clear hb; simp only [])))
    go_ret
    exact ⟨rfl, HT.out.now.2⟩
  have hm2 : M ≤ 60 := by omega
  have hd60 : decide (60 < (M : Int)) = false := by rw [decide_eq_false_iff_not]; omega
  have hm3 : 0 < M := by omega
  clear hm0 hm1
  have HEE := hide (fun W (h : Sl W A (gv ch)) => by have := errGauss A c ch W h (by omega); rw [hM] at this; exact this)
  by_cases hE : eachE entE ch = 0
  rotate_left
  · obtain ⟨V, hV⟩ : ∃ V, eachE entE ch = V := ⟨_, rfl⟩
    rw [hV] at HEE hE
    have hv : (V != 0) = true := by rw [bne_iff_ne]; exact hE
    clear hE hV hM
    go_enter Try.func12, Try.ntmps12
    go_wp2_with (first
      | (go_at_call 20; go_must (refine (awake_ok _).mono ?_; rintro e w1 ⟨rfl, hb⟩; replace HT := hide (HT.out.step hb); clear hb; simp only []))
      | (go_at_call 59; go_must (refine (HEE.out _ HT.out.now.1).mono ?_; rintro e w2 ⟨rfl, hb⟩; replace HT := hide (HT.out.step hb); clear hb; simp only [])))
    go_ret
    exact ⟨rfl, HT.out.now.2⟩
  rw [hE] at HEE
  cases hw : withinB st 1 20
  · have HW := hide hw
    clear hw hM hE
    go_enter Try.func12, Try.ntmps12
    go_wp2_with (first
      | (go_at_call 20; go_must (refine (awake_ok _).mono ?_; rintro e w1 ⟨rfl, hb⟩; replace HT := hide (HT.out.step hb); clear hb; simp only []))
      | (go_at_call 59; go_must (refine (HEE.out _ HT.out.now.1).mono ?_; rintro e w2 ⟨rfl, hb⟩; replace HT := hide (HT.out.step hb); clear hb; simp only []))
      | (go_at_call 24; go_must (refine (within_had HW.out _).mono ?_; rintro e w' ⟨rfl, rfl⟩; simp only [])))
    go_ret
    exact ⟨rfl, HT.out.now.2⟩
  have HW := hide hw
  have hst : 1 ≤ st ∧ st ≤ 20 := by simpa [withinB] using hw
  obtain ⟨s, rfl⟩ : ∃ s : Nat, st = s := ⟨st.toNat, by omega⟩
  have hs1 : 1 ≤ s := by omega
  have hs2 : s ≤ 20 := by omega
  have HE := hide hE
  have HM := hide hM
  clear hw hst hM hE
  obtain ⟨i0, hi0, hz0, hz1, hz2⟩ := info_parts ga_infoW
  go_enter Try.func12, Try.ntmps12
  go_wp2_with (first
    | (go_at_call 20; go_must (refine (awake_ok _).mono ?_; rintro e w1 ⟨rfl, hb⟩; replace HT := hide (HT.out.step hb); clear hb; simp only []))
    | (go_at_call 59; go_must (refine (HEE.out _ HT.out.now.1).mono ?_; rintro e w2 ⟨rfl, hb⟩; replace HT := hide (HT.out.step hb); clear hb; simp only []))
    | (go_at_call 24; go_must (refine (within_had HW.out _).mono ?_; rintro e w' ⟨rfl, rfl⟩; simp only [])))
  go_loopw [5, 6] (fun o i wr => ∃ (k : Nat) (C : Option Addr) (ck : Nat), (k = 0 ∨ (k - 1) * s < M) ∧ i = .int .i64 ((k * s : Nat) : Int) ∧ o = .slice C k ck ∧ wr.ownsRow w2.heap.size 30 2 (.slice C k ck) k (gv (nth ch s k)) ∧ Below w2.heap.size w2 wr) (fun _ i _ => M - (intOf i).toNat)
  case atStart => exact ⟨0, none, 0, .inl rfl, by rw [Nat.zero_mul]; rfl, rfl, World.ownsRow_nil _ _ _ _, Below.refl _ _⟩
  case round =>
    obtain ⟨k, C, ck, hk, rfl, rfl, hrow, hbel⟩ := hrel
    have HROW := hide hrow
    have HBE := hide hbel
    have hsz := hbel.size
    by_cases hlt : k * s < M
    · have HX := (HT.out _ hbel).1
      obtain ⟨b, off, rfl, x0, x1⟩ := HX.at2 (k := k * s) (by rw [HM.out]; exact hlt)
      have hx : ch[k * s]'(by rw [HM.out]; exact hlt) = kg ch (k * s) := by unfold kg; rw [List.getElem?_eq_getElem]; rfl
      rw [hx] at x0 x1
      have HNX := hide (nth_succ ch s k)
      obtain ⟨P, hP⟩ : ∃ P, kg ch (k * s) = P := ⟨_, rfl⟩
      rw [hP] at x0 x1 HNX
      have hkm : k ≤ k * s := Nat.le_mul_of_pos_right k hs1
      have hks := Nat.succ_mul k s
      have HKS := hide hks
      obtain ⟨x, hxx⟩ : ∃ x, k * s = x := ⟨_, rfl⟩
      have HXX := hide hxx
      rw [hxx] at hlt hkm hks x0 x1 ⊢
      clear hx hP hrow HX hbel hxx hks
      go_wp2_with (at_builtin
                   refine wpList_append_any _ rfl (.tmp 42) (.tmp 47) _ rfl w2.heap.size 30 i0 _ 2 16 Try.underlying83 hi0 hz0 hz1 hz2 rfl (by omega) _ k (gv (nth ch s k)) rfl
                     (HROW.out.alloc _) (wr.heap.size + 1) (some ⟨wr.heap.size, 0, none⟩) 1 1 [.int .i64 P.1, .int .i64 P.2] rfl (reads_pair wr (.int .i64 P.1) (.int .i64 P.2) 30) (by simp [Value.oneCell']) (by simp only [maxLen]; omega) (by omega) (by simp; omega) ?_
                   intro v' w6 hown' hgrow _)
      obtain ⟨C2, k2, rfl⟩ := own_form hown'
      have hbel6 : Below w2.heap.size w2 w6 := Below.app HBE.out HROW.out hgrow
      go_roundw
      case rel => exact ⟨k + 1, C2, k2, .inr (by rw [Nat.add_sub_cancel, HXX.out]; exact hlt), by rw [HKS.out, HXX.out]; go_num, rfl, by rw [HNX.out]; exact hown', hbel6⟩
      case measure => simp [intOf]; omega
    · have hk0 : 0 < k := by
        rcases Nat.eq_zero_or_pos k with h | h
        · subst h; rw [Nat.zero_mul] at hlt; omega
        · exact h
      have hk1 : (k - 1) * s < M := by rcases hk with h | h <;> omega
      clear hk
      have HBW := hide (Below.step HT.out.now.2 HBE.out)
      by_cases h40 : 40 < k
      · clear hk1 hbel hrow
        go_wp2
        go_ret
        exact ⟨rfl, HBW.out⟩
      have hk40 : k ≤ 40 := by omega
      obtain ⟨N, hN⟩ : ∃ N, (k - 1) * s + 1 = N := ⟨_, rfl⟩
      have hNM : N ≤ M := by omega
      obtain ⟨b, off, rfl, -⟩ := ((HT.out _ hbel).1).at2 (k := 0) (by rw [HM.out]; omega)
      have hsl := slice_top b off M c N (by omega) (by omega)
      have hwl : (ch.take N).length = N := by rw [List.length_take, HM.out]; omega
      have HTP := hide (stay_sl (((HT.out _ hbel).1).top N))
      have HV := hide (stay_below HBW.out)
      have hE2 : eachE entE (ch.take N) = 0 := eachE_zero fun z hz => eachE_ok HE.out z (List.mem_of_mem_take hz)
      have hE3 : eachE entE (nth ch s k) = 0 := eachE_zero fun z hz => by
        unfold nth at hz
        obtain ⟨i, _, rfl⟩ := List.mem_map.1 hz
        have := kg_le (fun z hz => eachE_ok HE.out z hz) (i * s)
        unfold entE unlessE entB withinB
        rw [if_pos (by simp; omega)]
      have HCG := hide (fun W (h : Sl W (some ⟨b, off, none⟩) (gv (ch.take N))) => show Calls Try.prog 57 #[.slice (some ⟨b, off, none⟩) N c] W fun e w' => ∃ D dk, e = .returned (.slice D N dk) ∧ Sl w' D (gv (ch.take N)) ∧ Below W.heap.size W w' from by
        have := copyGauss (some ⟨b, off, none⟩) c (ch.take N) W h (by omega)
        rw [hwl] at this
        exact this.mono fun e w' ⟨D, dk, h1, h2, h3⟩ => ⟨D, dk, h1, Sl.of_ownN h2, h3⟩)
      have HRS := hide (stay_sl (Sl.of_ownN hrow))
      have HIN := hide (fun W (h : Sl W C (gv (nth ch s k))) => Interpolated_ok C ck k s N (nth ch s k) W (nth_len ch s k) h hk0 hk40 hE3 hs1 hs2 hN.symm)
      have HBO := hide (fun D dk W (h : Sl W D (gv (ch.take N))) => BendOf_ok D dk N (ch.take N) W hwl h (by omega) hE2)
      have HZB := bend_bd hE2 (N - 2)
      have HBT := hide (fun i (hi : i < N) => btw_right ch s k i hs1 hs2 hk0 (by rw [hN]; exact hi) (ch.take N) (fun j hj => kg_take ch N j (by omega)) (fun z hz => eachE_ok HE.out z hz))
      rw [hN] at HBT
      obtain ⟨Z, hZ⟩ : ∃ Z, bendF (ch.take N) (N - 2) = Z := ⟨_, rfl⟩
      rw [hZ] at HBO HZB HBT
      obtain ⟨z0, z1⟩ := HZB
      have d0 : decide (Z < 0) = false := by rw [decide_eq_false_iff_not]; omega
      have d1 : decide (40000 < Z) = false := by rw [decide_eq_false_iff_not]; omega
      have hmul : ((k - 1 : Nat) : Int) * (s : Int) = (((k - 1) * s : Nat) : Int) := by push_cast; rfl
      have hw1 : IntKind.i64.wrap (((k : Int) - 1) * (s : Int)) = (N : Int) - 1 := by
        rw [show (k : Int) - 1 = ((k - 1 : Nat) : Int) by omega, hmul]
        exact (IntWalk.i64_in _ (by omega)).trans (by omega)
      have hN1 : 1 ≤ N := by omega
      have HWL := hide hwl
      clear hwl hE2 hE3 hZ hmul hN hk1 hrow hbel HROW h40
      go_wp2_with (first
        | (go_at_call 57; go_must (refine (HCG.out _ HTP.out.now).mono ?_; rintro e w4 ⟨D, dk, rfl, ho, hb⟩; replace HV := hide (HV.out.step hb); replace HRS := hide (HRS.out.step hb); have HD := hide (stay_sl ho); clear ho hb; simp only []))
        | (go_at_call 75; go_must (refine (HIN.out _ HRS.out.now).mono ?_; rintro e w5 ⟨X, xk, rfl, ho, hb⟩; replace HV := hide (HV.out.step hb); replace HD := hide (HD.out.step hb); have HX := hide (stay_sl (Sl.of_ownN ho)); clear ho hb; simp only []))
        | (go_at_call 76; go_must (refine (HBO.out _ _ _ HD.out.now).mono ?_; rintro e w6 ⟨rfl, hb⟩; replace HV := hide (HV.out.step hb); replace HD := hide (HD.out.step hb); replace HX := hide (HX.out.step hb); clear hb; simp only [])))
      clear hsl HIN HBO HCG HTP HRS hw1 d0 d1
      obtain ⟨xb, xo, rfl, -⟩ := HX.out.now.at3 (k := 0) (by unfold phL; rw [tab_len]; omega)
      obtain ⟨wb, wo, rfl, -⟩ := HD.out.now.at2 (k := 0) (by rw [HWL.out]; omega)
      go_loopw [12] (fun i wr => ∃ j : Nat, j ≤ N ∧ i = .int .i64 (j : Int) ∧ Below w6.heap.size w6 wr) (fun i _ => N - (intOf i).toNat)
      case atStart => exact ⟨0, Nat.zero_le _, rfl, Below.refl _ _⟩
      case round =>
        obtain ⟨j, hj, rfl, hbj⟩ := hrel
        by_cases hjt : j < N
        · have HBJ := hide hbj
          obtain ⟨⟨p1, p2⟩, ⟨p3, p4⟩, ⟨p5, p6⟩, ⟨p7, p8⟩, p9, p10⟩ := HBT.out j hjt
          obtain ⟨xb', xo', e2, x0, x1, x2⟩ := (HX.out _ hbj).at3 (k := j) (by unfold phL; rw [tab_len]; exact hjt)
          injection e2 with e2; injection e2 with e3 e4 _; subst e3 e4
          have hxe : (phL (nth ch s k) s N)[j]'(by unfold phL; rw [tab_len]; exact hjt) = phV (nth ch s k) s j := by
            have h1 : (phL (nth ch s k) s N)[j]? = some (phV (nth ch s k) s j) := tab_at _ hjt
            rw [List.getElem?_eq_getElem (by unfold phL; rw [tab_len]; exact hjt)] at h1
            injection h1
          rw [hxe] at x0 x1 x2
          have HWC := hide (fun W (h : Below w6.heap.size w6 W) => show W.cell? ⟨wb, wo + j * 2, none⟩ = some (.int .i64 (kg (ch.take N) j).1) ∧ W.cell? ⟨wb, wo + j * 2 + 1, none⟩ = some (.int .i64 (kg (ch.take N) j).2) from by
            obtain ⟨b2, off2, e, h1, h2⟩ := (HD.out _ h).at2 (k := j) (by rw [HWL.out]; exact hjt)
            injection e with e; injection e with e3 e4 _; subst e3 e4
            have hx : (ch.take N)[j]'(by rw [HWL.out]; exact hjt) = kg (ch.take N) j := by unfold kg; rw [List.getElem?_eq_getElem]; rfl
            rw [hx] at h1 h2
            exact ⟨h1, h2⟩)
          have hv := kg_le (fun z hz => eachE_ok HE.out z hz) j
          rw [← kg_take ch N j hjt] at hv
          obtain ⟨V, hV⟩ : ∃ V, kg (ch.take N) j = V := ⟨_, rfl⟩
          rw [hV] at p7 p8 p9 p10 HWC hv
          obtain ⟨P, hP⟩ : ∃ P, phV (nth ch s k) s j = P := ⟨_, rfl⟩
          rw [hP] at p1 p2 p3 p4 p5 p6 p7 p8 p9 p10 x0 x1 x2
          obtain ⟨pr, pim, pd⟩ := P
          dsimp only at p1 p2 p3 p4 p5 p6 p7 p8 p9 p10 x0 x1 x2
          obtain ⟨r, hr⟩ : ∃ r, j % s = r := ⟨_, rfl⟩
          have hrs : r < s := by rw [← hr]; exact Nat.mod_lt _ (by omega)
          have q3 : (j : Int).tmod (s : Int) = (r : Int) := by rw [← Int.ofNat_tmod, hr]
          have q4 : (j : Int) % (s : Int) = (r : Int) := by rw [← hr]; push_cast; rfl
          rw [hr] at p7 p8 p9 p10
          obtain ⟨m1, hm1⟩ : ∃ m, V.1 * pd = m := ⟨_, rfl⟩
          obtain ⟨m2, hm2'⟩ : ∃ m, V.2 * pd = m := ⟨_, rfl⟩
          obtain ⟨c2, hc2⟩ : ∃ m, (s : Int) - (r : Int) = m := ⟨_, rfl⟩
          obtain ⟨c1, hc1⟩ : ∃ m, Z * (r : Int) = m := ⟨_, rfl⟩
          obtain ⟨c3, hc3⟩ : ∃ m, c1 * c2 = m := ⟨_, rfl⟩
          obtain ⟨c4, hc4⟩ : ∃ m, c3 * pd = m := ⟨_, rfl⟩
          rw [hm1] at p7 p8
          rw [hm2'] at p9 p10
          rw [hc1, hc2, hc3, hc4] at p7 p8 p9 p10
          obtain ⟨u1, u2⟩ := mul_le_size hv.1 hv.2.1 (show -20 ≤ pd by omega) (show pd ≤ 20 by omega)
          obtain ⟨u3, u4⟩ := mul_le_size hv.2.2.1 hv.2.2.2 (show -20 ≤ pd by omega) (show pd ≤ 20 by omega)
          obtain ⟨u5, u6⟩ := mul_le_size (show -40000 ≤ Z by omega) z1 (show -20 ≤ (r : Int) by omega) (show (r : Int) ≤ 20 by omega)
          rw [hm1] at u1 u2
          rw [hm2'] at u3 u4
          rw [hc1] at u5 u6
          obtain ⟨u7, u8⟩ := mul_le_size (a := c1) (b := c2) (m := 800000) (n := 20) (by omega) (by omega) (by omega) (by omega)
          rw [hc3] at u7 u8
          obtain ⟨u9, u10⟩ := mul_le_size (a := c3) (b := pd) (m := 16000000) (n := 20) (by omega) (by omega) (by omega) (by omega)
          rw [hc4] at u9 u10
          have v1 : IntKind.i64.wrap (V.1 * pd) = m1 := by rw [hm1]; exact IntWalk.i64_in _ (by omega)
          have v2 : IntKind.i64.wrap (V.2 * pd) = m2 := by rw [hm2']; exact IntWalk.i64_in _ (by omega)
          have v3 : IntKind.i64.wrap (pr - m1) = pr - m1 := IntWalk.i64_in _ (by omega)
          have v4 : IntKind.i64.wrap (pim - m2) = pim - m2 := IntWalk.i64_in _ (by omega)
          obtain ⟨A1, hA1⟩ : ∃ a : Int, ((pr - m1).natAbs : Int) = a := ⟨_, rfl⟩
          obtain ⟨A2, hA2⟩ : ∃ a : Int, ((pim - m2).natAbs : Int) = a := ⟨_, rfl⟩
          have HZ1 := hide (fun W => by have := size_base (pr - m1) (by omega) (by omega) W; rw [hA1] at this; exact this)
          have HZ2 := hide (fun W => by have := size_base (pim - m2) (by omega) (by omega) W; rw [hA2] at this; exact this)
          have v5 : IntKind.i64.wrap (2 * A1) = 2 * A1 := IntWalk.i64_in _ (by omega)
          have v6 : IntKind.i64.wrap (2 * A2) = 2 * A2 := IntWalk.i64_in _ (by omega)
          have v7 : IntKind.i64.wrap (Z * (r : Int)) = c1 := by rw [hc1]; exact IntWalk.i64_in _ (by omega)
          have v8 : IntKind.i64.wrap ((s : Int) - (r : Int)) = c2 := by rw [hc2]; exact IntWalk.i64_in _ (by omega)
          have v9 : IntKind.i64.wrap (c1 * c2) = c3 := by rw [hc3]; exact IntWalk.i64_in _ (by omega)
          have v10 : IntKind.i64.wrap (c3 * pd) = c4 := by rw [hc4]; exact IntWalk.i64_in _ (by omega)
          have y1 : decide (c4 < 2 * A1) = false := by rw [decide_eq_false_iff_not]; omega
          have y2 : decide (c4 < 2 * A2) = false := by rw [decide_eq_false_iff_not]; omega
          have HVS := hide (And.intro v1 (And.intro v2 (And.intro v3 (And.intro v4 (And.intro v5 (And.intro v6 (And.intro v7 (And.intro v8 (And.intro v9 (And.intro v10 (And.intro y1 y2)))))))))))
          have W1' : withinB pd 1 20 = true := by unfold withinB; simp; omega
          have W2' : withinB pr (-1000000000) 1000000000 = true := by unfold withinB; simp; omega
          have W3' : withinB pim (-1000000000) 1000000000 = true := by unfold withinB; simp; omega
          have HW1 := hide W1'
          have HW2 := hide W2'
          have HW3 := hide W3'
          have k3 : (0 : Int) ≤ (j : Int) := by omega
          have k4 : (j : Int) < (N : Int) := by omega
          have s0 : (1 : Int) ≤ (s : Int) := by omega
          have hs8 : ¬ s = 0 := by omega
          clear v1 v2 v3 v4 v5 v6 v7 v8 v9 v10 y1 y2 W1' W2' W3' hm1 hm2' hc1 hc2 hc3 hc4 hA1 hA2 hV hP hxe hr hv p1 p2 p3 p4 p5 p6 p7 p8 p9 p10 u1 u2 u3 u4 u5 u6 u7 u8 u9 u10 hbj q3
          go_wp2_with (go_at_call 24; go_must (refine (within_base _ _ _ _).mono ?_; rintro e w' ⟨rfl, rfl⟩; (first | rw [HW1.out] | rw [HW2.out] | rw [HW3.out]); simp only []))
          have hgb := Blk.new wr 118 #[.int .i64 pr, .int .i64 pim, .int .i64 pd]
          have hbb := HBJ.out.alloc HBJ.out.size (.cells #[.int .i64 pr, .int .i64 pim, .int .i64 pd] 118)
          obtain ⟨W7, hW7⟩ : ∃ W7, wr.alloc (.cells #[.int .i64 pr, .int .i64 pim, .int .i64 pd] 118) = W7 := ⟨_, rfl⟩
          rw [hW7] at hgb hbb ⊢
          clear hW7 x0 x1 x2
          obtain ⟨gy, hgy⟩ : ∃ g, wr.heap.size = g := ⟨_, rfl⟩
          rw [hgy] at hgb ⊢
          clear hgy
          obtain ⟨v1, v2, v3, v4, v5, v6, v7, v8, v9, v10, y1, y2⟩ := HVS.out
          have HH0 := hide (show (fun w' => Below w6.heap.size w6 w' ∧ Blk w' gy 118 #[.int .i64 pr, .int .i64 pim, .int .i64 pd]) W7.drew from ⟨below_drewN hbb 1, hgb⟩)
          refine wp_region_held_drew (S := fun w' => Below w6.heap.size w6 w' ∧ Blk w' gy 118 #[.int .i64 pr, .int .i64 pim, .int .i64 pd]) (by kernel_rfl) HH0.out (fun hHeld => ?_)
          refine take_at (i := 0) 122 (v := .pointer (some ⟨gy, 0, none⟩)) rfl rfl (by kernel_rfl) (by kernel_rfl) (by kernel_rfl) (fun _ _ _ h => h) (Or.inl ⟨by rfl, by intro w hSw; go_simp⟩) (by assumption) ?_
          try simp only [Act.put, List.setIfInBounds_toArray, List.set_cons_zero, List.set_cons_succ]
          refine take_at (i := 1) 123 (v := .int .i64 pr) rfl rfl (by kernel_rfl) (by kernel_rfl) (by kernel_rfl) (fun _ _ _ h => h) (Or.inl ⟨by rfl, by intro w hSw; have c := hSw.2.cell 0; go_simp⟩) (by assumption) ?_
          try simp only [Act.put, List.setIfInBounds_toArray, List.set_cons_zero, List.set_cons_succ]
          refine take_at (i := 2) 124 (v := .slice (some ⟨wb, wo, none⟩) N dk) rfl rfl (by kernel_rfl) (by kernel_rfl) (by kernel_rfl) (fun _ _ _ h => h) (Or.inl ⟨by rfl, by intro w hSw; go_simp⟩) (by assumption) ?_
          try simp only [Act.put, List.setIfInBounds_toArray, List.set_cons_zero, List.set_cons_succ]
          refine take_at (i := 3) 125 (v := .int .i64 (j : Int)) rfl rfl (by kernel_rfl) (by kernel_rfl) (by kernel_rfl) (fun _ _ _ h => h) (Or.inl ⟨by rfl, by intro w hSw; go_simp⟩) (by assumption) ?_
          try simp only [Act.put, List.setIfInBounds_toArray, List.set_cons_zero, List.set_cons_succ]
          refine take_at (i := 4) 126 (v := .pointer (some ⟨wb, wo + j * 2, none⟩)) rfl rfl (by kernel_rfl) (by kernel_rfl) (by kernel_rfl) (fun _ _ _ h => h) (Or.inl ⟨by rfl, by intro w hSw; go_simp⟩) (by assumption) ?_
          try simp only [Act.put, List.setIfInBounds_toArray, List.set_cons_zero, List.set_cons_succ]
          refine take_at (i := 5) 127 (v := .pointer (some ⟨wb, wo + j * 2, none⟩)) rfl rfl (by kernel_rfl) (by kernel_rfl) (by kernel_rfl) (fun _ _ _ h => h) (Or.inl ⟨by rfl, by intro w hSw; go_simp⟩) (by assumption) ?_
          try simp only [Act.put, List.setIfInBounds_toArray, List.set_cons_zero, List.set_cons_succ]
          refine take_at (i := 6) 128 (v := .int .i64 V.1) rfl rfl (by kernel_rfl) (by kernel_rfl) (by kernel_rfl) (fun _ _ _ h => h) (Or.inl ⟨by rfl, by intro w hSw; have c := (HWC.out w hSw.1).1; go_simp⟩) (by assumption) ?_
          try simp only [Act.put, List.setIfInBounds_toArray, List.set_cons_zero, List.set_cons_succ]
          refine take_at (i := 7) 129 (v := .pointer (some ⟨gy, 2, none⟩)) rfl rfl (by kernel_rfl) (by kernel_rfl) (by kernel_rfl) (fun _ _ _ h => h) (Or.inl ⟨by rfl, by intro w hSw; go_simp⟩) (by assumption) ?_
          try simp only [Act.put, List.setIfInBounds_toArray, List.set_cons_zero, List.set_cons_succ]
          refine take_at (i := 8) 130 (v := .int .i64 pd) rfl rfl (by kernel_rfl) (by kernel_rfl) (by kernel_rfl) (fun _ _ _ h => h) (Or.inl ⟨by rfl, by intro w hSw; have c := hSw.2.cell 2; go_simp⟩) (by assumption) ?_
          try simp only [Act.put, List.setIfInBounds_toArray, List.set_cons_zero, List.set_cons_succ]
          refine take_at (i := 9) 131 (v := .int .i64 m1) rfl rfl (by kernel_rfl) (by kernel_rfl) (by kernel_rfl) (fun _ _ _ h => h) (Or.inl ⟨by rfl, by intro w hSw; go_simp⟩) (by assumption) ?_
          try simp only [Act.put, List.setIfInBounds_toArray, List.set_cons_zero, List.set_cons_succ]
          refine take_at (i := 10) 132 (v := .int .i64 (pr - m1)) rfl rfl (by kernel_rfl) (by kernel_rfl) (by kernel_rfl) (fun _ _ _ h => h) (Or.inl ⟨by rfl, by intro w hSw; go_simp⟩) (by assumption) ?_
          try simp only [Act.put, List.setIfInBounds_toArray, List.set_cons_zero, List.set_cons_succ]
          refine take_at (i := 13) 135 (v := .int .i64 Z) rfl rfl (by kernel_rfl) (by kernel_rfl) (by kernel_rfl) (fun _ _ _ h => h) (Or.inl ⟨by rfl, by intro w hSw; go_simp⟩) (by assumption) ?_
          try simp only [Act.put, List.setIfInBounds_toArray, List.set_cons_zero, List.set_cons_succ]
          refine take_at (i := 14) 136 (v := .int .i64 (r : Int)) rfl rfl (by kernel_rfl) (by kernel_rfl) (by kernel_rfl) (fun _ _ _ h => h) (Or.inl ⟨by rfl, by intro w hSw; go_simp⟩) (by assumption) ?_
          try simp only [Act.put, List.setIfInBounds_toArray, List.set_cons_zero, List.set_cons_succ]
          refine take_at (i := 15) 137 (v := .int .i64 c1) rfl rfl (by kernel_rfl) (by kernel_rfl) (by kernel_rfl) (fun _ _ _ h => h) (Or.inl ⟨by rfl, by intro w hSw; go_simp⟩) (by assumption) ?_
          try simp only [Act.put, List.setIfInBounds_toArray, List.set_cons_zero, List.set_cons_succ]
          refine take_at (i := 16) 138 (v := .int .i64 (s : Int)) rfl rfl (by kernel_rfl) (by kernel_rfl) (by kernel_rfl) (fun _ _ _ h => h) (Or.inl ⟨by rfl, by intro w hSw; go_simp⟩) (by assumption) ?_
          try simp only [Act.put, List.setIfInBounds_toArray, List.set_cons_zero, List.set_cons_succ]
          refine take_at (i := 17) 139 (v := .int .i64 (r : Int)) rfl rfl (by kernel_rfl) (by kernel_rfl) (by kernel_rfl) (fun _ _ _ h => h) (Or.inl ⟨by rfl, by intro w hSw; go_simp⟩) (by assumption) ?_
          try simp only [Act.put, List.setIfInBounds_toArray, List.set_cons_zero, List.set_cons_succ]
          refine take_at (i := 18) 140 (v := .int .i64 c2) rfl rfl (by kernel_rfl) (by kernel_rfl) (by kernel_rfl) (fun _ _ _ h => h) (Or.inl ⟨by rfl, by intro w hSw; go_simp⟩) (by assumption) ?_
          try simp only [Act.put, List.setIfInBounds_toArray, List.set_cons_zero, List.set_cons_succ]
          refine take_at (i := 19) 141 (v := .int .i64 c3) rfl rfl (by kernel_rfl) (by kernel_rfl) (by kernel_rfl) (fun _ _ _ h => h) (Or.inl ⟨by rfl, by intro w hSw; go_simp⟩) (by assumption) ?_
          try simp only [Act.put, List.setIfInBounds_toArray, List.set_cons_zero, List.set_cons_succ]
          refine take_at (i := 20) 142 (v := .pointer (some ⟨gy, 2, none⟩)) rfl rfl (by kernel_rfl) (by kernel_rfl) (by kernel_rfl) (fun _ _ _ h => h) (Or.inl ⟨by rfl, by intro w hSw; go_simp⟩) (by assumption) ?_
          try simp only [Act.put, List.setIfInBounds_toArray, List.set_cons_zero, List.set_cons_succ]
          refine take_at (i := 21) 143 (v := .int .i64 pd) rfl rfl (by kernel_rfl) (by kernel_rfl) (by kernel_rfl) (fun _ _ _ h => h) (Or.inl ⟨by rfl, by intro w hSw; have c := hSw.2.cell 2; go_simp⟩) (by assumption) ?_
          try simp only [Act.put, List.setIfInBounds_toArray, List.set_cons_zero, List.set_cons_succ]
          refine take_at (i := 22) 144 (v := .int .i64 c4) rfl rfl (by kernel_rfl) (by kernel_rfl) (by kernel_rfl) (fun _ _ _ h => h) (Or.inl ⟨by rfl, by intro w hSw; go_simp⟩) (by assumption) ?_
          try simp only [Act.put, List.setIfInBounds_toArray, List.set_cons_zero, List.set_cons_succ]
          refine wpAnyH_ready (rs := [11]) (by kernel_rfl) (by simp) ?_
          refine AllReadyH.cons rfl (fun K hK => ?_) AllReadyH.nil
          go_simp
          refine (HZ1.out _).mono ?_
          rintro e w9 ⟨rfl, rfl⟩
          simp only []
          refine hK.out _ _ HH0.out (fun hHeld => ?_)
          clear hK K
          try simp only [Act.put, List.setIfInBounds_toArray, List.set_cons_zero, List.set_cons_succ]
          refine take_at (i := 12) 134 (v := .int .i64 (2 * A1)) rfl rfl (by kernel_rfl) (by kernel_rfl) (by kernel_rfl) (fun _ _ _ h => h) (Or.inl ⟨by rfl, by intro w hSw; go_simp⟩) (by assumption) ?_
          try simp only [Act.put, List.setIfInBounds_toArray, List.set_cons_zero, List.set_cons_succ]
          refine take_at (i := 23) 145 (v := .bool false) rfl rfl (by kernel_rfl) (by kernel_rfl) (by kernel_rfl) (fun _ _ _ h => h) (Or.inl ⟨by rfl, by intro w hSw; go_simp⟩) (by assumption) ?_
          try simp only [Act.put, List.setIfInBounds_toArray, List.set_cons_zero, List.set_cons_succ]
          refine take_at (i := 24) 146 (v := .bool false) rfl rfl (by kernel_rfl) (by kernel_rfl) (by kernel_rfl) (fun _ _ _ h => h) (Or.inl ⟨by rfl, by intro w hSw; go_simp⟩) (by assumption) ?_
          try simp only [Act.put, List.setIfInBounds_toArray, List.set_cons_zero, List.set_cons_succ]
          refine take_at (i := 25) 147 (v := .pointer (some ⟨gy, 1, none⟩)) rfl rfl (by kernel_rfl) (by kernel_rfl) (by kernel_rfl) (fun _ _ _ h => h) (Or.inl ⟨by rfl, by intro w hSw; go_simp⟩) (by assumption) ?_
          try simp only [Act.put, List.setIfInBounds_toArray, List.set_cons_zero, List.set_cons_succ]
          refine take_at (i := 26) 148 (v := .int .i64 pim) rfl rfl (by kernel_rfl) (by kernel_rfl) (by kernel_rfl) (fun _ _ _ h => h) (Or.inl ⟨by rfl, by intro w hSw; have c := hSw.2.cell 1; go_simp⟩) (by assumption) ?_
          try simp only [Act.put, List.setIfInBounds_toArray, List.set_cons_zero, List.set_cons_succ]
          refine take_at (i := 27) 149 (v := .slice (some ⟨wb, wo, none⟩) N dk) rfl rfl (by kernel_rfl) (by kernel_rfl) (by kernel_rfl) (fun _ _ _ h => h) (Or.inl ⟨by rfl, by intro w hSw; go_simp⟩) (by assumption) ?_
          try simp only [Act.put, List.setIfInBounds_toArray, List.set_cons_zero, List.set_cons_succ]
          refine take_at (i := 28) 150 (v := .int .i64 (j : Int)) rfl rfl (by kernel_rfl) (by kernel_rfl) (by kernel_rfl) (fun _ _ _ h => h) (Or.inl ⟨by rfl, by intro w hSw; go_simp⟩) (by assumption) ?_
          try simp only [Act.put, List.setIfInBounds_toArray, List.set_cons_zero, List.set_cons_succ]
          refine take_at (i := 29) 151 (v := .pointer (some ⟨wb, wo + j * 2, none⟩)) rfl rfl (by kernel_rfl) (by kernel_rfl) (by kernel_rfl) (fun _ _ _ h => h) (Or.inl ⟨by rfl, by intro w hSw; go_simp⟩) (by assumption) ?_
          try simp only [Act.put, List.setIfInBounds_toArray, List.set_cons_zero, List.set_cons_succ]
          refine take_at (i := 30) 152 (v := .pointer (some ⟨wb, wo + j * 2 + 1, none⟩)) rfl rfl (by kernel_rfl) (by kernel_rfl) (by kernel_rfl) (fun _ _ _ h => h) (Or.inl ⟨by rfl, by intro w hSw; go_simp⟩) (by assumption) ?_
          try simp only [Act.put, List.setIfInBounds_toArray, List.set_cons_zero, List.set_cons_succ]
          refine take_at (i := 31) 153 (v := .int .i64 V.2) rfl rfl (by kernel_rfl) (by kernel_rfl) (by kernel_rfl) (fun _ _ _ h => h) (Or.inl ⟨by rfl, by intro w hSw; have c := (HWC.out w hSw.1).2; go_simp⟩) (by assumption) ?_
          try simp only [Act.put, List.setIfInBounds_toArray, List.set_cons_zero, List.set_cons_succ]
          refine take_at (i := 32) 154 (v := .pointer (some ⟨gy, 2, none⟩)) rfl rfl (by kernel_rfl) (by kernel_rfl) (by kernel_rfl) (fun _ _ _ h => h) (Or.inl ⟨by rfl, by intro w hSw; go_simp⟩) (by assumption) ?_
          try simp only [Act.put, List.setIfInBounds_toArray, List.set_cons_zero, List.set_cons_succ]
          refine take_at (i := 33) 155 (v := .int .i64 pd) rfl rfl (by kernel_rfl) (by kernel_rfl) (by kernel_rfl) (fun _ _ _ h => h) (Or.inl ⟨by rfl, by intro w hSw; have c := hSw.2.cell 2; go_simp⟩) (by assumption) ?_
          try simp only [Act.put, List.setIfInBounds_toArray, List.set_cons_zero, List.set_cons_succ]
          refine take_at (i := 34) 156 (v := .int .i64 m2) rfl rfl (by kernel_rfl) (by kernel_rfl) (by kernel_rfl) (fun _ _ _ h => h) (Or.inl ⟨by rfl, by intro w hSw; go_simp⟩) (by assumption) ?_
          try simp only [Act.put, List.setIfInBounds_toArray, List.set_cons_zero, List.set_cons_succ]
          refine take_at (i := 35) 157 (v := .int .i64 (pim - m2)) rfl rfl (by kernel_rfl) (by kernel_rfl) (by kernel_rfl) (fun _ _ _ h => h) (Or.inl ⟨by rfl, by intro w hSw; go_simp⟩) (by assumption) ?_
          try simp only [Act.put, List.setIfInBounds_toArray, List.set_cons_zero, List.set_cons_succ]
          refine take_at (i := 38) 160 (v := .int .i64 Z) rfl rfl (by kernel_rfl) (by kernel_rfl) (by kernel_rfl) (fun _ _ _ h => h) (Or.inl ⟨by rfl, by intro w hSw; go_simp⟩) (by assumption) ?_
          try simp only [Act.put, List.setIfInBounds_toArray, List.set_cons_zero, List.set_cons_succ]
          refine take_at (i := 39) 161 (v := .int .i64 (r : Int)) rfl rfl (by kernel_rfl) (by kernel_rfl) (by kernel_rfl) (fun _ _ _ h => h) (Or.inl ⟨by rfl, by intro w hSw; go_simp⟩) (by assumption) ?_
          try simp only [Act.put, List.setIfInBounds_toArray, List.set_cons_zero, List.set_cons_succ]
          refine take_at (i := 40) 162 (v := .int .i64 c1) rfl rfl (by kernel_rfl) (by kernel_rfl) (by kernel_rfl) (fun _ _ _ h => h) (Or.inl ⟨by rfl, by intro w hSw; go_simp⟩) (by assumption) ?_
          try simp only [Act.put, List.setIfInBounds_toArray, List.set_cons_zero, List.set_cons_succ]
          refine take_at (i := 41) 163 (v := .int .i64 (s : Int)) rfl rfl (by kernel_rfl) (by kernel_rfl) (by kernel_rfl) (fun _ _ _ h => h) (Or.inl ⟨by rfl, by intro w hSw; go_simp⟩) (by assumption) ?_
          try simp only [Act.put, List.setIfInBounds_toArray, List.set_cons_zero, List.set_cons_succ]
          refine take_at (i := 42) 164 (v := .int .i64 (r : Int)) rfl rfl (by kernel_rfl) (by kernel_rfl) (by kernel_rfl) (fun _ _ _ h => h) (Or.inl ⟨by rfl, by intro w hSw; go_simp⟩) (by assumption) ?_
          try simp only [Act.put, List.setIfInBounds_toArray, List.set_cons_zero, List.set_cons_succ]
          refine take_at (i := 43) 165 (v := .int .i64 c2) rfl rfl (by kernel_rfl) (by kernel_rfl) (by kernel_rfl) (fun _ _ _ h => h) (Or.inl ⟨by rfl, by intro w hSw; go_simp⟩) (by assumption) ?_
          try simp only [Act.put, List.setIfInBounds_toArray, List.set_cons_zero, List.set_cons_succ]
          refine take_at (i := 44) 166 (v := .int .i64 c3) rfl rfl (by kernel_rfl) (by kernel_rfl) (by kernel_rfl) (fun _ _ _ h => h) (Or.inl ⟨by rfl, by intro w hSw; go_simp⟩) (by assumption) ?_
          try simp only [Act.put, List.setIfInBounds_toArray, List.set_cons_zero, List.set_cons_succ]
          refine take_at (i := 45) 167 (v := .pointer (some ⟨gy, 2, none⟩)) rfl rfl (by kernel_rfl) (by kernel_rfl) (by kernel_rfl) (fun _ _ _ h => h) (Or.inl ⟨by rfl, by intro w hSw; go_simp⟩) (by assumption) ?_
          try simp only [Act.put, List.setIfInBounds_toArray, List.set_cons_zero, List.set_cons_succ]
          refine take_at (i := 46) 168 (v := .int .i64 pd) rfl rfl (by kernel_rfl) (by kernel_rfl) (by kernel_rfl) (fun _ _ _ h => h) (Or.inl ⟨by rfl, by intro w hSw; have c := hSw.2.cell 2; go_simp⟩) (by assumption) ?_
          try simp only [Act.put, List.setIfInBounds_toArray, List.set_cons_zero, List.set_cons_succ]
          refine take_at (i := 47) 169 (v := .int .i64 c4) rfl rfl (by kernel_rfl) (by kernel_rfl) (by kernel_rfl) (fun _ _ _ h => h) (Or.inl ⟨by rfl, by intro w hSw; go_simp⟩) (by assumption) ?_
          try simp only [Act.put, List.setIfInBounds_toArray, List.set_cons_zero, List.set_cons_succ]
          refine wpAnyH_ready (rs := [36]) (by kernel_rfl) (by simp) ?_
          refine AllReadyH.cons rfl (fun K hK => ?_) AllReadyH.nil
          go_simp
          refine (HZ2.out _).mono ?_
          rintro e w9 ⟨rfl, rfl⟩
          simp only []
          refine hK.out _ _ HH0.out (fun hHeld => ?_)
          clear hK K
          try simp only [Act.put, List.setIfInBounds_toArray, List.set_cons_zero, List.set_cons_succ]
          refine take_at (i := 37) 159 (v := .int .i64 (2 * A2)) rfl rfl (by kernel_rfl) (by kernel_rfl) (by kernel_rfl) (fun _ _ _ h => h) (Or.inl ⟨by rfl, by intro w hSw; go_simp⟩) (by assumption) ?_
          try simp only [Act.put, List.setIfInBounds_toArray, List.set_cons_zero, List.set_cons_succ]
          refine take_at (i := 48) 170 (v := .bool false) rfl rfl (by kernel_rfl) (by kernel_rfl) (by kernel_rfl) (fun _ _ _ h => h) (Or.inl ⟨by rfl, by intro w hSw; go_simp⟩) (by assumption) ?_
          try simp only [Act.put, List.setIfInBounds_toArray, List.set_cons_zero, List.set_cons_succ]
          refine take_at (i := 49) 171 (v := .bool false) rfl rfl (by kernel_rfl) (by kernel_rfl) (by kernel_rfl) (fun _ _ _ h => h) (Or.inl ⟨by rfl, by intro w hSw; go_simp⟩) (by assumption) ?_
          try simp only [Act.put, List.setIfInBounds_toArray, List.set_cons_zero, List.set_cons_succ]
          refine wpAnyH_done (by kernel_rfl) ?_ _
          clear v1 v2 v3 v4 v5 v6 v7 v8 v9 v10 y1 y2
          go_wp2
          go_roundw
          case rel => first | exact ⟨j + 1, by omega, by go_num, HH0.out.1⟩ | ((repeat apply Exists.intro); exact ⟨⟨j + 1, by omega, by go_num, HH0.out.1⟩, rfl⟩)
          case measure => simp [intOf]; omega
        · obtain rfl : j = N := by omega
          go_wp2
          go_ret
          exact ⟨rfl, (HV.out _ hbj)⟩
end Go.Proofs.Ythfmjohbokpceaa
