import Derived.Test.YthfmjohbokpceaaEstH
namespace Go.Proofs.Ythfmjohbokpceaa
open Go.RowKit Go.WideShapes Go.ChangeShapes

/-! the reference's interpolated values -/
theorem gcdF3 (x y s : Int) : gcdF [x, y, s] 3 = Int.gcd (Int.gcd x y : Int) s := by
  have e : gcdF [x, y, s] 3 = Int.gcd (Int.gcd (Int.gcd ((0 : Nat) : Int) x : Int) y : Int) s := rfl
  rw [e, show Int.gcd ((0 : Nat) : Int) x = x.natAbs from Int.gcd_zero_left x, gcd_abs]
theorem phV_at (l : List (Int × Int)) (s i t : Nat) (ht : t < s) (hi : i + 1 < l.length) :
    phV l s (i * s + t) = phO ((kg l i).1 * ((s : Int) - (t : Int)) + (kg l (i + 1)).1 * (t : Int)) ((kg l i).2 * ((s : Int) - (t : Int)) + (kg l (i + 1)).2 * (t : Int)) (s : Int) := by
  have d : (i * s + t) / s = i := by rw [Nat.add_comm, Nat.add_mul_div_right _ _ (by omega), Nat.div_eq_of_lt ht]; omega
  have r : (i * s + t) % s = t := by rw [Nat.add_comm, Nat.add_mul_mod_self_right, Nat.mod_eq_of_lt ht]
  have e : min (i + 1) (l.length - 1) = i + 1 := by omega
  unfold phV phO phG phR phI phN
  rw [d, r, e, gcdF3]
theorem phV_last (l : List (Int × Int)) (s q : Nat) (hs : 1 ≤ s) (hq : l.length = q + 1) :
    phV l s (q * s) = phO (kg l q).1 (kg l q).2 1 := by
  have d : (q * s) / s = q := Nat.mul_div_cancel _ (by omega)
  have r : (q * s) % s = 0 := Nat.mul_mod_left _ _
  have e : min (q + 1) (l.length - 1) = q := by omega
  unfold phV phO phG phR phI phN
  rw [d, r, e, gcdF3]
  obtain ⟨a, ha⟩ : ∃ a, (kg l q).1 = a := ⟨_, rfl⟩
  obtain ⟨b, hb⟩ : ∃ b, (kg l q).2 = b := ⟨_, rfl⟩
  rw [ha, hb]
  have e1 : a * ((s : Int) - ((0 : Nat) : Int)) + a * ((0 : Nat) : Int) = a * (s : Int) := by simp
  have e2 : b * ((s : Int) - ((0 : Nat) : Int)) + b * ((0 : Nat) : Int) = b * (s : Int) := by simp
  rw [e1, e2]
  have g1 : Int.gcd (Int.gcd (a * (s : Int)) (b * (s : Int)) : Int) (s : Int) = s := by
    refine Nat.gcd_eq_right ?_
    rw [Int.natAbs_natCast, Int.natAbs_natCast]
    refine Nat.dvd_gcd ?_ ?_
    · rw [Int.natAbs_mul, Int.natAbs_natCast]; exact Nat.dvd_mul_left _ _
    · rw [Int.natAbs_mul, Int.natAbs_natCast]; exact Nat.dvd_mul_left _ _
  have g2 : Int.gcd (Int.gcd a b : Int) 1 = 1 := Nat.gcd_one_right _
  have s0 : (s : Int) ≠ 0 := by omega
  rw [g1, g2, Int.mul_tdiv_cancel _ s0, Int.mul_tdiv_cancel _ s0, Int.tdiv_self s0]
  simp
set_option maxRecDepth 100000 in
set_option maxHeartbeats 8000000 in
theorem Interpolated_ref (A : Option Addr) (c m s n : Nat) (l : List (Int × Int)) (w : World) (hm : l.length = m) (hs : Sl w A (gv l)) (h0 : 0 < m) (h40 : m ≤ 40) (hE : eachE entE l = 0) (hs1 : 1 ≤ s) (hs2 : s ≤ 20) (hn : n = (m - 1) * s + 1) :
    Calls Try.prog 100 #[.slice A m c, .int .i64 (s : Int)] w fun e w' => ∃ C ck, e = .returned (.slice C n ck) ∧ w'.ownsRow w.heap.size 118 3 (.slice C n ck) n (pvs (phL l s n)) ∧ Below w.heap.size w w' := by
  obtain ⟨i0, hi0, hz0, hz1, hz2⟩ := info_parts phr_info
  have HT := hide (stay_sl hs)
  have HEN := hide (fun i => kg_le (fun z hz => eachE_ok hE z hz) i)
  have HM := hide hm
  have HN := hide hn
  clear hs hE hm hn
  have HCL := hide (fun W (h : Below w.heap.size w W) (i : Nat) (hi : i < m) => show ∃ b off, A = some ⟨b, off, none⟩ ∧ W.cell? ⟨b, off + i * 2, none⟩ = some (.int .i64 (kg l i).1) ∧ W.cell? ⟨b, off + i * 2 + 1, none⟩ = some (.int .i64 (kg l i).2) from by
    obtain ⟨b, off, e, h1, h2⟩ := (HT.out W h).at2 (k := i) (by rw [HM.out]; exact hi)
    have hx : l[i]'(by rw [HM.out]; exact hi) = kg l i := by unfold kg; rw [List.getElem?_eq_getElem]; rfl
    rw [hx] at h1 h2
    exact ⟨b, off, e, h1, h2⟩)
  obtain ⟨b, off, rfl, _⟩ := HCL.out w (Below.refl _ _) 0 h0
  have HYC := hide (fun W (h : Below w.heap.size w W) (i : Nat) (hi : i < m) => show W.cell? ⟨b, off + i * 2, none⟩ = some (.int .i64 (kg l i).1) ∧ W.cell? ⟨b, off + i * 2 + 1, none⟩ = some (.int .i64 (kg l i).2) from by
    obtain ⟨b2, off2, e, h1, h2⟩ := HCL.out W h i hi
    injection e with e; injection e with e3 e4 _; subst e3 e4
    exact ⟨h1, h2⟩)
  clear HCL HT
  go_enter Try.func100, Try.ntmps100
  go_wp2
  go_loopw [5, 6] (fun o i wr => ∃ (k X : Nat) (C : Option Addr) (c1 : Nat), k + 1 ≤ m ∧ X = k * s ∧ i = .int .i64 (k : Int) ∧ o = .slice C X c1 ∧ wr.ownsRow w.heap.size 118 3 (.slice C X c1) X (pvs (phL l s X)) ∧ Below w.heap.size w wr) (fun _ i _ => m - (intOf i).toNat)
  case atStart => exact ⟨0, 0, none, 0, by omega, by simp, rfl, rfl, World.ownsRow_nil _ _ _ _, Below.refl _ _⟩
  case round =>
    obtain ⟨k, X, C, c1, hk, hX, rfl, rfl, hrow, hbel⟩ := hrel
    have HX := hide hX
    have hX2 : X ≤ 39 * 20 := by rw [hX]; exact Nat.mul_le_mul (by omega) hs2
    have HROW := hide hrow
    have HBE := hide hbel
    clear hrow hbel hX
    by_cases hlt : k + 1 < m
    · have ha := HEN.out k
      have hb := HEN.out (k + 1)
      have HPV := hide (fun t (ht : t < s) => show phV l s (X + t) = phO ((kg l k).1 * ((s : Int) - (t : Int)) + (kg l (k + 1)).1 * (t : Int)) ((kg l k).2 * ((s : Int) - (t : Int)) + (kg l (k + 1)).2 * (t : Int)) (s : Int) from by rw [HX.out]; exact phV_at l s k t ht (by rw [HM.out]; exact hlt))
      have HZC := hide (fun W (h : Below w.heap.size w W) => And.intro (HYC.out W h k (by omega)) (HYC.out W h (k + 1) (by omega)))
      obtain ⟨P, hP⟩ : ∃ P, kg l k = P := ⟨_, rfl⟩
      obtain ⟨Q, hQ⟩ : ∃ Q, kg l (k + 1) = Q := ⟨_, rfl⟩
      rw [hP, hQ] at HPV HZC
      rw [hP] at ha
      rw [hQ] at hb
      clear hP hQ
      have k1 : (0 : Int) ≤ (k : Int) := by omega
      have k2 : (k : Int) < (m : Int) := by omega
      have k3 : (k : Int) + 1 < (m : Int) := by omega
      have k4 : (0 : Int) ≤ (k : Int) + 1 := by omega
      have k5 : ((k : Int) + 1).toNat = k + 1 := by omega
      have k6 : IntKind.i64.wrap ((k : Int) + 1) = (k : Int) + 1 := IntWalk.i64_in _ (by omega)
      go_wp2
      obtain ⟨wo, hwo⟩ : ∃ wo : World, wr = wo := ⟨_, rfl⟩
      rw [hwo] at HBE HROW ⊢
      clear hwo
      go_loopw [5, 7] (fun o i wr => ∃ (t : Nat) (C : Option Addr) (c1 : Nat), t ≤ s ∧ i = .int .i64 (t : Int) ∧ o = .slice C (X + t) c1 ∧ wr.ownsRow w.heap.size 118 3 (.slice C (X + t) c1) (X + t) (pvs (phL l s (X + t))) ∧ Below w.heap.size w wr) (fun _ i _ => s - (intOf i).toNat)
      case atStart => exact ⟨0, C, c1, by omega, rfl, rfl, HROW.out, HBE.out⟩
      case round =>
        clear HROW HBE
        obtain ⟨t, C, c1, ht, rfl, rfl, hrow, hbel⟩ := hrel
        have HROW := hide hrow
        have HBE := hide hbel
        clear hrow hbel
        by_cases hts : t < s
        · obtain ⟨u1, u2⟩ := lin_bd (a := P.1) (b := Q.1) (s := (s : Int)) (r := (t : Int)) ⟨ha.1, ha.2.1⟩ ⟨hb.1, hb.2.1⟩ (by omega) (by omega)
          obtain ⟨u3, u4⟩ := lin_bd (a := P.2) (b := Q.2) (s := (s : Int)) (r := (t : Int)) ⟨ha.2.2.1, ha.2.2.2⟩ ⟨hb.2.2.1, hb.2.2.2⟩ (by omega) (by omega)
          have w1 : IntKind.i64.wrap ((s : Int) - (t : Int)) = (s : Int) - (t : Int) := IntWalk.i64_in _ (by omega)
          have w2 : IntKind.i64.wrap (P.1 * ((s : Int) - (t : Int))) = P.1 * ((s : Int) - (t : Int)) := IntWalk.i64_in _ (by omega)
          have w3 : IntKind.i64.wrap (Q.1 * (t : Int)) = Q.1 * (t : Int) := IntWalk.i64_in _ (by omega)
          have w4 : IntKind.i64.wrap (P.1 * ((s : Int) - (t : Int)) + Q.1 * (t : Int)) = P.1 * ((s : Int) - (t : Int)) + Q.1 * (t : Int) := IntWalk.i64_in _ (by omega)
          have w5 : IntKind.i64.wrap (P.2 * ((s : Int) - (t : Int))) = P.2 * ((s : Int) - (t : Int)) := IntWalk.i64_in _ (by omega)
          have w6 : IntKind.i64.wrap (Q.2 * (t : Int)) = Q.2 * (t : Int) := IntWalk.i64_in _ (by omega)
          have w7 : IntKind.i64.wrap (P.2 * ((s : Int) - (t : Int)) + Q.2 * (t : Int)) = P.2 * ((s : Int) - (t : Int)) + Q.2 * (t : Int) := IntWalk.i64_in _ (by omega)
          have HPO := hide (fun W => phasorOf_base (P.1 * ((s : Int) - (t : Int)) + Q.1 * (t : Int)) (P.2 * ((s : Int) - (t : Int)) + Q.2 * (t : Int)) (s : Int) W (by omega) (by omega) (by omega))
          have HV := HPV.out t hts
          obtain ⟨Z, hZ⟩ : ∃ Z, phO (P.1 * ((s : Int) - (t : Int)) + Q.1 * (t : Int)) (P.2 * ((s : Int) - (t : Int)) + Q.2 * (t : Int)) (s : Int) = Z := ⟨_, rfl⟩
          rw [hZ] at HPO HV
          have HPVS := hide (show pvs (phL l s (X + t + 1)) = pvs (phL l s (X + t)) ++ [.int .i64 Z.1, .int .i64 Z.2.1, .int .i64 Z.2.2] by rw [phL_succ, pvs_app, HV]; rfl)
          clear hZ HV u1 u2 u3 u4 HPV ha hb
          go_wp2
          have HH0 := hide (show Below w.heap.size w wr.drew from below_drewN HBE.out 1)
          have HR := hide (show wr.drew.ownsRow w.heap.size 118 3 (.slice C (X + t) c1) (X + t) (pvs (phL l s (X + t))) from HROW.out)
          refine wp_region_held_drew (S := fun w' => Below w.heap.size w w') (by kernel_rfl) HH0.out (fun hHeld => ?_)
          refine take_at (i := 0) 20 (v := .slice C (X + t) c1) rfl rfl (by kernel_rfl) (by kernel_rfl) (by kernel_rfl) (fun _ _ _ h => h) (Or.inl ⟨by rfl, by intro w hSw; go_simp⟩) (by assumption) ?_
          try simp only [Act.put, List.setIfInBounds_toArray, List.set_cons_zero, List.set_cons_succ]
          refine take_at (i := 1) 21 (v := .slice (some ⟨b, off, none⟩) m c) rfl rfl (by kernel_rfl) (by kernel_rfl) (by kernel_rfl) (fun _ _ _ h => h) (Or.inl ⟨by rfl, by intro w hSw; go_simp⟩) (by assumption) ?_
          try simp only [Act.put, List.setIfInBounds_toArray, List.set_cons_zero, List.set_cons_succ]
          refine take_at (i := 2) 22 (v := .int .i64 (k : Int)) rfl rfl (by kernel_rfl) (by kernel_rfl) (by kernel_rfl) (fun _ _ _ h => h) (Or.inl ⟨by rfl, by intro w hSw; go_simp⟩) (by assumption) ?_
          try simp only [Act.put, List.setIfInBounds_toArray, List.set_cons_zero, List.set_cons_succ]
          refine take_at (i := 3) 23 (v := .pointer (some ⟨b, off + k * 2, none⟩)) rfl rfl (by kernel_rfl) (by kernel_rfl) (by kernel_rfl) (fun _ _ _ h => h) (Or.inl ⟨by rfl, by intro w hSw; go_simp⟩) (by assumption) ?_
          try simp only [Act.put, List.setIfInBounds_toArray, List.set_cons_zero, List.set_cons_succ]
          refine take_at (i := 4) 24 (v := .pointer (some ⟨b, off + k * 2, none⟩)) rfl rfl (by kernel_rfl) (by kernel_rfl) (by kernel_rfl) (fun _ _ _ h => h) (Or.inl ⟨by rfl, by intro w hSw; go_simp⟩) (by assumption) ?_
          try simp only [Act.put, List.setIfInBounds_toArray, List.set_cons_zero, List.set_cons_succ]
          refine take_at (i := 5) 25 (v := .int .i64 P.1) rfl rfl (by kernel_rfl) (by kernel_rfl) (by kernel_rfl) (fun _ _ _ h => h) (Or.inl ⟨by rfl, by intro w hSw; have c := HZC.out w hSw; have d := c.1.1; clear c; go_simp⟩) (by assumption) ?_
          try simp only [Act.put, List.setIfInBounds_toArray, List.set_cons_zero, List.set_cons_succ]
          refine take_at (i := 6) 26 (v := .int .i64 (s : Int)) rfl rfl (by kernel_rfl) (by kernel_rfl) (by kernel_rfl) (fun _ _ _ h => h) (Or.inl ⟨by rfl, by intro w hSw; go_simp⟩) (by assumption) ?_
          try simp only [Act.put, List.setIfInBounds_toArray, List.set_cons_zero, List.set_cons_succ]
          refine take_at (i := 7) 27 (v := .int .i64 (t : Int)) rfl rfl (by kernel_rfl) (by kernel_rfl) (by kernel_rfl) (fun _ _ _ h => h) (Or.inl ⟨by rfl, by intro w hSw; go_simp⟩) (by assumption) ?_
          try simp only [Act.put, List.setIfInBounds_toArray, List.set_cons_zero, List.set_cons_succ]
          refine take_at (i := 8) 28 (v := .int .i64 ((s : Int) - (t : Int))) rfl rfl (by kernel_rfl) (by kernel_rfl) (by kernel_rfl) (fun _ _ _ h => h) (Or.inl ⟨by rfl, by intro w hSw; go_simp⟩) (by assumption) ?_
          try simp only [Act.put, List.setIfInBounds_toArray, List.set_cons_zero, List.set_cons_succ]
          refine take_at (i := 9) 29 (v := .int .i64 (P.1 * ((s : Int) - (t : Int)))) rfl rfl (by kernel_rfl) (by kernel_rfl) (by kernel_rfl) (fun _ _ _ h => h) (Or.inl ⟨by rfl, by intro w hSw; go_simp⟩) (by assumption) ?_
          try simp only [Act.put, List.setIfInBounds_toArray, List.set_cons_zero, List.set_cons_succ]
          refine take_at (i := 10) 30 (v := .slice (some ⟨b, off, none⟩) m c) rfl rfl (by kernel_rfl) (by kernel_rfl) (by kernel_rfl) (fun _ _ _ h => h) (Or.inl ⟨by rfl, by intro w hSw; go_simp⟩) (by assumption) ?_
          try simp only [Act.put, List.setIfInBounds_toArray, List.set_cons_zero, List.set_cons_succ]
          refine take_at (i := 11) 31 (v := .int .i64 (k : Int)) rfl rfl (by kernel_rfl) (by kernel_rfl) (by kernel_rfl) (fun _ _ _ h => h) (Or.inl ⟨by rfl, by intro w hSw; go_simp⟩) (by assumption) ?_
          try simp only [Act.put, List.setIfInBounds_toArray, List.set_cons_zero, List.set_cons_succ]
          refine take_at (i := 12) 32 (v := .int .i64 ((k : Int) + 1)) rfl rfl (by kernel_rfl) (by kernel_rfl) (by kernel_rfl) (fun _ _ _ h => h) (Or.inl ⟨by rfl, by intro w hSw; go_simp⟩) (by assumption) ?_
          try simp only [Act.put, List.setIfInBounds_toArray, List.set_cons_zero, List.set_cons_succ]
          refine take_at (i := 13) 33 (v := .pointer (some ⟨b, off + (k + 1) * 2, none⟩)) rfl rfl (by kernel_rfl) (by kernel_rfl) (by kernel_rfl) (fun _ _ _ h => h) (Or.inl ⟨by rfl, by intro w hSw; go_simp⟩) (by assumption) ?_
          try simp only [Act.put, List.setIfInBounds_toArray, List.set_cons_zero, List.set_cons_succ]
          refine take_at (i := 14) 34 (v := .pointer (some ⟨b, off + (k + 1) * 2, none⟩)) rfl rfl (by kernel_rfl) (by kernel_rfl) (by kernel_rfl) (fun _ _ _ h => h) (Or.inl ⟨by rfl, by intro w hSw; go_simp⟩) (by assumption) ?_
          try simp only [Act.put, List.setIfInBounds_toArray, List.set_cons_zero, List.set_cons_succ]
          refine take_at (i := 15) 35 (v := .int .i64 Q.1) rfl rfl (by kernel_rfl) (by kernel_rfl) (by kernel_rfl) (fun _ _ _ h => h) (Or.inl ⟨by rfl, by intro w hSw; have c := HZC.out w hSw; have d := c.2.1; clear c; go_simp⟩) (by assumption) ?_
          try simp only [Act.put, List.setIfInBounds_toArray, List.set_cons_zero, List.set_cons_succ]
          refine take_at (i := 16) 36 (v := .int .i64 (t : Int)) rfl rfl (by kernel_rfl) (by kernel_rfl) (by kernel_rfl) (fun _ _ _ h => h) (Or.inl ⟨by rfl, by intro w hSw; go_simp⟩) (by assumption) ?_
          try simp only [Act.put, List.setIfInBounds_toArray, List.set_cons_zero, List.set_cons_succ]
          refine take_at (i := 17) 37 (v := .int .i64 (Q.1 * (t : Int))) rfl rfl (by kernel_rfl) (by kernel_rfl) (by kernel_rfl) (fun _ _ _ h => h) (Or.inl ⟨by rfl, by intro w hSw; go_simp⟩) (by assumption) ?_
          try simp only [Act.put, List.setIfInBounds_toArray, List.set_cons_zero, List.set_cons_succ]
          refine take_at (i := 18) 38 (v := .int .i64 (P.1 * ((s : Int) - (t : Int)) + Q.1 * (t : Int))) rfl rfl (by kernel_rfl) (by kernel_rfl) (by kernel_rfl) (fun _ _ _ h => h) (Or.inl ⟨by rfl, by intro w hSw; go_simp⟩) (by assumption) ?_
          try simp only [Act.put, List.setIfInBounds_toArray, List.set_cons_zero, List.set_cons_succ]
          refine take_at (i := 19) 39 (v := .slice (some ⟨b, off, none⟩) m c) rfl rfl (by kernel_rfl) (by kernel_rfl) (by kernel_rfl) (fun _ _ _ h => h) (Or.inl ⟨by rfl, by intro w hSw; go_simp⟩) (by assumption) ?_
          try simp only [Act.put, List.setIfInBounds_toArray, List.set_cons_zero, List.set_cons_succ]
          refine take_at (i := 20) 40 (v := .int .i64 (k : Int)) rfl rfl (by kernel_rfl) (by kernel_rfl) (by kernel_rfl) (fun _ _ _ h => h) (Or.inl ⟨by rfl, by intro w hSw; go_simp⟩) (by assumption) ?_
          try simp only [Act.put, List.setIfInBounds_toArray, List.set_cons_zero, List.set_cons_succ]
          refine take_at (i := 21) 41 (v := .pointer (some ⟨b, off + k * 2, none⟩)) rfl rfl (by kernel_rfl) (by kernel_rfl) (by kernel_rfl) (fun _ _ _ h => h) (Or.inl ⟨by rfl, by intro w hSw; go_simp⟩) (by assumption) ?_
          try simp only [Act.put, List.setIfInBounds_toArray, List.set_cons_zero, List.set_cons_succ]
          refine take_at (i := 22) 42 (v := .pointer (some ⟨b, off + k * 2 + 1, none⟩)) rfl rfl (by kernel_rfl) (by kernel_rfl) (by kernel_rfl) (fun _ _ _ h => h) (Or.inl ⟨by rfl, by intro w hSw; go_simp⟩) (by assumption) ?_
          try simp only [Act.put, List.setIfInBounds_toArray, List.set_cons_zero, List.set_cons_succ]
          refine take_at (i := 23) 43 (v := .int .i64 P.2) rfl rfl (by kernel_rfl) (by kernel_rfl) (by kernel_rfl) (fun _ _ _ h => h) (Or.inl ⟨by rfl, by intro w hSw; have c := HZC.out w hSw; have d := c.1.2; clear c; go_simp⟩) (by assumption) ?_
          try simp only [Act.put, List.setIfInBounds_toArray, List.set_cons_zero, List.set_cons_succ]
          refine take_at (i := 24) 44 (v := .int .i64 (s : Int)) rfl rfl (by kernel_rfl) (by kernel_rfl) (by kernel_rfl) (fun _ _ _ h => h) (Or.inl ⟨by rfl, by intro w hSw; go_simp⟩) (by assumption) ?_
          try simp only [Act.put, List.setIfInBounds_toArray, List.set_cons_zero, List.set_cons_succ]
          refine take_at (i := 25) 45 (v := .int .i64 (t : Int)) rfl rfl (by kernel_rfl) (by kernel_rfl) (by kernel_rfl) (fun _ _ _ h => h) (Or.inl ⟨by rfl, by intro w hSw; go_simp⟩) (by assumption) ?_
          try simp only [Act.put, List.setIfInBounds_toArray, List.set_cons_zero, List.set_cons_succ]
          refine take_at (i := 26) 46 (v := .int .i64 ((s : Int) - (t : Int))) rfl rfl (by kernel_rfl) (by kernel_rfl) (by kernel_rfl) (fun _ _ _ h => h) (Or.inl ⟨by rfl, by intro w hSw; go_simp⟩) (by assumption) ?_
          try simp only [Act.put, List.setIfInBounds_toArray, List.set_cons_zero, List.set_cons_succ]
          refine take_at (i := 27) 47 (v := .int .i64 (P.2 * ((s : Int) - (t : Int)))) rfl rfl (by kernel_rfl) (by kernel_rfl) (by kernel_rfl) (fun _ _ _ h => h) (Or.inl ⟨by rfl, by intro w hSw; go_simp⟩) (by assumption) ?_
          try simp only [Act.put, List.setIfInBounds_toArray, List.set_cons_zero, List.set_cons_succ]
          refine take_at (i := 28) 48 (v := .slice (some ⟨b, off, none⟩) m c) rfl rfl (by kernel_rfl) (by kernel_rfl) (by kernel_rfl) (fun _ _ _ h => h) (Or.inl ⟨by rfl, by intro w hSw; go_simp⟩) (by assumption) ?_
          try simp only [Act.put, List.setIfInBounds_toArray, List.set_cons_zero, List.set_cons_succ]
          refine take_at (i := 29) 49 (v := .int .i64 (k : Int)) rfl rfl (by kernel_rfl) (by kernel_rfl) (by kernel_rfl) (fun _ _ _ h => h) (Or.inl ⟨by rfl, by intro w hSw; go_simp⟩) (by assumption) ?_
          try simp only [Act.put, List.setIfInBounds_toArray, List.set_cons_zero, List.set_cons_succ]
          refine take_at (i := 30) 50 (v := .int .i64 ((k : Int) + 1)) rfl rfl (by kernel_rfl) (by kernel_rfl) (by kernel_rfl) (fun _ _ _ h => h) (Or.inl ⟨by rfl, by intro w hSw; go_simp⟩) (by assumption) ?_
          try simp only [Act.put, List.setIfInBounds_toArray, List.set_cons_zero, List.set_cons_succ]
          refine take_at (i := 31) 51 (v := .pointer (some ⟨b, off + (k + 1) * 2, none⟩)) rfl rfl (by kernel_rfl) (by kernel_rfl) (by kernel_rfl) (fun _ _ _ h => h) (Or.inl ⟨by rfl, by intro w hSw; go_simp⟩) (by assumption) ?_
          try simp only [Act.put, List.setIfInBounds_toArray, List.set_cons_zero, List.set_cons_succ]
          refine take_at (i := 32) 52 (v := .pointer (some ⟨b, off + (k + 1) * 2 + 1, none⟩)) rfl rfl (by kernel_rfl) (by kernel_rfl) (by kernel_rfl) (fun _ _ _ h => h) (Or.inl ⟨by rfl, by intro w hSw; go_simp⟩) (by assumption) ?_
          try simp only [Act.put, List.setIfInBounds_toArray, List.set_cons_zero, List.set_cons_succ]
          refine take_at (i := 33) 53 (v := .int .i64 Q.2) rfl rfl (by kernel_rfl) (by kernel_rfl) (by kernel_rfl) (fun _ _ _ h => h) (Or.inl ⟨by rfl, by intro w hSw; have c := HZC.out w hSw; have d := c.2.2; clear c; go_simp⟩) (by assumption) ?_
          try simp only [Act.put, List.setIfInBounds_toArray, List.set_cons_zero, List.set_cons_succ]
          refine take_at (i := 34) 54 (v := .int .i64 (t : Int)) rfl rfl (by kernel_rfl) (by kernel_rfl) (by kernel_rfl) (fun _ _ _ h => h) (Or.inl ⟨by rfl, by intro w hSw; go_simp⟩) (by assumption) ?_
          try simp only [Act.put, List.setIfInBounds_toArray, List.set_cons_zero, List.set_cons_succ]
          refine take_at (i := 35) 55 (v := .int .i64 (Q.2 * (t : Int))) rfl rfl (by kernel_rfl) (by kernel_rfl) (by kernel_rfl) (fun _ _ _ h => h) (Or.inl ⟨by rfl, by intro w hSw; go_simp⟩) (by assumption) ?_
          try simp only [Act.put, List.setIfInBounds_toArray, List.set_cons_zero, List.set_cons_succ]
          refine take_at (i := 36) 56 (v := .int .i64 (P.2 * ((s : Int) - (t : Int)) + Q.2 * (t : Int))) rfl rfl (by kernel_rfl) (by kernel_rfl) (by kernel_rfl) (fun _ _ _ h => h) (Or.inl ⟨by rfl, by intro w hSw; go_simp⟩) (by assumption) ?_
          try simp only [Act.put, List.setIfInBounds_toArray, List.set_cons_zero, List.set_cons_succ]
          refine take_at (i := 37) 57 (v := .int .i64 (s : Int)) rfl rfl (by kernel_rfl) (by kernel_rfl) (by kernel_rfl) (fun _ _ _ h => h) (Or.inl ⟨by rfl, by intro w hSw; go_simp⟩) (by assumption) ?_
          try simp only [Act.put, List.setIfInBounds_toArray, List.set_cons_zero, List.set_cons_succ]
          obtain ⟨v0, hv0⟩ : ∃ W, wr.drew = W := ⟨_, rfl⟩
          rw [hv0] at HH0 HR hHeld ⊢
          clear hv0
          refine wpAnyH_ready (rs := [38]) (by kernel_rfl) (by simp) ?_
          refine AllReadyH.cons rfl (fun K hK => ?_) AllReadyH.nil
          go_simp
          refine (HPO.out _).mono ?_
          rintro e v1 ⟨rfl, hb⟩
          replace HH0 := hide (Below.step HH0.out hb)
          replace HR := hide (own_bel HR.out hb)
          clear hb
          simp only []
          refine hK.out _ _ HH0.out (fun hHeld => ?_)
          clear hK K
          try simp only [Act.put, List.setIfInBounds_toArray, List.set_cons_zero, List.set_cons_succ]
          refine wpAnyH_ready (rs := [39]) (by kernel_rfl) (by simp) ?_
          refine AllReadyH.cons rfl (fun K hK => ?_) AllReadyH.nil
          go_simp
          refine hK.out _ _ (HH0.out.alloc HH0.out.size _) (fun hHeld => ?_)
          clear hK K
          try simp only [Act.put, List.setIfInBounds_toArray, List.set_cons_zero, List.set_cons_succ]
          refine wpAnyH_ready (rs := [40]) (by kernel_rfl) (by simp) ?_
          refine AllReadyH.cons rfl (fun K hK => ?_) AllReadyH.nil
          have hsz := HH0.out.size
          refine step_append_any _ (by rfl) (.tmp 20) (.tmp 59) 113 (by rfl) w.heap.size 118 i0 _ 3 24 Try.underlying113 hi0 hz0 hz1 hz2 rfl (by omega) (.slice C (X + t) c1) (X + t) (pvs (phL l s (X + t))) (by rfl) (HR.out.alloc (.cells #[.int .i64 Z.1, .int .i64 Z.2.1, .int .i64 Z.2.2] 118)) (v1.heap.size + 1) (some ⟨v1.heap.size, 0, none⟩) 1 1 [.int .i64 Z.1, .int .i64 Z.2.1, .int .i64 Z.2.2] (by rfl) (reads_new v1 _ _ _ _) (by simp [Value.oneCell']) (by simp only [maxLen]; omega) (by omega) (by simp; omega) ?_
          intro v3 w9 hown hgrow _
          obtain ⟨C2, c2, rfl⟩ := own_form hown
          have HB9 := hide (Below.app HH0.out HR.out hgrow)
          have HO9 := hide hown
          clear hown hgrow
          change K (Act.put _ (some 60) _) _
          refine hK.out _ _ HB9.out (fun hHeld => ?_)
          clear hK K
          try simp only [Act.put, List.setIfInBounds_toArray, List.set_cons_zero, List.set_cons_succ]
          refine take_at (i := 41) 5 (v := .slice C2 (X + t + 1) c2) rfl rfl (by kernel_rfl) (by kernel_rfl) (by kernel_rfl) (fun _ _ _ h => h) (Or.inl ⟨by rfl, by intro w hSw; go_simp⟩) (by assumption) ?_
          try simp only [Act.put, List.setIfInBounds_toArray, List.set_cons_zero, List.set_cons_succ]
          refine wpAnyH_done (by kernel_rfl) ?_ _
          go_wp2
          go_roundw
          case rel => exact ⟨t + 1, C2, c2, by omega, by go_num, rfl, by rw [show X + (t + 1) = X + t + 1 from rfl, HPVS.out]; exact HO9.out, HB9.out⟩
          case measure => simp [intOf]; omega
        · obtain rfl : t = s := by omega
          go_wp2
          go_roundw
          case rel => exact ⟨k + 1, X + t, C, c1, by omega, by rw [HX.out, Nat.succ_mul], by go_num, rfl, HROW.out, HBE.out⟩
          case measure => simp [intOf]; omega
    · have hkm : m = k + 1 := by omega
      have HXX := HX.out
      have hn1 : n = X + 1 := by rw [HN.out, hkm, HXX]; rfl
      have ha := HEN.out k
      have HV := phV_last l s k hs1 (by rw [HM.out]; exact hkm)
      rw [← HXX] at HV
      have HZC := hide (fun W (h : Below w.heap.size w W) => HYC.out W h k (by omega))
      obtain ⟨P, hP⟩ : ∃ P, kg l k = P := ⟨_, rfl⟩
      rw [hP] at HV HZC ha
      have HPO := hide (fun W => phasorOf_base P.1 P.2 1 W (by omega) (by omega) (by omega))
      obtain ⟨Z, hZ⟩ : ∃ Z, phO P.1 P.2 1 = Z := ⟨_, rfl⟩
      rw [hZ] at HPO HV
      have HPVS := hide (show pvs (phL l s (X + 1)) = pvs (phL l s X) ++ [.int .i64 Z.1, .int .i64 Z.2.1, .int .i64 Z.2.2] by rw [phL_succ, pvs_app, HV]; rfl)
      have w1 : IntKind.i64.wrap ((m : Int) - 1) = (k : Int) := by rw [hkm]; exact (IntWalk.i64_in _ (by omega)).trans (by omega)
      have k1 : (0 : Int) ≤ (k : Int) := by omega
      have k2 : (k : Int) < (m : Int) := by omega
      have HKM := hide hkm
      clear hZ HV hP ha hkm HXX HN
      subst hn1
      go_wp2
      have HH0 := hide (show Below w.heap.size w wr.drew from below_drewN HBE.out 1)
      have HR := hide (show wr.drew.ownsRow w.heap.size 118 3 (.slice C (X) c1) (X) (pvs (phL l s (X))) from HROW.out)
      refine wp_region_held_drew (S := fun w' => Below w.heap.size w w') (by kernel_rfl) HH0.out (fun hHeld => ?_)
      refine take_at (i := 0) 61 (v := .slice C X c1) rfl rfl (by kernel_rfl) (by kernel_rfl) (by kernel_rfl) (fun _ _ _ h => h) (Or.inl ⟨by rfl, by intro w hSw; go_simp⟩) (by assumption) ?_
      try simp only [Act.put, List.setIfInBounds_toArray, List.set_cons_zero, List.set_cons_succ]
      refine take_at (i := 1) 62 (v := .slice (some ⟨b, off, none⟩) m c) rfl rfl (by kernel_rfl) (by kernel_rfl) (by kernel_rfl) (fun _ _ _ h => h) (Or.inl ⟨by rfl, by intro w hSw; go_simp⟩) (by assumption) ?_
      try simp only [Act.put, List.setIfInBounds_toArray, List.set_cons_zero, List.set_cons_succ]
      refine take_at (i := 2) 63 (v := .slice (some ⟨b, off, none⟩) m c) rfl rfl (by kernel_rfl) (by kernel_rfl) (by kernel_rfl) (fun _ _ _ h => h) (Or.inl ⟨by rfl, by intro w hSw; go_simp⟩) (by assumption) ?_
      try simp only [Act.put, List.setIfInBounds_toArray, List.set_cons_zero, List.set_cons_succ]
      refine take_at (i := 3) 64 (v := .int .i64 (m : Int)) rfl rfl (by kernel_rfl) (by kernel_rfl) (by kernel_rfl) (fun _ _ _ h => h) (Or.inl ⟨by rfl, by intro w hSw; go_simp⟩) (by assumption) ?_
      try simp only [Act.put, List.setIfInBounds_toArray, List.set_cons_zero, List.set_cons_succ]
      refine take_at (i := 4) 65 (v := .int .i64 (k : Int)) rfl rfl (by kernel_rfl) (by kernel_rfl) (by kernel_rfl) (fun _ _ _ h => h) (Or.inl ⟨by rfl, by intro w hSw; go_simp⟩) (by assumption) ?_
      try simp only [Act.put, List.setIfInBounds_toArray, List.set_cons_zero, List.set_cons_succ]
      refine take_at (i := 5) 66 (v := .pointer (some ⟨b, off + k * 2, none⟩)) rfl rfl (by kernel_rfl) (by kernel_rfl) (by kernel_rfl) (fun _ _ _ h => h) (Or.inl ⟨by rfl, by intro w hSw; go_simp⟩) (by assumption) ?_
      try simp only [Act.put, List.setIfInBounds_toArray, List.set_cons_zero, List.set_cons_succ]
      refine take_at (i := 6) 67 (v := .pointer (some ⟨b, off + k * 2, none⟩)) rfl rfl (by kernel_rfl) (by kernel_rfl) (by kernel_rfl) (fun _ _ _ h => h) (Or.inl ⟨by rfl, by intro w hSw; go_simp⟩) (by assumption) ?_
      try simp only [Act.put, List.setIfInBounds_toArray, List.set_cons_zero, List.set_cons_succ]
      refine take_at (i := 7) 68 (v := .int .i64 P.1) rfl rfl (by kernel_rfl) (by kernel_rfl) (by kernel_rfl) (fun _ _ _ h => h) (Or.inl ⟨by rfl, by intro w hSw; have c := HZC.out w hSw; have d := c.1; clear c; go_simp⟩) (by assumption) ?_
      try simp only [Act.put, List.setIfInBounds_toArray, List.set_cons_zero, List.set_cons_succ]
      refine take_at (i := 8) 69 (v := .slice (some ⟨b, off, none⟩) m c) rfl rfl (by kernel_rfl) (by kernel_rfl) (by kernel_rfl) (fun _ _ _ h => h) (Or.inl ⟨by rfl, by intro w hSw; go_simp⟩) (by assumption) ?_
      try simp only [Act.put, List.setIfInBounds_toArray, List.set_cons_zero, List.set_cons_succ]
      refine take_at (i := 9) 70 (v := .slice (some ⟨b, off, none⟩) m c) rfl rfl (by kernel_rfl) (by kernel_rfl) (by kernel_rfl) (fun _ _ _ h => h) (Or.inl ⟨by rfl, by intro w hSw; go_simp⟩) (by assumption) ?_
      try simp only [Act.put, List.setIfInBounds_toArray, List.set_cons_zero, List.set_cons_succ]
      refine take_at (i := 10) 71 (v := .int .i64 (m : Int)) rfl rfl (by kernel_rfl) (by kernel_rfl) (by kernel_rfl) (fun _ _ _ h => h) (Or.inl ⟨by rfl, by intro w hSw; go_simp⟩) (by assumption) ?_
      try simp only [Act.put, List.setIfInBounds_toArray, List.set_cons_zero, List.set_cons_succ]
      refine take_at (i := 11) 72 (v := .int .i64 (k : Int)) rfl rfl (by kernel_rfl) (by kernel_rfl) (by kernel_rfl) (fun _ _ _ h => h) (Or.inl ⟨by rfl, by intro w hSw; go_simp⟩) (by assumption) ?_
      try simp only [Act.put, List.setIfInBounds_toArray, List.set_cons_zero, List.set_cons_succ]
      refine take_at (i := 12) 73 (v := .pointer (some ⟨b, off + k * 2, none⟩)) rfl rfl (by kernel_rfl) (by kernel_rfl) (by kernel_rfl) (fun _ _ _ h => h) (Or.inl ⟨by rfl, by intro w hSw; go_simp⟩) (by assumption) ?_
      try simp only [Act.put, List.setIfInBounds_toArray, List.set_cons_zero, List.set_cons_succ]
      refine take_at (i := 13) 74 (v := .pointer (some ⟨b, off + k * 2 + 1, none⟩)) rfl rfl (by kernel_rfl) (by kernel_rfl) (by kernel_rfl) (fun _ _ _ h => h) (Or.inl ⟨by rfl, by intro w hSw; go_simp⟩) (by assumption) ?_
      try simp only [Act.put, List.setIfInBounds_toArray, List.set_cons_zero, List.set_cons_succ]
      refine take_at (i := 14) 75 (v := .int .i64 P.2) rfl rfl (by kernel_rfl) (by kernel_rfl) (by kernel_rfl) (fun _ _ _ h => h) (Or.inl ⟨by rfl, by intro w hSw; have c := HZC.out w hSw; have d := c.2; clear c; go_simp⟩) (by assumption) ?_
      try simp only [Act.put, List.setIfInBounds_toArray, List.set_cons_zero, List.set_cons_succ]
      obtain ⟨v0, hv0⟩ : ∃ W, wr.drew = W := ⟨_, rfl⟩
      rw [hv0] at HH0 HR hHeld ⊢
      clear hv0
      refine wpAnyH_ready (rs := [15]) (by kernel_rfl) (by simp) ?_
      refine AllReadyH.cons rfl (fun K hK => ?_) AllReadyH.nil
      go_simp
      refine (HPO.out _).mono ?_
      rintro e v1 ⟨rfl, hb⟩
      replace HH0 := hide (Below.step HH0.out hb)
      replace HR := hide (own_bel HR.out hb)
      clear hb
      simp only []
      refine hK.out _ _ HH0.out (fun hHeld => ?_)
      clear hK K
      try simp only [Act.put, List.setIfInBounds_toArray, List.set_cons_zero, List.set_cons_succ]
      refine wpAnyH_ready (rs := [16]) (by kernel_rfl) (by simp) ?_
      refine AllReadyH.cons rfl (fun K hK => ?_) AllReadyH.nil
      go_simp
      refine hK.out _ _ (HH0.out.alloc HH0.out.size _) (fun hHeld => ?_)
      clear hK K
      try simp only [Act.put, List.setIfInBounds_toArray, List.set_cons_zero, List.set_cons_succ]
      refine wpAnyH_ready (rs := [17]) (by kernel_rfl) (by simp) ?_
      refine AllReadyH.cons rfl (fun K hK => ?_) AllReadyH.nil
      have hsz := HH0.out.size
      refine step_append_any _ (by rfl) (.tmp 61) (.tmp 77) 113 (by rfl) w.heap.size 118 i0 _ 3 24 Try.underlying113 hi0 hz0 hz1 hz2 rfl (by omega) (.slice C (X) c1) (X) (pvs (phL l s (X))) (by rfl) (HR.out.alloc (.cells #[.int .i64 Z.1, .int .i64 Z.2.1, .int .i64 Z.2.2] 118)) (v1.heap.size + 1) (some ⟨v1.heap.size, 0, none⟩) 1 1 [.int .i64 Z.1, .int .i64 Z.2.1, .int .i64 Z.2.2] (by rfl) (reads_new v1 _ _ _ _) (by simp [Value.oneCell']) (by simp only [maxLen]; omega) (by omega) (by simp; omega) ?_
      intro v3 w9 hown hgrow _
      obtain ⟨C2, c2, rfl⟩ := own_form hown
      have HB9 := hide (Below.app HH0.out HR.out hgrow)
      have HO9 := hide hown
      clear hown hgrow
      change K (Act.put _ (some 78) _) _
      refine hK.out _ _ HB9.out (fun hHeld => ?_)
      clear hK K
      try simp only [Act.put, List.setIfInBounds_toArray, List.set_cons_zero, List.set_cons_succ]
      refine take_at (i := 18) 4 (v := .slice C2 (X + 1) c2) rfl rfl (by kernel_rfl) (by kernel_rfl) (by kernel_rfl) (fun _ _ _ h => h) (Or.inl ⟨by rfl, by intro w hSw; go_simp⟩) (by assumption) ?_
      try simp only [Act.put, List.setIfInBounds_toArray, List.set_cons_zero, List.set_cons_succ]
      refine wpAnyH_done (by kernel_rfl) ?_ _
      go_wp2
      go_ret
      exact ⟨C2, c2, rfl, by rw [HPVS.out]; exact HO9.out, HB9.out⟩
end Go.Proofs.Ythfmjohbokpceaa
