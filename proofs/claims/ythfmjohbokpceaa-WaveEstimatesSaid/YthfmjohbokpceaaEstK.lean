import Derived.Test.YthfmjohbokpceaaEstC
import Derived.Test.YthfmjohbokpceaaEstG
namespace Go.Proofs.Ythfmjohbokpceaa
open Go.RowKit Go.WideShapes Go.ChangeShapes

/-! the reference's bend of a list -/
set_option maxRecDepth 100000 in
set_option maxHeartbeats 8000000 in
theorem BendOf_ref (A : Option Addr) (c m : Nat) (l : List (Int × Int)) (w : World) (hm : l.length = m) (hs : Sl w A (gv l)) (h800 : m ≤ 800) (hE : eachE entE l = 0) :
    Calls Try.prog 102 #[.slice A m c] w fun e w' => e = .returned (.int .i64 (bendF l (m - 2))) ∧ Below w.heap.size w w' := by
  have HT := hide (stay_sl hs)
  have HEN := hide (fun i => kg_le (fun z hz => eachE_ok hE z hz) i)
  have HBB := hide (fun j => bend_bd hE j)
  have HSB := hide (fun j => sd_bd hE j)
  have HBF := hide (fun j => show bendF l (j + 1) = mx (mx (bendF l j) (sd1 l j)) (sd2 l j) from rfl)
  have HM := hide hm
  clear hs hE hm
  go_enter Try.func102, Try.ntmps102
  go_wp2
  go_loopw [3, 4] (fun o i wr => ∃ j : Nat, (j = 0 ∨ j + 2 ≤ m) ∧ i = .int .i64 ((j : Int) + 1) ∧ o = .int .i64 (bendF l j) ∧ Below w.heap.size w wr) (fun _ i _ => m - (intOf i).toNat)
  case atStart => exact ⟨0, .inl rfl, rfl, rfl, Below.refl _ _⟩
  case round =>
    obtain ⟨j, hj, rfl, rfl, hbel⟩ := hrel
    have HBE := hide hbel
    clear hbel
    by_cases hlt : j + 2 < m
    · have HXC := hide (fun W (h : Below w.heap.size w W) (i : Nat) (hi : i < m) => show ∃ b off, A = some ⟨b, off, none⟩ ∧ W.cell? ⟨b, off + i * 2, none⟩ = some (.int .i64 (kg l i).1) ∧ W.cell? ⟨b, off + i * 2 + 1, none⟩ = some (.int .i64 (kg l i).2) from by
        obtain ⟨b, off, e, h1, h2⟩ := (HT.out W h).at2 (k := i) (by rw [HM.out]; exact hi)
        have hx : l[i]'(by rw [HM.out]; exact hi) = kg l i := by unfold kg; rw [List.getElem?_eq_getElem]; rfl
        rw [hx] at h1 h2
        exact ⟨b, off, e, h1, h2⟩)
      obtain ⟨b, off, rfl, _⟩ := HXC.out wr HBE.out j (by omega)
      have HYC := hide (fun W (h : Below w.heap.size w W) (i : Nat) (hi : i < m) => show W.cell? ⟨b, off + i * 2, none⟩ = some (.int .i64 (kg l i).1) ∧ W.cell? ⟨b, off + i * 2 + 1, none⟩ = some (.int .i64 (kg l i).2) from by
        obtain ⟨b2, off2, e, h1, h2⟩ := HXC.out W h i hi
        injection e with e; injection e with e3 e4 _; subst e3 e4
        exact ⟨h1, h2⟩)
      have hp0 := HEN.out j
      have hp1 := HEN.out (j + 1)
      have hp2 := HEN.out (j + 1 + 1)
      have HZC := hide (fun W (h : Below w.heap.size w W) => And.intro (HYC.out W h j (by omega)) (And.intro (HYC.out W h (j + 1) (by omega)) (HYC.out W h (j + 1 + 1) (by omega))))
      have HS1 := hide (show sd1 l j = (kg l (j + 1 + 1)).1 - 2 * (kg l (j + 1)).1 + (kg l j).1 from rfl)
      have HS2 := hide (show sd2 l j = (kg l (j + 1 + 1)).2 - 2 * (kg l (j + 1)).2 + (kg l j).2 from rfl)
      obtain ⟨P, hP⟩ : ∃ P, kg l j = P := ⟨_, rfl⟩
      obtain ⟨Q, hQ⟩ : ∃ Q, kg l (j + 1) = Q := ⟨_, rfl⟩
      obtain ⟨R, hR⟩ : ∃ R, kg l (j + 1 + 1) = R := ⟨_, rfl⟩
      rw [hP, hQ, hR] at HZC HS1 HS2
      rw [hP] at hp0
      rw [hQ] at hp1
      rw [hR] at hp2
      have hbd := HBB.out j
      have HB1 := HBF.out j
      obtain ⟨e1, he1⟩ : ∃ e, sd1 l j = e := ⟨_, rfl⟩
      obtain ⟨e2, he2⟩ : ∃ e, sd2 l j = e := ⟨_, rfl⟩
      obtain ⟨B, hB⟩ : ∃ B, bendF l j = B := ⟨_, rfl⟩
      rw [he1] at HS1 HB1
      rw [he2] at HS2 HB1
      rw [hB] at hbd HB1
      have HBN := hide HB1
      have hsd := HSB.out j
      rw [he1, he2] at hsd
      obtain ⟨⟨t1, t2⟩, t3, t4⟩ := hsd
      obtain ⟨t5, t6⟩ := hbd
      have w1 : IntKind.i64.wrap ((j : Int) + 1 + 1) = (j : Int) + 1 + 1 := IntWalk.i64_in _ (by omega)
      have w2 : IntKind.i64.wrap (2 * Q.1) = 2 * Q.1 := IntWalk.i64_in _ (by omega)
      have w3 : IntKind.i64.wrap (R.1 - 2 * Q.1) = R.1 - 2 * Q.1 := IntWalk.i64_in _ (by omega)
      have w4 : IntKind.i64.wrap (R.1 - 2 * Q.1 + P.1) = e1 := by rw [HS1.out]; exact IntWalk.i64_in _ (by omega)
      have w5 : IntKind.i64.wrap (2 * Q.2) = 2 * Q.2 := IntWalk.i64_in _ (by omega)
      have w6 : IntKind.i64.wrap (R.2 - 2 * Q.2) = R.2 - 2 * Q.2 := IntWalk.i64_in _ (by omega)
      have w7 : IntKind.i64.wrap (R.2 - 2 * Q.2 + P.2) = e2 := by rw [HS2.out]; exact IntWalk.i64_in _ (by omega)
      have w8 : IntKind.i64.wrap ((j : Int) + 1 - 1) = (j : Int) := by rw [Int.add_sub_cancel]; exact IntWalk.i64_in _ (by omega)
      have w9 : IntKind.i64.wrap (j : Int) = (j : Int) := IntWalk.i64_in _ (by omega)
      have k0 : (0 : Int) ≤ (j : Int) := by omega
      have k1 : (j : Int) < (m : Int) := by omega
      have k2 : (j : Int) + 1 < (m : Int) := by omega
      have k3 : (j : Int) + 1 + 1 < (m : Int) := by omega
      have k4 : (0 : Int) ≤ (j : Int) + 1 + 1 := by omega
      have k5 : ¬ ((j : Int) + 1 < 0) := by omega
      have k6 : ((j : Int) + 1 + 1).toNat = j + 1 + 1 := by omega
      have k7 : ((j : Int) + 1).toNat = j + 1 := by omega
      obtain ⟨u, hu⟩ : ∃ u : Int, (e1.natAbs : Int) = u := ⟨_, rfl⟩
      obtain ⟨v, hv⟩ : ∃ v : Int, (e2.natAbs : Int) = v := ⟨_, rfl⟩
      have HZ1 := hide (fun W => by have := size_bas e1 W (by omega); rw [hu] at this; exact this)
      have HZ2 := hide (fun W => by have := size_bas e2 W (by omega); rw [hv] at this; exact this)
      have hmx : ∃ V, bendF l (j + 1) = V ∧ ((B < u ∧ u < v ∧ V = v) ∨ (B < u ∧ ¬ u < v ∧ V = u) ∨ (¬ B < u ∧ B < v ∧ V = v) ∨ (¬ B < u ∧ ¬ B < v ∧ V = B)) := by
        refine ⟨_, rfl, ?_⟩
        rw [HB1]
        unfold mx
        (repeat' split) <;> omega
      obtain ⟨V, hV, hcs⟩ := hmx
      have HV := hide hV
      rw [hB]
      clear he1 he2 hB hP hQ hR HB1 HS1 HS2 HXC HYC hp0 hp1 hp2 hu hv hV HBN
      go_wp2
      have HH0 := hide (show Below w.heap.size w wr.drew from below_drewN HBE.out 1)
      rcases hcs with ⟨y1, y2, hVV⟩ | ⟨y1, y2, hVV⟩ | ⟨y1, y2, hVV⟩ | ⟨y1, y2, hVV⟩
      all_goals
        refine wp_region_held_drew (S := fun w' => Below w.heap.size w w') (by kernel_rfl) HH0.out (fun hHeld => ?_)
        refine take_at (i := 0) 12 (v := .int .i64 B) rfl rfl (by kernel_rfl) (by kernel_rfl) (by kernel_rfl) (fun _ _ _ h => h) (Or.inl ⟨by rfl, by intro w hSw; go_simp⟩) (by assumption) ?_
        try simp only [Act.put, List.setIfInBounds_toArray, List.set_cons_zero, List.set_cons_succ]
        refine take_at (i := 1) 13 (v := .slice (some ⟨b, off, none⟩) m c) rfl rfl (by kernel_rfl) (by kernel_rfl) (by kernel_rfl) (fun _ _ _ h => h) (Or.inl ⟨by rfl, by intro w hSw; go_simp⟩) (by assumption) ?_
        try simp only [Act.put, List.setIfInBounds_toArray, List.set_cons_zero, List.set_cons_succ]
        refine take_at (i := 2) 14 (v := .int .i64 ((j : Int) + 1)) rfl rfl (by kernel_rfl) (by kernel_rfl) (by kernel_rfl) (fun _ _ _ h => h) (Or.inl ⟨by rfl, by intro w hSw; go_simp⟩) (by assumption) ?_
        try simp only [Act.put, List.setIfInBounds_toArray, List.set_cons_zero, List.set_cons_succ]
        refine take_at (i := 3) 15 (v := .int .i64 ((j : Int) + 1 + 1)) rfl rfl (by kernel_rfl) (by kernel_rfl) (by kernel_rfl) (fun _ _ _ h => h) (Or.inl ⟨by rfl, by intro w hSw; go_simp⟩) (by assumption) ?_
        try simp only [Act.put, List.setIfInBounds_toArray, List.set_cons_zero, List.set_cons_succ]
        refine take_at (i := 4) 16 (v := .pointer (some ⟨b, off + (j + 1 + 1) * 2, none⟩)) rfl rfl (by kernel_rfl) (by kernel_rfl) (by kernel_rfl) (fun _ _ _ h => h) (Or.inl ⟨by rfl, by intro w hSw; go_simp⟩) (by assumption) ?_
        try simp only [Act.put, List.setIfInBounds_toArray, List.set_cons_zero, List.set_cons_succ]
        refine take_at (i := 5) 17 (v := .pointer (some ⟨b, off + (j + 1 + 1) * 2, none⟩)) rfl rfl (by kernel_rfl) (by kernel_rfl) (by kernel_rfl) (fun _ _ _ h => h) (Or.inl ⟨by rfl, by intro w hSw; go_simp⟩) (by assumption) ?_
        try simp only [Act.put, List.setIfInBounds_toArray, List.set_cons_zero, List.set_cons_succ]
        refine take_at (i := 6) 18 (v := .int .i64 R.1) rfl rfl (by kernel_rfl) (by kernel_rfl) (by kernel_rfl) (fun _ _ _ h => h) (Or.inl ⟨by rfl, by intro w hSw; have c := HZC.out w hSw; have d := c.2.2.1; clear c; go_simp⟩) (by assumption) ?_
        try simp only [Act.put, List.setIfInBounds_toArray, List.set_cons_zero, List.set_cons_succ]
        refine take_at (i := 7) 19 (v := .slice (some ⟨b, off, none⟩) m c) rfl rfl (by kernel_rfl) (by kernel_rfl) (by kernel_rfl) (fun _ _ _ h => h) (Or.inl ⟨by rfl, by intro w hSw; go_simp⟩) (by assumption) ?_
        try simp only [Act.put, List.setIfInBounds_toArray, List.set_cons_zero, List.set_cons_succ]
        refine take_at (i := 8) 20 (v := .int .i64 ((j : Int) + 1)) rfl rfl (by kernel_rfl) (by kernel_rfl) (by kernel_rfl) (fun _ _ _ h => h) (Or.inl ⟨by rfl, by intro w hSw; go_simp⟩) (by assumption) ?_
        try simp only [Act.put, List.setIfInBounds_toArray, List.set_cons_zero, List.set_cons_succ]
        refine take_at (i := 9) 21 (v := .pointer (some ⟨b, off + (j + 1) * 2, none⟩)) rfl rfl (by kernel_rfl) (by kernel_rfl) (by kernel_rfl) (fun _ _ _ h => h) (Or.inl ⟨by rfl, by intro w hSw; go_simp⟩) (by assumption) ?_
        try simp only [Act.put, List.setIfInBounds_toArray, List.set_cons_zero, List.set_cons_succ]
        refine take_at (i := 10) 22 (v := .pointer (some ⟨b, off + (j + 1) * 2, none⟩)) rfl rfl (by kernel_rfl) (by kernel_rfl) (by kernel_rfl) (fun _ _ _ h => h) (Or.inl ⟨by rfl, by intro w hSw; go_simp⟩) (by assumption) ?_
        try simp only [Act.put, List.setIfInBounds_toArray, List.set_cons_zero, List.set_cons_succ]
        refine take_at (i := 11) 23 (v := .int .i64 Q.1) rfl rfl (by kernel_rfl) (by kernel_rfl) (by kernel_rfl) (fun _ _ _ h => h) (Or.inl ⟨by rfl, by intro w hSw; have c := HZC.out w hSw; have d := c.2.1.1; clear c; go_simp⟩) (by assumption) ?_
        try simp only [Act.put, List.setIfInBounds_toArray, List.set_cons_zero, List.set_cons_succ]
        refine take_at (i := 12) 24 (v := .int .i64 (2 * Q.1)) rfl rfl (by kernel_rfl) (by kernel_rfl) (by kernel_rfl) (fun _ _ _ h => h) (Or.inl ⟨by rfl, by intro w hSw; go_simp⟩) (by assumption) ?_
        try simp only [Act.put, List.setIfInBounds_toArray, List.set_cons_zero, List.set_cons_succ]
        refine take_at (i := 13) 25 (v := .int .i64 (R.1 - 2 * Q.1)) rfl rfl (by kernel_rfl) (by kernel_rfl) (by kernel_rfl) (fun _ _ _ h => h) (Or.inl ⟨by rfl, by intro w hSw; go_simp⟩) (by assumption) ?_
        try simp only [Act.put, List.setIfInBounds_toArray, List.set_cons_zero, List.set_cons_succ]
        refine take_at (i := 14) 26 (v := .slice (some ⟨b, off, none⟩) m c) rfl rfl (by kernel_rfl) (by kernel_rfl) (by kernel_rfl) (fun _ _ _ h => h) (Or.inl ⟨by rfl, by intro w hSw; go_simp⟩) (by assumption) ?_
        try simp only [Act.put, List.setIfInBounds_toArray, List.set_cons_zero, List.set_cons_succ]
        refine take_at (i := 15) 27 (v := .int .i64 ((j : Int) + 1)) rfl rfl (by kernel_rfl) (by kernel_rfl) (by kernel_rfl) (fun _ _ _ h => h) (Or.inl ⟨by rfl, by intro w hSw; go_simp⟩) (by assumption) ?_
        try simp only [Act.put, List.setIfInBounds_toArray, List.set_cons_zero, List.set_cons_succ]
        refine take_at (i := 16) 28 (v := .int .i64 (j : Int)) rfl rfl (by kernel_rfl) (by kernel_rfl) (by kernel_rfl) (fun _ _ _ h => h) (Or.inl ⟨by rfl, by intro w hSw; go_simp⟩) (by assumption) ?_
        try simp only [Act.put, List.setIfInBounds_toArray, List.set_cons_zero, List.set_cons_succ]
        refine take_at (i := 17) 29 (v := .pointer (some ⟨b, off + j * 2, none⟩)) rfl rfl (by kernel_rfl) (by kernel_rfl) (by kernel_rfl) (fun _ _ _ h => h) (Or.inl ⟨by rfl, by intro w hSw; go_simp⟩) (by assumption) ?_
        try simp only [Act.put, List.setIfInBounds_toArray, List.set_cons_zero, List.set_cons_succ]
        refine take_at (i := 18) 30 (v := .pointer (some ⟨b, off + j * 2, none⟩)) rfl rfl (by kernel_rfl) (by kernel_rfl) (by kernel_rfl) (fun _ _ _ h => h) (Or.inl ⟨by rfl, by intro w hSw; go_simp⟩) (by assumption) ?_
        try simp only [Act.put, List.setIfInBounds_toArray, List.set_cons_zero, List.set_cons_succ]
        refine take_at (i := 19) 31 (v := .int .i64 P.1) rfl rfl (by kernel_rfl) (by kernel_rfl) (by kernel_rfl) (fun _ _ _ h => h) (Or.inl ⟨by rfl, by intro w hSw; have c := HZC.out w hSw; have d := c.1.1; clear c; go_simp⟩) (by assumption) ?_
        try simp only [Act.put, List.setIfInBounds_toArray, List.set_cons_zero, List.set_cons_succ]
        refine take_at (i := 20) 32 (v := .int .i64 e1) rfl rfl (by kernel_rfl) (by kernel_rfl) (by kernel_rfl) (fun _ _ _ h => h) (Or.inl ⟨by rfl, by intro w hSw; go_simp⟩) (by assumption) ?_
        try simp only [Act.put, List.setIfInBounds_toArray, List.set_cons_zero, List.set_cons_succ]
        refine take_at (i := 22) 34 (v := .slice (some ⟨b, off, none⟩) m c) rfl rfl (by kernel_rfl) (by kernel_rfl) (by kernel_rfl) (fun _ _ _ h => h) (Or.inl ⟨by rfl, by intro w hSw; go_simp⟩) (by assumption) ?_
        try simp only [Act.put, List.setIfInBounds_toArray, List.set_cons_zero, List.set_cons_succ]
        refine take_at (i := 23) 35 (v := .int .i64 ((j : Int) + 1)) rfl rfl (by kernel_rfl) (by kernel_rfl) (by kernel_rfl) (fun _ _ _ h => h) (Or.inl ⟨by rfl, by intro w hSw; go_simp⟩) (by assumption) ?_
        try simp only [Act.put, List.setIfInBounds_toArray, List.set_cons_zero, List.set_cons_succ]
        refine take_at (i := 24) 36 (v := .int .i64 ((j : Int) + 1 + 1)) rfl rfl (by kernel_rfl) (by kernel_rfl) (by kernel_rfl) (fun _ _ _ h => h) (Or.inl ⟨by rfl, by intro w hSw; go_simp⟩) (by assumption) ?_
        try simp only [Act.put, List.setIfInBounds_toArray, List.set_cons_zero, List.set_cons_succ]
        refine take_at (i := 25) 37 (v := .pointer (some ⟨b, off + (j + 1 + 1) * 2, none⟩)) rfl rfl (by kernel_rfl) (by kernel_rfl) (by kernel_rfl) (fun _ _ _ h => h) (Or.inl ⟨by rfl, by intro w hSw; go_simp⟩) (by assumption) ?_
        try simp only [Act.put, List.setIfInBounds_toArray, List.set_cons_zero, List.set_cons_succ]
        refine take_at (i := 26) 38 (v := .pointer (some ⟨b, off + (j + 1 + 1) * 2 + 1, none⟩)) rfl rfl (by kernel_rfl) (by kernel_rfl) (by kernel_rfl) (fun _ _ _ h => h) (Or.inl ⟨by rfl, by intro w hSw; go_simp⟩) (by assumption) ?_
        try simp only [Act.put, List.setIfInBounds_toArray, List.set_cons_zero, List.set_cons_succ]
        refine take_at (i := 27) 39 (v := .int .i64 R.2) rfl rfl (by kernel_rfl) (by kernel_rfl) (by kernel_rfl) (fun _ _ _ h => h) (Or.inl ⟨by rfl, by intro w hSw; have c := HZC.out w hSw; have d := c.2.2.2; clear c; go_simp⟩) (by assumption) ?_
        try simp only [Act.put, List.setIfInBounds_toArray, List.set_cons_zero, List.set_cons_succ]
        refine take_at (i := 28) 40 (v := .slice (some ⟨b, off, none⟩) m c) rfl rfl (by kernel_rfl) (by kernel_rfl) (by kernel_rfl) (fun _ _ _ h => h) (Or.inl ⟨by rfl, by intro w hSw; go_simp⟩) (by assumption) ?_
        try simp only [Act.put, List.setIfInBounds_toArray, List.set_cons_zero, List.set_cons_succ]
        refine take_at (i := 29) 41 (v := .int .i64 ((j : Int) + 1)) rfl rfl (by kernel_rfl) (by kernel_rfl) (by kernel_rfl) (fun _ _ _ h => h) (Or.inl ⟨by rfl, by intro w hSw; go_simp⟩) (by assumption) ?_
        try simp only [Act.put, List.setIfInBounds_toArray, List.set_cons_zero, List.set_cons_succ]
        refine take_at (i := 30) 42 (v := .pointer (some ⟨b, off + (j + 1) * 2, none⟩)) rfl rfl (by kernel_rfl) (by kernel_rfl) (by kernel_rfl) (fun _ _ _ h => h) (Or.inl ⟨by rfl, by intro w hSw; go_simp⟩) (by assumption) ?_
        try simp only [Act.put, List.setIfInBounds_toArray, List.set_cons_zero, List.set_cons_succ]
        refine take_at (i := 31) 43 (v := .pointer (some ⟨b, off + (j + 1) * 2 + 1, none⟩)) rfl rfl (by kernel_rfl) (by kernel_rfl) (by kernel_rfl) (fun _ _ _ h => h) (Or.inl ⟨by rfl, by intro w hSw; go_simp⟩) (by assumption) ?_
        try simp only [Act.put, List.setIfInBounds_toArray, List.set_cons_zero, List.set_cons_succ]
        refine take_at (i := 32) 44 (v := .int .i64 Q.2) rfl rfl (by kernel_rfl) (by kernel_rfl) (by kernel_rfl) (fun _ _ _ h => h) (Or.inl ⟨by rfl, by intro w hSw; have c := HZC.out w hSw; have d := c.2.1.2; clear c; go_simp⟩) (by assumption) ?_
        try simp only [Act.put, List.setIfInBounds_toArray, List.set_cons_zero, List.set_cons_succ]
        refine take_at (i := 33) 45 (v := .int .i64 (2 * Q.2)) rfl rfl (by kernel_rfl) (by kernel_rfl) (by kernel_rfl) (fun _ _ _ h => h) (Or.inl ⟨by rfl, by intro w hSw; go_simp⟩) (by assumption) ?_
        try simp only [Act.put, List.setIfInBounds_toArray, List.set_cons_zero, List.set_cons_succ]
        refine take_at (i := 34) 46 (v := .int .i64 (R.2 - 2 * Q.2)) rfl rfl (by kernel_rfl) (by kernel_rfl) (by kernel_rfl) (fun _ _ _ h => h) (Or.inl ⟨by rfl, by intro w hSw; go_simp⟩) (by assumption) ?_
        try simp only [Act.put, List.setIfInBounds_toArray, List.set_cons_zero, List.set_cons_succ]
        refine take_at (i := 35) 47 (v := .slice (some ⟨b, off, none⟩) m c) rfl rfl (by kernel_rfl) (by kernel_rfl) (by kernel_rfl) (fun _ _ _ h => h) (Or.inl ⟨by rfl, by intro w hSw; go_simp⟩) (by assumption) ?_
        try simp only [Act.put, List.setIfInBounds_toArray, List.set_cons_zero, List.set_cons_succ]
        refine take_at (i := 36) 48 (v := .int .i64 ((j : Int) + 1)) rfl rfl (by kernel_rfl) (by kernel_rfl) (by kernel_rfl) (fun _ _ _ h => h) (Or.inl ⟨by rfl, by intro w hSw; go_simp⟩) (by assumption) ?_
        try simp only [Act.put, List.setIfInBounds_toArray, List.set_cons_zero, List.set_cons_succ]
        refine take_at (i := 37) 49 (v := .int .i64 (j : Int)) rfl rfl (by kernel_rfl) (by kernel_rfl) (by kernel_rfl) (fun _ _ _ h => h) (Or.inl ⟨by rfl, by intro w hSw; go_simp⟩) (by assumption) ?_
        try simp only [Act.put, List.setIfInBounds_toArray, List.set_cons_zero, List.set_cons_succ]
        refine take_at (i := 38) 50 (v := .pointer (some ⟨b, off + j * 2, none⟩)) rfl rfl (by kernel_rfl) (by kernel_rfl) (by kernel_rfl) (fun _ _ _ h => h) (Or.inl ⟨by rfl, by intro w hSw; go_simp⟩) (by assumption) ?_
        try simp only [Act.put, List.setIfInBounds_toArray, List.set_cons_zero, List.set_cons_succ]
        refine take_at (i := 39) 51 (v := .pointer (some ⟨b, off + j * 2 + 1, none⟩)) rfl rfl (by kernel_rfl) (by kernel_rfl) (by kernel_rfl) (fun _ _ _ h => h) (Or.inl ⟨by rfl, by intro w hSw; go_simp⟩) (by assumption) ?_
        try simp only [Act.put, List.setIfInBounds_toArray, List.set_cons_zero, List.set_cons_succ]
        refine take_at (i := 40) 52 (v := .int .i64 P.2) rfl rfl (by kernel_rfl) (by kernel_rfl) (by kernel_rfl) (fun _ _ _ h => h) (Or.inl ⟨by rfl, by intro w hSw; have c := HZC.out w hSw; have d := c.1.2; clear c; go_simp⟩) (by assumption) ?_
        try simp only [Act.put, List.setIfInBounds_toArray, List.set_cons_zero, List.set_cons_succ]
        refine take_at (i := 41) 53 (v := .int .i64 e2) rfl rfl (by kernel_rfl) (by kernel_rfl) (by kernel_rfl) (fun _ _ _ h => h) (Or.inl ⟨by rfl, by intro w hSw; go_simp⟩) (by assumption) ?_
        try simp only [Act.put, List.setIfInBounds_toArray, List.set_cons_zero, List.set_cons_succ]
        refine wpAnyH_ready (rs := [21]) (by kernel_rfl) (by simp) ?_
        refine AllReadyH.cons rfl (fun K hK => ?_) AllReadyH.nil
        go_simp
        refine (HZ1.out _).mono ?_
        rintro e w5 ⟨rfl, rfl⟩
        simp only []
        refine hK.out _ _ HH0.out (fun hHeld => ?_)
        clear hK K
        try simp only [Act.put, List.setIfInBounds_toArray, List.set_cons_zero, List.set_cons_succ]
        refine wpAnyH_ready (rs := [42]) (by kernel_rfl) (by simp) ?_
        refine AllReadyH.cons rfl (fun K hK => ?_) AllReadyH.nil
        go_simp
        refine (HZ2.out _).mono ?_
        rintro e w5 ⟨rfl, rfl⟩
        simp only []
        refine hK.out _ _ HH0.out (fun hHeld => ?_)
        clear hK K
        try simp only [Act.put, List.setIfInBounds_toArray, List.set_cons_zero, List.set_cons_succ]
        refine take_at (i := 43) 55 (v := .int .i64 V) rfl rfl (by kernel_rfl) (by kernel_rfl) (by kernel_rfl) (fun _ _ _ h => h) (Or.inl ⟨by rfl, by intro w hSw; go_simp <;> (try simp only [y1, if_false, if_true]) <;> first | omega | (split <;> omega)⟩) (by assumption) ?_
        try simp only [Act.put, List.setIfInBounds_toArray, List.set_cons_zero, List.set_cons_succ]
        refine take_at (i := 44) 3 (v := .int .i64 V) rfl rfl (by kernel_rfl) (by kernel_rfl) (by kernel_rfl) (fun _ _ _ h => h) (Or.inl ⟨by rfl, by intro w hSw; go_simp⟩) (by assumption) ?_
        try simp only [Act.put, List.setIfInBounds_toArray, List.set_cons_zero, List.set_cons_succ]
        refine wpAnyH_done (by kernel_rfl) ?_ _
        go_wp2
        go_roundw
        case rel => exact ⟨j + 1, .inr (by omega), by go_num, by rw [HV.out], HH0.out⟩
        case measure => simp [intOf]; omega
    · have hj2 : m - 2 = j := by omega
      have HJ := hide hj2
      clear hj2
      go_wp2
      go_ret
      exact ⟨by rw [HJ.out]; rfl, HBE.out⟩
end Go.Proofs.Ythfmjohbokpceaa
