import Derived.Test.YthfmjohbokpceaaEstA
import Derived.Test.YthfmjohbokpceaaCelA
namespace Go.Proofs.Ythfmjohbokpceaa
open Go.RowKit Go.WideShapes Go.ChangeShapes

/-! the bend of a list -/
def sd1 (l : List (Int × Int)) (j : Nat) : Int := (kg l (j + 1 + 1)).1 - 2 * (kg l (j + 1)).1 + (kg l j).1
def sd2 (l : List (Int × Int)) (j : Nat) : Int := (kg l (j + 1 + 1)).2 - 2 * (kg l (j + 1)).2 + (kg l j).2
def mx (b d : Int) : Int := if (if b < d then d else b) < -d then -d else (if b < d then d else b)
def bendF (l : List (Int × Int)) : Nat → Int
  | 0 => 0
  | j + 1 => mx (mx (bendF l j) (sd1 l j)) (sd2 l j)
theorem mx_bd {b d B : Int} (hb : 0 ≤ b ∧ b ≤ B) (hd : -B ≤ d ∧ d ≤ B) : 0 ≤ mx b d ∧ mx b d ≤ B := by unfold mx; (repeat' split) <;> omega
theorem mx_le {b d : Int} : b ≤ mx b d ∧ d ≤ mx b d ∧ -d ≤ mx b d := by unfold mx; (repeat' split) <;> omega
theorem sd_bd {l : List (Int × Int)} (h : eachE entE l = 0) (j : Nat) : (-40000 ≤ sd1 l j ∧ sd1 l j ≤ 40000) ∧ (-40000 ≤ sd2 l j ∧ sd2 l j ≤ 40000) := by
  have h0 := kg_le (fun z hz => eachE_ok h z hz) j
  have h1 := kg_le (fun z hz => eachE_ok h z hz) (j + 1)
  have h2 := kg_le (fun z hz => eachE_ok h z hz) (j + 1 + 1)
  unfold sd1 sd2; omega
theorem bend_bd {l : List (Int × Int)} (h : eachE entE l = 0) : ∀ j : Nat, 0 ≤ bendF l j ∧ bendF l j ≤ 40000
  | 0 => by unfold bendF; omega
  | j + 1 => by
    have hs := sd_bd h j
    exact mx_bd (mx_bd (bend_bd h j) hs.1) hs.2
set_option maxRecDepth 100000 in
set_option maxHeartbeats 8000000 in
theorem BendOf_ok (A : Option Addr) (c m : Nat) (l : List (Int × Int)) (w : World) (hm : l.length = m) (hs : Sl w A (gv l)) (h800 : m ≤ 800) (hE : eachE entE l = 0) :
    Calls Try.prog 76 #[.slice A m c] w fun e w' => e = .returned (.tuple #[.int .i64 (bendF l (m - 2)), .int .i64 0]) ∧ Below w.heap.size w w' := by
  have hK := hide (enters Try.func141 (by kernel_rfl) rfl)
  have HT := hide (stay_sl hs)
  have HEN := hide (fun i => kg_le (fun z hz => eachE_ok hE z hz) i)
  have HBB := hide (fun j => bend_bd hE j)
  have HSB := hide (fun j => sd_bd hE j)
  have HBF := hide (fun j => show bendF l (j + 1) = mx (mx (bendF l j) (sd1 l j)) (sd2 l j) from rfl)
  have HM := hide hm
  have HEA := hide (fun W (h : Sl W A (gv l)) => by have := each_gauss 141 entE A c l W hK.out (fun z W => entryErr_wave z W) h (by omega); rw [hE, hm] at this; exact this)
  clear hs hE hm
  go_enter Try.func76, Try.ntmps76
  go_wp2_with (first
    | (go_at_call 140; go_must (refine (HEA.out _ HT.out.now).mono ?_; rintro e w1 ⟨rfl, hb⟩; have HB1 := hide hb; clear hb; simp only [])))
  go_loopw [5, 6] (fun o i wr => ∃ j : Nat, (j = 0 ∨ j + 2 ≤ m) ∧ i = .int .i64 ((j : Int) + 1) ∧ o = .int .i64 (bendF l j) ∧ Below w.heap.size w wr) (fun _ i _ => m - (intOf i).toNat)
  case atStart => exact ⟨0, .inl rfl, rfl, rfl, HB1.out⟩
  case round =>
    obtain ⟨j, hj, rfl, rfl, hbel⟩ := hrel
    have HBE := hide hbel
    clear HB1 HEA hbel
    by_cases hlt : j + 2 < m
    · have HXC := hide (fun W (h : Below w.heap.size w W) (i : Nat) (hi : i < m) => show ∃ b off, A = some ⟨b, off, none⟩ ∧ W.cell? ⟨b, off + i * 2, none⟩ = some (.int .i64 (kg l i).1) ∧ W.cell? ⟨b, off + i * 2 + 1, none⟩ = some (.int .i64 (kg l i).2) from by
        obtain ⟨b, off, e, h1, h2⟩ := (HT.out W h).at2 (k := i) (by rw [HM.out]; exact hi)
        have hx : l[i]'(by rw [HM.out]; exact hi) = kg l i := by unfold kg; rw [List.getElem?_eq_getElem]; rfl
        rw [hx] at h1 h2
        exact ⟨b, off, e, h1, h2⟩)
      obtain ⟨b, off, rfl, _⟩ := HXC.out wr HBE.out j (by omega)
      have HYC := hide (fun W (h : Below w.heap.size w W) (i : Nat) (hi : i < m) => show W.cell? ⟨b, off + i * 2, none⟩ = some (.int .i64 (kg l i).1) ∧ W.cell? ⟨b, off + i * 2 + 1, none⟩ = some (.int .i64 (kg l i).2) from by
        obtain ⟨b2, off2, e, h1, h2⟩ := HXC.out W h i hi
        injection e with e; injection e with e3 e4 _; subst e3 e4
        exact ⟨h1, h2⟩)
      have hp0 := HEN.out j
      have hp1 := HEN.out (j + 1)
      have hp2 := HEN.out (j + 1 + 1)
      have HZC := hide (fun W (h : Below w.heap.size w W) => And.intro (HYC.out W h j (by omega)) (And.intro (HYC.out W h (j + 1) (by omega)) (HYC.out W h (j + 1 + 1) (by omega))))
      have HS1 := hide (show sd1 l j = (kg l (j + 1 + 1)).1 - 2 * (kg l (j + 1)).1 + (kg l j).1 from rfl)
      have HS2 := hide (show sd2 l j = (kg l (j + 1 + 1)).2 - 2 * (kg l (j + 1)).2 + (kg l j).2 from rfl)
      obtain ⟨P, hP⟩ : ∃ P, kg l j = P := ⟨_, rfl⟩
      obtain ⟨Q, hQ⟩ : ∃ Q, kg l (j + 1) = Q := ⟨_, rfl⟩
      obtain ⟨R, hR⟩ : ∃ R, kg l (j + 1 + 1) = R := ⟨_, rfl⟩
      rw [hP, hQ, hR] at HZC HS1 HS2
      rw [hP] at hp0
      rw [hQ] at hp1
      rw [hR] at hp2
      have hbd := HBB.out j
      have HB1 := HBF.out j
      obtain ⟨e1, he1⟩ : ∃ e, sd1 l j = e := ⟨_, rfl⟩
      obtain ⟨e2, he2⟩ : ∃ e, sd2 l j = e := ⟨_, rfl⟩
      obtain ⟨B, hB⟩ : ∃ B, bendF l j = B := ⟨_, rfl⟩
      rw [he1] at HS1 HB1
      rw [he2] at HS2 HB1
      rw [hB] at hbd HB1
      have HBN := hide HB1
      have hsd := HSB.out j
      rw [he1, he2] at hsd
      obtain ⟨⟨t1, t2⟩, t3, t4⟩ := hsd
      obtain ⟨t5, t6⟩ := hbd
      have w1 : IntKind.i64.wrap ((j : Int) + 1 + 1) = (j : Int) + 1 + 1 := IntWalk.i64_in _ (by omega)
      have w2 : IntKind.i64.wrap (2 * Q.1) = 2 * Q.1 := IntWalk.i64_in _ (by omega)
      have w3 : IntKind.i64.wrap (R.1 - 2 * Q.1) = R.1 - 2 * Q.1 := IntWalk.i64_in _ (by omega)
      have w4 : IntKind.i64.wrap (R.1 - 2 * Q.1 + P.1) = e1 := by rw [HS1.out]; exact IntWalk.i64_in _ (by omega)
      have w5 : IntKind.i64.wrap (2 * Q.2) = 2 * Q.2 := IntWalk.i64_in _ (by omega)
      have w6 : IntKind.i64.wrap (R.2 - 2 * Q.2) = R.2 - 2 * Q.2 := IntWalk.i64_in _ (by omega)
      have w7 : IntKind.i64.wrap (R.2 - 2 * Q.2 + P.2) = e2 := by rw [HS2.out]; exact IntWalk.i64_in _ (by omega)
      have w8 : IntKind.i64.wrap ((j : Int) + 1 - 1) = (j : Int) := by rw [Int.add_sub_cancel]; exact IntWalk.i64_in _ (by omega)
      have w9 : IntKind.i64.wrap (j : Int) = (j : Int) := IntWalk.i64_in _ (by omega)
      have k0 : (0 : Int) ≤ (j : Int) := by omega
      have k1 : (j : Int) < (m : Int) := by omega
      have k2 : (j : Int) + 1 < (m : Int) := by omega
      have k3 : (j : Int) + 1 + 1 < (m : Int) := by omega
      have k4 : (0 : Int) ≤ (j : Int) + 1 + 1 := by omega
      have k5 : ¬ ((j : Int) + 1 < 0) := by omega
      have k6 : ((j : Int) + 1 + 1).toNat = j + 1 + 1 := by omega
      have k7 : ((j : Int) + 1).toNat = j + 1 := by omega
      have i0 : ∀ W : World, (Instr.index 84 (.agg #[.int .i64 e1, .int .i64 e2]) (.int .i64 0)).run Try.prog W = .ok (.int .i64 e1) W := fun W => idx_one 84 2 #[.int .i64 e1, .int .i64 e2] 0 Try.underlying84 (by omega) (.int .i64 e1) rfl W
      have i1 : ∀ W : World, (Instr.index 84 (.agg #[.int .i64 e1, .int .i64 e2]) (.int .i64 1)).run Try.prog W = .ok (.int .i64 e2) W := fun W => idx_one 84 2 #[.int .i64 e1, .int .i64 e2] 1 Try.underlying84 (by omega) (.int .i64 e2) rfl W
      rw [hB]
      clear he1 he2 hB hP hQ hR HB1 HS1 HS2 HXC HYC hp0 hp1 hp2
      go_wp2
      have HH0 := hide (show (fun w' => Below w.heap.size w w') wr.drew from below_drewN HBE.out 1)
      refine wp_region_held_drew (S := fun w' => Below w.heap.size w w') (by kernel_rfl) HH0.out (fun hHeld => ?_)
      refine take_at (i := 0) 24 (v := .slice (some ⟨b, off, none⟩) m c) rfl rfl (by kernel_rfl) (by kernel_rfl) (by kernel_rfl) (fun _ _ _ h => h) (Or.inl ⟨by rfl, by intro w hSw; go_simp⟩) (by assumption) ?_
      try simp only [Act.put, List.setIfInBounds_toArray, List.set_cons_zero, List.set_cons_succ]
      refine take_at (i := 1) 25 (v := .int .i64 ((j : Int) + 1)) rfl rfl (by kernel_rfl) (by kernel_rfl) (by kernel_rfl) (fun _ _ _ h => h) (Or.inl ⟨by rfl, by intro w hSw; go_simp⟩) (by assumption) ?_
      try simp only [Act.put, List.setIfInBounds_toArray, List.set_cons_zero, List.set_cons_succ]
      refine take_at (i := 2) 26 (v := .int .i64 ((j : Int) + 1 + 1)) rfl rfl (by kernel_rfl) (by kernel_rfl) (by kernel_rfl) (fun _ _ _ h => h) (Or.inl ⟨by rfl, by intro w hSw; go_simp⟩) (by assumption) ?_
      try simp only [Act.put, List.setIfInBounds_toArray, List.set_cons_zero, List.set_cons_succ]
      refine take_at (i := 3) 27 (v := .pointer (some ⟨b, off + (j + 1 + 1) * 2, none⟩)) rfl rfl (by kernel_rfl) (by kernel_rfl) (by kernel_rfl) (fun _ _ _ h => h) (Or.inl ⟨by rfl, by intro w hSw; go_simp⟩) (by assumption) ?_
      try simp only [Act.put, List.setIfInBounds_toArray, List.set_cons_zero, List.set_cons_succ]
      refine take_at (i := 4) 28 (v := .pointer (some ⟨b, off + (j + 1 + 1) * 2, none⟩)) rfl rfl (by kernel_rfl) (by kernel_rfl) (by kernel_rfl) (fun _ _ _ h => h) (Or.inl ⟨by rfl, by intro w hSw; go_simp⟩) (by assumption) ?_
      try simp only [Act.put, List.setIfInBounds_toArray, List.set_cons_zero, List.set_cons_succ]
      refine take_at (i := 5) 29 (v := .int .i64 R.1) rfl rfl (by kernel_rfl) (by kernel_rfl) (by kernel_rfl) (fun _ _ _ h => h) (Or.inl ⟨by rfl, by intro w hSw; have c := HZC.out w hSw; have d := c.2.2.1; clear c; go_simp⟩) (by assumption) ?_
      try simp only [Act.put, List.setIfInBounds_toArray, List.set_cons_zero, List.set_cons_succ]
      refine take_at (i := 6) 30 (v := .slice (some ⟨b, off, none⟩) m c) rfl rfl (by kernel_rfl) (by kernel_rfl) (by kernel_rfl) (fun _ _ _ h => h) (Or.inl ⟨by rfl, by intro w hSw; go_simp⟩) (by assumption) ?_
      try simp only [Act.put, List.setIfInBounds_toArray, List.set_cons_zero, List.set_cons_succ]
      refine take_at (i := 7) 31 (v := .int .i64 ((j : Int) + 1)) rfl rfl (by kernel_rfl) (by kernel_rfl) (by kernel_rfl) (fun _ _ _ h => h) (Or.inl ⟨by rfl, by intro w hSw; go_simp⟩) (by assumption) ?_
      try simp only [Act.put, List.setIfInBounds_toArray, List.set_cons_zero, List.set_cons_succ]
      refine take_at (i := 8) 32 (v := .pointer (some ⟨b, off + (j + 1) * 2, none⟩)) rfl rfl (by kernel_rfl) (by kernel_rfl) (by kernel_rfl) (fun _ _ _ h => h) (Or.inl ⟨by rfl, by intro w hSw; go_simp⟩) (by assumption) ?_
      try simp only [Act.put, List.setIfInBounds_toArray, List.set_cons_zero, List.set_cons_succ]
      refine take_at (i := 9) 33 (v := .pointer (some ⟨b, off + (j + 1) * 2, none⟩)) rfl rfl (by kernel_rfl) (by kernel_rfl) (by kernel_rfl) (fun _ _ _ h => h) (Or.inl ⟨by rfl, by intro w hSw; go_simp⟩) (by assumption) ?_
      try simp only [Act.put, List.setIfInBounds_toArray, List.set_cons_zero, List.set_cons_succ]
      refine take_at (i := 10) 34 (v := .int .i64 Q.1) rfl rfl (by kernel_rfl) (by kernel_rfl) (by kernel_rfl) (fun _ _ _ h => h) (Or.inl ⟨by rfl, by intro w hSw; have c := HZC.out w hSw; have d := c.2.1.1; clear c; go_simp⟩) (by assumption) ?_
      try simp only [Act.put, List.setIfInBounds_toArray, List.set_cons_zero, List.set_cons_succ]
      refine take_at (i := 11) 35 (v := .int .i64 (2 * Q.1)) rfl rfl (by kernel_rfl) (by kernel_rfl) (by kernel_rfl) (fun _ _ _ h => h) (Or.inl ⟨by rfl, by intro w hSw; go_simp⟩) (by assumption) ?_
      try simp only [Act.put, List.setIfInBounds_toArray, List.set_cons_zero, List.set_cons_succ]
      refine take_at (i := 12) 36 (v := .int .i64 (R.1 - 2 * Q.1)) rfl rfl (by kernel_rfl) (by kernel_rfl) (by kernel_rfl) (fun _ _ _ h => h) (Or.inl ⟨by rfl, by intro w hSw; go_simp⟩) (by assumption) ?_
      try simp only [Act.put, List.setIfInBounds_toArray, List.set_cons_zero, List.set_cons_succ]
      refine take_at (i := 13) 37 (v := .slice (some ⟨b, off, none⟩) m c) rfl rfl (by kernel_rfl) (by kernel_rfl) (by kernel_rfl) (fun _ _ _ h => h) (Or.inl ⟨by rfl, by intro w hSw; go_simp⟩) (by assumption) ?_
      try simp only [Act.put, List.setIfInBounds_toArray, List.set_cons_zero, List.set_cons_succ]
      refine take_at (i := 14) 38 (v := .int .i64 ((j : Int) + 1)) rfl rfl (by kernel_rfl) (by kernel_rfl) (by kernel_rfl) (fun _ _ _ h => h) (Or.inl ⟨by rfl, by intro w hSw; go_simp⟩) (by assumption) ?_
      try simp only [Act.put, List.setIfInBounds_toArray, List.set_cons_zero, List.set_cons_succ]
      refine take_at (i := 15) 39 (v := .int .i64 (j : Int)) rfl rfl (by kernel_rfl) (by kernel_rfl) (by kernel_rfl) (fun _ _ _ h => h) (Or.inl ⟨by rfl, by intro w hSw; go_simp⟩) (by assumption) ?_
      try simp only [Act.put, List.setIfInBounds_toArray, List.set_cons_zero, List.set_cons_succ]
      refine take_at (i := 16) 40 (v := .pointer (some ⟨b, off + j * 2, none⟩)) rfl rfl (by kernel_rfl) (by kernel_rfl) (by kernel_rfl) (fun _ _ _ h => h) (Or.inl ⟨by rfl, by intro w hSw; go_simp⟩) (by assumption) ?_
      try simp only [Act.put, List.setIfInBounds_toArray, List.set_cons_zero, List.set_cons_succ]
      refine take_at (i := 17) 41 (v := .pointer (some ⟨b, off + j * 2, none⟩)) rfl rfl (by kernel_rfl) (by kernel_rfl) (by kernel_rfl) (fun _ _ _ h => h) (Or.inl ⟨by rfl, by intro w hSw; go_simp⟩) (by assumption) ?_
      try simp only [Act.put, List.setIfInBounds_toArray, List.set_cons_zero, List.set_cons_succ]
      refine take_at (i := 18) 42 (v := .int .i64 P.1) rfl rfl (by kernel_rfl) (by kernel_rfl) (by kernel_rfl) (fun _ _ _ h => h) (Or.inl ⟨by rfl, by intro w hSw; have c := HZC.out w hSw; have d := c.1.1; clear c; go_simp⟩) (by assumption) ?_
      try simp only [Act.put, List.setIfInBounds_toArray, List.set_cons_zero, List.set_cons_succ]
      refine take_at (i := 19) 43 (v := .int .i64 e1) rfl rfl (by kernel_rfl) (by kernel_rfl) (by kernel_rfl) (fun _ _ _ h => h) (Or.inl ⟨by rfl, by intro w hSw; go_simp⟩) (by assumption) ?_
      try simp only [Act.put, List.setIfInBounds_toArray, List.set_cons_zero, List.set_cons_succ]
      refine take_at (i := 20) 44 (v := .slice (some ⟨b, off, none⟩) m c) rfl rfl (by kernel_rfl) (by kernel_rfl) (by kernel_rfl) (fun _ _ _ h => h) (Or.inl ⟨by rfl, by intro w hSw; go_simp⟩) (by assumption) ?_
      try simp only [Act.put, List.setIfInBounds_toArray, List.set_cons_zero, List.set_cons_succ]
      refine take_at (i := 21) 45 (v := .int .i64 ((j : Int) + 1)) rfl rfl (by kernel_rfl) (by kernel_rfl) (by kernel_rfl) (fun _ _ _ h => h) (Or.inl ⟨by rfl, by intro w hSw; go_simp⟩) (by assumption) ?_
      try simp only [Act.put, List.setIfInBounds_toArray, List.set_cons_zero, List.set_cons_succ]
      refine take_at (i := 22) 46 (v := .int .i64 ((j : Int) + 1 + 1)) rfl rfl (by kernel_rfl) (by kernel_rfl) (by kernel_rfl) (fun _ _ _ h => h) (Or.inl ⟨by rfl, by intro w hSw; go_simp⟩) (by assumption) ?_
      try simp only [Act.put, List.setIfInBounds_toArray, List.set_cons_zero, List.set_cons_succ]
      refine take_at (i := 23) 47 (v := .pointer (some ⟨b, off + (j + 1 + 1) * 2, none⟩)) rfl rfl (by kernel_rfl) (by kernel_rfl) (by kernel_rfl) (fun _ _ _ h => h) (Or.inl ⟨by rfl, by intro w hSw; go_simp⟩) (by assumption) ?_
      try simp only [Act.put, List.setIfInBounds_toArray, List.set_cons_zero, List.set_cons_succ]
      refine take_at (i := 24) 48 (v := .pointer (some ⟨b, off + (j + 1 + 1) * 2 + 1, none⟩)) rfl rfl (by kernel_rfl) (by kernel_rfl) (by kernel_rfl) (fun _ _ _ h => h) (Or.inl ⟨by rfl, by intro w hSw; go_simp⟩) (by assumption) ?_
      try simp only [Act.put, List.setIfInBounds_toArray, List.set_cons_zero, List.set_cons_succ]
      refine take_at (i := 25) 49 (v := .int .i64 R.2) rfl rfl (by kernel_rfl) (by kernel_rfl) (by kernel_rfl) (fun _ _ _ h => h) (Or.inl ⟨by rfl, by intro w hSw; have c := HZC.out w hSw; have d := c.2.2.2; clear c; go_simp⟩) (by assumption) ?_
      try simp only [Act.put, List.setIfInBounds_toArray, List.set_cons_zero, List.set_cons_succ]
      refine take_at (i := 26) 50 (v := .slice (some ⟨b, off, none⟩) m c) rfl rfl (by kernel_rfl) (by kernel_rfl) (by kernel_rfl) (fun _ _ _ h => h) (Or.inl ⟨by rfl, by intro w hSw; go_simp⟩) (by assumption) ?_
      try simp only [Act.put, List.setIfInBounds_toArray, List.set_cons_zero, List.set_cons_succ]
      refine take_at (i := 27) 51 (v := .int .i64 ((j : Int) + 1)) rfl rfl (by kernel_rfl) (by kernel_rfl) (by kernel_rfl) (fun _ _ _ h => h) (Or.inl ⟨by rfl, by intro w hSw; go_simp⟩) (by assumption) ?_
      try simp only [Act.put, List.setIfInBounds_toArray, List.set_cons_zero, List.set_cons_succ]
      refine take_at (i := 28) 52 (v := .pointer (some ⟨b, off + (j + 1) * 2, none⟩)) rfl rfl (by kernel_rfl) (by kernel_rfl) (by kernel_rfl) (fun _ _ _ h => h) (Or.inl ⟨by rfl, by intro w hSw; go_simp⟩) (by assumption) ?_
      try simp only [Act.put, List.setIfInBounds_toArray, List.set_cons_zero, List.set_cons_succ]
      refine take_at (i := 29) 53 (v := .pointer (some ⟨b, off + (j + 1) * 2 + 1, none⟩)) rfl rfl (by kernel_rfl) (by kernel_rfl) (by kernel_rfl) (fun _ _ _ h => h) (Or.inl ⟨by rfl, by intro w hSw; go_simp⟩) (by assumption) ?_
      try simp only [Act.put, List.setIfInBounds_toArray, List.set_cons_zero, List.set_cons_succ]
      refine take_at (i := 30) 54 (v := .int .i64 Q.2) rfl rfl (by kernel_rfl) (by kernel_rfl) (by kernel_rfl) (fun _ _ _ h => h) (Or.inl ⟨by rfl, by intro w hSw; have c := HZC.out w hSw; have d := c.2.1.2; clear c; go_simp⟩) (by assumption) ?_
      try simp only [Act.put, List.setIfInBounds_toArray, List.set_cons_zero, List.set_cons_succ]
      refine take_at (i := 31) 55 (v := .int .i64 (2 * Q.2)) rfl rfl (by kernel_rfl) (by kernel_rfl) (by kernel_rfl) (fun _ _ _ h => h) (Or.inl ⟨by rfl, by intro w hSw; go_simp⟩) (by assumption) ?_
      try simp only [Act.put, List.setIfInBounds_toArray, List.set_cons_zero, List.set_cons_succ]
      refine take_at (i := 32) 56 (v := .int .i64 (R.2 - 2 * Q.2)) rfl rfl (by kernel_rfl) (by kernel_rfl) (by kernel_rfl) (fun _ _ _ h => h) (Or.inl ⟨by rfl, by intro w hSw; go_simp⟩) (by assumption) ?_
      try simp only [Act.put, List.setIfInBounds_toArray, List.set_cons_zero, List.set_cons_succ]
      refine take_at (i := 33) 57 (v := .slice (some ⟨b, off, none⟩) m c) rfl rfl (by kernel_rfl) (by kernel_rfl) (by kernel_rfl) (fun _ _ _ h => h) (Or.inl ⟨by rfl, by intro w hSw; go_simp⟩) (by assumption) ?_
      try simp only [Act.put, List.setIfInBounds_toArray, List.set_cons_zero, List.set_cons_succ]
      refine take_at (i := 34) 58 (v := .int .i64 ((j : Int) + 1)) rfl rfl (by kernel_rfl) (by kernel_rfl) (by kernel_rfl) (fun _ _ _ h => h) (Or.inl ⟨by rfl, by intro w hSw; go_simp⟩) (by assumption) ?_
      try simp only [Act.put, List.setIfInBounds_toArray, List.set_cons_zero, List.set_cons_succ]
      refine take_at (i := 35) 59 (v := .int .i64 (j : Int)) rfl rfl (by kernel_rfl) (by kernel_rfl) (by kernel_rfl) (fun _ _ _ h => h) (Or.inl ⟨by rfl, by intro w hSw; go_simp⟩) (by assumption) ?_
      try simp only [Act.put, List.setIfInBounds_toArray, List.set_cons_zero, List.set_cons_succ]
      refine take_at (i := 36) 60 (v := .pointer (some ⟨b, off + j * 2, none⟩)) rfl rfl (by kernel_rfl) (by kernel_rfl) (by kernel_rfl) (fun _ _ _ h => h) (Or.inl ⟨by rfl, by intro w hSw; go_simp⟩) (by assumption) ?_
      try simp only [Act.put, List.setIfInBounds_toArray, List.set_cons_zero, List.set_cons_succ]
      refine take_at (i := 37) 61 (v := .pointer (some ⟨b, off + j * 2 + 1, none⟩)) rfl rfl (by kernel_rfl) (by kernel_rfl) (by kernel_rfl) (fun _ _ _ h => h) (Or.inl ⟨by rfl, by intro w hSw; go_simp⟩) (by assumption) ?_
      try simp only [Act.put, List.setIfInBounds_toArray, List.set_cons_zero, List.set_cons_succ]
      refine take_at (i := 38) 62 (v := .int .i64 P.2) rfl rfl (by kernel_rfl) (by kernel_rfl) (by kernel_rfl) (fun _ _ _ h => h) (Or.inl ⟨by rfl, by intro w hSw; have c := HZC.out w hSw; have d := c.1.2; clear c; go_simp⟩) (by assumption) ?_
      try simp only [Act.put, List.setIfInBounds_toArray, List.set_cons_zero, List.set_cons_succ]
      refine take_at (i := 39) 63 (v := .int .i64 e2) rfl rfl (by kernel_rfl) (by kernel_rfl) (by kernel_rfl) (fun _ _ _ h => h) (Or.inl ⟨by rfl, by intro w hSw; go_simp⟩) (by assumption) ?_
      try simp only [Act.put, List.setIfInBounds_toArray, List.set_cons_zero, List.set_cons_succ]
      refine take_at (i := 40) 64 (v := .agg #[.int .i64 e1, .int .i64 e2]) rfl rfl (by kernel_rfl) (by kernel_rfl) (by kernel_rfl) (fun _ _ _ h => h) (Or.inl ⟨by rfl, by intro w hSw; go_simp⟩) (by assumption) ?_
      try simp only [Act.put, List.setIfInBounds_toArray, List.set_cons_zero, List.set_cons_succ]
      refine take_at (i := 41) 65 (v := .int .i64 0) rfl rfl (by kernel_rfl) (by kernel_rfl) (by kernel_rfl) (fun _ _ _ h => h) (Or.inl ⟨by rfl, by intro w hSw; go_simp⟩) (by assumption) ?_
      try simp only [Act.put, List.setIfInBounds_toArray, List.set_cons_zero, List.set_cons_succ]
      refine wpAnyH_done (by kernel_rfl) ?_ _
      clear w1 w2 w3 w4 w5 w6 w7 w8 w9 k0 k1 k2 k3 k4 k5 k6 k7
      go_wp2
      go_rounds 3
      go_wp2
      all_goals
        refine ⟨⟨j + 1, .inr (by omega), by go_num, ?_, below_drewN HBE.out 1⟩, by simp [intOf]; omega⟩
        rw [HBN.out]
        congr 1
        unfold mx
        (repeat' split) <;> omega
    · have hj2 : m - 2 = j := by omega
      have HJ := hide hj2
      clear hj2
      go_wp2
      go_ret2
      exact ⟨by rw [HJ.out]; rfl, HBE.out⟩
end Go.Proofs.Ythfmjohbokpceaa
