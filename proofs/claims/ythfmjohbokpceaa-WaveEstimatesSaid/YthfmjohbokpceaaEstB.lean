import Derived.Test.YthfmjohbokpceaaEstA
import Derived.Test.YthfmjohbokpceaaWvDA
import Derived.Test.YthfmjohbokpceaaWvO
import Derived.Test.YthfmjohbokpceaaCelA
namespace Go.Proofs.Ythfmjohbokpceaa
open Go.RowKit Go.WideShapes Go.ChangeShapes

section
variable {P : Program} {ops : Array Oper} {o : Oper} {a : Act} {w : World} {K : Act → World → Prop} {Q : Exit → Act → World → Prop} {E : Prop}
theorem step_store_rowE (hgd : o.guard = none) (ty : TypeId) (x y : Operand) (ho : o.op = .store ty x y)
    (g : Nat) (cells : Array Value) (hx : a.eval x = .pointer (some ⟨g, 0, none⟩)) (hy : a.eval y = .agg cells)
    (t : TypeId) (old : Array Value) (hg : Blk w g t old) (hi : (P.info? ty).map (·.size) = some cells.size)
    (hold : old.size = cells.size) (h1 : cells.all (·.oneCell') = true) (h : K (a.put o.dst undef) (w.setRow g cells)) :
    if Region.wanted o (yielded ops a.tmps) = true then o.wp P a w K Q else E := by
  rw [if_pos (by simp [Region.wanted, hgd])]
  exact wp_store_row ty x y ho g cells hx hy t old hg hi hold h1 h
end
/-! interpolated values -/
theorem phr_info : (Try.prog.info? 118).map (fun i => (i.zero, i.size, i.bytes)) = some (some (.agg #[.int .i64 0, .int .i64 0, .int .i64 0]), 3, 24) := by kernel_rfl
theorem pvs_app (a b : List Pth) : pvs (a ++ b) = pvs a ++ pvs b := by simp [pvs]
def phN (l : List (Int × Int)) (s i : Nat) : Nat := min (i / s + 1) (l.length - 1)
def phR (l : List (Int × Int)) (s i : Nat) : Int := (kg l (i / s)).1 * ((s : Int) - ((i % s : Nat) : Int)) + (kg l (phN l s i)).1 * ((i % s : Nat) : Int)
def phI (l : List (Int × Int)) (s i : Nat) : Int := (kg l (i / s)).2 * ((s : Int) - ((i % s : Nat) : Int)) + (kg l (phN l s i)).2 * ((i % s : Nat) : Int)
def phG (l : List (Int × Int)) (s i : Nat) : Int := (gcdF [phR l s i, phI l s i, (s : Int)] 3 : Int)
def phV (l : List (Int × Int)) (s i : Nat) : Pth := ((phR l s i).tdiv (phG l s i), (phI l s i).tdiv (phG l s i), (s : Int).tdiv (phG l s i))
def phL (l : List (Int × Int)) (s : Nat) : Nat → List Pth := tab (phV l s)
theorem phL_succ (l : List (Int × Int)) (s k : Nat) : phL l s (k + 1) = phL l s k ++ [phV l s k] := tab_succ _ k
theorem lin_bd {a b s r : Int} (ha : -10000 ≤ a ∧ a ≤ 10000) (hb : -10000 ≤ b ∧ b ≤ 10000) (hs : 1 ≤ s ∧ s ≤ 20) (hr : 0 ≤ r ∧ r < s) :
    (-200000 ≤ a * (s - r) ∧ a * (s - r) ≤ 200000) ∧ (-200000 ≤ b * r ∧ b * r ≤ 200000) := by
  have h1 := mul_le_size ha.1 ha.2 (show -20 ≤ s - r by omega) (show s - r ≤ 20 by omega)
  have h2 := mul_le_size hb.1 hb.2 (show -20 ≤ r by omega) (show r ≤ 20 by omega)
  omega
theorem gcd_pos (x y : Int) (s : Nat) (hs : 0 < s) : 0 < gcdF [x, y, (s : Int)] 3 ∧ gcdF [x, y, (s : Int)] 3 ≤ s := by
  have e : gcdF [x, y, (s : Int)] 3 = Int.gcd (gcdF [x, y, (s : Int)] 2 : Int) (s : Int) := rfl
  rw [e]
  exact ⟨Int.gcd_pos_of_ne_zero_right _ (by omega), Nat.le_of_dvd hs (by simpa using Int.gcd_dvd_natAbs_right (gcdF [x, y, (s : Int)] 2 : Int) (s : Int))⟩
theorem tdiv_lim (x : Int) {g B : Int} (_hg : 1 ≤ g) (h : -B ≤ x ∧ x ≤ B) : -B ≤ x.tdiv g ∧ x.tdiv g ≤ B := by
  have h1 : (x.tdiv g).natAbs ≤ x.natAbs := by rw [Int.natAbs_tdiv]; exact Nat.div_le_self _ _
  omega
theorem reads_new (W : World) (a b c : Value) (t : TypeId) : Reads (W.alloc (.cells #[a, b, c] t)) (W.heap.size + 1) 3 (some ⟨W.heap.size, 0, none⟩) 1 [a, b, c] :=
  ⟨rfl, fun _ => ⟨⟨W.heap.size, 0, none⟩, rfl, Nat.lt_succ_self _, cells_new W [a, b, c] t⟩⟩
set_option maxRecDepth 100000 in
set_option maxHeartbeats 8000000 in
theorem Interpolated_ok (A : Option Addr) (c m s n : Nat) (l : List (Int × Int)) (w : World) (hm : l.length = m) (hs : Sl w A (gv l)) (h0 : 0 < m) (h40 : m ≤ 40) (hE : eachE entE l = 0) (hs1 : 1 ≤ s) (hs2 : s ≤ 20) (hn : n = (m - 1) * s + 1) :
    Calls Try.prog 75 #[.slice A m c, .int .i64 (s : Int)] w fun e w' => ∃ C ck, e = .returned (.tuple #[.slice C n ck, .int .i64 0]) ∧ w'.ownsRow w.heap.size 118 3 (.slice C n ck) n (pvs (phL l s n)) ∧ Below w.heap.size w w' := by
  obtain ⟨i0, hi0, hz0, hz1, hz2⟩ := info_parts phr_info
  have hK := hide (enters Try.func141 (by kernel_rfl) rfl)
  have HT := hide (stay_sl hs)
  have HEN := hide (fun i => kg_le (fun z hz => eachE_ok hE z hz) i)
  have HPS := hide (phL_succ l s)
  have HM := hide hm
  have HEA := hide (fun W (h : Sl W A (gv l)) => by have := each_gauss 141 entE A c l W hK.out (fun z W => entryErr_wave z W) h (by omega); rw [hE, hm] at this; exact this)
  have hmul : ((m - 1 : Nat) : Int) * (s : Int) = (((m - 1) * s : Nat) : Int) := by push_cast; rfl
  have hle : (m - 1) * s ≤ 39 * 20 := Nat.mul_le_mul (by omega) hs2
  have hw1 : IntKind.i64.wrap (((m : Int) - 1) * (s : Int)) = (n : Int) - 1 := by
    rw [show (m : Int) - 1 = ((m - 1 : Nat) : Int) by omega, hmul]
    exact (IntWalk.i64_in _ (by omega)).trans (by omega)
  have hn2 : n ≤ 781 := by omega
  have HN := hide hn
  have hb1 : withinB (s : Int) 1 20 = true := by unfold withinB; simp; omega
  have HB := hide hb1
  have hd1 : decide ((m : Int) ≤ 40) = true := by rw [decide_eq_true_iff]; omega
  clear hs hE hm hmul hn hle hb1
  go_enter Try.func75, Try.ntmps75
  go_wp2_with (first
    | (go_at_call 115; refine (unless_any _ _ _).mono ?_; rintro e w' ⟨rfl, rfl⟩; simp only [])
    | (go_at_call 142; refine (within_wave _ _ _ _).mono ?_; rintro e w' ⟨rfl, rfl⟩; rw [HB.out]; simp only [])
    | (go_at_call 107; refine (first2 _ _ _ _ (by simp)).mono ?_; rintro e w' ⟨rfl, rfl⟩; (first | rw [show firstOf [unlessE true 10, unlessE true 8] = 0 from rfl] | rw [show firstOf [0, unlessE true 2] = 0 from rfl]); simp only [])
    | (go_at_call 140; go_must (refine (HEA.out _ (HT.out.alloc _).now).mono ?_; rintro e w1 ⟨rfl, hb⟩; have HB1 := hide (Below.step (show Below w.heap.size w (w.alloc _) from (Below.refl _ _).alloc (Nat.le_refl _) _) hb); clear hb; simp only [])))
  have HB2 := hide (HB1.out.alloc HB1.out.size (.cells #[.int .i64 0, .int .i64 (unlessE true 2)] 25))
  go_loopw [7, 44] (fun o i wr => ∃ (k : Nat) (C : Option Addr) (c1 : Nat), k ≤ n ∧ i = .int .i64 (k : Int) ∧ o = .slice C k c1 ∧ wr.ownsRow w.heap.size 118 3 (.slice C k c1) k (pvs (phL l s k)) ∧ Below w.heap.size w wr) (fun _ i _ => n - (intOf i).toNat)
  case atStart => exact ⟨0, none, 0, Nat.zero_le _, rfl, rfl, World.ownsRow_nil _ _ _ _, HB2.out⟩
  case round =>
    obtain ⟨k, C, c1, hk, rfl, rfl, hrow, hbel⟩ := hrel
    have HROW := hide hrow
    have HBE := hide hbel
    clear HB1 HB2 HEA hrow hbel
    by_cases hlt : k < n
    · obtain ⟨q, hq⟩ : ∃ q, k / s = q := ⟨_, rfl⟩
      obtain ⟨r, hr⟩ : ∃ r, k % s = r := ⟨_, rfl⟩
      have hqm : q ≤ m - 1 := by
        rw [← hq]
        refine Nat.le_trans (Nat.div_le_div_right (show k ≤ (m - 1) * s by have := HN.out; omega)) ?_
        rw [Nat.mul_div_cancel _ (by omega)]; exact Nat.le_refl _
      have hrs : r < s := by rw [← hr]; exact Nat.mod_lt _ (by omega)
      have q1 : (k : Int).tdiv (s : Int) = (q : Int) := by rw [← Int.ofNat_tdiv, hq]
      have q2 : (k : Int) / (s : Int) = (q : Int) := by rw [← hq]; push_cast; rfl
      have q3 : (k : Int).tmod (s : Int) = (r : Int) := by rw [← Int.ofNat_tmod, hr]
      have q4 : (k : Int) % (s : Int) = (r : Int) := by rw [← hr]; push_cast; rfl
      have q5 : IntKind.i64.wrap ((k : Int).tdiv (s : Int)) = (q : Int) := by rw [q1]; exact IntWalk.i64_in _ (by omega)
      obtain ⟨b, hb⟩ : ∃ b, min (q + 1) (m - 1) = b := ⟨_, rfl⟩
      have HV := hide (show phV l s k = ((phR l s k).tdiv (phG l s k), (phI l s k).tdiv (phG l s k), (s : Int).tdiv (phG l s k)) from rfl)
      have HRR := hide (show phR l s k = (kg l q).1 * ((s : Int) - (r : Int)) + (kg l b).1 * (r : Int) by unfold phR phN; rw [hq, hr, HM.out, hb])
      have HII := hide (show phI l s k = (kg l q).2 * ((s : Int) - (r : Int)) + (kg l b).2 * (r : Int) by unfold phI phN; rw [hq, hr, HM.out, hb])
      have HGG := hide (show phG l s k = (gcdF [phR l s k, phI l s k, (s : Int)] 3 : Int) from rfl)
      have HGP := hide (gcd_pos (phR l s k) (phI l s k) s (by omega))
      obtain ⟨ab, ao, rfl, x0, x1⟩ := HT.out.now.at2 (k := q) (by rw [HM.out]; omega)
      have hxq : l[q]'(by rw [HM.out]; omega) = kg l q := by unfold kg; rw [List.getElem?_eq_getElem]; rfl
      rw [hxq] at x0 x1
      have hbm : b < m := by omega
      obtain ⟨ab', ao', e2, y0, y1⟩ := HT.out.now.at2 (k := b) (by rw [HM.out]; omega)
      injection e2 with e2; injection e2 with e3 e4 _; subst e3 e4
      have hxb : l[b]'(by rw [HM.out]; omega) = kg l b := by unfold kg; rw [List.getElem?_eq_getElem]; rfl
      rw [hxb] at y0 y1
      have ha := HEN.out q
      have hbb := HEN.out b
      obtain ⟨P, hP⟩ : ∃ P, kg l q = P := ⟨_, rfl⟩
      obtain ⟨Q, hQ⟩ : ∃ Q, kg l b = Q := ⟨_, rfl⟩
      rw [hP] at x0 x1 ha HRR HII
      rw [hQ] at y0 y1 hbb HRR HII
      obtain ⟨u1, u2⟩ := lin_bd (a := P.1) (b := Q.1) (s := (s : Int)) (r := (r : Int)) ⟨ha.1, ha.2.1⟩ ⟨hbb.1, hbb.2.1⟩ (by omega) (by omega)
      obtain ⟨u3, u4⟩ := lin_bd (a := P.2) (b := Q.2) (s := (s : Int)) (r := (r : Int)) ⟨ha.2.2.1, ha.2.2.2⟩ ⟨hbb.2.2.1, hbb.2.2.2⟩ (by omega) (by omega)
      have w1 : IntKind.i64.wrap ((s : Int) - (r : Int)) = (s : Int) - (r : Int) := IntWalk.i64_in _ (by omega)
      have w2 : IntKind.i64.wrap (P.1 * ((s : Int) - (r : Int))) = P.1 * ((s : Int) - (r : Int)) := IntWalk.i64_in _ (by omega)
      have w3 : IntKind.i64.wrap (Q.1 * (r : Int)) = Q.1 * (r : Int) := IntWalk.i64_in _ (by omega)
      have w4 : IntKind.i64.wrap (P.1 * ((s : Int) - (r : Int)) + Q.1 * (r : Int)) = P.1 * ((s : Int) - (r : Int)) + Q.1 * (r : Int) := IntWalk.i64_in _ (by omega)
      have w5 : IntKind.i64.wrap (P.2 * ((s : Int) - (r : Int))) = P.2 * ((s : Int) - (r : Int)) := IntWalk.i64_in _ (by omega)
      have w6 : IntKind.i64.wrap (Q.2 * (r : Int)) = Q.2 * (r : Int) := IntWalk.i64_in _ (by omega)
      have w7 : IntKind.i64.wrap (P.2 * ((s : Int) - (r : Int)) + Q.2 * (r : Int)) = P.2 * ((s : Int) - (r : Int)) + Q.2 * (r : Int) := IntWalk.i64_in _ (by omega)
      have HW := hide (And.intro w1 (And.intro w2 (And.intro w3 (And.intro w4 (And.intro w5 (And.intro w6 w7))))))
      have hRb : -400000 ≤ phR l s k ∧ phR l s k ≤ 400000 := by rw [HRR.out]; omega
      have hIb : -400000 ≤ phI l s k ∧ phI l s k ≤ 400000 := by rw [HII.out]; omega
      have HDV := hide (fun W (g : Nat) (hg : W.heap.size = g) => show Calls Try.prog 154 #[.slice (some ⟨g, 0, none⟩) 3 3] (W.alloc (.cells #[.int .i64 (phR l s k), .int .i64 (phI l s k), .int .i64 (s : Int)] 3)) fun e w' => e = .returned (.int .i64 (phG l s k)) ∧ ∃ n, w' = (W.alloc (.cells #[.int .i64 (phR l s k), .int .i64 (phI l s k), .int .i64 (s : Int)] 3)).drewN n from
        divisor_wave (some ⟨g, 0, none⟩) 3 [phR l s k, phI l s k, (s : Int)] _ (Sl.new W (iv [phR l s k, phI l s k, (s : Int)]) 3 g hg) (by simp) (fun z hz => by
          simp only [List.mem_cons, List.not_mem_nil, or_false] at hz
          rcases hz with rfl | rfl | rfl <;> omega))
      obtain ⟨R, hR⟩ : ∃ R, phR l s k = R := ⟨_, rfl⟩
      obtain ⟨I, hI⟩ : ∃ I, phI l s k = I := ⟨_, rfl⟩
      obtain ⟨D, hD⟩ : ∃ D, phG l s k = D := ⟨_, rfl⟩
      rw [hD, hR, hI] at HV HDV
      rw [hR] at HRR hRb
      rw [hI] at HII hIb
      have hD1 : 1 ≤ D ∧ D ≤ (s : Int) := by rw [← hD, HGG.out]; have := HGP.out; omega
      clear HGG HGP hR hI hD hP hQ u1 u2 u3 u4 ha hbb hxq hxb
      obtain ⟨d1, d2⟩ := hD1
      have z1 := tdiv_lim R d1 hRb
      have z2 := tdiv_lim I d1 hIb
      have z3 := tdiv_lim (s : Int) d1 (B := 20) (by omega)
      have v1 : IntKind.i64.wrap (R.tdiv D) = R.tdiv D := IntWalk.i64_in _ (by omega)
      have v2 : IntKind.i64.wrap (I.tdiv D) = I.tdiv D := IntWalk.i64_in _ (by omega)
      have e3 : (s : Int).tdiv D = (s : Int) / D := Int.tdiv_eq_ediv_of_nonneg (by omega)
      rw [e3] at z3 HV
      have v3 : IntKind.i64.wrap ((s : Int) / D) = (s : Int) / D := IntWalk.i64_in _ (by omega)
      have HVV := hide (And.intro v1 (And.intro v2 v3))
      have HPV := hide (show pvs (phL l s (k + 1)) = pvs (phL l s k) ++ [.int .i64 (R.tdiv D), .int .i64 (I.tdiv D), .int .i64 ((s : Int) / D)] by rw [HPS.out, pvs_app, HV.out]; rfl)
      have HXC := hide (fun W (h : Below w.heap.size w W) => show W.cell? ⟨ab, ao + q * 2, none⟩ = some (.int .i64 P.1) ∧ W.cell? ⟨ab, ao + q * 2 + 1, none⟩ = some (.int .i64 P.2) from ⟨(h.cell (p := ⟨ab, ao + q * 2, none⟩) (lt_of_cell x0)).trans x0, (h.cell (p := ⟨ab, ao + q * 2 + 1, none⟩) (lt_of_cell x1)).trans x1⟩)
      have HYC := hide (fun W (h : Below w.heap.size w W) => show W.cell? ⟨ab, ao + b * 2, none⟩ = some (.int .i64 Q.1) ∧ W.cell? ⟨ab, ao + b * 2 + 1, none⟩ = some (.int .i64 Q.2) from ⟨(h.cell (p := ⟨ab, ao + b * 2, none⟩) (lt_of_cell y0)).trans y0, (h.cell (p := ⟨ab, ao + b * 2 + 1, none⟩) (lt_of_cell y1)).trans y1⟩)
      have k0 : (0 : Int) ≤ (k : Int) := by omega
      have s0 : (1 : Int) ≤ (s : Int) := by omega
      have k1 : (0 : Int) ≤ (q : Int) := by omega
      have k2 : (q : Int) < (m : Int) := by omega
      have hs8 : ¬ s = 0 := by omega
      have hwq : IntKind.i64.wrap (q : Int) = (q : Int) := IntWalk.i64_in _ (by omega)
      have hwr : IntKind.i64.wrap (r : Int) = (r : Int) := IntWalk.i64_in _ (by omega)
      have HQ := hide (And.intro hq hr)
      clear x0 x1 y0 y1 w1 w2 w3 w4 w5 w6 w7 v1 v2 v3 e3 HV z1 z2 z3 hq hr hRb hIb
      go_wp2
      have HH0 := hide (show (fun w' => Below w.heap.size w w') wr.drew from below_drewN HBE.out 1)
      refine wp_region_held_drew (S := fun w' => Below w.heap.size w w') (by kernel_rfl) HH0.out (fun hHeld => ?_)
      refine take_at (i := 0) 47 (v := .slice (some ⟨ab, ao, none⟩) m c) rfl rfl (by kernel_rfl) (by kernel_rfl) (by kernel_rfl) (fun _ _ _ h => h) (Or.inl ⟨by rfl, by intro w hSw; go_simp⟩) (by assumption) ?_
      try simp only [Act.put, List.setIfInBounds_toArray, List.set_cons_zero, List.set_cons_succ]
      refine take_at (i := 1) 48 (v := .int .i64 (k : Int)) rfl rfl (by kernel_rfl) (by kernel_rfl) (by kernel_rfl) (fun _ _ _ h => h) (Or.inl ⟨by rfl, by intro w hSw; go_simp⟩) (by assumption) ?_
      try simp only [Act.put, List.setIfInBounds_toArray, List.set_cons_zero, List.set_cons_succ]
      refine take_at (i := 2) 49 (v := .int .i64 (s : Int)) rfl rfl (by kernel_rfl) (by kernel_rfl) (by kernel_rfl) (fun _ _ _ h => h) (Or.inl ⟨by rfl, by intro w hSw; go_simp⟩) (by assumption) ?_
      try simp only [Act.put, List.setIfInBounds_toArray, List.set_cons_zero, List.set_cons_succ]
      refine take_at (i := 3) 50 (v := .int .i64 (q : Int)) rfl rfl (by kernel_rfl) (by kernel_rfl) (by kernel_rfl) (fun _ _ _ h => h) (Or.inl ⟨by rfl, by intro w hSw; go_simp⟩) (by assumption) ?_
      try simp only [Act.put, List.setIfInBounds_toArray, List.set_cons_zero, List.set_cons_succ]
      refine take_at (i := 4) 51 (v := .pointer (some ⟨ab, ao + q * 2, none⟩)) rfl rfl (by kernel_rfl) (by kernel_rfl) (by kernel_rfl) (fun _ _ _ h => h) (Or.inl ⟨by rfl, by intro w hSw; go_simp⟩) (by assumption) ?_
      try simp only [Act.put, List.setIfInBounds_toArray, List.set_cons_zero, List.set_cons_succ]
      refine take_at (i := 5) 52 (v := .agg #[.int .i64 P.1, .int .i64 P.2]) rfl rfl (by kernel_rfl) (by kernel_rfl) (by kernel_rfl) (fun _ _ _ h => h) (Or.inl ⟨by rfl, by intro w hSw; obtain ⟨c1, c2⟩ := HXC.out w hSw; go_simp⟩) (by assumption) ?_
      try simp only [Act.put, List.setIfInBounds_toArray, List.set_cons_zero, List.set_cons_succ]
      refine take_at (i := 6) 53 (v := .int .i64 (k : Int)) rfl rfl (by kernel_rfl) (by kernel_rfl) (by kernel_rfl) (fun _ _ _ h => h) (Or.inl ⟨by rfl, by intro w hSw; go_simp⟩) (by assumption) ?_
      try simp only [Act.put, List.setIfInBounds_toArray, List.set_cons_zero, List.set_cons_succ]
      refine take_at (i := 7) 54 (v := .int .i64 (s : Int)) rfl rfl (by kernel_rfl) (by kernel_rfl) (by kernel_rfl) (fun _ _ _ h => h) (Or.inl ⟨by rfl, by intro w hSw; go_simp⟩) (by assumption) ?_
      try simp only [Act.put, List.setIfInBounds_toArray, List.set_cons_zero, List.set_cons_succ]
      refine take_at (i := 8) 55 (v := .int .i64 (r : Int)) rfl rfl (by kernel_rfl) (by kernel_rfl) (by kernel_rfl) (fun _ _ _ h => h) (Or.inl ⟨by rfl, by intro w hSw; go_simp⟩) (by assumption) ?_
      try simp only [Act.put, List.setIfInBounds_toArray, List.set_cons_zero, List.set_cons_succ]
      obtain ⟨W0, hW0⟩ : ∃ W0, wr.drew = W0 := ⟨_, rfl⟩
      have HROW1 := hide (show W0.ownsRow w.heap.size 118 3 (.slice C k c1) k (pvs (phL l s k)) by rw [← hW0]; exact HROW.out)
      rw [hW0] at HH0 hHeld ⊢
      clear hW0
      refine wpAnyH_ready (rs := [9]) (by kernel_rfl) (by simp) ?_
      refine AllReadyH.cons rfl (fun K hK => ?_) AllReadyH.nil
      go_simp
      have HH1 := hide (show (fun w' => Below w.heap.size w w') (W0.alloc (.cells #[.int .i64 0, .int .i64 0] 30)) from HH0.out.alloc HH0.out.size _)
      have HA := hide (show Blk (W0.alloc (.cells #[.int .i64 0, .int .i64 0] 30)) W0.heap.size 30 #[.int .i64 0, .int .i64 0] from Blk.new W0 _ _)
      refine hK.out _ _ HH1.out (fun hHeld => ?_)
      clear hK K
      try simp only [Act.put, List.setIfInBounds_toArray, List.set_cons_zero, List.set_cons_succ]
      refine wpAnyH_ready (rs := [10]) (by kernel_rfl) (by simp) ?_
      refine AllReadyH.cons rfl (fun K hK => ?_) AllReadyH.nil
      refine step_store_rowE rfl 30 (.tmp 9) (.tmp 52) rfl W0.heap.size #[.int .i64 P.1, .int .i64 P.2] rfl rfl 30 #[.int .i64 0, .int .i64 0] HA.out (by kernel_rfl) rfl (by simp [Value.oneCell']) ?_
      have HH2 := hide (show (fun w' => Below w.heap.size w w') ((W0.alloc (.cells #[.int .i64 0, .int .i64 0] 30)).setRow W0.heap.size #[.int .i64 P.1, .int .i64 P.2]) from Below.row HH1.out HH0.out.size _)
      have HBW := hide (show Below W0.heap.size W0 ((W0.alloc (.cells #[.int .i64 0, .int .i64 0] 30)).setRow W0.heap.size #[.int .i64 P.1, .int .i64 P.2]) from Below.row ((Below.refl _ _).alloc (Nat.le_refl _) _) (Nat.le_refl _) _)
      have HA2 := hide (stay_blk (HA.out.row #[.int .i64 P.1, .int .i64 P.2]))
      refine hK.out _ _ HH2.out (fun hHeld => ?_)
      clear hK K
      try simp only [Act.put, List.setIfInBounds_toArray]
      refine take_at (i := 11) 10 (v := .int .i64 (r : Int)) rfl rfl (by kernel_rfl) (by kernel_rfl) (by kernel_rfl) (fun _ _ _ h => h) (Or.inl ⟨by rfl, by intro w hSw; go_simp⟩) (by assumption) ?_
      try simp only [Act.put]
      refine wpAnyH_done (by kernel_rfl) ?_ _
      obtain ⟨W1, hW1⟩ : ∃ W1, (W0.alloc (.cells #[.int .i64 0, .int .i64 0] 30)).setRow W0.heap.size #[.int .i64 P.1, .int .i64 P.2] = W1 := ⟨_, rfl⟩
      rw [hW1] at HH2 HA2 HBW
      rw [show (W0.alloc (.cells #[.int .i64 0, .int .i64 0] 30)).setRow W0.heap.size #[.int .i64 P.1, .int .i64 P.2] = W1 from hW1]
      replace HROW1 := hide (own_bel HROW1.out HBW.out)
      clear hW1 HA HH0 HH1 HBW
      obtain ⟨ga, hga⟩ : ∃ g, W0.heap.size = g := ⟨_, rfl⟩
      rw [hga] at HA2 ⊢
      clear hga
      have hbc : (q + 1 ≤ m - 1 ∧ b = q + 1) ∨ (m - 1 < q + 1 ∧ b = m - 1) := by omega
      have HB9 := hide hb
      clear hb
      rcases hbc with ⟨hbq, rfl⟩ | ⟨hbq, rfl⟩
      all_goals
        obtain ⟨c5, c6⟩ := HYC.out _ HH2.out
        have a0 : ∀ o, (W1.alloc o).cell? ⟨ga, 0, none⟩ = some (.int .i64 P.1) := fun o => (HA2.out.alloc o).now.cell 0
        have a1 : ∀ o, (W1.alloc o).cell? ⟨ga, 1, none⟩ = some (.int .i64 P.2) := fun o => (HA2.out.alloc o).now.cell 1
        have HB3 := hide (show ∀ o, Below w.heap.size w (W1.alloc o) from fun o => HH2.out.alloc HH2.out.size o)
        have HR3 := hide (show ∀ o, (W1.alloc o).ownsRow w.heap.size 118 3 (.slice C k c1) k (pvs (phL l s k)) from fun o => HROW1.out.alloc o)
        go_wp2
        obtain ⟨w1, w2, w3, w4, w5, w6, w7⟩ := HW.out
        clear q1 q2 q3 q4 q5 hwq hwr c5 c6
        go_quiet (fail)
        clear w1 w2 w3 w4 w5 w6 w7 a0 a1
        obtain ⟨W3, hW3⟩ : ∃ W3, (W1.alloc (.cells #[.int .i64 Q.1, .int .i64 Q.2] 30)).drewN nq = W3 := ⟨_, rfl⟩
        have HB4 := hide (show Below w.heap.size w W3 by rw [← hW3]; exact below_drewN (HB3.out _) nq)
        have HR4 := hide (show W3.ownsRow w.heap.size 118 3 (.slice C k c1) k (pvs (phL l s k)) by rw [← hW3]; exact HR3.out _)
        rw [hW3]
        clear hW3
        go_wp2_with (go_at_call 154; rw [← HRR.out, ← HII.out]; go_must (refine (HDV.out _ _ (by simp)).mono ?_; rintro e w5 ⟨rfl, n9, rfl⟩; simp only []))
        obtain ⟨W5, hW5⟩ : ∃ W5, (W3.alloc (.cells #[.int .i64 R, .int .i64 I, .int .i64 (s : Int)] 3)).drewN n9 = W5 := ⟨_, rfl⟩
        have HB5 := hide (show Below w.heap.size w W5.drew by rw [← hW5]; exact below_drewN (below_drewN (HB4.out.alloc HB4.out.size _) n9) 1)
        have HR5 := hide (show W5.drew.ownsRow w.heap.size 118 3 (.slice C k c1) k (pvs (phL l s k)) by rw [← hW5]; exact HR4.out.alloc _)
        rw [hW5]
        clear hW5
        obtain ⟨v1, v2, v3⟩ := HVV.out
        have hD0 : ¬ D = 0 := by omega
        refine wp_region_held_drew (S := fun _ => True) (by kernel_rfl) trivial (fun hHeld => ?_)
        obtain ⟨W6, hW6⟩ : ∃ W6, W5.drew = W6 := ⟨_, rfl⟩
        rw [hW6] at HB5 HR5 ⊢
        clear hW6
        refine take_at (i := 0) 94 (v := .slice C k c1) rfl rfl (by kernel_rfl) (by kernel_rfl) (by kernel_rfl) (fun _ _ _ h => h) (Or.inl ⟨by rfl, by intro w hSw; go_simp⟩) (by assumption) ?_
        try simp only [Act.put, List.setIfInBounds_toArray, List.set_cons_zero, List.set_cons_succ]
        refine take_at (i := 1) 95 (v := .int .i64 R) rfl rfl (by kernel_rfl) (by kernel_rfl) (by kernel_rfl) (fun _ _ _ h => h) (Or.inl ⟨by rfl, by intro w hSw; go_simp⟩) (by assumption) ?_
        try simp only [Act.put, List.setIfInBounds_toArray, List.set_cons_zero, List.set_cons_succ]
        refine take_at (i := 2) 96 (v := .int .i64 D) rfl rfl (by kernel_rfl) (by kernel_rfl) (by kernel_rfl) (fun _ _ _ h => h) (Or.inl ⟨by rfl, by intro w hSw; go_simp⟩) (by assumption) ?_
        try simp only [Act.put, List.setIfInBounds_toArray, List.set_cons_zero, List.set_cons_succ]
        refine take_at (i := 3) 97 (v := .int .i64 (R.tdiv D)) rfl rfl (by kernel_rfl) (by kernel_rfl) (by kernel_rfl) (fun _ _ _ h => h) (Or.inl ⟨by rfl, by intro w hSw; go_simp⟩) (by assumption) ?_
        try simp only [Act.put, List.setIfInBounds_toArray, List.set_cons_zero, List.set_cons_succ]
        refine take_at (i := 4) 98 (v := .int .i64 I) rfl rfl (by kernel_rfl) (by kernel_rfl) (by kernel_rfl) (fun _ _ _ h => h) (Or.inl ⟨by rfl, by intro w hSw; go_simp⟩) (by assumption) ?_
        try simp only [Act.put, List.setIfInBounds_toArray, List.set_cons_zero, List.set_cons_succ]
        refine take_at (i := 5) 99 (v := .int .i64 D) rfl rfl (by kernel_rfl) (by kernel_rfl) (by kernel_rfl) (fun _ _ _ h => h) (Or.inl ⟨by rfl, by intro w hSw; go_simp⟩) (by assumption) ?_
        try simp only [Act.put, List.setIfInBounds_toArray, List.set_cons_zero, List.set_cons_succ]
        refine take_at (i := 6) 100 (v := .int .i64 (I.tdiv D)) rfl rfl (by kernel_rfl) (by kernel_rfl) (by kernel_rfl) (fun _ _ _ h => h) (Or.inl ⟨by rfl, by intro w hSw; go_simp⟩) (by assumption) ?_
        try simp only [Act.put, List.setIfInBounds_toArray, List.set_cons_zero, List.set_cons_succ]
        refine take_at (i := 7) 101 (v := .int .i64 (s : Int)) rfl rfl (by kernel_rfl) (by kernel_rfl) (by kernel_rfl) (fun _ _ _ h => h) (Or.inl ⟨by rfl, by intro w hSw; go_simp⟩) (by assumption) ?_
        try simp only [Act.put, List.setIfInBounds_toArray, List.set_cons_zero, List.set_cons_succ]
        refine take_at (i := 8) 102 (v := .int .i64 D) rfl rfl (by kernel_rfl) (by kernel_rfl) (by kernel_rfl) (fun _ _ _ h => h) (Or.inl ⟨by rfl, by intro w hSw; go_simp⟩) (by assumption) ?_
        try simp only [Act.put, List.setIfInBounds_toArray, List.set_cons_zero, List.set_cons_succ]
        refine take_at (i := 9) 103 (v := .int .i64 ((s : Int) / D)) rfl rfl (by kernel_rfl) (by kernel_rfl) (by kernel_rfl) (fun _ _ _ h => h) (Or.inl ⟨by rfl, by intro w hSw; go_simp⟩) (by assumption) ?_
        try simp only [Act.put, List.setIfInBounds_toArray, List.set_cons_zero, List.set_cons_succ]
        refine take_at (i := 10) 104 (v := .agg #[.int .i64 (R.tdiv D), .int .i64 (I.tdiv D), .int .i64 ((s : Int) / D)]) rfl rfl (by kernel_rfl) (by kernel_rfl) (by kernel_rfl) (fun _ _ _ h => h) (Or.inl ⟨by rfl, by intro w hSw; go_simp⟩) (by assumption) ?_
        try simp only [Act.put, List.setIfInBounds_toArray, List.set_cons_zero, List.set_cons_succ]
        refine wpAnyH_ready (rs := [11]) (by kernel_rfl) (by simp) ?_
        refine AllReadyH.cons rfl (fun K hK => ?_) AllReadyH.nil
        go_simp
        refine hK.out _ _ trivial (fun hHeld => ?_)
        clear hK K
        try simp only [Act.put, List.setIfInBounds_toArray, List.set_cons_zero, List.set_cons_succ]
        refine wpAnyH_ready (rs := [12]) (by kernel_rfl) (by simp) ?_
        refine AllReadyH.cons rfl (fun K hK => ?_) AllReadyH.nil
        have hsz6 := HB5.out.size
        refine step_append_any _ (by rfl) (.tmp 94) (.tmp 105) 113 (by rfl) w.heap.size 118 i0 _ 3 24 Try.underlying113 hi0 hz0 hz1 hz2 rfl (by omega) (.slice C k c1) k (pvs (phL l s k)) (by rfl) (HR5.out.alloc (.cells #[.int .i64 (R.tdiv D), .int .i64 (I.tdiv D), .int .i64 ((s : Int) / D)] 118)) (W6.heap.size + 1) (some ⟨W6.heap.size, 0, none⟩) 1 1 [.int .i64 (R.tdiv D), .int .i64 (I.tdiv D), .int .i64 ((s : Int) / D)] (by rfl) (reads_new W6 _ _ _ _) (by simp [Value.oneCell']) (by simp only [maxLen]; omega) (by omega) (by simp; omega) ?_
        intro v2 w9 hown hgrow _
        obtain ⟨C2, c2, rfl⟩ := own_form hown
        have HB9 := hide (Below.app HB5.out HR5.out hgrow)
        have HO9 := hide hown
        clear hown hgrow
        refine hK.out _ _ trivial (fun hHeld => ?_)
        clear hK K
        try simp only [Act.put, List.setIfInBounds_toArray]
        refine take_at (i := 13) 7 (v := .slice C2 (k + 1) c2) rfl rfl (by kernel_rfl) (by kernel_rfl) (by kernel_rfl) (fun _ _ _ h => h) (Or.inl ⟨by rfl, by intro w hSw; go_simp⟩) (by assumption) ?_
        try simp only [Act.put]
        refine wpAnyH_done (by kernel_rfl) ?_ _
        go_wp2
        go_roundw
        case rel => exact ⟨k + 1, C2, c2, by omega, by go_num, rfl, by rw [HPV.out]; exact HO9.out, HB9.out⟩
        case measure => simp [intOf]; omega
    · obtain rfl : k = n := by omega
      go_wp2
      go_ret2
      exact ⟨C, c1, rfl, HROW.out, HBE.out⟩
end Go.Proofs.Ythfmjohbokpceaa
