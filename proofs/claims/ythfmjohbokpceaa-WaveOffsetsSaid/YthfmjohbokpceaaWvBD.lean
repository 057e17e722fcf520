import Derived.Test.YthfmjohbokpceaaWvBC
import Derived.Test.YthfmjohbokpceaaWvZ
import Derived.Test.YthfmjohbokpceaaWvS
namespace Go.Proofs.Ythfmjohbokpceaa
open Go.RowKit Go.WideShapes Go.ChangeShapes

/-! the reference's offset -/
/-- the size of a square, with the squares of its parts -/
theorem sq_norm (x : Nm) : 2 * (sqQ x * sqQ x) ≤ sqP x * sqP x := by
  obtain ⟨a, b, c, d⟩ := x
  unfold sqP sqQ
  dsimp only
  have e : (a * a + b * b + c * c + d * d) * (a * a + b * b + c * c + d * d) - 2 * ((a * b + b * c + c * d - a * d) * (a * b + b * c + c * d - a * d)) =
      (a * a + c * c - b * b - d * d) * (a * a + c * c - b * b - d * d) + 2 * ((a * (b + d) - c * (b - d)) * (a * (b + d) - c * (b - d))) := by grind
  have h1 : ∀ z : Int, 0 ≤ z * z := fun z => by
    rcases Int.le_total 0 z with h | h
    · exact Int.mul_nonneg h h
    · have := Int.mul_nonneg (show 0 ≤ -z by omega) (show 0 ≤ -z by omega)
      rwa [Int.neg_mul_neg] at this
  have h2 := h1 (a * a + c * c - b * b - d * d)
  have h3 := h1 (a * (b + d) - c * (b - d))
  omega
theorem cpW_first (x : Nm) (hP : 0 ≤ sqP x) : 0 < cpW (sqP x - (-1)) (sqQ x - 0) := by
  have hn := sq_norm x
  generalize sqP x = P at *
  generalize sqQ x = Q at *
  have s1 : sgn (P - (-1)) = 1 := by unfold sgn; rw [if_neg (by omega), if_pos (by omega)]
  unfold cpW
  split
  · rw [s1]; decide
  · rw [if_neg (by omega)]
    have e : (P - (-1)) * (P - (-1)) = P * P + 2 * P + 1 := by grind
    have e' : (Q - 0) * (Q - 0) = Q * Q := by grind
    rw [if_pos (by rw [e, e']; omega), s1]; decide
set_option maxRecDepth 100000 in
set_option maxHeartbeats 8000000 in
theorem offsetOf_ref (A B : Option Addr) (c c' n : Nat) (a b : List Nm) (w : World) (ha : a.length = n) (hs : Sl w A (nvs a)) (hs' : Sl w B (nvs b)) (h0 : offE a b = 0) :
    Calls Try.prog 55 #[.slice A n c, .slice B n c'] w fun e w' => e = .returned (.int .i64 (offSt a b 8).1) ∧ Below w.heap.size w w' := by
  obtain ⟨hn0, hbn, hn16, hka, hkb⟩ := offE_ok h0
  rw [ha] at hn0 hn16 hbn
  have HAT := hide (fun k (hk : k < n) => hs.atN (k := k) (by omega))
  have HBT := hide (fun k (hk : k < n) => hs'.atN (k := k) (by omega))
  have HTL := hide (fun i => oterm_le hka hkb i)
  have HOL := hide (fun f k => osum_le hka hkb f k)
  have HKA := hide (fun i => kn_le hka i)
  have HKB := hide (fun i => kn_le hkb i)
  have HBD := hide (offSt_bd (by omega : a.length ≤ 16) hka hkb)
  have HSUM := hide (show ∀ f k, osum a b f (k + 1) = nadd (osum a b f k) (tni (nmul (nconj (kn a k)) (kn b k)) (-(f : Int) * (k : Int))) from fun _ _ => rfl)
  have HSTP := hide (show ∀ f, offSt a b (f + 1) = if 0 < cpW (sqP (osum a b f n) - (offSt a b f).2.1) (sqQ (osum a b f n) - (offSt a b f).2.2) then ((f : Int), sqP (osum a b f n), sqQ (osum a b f n)) else offSt a b f from fun f => by rw [← ha]; rfl)
  have HST0 := hide (show offSt a b 0 = (0, -1, 0) from rfl)
  clear h0 hka hkb hbn hs hs' ha
  go_enter Try.func55, Try.ntmps55
  go_wp2
  go_loopw [5, 7] (fun t i wr => ∃ (f : Nat) (P0 Q0 : Int), f ≤ 8 ∧ i = .int .i64 f ∧ t = .int .i64 (offSt a b f).1 ∧ Blk wr w.heap.size 47 #[.int .i64 P0, .int .i64 Q0] ∧ (f ≠ 0 → (offSt a b f).2 = (P0, Q0)) ∧ Below w.heap.size w wr) (fun _ i _ => 8 - (intOf i).toNat)
  case atStart => exact ⟨0, 0, 0, by omega, rfl, rfl, Blk.new w 47 #[.int .i64 0, .int .i64 0], fun h => absurd rfl h, by go_grown⟩
  case round =>
    obtain ⟨f, P0, Q0, hf, rfl, rfl, hQ, hpq, hbel⟩ := hrel
    have hbz := hbel.size
    by_cases hlt : f < 8
    · have hd : decide ((f : Int) < 8) = true := by rw [decide_eq_true_iff]; omega
      have HQ := hide hQ
      have HPQ := hide hpq
      have hql := hQ.lt
      clear hQ hpq
      go_wp2
      obtain ⟨wo, rfl⟩ : ∃ wo : World, wo = wr := ⟨_, rfl⟩
      go_loopw [9] (fun i wr => ∃ j : Nat, j ≤ n ∧ i = .int .i64 j ∧ Blk wr wo.heap.size 38 (ncells (osum a b f j)) ∧ Below wo.heap.size wo wr) (fun i _ => n - (intOf i).toNat)
      case atStart => exact ⟨0, Nat.zero_le _, rfl, Blk.new wo 38 (ncells n0), by go_grown⟩
      case round =>
        obtain ⟨j, hj, rfl, hT, hbo⟩ := hrel
        have hbo1 : Below w.heap.size w wr := Below.step hbel hbo
        have hboz := hbo.size
        have hTl := hT.lt
        by_cases hlt2 : j < n
        · obtain ⟨bb, off, rfl, e0, e1, e2, e3⟩ := HAT.out j hlt2
          obtain ⟨bb', off', rfl, e4, e5, e6, e7⟩ := HBT.out j hlt2
          have HX := hide (show ∀ W, Below w.heap.size w W → W.cell? ⟨bb', off' + j * 4, none⟩ = some (.int .i64 (kn b j).1) ∧ W.cell? ⟨bb', off' + j * 4 + 1, none⟩ = some (.int .i64 (kn b j).2.1) ∧ W.cell? ⟨bb', off' + j * 4 + 2, none⟩ = some (.int .i64 (kn b j).2.2.1) ∧ W.cell? ⟨bb', off' + j * 4 + 3, none⟩ = some (.int .i64 (kn b j).2.2.2) from fun W h =>
            ⟨(h.cell (p := ⟨bb', off' + j * 4, none⟩) (lt_of_cell e4)).trans e4, (h.cell (p := ⟨bb', off' + j * 4 + 1, none⟩) (lt_of_cell e5)).trans e5, (h.cell (p := ⟨bb', off' + j * 4 + 2, none⟩) (lt_of_cell e6)).trans e6, (h.cell (p := ⟨bb', off' + j * 4 + 3, none⟩) (lt_of_cell e7)).trans e7⟩)
          have HY := hide (show ∀ W, Below w.heap.size w W → W.cell? ⟨bb, off + j * 4, none⟩ = some (.int .i64 (kn a j).1) ∧ W.cell? ⟨bb, off + j * 4 + 1, none⟩ = some (.int .i64 (kn a j).2.1) ∧ W.cell? ⟨bb, off + j * 4 + 2, none⟩ = some (.int .i64 (kn a j).2.2.1) ∧ W.cell? ⟨bb, off + j * 4 + 3, none⟩ = some (.int .i64 (kn a j).2.2.2) from fun W h =>
            ⟨(h.cell (p := ⟨bb, off + j * 4, none⟩) (lt_of_cell e0)).trans e0, (h.cell (p := ⟨bb, off + j * 4 + 1, none⟩) (lt_of_cell e1)).trans e1, (h.cell (p := ⟨bb, off + j * 4 + 2, none⟩) (lt_of_cell e2)).trans e2, (h.cell (p := ⟨bb, off + j * 4 + 3, none⟩) (lt_of_cell e3)).trans e3⟩)
          have hst := HSUM.out f j
          have htl := HTL.out j
          have hol := HOL.out f j
          have ka := HKA.out j
          have kb := HKB.out j
          obtain ⟨p, hp⟩ : ∃ p, kn a j = p := ⟨_, rfl⟩
          obtain ⟨q, hq⟩ : ∃ q, kn b j = q := ⟨_, rfl⟩
          rw [hp] at HY hst htl ka
          rw [hq] at HX hst htl kb
          obtain ⟨S, hS⟩ : ∃ S, osum a b f j = S := ⟨_, rfl⟩
          rw [hS] at hT hst hol
          have HCJ := hide (fun W => conj_ref p W (nle_mono ka (by decide)))
          have HTM := hide (fun W => product_ref (nconj p) q W (nle_mono (nle_conj ka) (by decide)) (nle_mono kb (by decide)))
          obtain ⟨M, hM⟩ : ∃ M, nmul (nconj p) q = M := ⟨_, rfl⟩
          rw [hM] at hst htl HTM
          have hm1 := mul_le_size (a := -(f : Int)) (b := (j : Int)) (m := 8) (n := 16) (by omega) (by omega) (by omega) (by omega)
          obtain ⟨m1, m2⟩ := hm1
          have HTU := hide (fun (e : Int) (he : e = -(f : Int) * (j : Int)) W => he ▸ turn_ref M (-(f : Int) * (j : Int)) W (nle_mono htl (by decide)) (by omega) (by omega))
          have HTN := hide (nle_tni (nle_mono htl (show (40000 : Int) ≤ 4000000000000000000 by decide)) (-(f : Int) * (j : Int)))
          have HSL := hide (nle_mono hol (show (j : Int) * 40000 ≤ 4000000000000000000 by omega))
          have HST := hide hst
          have g1 : IntKind.i64.wrap (-(f : Int)) = -(f : Int) := IntWalk.i64_in _ (by omega)
          have g2 : IntKind.i64.wrap (-(f : Int) * (j : Int)) = -(f : Int) * (j : Int) := IntWalk.i64_in _ (by omega)
          have HH0 : Hid (Blk wr.drew wo.heap.size 38 (ncells S) ∧ Below wo.heap.size wo wr.drew) := hide ⟨hT, below_drewN hbo 1⟩
          have hjn : (j : Int) < (n : Int) := by omega
          have hj0 : (0 : Int) ≤ (j : Int) := by omega
          clear hp hq hS hM hst htl hol ka kb hT e0 e1 e2 e3 e4 e5 e6 e7 HSUM HTL HOL HKA HKB HBD HSTP HAT HBT
          go_wp2
          refine UpTo.start (z := 17) (S := fun w' => Blk w' wo.heap.size 38 (ncells S) ∧ Below wo.heap.size wo w') (by kernel_rfl) ?_
          refine UpTo.take (i := 0) 21 (v := nv S) rfl rfl (by kernel_rfl) (by kernel_rfl) (by kernel_rfl) (by kernel_rfl) (fun _ _ _ h => h) HH0.out (Or.inl ⟨by rfl, by intro w hSw; obtain ⟨q0, q1, q2, q3, _, _, _, _⟩ := hSw.1.n4; go_simp⟩) ?_
          try simp only [Act.put, List.setIfInBounds_toArray, List.set_cons_zero, List.set_cons_succ]
          refine UpTo.take (i := 1) 22 (v := .slice (some ⟨bb, off, none⟩) n c) rfl rfl (by kernel_rfl) (by kernel_rfl) (by kernel_rfl) (by kernel_rfl) (fun _ _ _ h => h) HH0.out (Or.inl ⟨by rfl, by intro w hSw; go_simp⟩) ?_
          try simp only [Act.put, List.setIfInBounds_toArray, List.set_cons_zero, List.set_cons_succ]
          refine UpTo.take (i := 2) 23 (v := .int .i64 (j : Int)) rfl rfl (by kernel_rfl) (by kernel_rfl) (by kernel_rfl) (by kernel_rfl) (fun _ _ _ h => h) HH0.out (Or.inl ⟨by rfl, by intro w hSw; go_simp⟩) ?_
          try simp only [Act.put, List.setIfInBounds_toArray, List.set_cons_zero, List.set_cons_succ]
          refine UpTo.take (i := 3) 24 (v := .pointer (some ⟨bb, off + j * 4, none⟩)) rfl rfl (by kernel_rfl) (by kernel_rfl) (by kernel_rfl) (by kernel_rfl) (fun _ _ _ h => h) HH0.out (Or.inl ⟨by rfl, by intro w hSw; go_simp⟩) ?_
          try simp only [Act.put, List.setIfInBounds_toArray, List.set_cons_zero, List.set_cons_succ]
          refine UpTo.take (i := 4) 25 (v := nv p) rfl rfl (by kernel_rfl) (by kernel_rfl) (by kernel_rfl) (by kernel_rfl) (fun _ _ _ h => h) HH0.out (Or.inl ⟨by rfl, by intro w hSw; obtain ⟨q0, q1, q2, q3⟩ := HY.out _ (Below.step hbel hSw.2); go_simp⟩) ?_
          try simp only [Act.put, List.setIfInBounds_toArray, List.set_cons_zero, List.set_cons_succ]
          refine UpTo.take (i := 6) 27 (v := .slice (some ⟨bb', off', none⟩) n c') rfl rfl (by kernel_rfl) (by kernel_rfl) (by kernel_rfl) (by kernel_rfl) (fun _ _ _ h => h) HH0.out (Or.inl ⟨by rfl, by intro w hSw; go_simp⟩) ?_
          try simp only [Act.put, List.setIfInBounds_toArray, List.set_cons_zero, List.set_cons_succ]
          refine UpTo.take (i := 7) 28 (v := .int .i64 (j : Int)) rfl rfl (by kernel_rfl) (by kernel_rfl) (by kernel_rfl) (by kernel_rfl) (fun _ _ _ h => h) HH0.out (Or.inl ⟨by rfl, by intro w hSw; go_simp⟩) ?_
          try simp only [Act.put, List.setIfInBounds_toArray, List.set_cons_zero, List.set_cons_succ]
          refine UpTo.take (i := 8) 29 (v := .pointer (some ⟨bb', off' + j * 4, none⟩)) rfl rfl (by kernel_rfl) (by kernel_rfl) (by kernel_rfl) (by kernel_rfl) (fun _ _ _ h => h) HH0.out (Or.inl ⟨by rfl, by intro w hSw; go_simp⟩) ?_
          try simp only [Act.put, List.setIfInBounds_toArray, List.set_cons_zero, List.set_cons_succ]
          refine UpTo.take (i := 9) 30 (v := nv q) rfl rfl (by kernel_rfl) (by kernel_rfl) (by kernel_rfl) (by kernel_rfl) (fun _ _ _ h => h) HH0.out (Or.inl ⟨by rfl, by intro w hSw; obtain ⟨q0, q1, q2, q3⟩ := HX.out _ (Below.step hbel hSw.2); go_simp⟩) ?_
          try simp only [Act.put, List.setIfInBounds_toArray, List.set_cons_zero, List.set_cons_succ]
          refine UpTo.take (i := 11) 32 (v := .int .i64 (f : Int)) rfl rfl (by kernel_rfl) (by kernel_rfl) (by kernel_rfl) (by kernel_rfl) (fun _ _ _ h => h) HH0.out (Or.inl ⟨by rfl, by intro w hSw; go_simp⟩) ?_
          try simp only [Act.put, List.setIfInBounds_toArray, List.set_cons_zero, List.set_cons_succ]
          refine UpTo.take (i := 12) 33 (v := .int .i64 (-(f : Int))) rfl rfl (by kernel_rfl) (by kernel_rfl) (by kernel_rfl) (by kernel_rfl) (fun _ _ _ h => h) HH0.out (Or.inl ⟨by rfl, by intro w hSw; go_simp⟩) ?_
          try simp only [Act.put, List.setIfInBounds_toArray, List.set_cons_zero, List.set_cons_succ]
          refine UpTo.take (i := 13) 34 (v := .int .i64 (j : Int)) rfl rfl (by kernel_rfl) (by kernel_rfl) (by kernel_rfl) (by kernel_rfl) (fun _ _ _ h => h) HH0.out (Or.inl ⟨by rfl, by intro w hSw; go_simp⟩) ?_
          try simp only [Act.put, List.setIfInBounds_toArray, List.set_cons_zero, List.set_cons_succ]
          refine UpTo.take (i := 14) 35 (v := .int .i64 (-(f : Int) * (j : Int))) rfl rfl (by kernel_rfl) (by kernel_rfl) (by kernel_rfl) (by kernel_rfl) (fun _ _ _ h => h) HH0.out (Or.inl ⟨by rfl, by intro w hSw; go_simp⟩) ?_
          try simp only [Act.put, List.setIfInBounds_toArray, List.set_cons_zero, List.set_cons_succ]
          refine UpTo.next (i := 5) (by kernel_rfl) rfl (fun K hK => ?_)
          go_simp
          refine (HCJ.out _).mono ?_
          rintro e v1 ⟨rfl, hb⟩
          have HH1 := hide (show Blk v1 wo.heap.size 38 (ncells S) ∧ Below wo.heap.size wo v1 from ⟨HH0.out.1.below hb HH0.out.1.lt, Below.step HH0.out.2 hb⟩)
          clear hb
          simp only []
          refine hK.out _ _ (fun _ => HH1.out) ?_
          clear hK K
          try simp only [Act.put, List.setIfInBounds_toArray, List.set_cons_zero, List.set_cons_succ]
          refine UpTo.next (i := 10) (by kernel_rfl) rfl (fun K hK => ?_)
          go_simp
          refine (HTM.out _).mono ?_
          rintro e v2 ⟨rfl, hb⟩
          have HH2 := hide (show Blk v2 wo.heap.size 38 (ncells S) ∧ Below wo.heap.size wo v2 from ⟨HH1.out.1.below hb HH1.out.1.lt, Below.step HH1.out.2 hb⟩)
          clear hb
          simp only []
          refine hK.out _ _ (fun _ => HH2.out) ?_
          clear hK K
          try simp only [Act.put, List.setIfInBounds_toArray, List.set_cons_zero, List.set_cons_succ]
          refine UpTo.next (i := 15) (by kernel_rfl) rfl (fun K hK => ?_)
          go_simp
          refine (HTU.out _ (by first | rfl | (simp; done) | grind) _).mono ?_
          rintro e v3 ⟨rfl, hb⟩
          have HH3 := hide (show Blk v3 wo.heap.size 38 (ncells S) ∧ Below wo.heap.size wo v3 from ⟨HH2.out.1.below hb HH2.out.1.lt, Below.step HH2.out.2 hb⟩)
          clear hb
          simp only []
          refine hK.out _ _ (fun _ => HH3.out) ?_
          clear hK K
          try simp only [Act.put, List.setIfInBounds_toArray, List.set_cons_zero, List.set_cons_succ]
          refine UpTo.next (i := 16) (by kernel_rfl) rfl (fun K hK => ?_)
          go_simp
          refine (plus_ref S _ _ HSL.out HTN.out).mono ?_
          rintro e v6 ⟨rfl, hb⟩
          have HH6 := hide (show Blk v6 wo.heap.size 38 (ncells S) ∧ Below wo.heap.size wo v6 from ⟨HH3.out.1.below hb HH3.out.1.lt, Below.step HH3.out.2 hb⟩)
          clear hb
          simp only []
          refine hK.out _ _ (fun _ => HH6.out) ?_
          clear hK K
          try simp only [Act.put, List.setIfInBounds_toArray, List.set_cons_zero, List.set_cons_succ]
          obtain ⟨u0, u1, u2, u3, f0, f1, f2, f3⟩ := HH6.out.1.n4
          have hz6 := HH6.out.2.size
          refine UpTo.next (i := 17) (by kernel_rfl) rfl (fun K hK => ?_)
          go_simp
          refine hK.out _ _ (fun h => absurd rfl h) ?_
          clear hK K
          refine UpTo.done (by kernel_rfl) ?_ _
          have b6 := HH6.out.2
          go_wp2
          go_roundw
          case rel => exact ⟨j + 1, by omega, by go_num, by rw [HST.out]; exact (((HH6.out.1.set_ 0 _).set_ 1 _).set_ 2 _).set_ 3 _, by go_grown⟩
          case measure => simp [intOf]; omega
        · have hjn : j = n := by omega
          have hT' : Blk wr wo.heap.size 38 (ncells (osum a b f n)) := by rw [← hjn]; exact hT
          have hst := HSTP.out f
          have hol := HOL.out f n
          have hbd := HBD.out f
          obtain ⟨X, hX⟩ : ∃ X, osum a b f n = X := ⟨_, rfl⟩
          rw [hX] at hT' hst hol
          have hsq := sq_bd (nle_mono hol (show (n : Int) * 40000 ≤ 1000000 by omega))
          have HSQ := hide (fun W => squareOf_ref X W (nle_mono hol (by omega)))
          have hfirst := cpW_first X hsq.1
          obtain ⟨P1, hP1⟩ : ∃ P1, sqP X = P1 := ⟨_, rfl⟩
          obtain ⟨Q1, hQ1⟩ : ∃ Q1, sqQ X = Q1 := ⟨_, rfl⟩
          rw [hP1, hQ1] at hst hsq HSQ hfirst
          have HQ1 := hide (HQ.out.below hbo hql)
          obtain ⟨y0, y1, y2, y3, _, _, _, _⟩ := hT'.n4
          have HB1 := hide hbo1
          obtain ⟨hsq1, hsq2, hsq3, hsq4⟩ := hsq
          by_cases hf0 : f = 0
          · subst hf0
            have hres := hide (show offSt a b (0 + 1) = (((0 : Nat) : Int), P1, Q1) by rw [hst, HST0.out]; dsimp only; rw [if_pos hfirst])
            clear hX hst hol hbd hP1 hQ1 hT hT' hjn hfirst HSUM HTL HOL HKA HKB HBD HSTP HAT HBT HPQ
            go_wp2_with (go_at_call 31; go_must (refine (HSQ.out _).mono ?_; rintro e w4 ⟨rfl, hb⟩; have c4 : Below w.heap.size w w4 := Below.step HB1.out hb; have HQ4 := hide (HQ1.out.below hb HQ1.out.lt); have r0 : w4.cell? ⟨w.heap.size, 0, none⟩ = some (.int .i64 P0) := HQ4.out.cell 0; have r1 : w4.cell? ⟨w.heap.size, 1, none⟩ = some (.int .i64 Q0) := HQ4.out.cell 1; have s4 := HQ4.out.frozen 0; have s5 := HQ4.out.frozen 1; have z4 := c4.size; have zq := HQ4.out.lt; clear hb; simp only []))
            have xne : ¬ w.heap.size = w4.heap.size := by omega
            go_region
            all_goals
              go_wp2
              go_roundw
              case rel => exact ⟨0 + 1, P1, Q1, by omega, rfl, by rw [hres.out], (((HQ4.out.set_ 0 _).set_ 1 _).alloc _).drew, fun _ => by rw [hres.out], by go_grown⟩
              case measure => simp [intOf]
          · have hpq := HPQ.out hf0
            obtain ⟨t0, P2, Q2, hofs⟩ : ∃ t0 P2 Q2, offSt a b f = (t0, P2, Q2) := ⟨_, _, _, rfl⟩
            rw [hofs] at hpq hst hbd
            injection hpq with hp2 hq2
            subst hp2 hq2
            rw [hofs]
            dsimp only at hst hbd ⊢
            have HCM := hide (fun W => Compared_ref P1 Q1 P2 Q2 (by unfold sqB withinB; simp; omega) (by unfold sqB withinB; simp; omega) W)
            obtain ⟨v, hv⟩ : ∃ v, cpW (P1 - P2) (Q1 - Q2) = v := ⟨_, rfl⟩
            rw [hv] at hst HCM
            have HST := hide hst
            have hf1 : ((f : Int) == 0) = false := by rw [beq_eq_false_iff_ne]; omega
            have HOFS := hide hofs
            clear hX hst hol hbd hP1 hQ1 hT hT' hjn hfirst hofs hv HSUM HTL HOL HKA HKB HBD HSTP HAT HBT HPQ hf0
            by_cases hpos : 0 < v
            · have hd2 : decide (0 < v) = true := decide_eq_true hpos
              have hd3 : decide (v > 0) = true := decide_eq_true hpos
              have hres := hide (show offSt a b (f + 1) = ((f : Int), P1, Q1) by rw [HST.out, if_pos hpos])
              clear hpos
              go_wp2_with (first
                | (go_at_call 31; go_must (refine (HSQ.out _).mono ?_; rintro e w4 ⟨rfl, hb⟩; have c4 : Below w.heap.size w w4 := Below.step HB1.out hb; have HQ4 := hide (HQ1.out.below hb HQ1.out.lt); have r0 : w4.cell? ⟨w.heap.size, 0, none⟩ = some (.int .i64 P2) := HQ4.out.cell 0; have r1 : w4.cell? ⟨w.heap.size, 1, none⟩ = some (.int .i64 Q2) := HQ4.out.cell 1; have s4 := HQ4.out.frozen 0; have s5 := HQ4.out.frozen 1; have z4 := c4.size; have zq := HQ4.out.lt; clear hb; simp only []))
                | (go_at_call 33; go_must (refine (HCM.out _).mono ?_; rintro e w5 ⟨rfl, hb⟩; have c5 : Below w.heap.size w w5 := Below.step (by go_grown) hb; have HQ5 := hide ((HQ4.out.alloc (.cells #[.int .i64 P1, .int .i64 Q1] 47)).below hb (by simp; omega)); have HN5 := hide ((Blk.new w4 47 #[.int .i64 P1, .int .i64 Q1]).below hb (by simp)); have s0 : w5.cell? ⟨w4.heap.size, 0, none⟩ = some (.int .i64 P1) := HN5.out.cell 0; have s1 : w5.cell? ⟨w4.heap.size, 1, none⟩ = some (.int .i64 Q1) := HN5.out.cell 1; have s2 : w5.cell? ⟨w.heap.size, 0, none⟩ = some (.int .i64 P2) := HQ5.out.cell 0; have s3 : w5.cell? ⟨w.heap.size, 1, none⟩ = some (.int .i64 Q2) := HQ5.out.cell 1; have s6 := HQ5.out.frozen 0; have s7 := HQ5.out.frozen 1; have z5 := c5.size; clear hb; simp only [])))
              have xne : ¬ w.heap.size = w4.heap.size := by omega
              go_region
              all_goals
                go_wp2
                go_roundw
                case rel => exact ⟨f + 1, P1, Q1, by omega, by go_num, by rw [hres.out], (HQ5.out.drew.set_ 0 _).set_ 1 _, fun _ => by rw [hres.out], by go_grown⟩
                case measure => simp [intOf]; omega
            · have hd2 : decide (0 < v) = false := decide_eq_false hpos
              have hd3 : decide (v > 0) = false := decide_eq_false hpos
              have hres := hide (show offSt a b (f + 1) = (t0, P2, Q2) by rw [HST.out, if_neg hpos])
              clear hpos
              go_wp2_with (first
                | (go_at_call 31; go_must (refine (HSQ.out _).mono ?_; rintro e w4 ⟨rfl, hb⟩; have c4 : Below w.heap.size w w4 := Below.step HB1.out hb; have HQ4 := hide (HQ1.out.below hb HQ1.out.lt); have r0 : w4.cell? ⟨w.heap.size, 0, none⟩ = some (.int .i64 P2) := HQ4.out.cell 0; have r1 : w4.cell? ⟨w.heap.size, 1, none⟩ = some (.int .i64 Q2) := HQ4.out.cell 1; have s4 := HQ4.out.frozen 0; have s5 := HQ4.out.frozen 1; have z4 := c4.size; have zq := HQ4.out.lt; clear hb; simp only []))
                | (go_at_call 33; go_must (refine (HCM.out _).mono ?_; rintro e w5 ⟨rfl, hb⟩; have c5 : Below w.heap.size w w5 := Below.step (by go_grown) hb; have HQ5 := hide ((HQ4.out.alloc (.cells #[.int .i64 P1, .int .i64 Q1] 47)).below hb (by simp; omega)); have HN5 := hide ((Blk.new w4 47 #[.int .i64 P1, .int .i64 Q1]).below hb (by simp)); have s0 : w5.cell? ⟨w4.heap.size, 0, none⟩ = some (.int .i64 P1) := HN5.out.cell 0; have s1 : w5.cell? ⟨w4.heap.size, 1, none⟩ = some (.int .i64 Q1) := HN5.out.cell 1; have s2 : w5.cell? ⟨w.heap.size, 0, none⟩ = some (.int .i64 P2) := HQ5.out.cell 0; have s3 : w5.cell? ⟨w.heap.size, 1, none⟩ = some (.int .i64 Q2) := HQ5.out.cell 1; have s6 := HQ5.out.frozen 0; have s7 := HQ5.out.frozen 1; have z5 := c5.size; clear hb; simp only [])))
              go_roundw
              case rel => exact ⟨f + 1, P2, Q2, by omega, by go_num, by rw [hres.out], HQ5.out, fun _ => by rw [hres.out], c5⟩
              case measure => simp [intOf]; omega
    · have hd : decide ((f : Int) < 8) = false := by rw [decide_eq_false_iff_not]; omega
      have hf8 : f = 8 := by omega
      have HF := hide hf8
      clear hf8
      go_wp2
      go_ret
      exact ⟨by rw [HF.out]; rfl, hbel⟩
end Go.Proofs.Ythfmjohbokpceaa
