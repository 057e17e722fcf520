import Derived.Test.YtfolipkbcibgdaaGsA
namespace Go.Proofs.Ytfolipkbcibgdaa
open Go.RowKit Go.WideShapes Go.ChangeShapes

/-! the reference: signals -/
theorem within_b {n lo hi : Int} {b : Bool} (h : withinB n lo hi = b) (W : World) : Calls Try.prog 29 #[.int .i64 n, .int .i64 lo, .int .i64 hi] W fun e w' => e = .returned (.bool b) ∧ w' = W :=
  (within_base n lo hi W).mono fun _ _ k => ⟨by rw [← h]; exact k.1, k.2.symm⟩
theorem pw_nat (n : Int) : (1 : Int) ≤ ((2 ^ n.toNat : Nat) : Int) := by
  have := Nat.one_le_two_pow (n := n.toNat); omega
set_option maxRecDepth 100000 in
set_option maxHeartbeats 8000000 in
theorem signalErr_ref (nmv : Value) (ce wi : Int) (PA : Option Addr) (pc : Nat) (sv : Value) (P : List Prt) (kd pa pe of_ sl sy sn bk bn st sh : Int) (w : World) (hps : ∀ p ∈ P, OkP wi p) (hpl : P.length ≤ 1000) (hP : Prts w PA P) :
    Calls Try.prog 41 #[.agg #[nmv, .int .i64 ce, .int .i64 wi, .slice PA P.length pc, sv], .agg #[.int .i64 kd, .int .i64 pa, .int .i64 pe, .int .i64 of_, .int .i64 sl, .int .i64 sy, .int .i64 sn, .int .i64 bk, .int .i64 bn, .int .i64 st, .int .i64 sh]] w (ErrV (OkSg P ⟨kd, pa, pe, of_, sl, sy, sn, bk, bn, st, sh⟩) w) := by
  obtain ⟨pn, hpn⟩ : ∃ x, P.length = x := ⟨_, rfl⟩
  have HPN := hide hpn
  have HT := hide ((((stay_blk (Blk.new w 25 #[nmv, .int .i64 ce, .int .i64 wi, .slice PA P.length pc, sv])).alloc (.cells #[.int .i64 kd, .int .i64 pa, .int .i64 pe, .int .i64 of_, .int .i64 sl, .int .i64 sy, .int .i64 sn, .int .i64 bk, .int .i64 bn, .int .i64 st, .int .i64 sh] 82)).and (stay_blk (blk_up w 25 82 #[nmv, .int .i64 ce, .int .i64 wi, .slice PA P.length pc, sv] #[.int .i64 kd, .int .i64 pa, .int .i64 pe, .int .i64 of_, .int .i64 sl, .int .i64 sy, .int .i64 sn, .int .i64 bk, .int .i64 bn, .int .i64 st, .int .i64 sh]))).and (stay_below (((Below.refl _ w).alloc (Nat.le_refl _) (.cells #[nmv, .int .i64 ce, .int .i64 wi, .slice PA P.length pc, sv] 25)).alloc (by simp) (.cells #[.int .i64 kd, .int .i64 pa, .int .i64 pe, .int .i64 of_, .int .i64 sl, .int .i64 sy, .int .i64 sn, .int .i64 bk, .int .i64 bn, .int .i64 st, .int .i64 sh] 82))) |>.and (((stay_rws hP).alloc (.cells #[nmv, .int .i64 ce, .int .i64 wi, .slice PA P.length pc, sv] 25)).alloc (.cells #[.int .i64 kd, .int .i64 pa, .int .i64 pe, .int .i64 of_, .int .i64 sl, .int .i64 sy, .int .i64 sn, .int .i64 bk, .int .i64 bn, .int .i64 st, .int .i64 sh] 82)))
  have HP := hide hP
  clear hP
  rw [hpn] at HT ⊢ hpl
  have HPS := hide hps
  clear hps hpn
  have w1 : IntKind.i64.wrap ((pn : Int) - 1) = (pn : Int) - 1 := IntWalk.i64_in _ (by omega)
  have HB := hide HT.out.now.1.2
  cases h1 : withinB kd 0 5
  · have H := hide (within_false h1)
    clear HT
    go_enter Try.func41, Try.ntmps41
    go_wp2_with (go_at_call 29; go_must (refine (within_base _ _ _ _).mono ?_; rintro e w' ⟨rfl, rfl⟩; rw [h1]; simp only []))
    go_ret
    exact .no (by decide) (by intro q; have := q.kd; simp only [] at this; exact H.out (by omega)) HB.out
  cases h2 : withinB pa 0 ((pn : Int) - 1)
  · have H := hide (within_false h2)
    clear HT
    go_enter Try.func41, Try.ntmps41
    go_wp2_with (go_at_call 29; go_must (refine (within_base _ _ _ _).mono ?_; rintro e w' ⟨rfl, rfl⟩; (first | rw [h1] | rw [h2]); simp only []))
    go_ret
    exact .no (by decide) (by intro q; have := q.pa; rw [HPN.out] at this; simp only [] at this; exact H.out (by omega)) HB.out
  cases h3 : withinB pe 1 10240
  · have H := hide (within_false h3)
    clear HT
    go_enter Try.func41, Try.ntmps41
    go_wp2_with (go_at_call 29; go_must (refine (within_base _ _ _ _).mono ?_; rintro e w' ⟨rfl, rfl⟩; (first | rw [h1] | rw [h2] | rw [h3]); simp only []))
    go_ret
    exact .no (by decide) (by intro q; have := q.pe; simp only [] at this; exact H.out (by omega)) HB.out
  have H1 := hide (within_true h1)
  have H2 := hide (within_true h2)
  have H3 := hide (within_true h3)
  have hpe0 : ¬ pe = 0 := by have := H3.out; omega
  have hpe0' : (pe == 0) = false := by rw [beq_eq_false_iff_ne]; exact hpe0
  have htm : (10240 : Int).tmod pe = 10240 % pe := Int.tmod_eq_emod_of_nonneg (by omega)
  have hms := Int.emod_lt_of_pos 10240 (show 0 < pe by have := H3.out; omega)
  have hmn := Int.emod_nonneg 10240 hpe0
  have hpu := H3.out
  obtain ⟨m, hm⟩ : ∃ m, 10240 % pe = m := ⟨_, rfl⟩
  rw [hm] at htm hms hmn
  have wm : IntKind.i64.wrap m = m := IntWalk.i64_in _ (by omega)
  have HM := hide hm
  clear hms hmn hm hpu
  by_cases q1 : m = 0
  case neg =>
    have e1 : (m != 0) = true := by simp [q1]
    have Q := hide q1
    clear HT q1
    go_enter Try.func41, Try.ntmps41
    go_wp2_with (go_at_call 29; go_must (refine (within_base _ _ _ _).mono ?_; rintro e w' ⟨rfl, rfl⟩; (first | rw [h1] | rw [h2] | rw [h3]); simp only []))
    go_ret
    exact .no (by decide) (by intro q; have := q.dv; simp only [] at this; rw [HM.out] at this; exact Q.out this) HB.out
  have e1 : (m != 0) = false := by simp [q1]
  have HM0 := hide (show (10240 : Int) % pe = 0 by rw [HM.out]; exact q1)
  clear q1 HM HB
  obtain ⟨k, hk⟩ := Int.eq_ofNat_of_zero_le H2.out.1
  have hkn : k < pn := by have := H2.out.2; omega
  have hkP : k < P.length := by rw [HPN.out]; exact hkn
  obtain ⟨b, o, rfl, -⟩ := HP.out.at_ k hkP
  clear HP
  have HPQ := hide (fun W (h : Prts W (some ⟨b, o, none⟩) P) => show W.cell? ⟨b, o + k * 3, none⟩ = some (.int .i64 (P[k]'hkP).mu) ∧ W.cell? ⟨b, o + k * 3 + 1, none⟩ = some (.int .i64 (P[k]'hkP).fi) ∧ W.cell? ⟨b, o + k * 3 + 2, none⟩ = some (.int .i64 (P[k]'hkP).bl) from by
    obtain ⟨b', o', e, c⟩ := h.at_ k hkP
    injection e with e; injection e with e1 e2; subst e1 e2
    exact c)
  have HPk := hide (HPS.out _ (List.getElem_mem hkP))
  clear HPS
  subst hk
  obtain ⟨p, hp⟩ : ∃ p, P[k]'hkP = p := ⟨_, rfl⟩
  rw [hp] at HPQ HPk
  have HKI := hide (show ∀ h : ((k : Nat) : Int).toNat < P.length, P[((k : Nat) : Int).toNat] = p from fun _ => hp)
  obtain ⟨mu, fi, bl⟩ := p
  dsimp only at HPQ
  have HSL := hide (fun W => (slots_ref HPk.out.mu W).mono (show ∀ (e : Ending) (w' : World), (e = .returned (.int .i64 ((2 ^ mu.toNat : Nat) : Int)) ∧ W = w') → (fun (e : Ending) (w' : World) => e = .returned (.int .i64 ((2 ^ mu.toNat : Nat) : Int)) ∧ w' = W) e w' from fun _ _ h => ⟨h.1, h.2.symm⟩))
  have hN1 := pw_int2 HPk.out.mu
  simp only [] at hN1
  have HSY := hide (fun W => symbolsErr_ref mu fi bl sy sn bk bn W HPk.out.bl)
  have HXS := hide (show (sl = -1 ∨ (0 ≤ sl ∧ sl < ((2 ^ mu.toNat : Nat) : Int))) ↔ (sl = -1 ∨ (0 ≤ sl ∧ ∀ h : ((k : Nat) : Int).toNat < P.length, sl < ((2 ^ (P[((k : Nat) : Int).toNat]).mu.toNat : Nat) : Int))) from by
    constructor
    · rintro (h | h)
      · exact .inl h
      · exact .inr ⟨h.1, fun q => by rw [HKI.out q]; exact h.2⟩
    · rintro (h | h)
      · exact .inl h
      · exact .inr ⟨h.1, by have := h.2 hkP; rw [HKI.out hkP] at this; exact this⟩)
  obtain ⟨N, hN⟩ : ∃ N : Int, ((2 ^ mu.toNat : Nat) : Int) = N := ⟨_, rfl⟩
  rw [hN] at HSL hN1 HXS
  have HOK := hide (show OkSg P ⟨kd, ((k : Nat) : Int), pe, of_, sl, sy, sn, bk, bn, st, sh⟩ ↔ (SymP bl sy sn bk bn ∧ (0 ≤ of_ ∧ of_ < pe) ∧ (sl = -1 ∨ (0 ≤ sl ∧ sl < N)) ∧ (1 ≤ st ∧ st ≤ 12) ∧ (0 ≤ sh ∧ sh < st)) from
    ⟨fun q => ⟨by
      have h := q.bx hkP
      simp only [] at h
      rw [HKI.out hkP] at h
      exact ⟨h.sy, h.bk⟩, q.of_, HXS.out.2 q.sl, q.st, q.sh⟩,
     fun ⟨qa, qb, qc, qd, qe⟩ => ⟨H1.out, ⟨H2.out.1, by have := H2.out.2; have := HPN.out; simp only []; omega⟩, H3.out, HM0.out, qb, HXS.out.1 qc, qd, qe, fun h => by
      simp only [] at h ⊢
      rw [HKI.out h]
      exact ⟨qa.1, qa.2⟩⟩⟩)
  have hki : (k : Int) < (pn : Int) := by omega
  have w2 : IntKind.i64.wrap (N - 1) = N - 1 := IntWalk.i64_in _ (by omega)
  have w3 : IntKind.i64.wrap (pe - 1) = pe - 1 := IntWalk.i64_in _ (by have := H3.out; omega)
  have hz := HPQ.out _ (HT.out.now.2)
  obtain ⟨hz0, hz1, hz2⟩ := hz
  obtain ⟨W0, hW0⟩ : ∃ W0, (w.alloc (.cells #[nmv, .int .i64 ce, .int .i64 wi, .slice (some ⟨b, o, none⟩) pn pc, sv] 25)).alloc (.cells #[.int .i64 kd, .int .i64 (k : Int), .int .i64 pe, .int .i64 of_, .int .i64 sl, .int .i64 sy, .int .i64 sn, .int .i64 bk, .int .i64 bn, .int .i64 st, .int .i64 sh] 82) = W0 := ⟨_, rfl⟩
  rw [hW0] at HT hz0 hz1 hz2
  have c3 : W0.cell? ⟨w.heap.size, 3, none⟩ = some (.slice (some ⟨b, o, none⟩) pn pc) := HT.out.now.1.1.1.cell 3
  have a0 : W0.cell? ⟨w.heap.size + 1, 0, none⟩ = some (.int .i64 kd) := HT.out.now.1.1.2.cell 0
  have a1 : W0.cell? ⟨w.heap.size + 1, 1, none⟩ = some (.int .i64 (k : Int)) := HT.out.now.1.1.2.cell 1
  have a2 : W0.cell? ⟨w.heap.size + 1, 2, none⟩ = some (.int .i64 pe) := HT.out.now.1.1.2.cell 2
  have HT1 := hide ((HT.out.alloc (.cells #[.int .i64 mu, .int .i64 fi, .int .i64 bl] 56)).and (stay_blk (Blk.new W0 56 #[.int .i64 mu, .int .i64 fi, .int .i64 bl])))
  obtain ⟨W1, hW1⟩ : ∃ W1, W0.alloc (.cells #[.int .i64 mu, .int .i64 fi, .int .i64 bl] 56) = W1 := ⟨_, rfl⟩
  rw [hW1] at HT1
  have x5 : W1.cell? ⟨w.heap.size + 1, 5, none⟩ = some (.int .i64 sy) := HT1.out.now.1.1.1.2.cell 5
  have x6 : W1.cell? ⟨w.heap.size + 1, 6, none⟩ = some (.int .i64 sn) := HT1.out.now.1.1.1.2.cell 6
  have x7 : W1.cell? ⟨w.heap.size + 1, 7, none⟩ = some (.int .i64 bk) := HT1.out.now.1.1.1.2.cell 7
  have x8 : W1.cell? ⟨w.heap.size + 1, 8, none⟩ = some (.int .i64 bn) := HT1.out.now.1.1.1.2.cell 8
  have y0 : W1.cell? ⟨W0.heap.size, 0, none⟩ = some (.int .i64 mu) := HT1.out.now.2.cell 0
  have y1 : W1.cell? ⟨W0.heap.size, 1, none⟩ = some (.int .i64 fi) := HT1.out.now.2.cell 1
  have y2 : W1.cell? ⟨W0.heap.size, 2, none⟩ = some (.int .i64 bl) := HT1.out.now.2.cell 2
  clear hp HPQ hkP hkn hpl hN HKI
  go_enter Try.func41, Try.ntmps41
  go_wp2_with fail
  try rw [hW0]
  go_wp2_with (first | (go_at_call 29; go_must (refine (within_base _ _ _ _).mono ?_; rintro e w' ⟨rfl, rfl⟩; (first | rw [h1] | rw [h2] | rw [h3]); simp only [])) | (go_at_call 18; fail))
  try rw [hW1]
  go_wp2_with (go_at_call 18; go_must (refine (HSY.out _).mono ?_; rintro e W2 ⟨v, rfl, hv, hb⟩; have HV := hide hv; replace HT1 := hide (HT1.out.step hb); clear hv hb hW0 hW1 hz0 hz1 hz2 c3 a0 a1 a2 x5 x6 x7 x8 y0 y1 y2 HT; simp only []))
  have z3 : W2.cell? ⟨w.heap.size + 1, 3, none⟩ = some (.int .i64 of_) := HT1.out.now.1.1.1.2.cell 3
  have z2 : W2.cell? ⟨w.heap.size + 1, 2, none⟩ = some (.int .i64 pe) := HT1.out.now.1.1.1.2.cell 2
  have z4 : W2.cell? ⟨w.heap.size + 1, 4, none⟩ = some (.int .i64 sl) := HT1.out.now.1.1.1.2.cell 4
  have z9 : W2.cell? ⟨w.heap.size + 1, 9, none⟩ = some (.int .i64 st) := HT1.out.now.1.1.1.2.cell 9
  have z10 : W2.cell? ⟨w.heap.size + 1, 10, none⟩ = some (.int .i64 sh) := HT1.out.now.1.1.1.2.cell 10
  have y0 : W2.cell? ⟨W0.heap.size, 0, none⟩ = some (.int .i64 mu) := HT1.out.now.2.cell 0
  have HB := hide HT1.out.now.1.1.2
  clear HT1 HSY HXS HPk hpe0 hpe0' htm wm e1 w1 h1 h2 h3
  by_cases q0 : v = 2
  · subst q0
    go_quiet (first | (go_at_call 57; exact Calls.quiet_of_same (HSL.out _)) | (go_at_call 29; first | with_reducible exact Calls.quiet_of_same (HSL.out _)))
    go_wp2
    go_ret
    exact .no (by decide) (by rw [HOK.out]; rintro ⟨qa, qb, qc, qd, qe⟩; exact absurd (HV.out.zero qa) (by decide)) (below_drewN HB.out _)
  have e2 : (v == 2) = false := by rw [beq_eq_false_iff_ne]; exact q0
  clear q0
  cases k1 : withinB of_ 0 (pe - 1)
  · have K1 := hide (within_b k1)
    have N1 := hide (within_false k1); clear k1
    go_quiet (first | (go_at_call 57; exact Calls.quiet_of_same (HSL.out _)) | (go_at_call 29; first | with_reducible exact Calls.quiet_of_same (K1.out _)))
    go_wp2
    go_ret
    exact .no (by decide) (by rw [HOK.out]; rintro ⟨qa, qb, qc, qd, qe⟩; exact N1.out (by omega)) (below_drewN HB.out _)
  have K1 := hide (within_b k1)
  have N1 := hide (within_true k1); clear k1
  rcases (by by_cases q : sl = -1; exact .inl q; right; cases k2 : withinB sl 0 (N - 1); exact .inl ⟨q, rfl⟩; exact .inr ⟨q, rfl⟩ : sl = -1 ∨ (sl ≠ -1 ∧ withinB sl 0 (N - 1) = false) ∨ (sl ≠ -1 ∧ withinB sl 0 (N - 1) = true)) with q | ⟨q, k2⟩ | ⟨q, k2⟩
  · have e3 : (sl != -1) = false := by simp [q]
    have Q := hide q; clear q
    cases k3 : withinB st 1 12
    · have K3 := hide (within_b k3)
      have N3 := hide (within_false k3); clear k3
      go_quiet (first | (go_at_call 57; exact Calls.quiet_of_same (HSL.out _)) | (go_at_call 29; first | with_reducible exact Calls.quiet_of_same (K1.out _) | with_reducible exact Calls.quiet_of_same (K3.out _)))
      go_wp2
      go_ret
      exact .no (by decide) (by rw [HOK.out]; rintro ⟨qa, qb, qc, qd, qe⟩; exact N3.out (by omega)) (below_drewN HB.out _)
    have K3 := hide (within_b k3)
    have N3 := hide (within_true k3); clear k3
    have w4 : IntKind.i64.wrap (st - 1) = st - 1 := IntWalk.i64_in _ (by have := N3.out; omega)
    cases k4 : withinB sh 0 (st - 1)
    · have K4 := hide (within_b k4)
      have N4 := hide (within_false k4); clear k4
      go_quiet (first | (go_at_call 57; exact Calls.quiet_of_same (HSL.out _)) | (go_at_call 29; first | with_reducible exact Calls.quiet_of_same (K1.out _) | with_reducible exact Calls.quiet_of_same (K3.out _) | with_reducible exact Calls.quiet_of_same (K4.out _)))
      go_wp2
      go_ret
      exact .no (by decide) (by rw [HOK.out]; rintro ⟨qa, qb, qc, qd, qe⟩; exact N4.out (by omega)) (below_drewN HB.out _)
    have K4 := hide (within_b k4)
    have N4 := hide (within_true k4); clear k4
    have HFIN := hide (show ErrR (OkSg P ⟨kd, ((k : Nat) : Int), pe, of_, sl, sy, sn, bk, bn, st, sh⟩) v from by
      rcases HV.out with ⟨hv0, hs⟩ | ⟨hv0, hs⟩
      · exact .inl ⟨hv0, HOK.out.2 ⟨hs, by have := N1.out; omega, .inl Q.out, by have := N3.out; omega, by have := N4.out; omega⟩⟩
      · exact .inr ⟨hv0, fun q => hs (HOK.out.1 q).1⟩)
    go_quiet (first | (go_at_call 57; exact Calls.quiet_of_same (HSL.out _)) | (go_at_call 29; first | with_reducible exact Calls.quiet_of_same (K1.out _) | with_reducible exact Calls.quiet_of_same (K3.out _) | with_reducible exact Calls.quiet_of_same (K4.out _)))
    go_wp2
    go_ret
    exact ⟨v, rfl, HFIN.out, below_drewN HB.out _⟩
  · have e3 : (sl != -1) = true := by simp [q]
    have Q := hide q; clear q
    have K2 := hide (within_b k2)
    have N2 := hide (within_false k2); clear k2
    go_quiet (first | (go_at_call 57; exact Calls.quiet_of_same (HSL.out _)) | (go_at_call 29; first | with_reducible exact Calls.quiet_of_same (K1.out _) | with_reducible exact Calls.quiet_of_same (K2.out _)))
    go_wp2
    go_ret
    exact .no (by decide) (by rw [HOK.out]; rintro ⟨qa, qb, qc, qd, qe⟩; rcases qc with qc | qc; exact Q.out qc; exact N2.out (by omega)) (below_drewN HB.out _)
  · have e3 : (sl != -1) = true := by simp [q]
    have Q := hide q; clear q
    have K2 := hide (within_b k2)
    have N2 := hide (within_true k2); clear k2
    cases k3 : withinB st 1 12
    · have K3 := hide (within_b k3)
      have N3 := hide (within_false k3); clear k3
      go_quiet (first | (go_at_call 57; exact Calls.quiet_of_same (HSL.out _)) | (go_at_call 29; first | with_reducible exact Calls.quiet_of_same (K1.out _) | with_reducible exact Calls.quiet_of_same (K2.out _) | with_reducible exact Calls.quiet_of_same (K3.out _)))
      go_wp2
      go_ret
      exact .no (by decide) (by rw [HOK.out]; rintro ⟨qa, qb, qc, qd, qe⟩; exact N3.out (by omega)) (below_drewN HB.out _)
    have K3 := hide (within_b k3)
    have N3 := hide (within_true k3); clear k3
    have w4 : IntKind.i64.wrap (st - 1) = st - 1 := IntWalk.i64_in _ (by have := N3.out; omega)
    cases k4 : withinB sh 0 (st - 1)
    · have K4 := hide (within_b k4)
      have N4 := hide (within_false k4); clear k4
      go_quiet (first | (go_at_call 57; exact Calls.quiet_of_same (HSL.out _)) | (go_at_call 29; first | with_reducible exact Calls.quiet_of_same (K1.out _) | with_reducible exact Calls.quiet_of_same (K2.out _) | with_reducible exact Calls.quiet_of_same (K3.out _) | with_reducible exact Calls.quiet_of_same (K4.out _)))
      go_wp2
      go_ret
      exact .no (by decide) (by rw [HOK.out]; rintro ⟨qa, qb, qc, qd, qe⟩; exact N4.out (by omega)) (below_drewN HB.out _)
    have K4 := hide (within_b k4)
    have N4 := hide (within_true k4); clear k4
    have HFIN := hide (show ErrR (OkSg P ⟨kd, ((k : Nat) : Int), pe, of_, sl, sy, sn, bk, bn, st, sh⟩) v from by
      rcases HV.out with ⟨hv0, hs⟩ | ⟨hv0, hs⟩
      · exact .inl ⟨hv0, HOK.out.2 ⟨hs, by have := N1.out; omega, .inr (by have := N2.out; omega), by have := N3.out; omega, by have := N4.out; omega⟩⟩
      · exact .inr ⟨hv0, fun q => hs (HOK.out.1 q).1⟩)
    go_quiet (first | (go_at_call 57; exact Calls.quiet_of_same (HSL.out _)) | (go_at_call 29; first | with_reducible exact Calls.quiet_of_same (K1.out _) | with_reducible exact Calls.quiet_of_same (K2.out _) | with_reducible exact Calls.quiet_of_same (K3.out _) | with_reducible exact Calls.quiet_of_same (K4.out _)))
    go_wp2
    go_ret
    exact ⟨v, rfl, HFIN.out, below_drewN HB.out _⟩
end Go.Proofs.Ytfolipkbcibgdaa
