import Derived.Test.YtfolipkbcibgdaaGrR
import Derived.BigQuiet
namespace Go.Proofs.Ytfolipkbcibgdaa
open Go.RowKit Go.WideShapes Go.ChangeShapes

/-! the reference: numbers of parts and of symbols -/
set_option maxRecDepth 100000 in
theorem slots_ref {mu : Int} (h : 0 ≤ mu ∧ mu ≤ 3) (w : World) : Calls Try.prog 57 #[.int .i64 mu] w fun e w' => e = .returned (.int .i64 ((2 ^ mu.toNat : Nat) : Int)) ∧ w = w' := by
  rcases (by omega : mu = 0 ∨ mu = 1 ∨ mu = 2 ∨ mu = 3) with rfl | rfl | rfl | rfl <;> (go_enter Try.func57, Try.ntmps57; go_wp2; go_rounds 5; go_ret; exact ⟨rfl, rfl⟩)
theorem pw_int2 {mu : Int} (h : 0 ≤ mu ∧ mu ≤ 3) : (1 : Int) ≤ ((2 ^ mu.toNat : Nat) : Int) ∧ ((2 ^ mu.toNat : Nat) : Int) ≤ 8 := by
  rcases (by omega : mu = 0 ∨ mu = 1 ∨ mu = 2 ∨ mu = 3) with rfl | rfl | rfl | rfl <;> decide
theorem within_true {n lo hi : Int} (h : withinB n lo hi = true) : lo ≤ n ∧ n ≤ hi := by simpa [withinB] using h
theorem within_false {n lo hi : Int} (h : withinB n lo hi = false) : ¬ (lo ≤ n ∧ n ≤ hi) := by
  intro hh
  have : withinB n lo hi = true := by simpa [withinB] using hh
  rw [this] at h; cases h
/-- an error that is 0 just if this holds -/
def ErrR (P : Prop) (v : Int) : Prop := (v = 0 ∧ P) ∨ (v ≠ 0 ∧ ¬ P)
theorem ErrR.ok {P : Prop} {v : Int} (h : ErrR P v) (hv : v = 0) : P := by rcases h with h | h; exact h.2; exact absurd hv h.1
theorem ErrR.zero {P : Prop} {v : Int} (h : ErrR P v) (hp : P) : v = 0 := by rcases h with h | h; exact h.1; exact absurd hp h.2
/-- the call's answer is such an error -/
def ErrV (P : Prop) (w : World) (e : Ending) (w' : World) : Prop := ∃ v : Int, e = .returned (.int .i64 v) ∧ ErrR P v ∧ Below w.heap.size w w'
theorem ErrV.yes {P : Prop} {w w' : World} (h : P) (hb : Below w.heap.size w w') : ErrV P w (.returned (.int .i64 0)) w' := ⟨0, rfl, .inl ⟨rfl, h⟩, hb⟩
theorem ErrV.no {P : Prop} {w w' : World} {v : Int} (hv : v ≠ 0) (h : ¬ P) (hb : Below w.heap.size w w') : ErrV P w (.returned (.int .i64 v)) w' := ⟨v, rfl, .inr ⟨hv, h⟩, hb⟩
set_option maxRecDepth 100000 in
theorem subframeErr_ref (n : Int) (w : World) : Calls Try.prog 17 #[.int .i64 n] w fun e w' => ∃ v : Int, e = .returned (.int .i64 v) ∧ ErrR (0 ≤ n ∧ n ≤ 10239) v ∧ w = w' := by
  cases h1 : withinB n 0 10239
  · have H := hide (within_false h1)
    go_enter Try.func17, Try.ntmps17
    go_wp2_with (go_at_call 29; go_must (refine (within_base _ _ _ _).mono ?_; rintro e w' ⟨rfl, rfl⟩; rw [h1]; simp only []))
    go_ret
    exact ⟨2, rfl, .inr ⟨by decide, H.out⟩, rfl⟩
  · have H := hide (within_true h1)
    go_enter Try.func17, Try.ntmps17
    go_wp2_with (go_at_call 29; go_must (refine (within_base _ _ _ _).mono ?_; rintro e w' ⟨rfl, rfl⟩; rw [h1]; simp only []))
    go_ret
    exact ⟨0, rfl, .inl ⟨rfl, H.out⟩, rfl⟩
set_option maxRecDepth 100000 in
theorem partErr_num (nmv : Value) (ce wi : Int) (PA : Option Addr) (sv : Value) (pn pc : Nat) (n : Int) (w : World) (hp : pn ≤ 1000) :
    Calls Try.prog 16 #[.agg #[nmv, .int .i64 ce, .int .i64 wi, .slice PA pn pc, sv], .int .i64 n] w (ErrV (0 ≤ n ∧ n < (pn : Int)) w) := by
  have w1 : IntKind.i64.wrap ((pn : Int) - 1) = (pn : Int) - 1 := IntWalk.i64_in _ (by omega)
  have HB := hide (show Below w.heap.size w (w.alloc (.cells #[nmv, .int .i64 ce, .int .i64 wi, .slice PA pn pc, sv] 25)) from (Below.refl _ _).alloc (Nat.le_refl _) _)
  cases h1 : withinB n 0 ((pn : Int) - 1)
  · have H := hide (within_false h1)
    go_enter Try.func16, Try.ntmps16
    go_wp2_with (go_at_call 29; go_must (refine (within_base _ _ _ _).mono ?_; rintro e w' ⟨rfl, rfl⟩; rw [h1]; simp only []))
    go_ret
    exact .no (by decide) (by have := H.out; omega) HB.out
  · have H := hide (within_true h1)
    go_enter Try.func16, Try.ntmps16
    go_wp2_with (go_at_call 29; go_must (refine (within_base _ _ _ _).mono ?_; rintro e w' ⟨rfl, rfl⟩; rw [h1]; simp only []))
    go_ret
    exact .yes (by have := H.out; omega) HB.out
/-- symbols and blocks in a part of so many blocks -/
def SymP (bl sy sn bk bn : Int) : Prop := (0 ≤ sy ∧ 1 ≤ sn ∧ sy + sn ≤ 14) ∧ 0 ≤ bk ∧ 1 ≤ bn ∧ bk + bn ≤ bl
set_option maxRecDepth 100000 in
set_option maxHeartbeats 4000000 in
theorem symbolsErr_ref (mu fi bl sy sn bk bn : Int) (w : World) (hbl : 1 ≤ bl ∧ bl ≤ 24) :
    Calls Try.prog 18 #[.agg #[.int .i64 mu, .int .i64 fi, .int .i64 bl], .int .i64 sy, .int .i64 sn, .int .i64 bk, .int .i64 bn] w (ErrV (SymP bl sy sn bk bn) w) := by
  have w1 : IntKind.i64.wrap (bl - 1) = bl - 1 := IntWalk.i64_in _ (by omega)
  have HB := hide (show Below w.heap.size w (w.alloc (.cells #[.int .i64 mu, .int .i64 fi, .int .i64 bl] 56)) from (Below.refl _ _).alloc (Nat.le_refl _) _)
  have HBL := hide hbl
  cases h1 : withinB sy 0 13
  · have H := hide (within_false h1)
    clear hbl
    go_enter Try.func18, Try.ntmps18
    go_wp2_with (go_at_call 29; go_must (refine (within_base _ _ _ _).mono ?_; rintro e w' ⟨rfl, rfl⟩; rw [h1]; simp only []))
    go_ret
    exact .no (by decide) (by have := H.out; have := HBL.out; unfold SymP; omega) HB.out
  cases h2 : withinB sn 1 14
  · have H := hide (within_false h2)
    clear hbl
    go_enter Try.func18, Try.ntmps18
    go_wp2_with (go_at_call 29; go_must (refine (within_base _ _ _ _).mono ?_; rintro e w' ⟨rfl, rfl⟩; (first | rw [h1] | rw [h2]); simp only []))
    go_ret
    exact .no (by decide) (by have := H.out; have := HBL.out; unfold SymP; omega) HB.out
  cases h3 : withinB bk 0 (bl - 1)
  · have H := hide (within_false h3)
    clear hbl
    go_enter Try.func18, Try.ntmps18
    go_wp2_with (go_at_call 29; go_must (refine (within_base _ _ _ _).mono ?_; rintro e w' ⟨rfl, rfl⟩; (first | rw [h1] | rw [h2] | rw [h3]); simp only []))
    go_ret
    exact .no (by decide) (by have := H.out; have := HBL.out; unfold SymP; omega) HB.out
  cases h4 : withinB bn 1 bl
  · have H := hide (within_false h4)
    clear hbl
    go_enter Try.func18, Try.ntmps18
    go_wp2_with (go_at_call 29; go_must (refine (within_base _ _ _ _).mono ?_; rintro e w' ⟨rfl, rfl⟩; (first | rw [h1] | rw [h2] | rw [h3] | rw [h4]); simp only []))
    go_ret
    exact .no (by decide) (by have := H.out; have := HBL.out; unfold SymP; omega) HB.out
  have H1 := hide (within_true h1)
  have H2 := hide (within_true h2)
  have H3 := hide (within_true h3)
  have H4 := hide (within_true h4)
  have w2 : IntKind.i64.wrap (sy + sn) = sy + sn := IntWalk.i64_in _ (by have := H1.out; have := H2.out; omega)
  have w3 : IntKind.i64.wrap (bk + bn) = bk + bn := IntWalk.i64_in _ (by have := H3.out; have := H4.out; omega)
  clear hbl
  by_cases q1 : 14 < sy + sn
  · have e1 : decide (14 < sy + sn) = true := decide_eq_true q1
    have Q := hide q1; clear q1
    go_enter Try.func18, Try.ntmps18
    go_wp2_with (go_at_call 29; go_must (refine (within_base _ _ _ _).mono ?_; rintro e w' ⟨rfl, rfl⟩; (first | rw [h1] | rw [h2] | rw [h3] | rw [h4]); simp only []))
    go_ret
    exact .no (by decide) (by have := Q.out; unfold SymP; omega) HB.out
  have e1 : decide (14 < sy + sn) = false := decide_eq_false q1
  have Q := hide q1; clear q1
  by_cases q2 : bl < bk + bn
  · have e2 : decide (bl < bk + bn) = true := decide_eq_true q2
    have Q2 := hide q2; clear q2
    go_enter Try.func18, Try.ntmps18
    go_wp2_with (go_at_call 29; go_must (refine (within_base _ _ _ _).mono ?_; rintro e w' ⟨rfl, rfl⟩; (first | rw [h1] | rw [h2] | rw [h3] | rw [h4]); simp only []))
    go_ret
    exact .no (by decide) (by have := Q2.out; unfold SymP; omega) HB.out
  have e2 : decide (bl < bk + bn) = false := decide_eq_false q2
  have Q2 := hide q2; clear q2
  go_enter Try.func18, Try.ntmps18
  go_wp2_with (go_at_call 29; go_must (refine (within_base _ _ _ _).mono ?_; rintro e w' ⟨rfl, rfl⟩; (first | rw [h1] | rw [h2] | rw [h3] | rw [h4]); simp only []))
  go_ret
  exact .yes (by have := Q.out; have := Q2.out; have := H1.out; have := H2.out; have := H3.out; have := H4.out; unfold SymP; omega) HB.out
set_option maxRecDepth 100000 in
set_option maxHeartbeats 4000000 in
theorem partErr_ref (nmv : Value) (ce wi : Int) (pv sv : Value) (mu fi bl : Int) (w : World) (hwi : 1 ≤ wi ∧ wi ≤ 600) :
    Calls Try.prog 40 #[.agg #[nmv, .int .i64 ce, .int .i64 wi, pv, sv], .agg #[.int .i64 mu, .int .i64 fi, .int .i64 bl]] w (ErrV (OkP wi ⟨mu, fi, bl⟩) w) := by
  have w1 : IntKind.i64.wrap (wi - 1) = wi - 1 := IntWalk.i64_in _ (by omega)
  have HB := hide (show Below w.heap.size w ((w.alloc (.cells #[nmv, .int .i64 ce, .int .i64 wi, pv, sv] 25)).alloc (.cells #[.int .i64 mu, .int .i64 fi, .int .i64 bl] 56)) from ((Below.refl _ _).alloc (Nat.le_refl _) _).alloc (by simp) _)
  have HWI := hide hwi
  cases h1 : withinB mu 0 3
  · have H := hide (within_false h1)
    clear hwi
    go_enter Try.func40, Try.ntmps40
    go_wp2_with (go_at_call 29; go_must (refine (within_base _ _ _ _).mono ?_; rintro e w' ⟨rfl, rfl⟩; rw [h1]; simp only []))
    go_ret
    exact .no (by decide) (by intro k; have := k.mu; simp only [] at this; exact H.out (by omega)) HB.out
  cases h2 : withinB fi 0 (wi - 1)
  · have H := hide (within_false h2)
    clear hwi
    go_enter Try.func40, Try.ntmps40
    go_wp2_with (go_at_call 29; go_must (refine (within_base _ _ _ _).mono ?_; rintro e w' ⟨rfl, rfl⟩; (first | rw [h1] | rw [h2]); simp only []))
    go_ret
    exact .no (by decide) (by intro k; refine H.out ⟨k.fi, ?_⟩; have h2 := k.fit; simp only [] at h2; have hN := pw_int2 k.mu; have := k.bl; simp only [] at this hN; have h3 : 1 * 1 ≤ ((2 ^ mu.toNat : Nat) : Int) * 12 * bl := Int.mul_le_mul (by omega) (by omega) (by omega) (by omega); omega) HB.out
  cases h3 : withinB bl 1 24
  · have H := hide (within_false h3)
    clear hwi
    go_enter Try.func40, Try.ntmps40
    go_wp2_with (go_at_call 29; go_must (refine (within_base _ _ _ _).mono ?_; rintro e w' ⟨rfl, rfl⟩; (first | rw [h1] | rw [h2] | rw [h3]); simp only []))
    go_ret
    exact .no (by decide) (by intro k; have := k.bl; simp only [] at this; exact H.out (by omega)) HB.out
  have H1 := hide (within_true h1)
  have H2 := hide (within_true h2)
  have H3 := hide (within_true h3)
  have HSL := hide (fun W => slots_ref H1.out W)
  have hN1 := pw_int2 H1.out
  have HQ := hide (fun W => (HSL.out W).mono (show ∀ (e : Ending) (w' : World), (e = .returned (.int .i64 ((2 ^ mu.toNat : Nat) : Int)) ∧ W = w') → (fun (e : Ending) (w' : World) => e = .returned (.int .i64 ((2 ^ mu.toNat : Nat) : Int)) ∧ w' = W) e w' from fun _ _ h => ⟨h.1, h.2.symm⟩))
  have HT := hide (show Blk ((w.alloc (.cells #[nmv, .int .i64 ce, .int .i64 wi, pv, sv] 25)).alloc (.cells #[.int .i64 mu, .int .i64 fi, .int .i64 bl] 56)) w.heap.size 25 #[nmv, .int .i64 ce, .int .i64 wi, pv, sv] ∧ Blk ((w.alloc (.cells #[nmv, .int .i64 ce, .int .i64 wi, pv, sv] 25)).alloc (.cells #[.int .i64 mu, .int .i64 fi, .int .i64 bl] 56)) (w.heap.size + 1) 56 #[.int .i64 mu, .int .i64 fi, .int .i64 bl] from ⟨(Blk.new w 25 #[nmv, .int .i64 ce, .int .i64 wi, pv, sv]).alloc _, blk_up w 25 56 #[nmv, .int .i64 ce, .int .i64 wi, pv, sv] #[.int .i64 mu, .int .i64 fi, .int .i64 bl]⟩)
  obtain ⟨N, hN⟩ : ∃ N : Int, ((2 ^ mu.toNat : Nat) : Int) = N := ⟨_, rfl⟩
  have HNN := hide hN
  have hfi := H2.out
  have hbl := H3.out
  rw [hN] at HSL hN1 HQ
  have hnn : N * 12 * bl ≤ 8 * 12 * 24 := Int.mul_le_mul (by omega) (by omega) (by omega) (by omega)
  have hn0 : 0 ≤ N * 12 * bl := Int.mul_nonneg (by omega) (by omega)
  have w2 : IntKind.i64.wrap (12 * N) = N * 12 := by rw [Int.mul_comm]; exact IntWalk.i64_in _ (by omega)
  have w3 : IntKind.i64.wrap (N * 12 * bl) = N * 12 * bl := IntWalk.i64_in _ (by omega)
  have w4 : IntKind.i64.wrap (fi + N * 12 * bl) = fi + N * 12 * bl := IntWalk.i64_in _ (by omega)
  have hN0 : ¬ N = 0 := by omega
  have hN0' : (N == 0) = false := by rw [beq_eq_false_iff_ne]; omega
  have htm : fi.tmod N = fi % N := Int.tmod_eq_emod_of_nonneg (by omega)
  have wm : IntKind.i64.wrap (fi % N) = fi % N := IntWalk.i64_in _ (by have := Int.emod_nonneg fi hN0; have := Int.emod_lt_of_pos fi (show 0 < N by omega); omega)
  have HX := hide (show OkP wi ⟨mu, fi, bl⟩ ↔ (fi % N = 0 ∧ fi + N * 12 * bl ≤ wi) from ⟨fun k => ⟨by have := k.dv; rw [← HNN.out]; exact this, by have := k.fit; rw [← HNN.out]; exact this⟩, fun k => ⟨H1.out, H2.out.1, H3.out, by rw [HNN.out]; exact k.1, by rw [HNN.out]; exact k.2⟩⟩)
  clear hN hwi hfi hbl hnn hn0
  obtain ⟨m, hm⟩ : ∃ m, fi % N = m := ⟨_, rfl⟩
  rw [hm] at htm wm HX
  by_cases q1 : m = 0
  · have e1 : (m != 0) = false := by simp [q1]
    have Q := hide q1; clear q1 hm
    by_cases q2 : wi < fi + N * 12 * bl
    · have e2 : decide (wi < fi + N * 12 * bl) = true := decide_eq_true q2
      have Q2 := hide q2; clear q2
      go_enter Try.func40, Try.ntmps40
      go_wp2_with (go_at_call 29; go_must (refine (within_base _ _ _ _).mono ?_; rintro e w' ⟨rfl, rfl⟩; (first | rw [h1] | rw [h2] | rw [h3]); simp only []))
      go_quiet (first | (go_at_call 57; exact Calls.quiet_of_same (HQ.out _)))
      go_wp2
      have HX1 := hide (HT.out.1.drewN nq)
      have HX2 := hide (HT.out.2.drewN nq)
      have HBX := hide (below_drewN HB.out nq)
      obtain ⟨W1, hW1⟩ : ∃ W1, ((w.alloc (.cells #[nmv, .int .i64 ce, .int .i64 wi, pv, sv] 25)).alloc (.cells #[.int .i64 mu, .int .i64 fi, .int .i64 bl] 56)).drewN nq = W1 := ⟨_, rfl⟩
      rw [hW1] at HX1 HX2 HBX ⊢
      clear hW1
      have y0 := HX2.out.cell 0
      have y1 := HX2.out.cell 1
      have y2 := HX2.out.cell 2
      have yw := HX1.out.cell 2
      simp at y0 y1 y2 yw
      go_quiet (first | (go_at_call 57; exact Calls.quiet_of_same (HQ.out _)))
      go_wp2
      go_ret
      exact .no (by decide) (by rw [HX.out]; have := Q2.out; omega) (below_drewN HBX.out _)
    · have e2 : decide (wi < fi + N * 12 * bl) = false := decide_eq_false q2
      have Q2 := hide q2; clear q2
      go_enter Try.func40, Try.ntmps40
      go_wp2_with (go_at_call 29; go_must (refine (within_base _ _ _ _).mono ?_; rintro e w' ⟨rfl, rfl⟩; (first | rw [h1] | rw [h2] | rw [h3]); simp only []))
      go_quiet (first | (go_at_call 57; exact Calls.quiet_of_same (HQ.out _)))
      go_wp2
      have HX1 := hide (HT.out.1.drewN nq)
      have HX2 := hide (HT.out.2.drewN nq)
      have HBX := hide (below_drewN HB.out nq)
      obtain ⟨W1, hW1⟩ : ∃ W1, ((w.alloc (.cells #[nmv, .int .i64 ce, .int .i64 wi, pv, sv] 25)).alloc (.cells #[.int .i64 mu, .int .i64 fi, .int .i64 bl] 56)).drewN nq = W1 := ⟨_, rfl⟩
      rw [hW1] at HX1 HX2 HBX ⊢
      clear hW1
      have y0 := HX2.out.cell 0
      have y1 := HX2.out.cell 1
      have y2 := HX2.out.cell 2
      have yw := HX1.out.cell 2
      simp at y0 y1 y2 yw
      go_quiet (first | (go_at_call 57; exact Calls.quiet_of_same (HQ.out _)))
      go_wp2
      go_ret
      exact .yes (by rw [HX.out]; have := Q2.out; have := Q.out; omega) (below_drewN HBX.out _)
  · have e1 : (m != 0) = true := by simp [q1]
    have Q := hide q1; clear q1 hm
    go_enter Try.func40, Try.ntmps40
    go_wp2_with (go_at_call 29; go_must (refine (within_base _ _ _ _).mono ?_; rintro e w' ⟨rfl, rfl⟩; (first | rw [h1] | rw [h2] | rw [h3]); simp only []))
    go_quiet (first | (go_at_call 57; exact Calls.quiet_of_same (HQ.out _)))
    go_wp2
    go_ret
    exact .no (by decide) (by rw [HX.out]; have := Q.out; omega) (below_drewN HB.out _)
end Go.Proofs.Ytfolipkbcibgdaa
