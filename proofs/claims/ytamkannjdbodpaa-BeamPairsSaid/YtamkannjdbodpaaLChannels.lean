import Derived.Test.YtamkannjdbodpaaStay
namespace Go.Proofs.Ytamkannjdbodpaa
open Go.RowKit Go.WideShapes Go.ChangeShapes

theorem numbers_law (A : Option Addr) (n c : Nat) (w : World) :
    Calls Try.prog 59 #[.slice A n c] w fun e w' => e = .returned (.bool (decide ((n : Int) ≤ 10))) ∧ w = w' := by
  go_enter Try.func59, Try.ntmps59
  go_wp2
  go_ret
  exact ⟨by simp, rfl⟩
theorem fr_under : Try.prog.underlying 86 = some (.struct (Try.prog.fieldsOf 86)) := by kernel_rfl
theorem fr_held : Try.prog.stoodInHeld 86 = false := by kernel_rfl
set_option maxRecDepth 100000 in
theorem fr_eql (a b a' b' : Int) (w : World) : (binOp .eql 86 (.agg #[.int .i64 a, .int .i64 b]) (.agg #[.int .i64 a', .int .i64 b'])).run Try.prog w = .ok (.bool (a == a' && b == b')) w := by
  rw [run_eql_struct, run_equalIn_agg (d := 9999) (ht := fr_under) (hp := fr_held)]
  simp [go_sem]
  (repeat' split) <;> simp_all
set_option maxRecDepth 100000 in
theorem fr_neq (a b a' b' : Int) (w : World) : (binOp .neq 86 (.agg #[.int .i64 a, .int .i64 b]) (.agg #[.int .i64 a', .int .i64 b'])).run Try.prog w = .ok (.bool (!(a == a' && b == b'))) w := by
  rw [run_neq_struct, run_equalIn_agg (d := 9999) (ht := fr_under) (hp := fr_held)]
  simp [go_sem]
  (repeat' split) <;> simp_all
theorem copyG_at (A : Option Addr) (c n : Nat) (l : List (Int × Int)) (w : World) (hn : l.length = n) (hs : Sl w A (gv l)) (hl : n ≤ 1000000) :
    Calls Try.prog 53 #[.slice A n c] w fun e w' => ∃ A' c', e = .returned (.slice A' n c') ∧ Sl w' A' (gv l) ∧ Below w.heap.size w w' := by
  subst hn
  exact (copyGausses A c l w hs hl).mono fun e w' ⟨A', c', h1, h2, h3⟩ => ⟨A', c', h1, Sl.of_ownN h2, h3⟩

theorem BeamChannels_g (A B : Option Addr) (c c' n m : Nat) (w : World) (hn : 10 < n) :
    Calls Try.prog 12 #[.slice A n c, .slice B m c'] w fun e w' => e = .returned (.bool true) ∧ Below w.heap.size w w' := by
  have hd : decide ((n : Int) ≤ 10) = false := by rw [decide_eq_false_iff_not]; omega
  go_enter Try.func12, Try.ntmps12
  go_wp2_with (first
    | (go_at_call 18; go_must (refine (awake_ok _).mono ?_; rintro e w1 ⟨rfl, hb1⟩; simp only []))
    | (go_at_call 59; go_must (refine (numbers_law _ _ _ _).mono ?_; rintro e w' ⟨rfl, rfl⟩; simp only [])))
  go_ret
  exact ⟨rfl, hb1⟩
theorem BeamChannels_h (A B : Option Addr) (c c' n m : Nat) (w : World) (hn : n ≤ 10) (hm : 10 < m) :
    Calls Try.prog 12 #[.slice A n c, .slice B m c'] w fun e w' => e = .returned (.bool true) ∧ Below w.heap.size w w' := by
  have hd : decide ((n : Int) ≤ 10) = true := by rw [decide_eq_true_iff]; omega
  have hd' : decide ((m : Int) ≤ 10) = false := by rw [decide_eq_false_iff_not]; omega
  go_enter Try.func12, Try.ntmps12
  go_wp2_with (first
    | (go_at_call 18; go_must (refine (awake_ok _).mono ?_; rintro e w1 ⟨rfl, hb1⟩; simp only []))
    | (go_at_call 59; go_must (refine (numbers_law _ _ _ _).mono ?_; rintro e w' ⟨rfl, rfl⟩; simp only [])))
  go_ret
  exact ⟨rfl, hb1⟩

set_option maxRecDepth 100000 in
set_option maxHeartbeats 4000000 in
theorem BeamChannels_ok (A B : Option Addr) (c c' n : Nat) (g h : List (Int × Int)) (w : World) (hs : Sl w A (gv g)) (hs' : Sl w B (gv h)) (hg : g.length = n) (hh : h.length = n) (hn : n ≤ 10) (h0 : twoE g h = 0) :
    Calls Try.prog 12 #[.slice A n c, .slice B n c'] w fun e w' => e = .returned (.bool true) ∧ Below w.heap.size w w' := by
  have hd : decide ((n : Int) ≤ 10) = true := by rw [decide_eq_true_iff]; omega
  obtain ⟨-, sg, sh, -, -, -⟩ := twoE_ok h0
  have hbo : bothE g h = 0 := by
    rcases twoE_cases g h with ⟨k1, k2⟩ | ⟨k0, _⟩ | ⟨k0, _⟩ | ⟨k0, _⟩
    · exact absurd (k2.symm.trans h0) k1
    · exact k0
    · exact k0
    · exact k0
  have hiv : inV g h = innerZ g h n := by unfold inV; rw [if_pos hbo, hg]
  have HI := hide (show ∀ A B c c' W, Sl W A (gv g) → Sl W B (gv h) → Calls Try.prog 60 #[.slice A n c, .slice B n c'] W fun e w' => e = .returned (.tuple #[.agg #[.int .i64 (innerZ g h n).1, .int .i64 (innerZ g h n).2], .int .i64 0]) ∧ Below W.heap.size W w' from fun A B c c' W k1 k2 => by
    have := innerOf_beam A B c c' g h W k1 k2 (by omega) (by omega)
    rw [hg, hh, hiv, hbo] at this
    exact this)
  have HP := hide (fun A B c c' W k1 k2 => partOf_ok A B c c' n g h W h0 hg hh k1 k2)
  have HK := hide (fun A B c c' W k1 k2 => keptOf_ok A B c c' n g h W h0 hg hh k1 k2)
  have HC := hide (fun A B c c' W k1 k2 => cleared_ok A B c c' n g h W h0 hg hh k1 k2)
  have HRP := hide (fun A B c c' W k1 k2 => partOf_ref A B c c' n g h W h0 hg hh k1 k2)
  have HRK := hide (fun A B c c' W k1 k2 => keptOf_ref A B c c' n g h W h0 hg hh k1 k2)
  have HRC := hide (fun A B c c' W k1 k2 => cleared_ref A B c c' n g h W h0 hg hh k1 k2)
  have HRI := hide (fun A B c c' W k1 k2 => innerOf_ref A B c c' n g h W k1 k2 hg hh sg sh)
  have HRB := hide (show ∀ A B c c' W, Sl W A (gv g) → Sl W B (gv h) → Calls Try.prog 61 #[.slice A n c, .slice B n c'] W fun e w' => e = .returned (.int .i64 0) ∧ Below W.heap.size W w' from fun A B c c' W k1 k2 => by
    have := bothErr_ref A B c c' g h W k1 k2
    rw [hg, hh, hbo] at this
    exact this)
  have HRT := hide (show ∀ A B c c' W, Sl W A (gv g) → Sl W B (gv h) → Calls Try.prog 51 #[.slice A n c, .slice B n c'] W fun e w' => e = .returned (.int .i64 0) ∧ Below W.heap.size W w' from fun A B c c' W k1 k2 => by
    have := twoErr_ref A B c c' g h W k1 k2
    rw [hg, hh, h0] at this
    exact this)
  have HGC := hide (fun A c W k => copyG_at A c n g W hg k (by omega))
  have HHC := hide (fun A c W k => copyG_at A c n h W hh k (by omega))
  have HLL := hide (clrL_len g h n)
  have HS := hide hs; clear hs
  have HS' := hide hs'; clear hs'
  obtain ⟨Z, hZ⟩ : ∃ Z, innerZ g h n = Z := ⟨_, rfl⟩
  obtain ⟨a1, e1⟩ : ∃ a, lowN (pN g h) (pD g h) = a := ⟨_, rfl⟩
  obtain ⟨b1, e2⟩ : ∃ a, lowD (pN g h) (pD g h) = a := ⟨_, rfl⟩
  obtain ⟨a2, e3⟩ : ∃ a, lowN (pD g h - pN g h) (pD g h) = a := ⟨_, rfl⟩
  obtain ⟨b2, e4⟩ : ∃ a, lowD (pD g h - pN g h) (pD g h) = a := ⟨_, rfl⟩
  obtain ⟨L, hL⟩ : ∃ L, clrL g h n = L := ⟨_, rfl⟩
  rw [hZ] at HI HRI
  rw [e1, e2] at HP HRP
  rw [e3, e4] at HK HRK
  rw [hL] at HC HRC HLL
  clear hZ e1 e2 e3 e4 hL h0 hbo hiv sg sh hg hh
  have hq1 : ∀ w, (binOp .neq 90 (.agg #[.int .i64 Z.1, .int .i64 Z.2]) (.agg #[.int .i64 Z.1, .int .i64 Z.2])).run Try.prog w = .ok (.bool false) w := fun w => (ga_neq _ _ _ _ w).trans (by simp)
  have hq2 : ∀ w, (binOp .eql 86 (.agg #[.int .i64 a1, .int .i64 b1]) (.agg #[.int .i64 a1, .int .i64 b1])).run Try.prog w = .ok (.bool true) w := fun w => (fr_eql _ _ _ _ w).trans (by simp)
  have hq3 : ∀ w, (binOp .eql 86 (.agg #[.int .i64 a2, .int .i64 b2]) (.agg #[.int .i64 a2, .int .i64 b2])).run Try.prog w = .ok (.bool true) w := fun w => (fr_eql _ _ _ _ w).trans (by simp)
  have HB := hide (Below.refl w.heap.size w)
  have HT := hide (Stay.triv w)
  go_enter Try.func12, Try.ntmps12
  go_wp2_with (first
    | (go_at_call 18; go_must (refine (awake_ok _).mono ?_; rintro e w1 ⟨rfl, hb⟩; replace HB := hide (Below.step HB.out hb); replace HT := hide (HT.out.step hb); clear hb; simp only []))
    | (go_at_call 59; go_must (refine (numbers_law _ _ _ _).mono ?_; rintro e w' ⟨rfl, rfl⟩; simp only []))
    | (go_at_call 53; have qq := HG1; go_must (refine (HHC.out _ _ _ (HS'.out.bel HB.out)).mono ?_; rintro e wb ⟨Ah, ch, rfl, hsh, hb⟩; have HH2 := hide hsh; have HG2 := hide (HG1.out.bel hb); replace HB := hide (Below.step HB.out hb); replace HT := hide (HT.out.step hb); clear hb hsh qq HG1; simp only []))
    | (go_at_call 53; go_must (refine (HGC.out _ _ _ (HS.out.bel HB.out)).mono ?_; rintro e wa ⟨Ag, cg, rfl, hsg, hb⟩; have HG1 := hide hsg; replace HB := hide (Below.step HB.out hb); replace HT := hide (HT.out.step hb); clear hb hsg; simp only []))
    | (go_at_call 60; go_must (refine (HI.out _ _ _ _ _ HG2.out HH2.out).mono ?_; rintro e w2 ⟨rfl, hb⟩; replace HB := hide ((Below.step HB.out hb).alloc (Below.step HB.out hb).size (.cells #[.int .i64 Z.1, .int .i64 Z.2] 90)); replace HT := hide (((HT.out.step hb).alloc (.cells #[.int .i64 Z.1, .int .i64 Z.2] 90)).and (stay_new w2 90 #[.int .i64 Z.1, .int .i64 Z.2])); clear hb HG2 HH2; simp only []))
    | (go_at_call 54; go_must (refine (HP.out _ _ _ _ _ HG2.out HH2.out).mono ?_; rintro e w3 ⟨rfl, hb⟩; replace HB := hide ((Below.step HB.out hb).alloc (Below.step HB.out hb).size (.cells #[.int .i64 a1, .int .i64 b1] 86)); replace HT := hide (((HT.out.step hb).alloc (.cells #[.int .i64 a1, .int .i64 b1] 86)).and (stay_new w3 86 #[.int .i64 a1, .int .i64 b1])); clear hb HG2 HH2; simp only []))
    | (go_at_call 55; go_must (refine (HK.out _ _ _ _ _ HG2.out HH2.out).mono ?_; rintro e w4 ⟨rfl, hb⟩; replace HB := hide ((Below.step HB.out hb).alloc (Below.step HB.out hb).size (.cells #[.int .i64 a2, .int .i64 b2] 86)); replace HT := hide (((HT.out.step hb).alloc (.cells #[.int .i64 a2, .int .i64 b2] 86)).and (stay_new w4 86 #[.int .i64 a2, .int .i64 b2])); clear hb HG2 HH2; simp only []))
    | (go_at_call 52; go_must (refine (HC.out _ _ _ _ _ HG2.out HH2.out).mono ?_; rintro e w5 ⟨CL, cl, rfl, hcl, hb⟩; replace HB := hide (Below.step HB.out hb); replace HT := hide ((HT.out.step hb).and (stay_sl hcl)); clear hb hcl HG2 HH2; simp only []))
    | (go_at_call 61; go_must (refine (HRB.out _ _ _ _ _ (HS.out.bel HB.out) (HS'.out.bel HB.out)).mono ?_; rintro e w6 ⟨rfl, hb⟩; replace HB := hide (Below.step HB.out hb); replace HT := hide (HT.out.step hb); clear hb; have x0 : w6.cell? ⟨w2.heap.size, 0, none⟩ = some (.int .i64 Z.1) := HT.out.now.1.1.1.2.cell 0; have x1 : w6.cell? ⟨w2.heap.size, 1, none⟩ = some (.int .i64 Z.2) := HT.out.now.1.1.1.2.cell 1; simp only [])))
  go_region_held3 (fun w' => w'.cell? ⟨w2.heap.size, 0, none⟩ = some (.int .i64 Z.1) ∧ w'.cell? ⟨w2.heap.size, 1, none⟩ = some (.int .i64 Z.2)) (first | (simp [go_sem]; done) | (simp [go_sem, *]; done) | go_keep)
    (first
      | (go_at_call 62; go_must (refine (HRI.out _ _ _ _ _ (HS.out.bel (below_drew HB.out)) (HS'.out.bel (below_drew HB.out))).mono ?_; rintro e w7 ⟨rfl, hb⟩; replace HB := hide (Below.step (below_drew HB.out) hb); replace HT := hide (HT.out.drew.step hb); clear hb; have x2 : w7.cell? ⟨w2.heap.size, 0, none⟩ = some (.int .i64 Z.1) := HT.out.now.1.1.1.2.cell 0; have x3 : w7.cell? ⟨w2.heap.size, 1, none⟩ = some (.int .i64 Z.2) := HT.out.now.1.1.1.2.cell 1)))
  go_wp2_with (go_at_call 51; go_must (refine (HRT.out _ _ _ _ _ (HS.out.bel HB.out) (HS'.out.bel HB.out)).mono ?_; rintro e w8 ⟨rfl, hb⟩; replace HB := hide (Below.step HB.out hb); replace HT := hide (HT.out.step hb); clear hb; have p0 : w8.cell? ⟨w3.heap.size, 0, none⟩ = some (.int .i64 a1) := HT.out.now.1.1.2.cell 0; have p1 : w8.cell? ⟨w3.heap.size, 1, none⟩ = some (.int .i64 b1) := HT.out.now.1.1.2.cell 1; have k0 : w8.cell? ⟨w4.heap.size, 0, none⟩ = some (.int .i64 a2) := HT.out.now.1.2.cell 0; have k1 : w8.cell? ⟨w4.heap.size, 1, none⟩ = some (.int .i64 b2) := HT.out.now.1.2.cell 1; simp only []))
  go_region_held3 (fun w' => w'.cell? ⟨w3.heap.size, 0, none⟩ = some (.int .i64 a1) ∧ w'.cell? ⟨w3.heap.size, 1, none⟩ = some (.int .i64 b1) ∧ w'.cell? ⟨w4.heap.size, 0, none⟩ = some (.int .i64 a2) ∧ w'.cell? ⟨w4.heap.size, 1, none⟩ = some (.int .i64 b2)) (first | (simp [go_sem]; done) | (simp [go_sem, *]; done) | exact ⟨q0, q1, q2, q3⟩ | go_keep)
    (first
      | (go_at_call 63; go_must (refine (HRP.out _ _ _ _ _ (HS.out.bel (below_drew HB.out)) (HS'.out.bel (below_drew HB.out))).mono ?_; rintro e w9 ⟨rfl, hb⟩; replace HB := hide (Below.step (below_drew HB.out) hb); replace HT := hide (HT.out.drew.step hb); clear hb; have q0 : w9.cell? ⟨w3.heap.size, 0, none⟩ = some (.int .i64 a1) := HT.out.now.1.1.2.cell 0; have q1 : w9.cell? ⟨w3.heap.size, 1, none⟩ = some (.int .i64 b1) := HT.out.now.1.1.2.cell 1; have q2 : w9.cell? ⟨w4.heap.size, 0, none⟩ = some (.int .i64 a2) := HT.out.now.1.2.cell 0; have q3 : w9.cell? ⟨w4.heap.size, 1, none⟩ = some (.int .i64 b2) := HT.out.now.1.2.cell 1))
      | (go_at_call 64; go_must (refine (HRK.out _ _ _ _ _ (HS.out.bel HB.out) (HS'.out.bel HB.out)).mono ?_; rintro e w10 ⟨rfl, hb⟩; replace HB := hide (Below.step HB.out hb); replace HT := hide (HT.out.step hb); clear hb; have q0 : w10.cell? ⟨w3.heap.size, 0, none⟩ = some (.int .i64 a1) := HT.out.now.1.1.2.cell 0; have q1 : w10.cell? ⟨w3.heap.size, 1, none⟩ = some (.int .i64 b1) := HT.out.now.1.1.2.cell 1; have q2 : w10.cell? ⟨w4.heap.size, 0, none⟩ = some (.int .i64 a2) := HT.out.now.1.2.cell 0; have q3 : w10.cell? ⟨w4.heap.size, 1, none⟩ = some (.int .i64 b2) := HT.out.now.1.2.cell 1))
      | (go_at_call 66; go_must (refine (HRC.out _ _ _ _ _ (HS.out.bel HB.out) (HS'.out.bel HB.out)).mono ?_; rintro e w11 ⟨CR, cr, rfl, hcr, hb⟩; have HCR := hide hcr; replace HB := hide (Below.step HB.out hb); replace HT := hide (HT.out.step hb); clear hb hcr; have q0 : w11.cell? ⟨w3.heap.size, 0, none⟩ = some (.int .i64 a1) := HT.out.now.1.1.2.cell 0; have q1 : w11.cell? ⟨w3.heap.size, 1, none⟩ = some (.int .i64 b1) := HT.out.now.1.1.2.cell 1; have q2 : w11.cell? ⟨w4.heap.size, 0, none⟩ = some (.int .i64 a2) := HT.out.now.1.2.cell 0; have q3 : w11.cell? ⟨w4.heap.size, 1, none⟩ = some (.int .i64 b2) := HT.out.now.1.2.cell 1))
      | (go_at_call 65; go_must (refine (gausses_same CL CR cl cr n L _ HT.out.now.2 HCR.out HLL.out (by omega)).mono ?_; rintro e w' ⟨rfl, m, rfl⟩)))
  go_wp2
  go_ret
  exact ⟨rfl, below_drewN HB.out _⟩

set_option maxRecDepth 100000 in
set_option maxHeartbeats 4000000 in
theorem BeamChannels_both (A B : Option Addr) (c c' n m : Nat) (g h : List (Int × Int)) (w : World) (hs : Sl w A (gv g)) (hs' : Sl w B (gv h)) (hg : g.length = n) (hh : h.length = m) (hn : n ≤ 10) (hm : m ≤ 10) (hb0 : bothE g h ≠ 0) (h0 : twoE g h ≠ 0) :
    Calls Try.prog 12 #[.slice A n c, .slice B m c'] w fun e w' => e = .returned (.bool true) ∧ Below w.heap.size w w' := by
  have hd : decide ((n : Int) ≤ 10) = true := by rw [decide_eq_true_iff]; omega
  have hd' : decide ((m : Int) ≤ 10) = true := by rw [decide_eq_true_iff]; omega
  obtain ⟨E, hE⟩ : ∃ E, twoE g h = E := ⟨_, rfl⟩
  have hbE : bothE g h = E := by
    rcases twoE_cases g h with ⟨_, k2⟩ | ⟨k0, _⟩ | ⟨k0, _⟩ | ⟨k0, _⟩
    · rw [← k2]; exact hE
    · exact absurd k0 hb0
    · exact absurd k0 hb0
    · exact absurd k0 hb0
  have hiv : inV g h = (0, 0) := if_neg hb0
  have HI := hide (show ∀ A B c c' W, Sl W A (gv g) → Sl W B (gv h) → Calls Try.prog 60 #[.slice A n c, .slice B m c'] W fun e w' => e = .returned (.tuple #[.agg #[.int .i64 0, .int .i64 0], .int .i64 E]) ∧ Below W.heap.size W w' from fun A B c c' W k1 k2 => by
    have := innerOf_beam A B c c' g h W k1 k2 (by omega) (by omega)
    rw [hg, hh, hiv, hbE] at this
    exact this)
  have HRB := hide (show ∀ A B c c' W, Sl W A (gv g) → Sl W B (gv h) → Calls Try.prog 61 #[.slice A n c, .slice B m c'] W fun e w' => e = .returned (.int .i64 E) ∧ Below W.heap.size W w' from fun A B c c' W k1 k2 => by
    have := bothErr_ref A B c c' g h W k1 k2
    rw [hg, hh, hbE] at this
    exact this)
  have HP := hide (show ∀ A B c c' W, Sl W A (gv g) → Sl W B (gv h) → Calls Try.prog 54 #[.slice A n c, .slice B m c'] W fun e w' => e = .returned (.tuple #[.agg #[.int .i64 0, .int .i64 0], .int .i64 E]) ∧ Below W.heap.size W w' from fun A B c c' W k1 k2 => by
    have := partOf_err A B c c' g h W h0 k1 k2 (by omega) (by omega)
    rw [hg, hh, hE] at this
    exact this)
  have HK := hide (show ∀ A B c c' W, Sl W A (gv g) → Sl W B (gv h) → Calls Try.prog 55 #[.slice A n c, .slice B m c'] W fun e w' => e = .returned (.tuple #[.agg #[.int .i64 0, .int .i64 0], .int .i64 E]) ∧ Below W.heap.size W w' from fun A B c c' W k1 k2 => by
    have := keptOf_err A B c c' g h W h0 k1 k2 (by omega) (by omega)
    rw [hg, hh, hE] at this
    exact this)
  have HC := hide (show ∀ A B c c' W, Sl W A (gv g) → Sl W B (gv h) → Calls Try.prog 52 #[.slice A n c, .slice B m c'] W fun e w' => e = .returned (.tuple #[.slice none 0 0, .int .i64 E]) ∧ Below W.heap.size W w' from fun A B c c' W k1 k2 => by
    have := cleared_err A B c c' g h W h0 k1 k2 (by omega) (by omega)
    rw [hg, hh, hE] at this
    exact this)
  have HRT := hide (show ∀ A B c c' W, Sl W A (gv g) → Sl W B (gv h) → Calls Try.prog 51 #[.slice A n c, .slice B m c'] W fun e w' => e = .returned (.int .i64 E) ∧ Below W.heap.size W w' from fun A B c c' W k1 k2 => by
    have := twoErr_ref A B c c' g h W k1 k2
    rw [hg, hh, hE] at this
    exact this)
  have HGC := hide (fun A c W k => copyG_at A c n g W hg k (by omega))
  have HHC := hide (fun A c W k => copyG_at A c m h W hh k (by omega))
  have HS := hide hs; clear hs
  have HS' := hide hs'; clear hs'
  have hne : (E != 0) = true := by rw [bne_iff_ne, ← hE]; exact h0
  clear hE h0 hb0 hbE hiv hg hh
  have hq1 : ∀ w, (binOp .neq 90 (.agg #[.int .i64 0, .int .i64 0]) (.agg #[.int .i64 0, .int .i64 0])).run Try.prog w = .ok (.bool false) w := fun w => ga_neq _ _ _ _ w
  have hq2 : ∀ w, (binOp .eql 86 (.agg #[.int .i64 0, .int .i64 0]) (.agg #[.int .i64 0, .int .i64 0])).run Try.prog w = .ok (.bool true) w := fun w => fr_eql _ _ _ _ w
  have HB := hide (Below.refl w.heap.size w)
  have HT := hide (Stay.triv w)
  go_enter Try.func12, Try.ntmps12
  go_wp2_with (first
    | (go_at_call 18; go_must (refine (awake_ok _).mono ?_; rintro e w1 ⟨rfl, hb⟩; replace HB := hide (Below.step HB.out hb); replace HT := hide (HT.out.step hb); clear hb; simp only []))
    | (go_at_call 59; go_must (refine (numbers_law _ _ _ _).mono ?_; rintro e w' ⟨rfl, rfl⟩; simp only []))
    | (go_at_call 53; have qq := HG1; go_must (refine (HHC.out _ _ _ (HS'.out.bel HB.out)).mono ?_; rintro e wb ⟨Ah, ch, rfl, hsh, hb⟩; have HH2 := hide hsh; have HG2 := hide (HG1.out.bel hb); replace HB := hide (Below.step HB.out hb); replace HT := hide (HT.out.step hb); clear hb hsh qq HG1; simp only []))
    | (go_at_call 53; go_must (refine (HGC.out _ _ _ (HS.out.bel HB.out)).mono ?_; rintro e wa ⟨Ag, cg, rfl, hsg, hb⟩; have HG1 := hide hsg; replace HB := hide (Below.step HB.out hb); replace HT := hide (HT.out.step hb); clear hb hsg; simp only []))
    | (go_at_call 60; go_must (refine (HI.out _ _ _ _ _ HG2.out HH2.out).mono ?_; rintro e w2 ⟨rfl, hb⟩; replace HB := hide ((Below.step HB.out hb).alloc (Below.step HB.out hb).size (.cells #[.int .i64 0, .int .i64 0] 90)); replace HT := hide (((HT.out.step hb).alloc (.cells #[.int .i64 0, .int .i64 0] 90)).and (stay_new w2 90 #[.int .i64 0, .int .i64 0])); clear hb HG2 HH2; simp only []))
    | (go_at_call 54; go_must (refine (HP.out _ _ _ _ _ HG2.out HH2.out).mono ?_; rintro e w3 ⟨rfl, hb⟩; replace HB := hide ((Below.step HB.out hb).alloc (Below.step HB.out hb).size (.cells #[.int .i64 0, .int .i64 0] 86)); replace HT := hide (((HT.out.step hb).alloc (.cells #[.int .i64 0, .int .i64 0] 86)).and (stay_new w3 86 #[.int .i64 0, .int .i64 0])); clear hb HG2 HH2; simp only []))
    | (go_at_call 55; go_must (refine (HK.out _ _ _ _ _ HG2.out HH2.out).mono ?_; rintro e w4 ⟨rfl, hb⟩; replace HB := hide ((Below.step HB.out hb).alloc (Below.step HB.out hb).size (.cells #[.int .i64 0, .int .i64 0] 86)); replace HT := hide (((HT.out.step hb).alloc (.cells #[.int .i64 0, .int .i64 0] 86)).and (stay_new w4 86 #[.int .i64 0, .int .i64 0])); clear hb HG2 HH2; simp only []))
    | (go_at_call 52; go_must (refine (HC.out _ _ _ _ _ HG2.out HH2.out).mono ?_; rintro e w5 ⟨rfl, hb⟩; replace HB := hide (Below.step HB.out hb); replace HT := hide (HT.out.step hb); clear hb HG2 HH2; simp only []))
    | (go_at_call 61; go_must (refine (HRB.out _ _ _ _ _ (HS.out.bel HB.out) (HS'.out.bel HB.out)).mono ?_; rintro e w6 ⟨rfl, hb⟩; replace HB := hide (Below.step HB.out hb); replace HT := hide (HT.out.step hb); clear hb; have x0 : w6.cell? ⟨w2.heap.size, 0, none⟩ = some (.int .i64 0) := HT.out.now.1.1.2.cell 0; have x1 : w6.cell? ⟨w2.heap.size, 1, none⟩ = some (.int .i64 0) := HT.out.now.1.1.2.cell 1; simp only []))
    | (go_at_call 51; go_must (refine (HRT.out _ _ _ _ _ (HS.out.bel HB.out) (HS'.out.bel HB.out)).mono ?_; rintro e w8 ⟨rfl, hb⟩; replace HB := hide (Below.step HB.out hb); replace HT := hide (HT.out.step hb); clear hb; have p0 : w8.cell? ⟨w3.heap.size, 0, none⟩ = some (.int .i64 0) := HT.out.now.1.2.cell 0; have p1 : w8.cell? ⟨w3.heap.size, 1, none⟩ = some (.int .i64 0) := HT.out.now.1.2.cell 1; have k0 : w8.cell? ⟨w4.heap.size, 0, none⟩ = some (.int .i64 0) := HT.out.now.2.cell 0; have k1 : w8.cell? ⟨w4.heap.size, 1, none⟩ = some (.int .i64 0) := HT.out.now.2.cell 1; simp only [])))
  go_ret
  exact ⟨rfl, HB.out⟩

set_option maxRecDepth 100000 in
set_option maxHeartbeats 4000000 in
theorem BeamChannels_two (A B : Option Addr) (c c' n m : Nat) (g h : List (Int × Int)) (w : World) (hs : Sl w A (gv g)) (hs' : Sl w B (gv h)) (hg : g.length = n) (hh : h.length = m) (hn : n ≤ 10) (hm : m ≤ 10) (hb0 : bothE g h = 0) (h0 : twoE g h ≠ 0) :
    Calls Try.prog 12 #[.slice A n c, .slice B m c'] w fun e w' => e = .returned (.bool true) ∧ Below w.heap.size w w' := by
  have hd' : decide ((m : Int) ≤ 10) = true := by rw [decide_eq_true_iff]; omega
  obtain ⟨E, hE⟩ : ∃ E, twoE g h = E := ⟨_, rfl⟩
  obtain ⟨-, sg, sh, hgh⟩ := bothE_ok hb0
  have hmn : m = n := by omega
  subst hmn
  have hiv : inV g h = innerZ g h m := by unfold inV; rw [if_pos hb0, hg]
  have HI := hide (show ∀ A B c c' W, Sl W A (gv g) → Sl W B (gv h) → Calls Try.prog 60 #[.slice A m c, .slice B m c'] W fun e w' => e = .returned (.tuple #[.agg #[.int .i64 (innerZ g h m).1, .int .i64 (innerZ g h m).2], .int .i64 0]) ∧ Below W.heap.size W w' from fun A B c c' W k1 k2 => by
    have := innerOf_beam A B c c' g h W k1 k2 (by omega) (by omega)
    rw [hg, hh, hiv, hb0] at this
    exact this)
  have HRB := hide (show ∀ A B c c' W, Sl W A (gv g) → Sl W B (gv h) → Calls Try.prog 61 #[.slice A m c, .slice B m c'] W fun e w' => e = .returned (.int .i64 0) ∧ Below W.heap.size W w' from fun A B c c' W k1 k2 => by
    have := bothErr_ref A B c c' g h W k1 k2
    rw [hg, hh, hb0] at this
    exact this)
  have HRI := hide (fun A B c c' W k1 k2 => innerOf_ref A B c c' m g h W k1 k2 hg hh sg sh)
  have HP := hide (show ∀ A B c c' W, Sl W A (gv g) → Sl W B (gv h) → Calls Try.prog 54 #[.slice A m c, .slice B m c'] W fun e w' => e = .returned (.tuple #[.agg #[.int .i64 0, .int .i64 0], .int .i64 E]) ∧ Below W.heap.size W w' from fun A B c c' W k1 k2 => by
    have := partOf_err A B c c' g h W h0 k1 k2 (by omega) (by omega)
    rw [hg, hh, hE] at this
    exact this)
  have HK := hide (show ∀ A B c c' W, Sl W A (gv g) → Sl W B (gv h) → Calls Try.prog 55 #[.slice A m c, .slice B m c'] W fun e w' => e = .returned (.tuple #[.agg #[.int .i64 0, .int .i64 0], .int .i64 E]) ∧ Below W.heap.size W w' from fun A B c c' W k1 k2 => by
    have := keptOf_err A B c c' g h W h0 k1 k2 (by omega) (by omega)
    rw [hg, hh, hE] at this
    exact this)
  have HC := hide (show ∀ A B c c' W, Sl W A (gv g) → Sl W B (gv h) → Calls Try.prog 52 #[.slice A m c, .slice B m c'] W fun e w' => e = .returned (.tuple #[.slice none 0 0, .int .i64 E]) ∧ Below W.heap.size W w' from fun A B c c' W k1 k2 => by
    have := cleared_err A B c c' g h W h0 k1 k2 (by omega) (by omega)
    rw [hg, hh, hE] at this
    exact this)
  have HRT := hide (show ∀ A B c c' W, Sl W A (gv g) → Sl W B (gv h) → Calls Try.prog 51 #[.slice A m c, .slice B m c'] W fun e w' => e = .returned (.int .i64 E) ∧ Below W.heap.size W w' from fun A B c c' W k1 k2 => by
    have := twoErr_ref A B c c' g h W k1 k2
    rw [hg, hh, hE] at this
    exact this)
  have HGC := hide (fun A c W k => copyG_at A c m g W hg k (by omega))
  have HHC := hide (fun A c W k => copyG_at A c m h W hh k (by omega))
  have HS := hide hs; clear hs
  have HS' := hide hs'; clear hs'
  have hne : (E != 0) = true := by rw [bne_iff_ne, ← hE]; exact h0
  obtain ⟨Z, hZ⟩ : ∃ Z, innerZ g h m = Z := ⟨_, rfl⟩
  rw [hZ] at HI HRI
  clear hE h0 hb0 hiv hZ hgh sg sh hg hh
  have hq1 : ∀ w, (binOp .neq 90 (.agg #[.int .i64 Z.1, .int .i64 Z.2]) (.agg #[.int .i64 Z.1, .int .i64 Z.2])).run Try.prog w = .ok (.bool false) w := fun w => (ga_neq _ _ _ _ w).trans (by simp)
  have hq2 : ∀ w, (binOp .eql 86 (.agg #[.int .i64 0, .int .i64 0]) (.agg #[.int .i64 0, .int .i64 0])).run Try.prog w = .ok (.bool true) w := fun w => fr_eql _ _ _ _ w
  have HB := hide (Below.refl w.heap.size w)
  have HT := hide (Stay.triv w)
  go_enter Try.func12, Try.ntmps12
  go_wp2_with (first
    | (go_at_call 18; go_must (refine (awake_ok _).mono ?_; rintro e w1 ⟨rfl, hb⟩; replace HB := hide (Below.step HB.out hb); replace HT := hide (HT.out.step hb); clear hb; simp only []))
    | (go_at_call 59; go_must (refine (numbers_law _ _ _ _).mono ?_; rintro e w' ⟨rfl, rfl⟩; simp only []))
    | (go_at_call 53; have qq := HG1; go_must (refine (HHC.out _ _ _ (HS'.out.bel HB.out)).mono ?_; rintro e wb ⟨Ah, ch, rfl, hsh, hb⟩; have HH2 := hide hsh; have HG2 := hide (HG1.out.bel hb); replace HB := hide (Below.step HB.out hb); replace HT := hide (HT.out.step hb); clear hb hsh qq HG1; simp only []))
    | (go_at_call 53; go_must (refine (HGC.out _ _ _ (HS.out.bel HB.out)).mono ?_; rintro e wa ⟨Ag, cg, rfl, hsg, hb⟩; have HG1 := hide hsg; replace HB := hide (Below.step HB.out hb); replace HT := hide (HT.out.step hb); clear hb hsg; simp only []))
    | (go_at_call 60; go_must (refine (HI.out _ _ _ _ _ HG2.out HH2.out).mono ?_; rintro e w2 ⟨rfl, hb⟩; replace HB := hide ((Below.step HB.out hb).alloc (Below.step HB.out hb).size (.cells #[.int .i64 Z.1, .int .i64 Z.2] 90)); replace HT := hide (((HT.out.step hb).alloc (.cells #[.int .i64 Z.1, .int .i64 Z.2] 90)).and (stay_new w2 90 #[.int .i64 Z.1, .int .i64 Z.2])); clear hb HG2 HH2; simp only []))
    | (go_at_call 54; go_must (refine (HP.out _ _ _ _ _ HG2.out HH2.out).mono ?_; rintro e w3 ⟨rfl, hb⟩; replace HB := hide ((Below.step HB.out hb).alloc (Below.step HB.out hb).size (.cells #[.int .i64 0, .int .i64 0] 86)); replace HT := hide (((HT.out.step hb).alloc (.cells #[.int .i64 0, .int .i64 0] 86)).and (stay_new w3 86 #[.int .i64 0, .int .i64 0])); clear hb HG2 HH2; simp only []))
    | (go_at_call 55; go_must (refine (HK.out _ _ _ _ _ HG2.out HH2.out).mono ?_; rintro e w4 ⟨rfl, hb⟩; replace HB := hide ((Below.step HB.out hb).alloc (Below.step HB.out hb).size (.cells #[.int .i64 0, .int .i64 0] 86)); replace HT := hide (((HT.out.step hb).alloc (.cells #[.int .i64 0, .int .i64 0] 86)).and (stay_new w4 86 #[.int .i64 0, .int .i64 0])); clear hb HG2 HH2; simp only []))
    | (go_at_call 52; go_must (refine (HC.out _ _ _ _ _ HG2.out HH2.out).mono ?_; rintro e w5 ⟨rfl, hb⟩; replace HB := hide (Below.step HB.out hb); replace HT := hide (HT.out.step hb); clear hb HG2 HH2; simp only []))
    | (go_at_call 61; go_must (refine (HRB.out _ _ _ _ _ (HS.out.bel HB.out) (HS'.out.bel HB.out)).mono ?_; rintro e w6 ⟨rfl, hb⟩; replace HB := hide (Below.step HB.out hb); replace HT := hide (HT.out.step hb); clear hb; have x0 : w6.cell? ⟨w2.heap.size, 0, none⟩ = some (.int .i64 Z.1) := HT.out.now.1.1.2.cell 0; have x1 : w6.cell? ⟨w2.heap.size, 1, none⟩ = some (.int .i64 Z.2) := HT.out.now.1.1.2.cell 1; simp only [])))
  go_region_held3 (fun w' => w'.cell? ⟨w2.heap.size, 0, none⟩ = some (.int .i64 Z.1) ∧ w'.cell? ⟨w2.heap.size, 1, none⟩ = some (.int .i64 Z.2)) (first | (simp [go_sem]; done) | (simp [go_sem, *]; done) | go_keep)
    (first
      | (go_at_call 62; go_must (refine (HRI.out _ _ _ _ _ (HS.out.bel (below_drew HB.out)) (HS'.out.bel (below_drew HB.out))).mono ?_; rintro e w7 ⟨rfl, hb⟩; replace HB := hide (Below.step (below_drew HB.out) hb); replace HT := hide (HT.out.drew.step hb); clear hb; have x2 : w7.cell? ⟨w2.heap.size, 0, none⟩ = some (.int .i64 Z.1) := HT.out.now.1.1.2.cell 0; have x3 : w7.cell? ⟨w2.heap.size, 1, none⟩ = some (.int .i64 Z.2) := HT.out.now.1.1.2.cell 1)))
  go_wp2_with (go_at_call 51; go_must (refine (HRT.out _ _ _ _ _ (HS.out.bel HB.out) (HS'.out.bel HB.out)).mono ?_; rintro e w8 ⟨rfl, hb⟩; replace HB := hide (Below.step HB.out hb); replace HT := hide (HT.out.step hb); clear hb; have p0 : w8.cell? ⟨w3.heap.size, 0, none⟩ = some (.int .i64 0) := HT.out.now.1.2.cell 0; have p1 : w8.cell? ⟨w3.heap.size, 1, none⟩ = some (.int .i64 0) := HT.out.now.1.2.cell 1; have k0 : w8.cell? ⟨w4.heap.size, 0, none⟩ = some (.int .i64 0) := HT.out.now.2.cell 0; have k1 : w8.cell? ⟨w4.heap.size, 1, none⟩ = some (.int .i64 0) := HT.out.now.2.cell 1; simp only []))
  go_ret
  exact ⟨rfl, HB.out⟩
theorem BeamChannels_law (A : Option Addr) (c : Nat) (g : List (Int × Int)) (B : Option Addr) (c' : Nat) (h : List (Int × Int)) (w : World) (hs : Sl w A (gv g)) (hs' : Sl w B (gv h)) :
    Calls Try.prog 12 #[.slice A g.length c, .slice B h.length c'] w fun e w' => e = .returned (.bool true) ∧ Below w.heap.size w w' := by
  rcases Nat.lt_or_ge 10 g.length with k1 | k1
  · exact BeamChannels_g A B c c' _ _ w k1
  · rcases Nat.lt_or_ge 10 h.length with k2 | k2
    · exact BeamChannels_h A B c c' _ _ w k1 k2
    · by_cases h0 : twoE g h = 0
      · obtain ⟨_, _, _, e, _, _⟩ := twoE_ok h0
        have := BeamChannels_ok A B c c' g.length g h w hs hs' rfl e.symm k1 h0
        rw [← e]
        exact this
      · by_cases hb : bothE g h = 0
        · exact BeamChannels_two A B c c' _ _ g h w hs hs' rfl rfl k1 k2 hb h0
        · exact BeamChannels_both A B c c' _ _ g h w hs hs' rfl rfl k1 k2 hb h0
end Go.Proofs.Ytamkannjdbodpaa
