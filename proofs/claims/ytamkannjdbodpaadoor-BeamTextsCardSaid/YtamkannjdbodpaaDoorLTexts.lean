import Derived.Test.YtamkannjdbodpaaDoorTxP
import Derived.Test.YtamkannjdbodpaaDoorLawA
namespace Go.Proofs.YtamkannjdbodpaaDoor
open Go.RowKit Go.WideShapes Go.ChangeShapes

/-! the statement BeamTexts -/
def CellAt (b : Nat) (v : Value) (W : World) : Prop := W.cell? ⟨b, 0, none⟩ = some v
theorem stay_cell {w : World} {b : Nat} {v : Value} (h : w.cell? ⟨b, 0, none⟩ = some v) : Stay w (CellAt b v) := fun _ hW => (hW.cell (lt_of_cell h)).trans h
theorem antennas_was {n : Nat} {b : Bool} (h : decide ((n : Int) ≤ 10) = b) (A : Option Addr) (c : Nat) (w : World) : Calls Tryd.prog 6 #[.agg #[.slice A n c]] w fun e w' => e = .returned (.bool b) ∧ Below w.heap.size w w' := by
  subst h; exact antennas_law A n c w
set_option maxRecDepth 100000 in
set_option maxHeartbeats 8000000 in
theorem BeamTexts_law (A : Option Addr) (c n : Nat) (l : List Int) (s : Bs) (mx : Int) (w : World) (hn : l.length = n) (hs : Sl w A (iv l)) (hm : w.cell? ⟨0, 0, none⟩ = some (.int .i64 mx)) :
    Calls Tryd.prog 3 #[.agg #[.slice A n c], strV s] w fun e w' => e = .returned (.bool true) ∧ Below w.heap.size w w' := by
  have HT := hide ((((stay_sl (hs.alloc (.cells #[.slice A n c] 24))).and (stay_blk (Blk.new w 24 #[.slice A n c]))).and (stay_cell ((World.cell?_alloc_lt w _ ⟨0, 0, none⟩ (lt_of_cell hm)).trans hm))).and (stay_below (show Below w.heap.size w (w.alloc (.cells #[.slice A n c] 24)) from (Below.refl _ _).alloc (Nat.le_refl _) _)))
  have hlen := fun t W => len_str s t W
  by_cases h10 : 10 < n
  · have HA := hide (show decide ((n : Int) ≤ 10) = false from decide_eq_false (by omega))
    clear hs hm hn
    go_enter Tryd.func3, Tryd.ntmps3
    go_wp2_with fail
    go_at_call 5
    refine (awake_ok _).mono ?_
    rintro e w1 ⟨rfl, hb⟩
    replace HT := hide (HT.out.step hb)
    clear hb
    have zb := HT.out.now.1.1.2.cell 0
    simp only []
    go_wp2_with fail
    go_at_call 6
    refine (antennas_was HA.out _ _ _).mono ?_
    rintro e w2 ⟨rfl, hb⟩
    replace HT := hide (HT.out.step hb)
    clear hb
    clear zb
    have zb := HT.out.now.1.1.2.cell 0
    simp only []
    go_wp2
    go_ret
    exact ⟨rfl, HT.out.now.2⟩
  have h10' : n ≤ 10 := by omega
  have HA := hide (show decide ((n : Int) ≤ 10) = true from decide_eq_true (by omega))
  by_cases h40 : 40 < s.length
  · clear hs hm hn h10
    go_enter Tryd.func3, Tryd.ntmps3
    go_wp2_with fail
    go_at_call 5
    refine (awake_ok _).mono ?_
    rintro e w1 ⟨rfl, hb⟩
    replace HT := hide (HT.out.step hb)
    clear hb
    have zb := HT.out.now.1.1.2.cell 0
    simp only []
    go_wp2_with fail
    go_at_call 6
    refine (antennas_was HA.out _ _ _).mono ?_
    rintro e w2 ⟨rfl, hb⟩
    replace HT := hide (HT.out.step hb)
    clear hb
    clear zb
    have zb := HT.out.now.1.1.2.cell 0
    simp only []
    go_wp2
    go_ret
    exact ⟨rfl, HT.out.now.2⟩
  have h40' : s.length ≤ 40 := by omega
  have HCP := hide (fun W (k : Sl W A (iv l)) => (by have := copy_own A c l W k (by omega); rw [hn] at this; exact this : Calls Tryd.prog 8 #[.agg #[.slice A n c]] W fun e w' => ∃ A' c', e = .returned (.agg #[.slice A' n c']) ∧ w'.ownsRow W.heap.size 3 1 (.slice A' n c') n (iv l) ∧ Below W.heap.size W w'))
  have HFB := hide (fun C q W (k : Sl W C (iv l)) => format_beam C q n l W hn k h10')
  have HFR := hide (fun C q W (k : Sl W C (iv l)) => format_ref C q n l W hn k h10')
  have HPB := hide (fun W (k : CellAt 0 (.int .i64 mx) W) => parse_beam s mx W h40' k)
  have HPR := hide (fun W => parse_ref s W h40')
  have HBE := hide (fun W (k : Sl W A (iv l)) => (by have := beamErr_ref A c l W k (by omega); rw [hn] at this; exact this : Calls Tryd.prog 13 #[.agg #[.slice A n c]] W fun e w' => e = .returned (.int .i64 (chk l).2) ∧ Below W.heap.size W w'))
  have HP2 := hide (fun (h : (chk l).2 = 0) W (k : CellAt 0 (.int .i64 mx) W) => (by have := parse_beam (fmtL l) mx W (Nat.le_trans (fmt_len l (by omega)) (by decide)) k; rw [(prs_fmt h).1, (prs_fmt h).2, hn] at this; exact this : Calls Tryd.prog 9 #[strV (fmtL l)] W fun e w' => ∃ C q, e = .returned (.tuple #[.agg #[.slice C n q], .int .i64 0]) ∧ Sl w' C (iv l) ∧ Below W.heap.size W w'))
  have HPL := hide (show (prsL s).length ≤ 41 from by unfold prsL; split <;> simp; have := cutL_len s; omega)
  obtain ⟨T, hT⟩ : ∃ T, fmtL l = T := ⟨_, rfl⟩
  obtain ⟨P, hP⟩ : ∃ P, prsL s = P := ⟨_, rfl⟩
  obtain ⟨m, hm2⟩ : ∃ m, P.length = m := ⟨_, rfl⟩
  obtain ⟨E, hE⟩ : ∃ E, prsE s = E := ⟨_, rfl⟩
  obtain ⟨V, hV⟩ : ∃ V, (chk l).2 = V := ⟨_, rfl⟩
  rw [hT] at HFB HFR HP2
  rw [hP, hE, hm2] at HPB HPR
  rw [hP, hm2] at HPL
  rw [hV] at HBE HP2
  have HI := hide (fun C D q r W (k : Sl W C (iv P)) (k' : Sl W D (iv P)) => ints_same C D q r m P W k k' hm2 (by have := HPL.out; omega))
  have HI2 := hide (fun C D q r W (k : Sl W C (iv l)) (k' : Sl W D (iv l)) => ints_same C D q r n l W k k' hn (by omega))
  have neT : ∀ W, (binOp .neq 9 (strV T) (strV T)).run Tryd.prog W = .ok (.bool false) W := fun W => by rw [ne_str]; simp
  have eg : ∀ op u v r z, eqGuard op 9 u v (strV r) z = pure () := fun op u v r z => eqG_str op u v r z
  have neE : (E != E) = false := by simp
  clear hs hm hn h10 h40 hT hP hm2 hE hV
  by_cases hV0 : V = 0
  · subst hV0
    go_enter Tryd.func3, Tryd.ntmps3
    go_wp2_with fail
    go_at_call 5
    refine (awake_ok _).mono ?_
    rintro e w1 ⟨rfl, hb⟩
    replace HT := hide (HT.out.step hb)
    clear hb
    have zb := HT.out.now.1.1.2.cell 0
    simp only []
    go_wp2_with fail
    go_at_call 6
    refine (antennas_was HA.out _ _ _).mono ?_
    rintro e w2 ⟨rfl, hb⟩
    replace HT := hide (HT.out.step hb)
    clear hb
    clear zb
    have zb := HT.out.now.1.1.2.cell 0
    simp only []
    go_wp2_with fail
    go_at_call 8
    refine (HCP.out _ HT.out.now.1.1.1).mono ?_
    rintro e w3 ⟨C1, q1, rfl, ho, hb⟩
    replace HT := hide ((HT.out.step hb).and (stay_sl (Sl.of_own ho)))
    clear hb
    clear zb
    have zb := HT.out.now.1.1.1.2.cell 0
    simp only []
    clear ho
    go_wp2_with fail
    go_at_call 7
    refine (HFB.out _ _ _ HT.out.now.2).mono ?_
    rintro e w4 ⟨rfl, hb⟩
    replace HT := hide (HT.out.step hb)
    clear hb
    clear zb
    have zb := HT.out.now.1.1.1.2.cell 0
    simp only []
    go_wp2_with fail
    go_at_call 9
    refine (HPB.out _ HT.out.now.1.1.2).mono ?_
    rintro e w5 ⟨C2, q2, rfl, ho, hb⟩
    replace HT := hide ((HT.out.step hb).and (stay_sl ho))
    clear hb
    clear zb
    have zb := HT.out.now.1.1.1.1.2.cell 0
    simp only []
    clear ho
    replace HT := hide ((HT.out.alloc (.cells #[.slice C2 m q2] 24)).and (stay_blk (Blk.new w5 24 #[.slice C2 m q2])))
    clear zb
    have zb := HT.out.now.1.1.1.1.1.2.cell 0
    have zbx := HT.out.now.2.cell 0
    go_wp2_with fail
    go_at_call 10
    refine (HPR.out _).mono ?_
    rintro e w6 ⟨C3, q3, rfl, ho, hb⟩
    replace HT := hide ((HT.out.step hb).and (stay_sl ho))
    clear hb ho
    clear zb zbx
    have zb := HT.out.now.1.1.1.1.1.1.2.cell 0
    have zbx := HT.out.now.1.2.cell 0
    simp only []
    replace HT := hide ((HT.out.alloc (.cells #[.slice C3 m q3] 24)).and (stay_blk (Blk.new w6 24 #[.slice C3 m q3])))
    clear zb zbx
    have zb := HT.out.now.1.1.1.1.1.1.1.2.cell 0
    have zbx := HT.out.now.1.1.2.cell 0
    have zby := HT.out.now.2.cell 0
    go_wp2_with fail
    go_at_call 11
    refine (HFR.out _ _ _ HT.out.now.1.1.1.1.1.1.1.1).mono ?_
    rintro e w7 ⟨rfl, hb⟩
    replace HT := hide (HT.out.step hb)
    clear hb
    clear zb zbx zby
    have zb := HT.out.now.1.1.1.1.1.1.1.2.cell 0
    have zbx := HT.out.now.1.1.2.cell 0
    have zby := HT.out.now.2.cell 0
    simp only []
    go_wp2_with fail
    go_at_call 12
    refine (HI.out _ _ _ _ _ HT.out.now.1.1.1.2 HT.out.now.1.2).mono ?_
    rintro e w8 ⟨rfl, z8, hz8⟩
    have hb := hide (show Below w7.heap.size w7 w8 from by rw [hz8]; exact below_drewN (Below.refl _ _) _)
    clear hz8
    replace HT := hide (HT.out.step hb.out)
    clear hb
    clear zb zbx zby
    have zb := HT.out.now.1.1.1.1.1.1.1.2.cell 0
    have zbx := HT.out.now.1.1.2.cell 0
    have zby := HT.out.now.2.cell 0
    simp only []
    go_wp2_with fail
    go_at_call 13
    refine (HBE.out _ HT.out.now.1.1.1.1.1.1.1.1).mono ?_
    rintro e w9 ⟨rfl, hb⟩
    replace HT := hide (HT.out.step hb)
    clear hb
    clear zb zbx zby
    have zb := HT.out.now.1.1.1.1.1.1.1.2.cell 0
    have zbx := HT.out.now.1.1.2.cell 0
    have zby := HT.out.now.2.cell 0
    simp only []
    go_wp2_with fail
    go_at_call 9
    refine (HP2.out (by trivial) _ HT.out.now.1.1.1.1.1.1.2).mono ?_
    rintro e w10 ⟨C4, q4, rfl, ho, hb⟩
    replace HT := hide ((HT.out.step hb).and (stay_sl ho))
    clear hb
    clear zb zbx zby
    have zb := HT.out.now.1.1.1.1.1.1.1.1.2.cell 0
    have zbx := HT.out.now.1.1.1.2.cell 0
    have zby := HT.out.now.1.2.cell 0
    simp only []
    clear ho
    replace HT := hide ((HT.out.alloc (.cells #[.slice C4 n q4] 24)).and (stay_blk (Blk.new w10 24 #[.slice C4 n q4])))
    clear zb zbx zby
    have zb := HT.out.now.1.1.1.1.1.1.1.1.1.2.cell 0
    have zbx := HT.out.now.1.1.1.1.2.cell 0
    have zby := HT.out.now.1.1.2.cell 0
    have zbu := HT.out.now.2.cell 0
    go_wp2_with fail
    go_at_call 12
    refine (HI2.out _ _ _ _ _ HT.out.now.1.2 HT.out.now.1.1.1.1.1.1.1.1.1.1).mono ?_
    rintro e w11 ⟨rfl, z11, rfl⟩
    simp only []
    go_wp2
    go_ret
    exact ⟨rfl, below_drewN HT.out.now.1.1.1.1.1.1.1.2 _⟩
  · have hne : (V != 0) = true := by rw [bne_iff_ne]; exact hV0
    clear hV0
    go_enter Tryd.func3, Tryd.ntmps3
    go_wp2_with fail
    go_at_call 5
    refine (awake_ok _).mono ?_
    rintro e w1 ⟨rfl, hb⟩
    replace HT := hide (HT.out.step hb)
    clear hb
    have zb := HT.out.now.1.1.2.cell 0
    simp only []
    go_wp2_with fail
    go_at_call 6
    refine (antennas_was HA.out _ _ _).mono ?_
    rintro e w2 ⟨rfl, hb⟩
    replace HT := hide (HT.out.step hb)
    clear hb
    clear zb
    have zb := HT.out.now.1.1.2.cell 0
    simp only []
    go_wp2_with fail
    go_at_call 8
    refine (HCP.out _ HT.out.now.1.1.1).mono ?_
    rintro e w3 ⟨C1, q1, rfl, ho, hb⟩
    replace HT := hide ((HT.out.step hb).and (stay_sl (Sl.of_own ho)))
    clear hb
    clear zb
    have zb := HT.out.now.1.1.1.2.cell 0
    simp only []
    clear ho
    go_wp2_with fail
    go_at_call 7
    refine (HFB.out _ _ _ HT.out.now.2).mono ?_
    rintro e w4 ⟨rfl, hb⟩
    replace HT := hide (HT.out.step hb)
    clear hb
    clear zb
    have zb := HT.out.now.1.1.1.2.cell 0
    simp only []
    go_wp2_with fail
    go_at_call 9
    refine (HPB.out _ HT.out.now.1.1.2).mono ?_
    rintro e w5 ⟨C2, q2, rfl, ho, hb⟩
    replace HT := hide ((HT.out.step hb).and (stay_sl ho))
    clear hb
    clear zb
    have zb := HT.out.now.1.1.1.1.2.cell 0
    simp only []
    clear ho
    replace HT := hide ((HT.out.alloc (.cells #[.slice C2 m q2] 24)).and (stay_blk (Blk.new w5 24 #[.slice C2 m q2])))
    clear zb
    have zb := HT.out.now.1.1.1.1.1.2.cell 0
    have zbx := HT.out.now.2.cell 0
    go_wp2_with fail
    go_at_call 10
    refine (HPR.out _).mono ?_
    rintro e w6 ⟨C3, q3, rfl, ho, hb⟩
    replace HT := hide ((HT.out.step hb).and (stay_sl ho))
    clear hb ho
    clear zb zbx
    have zb := HT.out.now.1.1.1.1.1.1.2.cell 0
    have zbx := HT.out.now.1.2.cell 0
    simp only []
    replace HT := hide ((HT.out.alloc (.cells #[.slice C3 m q3] 24)).and (stay_blk (Blk.new w6 24 #[.slice C3 m q3])))
    clear zb zbx
    have zb := HT.out.now.1.1.1.1.1.1.1.2.cell 0
    have zbx := HT.out.now.1.1.2.cell 0
    have zby := HT.out.now.2.cell 0
    go_wp2_with fail
    go_at_call 11
    refine (HFR.out _ _ _ HT.out.now.1.1.1.1.1.1.1.1).mono ?_
    rintro e w7 ⟨rfl, hb⟩
    replace HT := hide (HT.out.step hb)
    clear hb
    clear zb zbx zby
    have zb := HT.out.now.1.1.1.1.1.1.1.2.cell 0
    have zbx := HT.out.now.1.1.2.cell 0
    have zby := HT.out.now.2.cell 0
    simp only []
    go_wp2_with fail
    go_at_call 12
    refine (HI.out _ _ _ _ _ HT.out.now.1.1.1.2 HT.out.now.1.2).mono ?_
    rintro e w8 ⟨rfl, z8, hz8⟩
    have hb := hide (show Below w7.heap.size w7 w8 from by rw [hz8]; exact below_drewN (Below.refl _ _) _)
    clear hz8
    replace HT := hide (HT.out.step hb.out)
    clear hb
    clear zb zbx zby
    have zb := HT.out.now.1.1.1.1.1.1.1.2.cell 0
    have zbx := HT.out.now.1.1.2.cell 0
    have zby := HT.out.now.2.cell 0
    simp only []
    go_wp2_with fail
    go_at_call 13
    refine (HBE.out _ HT.out.now.1.1.1.1.1.1.1.1).mono ?_
    rintro e w9 ⟨rfl, hb⟩
    replace HT := hide (HT.out.step hb)
    clear hb
    clear zb zbx zby
    have zb := HT.out.now.1.1.1.1.1.1.1.2.cell 0
    have zbx := HT.out.now.1.1.2.cell 0
    have zby := HT.out.now.2.cell 0
    simp only []
    go_wp2
    go_ret
    exact ⟨rfl, HT.out.now.1.1.1.1.1.2⟩
theorem BeamTexts_lawP (A : Option Addr) (c : Nat) (l : List Int) (s : List UInt8) (mx : Int) (w : World) (hs : Sl w A (iv l)) (hm : w.cell? ⟨0, 0, none⟩ = some (.int .i64 mx)) :
    Calls Tryd.prog 3 #[.agg #[.slice A l.length c], .string ⟨s.toArray⟩] w fun e w' => e = .returned (.bool true) ∧ Below w.heap.size w w' :=
  BeamTexts_law A c l.length l s mx w rfl hs hm
end Go.Proofs.YtamkannjdbodpaaDoor
