import Derived.Test.YthfmjohbokpceaaWvP
import Derived.Test.YthfmjohbokpceaaWvG
namespace Go.Proofs.Ythfmjohbokpceaa
open Go.RowKit Go.WideShapes Go.ChangeShapes

/-! the examples of the statements -/
theorem wn_under : Try.prog.underlying 38 = some (.struct (Try.prog.fieldsOf 38)) := by kernel_rfl
theorem wn_held : Try.prog.stoodInHeld 38 = false := by kernel_rfl
theorem nm_beq (x y : Nm) : (x.1 == y.1 && x.2.1 == y.2.1 && x.2.2.1 == y.2.2.1 && x.2.2.2 == y.2.2.2) = decide (x = y) := by
  obtain ⟨a, b, c, d⟩ := x
  obtain ⟨a', b', c', d'⟩ := y
  dsimp only
  by_cases h : (a, b, c, d) = (a', b', c', d')
  · rw [decide_eq_true h]
    injection h with h1 h
    injection h with h2 h
    injection h with h3 h4
    subst h1 h2 h3 h4
    simp
  · rw [decide_eq_false h]
    simp only [Bool.and_eq_false_iff, beq_eq_false_iff_ne]
    by_cases q1 : a = a'
    · by_cases q2 : b = b'
      · by_cases q3 : c = c'
        · by_cases q4 : d = d'
          · exact absurd (by rw [q1, q2, q3, q4]) h
          · exact .inr q4
        · exact .inl (.inr q3)
      · exact .inl (.inl (.inr q2))
    · exact .inl (.inl (.inl q1))
set_option maxRecDepth 100000 in
theorem wn_eql (x y : Nm) (w : World) : (binOp .eql 38 (nv x) (nv y)).run Try.prog w = .ok (.bool (decide (x = y))) w := by
  rw [← nm_beq, run_eql_struct, run_equalIn_agg (d := 9999) (ht := wn_under) (hp := wn_held)]
  simp [go_sem]
  (repeat' split) <;> simp_all
set_option maxRecDepth 100000 in
theorem wn_neq (x y : Nm) (w : World) : (binOp .neq 38 (nv x) (nv y)).run Try.prog w = .ok (.bool (!(decide (x = y)))) w := by
  rw [← nm_beq, run_neq_struct, run_equalIn_agg (d := 9999) (ht := wn_under) (hp := wn_held)]
  simp [go_sem]
  (repeat' split) <;> simp_all

set_option maxRecDepth 100000 in
set_option maxHeartbeats 4000000 in
theorem awake_ok (w : World) : Calls Try.prog 20 #[] w fun e w' => e = .returned (.bool true) ∧ Below w.heap.size w w' := by
  have t1 : trnV (0, 0, 0, 1) 1 = (-1, 0, 0, 0) ∧ trnE (0, 0, 0, 1) 1 = 0 := by decide
  have HT := hide (show ∀ W, Calls Try.prog 34 #[.agg #[.int .i64 0, .int .i64 0, .int .i64 0, .int .i64 1], .int .i64 1] W fun e w' => e = .returned (.tuple #[.agg #[.int .i64 (-1), .int .i64 0, .int .i64 0, .int .i64 0], .int .i64 0]) ∧ Below W.heap.size W w' from fun W => by
    have := turnedE_wave (0, 0, 0, 1) 1 W
    rw [t1.1, t1.2] at this
    exact this)
  have p1 : (pthV [(0, 1, 0), (1, 2, 0)]).2 = 0 := by decide
  have HR := hide (fun A c W k => responseOf_ok A c 2 [(0, 1, 0), (1, 2, 0)] W rfl k p1)
  have HSQ := hide (SequenceOf_ok 0 (by omega))
  have o1 : offE [(1, 0, 0, 0), (1, 0, 0, 0)] [(1, 0, 0, 0), (0, 0, 1, 0)] = 0 := by decide
  have o2 : (offSt [(1, 0, 0, 0), (1, 0, 0, 0)] [(1, 0, 0, 0), (0, 0, 1, 0)] 8).1 = 2 := by decide +kernel
  have HO := hide (fun A B c c' W k k' => offsetOf_ok A B c c' 2 [(1, 0, 0, 0), (1, 0, 0, 0)] [(1, 0, 0, 0), (0, 0, 1, 0)] W rfl k k' o1)
  rw [o2] at HO
  have hq1 := wn_eql (-1, 0, 0, 0) (-1, 0, 0, 0)
  have hq2 := wn_eql (1, 0, -2, 0) (1, 0, -2, 0)
  have HSZ := hide (numArr_size (rspL [(0, 1, 0), (1, 2, 0)] 8) 8 (by simp [rspL]))
  have HONE := hide (numArr_one (rspL [(0, 1, 0), (1, 2, 0)] 8) 8)
  have HC8 := hide (show (numArr (rspL [(0, 1, 0), (1, 2, 0)] 8) 8)[8]? = some (.int .i64 1) ∧ (numArr (rspL [(0, 1, 0), (1, 2, 0)] 8) 8)[9]? = some (.int .i64 0) ∧ (numArr (rspL [(0, 1, 0), (1, 2, 0)] 8) 8)[10]? = some (.int .i64 (-2)) ∧ (numArr (rspL [(0, 1, 0), (1, 2, 0)] 8) 8)[11]? = some (.int .i64 0) from ⟨by kernel_rfl, by kernel_rfl, by kernel_rfl, by kernel_rfl⟩)
  have HS0 := hide (show (iv (seqL 0))[0]? = some (.int .i64 (-1)) ∧ (iv (seqL 0))[1]? = some (.int .i64 1) from ⟨by kernel_rfl, by kernel_rfl⟩)
  obtain ⟨cs, hcs⟩ : ∃ cs, numArr (rspL [(0, 1, 0), (1, 2, 0)] 8) 8 = cs := ⟨_, rfl⟩
  rw [hcs] at HR HSZ HONE HC8
  clear t1 p1 o1 o2 hcs
  go_enter Try.func20, Try.ntmps20
  go_wp2_with (first
    | (go_at_call 34; go_must (refine (HT.out _).mono ?_; rintro e w1 ⟨rfl, hb1⟩; have b1 : Below w.heap.size w w1 := Below.step (by go_grown) hb1; have z1 := b1.size; have K1 := hide (Blk.new w1 38 (ncells (-1, 0, 0, 0))); clear hb1; simp only []))
    | (go_at_call 65; go_must (refine (HR.out _ _ _ (Sl.new _ (pvs [(0, 1, 0), (1, 2, 0)]) _ _ (by simp))).mono ?_; rintro e w2 ⟨rfl, hb2⟩; have b2 : Below w.heap.size w w2 := Below.step (by go_grown) hb2; have z2 := b2.size; have K2 := hide (Blk.bel2 hb2 (by exact K1.out.alloc _) (by simp <;> omega)); clear hb2; simp only []))
    | (refine wpList_store_row rfl 96 (.tmp 3) (.tmp 21) rfl w2.heap.size cs rfl rfl 96 (numArr [] 8) (Blk.new w2 _ _) (by rw [HSZ.out]; kernel_rfl) (by rw [HSZ.out]; kernel_rfl) HONE.out ?_)
    | (go_at_call 22; go_must (have k2l := K2.out.lt; have K3 := hide (show Blk ((w2.alloc (.cells (numArr [] 8) 96)).setRow w2.heap.size cs) w1.heap.size 38 (ncells (-1, 0, 0, 0)) from (K2.out.alloc _).rowFar (by omega) _); have N3 := hide (show Blk ((w2.alloc (.cells (numArr [] 8) 96)).setRow w2.heap.size cs) w2.heap.size 96 cs from (Blk.new w2 _ _).row cs); have B3 := hide (show Below w.heap.size w ((w2.alloc (.cells (numArr [] 8) 96)).setRow w2.heap.size cs) from Below.row (b2.alloc z2 _) z2 _); refine (HSQ.out _).mono ?_; rintro e w4 ⟨A4, c4, rfl, ho4, hb4⟩; have b4 : Below w.heap.size w w4 := Below.step (by exact B3.out) hb4; have K4 := hide (Blk.bel2 hb4 (by exact K3.out) (by simp; omega)); have N4 := hide (Blk.bel2 hb4 (by exact N3.out) (by simp)); have S4 := hide (Sl.of_ownN ho4); have z4 := b4.size; clear hb4 ho4; simp only []))
    | (go_at_call 50; go_must (refine (HO.out _ _ _ _ _ ((Sl.new w4 (nvs [(1, 0, 0, 0), (1, 0, 0, 0)]) _ _ rfl).alloc _) (Sl.new _ (nvs [(1, 0, 0, 0), (0, 0, 1, 0)]) _ _ (by simp))).mono ?_; rintro e w5 ⟨rfl, hb5⟩; have b5 : Below w4.heap.size w4 w5 := Below.step (by go_grown) hb5; have b5' : Below w.heap.size w w5 := Below.step b4 b5; have K5 := hide (K4.out.below b5 K4.out.lt); have N5 := hide (N4.out.below b5 N4.out.lt); have S5 := hide (S4.out.bel b5); obtain ⟨x0, x1, x2, x3, _, _, _, _⟩ := K5.out.n4; have y0 := (N5.out.cell 8).trans HC8.out.1; have y1 := (N5.out.cell 9).trans HC8.out.2.1; have y2 := (N5.out.cell 10).trans HC8.out.2.2.1; have y3 := (N5.out.cell 11).trans HC8.out.2.2.2; obtain ⟨sb, so, hA, s0⟩ := S5.out.val HS0.out.1; subst hA; have s00 : w5.cell? ⟨sb, so, none⟩ = some (.int .i64 (-1)) := s0; clear s0; have s1 := S5.out.one rfl HS0.out.2; clear hb5; simp only [])))
  go_ret
  exact ⟨rfl, b5'⟩
end Go.Proofs.Ythfmjohbokpceaa
