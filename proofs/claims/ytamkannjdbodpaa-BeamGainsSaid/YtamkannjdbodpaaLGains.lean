import Derived.Test.YtamkannjdbodpaaGainsD
namespace Go.Proofs.Ytamkannjdbodpaa
open Go.RowKit Go.WideShapes Go.ChangeShapes

theorem BeamGains_many (A : Option Addr) (c n : Nat) (step : Int) (w : World) (hn : 10 < n) :
    Calls Try.prog 10 #[.agg #[.slice A n c], .int .i64 step] w fun e w' => e = .returned (.bool true) ∧ Below w.heap.size w w' := by
  have hd : decide ((n : Int) ≤ 10) = false := by simp; omega
  go_enter Try.func10, Try.ntmps10
  go_wp2_with (first
    | (go_at_call 18; go_must (refine (awake_ok _).mono ?_; rintro e w1 ⟨rfl, hb1⟩; have b1 : Below w.heap.size w w1 := Below.step (by go_grown) hb1; obtain ⟨hc1, hf1, y10⟩ := bloc1 w hb1 (by first | omega | (simp; done) | (simp; omega)); clear hb1; try simp only []))
    | (go_at_call 19; go_must (refine (antennas_law A _ c _).mono ?_; rintro e w2 ⟨rfl, hb2⟩; have b2 : Below w.heap.size w w2 := Below.step b1 hb2; obtain ⟨hc2, hf2, y20⟩ := bloc1 w hb2 (by first | omega | (simp; done) | (simp; omega)); clear hb2; try simp only [])))
  go_ret
  exact ⟨rfl, by go_grown⟩

theorem gainE_chk {l : List Int} {step : Int} (h : (chk l).2 ≠ 0) : gainE l step = (chk l).2 := by
  unfold gainE firstOf; rw [if_neg h]
theorem gainE_step {l : List Int} {step : Int} (h : (chk l).2 = 0) : gainE l step = unlessE (withinB step 0 7) 2 := by
  unfold gainE; rw [h, firstOf]; simp [firstOf]; intro h; exact h.symm

set_option maxRecDepth 100000 in
set_option maxHeartbeats 4000000 in
theorem BeamGains_A (A : Option Addr) (c : Nat) (l : List Int) (step : Int) (w : World) (hs : Sl w A (iv l)) (hn : l.length ≤ 10) (hc : (chk l).2 ≠ 0) :
    Calls Try.prog 10 #[.agg #[.slice A l.length c], .int .i64 step] w fun e w' => e = .returned (.bool true) ∧ Below w.heap.size w w' := by
  have hd : decide ((l.length : Int) ≤ 10) = true := by simp; omega
  have HS := hide hs; clear hs
  have hz1 : ∀ w, (binOp .eql 73 (.agg #[.int .i64 0, .int .i64 0, .int .i64 0, .int .i64 0]) (.agg #[.int .i64 0, .int .i64 0, .int .i64 0, .int .i64 0])).run Try.prog w = .ok (.bool true) w := num_eql 0 0 0 0 0 0 0 0
  have hz2 : ∀ w, (binOp .eql 42 (.agg #[.int .i64 0, .int .i64 0]) (.agg #[.int .i64 0, .int .i64 0])).run Try.prog w = .ok (.bool true) w := sq_eql 0 0 0 0
  have hg0 : gainE l step ≠ 0 := by rw [gainE_chk hc]; exact hc
  have hR := hide (show respR l step = ⟨0, 0, 0, 0⟩ from if_neg hg0)
  have HC := hide hc
  have hE0 := gainE_chk (step := step) hc
  obtain ⟨E, hC0⟩ : ∃ E, (chk l).2 = E := ⟨_, rfl⟩
  rw [hC0] at hE0 hc
  have hq1 : (E != 0) = true := by simp [hc]
  have hq2 : (E == E) = true := by simp
  have hC := hide hC0
  have hE := hide hE0
  clear hC0 hE0 hg0 hc
  go_enter Try.func10, Try.ntmps10
  go_wp2_with (first
      | (go_at_call 18; go_must (refine (awake_ok _).mono ?_; rintro e w1 ⟨rfl, hb1⟩; have b1 : Below w.heap.size w w1 := Below.step (by go_grown) hb1; obtain ⟨hc1, hf1, y10⟩ := bloc1 w hb1 (by first | omega | (simp; done) | (simp; omega)); clear hb1; try simp only []))
      | (go_at_call 19; go_must (refine (antennas_law A _ c _).mono ?_; rintro e w2 ⟨rfl, hb2⟩; have b2 : Below w.heap.size w w2 := Below.step b1 hb2; obtain ⟨hc2, hf2, y20⟩ := bloc1 w hb2 (by first | omega | (simp; done) | (simp; omega)); clear hb2; try simp only []))
      | (go_at_call 21; have z6 : World := w6; clear z6; go_must (refine (copy_ref A c l _ (HS.out.bel (by go_grown)) (by omega)).mono ?_; rintro e w3 ⟨A3, c3, rfl, hs3, hb3⟩; have HS3 := hide hs3; clear hs3; have b3 : Below w.heap.size w w3 := Below.step (by go_grown) hb3; obtain ⟨hc3, hf3, y30⟩ := bloc1 w hb3 (by first | omega | (simp; done) | (simp; omega)); obtain ⟨hc34, hf34, y34⟩ := bloc1 w4 hb3 (by first | omega | (simp; done) | (simp; omega)); obtain ⟨hc36, hf36, y36⟩ := bloc1 w6 hb3 (by first | omega | (simp; done) | (simp; omega)); clear hb3; try simp only []))
      | (go_at_call 21; have z4 : World := w4; clear z4; go_must (refine (copy_ref A c l _ (HS.out.bel (by go_grown)) (by omega)).mono ?_; rintro e w3 ⟨A3, c3, rfl, hs3, hb3⟩; have HS3 := hide hs3; clear hs3; have b3 : Below w.heap.size w w3 := Below.step (by go_grown) hb3; obtain ⟨hc3, hf3, y30⟩ := bloc1 w hb3 (by first | omega | (simp; done) | (simp; omega)); obtain ⟨hc34, hf34, y34⟩ := bloc1 w4 hb3 (by first | omega | (simp; done) | (simp; omega)); clear hb3; try simp only []))
      | (go_at_call 21; go_must (refine (copy_ref A c l _ (HS.out.bel (by go_grown)) (by omega)).mono ?_; rintro e w3 ⟨A3, c3, rfl, hs3, hb3⟩; have HS3 := hide hs3; clear hs3; have b3 : Below w.heap.size w w3 := Below.step (by go_grown) hb3; obtain ⟨hc3, hf3, y30⟩ := bloc1 w hb3 (by first | omega | (simp; done) | (simp; omega)); clear hb3; try simp only []))
      | (go_at_call 46; go_must (refine (responseOf_beam A3 c3 l step _ HS3.out (by omega)).mono ?_; rintro e w4 ⟨rfl, hb4⟩; rw [hE.out, hR.out]; simp only [Q4.cells]; have b4 : Below w.heap.size w w4 := Below.step (by go_grown) hb4; obtain ⟨hc4, hf4, y40⟩ := bloc1 w hb4 (by first | omega | (simp; done) | (simp; omega)); clear hb4; try simp only []))
      | (go_at_call 30; go_must (refine (gainOf_beam A3 c3 l step _ HS3.out (by omega)).mono ?_; rintro e w6 ⟨rfl, hb6⟩; rw [hE.out, hR.out, show (⟨0, 0, 0, 0⟩ : Q4).P = 0 from rfl, show (⟨0, 0, 0, 0⟩ : Q4).Q = 0 from rfl]; have b6 : Below w.heap.size w w6 := Below.step (by go_grown) hb6; obtain ⟨hc6, hf6, y60⟩ := bloc1 w hb6 (by first | omega | (simp; done) | (simp; omega)); obtain ⟨hc64, hf64, y64⟩ := bloc1 w4 hb6 (by first | omega | (simp; done) | (simp; omega)); clear hb6; try simp only []))
      | (go_at_call 47; go_must (refine (nulls_bad A3 c3 l _ HS3.out (by omega) HC.out).mono ?_; rintro e w8 ⟨rfl, hb8⟩; rw [hC.out]; have b8 : Below w.heap.size w w8 := Below.step (by go_grown) hb8; obtain ⟨hc8, hf8, y80⟩ := bloc1 w hb8 (by first | omega | (simp; done) | (simp; omega)); obtain ⟨hc84, hf84, y84⟩ := bloc1 w4 hb8 (by first | omega | (simp; done) | (simp; omega)); obtain ⟨hc86, hf86, y86⟩ := bloc1 w6 hb8 (by first | omega | (simp; done) | (simp; omega)); clear hb8; try simp only []))
      | (go_at_call 28; go_must (refine (beamErr_ref A c l _ (HS.out.bel (by go_grown)) (by omega)).mono ?_; rintro e w9 ⟨rfl, hb9⟩; rw [hC.out]; have b98 : Below w8.heap.size w8 w9 := Below.step (by go_grown) hb9; have b9 : Below w.heap.size w w9 := Below.step (by go_grown) hb9; obtain ⟨hc9, hf9, y90⟩ := bloc1 w hb9 (by first | omega | (simp; done) | (simp; omega)); obtain ⟨hc94, hf94, y94⟩ := bloc1 w4 hb9 (by first | omega | (simp; done) | (simp; omega)); obtain ⟨hc96, hf96, y96⟩ := bloc1 w6 hb9 (by first | omega | (simp; done) | (simp; omega)); clear hb9; try simp only [])))
  go_ret
  exact ⟨rfl, by go_grown⟩

set_option maxRecDepth 100000 in
set_option maxHeartbeats 4000000 in
theorem BeamGains_B (A : Option Addr) (c : Nat) (l : List Int) (step : Int) (w : World) (hs : Sl w A (iv l)) (hn : l.length ≤ 10) (hc : (chk l).2 = 0) (hst : withinB step 0 7 = false) :
    Calls Try.prog 10 #[.agg #[.slice A l.length c], .int .i64 step] w fun e w' => e = .returned (.bool true) ∧ Below w.heap.size w w' := by
  have hd : decide ((l.length : Int) ≤ 10) = true := by simp; omega
  have HS := hide hs; clear hs
  have hz1 : ∀ w, (binOp .eql 73 (.agg #[.int .i64 0, .int .i64 0, .int .i64 0, .int .i64 0]) (.agg #[.int .i64 0, .int .i64 0, .int .i64 0, .int .i64 0])).run Try.prog w = .ok (.bool true) w := num_eql 0 0 0 0 0 0 0 0
  have hz2 : ∀ w, (binOp .eql 42 (.agg #[.int .i64 0, .int .i64 0]) (.agg #[.int .i64 0, .int .i64 0])).run Try.prog w = .ok (.bool true) w := sq_eql 0 0 0 0
  have hE0 : gainE l step = 2 := by rw [gainE_step hc, hst]; rfl
  have hR := hide (show respR l step = ⟨0, 0, 0, 0⟩ from if_neg (by rw [hE0]; decide))
  have hE := hide hE0
  have HC := hide hc
  have hC := hide hc
  have hS := hide (show unlessE (withinB step 0 7) 2 = 2 by rw [hst]; rfl)
  obtain ⟨_, _, hok, _⟩ := chk_ok l hc
  have HOK := hide hok
  have hnl := nullsL_len l 8
  clear hok hE0 hc hst
  go_enter Try.func10, Try.ntmps10
  go_wp2_with (first
      | (go_at_call 18; go_must (refine (awake_ok _).mono ?_; rintro e w1 ⟨rfl, hb1⟩; have b1 : Below w.heap.size w w1 := Below.step (by go_grown) hb1; obtain ⟨hc1, hf1, y10⟩ := bloc1 w hb1 (by first | omega | (simp; done) | (simp; omega)); clear hb1; try simp only []))
      | (go_at_call 19; go_must (refine (antennas_law A _ c _).mono ?_; rintro e w2 ⟨rfl, hb2⟩; have b2 : Below w.heap.size w w2 := Below.step b1 hb2; obtain ⟨hc2, hf2, y20⟩ := bloc1 w hb2 (by first | omega | (simp; done) | (simp; omega)); clear hb2; try simp only []))
      | (go_at_call 21; have z6 : World := w6; clear z6; go_must (refine (copy_ref A c l _ (HS.out.bel (by go_grown)) (by omega)).mono ?_; rintro e w3 ⟨A3, c3, rfl, hs3, hb3⟩; have HS3 := hide hs3; clear hs3; have b3 : Below w.heap.size w w3 := Below.step (by go_grown) hb3; obtain ⟨hc3, hf3, y30⟩ := bloc1 w hb3 (by first | omega | (simp; done) | (simp; omega)); obtain ⟨hc34, hf34, y34⟩ := bloc1 w4 hb3 (by first | omega | (simp; done) | (simp; omega)); obtain ⟨hc36, hf36, y36⟩ := bloc1 w6 hb3 (by first | omega | (simp; done) | (simp; omega)); clear hb3; try simp only []))
      | (go_at_call 21; have z4 : World := w4; clear z4; go_must (refine (copy_ref A c l _ (HS.out.bel (by go_grown)) (by omega)).mono ?_; rintro e w3 ⟨A3, c3, rfl, hs3, hb3⟩; have HS3 := hide hs3; clear hs3; have b3 : Below w.heap.size w w3 := Below.step (by go_grown) hb3; obtain ⟨hc3, hf3, y30⟩ := bloc1 w hb3 (by first | omega | (simp; done) | (simp; omega)); obtain ⟨hc34, hf34, y34⟩ := bloc1 w4 hb3 (by first | omega | (simp; done) | (simp; omega)); clear hb3; try simp only []))
      | (go_at_call 21; go_must (refine (copy_ref A c l _ (HS.out.bel (by go_grown)) (by omega)).mono ?_; rintro e w3 ⟨A3, c3, rfl, hs3, hb3⟩; have HS3 := hide hs3; clear hs3; have b3 : Below w.heap.size w w3 := Below.step (by go_grown) hb3; obtain ⟨hc3, hf3, y30⟩ := bloc1 w hb3 (by first | omega | (simp; done) | (simp; omega)); clear hb3; try simp only []))
      | (go_at_call 46; go_must (refine (responseOf_beam A3 c3 l step _ HS3.out (by omega)).mono ?_; rintro e w4 ⟨rfl, hb4⟩; rw [hE.out, hR.out]; simp only [Q4.cells]; have b4 : Below w.heap.size w w4 := Below.step (by go_grown) hb4; obtain ⟨hc4, hf4, y40⟩ := bloc1 w hb4 (by first | omega | (simp; done) | (simp; omega)); clear hb4; try simp only []))
      | (go_at_call 30; go_must (refine (gainOf_beam A3 c3 l step _ HS3.out (by omega)).mono ?_; rintro e w6 ⟨rfl, hb6⟩; rw [hE.out, hR.out, show (⟨0, 0, 0, 0⟩ : Q4).P = 0 from rfl, show (⟨0, 0, 0, 0⟩ : Q4).Q = 0 from rfl]; have b6 : Below w.heap.size w w6 := Below.step (by go_grown) hb6; obtain ⟨hc6, hf6, y60⟩ := bloc1 w hb6 (by first | omega | (simp; done) | (simp; omega)); obtain ⟨hc64, hf64, y64⟩ := bloc1 w4 hb6 (by first | omega | (simp; done) | (simp; omega)); clear hb6; try simp only []))
      | (go_at_call 47; go_must (refine (nulls_beam A3 c3 l _ HS3.out (by omega) HC.out).mono ?_; rintro e w8 ⟨A8, c8, rfl, ho8, hb8⟩; have HS8 := hide (Sl.of_own ho8); clear ho8; have b8 : Below w.heap.size w w8 := Below.step (by go_grown) hb8; obtain ⟨hc8, hf8, y80⟩ := bloc1 w hb8 (by first | omega | (simp; done) | (simp; omega)); obtain ⟨hc84, hf84, y84⟩ := bloc1 w4 hb8 (by first | omega | (simp; done) | (simp; omega)); obtain ⟨hc86, hf86, y86⟩ := bloc1 w6 hb8 (by first | omega | (simp; done) | (simp; omega)); clear hb8; try simp only []))
      | (go_at_call 28; go_must (refine (beamErr_ref A c l _ (HS.out.bel (by go_grown)) (by omega)).mono ?_; rintro e w9 ⟨rfl, hb9⟩; rw [hC.out]; have b98 : Below w8.heap.size w8 w9 := Below.step (by go_grown) hb9; have b9 : Below w.heap.size w w9 := Below.step (by go_grown) hb9; obtain ⟨hc9, hf9, y90⟩ := bloc1 w hb9 (by first | omega | (simp; done) | (simp; omega)); obtain ⟨hc94, hf94, y94⟩ := bloc1 w4 hb9 (by first | omega | (simp; done) | (simp; omega)); obtain ⟨hc96, hf96, y96⟩ := bloc1 w6 hb9 (by first | omega | (simp; done) | (simp; omega)); clear hb9; try simp only []))
      | (go_at_call 48; go_must (refine (nulls_ref A c l _ (HS.out.bel (by go_grown)) (by omega) HOK.out).mono ?_; rintro e w10 ⟨A10, c10, rfl, ho10, hb10⟩; have HS10 := hide (Sl.of_own ho10); clear ho10; have b108 : Below w8.heap.size w8 w10 := Below.step (by go_grown) hb10; have b10 : Below w.heap.size w w10 := Below.step (by go_grown) hb10; obtain ⟨hc10, hf10, y100⟩ := bloc1 w hb10 (by first | omega | (simp; done) | (simp; omega)); obtain ⟨hc104, hf104, y104⟩ := bloc1 w4 hb10 (by first | omega | (simp; done) | (simp; omega)); obtain ⟨hc106, hf106, y106⟩ := bloc1 w6 hb10 (by first | omega | (simp; done) | (simp; omega)); clear hb10; try simp only []))
      | (go_at_call 26; go_must (refine (ints_same A8 A10 c8 c10 (nullsL l 8).length (nullsL l 8) _ (HS8.out.bel (by go_grown)) (HS10.out.bel (by go_grown)) rfl (by omega)).mono ?_; rintro e w' ⟨rfl, n11, rfl⟩; try simp only []))
      | (go_at_call 25; refine (stepErr_ref _ _).mono ?_; rintro e w' ⟨rfl, rfl⟩; rw [hS.out]; simp only []))
  go_ret
  exact ⟨rfl, by first | exact below_drewN b10 _ | go_grown⟩

set_option maxRecDepth 100000 in
set_option maxHeartbeats 4000000 in
theorem BeamGains_C (A : Option Addr) (c : Nat) (l : List Int) (step : Int) (w : World) (hs : Sl w A (iv l)) (hn : l.length ≤ 10) (hc : (chk l).2 = 0) (hst : withinB step 0 7 = true) :
    Calls Try.prog 10 #[.agg #[.slice A l.length c], .int .i64 step] w fun e w' => e = .returned (.bool true) ∧ Below w.heap.size w w' := by
  have hd : decide ((l.length : Int) ≤ 10) = true := by simp; omega
  have HS := hide hs; clear hs
  have hz1 : ∀ w, (binOp .eql 73 (.agg #[.int .i64 0, .int .i64 0, .int .i64 0, .int .i64 0]) (.agg #[.int .i64 0, .int .i64 0, .int .i64 0, .int .i64 0])).run Try.prog w = .ok (.bool true) w := num_eql 0 0 0 0 0 0 0 0
  have hz2 : ∀ w, (binOp .eql 42 (.agg #[.int .i64 0, .int .i64 0]) (.agg #[.int .i64 0, .int .i64 0])).run Try.prog w = .ok (.bool true) w := sq_eql 0 0 0 0
  have hE0 : gainE l step = 0 := by rw [gainE_step hc, hst]; rfl
  have hR0 : respR l step = resp l step := if_pos hE0
  obtain ⟨_, hl8, hok, _⟩ := chk_ok l hc
  have hle := hide ((respS_le step (onUpto l l.length)).mono (m' := 1000000000) (by have := onUpto_len l l.length; omega))
  have hle2 : Hid ((resp l step).le 1000000000) := hle
  clear hle
  obtain ⟨s0, s7⟩ : 0 ≤ step ∧ step ≤ 7 := by simpa [withinB] using hst
  have hS := hide (show unlessE (withinB step 0 7) 2 = 0 by rw [hst]; rfl)
  obtain ⟨X, hX⟩ : ∃ X, resp l step = X := ⟨_, rfl⟩
  rw [hX] at hR0 hle2
  have HX := hide hX
  have hR := hide hR0
  have hE := hide hE0
  have HC := hide hc
  have hC := hide hc
  have HOK := hide hok
  have hnl := nullsL_len l 8
  have hq1 : ∀ w, (binOp .eql 73 (.agg #[.int .i64 X.a, .int .i64 X.b, .int .i64 X.c, .int .i64 X.d]) (.agg #[.int .i64 X.a, .int .i64 X.b, .int .i64 X.c, .int .i64 X.d])).run Try.prog w = .ok (.bool true) w := fun w => (num_eql _ _ _ _ _ _ _ _ w).trans (by simp)
  have hq2 : ∀ w, (binOp .eql 42 (.agg #[.int .i64 X.P, .int .i64 X.Q]) (.agg #[.int .i64 X.P, .int .i64 X.Q])).run Try.prog w = .ok (.bool true) w := fun w => (sq_eql _ _ _ _ w).trans (by simp)
  clear hok hE0 hc hst hX hR0
  go_enter Try.func10, Try.ntmps10
  go_wp2_with (first
      | (go_at_call 18; go_must (refine (awake_ok _).mono ?_; rintro e w1 ⟨rfl, hb1⟩; have b1 : Below w.heap.size w w1 := Below.step (by go_grown) hb1; obtain ⟨hc1, hf1, y10⟩ := bloc1 w hb1 (by first | omega | (simp; done) | (simp; omega)); clear hb1; try simp only []))
      | (go_at_call 19; go_must (refine (antennas_law A _ c _).mono ?_; rintro e w2 ⟨rfl, hb2⟩; have b2 : Below w.heap.size w w2 := Below.step b1 hb2; obtain ⟨hc2, hf2, y20⟩ := bloc1 w hb2 (by first | omega | (simp; done) | (simp; omega)); clear hb2; try simp only []))
      | (go_at_call 21; have z6 : World := w6; clear z6; go_must (refine (copy_ref A c l _ (HS.out.bel (by go_grown)) (by omega)).mono ?_; rintro e w3 ⟨A3, c3, rfl, hs3, hb3⟩; have HS3 := hide hs3; clear hs3; have b3 : Below w.heap.size w w3 := Below.step (by go_grown) hb3; obtain ⟨hc3, hf3, y30⟩ := bloc1 w hb3 (by first | omega | (simp; done) | (simp; omega)); obtain ⟨hc34, hf34, y34⟩ := bloc1 w4 hb3 (by first | omega | (simp; done) | (simp; omega)); obtain ⟨hc36, hf36, y36⟩ := bloc1 w6 hb3 (by first | omega | (simp; done) | (simp; omega)); clear hb3; try simp only []))
      | (go_at_call 21; have z4 : World := w4; clear z4; go_must (refine (copy_ref A c l _ (HS.out.bel (by go_grown)) (by omega)).mono ?_; rintro e w3 ⟨A3, c3, rfl, hs3, hb3⟩; have HS3 := hide hs3; clear hs3; have b3 : Below w.heap.size w w3 := Below.step (by go_grown) hb3; obtain ⟨hc3, hf3, y30⟩ := bloc1 w hb3 (by first | omega | (simp; done) | (simp; omega)); obtain ⟨hc34, hf34, y34⟩ := bloc1 w4 hb3 (by first | omega | (simp; done) | (simp; omega)); clear hb3; try simp only []))
      | (go_at_call 21; go_must (refine (copy_ref A c l _ (HS.out.bel (by go_grown)) (by omega)).mono ?_; rintro e w3 ⟨A3, c3, rfl, hs3, hb3⟩; have HS3 := hide hs3; clear hs3; have b3 : Below w.heap.size w w3 := Below.step (by go_grown) hb3; obtain ⟨hc3, hf3, y30⟩ := bloc1 w hb3 (by first | omega | (simp; done) | (simp; omega)); clear hb3; try simp only []))
      | (go_at_call 46; go_must (refine (responseOf_beam A3 c3 l step _ HS3.out (by omega)).mono ?_; rintro e w4 ⟨rfl, hb4⟩; rw [hE.out, hR.out]; simp only [Q4.cells]; have b4 : Below w.heap.size w w4 := Below.step (by go_grown) hb4; obtain ⟨hc4, hf4, y40⟩ := bloc1 w hb4 (by first | omega | (simp; done) | (simp; omega)); clear hb4; try simp only []))
      | (go_at_call 30; go_must (refine (gainOf_beam A3 c3 l step _ HS3.out (by omega)).mono ?_; rintro e w6 ⟨rfl, hb6⟩; rw [hE.out, hR.out]; have b6 : Below w.heap.size w w6 := Below.step (by go_grown) hb6; obtain ⟨hc6, hf6, y60⟩ := bloc1 w hb6 (by first | omega | (simp; done) | (simp; omega)); obtain ⟨hc64, hf64, y64⟩ := bloc1 w4 hb6 (by first | omega | (simp; done) | (simp; omega)); clear hb6; try simp only []))
      | (go_at_call 47; go_must (refine (nulls_beam A3 c3 l _ HS3.out (by omega) HC.out).mono ?_; rintro e w8 ⟨A8, c8, rfl, ho8, hb8⟩; have HS8 := hide (Sl.of_own ho8); clear ho8; have b8 : Below w.heap.size w w8 := Below.step (by go_grown) hb8; obtain ⟨hc8, hf8, y80⟩ := bloc1 w hb8 (by first | omega | (simp; done) | (simp; omega)); obtain ⟨hc84, hf84, y84⟩ := bloc1 w4 hb8 (by first | omega | (simp; done) | (simp; omega)); obtain ⟨hc86, hf86, y86⟩ := bloc1 w6 hb8 (by first | omega | (simp; done) | (simp; omega)); clear hb8; try simp only []))
      | (go_at_call 28; go_must (refine (beamErr_ref A c l _ (HS.out.bel (by go_grown)) (by omega)).mono ?_; rintro e w9 ⟨rfl, hb9⟩; rw [hC.out]; have b98 : Below w8.heap.size w8 w9 := Below.step (by go_grown) hb9; have b9 : Below w.heap.size w w9 := Below.step (by go_grown) hb9; obtain ⟨hc9, hf9, y90⟩ := bloc1 w hb9 (by first | omega | (simp; done) | (simp; omega)); obtain ⟨hc94, hf94, y94⟩ := bloc1 w4 hb9 (by first | omega | (simp; done) | (simp; omega)); obtain ⟨hc96, hf96, y96⟩ := bloc1 w6 hb9 (by first | omega | (simp; done) | (simp; omega)); clear hb9; try simp only []))
      | (go_at_call 48; go_must (refine (nulls_ref A c l _ (HS.out.bel (by go_grown)) (by omega) HOK.out).mono ?_; rintro e w10 ⟨A10, c10, rfl, ho10, hb10⟩; have HS10 := hide (Sl.of_own ho10); clear ho10; have b108 : Below w8.heap.size w8 w10 := Below.step (by go_grown) hb10; have b10 : Below w.heap.size w w10 := Below.step (by go_grown) hb10; obtain ⟨hc10, hf10, y100⟩ := bloc1 w hb10 (by first | omega | (simp; done) | (simp; omega)); obtain ⟨hc104, hf104, y104⟩ := bloc1 w4 hb10 (by first | omega | (simp; done) | (simp; omega)); obtain ⟨hc106, hf106, y106⟩ := bloc1 w6 hb10 (by first | omega | (simp; done) | (simp; omega)); clear hb10; try simp only []))
      | (go_at_call 26; go_must (refine (ints_same A8 A10 c8 c10 (nullsL l 8).length (nullsL l 8) _ (HS8.out.bel (by go_grown)) (HS10.out.bel (by go_grown)) rfl (by omega)).mono ?_; rintro e w' ⟨rfl, n11, rfl⟩; try simp only []))
      | (go_at_call 25; refine (stepErr_ref _ _).mono ?_; rintro e w' ⟨rfl, rfl⟩; rw [hS.out]; simp only [])
      | (go_at_call 49; go_must (refine (responseOf_ref A c l step _ ((HS.out.bel b10).drewN _) (by omega) HOK.out s0 s7).mono ?_; rw [HX.out]; rintro e w12 ⟨rfl, hb12⟩; simp only [Q4.cells]; have b12 : Below w.heap.size w w12 := Below.step (below_drewN b10 _) hb12; obtain ⟨hc12, hf12, y120⟩ := bloc1 w hb12 (by first | omega | (simp; done) | (simp; omega)); obtain ⟨hc124, hf124, y124⟩ := bloc1 w4 hb12 (by first | omega | (simp; done) | (simp; omega)); obtain ⟨hc126, hf126, y126⟩ := bloc1 w6 hb12 (by first | omega | (simp; done) | (simp; omega)); clear hb12; try simp only [])))
  go_region_with
    (first
      | (go_at_call 50; go_must (refine (squareOf_ref X hle2.out _).mono ?_; rintro e w13 ⟨rfl, hb13⟩; have b13 : Below w.heap.size w w13 := Below.step (by go_grown) hb13; obtain ⟨hc13, hf13, y130⟩ := bloc1 w hb13 (by first | omega | (simp; done) | (simp; omega)); obtain ⟨hc134, hf134, y134⟩ := bloc1 w4 hb13 (by first | omega | (simp; done) | (simp; omega)); obtain ⟨hc136, hf136, y136⟩ := bloc1 w6 hb13 (by first | omega | (simp; done) | (simp; omega)); clear hb13)))
  all_goals
    go_wp2
    go_ret
    exact ⟨rfl, by go_grown⟩

theorem BeamGains_law (A : Option Addr) (c : Nat) (l : List Int) (step : Int) (w : World) (hs : Sl w A (iv l)) :
    Calls Try.prog 10 #[.agg #[.slice A l.length c], .int .i64 step] w fun e w' => e = .returned (.bool true) ∧ Below w.heap.size w w' := by
  rcases Nat.lt_or_ge 10 l.length with h | h
  · exact BeamGains_many A c _ step w h
  · by_cases hc : (chk l).2 = 0
    · cases hst : withinB step 0 7
      · exact BeamGains_B A c l step w hs h hc hst
      · exact BeamGains_C A c l step w hs h hc hst
    · exact BeamGains_A A c l step w hs h hc
end Go.Proofs.Ytamkannjdbodpaa
