import Derived.Test.YtamkannjdbodpaaLawA
namespace Go.Proofs.Ytamkannjdbodpaa
open Go.RowKit Go.WideShapes Go.ChangeShapes

theorem BeamBeams_many (A : Option Addr) (c n : Nat) (count step : Int) (w : World) (hn : 10 < n) :
    Calls Try.prog 3 #[.agg #[.slice A n c], .int .i64 count, .int .i64 step] w fun e w' => e = .returned (.bool true) ∧ Below w.heap.size w w' := by
  have hd : decide ((n : Int) ≤ 10) = false := by simp; omega
  go_enter Try.func3, Try.ntmps3
  go_wp2_with (first
    | (go_at_call 18; go_must (refine (awake_ok _).mono ?_; rintro e w1 ⟨rfl, hb1⟩; have b1 : Below w.heap.size w w1 := Below.step (by go_grown) hb1; obtain ⟨hc1, hf1, y10⟩ := bloc1 w hb1 (by first | omega | (simp; done) | (simp; omega)); simp only []))
    | (go_at_call 19; go_must (refine (antennas_law A n c _).mono ?_; rintro e w2 ⟨rfl, hb2⟩; have b2 : Below w.heap.size w w2 := Below.step b1 hb2; simp only [])))
  go_ret
  exact ⟨rfl, by go_grown⟩

set_option maxRecDepth 100000 in
set_option maxHeartbeats 2000000 in
theorem BeamBeams_few (A : Option Addr) (c : Nat) (l : List Int) (count step : Int) (w : World) (hs : Sl w A (iv l)) (hn : l.length ≤ 10) :
    Calls Try.prog 3 #[.agg #[.slice A l.length c], .int .i64 count, .int .i64 step] w fun e w' => e = .returned (.bool true) ∧ Below w.heap.size w w' := by
  have hd : decide ((l.length : Int) ≤ 10) = true := by simp; omega
  have HS := hide hs; clear hs
  by_cases hok : steE count step = 0
  · obtain ⟨k1, k2, k3, k4⟩ := steE_ok hok
    obtain ⟨n, rfl⟩ := Int.eq_ofNat_of_zero_le (by omega : 0 ≤ count)
    have hw1 : withinB (n : Int) 1 8 = true := by simp [withinB]; omega
    have hw2 : (unlessE (withinB step 0 7) 2 != 0) = false := by simp [unlessE, withinB, k3, k4]
    have hie := hide (intsEq_self (steerL step 1 n))
    have OK := hide hok; clear hok
    go_enter Try.func3, Try.ntmps3
    go_wp2_with (first
      | (go_at_call 18; go_must (refine (awake_ok _).mono ?_; rintro e w1 ⟨rfl, hb1⟩; have b1 : Below w.heap.size w w1 := Below.step (by go_grown) hb1; obtain ⟨hc1, hf1, y10⟩ := bloc1 w hb1 (by first | omega | (simp; done) | (simp; omega)); clear hb1; simp only []))
      | (go_at_call 19; go_must (refine (antennas_law A _ c _).mono ?_; rintro e w2 ⟨rfl, hb2⟩; have b2 : Below w.heap.size w w2 := Below.step b1 hb2; obtain ⟨hc2, hf2, y20⟩ := bloc1 w hb2 (by first | omega | (simp; done) | (simp; omega)); clear hb2; simp only []))
      | (go_at_call 21; go_must (refine (copy_ref A c l _ (HS.out.bel b2) (by omega)).mono ?_; rintro e w3 ⟨A3, c3, rfl, hs3, hb3⟩; have HS3 := hide hs3; clear hs3; have b3 : Below w.heap.size w w3 := Below.step b2 hb3; obtain ⟨hc3, hf3, y30⟩ := bloc1 w hb3 (by first | omega | (simp; done) | (simp; omega)); clear hb3; simp only []))
      | (go_at_call 20; go_must (refine (checkBeam_beam A3 c3 l _ HS3.out (by omega)).mono ?_; rintro e w4 ⟨rfl, hb4⟩; have b4 : Below w.heap.size w w4 := Below.step b3 hb4; obtain ⟨hc4, hf4, y40⟩ := bloc1 w hb4 (by first | omega | (simp; done) | (simp; omega)); clear hb4; simp only []))
      | (go_at_call 22; go_must (refine (Steering_ok n step _ OK.out).mono ?_; rw [Int.toNat_natCast]; rintro e w5 ⟨A5, c5, rfl, ho5, hb5⟩; rw [OwnI, steerL_len] at ho5; have HS5 := hide (Sl.of_own ho5); clear ho5; have b5 : Below w.heap.size w w5 := Below.step b4 hb5; obtain ⟨hc5, hf5, y50⟩ := bloc1 w hb5 (by first | omega | (simp; done) | (simp; omega)); clear hb5; simp only []))
      | (go_at_call 23; go_must (refine (checkBeam_ref A c l _ (HS.out.bel (by go_grown)) (by omega)).mono ?_; rintro e w6 ⟨rfl, hb6⟩; have b6 : Below w5.heap.size w5 w6 := Below.step (by go_grown) hb6; obtain ⟨hc6, hf6, y60⟩ := bloc1 w5 hb6 (by first | omega | (simp; done) | (simp; omega)); clear hb6; simp only []))
      | (go_at_call 24; refine (within_base _ _ _ _).mono ?_; rintro e w' ⟨rfl, rfl⟩; simp only [])
      | (go_at_call 25; refine (stepErr_ref _ _).mono ?_; rintro e w' ⟨rfl, rfl⟩; simp only []))
    have hfd := fun A => field_beam A n
    go_region_held3 (fun w' => w'.cell? ⟨w5.heap.size, 0, none⟩ = some (.slice A5 n c5)) (first | (simp [go_sem]; done) | (simp [go_sem, *]; done) | go_keep)
      (first
        | (go_at_call 27; go_must (refine (steering_ref n step _ (by omega) (by omega) (by omega)).mono ?_; rintro e w7 ⟨A7, c7, rfl, ho7, hb7⟩; rw [OwnI, steerL_len] at ho7; have HS7 := hide (Sl.of_own ho7); clear ho7; have b7 : Below w5.heap.size w5 w7 := Below.step (by go_grown) hb7; obtain ⟨hc7, hf7, y70⟩ := bloc1 w5 hb7 (by first | omega | (simp; done) | (simp; omega))))
        | (go_at_call 26; go_must (refine (ints_same A5 A7 c5 c7 n (steerL step 1 n) _ (HS5.out.bel (by go_grown)) (HS7.out.bel (by go_grown)) (steerL_len _ _ _) (by omega)).mono ?_; rintro e w' ⟨rfl, n8, rfl⟩)))
    all_goals
      go_wp2
      go_ret
      exact ⟨rfl, below_drewN (Below.step b5 b7) _⟩
  · have OK := hide hok
    cases hw1 : withinB count 1 8
    · clear hok
      go_enter Try.func3, Try.ntmps3
      go_wp2_with (first
        | (go_at_call 18; go_must (refine (awake_ok _).mono ?_; rintro e w1 ⟨rfl, hb1⟩; have b1 : Below w.heap.size w w1 := Below.step (by go_grown) hb1; obtain ⟨hc1, hf1, y10⟩ := bloc1 w hb1 (by first | omega | (simp; done) | (simp; omega)); clear hb1; simp only []))
        | (go_at_call 19; go_must (refine (antennas_law A _ c _).mono ?_; rintro e w2 ⟨rfl, hb2⟩; have b2 : Below w.heap.size w w2 := Below.step b1 hb2; obtain ⟨hc2, hf2, y20⟩ := bloc1 w hb2 (by first | omega | (simp; done) | (simp; omega)); clear hb2; simp only []))
        | (go_at_call 21; go_must (refine (copy_ref A c l _ (HS.out.bel b2) (by omega)).mono ?_; rintro e w3 ⟨A3, c3, rfl, hs3, hb3⟩; have HS3 := hide hs3; clear hs3; have b3 : Below w.heap.size w w3 := Below.step b2 hb3; obtain ⟨hc3, hf3, y30⟩ := bloc1 w hb3 (by first | omega | (simp; done) | (simp; omega)); clear hb3; simp only []))
        | (go_at_call 20; go_must (refine (checkBeam_beam A3 c3 l _ HS3.out (by omega)).mono ?_; rintro e w4 ⟨rfl, hb4⟩; have b4 : Below w.heap.size w w4 := Below.step b3 hb4; obtain ⟨hc4, hf4, y40⟩ := bloc1 w hb4 (by first | omega | (simp; done) | (simp; omega)); clear hb4; simp only []))
        | (go_at_call 22; go_must (refine (Steering_bad count step _ OK.out).mono ?_; rintro e w5 ⟨rfl, hb5⟩; have b5 : Below w.heap.size w w5 := Below.step b4 hb5; obtain ⟨hc5, hf5, y50⟩ := bloc1 w hb5 (by first | omega | (simp; done) | (simp; omega)); clear hb5; simp only []))
        | (go_at_call 23; go_must (refine (checkBeam_ref A c l _ (HS.out.bel (by go_grown)) (by omega)).mono ?_; rintro e w6 ⟨rfl, hb6⟩; have b6 : Below w5.heap.size w5 w6 := Below.step (by go_grown) hb6; obtain ⟨hc6, hf6, y60⟩ := bloc1 w5 hb6 (by first | omega | (simp; done) | (simp; omega)); clear hb6; simp only []))
        | (go_at_call 24; refine (within_base _ _ _ _).mono ?_; rintro e w' ⟨rfl, rfl⟩; simp only [])
        | (go_at_call 25; refine (stepErr_ref _ _).mono ?_; rintro e w' ⟨rfl, rfl⟩; simp only []))
      go_ret
      exact ⟨rfl, Below.step b5 b6⟩
    · have hw2 : (unlessE (withinB step 0 7) 2 != 0) = true := by
        cases hx : withinB step 0 7
        · rfl
        · exact absurd (by simp [steE, firstOf, unlessE, hw1, hx]) hok
      clear hok
      go_enter Try.func3, Try.ntmps3
      go_wp2_with (first
        | (go_at_call 18; go_must (refine (awake_ok _).mono ?_; rintro e w1 ⟨rfl, hb1⟩; have b1 : Below w.heap.size w w1 := Below.step (by go_grown) hb1; obtain ⟨hc1, hf1, y10⟩ := bloc1 w hb1 (by first | omega | (simp; done) | (simp; omega)); clear hb1; simp only []))
        | (go_at_call 19; go_must (refine (antennas_law A _ c _).mono ?_; rintro e w2 ⟨rfl, hb2⟩; have b2 : Below w.heap.size w w2 := Below.step b1 hb2; obtain ⟨hc2, hf2, y20⟩ := bloc1 w hb2 (by first | omega | (simp; done) | (simp; omega)); clear hb2; simp only []))
        | (go_at_call 21; go_must (refine (copy_ref A c l _ (HS.out.bel b2) (by omega)).mono ?_; rintro e w3 ⟨A3, c3, rfl, hs3, hb3⟩; have HS3 := hide hs3; clear hs3; have b3 : Below w.heap.size w w3 := Below.step b2 hb3; obtain ⟨hc3, hf3, y30⟩ := bloc1 w hb3 (by first | omega | (simp; done) | (simp; omega)); clear hb3; simp only []))
        | (go_at_call 20; go_must (refine (checkBeam_beam A3 c3 l _ HS3.out (by omega)).mono ?_; rintro e w4 ⟨rfl, hb4⟩; have b4 : Below w.heap.size w w4 := Below.step b3 hb4; obtain ⟨hc4, hf4, y40⟩ := bloc1 w hb4 (by first | omega | (simp; done) | (simp; omega)); clear hb4; simp only []))
        | (go_at_call 22; go_must (refine (Steering_bad count step _ OK.out).mono ?_; rintro e w5 ⟨rfl, hb5⟩; have b5 : Below w.heap.size w w5 := Below.step b4 hb5; obtain ⟨hc5, hf5, y50⟩ := bloc1 w hb5 (by first | omega | (simp; done) | (simp; omega)); clear hb5; simp only []))
        | (go_at_call 23; go_must (refine (checkBeam_ref A c l _ (HS.out.bel (by go_grown)) (by omega)).mono ?_; rintro e w6 ⟨rfl, hb6⟩; have b6 : Below w5.heap.size w5 w6 := Below.step (by go_grown) hb6; obtain ⟨hc6, hf6, y60⟩ := bloc1 w5 hb6 (by first | omega | (simp; done) | (simp; omega)); clear hb6; simp only []))
        | (go_at_call 24; refine (within_base _ _ _ _).mono ?_; rintro e w' ⟨rfl, rfl⟩; simp only [])
        | (go_at_call 25; refine (stepErr_ref _ _).mono ?_; rintro e w' ⟨rfl, rfl⟩; simp only []))
      go_ret
      exact ⟨rfl, Below.step b5 b6⟩
theorem BeamBeams_law (A : Option Addr) (c : Nat) (l : List Int) (count step : Int) (w : World) (hs : Sl w A (iv l)) :
    Calls Try.prog 3 #[.agg #[.slice A l.length c], .int .i64 count, .int .i64 step] w fun e w' => e = .returned (.bool true) ∧ Below w.heap.size w w' := by
  rcases Nat.lt_or_ge 10 l.length with h | h
  · exact BeamBeams_many A c _ count step w h
  · exact BeamBeams_few A c l count step w hs h
end Go.Proofs.Ytamkannjdbodpaa
