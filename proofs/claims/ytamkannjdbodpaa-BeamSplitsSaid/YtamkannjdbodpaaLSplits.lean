import Derived.Test.YtamkannjdbodpaaSplitC
namespace Go.Proofs.Ytamkannjdbodpaa
open Go.RowKit Go.WideShapes Go.ChangeShapes

theorem BeamSplits_many (A : Option Addr) (c n : Nat) (p m : Int) (w : World) (hn : 14 < n) :
    Calls Try.prog 8 #[.agg #[.int .i64 p, .int .i64 m], .slice A n c] w fun e w' => e = .returned (.bool true) ∧ Below w.heap.size w w' := by
  go_enter Try.func8, Try.ntmps8
  go_wp2_with (go_at_call 18; go_must (refine (awake_ok _).mono ?_; rintro e w1 ⟨rfl, hb1⟩; have b1 : Below w.heap.size w w1 := Below.step (by go_grown) hb1; obtain ⟨hc1, hf1, y10⟩ := bloc1 w hb1 (by first | omega | (simp; done) | (simp; omega)); simp only []))
  go_ret
  exact ⟨rfl, by go_grown⟩

set_option maxRecDepth 100000 in
set_option maxHeartbeats 4000000 in
theorem BeamSplits_few (A : Option Addr) (c : Nat) (l : List Int) (p m : Int) (w : World) (hs : Sl w A (iv l)) (hn : l.length ≤ 14) :
    Calls Try.prog 8 #[.agg #[.int .i64 p, .int .i64 m], .slice A l.length c] w fun e w' => e = .returned (.bool true) ∧ Below w.heap.size w w' := by
  have HS := hide hs; clear hs
  have e1 : (csE p m l != csE p m l) = false := by simp
  have e2 : (csV p m l != csV p m l) = false := by simp
  by_cases hok : spE p m l = 0
  · have hw2 : (spE p m l != 0) = false := by simp [hok]
    obtain ⟨⟨_, _, _, _, hl12⟩, _⟩ := spE_ok hok
    have OK := hide hok; clear hok
    have hlen : (splitL p m l).length = l.length := by rw [splitL, give_len]
    have HL := hide hlen; clear hlen
    go_enter Try.func8, Try.ntmps8
    go_wp2_with (go_at_call 18; go_must (refine (awake_ok _).mono ?_; rintro e w1 ⟨rfl, hb1⟩; have b1 : Below w.heap.size w w1 := Below.step (by go_grown) hb1; obtain ⟨hc1, hf1, y10⟩ := bloc1 w hb1 (by first | omega | (simp; done) | (simp; omega)); clear hb1; simp only []))
    go_region_held3 (fun w' => w'.cell? ⟨w.heap.size, 0, none⟩ = some (.int .i64 p) ∧ w'.cell? ⟨w.heap.size, 1, none⟩ = some (.int .i64 m)) (first | (simp [go_sem]; done) | (simp [go_sem, *]; done) | go_keep)
      (first
        | (go_at_call 41; go_must (refine (copyInts A c l _ (HS.out.bel (by go_grown)) (by omega)).mono ?_; rintro e w2 ⟨A2, c2, rfl, ho2, hb2⟩; have HS2 := hide (Sl.of_own ho2); clear ho2; have b2 : Below w.heap.size w w2 := Below.step (by go_grown) hb2; obtain ⟨hc2, hf2, y20⟩ := bloc1 w hb2 (by first | omega | (simp; done) | (simp; omega)); clear hb2))
        | (go_at_call 40; go_must (refine (checkSplit_beam A2 c2 l p m _ (HS2.out.bel (by go_grown)) (by omega)).mono ?_; rintro e w3 ⟨rfl, hb3⟩; have b3 : Below w.heap.size w w3 := Below.step (by go_grown) hb3; obtain ⟨hc3, hf3, y30⟩ := bloc1 w hb3 (by first | omega | (simp; done) | (simp; omega)); clear hb3)))
    go_wp2_with fail
    go_region_held3 (fun w' => w'.cell? ⟨w.heap.size, 0, none⟩ = some (.int .i64 p) ∧ w'.cell? ⟨w.heap.size, 1, none⟩ = some (.int .i64 m)) (first | (simp [go_sem]; done) | (simp [go_sem, *]; done) | go_keep)
      (first
        | (go_at_call 41; go_must (refine (copyInts A c l _ (HS.out.bel (by go_grown)) (by omega)).mono ?_; rintro e w4 ⟨A4, c4, rfl, ho4, hb4⟩; have HS4 := hide (Sl.of_own ho4); clear ho4; have b4 : Below w.heap.size w w4 := Below.step (by go_grown) hb4; obtain ⟨hc4, hf4, y40⟩ := bloc1 w hb4 (by first | omega | (simp; done) | (simp; omega)); clear hb4))
        | (go_at_call 42; go_must (refine (splitOf_ok A4 c4 l p m _ (HS4.out.bel (by go_grown)) (by omega) OK.out).mono ?_; rintro e w5 ⟨A5, c5, rfl, ho5, hb5⟩; have HS5 := hide (Sl.of_own ho5); clear ho5; have b5 : Below w.heap.size w w5 := Below.step (by go_grown) hb5; obtain ⟨hc5, hf5, y50⟩ := bloc1 w hb5 (by first | omega | (simp; done) | (simp; omega)); clear hb5)))
    go_wp2_with (first
      | (go_at_call 43; go_must (refine (checkSplit_ref A c l p m _ (HS.out.bel (by go_grown)) (by omega)).mono ?_; rintro e w6 ⟨rfl, hb6⟩; have b6 : Below w5.heap.size w5 w6 := Below.step (by go_grown) hb6; have b6' : Below w.heap.size w w6 := Below.step (by go_grown) hb6; obtain ⟨hc6, hf6, y60⟩ := bloc1 w hb6 (by first | omega | (simp; done) | (simp; omega)); clear hb6; simp only []))
      | (go_at_call 44; go_must (refine (wantsErr_ref A c l p m _ (HS.out.bel (by go_grown))).mono ?_; rintro e w7 ⟨rfl, hb7⟩; have b7 : Below w5.heap.size w5 w7 := Below.step (by go_grown) hb7; have b7' : Below w.heap.size w w7 := Below.step (by go_grown) hb7; obtain ⟨hc7, hf7, y70⟩ := bloc1 w hb7 (by first | omega | (simp; done) | (simp; omega)); clear hb7; simp only []))
      | (go_at_call 45; go_must (refine (splitOf_ref A c l p m _ (HS.out.bel (by go_grown)) OK.out).mono ?_; rintro e w8 ⟨A8, c8, rfl, ho8, hb8⟩; have HS8 := hide (Sl.of_own ho8); clear ho8; have b8 : Below w5.heap.size w5 w8 := Below.step (by go_grown) hb8; have b8' : Below w.heap.size w w8 := Below.step (by go_grown) hb8; obtain ⟨hc8, hf8, y80⟩ := bloc1 w hb8 (by first | omega | (simp; done) | (simp; omega)); clear hb8; simp only []))
      | (go_at_call 26; go_must (refine (ints_same A5 A8 c5 c8 l.length (splitL p m l) _ (HS5.out.bel (by go_grown)) (HS8.out.bel (by go_grown)) HL.out (by omega)).mono ?_; rintro e w' ⟨rfl, n9, rfl⟩; simp only [])))
    go_ret
    exact ⟨rfl, below_drewN (by go_grown) _⟩
  · have hw2 : (spE p m l != 0) = true := by simp [hok]
    have OK := hide hok; clear hok
    go_enter Try.func8, Try.ntmps8
    go_wp2_with (go_at_call 18; go_must (refine (awake_ok _).mono ?_; rintro e w1 ⟨rfl, hb1⟩; have b1 : Below w.heap.size w w1 := Below.step (by go_grown) hb1; obtain ⟨hc1, hf1, y10⟩ := bloc1 w hb1 (by first | omega | (simp; done) | (simp; omega)); clear hb1; simp only []))
    go_region_held3 (fun w' => w'.cell? ⟨w.heap.size, 0, none⟩ = some (.int .i64 p) ∧ w'.cell? ⟨w.heap.size, 1, none⟩ = some (.int .i64 m)) (first | (simp [go_sem]; done) | (simp [go_sem, *]; done) | go_keep)
      (first
        | (go_at_call 41; go_must (refine (copyInts A c l _ (HS.out.bel (by go_grown)) (by omega)).mono ?_; rintro e w2 ⟨A2, c2, rfl, ho2, hb2⟩; have HS2 := hide (Sl.of_own ho2); clear ho2; have b2 : Below w.heap.size w w2 := Below.step (by go_grown) hb2; obtain ⟨hc2, hf2, y20⟩ := bloc1 w hb2 (by first | omega | (simp; done) | (simp; omega)); clear hb2))
        | (go_at_call 40; go_must (refine (checkSplit_beam A2 c2 l p m _ (HS2.out.bel (by go_grown)) (by omega)).mono ?_; rintro e w3 ⟨rfl, hb3⟩; have b3 : Below w.heap.size w w3 := Below.step (by go_grown) hb3; obtain ⟨hc3, hf3, y30⟩ := bloc1 w hb3 (by first | omega | (simp; done) | (simp; omega)); clear hb3)))
    go_wp2_with fail
    go_region_held3 (fun w' => w'.cell? ⟨w.heap.size, 0, none⟩ = some (.int .i64 p) ∧ w'.cell? ⟨w.heap.size, 1, none⟩ = some (.int .i64 m)) (first | (simp [go_sem]; done) | (simp [go_sem, *]; done) | go_keep)
      (first
        | (go_at_call 41; go_must (refine (copyInts A c l _ (HS.out.bel (by go_grown)) (by omega)).mono ?_; rintro e w4 ⟨A4, c4, rfl, ho4, hb4⟩; have HS4 := hide (Sl.of_own ho4); clear ho4; have b4 : Below w.heap.size w w4 := Below.step (by go_grown) hb4; obtain ⟨hc4, hf4, y40⟩ := bloc1 w hb4 (by first | omega | (simp; done) | (simp; omega)); clear hb4))
        | (go_at_call 42; go_must (refine (splitOf_bad A4 c4 l p m _ (HS4.out.bel (by go_grown)) (by omega) OK.out).mono ?_; rintro e w5 ⟨rfl, hb5⟩; have b5 : Below w.heap.size w w5 := Below.step (by go_grown) hb5; obtain ⟨hc5, hf5, y50⟩ := bloc1 w hb5 (by first | omega | (simp; done) | (simp; omega)); clear hb5)))
    go_wp2_with (first
      | (go_at_call 43; go_must (refine (checkSplit_ref A c l p m _ (HS.out.bel (by go_grown)) (by omega)).mono ?_; rintro e w6 ⟨rfl, hb6⟩; have b6' : Below w.heap.size w w6 := Below.step (by go_grown) hb6; obtain ⟨hc6, hf6, y60⟩ := bloc1 w hb6 (by first | omega | (simp; done) | (simp; omega)); clear hb6; simp only []))
      | (go_at_call 44; go_must (refine (wantsErr_ref A c l p m _ (HS.out.bel (by go_grown))).mono ?_; rintro e w7 ⟨rfl, hb7⟩; have b7' : Below w.heap.size w w7 := Below.step (by go_grown) hb7; obtain ⟨hc7, hf7, y70⟩ := bloc1 w hb7 (by first | omega | (simp; done) | (simp; omega)); clear hb7; simp only [])))
    go_ret
    exact ⟨rfl, by go_grown⟩
theorem BeamSplits_law (p m : Int) (A : Option Addr) (c : Nat) (l : List Int) (w : World) (hs : Sl w A (iv l)) :
    Calls Try.prog 8 #[.agg #[.int .i64 p, .int .i64 m], .slice A l.length c] w fun e w' => e = .returned (.bool true) ∧ Below w.heap.size w w' := by
  rcases Nat.lt_or_ge 14 l.length with h | h
  · exact BeamSplits_many A c _ p m w h
  · exact BeamSplits_few A c l p m w hs h
end Go.Proofs.Ytamkannjdbodpaa
