import Derived.Test.YtamkannjdbodpaaDoorBeamI
import Derived.Test.YtamkannjdbodpaaDoorBeamE
import Derived.Test.YtamkannjdbodpaaDoorRefd
namespace Go.Proofs.YtamkannjdbodpaaDoor
open Go.RowKit Go.WideShapes Go.ChangeShapes

theorem Sl.newI (W : World) (xs : List Int) (T : TypeId) (n : Nat) (hn : W.heap.size = n) : Sl (W.alloc (.cells (iv xs).toArray T)) (some ⟨n, 0, none⟩) (iv xs) := Sl.new W (iv xs) T n hn

set_option maxRecDepth 100000 in
set_option maxHeartbeats 600000 in
theorem awake_ok (w : World) : Calls Tryd.prog 5 #[] w fun e w' => e = .returned (.bool true) ∧ Below w.heap.size w w' := by
  have hst : Hid (steE 4 1 = 0) := by rw [Hid]; decide
  have e1 : Hid (steerL 1 1 4 = [0, 7, 6, 5]) := by rw [Hid]; decide
  have e2 : Hid ((respR [0, 7, 6, 5] 2).P = 4 ∧ (respR [0, 7, 6, 5] 2).Q = 2 ∧ gainE [0, 7, 6, 5] 2 = 0) := by rw [Hid]; decide
  have e4 : Hid (spE 11 6 [2, 9, 5] = 0 ∧ splitL 11 6 [2, 9, 5] = [2, 5, 4]) := by rw [Hid]; decide
  have e5 : Hid (intsEq [0, 7, 6, 5] [0, 7, 6, 5] = true ∧ intsEq [2, 5, 4] [2, 5, 4] = true) := by rw [Hid]; decide
  go_enter Tryd.func5, Tryd.ntmps5
  go_wp2_with (first
    | (go_at_call 17; go_must (refine (Steering_ok 4 1 _ hst.out).mono ?_; rintro e w1 ⟨A1, c1, rfl, ho1, hb1⟩; rw [OwnI, show (4 : Int).toNat = 4 from rfl, e1.out] at ho1; rw [show (4 : Int).toNat = 4 from rfl]; have b1 : Below w.heap.size w w1 := Below.step (by go_grown) hb1; have s1 := hide (Sl.of_own ho1); clear ho1 hb1; simp only []))
    | (go_at_call 24; go_must (refine (gainOf_beam _ _ [0, 7, 6, 5] 2 _ (Sl.newI _ [0, 7, 6, 5] _ _ (by simp)) (by simp)).mono ?_; rintro e w2 ⟨rfl, hb2⟩; rw [e2.out.1, e2.out.2.1, e2.out.2.2]; have b2 : Below w1.heap.size w1 w2 := Below.step (by go_grown) hb2; obtain ⟨hc2, hf2, y20⟩ := bloc1 w1 hb2 (by first | omega | (simp; done) | (simp; omega)); clear hb2; simp only []))
    | (go_at_call 21; go_must (refine (refined_ok 5 _ (by omega) (by omega)).mono ?_; rintro e w3 ⟨A3, c3, xs3, rfl, _, _, hb3⟩; have b3 : Below w2.heap.size w2 w3 := Below.step (by go_grown) hb3; obtain ⟨hc3, hf3, y30⟩ := bloc1 w1 hb3 (by first | omega | (simp; done) | (simp; omega)); obtain ⟨hc3', hf3', y30'⟩ := bloc1 w2 hb3 (by first | omega | (simp; done) | (simp; omega)); clear hb3; simp only []))
    | (go_at_call 25; go_must (refine (splitOf_ok _ _ [2, 9, 5] 11 6 _ (Sl.newI _ [2, 9, 5] _ _ (by simp)) (by simp) e4.out.1).mono ?_; rintro e w4 ⟨A4, c4, rfl, ho4, hb4⟩; rw [e4.out.2] at ho4; have b4 : Below w3.heap.size w3 w4 := Below.step (by go_grown) hb4; obtain ⟨hc4, hf4, y40⟩ := bloc1 w1 hb4 (by first | omega | (simp; done) | (simp; omega)); obtain ⟨hc4', hf4', y40'⟩ := bloc1 w2 hb4 (by first | omega | (simp; done) | (simp; omega)); have s4 := hide (Sl.of_own ho4); clear hb4 ho4; have s1' := hide (((s1.out.bel b2).bel b3).bel b4); clear s1; simp only [])))
  refine (ints_base _ _ _ _ [0, 7, 6, 5] [0, 7, 6, 5] _ (s1'.out.bel (by go_grown)) (Sl.newI _ [0, 7, 6, 5] _ _ (by simp)) (by simp) (by simp)).mono ?_; rintro e w' ⟨rfl, n5, rfl⟩; rw [e5.out.1]; simp only []
  clear s1'
  have b5 : Below w4.heap.size w4 ((w4.alloc (.cells (iv [0, 7, 6, 5]).toArray 3)).drewN n5) := below_drewN (by go_grown) _
  go_wp2_with fail
  refine (ints_base _ _ _ _ [2, 5, 4] [2, 5, 4] _ ((s4.out.bel b5).bel (by go_grown)) (Sl.newI _ [2, 5, 4] _ _ (by simp)) (by simp) (by simp)).mono ?_; rintro e w' ⟨rfl, n6, rfl⟩; rw [e5.out.2]; simp only []
  go_wp2_with fail
  refine bodyPost_ret (v := .bool true) (by simp [results, Tryd.results5, go_sem]) rfl ⟨rfl, ?_⟩
  exact below_drewN (Below.step (Below.step (Below.step (Below.step (Below.step b1 b2) b3) b4) b5) (by go_grown)) _
end Go.Proofs.YtamkannjdbodpaaDoor
