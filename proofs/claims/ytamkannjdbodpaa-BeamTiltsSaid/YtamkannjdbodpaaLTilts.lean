import Derived.Test.YtamkannjdbodpaaLawA
import Derived.Test.YtamkannjdbodpaaTilts
namespace Go.Proofs.Ytamkannjdbodpaa
open Go.RowKit Go.WideShapes Go.ChangeShapes

theorem tilt_next {d wd m a b : Int} (h : tiltB d wd m a = true) (hb : withinB b (-900) 900 = true) : tiltB d wd m b = true := by
  obtain ⟨a1, a2, a3, a4, a5⟩ := tilt_ok h
  simp [tiltB, withinB] at hb ⊢; omega
theorem tilt_self {d wd m a : Int} (h : tiltB d wd m a = true) : tiltB d wd m d = true := by
  obtain ⟨a1, a2, a3, a4, a5⟩ := tilt_ok h
  simp [tiltB, withinB]; omega

set_option maxRecDepth 100000 in
set_option maxHeartbeats 2000000 in
theorem BeamTilts_law (d wd m a : Int) (w : World) :
    Calls Try.prog 7 #[.agg #[.int .i64 d, .int .i64 wd, .int .i64 m], .int .i64 a] w fun e w' => e = .returned (.bool true) ∧ Below w.heap.size w w' := by
  cases hB : tiltB d wd m a
  · go_enter Try.func7, Try.ntmps7
    go_wp2_with (first
      | (go_at_call 18; go_must (refine (awake_ok _).mono ?_; rintro e w1 ⟨rfl, hb1⟩; have b1 : Below w.heap.size w w1 := Below.step (by go_grown) hb1; obtain ⟨hc1, hf1, y10⟩ := bloc1 w hb1 (by first | omega | (simp; done) | (simp; omega)); clear hb1; simp only []))
      | (go_at_call 37; go_must (refine (tiltLoss_bad _ _ _ _ hB _).mono ?_; rintro e w2 ⟨rfl, hb2⟩; have b2 : Below w.heap.size w w2 := Below.step (by go_grown) hb2; obtain ⟨hc2, hf2, y20⟩ := bloc1 w hb2 (by first | omega | (simp; done) | (simp; omega)); clear hb2; simp only []))
      | (go_at_call 38; go_must (refine (tiltErr_ref _ _ _ _ _).mono ?_; rintro e w3 ⟨rfl, hb3⟩; have b3 : Below w.heap.size w w3 := Below.step (by go_grown) hb3; obtain ⟨hc3, hf3, y30⟩ := bloc1 w hb3 (by first | omega | (simp; done) | (simp; omega)); clear hb3; rw [hB, show unlessE false 2 = 2 from rfl]; simp only []))
      | (go_at_call 39; go_must (refine (tiltLoss_ref _ _ _ _ hB _).mono ?_; rintro e w4 ⟨rfl, hb4⟩; have b4 : Below w.heap.size w w4 := Below.step (by go_grown) hb4; obtain ⟨hc4, hf4, y40⟩ := bloc1 w hb4 (by first | omega | (simp; done) | (simp; omega)); clear hb4; simp only []))
      | (go_at_call 24; refine (within_base _ _ _ _).mono ?_; rintro e w' ⟨rfl, rfl⟩; simp only []))
    go_ret
    exact ⟨rfl, by go_grown⟩
  · have hB2 := tilt_self hB
    have hh := tilt_home hB2
    have hv1 : (tiltV d wd m a != tiltV d wd m a) = false := by simp
    have hv2 : (tiltV d wd m d != 0) = false := by rw [hh]; rfl
    have hbd := tilt_ok hB
    have h2 := hbd.2.2.2
    have hw1 := hbd.2.1.1
    clear hh hbd
    rcases (by omega : a < d ∨ d ≤ a) with hlt | hlt
    · cases hn : withinB (a - 1) (-900) 900
      · go_enter Try.func7, Try.ntmps7
        go_wp2_with (first
      | (go_at_call 18; go_must (refine (awake_ok _).mono ?_; rintro e w1 ⟨rfl, hb1⟩; have b1 : Below w.heap.size w w1 := Below.step (by go_grown) hb1; obtain ⟨hc1, hf1, y10⟩ := bloc1 w hb1 (by first | omega | (simp; done) | (simp; omega)); clear hb1; simp only []))
      | (go_at_call 37; go_must (refine (tiltLoss_ok _ _ _ _ (by first | exact hB | exact hB2 | exact hB3) _).mono ?_; rintro e w2 ⟨rfl, hb2⟩; have b2 : Below w.heap.size w w2 := Below.step (by go_grown) hb2; obtain ⟨hc2, hf2, y20⟩ := bloc1 w hb2 (by first | omega | (simp; done) | (simp; omega)); clear hb2; simp only []))
      | (go_at_call 38; go_must (refine (tiltErr_ref _ _ _ _ _).mono ?_; rintro e w3 ⟨rfl, hb3⟩; have b3 : Below w.heap.size w w3 := Below.step (by go_grown) hb3; obtain ⟨hc3, hf3, y30⟩ := bloc1 w hb3 (by first | omega | (simp; done) | (simp; omega)); clear hb3; rw [hB, show unlessE true 2 = 0 from rfl]; simp only []))
      | (go_at_call 39; go_must (refine (tiltLoss_ref _ _ _ _ hB _).mono ?_; rintro e w4 ⟨rfl, hb4⟩; have b4 : Below w.heap.size w w4 := Below.step (by go_grown) hb4; obtain ⟨hc4, hf4, y40⟩ := bloc1 w hb4 (by first | omega | (simp; done) | (simp; omega)); clear hb4; simp only []))
      | (go_at_call 24; refine (within_base _ _ _ _).mono ?_; rintro e w' ⟨rfl, rfl⟩; simp only []))
        go_ret
        exact ⟨rfl, by go_grown⟩
      · have hB3 := tilt_next hB hn
        have ha := tilt_away (d := d) (wd := wd) (m := m) (a := a) (b := a - 1) hw1 (by omega)
        go_enter Try.func7, Try.ntmps7
        go_wp2_with (first
      | (go_at_call 18; go_must (refine (awake_ok _).mono ?_; rintro e w1 ⟨rfl, hb1⟩; have b1 : Below w.heap.size w w1 := Below.step (by go_grown) hb1; obtain ⟨hc1, hf1, y10⟩ := bloc1 w hb1 (by first | omega | (simp; done) | (simp; omega)); clear hb1; simp only []))
      | (go_at_call 37; go_must (refine (tiltLoss_ok _ _ _ _ (by first | exact hB | exact hB2 | exact hB3) _).mono ?_; rintro e w2 ⟨rfl, hb2⟩; have b2 : Below w.heap.size w w2 := Below.step (by go_grown) hb2; obtain ⟨hc2, hf2, y20⟩ := bloc1 w hb2 (by first | omega | (simp; done) | (simp; omega)); clear hb2; simp only []))
      | (go_at_call 38; go_must (refine (tiltErr_ref _ _ _ _ _).mono ?_; rintro e w3 ⟨rfl, hb3⟩; have b3 : Below w.heap.size w w3 := Below.step (by go_grown) hb3; obtain ⟨hc3, hf3, y30⟩ := bloc1 w hb3 (by first | omega | (simp; done) | (simp; omega)); clear hb3; rw [hB, show unlessE true 2 = 0 from rfl]; simp only []))
      | (go_at_call 39; go_must (refine (tiltLoss_ref _ _ _ _ hB _).mono ?_; rintro e w4 ⟨rfl, hb4⟩; have b4 : Below w.heap.size w w4 := Below.step (by go_grown) hb4; obtain ⟨hc4, hf4, y40⟩ := bloc1 w hb4 (by first | omega | (simp; done) | (simp; omega)); clear hb4; simp only []))
      | (go_at_call 24; refine (within_base _ _ _ _).mono ?_; rintro e w' ⟨rfl, rfl⟩; simp only []))
        go_ret
        exact ⟨retB (by simp), by go_grown⟩
    · cases hn : withinB (a + 1) (-900) 900
      · go_enter Try.func7, Try.ntmps7
        go_wp2_with (first
      | (go_at_call 18; go_must (refine (awake_ok _).mono ?_; rintro e w1 ⟨rfl, hb1⟩; have b1 : Below w.heap.size w w1 := Below.step (by go_grown) hb1; obtain ⟨hc1, hf1, y10⟩ := bloc1 w hb1 (by first | omega | (simp; done) | (simp; omega)); clear hb1; simp only []))
      | (go_at_call 37; go_must (refine (tiltLoss_ok _ _ _ _ (by first | exact hB | exact hB2 | exact hB3) _).mono ?_; rintro e w2 ⟨rfl, hb2⟩; have b2 : Below w.heap.size w w2 := Below.step (by go_grown) hb2; obtain ⟨hc2, hf2, y20⟩ := bloc1 w hb2 (by first | omega | (simp; done) | (simp; omega)); clear hb2; simp only []))
      | (go_at_call 38; go_must (refine (tiltErr_ref _ _ _ _ _).mono ?_; rintro e w3 ⟨rfl, hb3⟩; have b3 : Below w.heap.size w w3 := Below.step (by go_grown) hb3; obtain ⟨hc3, hf3, y30⟩ := bloc1 w hb3 (by first | omega | (simp; done) | (simp; omega)); clear hb3; rw [hB, show unlessE true 2 = 0 from rfl]; simp only []))
      | (go_at_call 39; go_must (refine (tiltLoss_ref _ _ _ _ hB _).mono ?_; rintro e w4 ⟨rfl, hb4⟩; have b4 : Below w.heap.size w w4 := Below.step (by go_grown) hb4; obtain ⟨hc4, hf4, y40⟩ := bloc1 w hb4 (by first | omega | (simp; done) | (simp; omega)); clear hb4; simp only []))
      | (go_at_call 24; refine (within_base _ _ _ _).mono ?_; rintro e w' ⟨rfl, rfl⟩; simp only []))
        go_ret
        exact ⟨rfl, by go_grown⟩
      · have hB3 := tilt_next hB hn
        have ha := tilt_away (d := d) (wd := wd) (m := m) (a := a) (b := a + 1) hw1 (by omega)
        go_enter Try.func7, Try.ntmps7
        go_wp2_with (first
      | (go_at_call 18; go_must (refine (awake_ok _).mono ?_; rintro e w1 ⟨rfl, hb1⟩; have b1 : Below w.heap.size w w1 := Below.step (by go_grown) hb1; obtain ⟨hc1, hf1, y10⟩ := bloc1 w hb1 (by first | omega | (simp; done) | (simp; omega)); clear hb1; simp only []))
      | (go_at_call 37; go_must (refine (tiltLoss_ok _ _ _ _ (by first | exact hB | exact hB2 | exact hB3) _).mono ?_; rintro e w2 ⟨rfl, hb2⟩; have b2 : Below w.heap.size w w2 := Below.step (by go_grown) hb2; obtain ⟨hc2, hf2, y20⟩ := bloc1 w hb2 (by first | omega | (simp; done) | (simp; omega)); clear hb2; simp only []))
      | (go_at_call 38; go_must (refine (tiltErr_ref _ _ _ _ _).mono ?_; rintro e w3 ⟨rfl, hb3⟩; have b3 : Below w.heap.size w w3 := Below.step (by go_grown) hb3; obtain ⟨hc3, hf3, y30⟩ := bloc1 w hb3 (by first | omega | (simp; done) | (simp; omega)); clear hb3; rw [hB, show unlessE true 2 = 0 from rfl]; simp only []))
      | (go_at_call 39; go_must (refine (tiltLoss_ref _ _ _ _ hB _).mono ?_; rintro e w4 ⟨rfl, hb4⟩; have b4 : Below w.heap.size w w4 := Below.step (by go_grown) hb4; obtain ⟨hc4, hf4, y40⟩ := bloc1 w hb4 (by first | omega | (simp; done) | (simp; omega)); clear hb4; simp only []))
      | (go_at_call 24; refine (within_base _ _ _ _).mono ?_; rintro e w' ⟨rfl, rfl⟩; simp only []))
        go_ret
        exact ⟨retB (by simp), by go_grown⟩
end Go.Proofs.Ytamkannjdbodpaa
