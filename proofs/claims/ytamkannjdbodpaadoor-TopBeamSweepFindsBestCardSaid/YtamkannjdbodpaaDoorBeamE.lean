import Derived.Test.YtamkannjdbodpaaDoorBeamD
namespace Go.Proofs.YtamkannjdbodpaaDoor
open Go.RowKit Go.WideShapes Go.ChangeShapes

set_option maxHeartbeats 1000000 in
theorem gainOf_beam (A : Option Addr) (c : Nat) (l : List Int) (step : Int) (w : World) (hs : Sl w A (iv l)) (hl : l.length ≤ 1000000) :
    Calls Tryd.prog 24 #[.agg #[.slice A l.length c], .int .i64 step] w fun e w' => e = .returned (.tuple #[.agg #[.int .i64 (respR l step).P, .int .i64 (respR l step).Q], .int .i64 (gainE l step)]) ∧ Below w.heap.size w w' := by
  have HS := hide hs; clear hs
  by_cases h0 : gainE l step = 0
  · obtain ⟨hc, hs0, hs7⟩ := gainE_ok l step h0
    obtain ⟨hl0, hl8, hok, _⟩ := chk_ok l hc
    have hv : respR l step = resp l step := if_pos h0
    have hr := hide ((respS_le step (onUpto l l.length)).mono (m' := 1000000000) (by have := onUpto_len l l.length; omega))
    rw [hv, h0]
    have hg : (firstOf [(chk l).2, unlessE (withinB step 0 7) 2] != 0) = false := by rw [bne_eq_false_iff_eq]; exact h0
    have HOK := hide hok; clear hok
    clear hc h0 hv
    go_enter Tryd.func24, Tryd.ntmps24
    go_wp2_with (first
      | (go_at_call 31; refine (beamErr_beam A c l _ (HS.out.bel (by go_grown)) hl).mono ?_; rintro e w1 ⟨rfl, hb1⟩; have b1 : Below w.heap.size w w1 := Below.step (by go_grown) hb1; obtain ⟨hc1, hf1, y10, y11⟩ := bloc2 w hb1 (by first | omega | (simp; done) | (simp; omega)))
      | (go_at_call 38; refine (stepErr_beam _ _).mono ?_; rintro e w' ⟨rfl, rfl⟩)
      | (go_at_call 35; refine (first2 _ _ _ _ (by simp)).mono ?_; rintro e w' ⟨rfl, rfl⟩)
      | (go_at_call 41; refine (response_beam A c l step _ (HS.out.bel (by go_grown)) (by omega) HOK.out (by omega) (by omega)).mono ?_; rintro e w2 ⟨rfl, hb2⟩; have b2 : Below w.heap.size w w2 := Below.step (by go_grown) hb2; obtain ⟨hc2, hf2, y20, y21⟩ := bloc2 w hb2 (by first | omega | (simp; done) | (simp; omega)))
      | (go_at_call 42; refine (square_beam _ hr.out _).mono ?_; rintro e w3 ⟨rfl, hb3⟩; have b3 : Below w.heap.size w w3 := Below.step (by go_grown) hb3; obtain ⟨hc3, hf3, y30, y31⟩ := bloc2 w hb3 (by first | omega | (simp; done) | (simp; omega))))
    refine bodyPost_ret (v := .tuple #[.agg #[.int .i64 (resp l step).P, .int .i64 (resp l step).Q], .int .i64 0]) (by simp [results, Tryd.results24, go_sem, hc3, hc2, hc1, y11, resp]) rfl ⟨rfl, by go_grown⟩
  · have hv : respR l step = ⟨0, 0, 0, 0⟩ := if_neg h0
    rw [hv]
    have hg : (firstOf [(chk l).2, unlessE (withinB step 0 7) 2] != 0) = true := by rw [bne_iff_ne]; exact h0
    clear hv
    go_enter Tryd.func24, Tryd.ntmps24
    go_wp2_with (first
      | (go_at_call 31; refine (beamErr_beam A c l _ (HS.out.bel (by go_grown)) hl).mono ?_; rintro e w1 ⟨rfl, hb1⟩; have b1 : Below w.heap.size w w1 := Below.step (by go_grown) hb1; obtain ⟨hc1, hf1, y10, y11⟩ := bloc2 w hb1 (by first | omega | (simp; done) | (simp; omega)))
      | (go_at_call 38; refine (stepErr_beam _ _).mono ?_; rintro e w' ⟨rfl, rfl⟩)
      | (go_at_call 35; refine (first2 _ _ _ _ (by simp)).mono ?_; rintro e w' ⟨rfl, rfl⟩))
    refine bodyPost_ret (v := .tuple #[.agg #[.int .i64 0, .int .i64 0], .int .i64 (gainE l step)]) (by simp [results, Tryd.results24, go_sem, hc1, y11, gainE]) rfl ⟨rfl, by go_grown⟩
end Go.Proofs.YtamkannjdbodpaaDoor
