import Derived.Test.YthfmjohbokpceaaWideE
namespace Go.Proofs.Ythfmjohbokpceaa
open Go.RowKit Go.WideShapes Go.ChangeShapes

theorem _root_.Go.RowKit.Below.keepsW {w w1 : World} (hb : Below w.heap.size w w1) {b o : Nat} {v : Value} (h : w.cell? ⟨b, o, none⟩ = some v) : w1.cell? ⟨b, o, none⟩ = some v := (hb.cell (p := ⟨b, o, none⟩) (lt_of_cell h)).trans h

theorem WideNeg_base (s : Int) (A : Option Addr) (n c : Nat) (w : World) (h1 : -1 ≤ s) (h2 : s ≤ 1) :
    Calls Try.prog 189 #[.agg #[.int .i64 s, .slice A n c]] w fun e w' => e = .returned (.agg #[.int .i64 (-s), .slice A n c]) ∧ Below w.heap.size w w' := by
  go_enter Try.func189, Try.ntmps189
  go_wp2
  go_returns
  exact ⟨rfl, by go_grown⟩

theorem trim_ne {r : List Int} (hp : 0 < val r) : ¬ (trimL (trimL r)).length = 0 := by
  intro e
  have e2 := List.eq_nil_of_length_eq_zero e
  have h1 := val_trim (trimL r)
  rw [e2, val_trim] at h1
  simp only [val] at h1
  omega

set_option maxRecDepth 100000 in
set_option maxHeartbeats 4000000 in
/-- x above 0 and -y below 0: the sign of x - y -/
theorem WideAdd_pm (x y : Int) (d d' : List Int) (A A' : Option Addr) (c c' : Nat) (w : World) (hx : WideIs x 1 d) (hy : WideIs y 1 d') (hs : Sl w A (iv d)) (hs' : Sl w A' (iv d')) (hl : d.length ≤ 50) (hl' : d'.length ≤ 50) (hxp : 0 < x) (hyp : 0 < y) :
    Calls Try.prog 188 #[.agg #[.int .i64 1, .slice A d.length c], .agg #[.int .i64 (-1), .slice A' d'.length c']] w fun e w' => ∃ B n k, e = .returned (.agg #[.int .i64 (cmp3 x y), .slice B n k]) ∧ Below w.heap.size w w' := by
  have HS := hide hs; clear hs
  have HS' := hide hs'; clear hs'
  have HX := hide hx; clear hx
  have HY := hide hy; clear hy
  have vx : val d = x := by rw [HX.out.vals]; omega
  have vy : val d' = y := by rw [HY.out.vals]; omega
  have VX := hide vx
  have VY := hide vy
  have HB3 : Hid (Below w.heap.size w (((w.alloc (.cells #[.int .i64 1, .slice A d.length c] 179)).alloc (.cells #[.int .i64 (-1), .slice A' d'.length c'] 179)).alloc (.cells #[.int .i64 0, .slice none 0 0] 179))) := by rw [Hid]; go_grown
  rcases Int.lt_trichotomy x y with h | h | h
  · have hc := hide (show cmp3 (val d) (val d') = -1 by rw [vx, vy]; unfold cmp3; rw [if_pos h])
    have hc2 := hide (show cmp3 x y = -1 by unfold cmp3; rw [if_pos h])
    have hvd := hide (show val d ≤ val d' by omega)
    have hll : d.length ≤ d'.length := by
      rcases Nat.lt_or_ge d'.length d.length with g | g
      · have := len_lt HY.out.dig HX.out.dig HX.out.top g; omega
      · exact g
    have hpos := hide (show 0 < val d' - val d by omega)
    clear vx vy
    have K0 := Blk.new w 179 #[.int .i64 1, .slice A d.length c]
    have K1 := Blk.new (w.alloc (.cells #[.int .i64 1, .slice A d.length c] 179)) 179 #[.int .i64 (-1), .slice A' d'.length c']
    have K2 := Blk.new ((w.alloc (.cells #[.int .i64 1, .slice A d.length c] 179)).alloc (.cells #[.int .i64 (-1), .slice A' d'.length c'] 179)) 179 #[.int .i64 0, .slice none 0 0]
    simp only [World.size_alloc] at K1 K2
    have K0' := hide ((K0.alloc (.cells #[.int .i64 (-1), .slice A' d'.length c'] 179)).alloc (.cells #[.int .i64 0, .slice none 0 0] 179)); clear K0
    have K1' := hide (K1.alloc (.cells #[.int .i64 0, .slice none 0 0] 179)); clear K1
    have K2' := hide K2; clear K2
    go_enter Try.func188, Try.ntmps188
    go_wp2_with (go_at_call 191; go_must (refine (cmpDigits_base A A' c c' d d' _ (HS.out.bel (by go_grown)) (HS'.out.bel (by go_grown)) (by omega) HX.out.dig HY.out.dig HX.out.top HY.out.top).mono ?_; rw [hc.out]; rintro e w' ⟨rfl, nq, rfl⟩; simp only []))
    go_region_with
      (first
        | (go_at_call 192; go_must (refine (subDigits_base A' A c' c d' d _ ((HS'.out.bel HB3.out).drewN _) ((HS.out.bel HB3.out).drewN _) (by omega) hll HY.out.dig HX.out.dig hvd.out).mono ?_; rintro e w1 ⟨r, A2, c2, hrd, hrv, hrc, hrl, rfl, hsl, hb⟩; have HR := hide (And.intro hrd hrv); clear hrd hrv; have HSL := hide hsl; clear hsl; have b1 : Below w.heap.size w w1 := (below_drewN HB3.out _).trans (hb.mono (by simp; omega)); have B0 : Blk w1 (w.heap.size + 1) _ _ := (hb.block (w.heap.size + 1) (by first | omega | (simp; done) | (simp; omega))).trans K1'.out; have B2 : Blk w1 (w.heap.size + 1 + 1) _ _ := (hb.block (w.heap.size + 1 + 1) (by simp)).trans K2'.out; have i0 := B0.cell 0; have y2 := B2.lt; clear hb; simp at i0))
        | (go_at_call 178; go_must (refine (wideOf_base (-1) A2 c2 (trimL r) _ (HSL.out.bel (by go_grown)) (by have := trim_le r; omega) (by have := trim_le r; omega)).mono ?_; rw [if_neg (trim_ne (by rw [HR.out.2]; exact hpos.out))]; rintro e w2 ⟨rfl, hb⟩; have b2 : Below w.heap.size w w2 := b1.trans (hb.mono (by have := b1.size; simp; omega)); have B22 : Blk w2 (w.heap.size + 1 + 1) _ _ := (hb.block (w.heap.size + 1 + 1) (by simpa using y2)).trans B2; have j0 := B22.cell 0; have j1 := B22.cell 1; have f0 := B22.frozen 0; have f1 := B22.frozen 1; have y3 := B22.lt; clear hb; simp at j0 j1)))
    all_goals
      go_wp2
      have hblk4 := (B22.set_ 0 (.int .i64 (-1))).set_ 1 (.slice A2 (trimL (trimL r)).length c2)
      have hbel4 := (b2.setCell (p := ⟨w.heap.size + 1 + 1, 0, none⟩) (by first | omega | (simp; done) | (simp; omega)) (.int .i64 (-1))).setCell (p := ⟨w.heap.size + 1 + 1, 1, none⟩) (by first | omega | (simp; done) | (simp; omega)) (.slice A2 (trimL (trimL r)).length c2)
      clear B22 b2 f0 f1 j0 j1
      revert hblk4 hbel4
      generalize World.setCell _ _ _ = W
      intro hblk4 hbel4
      have e0 : W.cell? ⟨w.heap.size + 1 + 1, 0, none⟩ = some (.int .i64 (-1)) := hblk4.cell 0
      have e1 : W.cell? ⟨w.heap.size + 1 + 1, 1, none⟩ = some (.slice A2 (trimL (trimL r)).length c2) := hblk4.cell 1
      refine bodyPost_ret (v := .agg #[.int .i64 (-1), .slice A2 (trimL (trimL r)).length c2]) (by simp [results, Try.results188, go_sem, e0, e1]) rfl ⟨_, _, _, by rw [hc2.out], hbel4⟩
  · have hc := hide (show cmp3 (val d) (val d') = 0 by rw [vx, vy, h]; unfold cmp3; simp)
    have hc2 := hide (show cmp3 x y = 0 by rw [h]; unfold cmp3; simp)
    clear vx vy
    go_enter Try.func188, Try.ntmps188
    go_wp2_with (go_at_call 191; go_must (refine (cmpDigits_base A A' c c' d d' _ (HS.out.bel (by go_grown)) (HS'.out.bel (by go_grown)) (by omega) HX.out.dig HY.out.dig HX.out.top HY.out.top).mono ?_; rw [hc.out]; rintro e w' ⟨rfl, nq, rfl⟩; simp only []))
    go_returns
    exact ⟨none, 0, 0, by rw [hc2.out], ((below_drewN HB3.out _).setCell (p := ⟨w.heap.size + 1 + 1, 0, none⟩) (by first | omega | (simp; done) | (simp; omega)) _).setCell (p := ⟨w.heap.size + 1 + 1, 1, none⟩) (by first | omega | (simp; done) | (simp; omega)) _⟩
  · have hc := hide (show cmp3 (val d) (val d') = 1 by rw [vx, vy]; unfold cmp3; rw [if_neg (by omega), if_pos h])
    have hc2 := hide (show cmp3 x y = 1 by unfold cmp3; rw [if_neg (by omega), if_pos h])
    have hvd := hide (show val d' ≤ val d by omega)
    have hll : d'.length ≤ d.length := by
      rcases Nat.lt_or_ge d.length d'.length with g | g
      · have := len_lt HX.out.dig HY.out.dig HY.out.top g; omega
      · exact g
    have hpos := hide (show 0 < val d - val d' by omega)
    clear vx vy
    have K0 := Blk.new w 179 #[.int .i64 1, .slice A d.length c]
    have K1 := Blk.new (w.alloc (.cells #[.int .i64 1, .slice A d.length c] 179)) 179 #[.int .i64 (-1), .slice A' d'.length c']
    have K2 := Blk.new ((w.alloc (.cells #[.int .i64 1, .slice A d.length c] 179)).alloc (.cells #[.int .i64 (-1), .slice A' d'.length c'] 179)) 179 #[.int .i64 0, .slice none 0 0]
    simp only [World.size_alloc] at K1 K2
    have K0' := hide ((K0.alloc (.cells #[.int .i64 (-1), .slice A' d'.length c'] 179)).alloc (.cells #[.int .i64 0, .slice none 0 0] 179)); clear K0
    have K1' := hide (K1.alloc (.cells #[.int .i64 0, .slice none 0 0] 179)); clear K1
    have K2' := hide K2; clear K2
    go_enter Try.func188, Try.ntmps188
    go_wp2_with (go_at_call 191; go_must (refine (cmpDigits_base A A' c c' d d' _ (HS.out.bel (by go_grown)) (HS'.out.bel (by go_grown)) (by omega) HX.out.dig HY.out.dig HX.out.top HY.out.top).mono ?_; rw [hc.out]; rintro e w' ⟨rfl, nq, rfl⟩; simp only []))
    go_region_with
      (first
        | (go_at_call 192; go_must (refine (subDigits_base A A' c c' d d' _ ((HS.out.bel HB3.out).drewN _) ((HS'.out.bel HB3.out).drewN _) (by omega) hll HX.out.dig HY.out.dig hvd.out).mono ?_; rintro e w1 ⟨r, A2, c2, hrd, hrv, hrc, hrl, rfl, hsl, hb⟩; have HR := hide (And.intro hrd hrv); clear hrd hrv; have HSL := hide hsl; clear hsl; have b1 : Below w.heap.size w w1 := (below_drewN HB3.out _).trans (hb.mono (by simp; omega)); have B0 : Blk w1 (w.heap.size) _ _ := (hb.block (w.heap.size) (by first | omega | (simp; done) | (simp; omega))).trans K0'.out; have B2 : Blk w1 (w.heap.size + 1 + 1) _ _ := (hb.block (w.heap.size + 1 + 1) (by simp)).trans K2'.out; have i0 := B0.cell 0; have y2 := B2.lt; clear hb; simp at i0))
        | (go_at_call 178; go_must (refine (wideOf_base 1 A2 c2 (trimL r) _ (HSL.out.bel (by go_grown)) (by have := trim_le r; omega) (by have := trim_le r; omega)).mono ?_; rw [if_neg (trim_ne (by rw [HR.out.2]; exact hpos.out))]; rintro e w2 ⟨rfl, hb⟩; have b2 : Below w.heap.size w w2 := b1.trans (hb.mono (by have := b1.size; simp; omega)); have B22 : Blk w2 (w.heap.size + 1 + 1) _ _ := (hb.block (w.heap.size + 1 + 1) (by simpa using y2)).trans B2; have j0 := B22.cell 0; have j1 := B22.cell 1; have f0 := B22.frozen 0; have f1 := B22.frozen 1; have y3 := B22.lt; clear hb; simp at j0 j1)))
    all_goals
      go_wp2
      have hblk4 := (B22.set_ 0 (.int .i64 1)).set_ 1 (.slice A2 (trimL (trimL r)).length c2)
      have hbel4 := (b2.setCell (p := ⟨w.heap.size + 1 + 1, 0, none⟩) (by first | omega | (simp; done) | (simp; omega)) (.int .i64 1)).setCell (p := ⟨w.heap.size + 1 + 1, 1, none⟩) (by first | omega | (simp; done) | (simp; omega)) (.slice A2 (trimL (trimL r)).length c2)
      clear B22 b2 f0 f1 j0 j1
      revert hblk4 hbel4
      generalize World.setCell _ _ _ = W
      intro hblk4 hbel4
      have e0 : W.cell? ⟨w.heap.size + 1 + 1, 0, none⟩ = some (.int .i64 1) := hblk4.cell 0
      have e1 : W.cell? ⟨w.heap.size + 1 + 1, 1, none⟩ = some (.slice A2 (trimL (trimL r)).length c2) := hblk4.cell 1
      refine bodyPost_ret (v := .agg #[.int .i64 1, .slice A2 (trimL (trimL r)).length c2]) (by simp [results, Try.results188, go_sem, e0, e1]) rfl ⟨_, _, _, by rw [hc2.out], hbel4⟩
end Go.Proofs.Ythfmjohbokpceaa
