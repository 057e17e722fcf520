import Derived.Test.YthfmjohbokpceaaWideF
namespace Go.Proofs.Ythfmjohbokpceaa
open Go.RowKit Go.WideShapes Go.ChangeShapes

theorem field_wide (s : Int) (A : Option Addr) (n c : Nat) (w : World) : (Instr.field 179 (.agg #[.int .i64 s, .slice A n c]) 0).run Try.prog w = .ok (.int .i64 s) w := by kernel_rfl

set_option maxRecDepth 100000 in
set_option maxHeartbeats 4000000 in
/-- x - y, both above 0, has the sign of x against y -/
theorem WideSub_pp (x y : Int) (d d' : List Int) (A A' : Option Addr) (c c' : Nat) (w : World) (hx : WideIs x 1 d) (hy : WideIs y 1 d') (hs : Sl w A (iv d)) (hs' : Sl w A' (iv d')) (hl : d.length ≤ 50) (hl' : d'.length ≤ 50) (hxp : 0 < x) (hyp : 0 < y) :
    Calls Try.prog 179 #[.agg #[.int .i64 1, .slice A d.length c], .agg #[.int .i64 1, .slice A' d'.length c']] w fun e w' => ∃ B n k, e = .returned (.agg #[.int .i64 (cmp3 x y), .slice B n k]) ∧ Below w.heap.size w w' := by
  have HS := hide hs; clear hs
  have HS' := hide hs'; clear hs'
  have HX := hide hx; clear hx
  have HY := hide hy; clear hy
  obtain ⟨CC, hCC⟩ : ∃ CC, cmp3 x y = CC := ⟨_, rfl⟩
  have HCC := hide hCC
  rw [hCC]
  clear hCC
  have K0 := Blk.new w 179 #[.int .i64 1, .slice A d.length c]
  have K1 := Blk.new (w.alloc (.cells #[.int .i64 1, .slice A d.length c] 179)) 179 #[.int .i64 1, .slice A' d'.length c']
  have K2 := Blk.new ((w.alloc (.cells #[.int .i64 1, .slice A d.length c] 179)).alloc (.cells #[.int .i64 1, .slice A' d'.length c'] 179)) 179 #[.int .i64 0, .slice none 0 0]
  have HB3 : Hid (Below w.heap.size w (((w.alloc (.cells #[.int .i64 1, .slice A d.length c] 179)).alloc (.cells #[.int .i64 1, .slice A' d'.length c'] 179)).alloc (.cells #[.int .i64 0, .slice none 0 0] 179))) := by rw [Hid]; go_grown
  simp only [World.size_alloc] at K1 K2
  have K0' := hide ((K0.alloc (.cells #[.int .i64 1, .slice A' d'.length c'] 179)).alloc (.cells #[.int .i64 0, .slice none 0 0] 179)); clear K0
  have K2' := hide K2; clear K2 K1
  go_enter Try.func179, Try.ntmps179
  go_wp2_with fail
  go_region_with
    (first
      | (go_at_call 189; go_must (refine (WideNeg_base 1 A' d'.length c' _ (by omega) (by omega)).mono ?_; rintro e w1 ⟨rfl, hb⟩; have b1 : Below w.heap.size w w1 := Below.step (by first | exact HB3.out | exact HB3.out.drew | exact below_drewN HB3.out _) hb; have B0 : Blk w1 w.heap.size _ _ := (hb.block w.heap.size (by first | omega | (simp; done) | (simp; omega))).trans K0'.out; have B2 : Blk w1 (w.heap.size + 1 + 1) _ _ := (hb.block (w.heap.size + 1 + 1) (by first | omega | (simp; done) | (simp; omega))).trans K2'.out; have i0 := B0.cell 0; have i1 := B0.cell 1; have y2 := B2.lt; clear hb; simp at i0 i1))
      | (go_at_call 188; go_must (refine (WideAdd_pm x y d d' A A' c c' _ HX.out HY.out (HS.out.bel (by go_grown)) (HS'.out.bel (by go_grown)) hl hl' hxp hyp).mono ?_; rw [HCC.out]; rintro e w2 ⟨B, n, k, rfl, hb⟩; have b2 : Below w.heap.size w w2 := Below.step (by go_grown) hb; have B22 : Blk w2 (w.heap.size + 1 + 1) _ _ := (hb.block (w.heap.size + 1 + 1) (by simpa using y2)).trans B2; have j0 := B22.cell 0; have j1 := B22.cell 1; have f0 := B22.frozen 0; have f1 := B22.frozen 1; have y3 := B22.lt; clear hb; simp at j0 j1)))
  all_goals
    go_wp2
    have hblk4 := (B22.set_ 0 (.int .i64 CC)).set_ 1 (.slice B n k)
    have hbel4 := (b2.setCell (p := ⟨w.heap.size + 1 + 1, 0, none⟩) (by first | omega | (simp; done) | (simp; omega)) (.int .i64 CC)).setCell (p := ⟨w.heap.size + 1 + 1, 1, none⟩) (by first | omega | (simp; done) | (simp; omega)) (.slice B n k)
    clear B22 b2 f0 f1 j0 j1
    revert hblk4 hbel4
    generalize World.setCell _ _ _ = W
    intro hblk4 hbel4
    have e0 : W.cell? ⟨w.heap.size + 1 + 1, 0, none⟩ = some (.int .i64 CC) := hblk4.cell 0
    have e1 : W.cell? ⟨w.heap.size + 1 + 1, 1, none⟩ = some (.slice B n k) := hblk4.cell 1
    refine bodyPost_ret (v := .agg #[.int .i64 CC, .slice B n k]) (by simp [results, Try.results179, go_sem, e0, e1]) rfl ⟨_, _, _, rfl, hbel4⟩

set_option maxRecDepth 100000 in
set_option maxHeartbeats 2000000 in
theorem WideCmp_pp (x y : Int) (d d' : List Int) (A A' : Option Addr) (c c' : Nat) (w : World) (hx : WideIs x 1 d) (hy : WideIs y 1 d') (hs : Sl w A (iv d)) (hs' : Sl w A' (iv d')) (hl : d.length ≤ 50) (hl' : d'.length ≤ 50) (hxp : 0 < x) (hyp : 0 < y) :
    Calls Try.prog 125 #[.agg #[.int .i64 1, .slice A d.length c], .agg #[.int .i64 1, .slice A' d'.length c']] w fun e w' => e = .returned (.int .i64 (cmp3 x y)) ∧ Below w.heap.size w w' := by
  have HS := hide hs; clear hs
  have HS' := hide hs'; clear hs'
  have HX := hide hx; clear hx
  have HY := hide hy; clear hy
  have hfd := fun A n c => field_wide (cmp3 x y) A n c
  go_enter Try.func125, Try.ntmps125
  go_wp2_with (go_at_call 179; go_must (refine (WideSub_pp x y d d' A A' c c' _ HX.out HY.out (HS.out.bel (by go_grown)) (HS'.out.bel (by go_grown)) hl hl' hxp hyp).mono ?_; rintro e w1 ⟨B, n, k, rfl, hb⟩; have b1 : Below w.heap.size w w1 := Below.step (by go_grown) hb; clear hb; simp only []))
  go_ret
  exact ⟨rfl, by go_grown⟩
end Go.Proofs.Ythfmjohbokpceaa
