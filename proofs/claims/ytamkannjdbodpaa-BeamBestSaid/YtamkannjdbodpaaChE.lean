import Derived.Test.YtamkannjdbodpaaChD
namespace Go.Proofs.Ytamkannjdbodpaa
open Go.RowKit Go.WideShapes Go.ChangeShapes

def lenE (g h : List (Int × Int)) : Int := unlessE (decide (g.length = h.length)) 13
def bothE (g h : List (Int × Int)) : Int := firstOf [chE g, chE h, lenE g h]
def twoE (g h : List (Int × Int)) : Int := firstOf [chE g, chE h, lenE g h, unlessE (g.any someG && h.any someG) 11]
theorem lenEq (a b : Nat) : ((a : Int) == (b : Int)) = decide (a = b) := by
  by_cases h : a = b
  · subst h; simp
  · simp [h]; omega

set_option maxRecDepth 100000 in
set_option maxHeartbeats 2000000 in
theorem openTwo_beam (A B : Option Addr) (c c' : Nat) (g h : List (Int × Int)) (w : World) (hs : Sl w A (gv g)) (hs' : Sl w B (gv h)) (hl : g.length ≤ 100) (hl' : h.length ≤ 100) :
    Calls Try.prog 124 #[.slice A g.length c, .slice B h.length c'] w fun e w' => ∃ X k xs Y k' ys, e = .returned (.tuple #[.slice X g.length k, .slice Y h.length k', .int .i64 (twoE g h)]) ∧ (Small 9000000000000 g → ChIs xs g) ∧ (Small 9000000000000 h → ChIs ys h) ∧ Sl w' X xs ∧ Sl w' Y ys ∧ Below w.heap.size w w' := by
  have HS := hide hs; clear hs
  have HS' := hide hs'; clear hs'
  have HE := hide (show twoE g h = firstOf [chE g, chE h, lenE g h, unlessE (g.any someG && h.any someG) 11] from rfl)
  have HL := hide (show lenE g h = unlessE (decide (g.length = h.length)) 13 from rfl)
  have hlq := lenEq g.length h.length
  cases hz : g.any someG
  · rw [hz, Bool.false_and] at HE
    go_enter Try.func124, Try.ntmps124
    go_wp2_with (first
      | (go_at_call 130; refine (channelErr_beam B c' h _ (HS'.out.bel b1) (by omega)).mono ?_; rintro e w2 ⟨rfl, hb2⟩; have b2 : Below w.heap.size w w2 := Below.step b1 hb2; clear hb2; simp only [])
      | (go_at_call 130; refine (channelErr_beam A c g _ (HS.out) (by omega)).mono ?_; rintro e w1 ⟨rfl, hb1⟩; have b1 : Below w.heap.size w w1 := hb1; clear hb1; simp only [])
      | (go_at_call 94; refine (unless_any _ _ _).mono ?_; rintro e w' ⟨rfl, rfl⟩; simp only [])
      | (go_at_call 158; refine (isZero_beam B c' h _ (HS'.out.bel b3) (by omega)).mono ?_; rintro e w4 ⟨rfl, hb4⟩; have b4 : Below w.heap.size w w4 := Below.step b3 hb4; clear hb4; have s4 := b4.size; simp only [])
      | (go_at_call 158; refine (isZero_beam A c g _ (HS.out.bel b2) (by omega)).mono ?_; rintro e w3 ⟨rfl, hb3⟩; have b3 : Below w.heap.size w w3 := Below.step b2 hb3; clear hb3; have s3 := b3.size; rw [hz]; simp only [])
      | (go_at_call 93; refine (first4 _ _ _ _ _ _ (by simp)).mono ?_; rintro e w' ⟨rfl, rfl⟩; simp only [])
      | (go_at_call 131; refine (channelOf_beam B c' h _ (HS'.out.bel b5) (by omega)).mono ?_; rintro e w6 ⟨Y, k', ys, rfl, hy, hyr, hb6⟩; have b6 : Below w.heap.size w w6 := Below.step b5 hb6; have HYR := hide (Sl.of_own hyr); have HY := hide hy; have HXR' := hide (HXR.out.bel hb6); clear hb6 hy hyr; simp only [])
      | (go_at_call 131; refine (channelOf_beam A c g _ (HS.out.bel (by go_grown)) (by omega)).mono ?_; rintro e w5 ⟨X, k, xs, rfl, hx, hxr, hb5⟩; have b5 : Below w.heap.size w w5 := Below.step (by go_grown) hb5; have HXR := hide (Sl.of_own hxr); have HX := hide hx; clear hb5 hx hxr; simp only []))
    refine bodyPost_ret (v := .tuple #[.slice X g.length k, .slice Y h.length k', .int .i64 (twoE g h)]) (by rw [HE.out, HL.out]; simp [results, Try.results124, go_sem]) rfl ⟨X, k, xs, Y, k', ys, rfl, HX.out, HY.out, HXR'.out, HYR.out, b6⟩
  · rw [hz, Bool.true_and] at HE
    go_enter Try.func124, Try.ntmps124
    go_wp2_with (first
      | (go_at_call 130; refine (channelErr_beam B c' h _ (HS'.out.bel b1) (by omega)).mono ?_; rintro e w2 ⟨rfl, hb2⟩; have b2 : Below w.heap.size w w2 := Below.step b1 hb2; clear hb2; simp only [])
      | (go_at_call 130; refine (channelErr_beam A c g _ (HS.out) (by omega)).mono ?_; rintro e w1 ⟨rfl, hb1⟩; have b1 : Below w.heap.size w w1 := hb1; clear hb1; simp only [])
      | (go_at_call 94; refine (unless_any _ _ _).mono ?_; rintro e w' ⟨rfl, rfl⟩; simp only [])
      | (go_at_call 158; refine (isZero_beam B c' h _ (HS'.out.bel b3) (by omega)).mono ?_; rintro e w4 ⟨rfl, hb4⟩; have b4 : Below w.heap.size w w4 := Below.step b3 hb4; clear hb4; have s4 := b4.size; simp only [])
      | (go_at_call 158; refine (isZero_beam A c g _ (HS.out.bel b2) (by omega)).mono ?_; rintro e w3 ⟨rfl, hb3⟩; have b3 : Below w.heap.size w w3 := Below.step b2 hb3; clear hb3; have s3 := b3.size; rw [hz]; simp only [])
      | (go_at_call 93; refine (first4 _ _ _ _ _ _ (by simp)).mono ?_; rintro e w' ⟨rfl, rfl⟩; simp only [])
      | (go_at_call 131; refine (channelOf_beam B c' h _ (HS'.out.bel b5) (by omega)).mono ?_; rintro e w6 ⟨Y, k', ys, rfl, hy, hyr, hb6⟩; have b6 : Below w.heap.size w w6 := Below.step b5 hb6; have HYR := hide (Sl.of_own hyr); have HY := hide hy; have HXR' := hide (HXR.out.bel hb6); clear hb6 hy hyr; simp only [])
      | (go_at_call 131; refine (channelOf_beam A c g _ (HS.out.bel (by go_grown)) (by omega)).mono ?_; rintro e w5 ⟨X, k, xs, rfl, hx, hxr, hb5⟩; have b5 : Below w.heap.size w w5 := Below.step (by go_grown) hb5; have HXR := hide (Sl.of_own hxr); have HX := hide hx; clear hb5 hx hxr; simp only []))
    refine bodyPost_ret (v := .tuple #[.slice X g.length k, .slice Y h.length k', .int .i64 (twoE g h)]) (by rw [HE.out, HL.out]; simp [results, Try.results124, go_sem]) rfl ⟨X, k, xs, Y, k', ys, rfl, HX.out, HY.out, HXR'.out, HYR.out, b6⟩
end Go.Proofs.Ytamkannjdbodpaa
