import Derived.Test.YtamkannjdbodpaaMost
namespace Go.Proofs.Ytamkannjdbodpaa
open Go.RowKit Go.WideShapes Go.ChangeShapes

/-- may two users share -/
def shB (g h : List (Int × Int)) (a b : Int) : Bool := decide (pN g h * b ≤ a * pD g h)
set_option maxRecDepth 100000 in
set_option maxHeartbeats 4000000 in
theorem chMay_beam (X Y : Option Addr) (k k' n : Nat) (g h : List (Int × Int)) (xs ys : List Value) (a b : Int) (w : World) (hs : Sl w X xs) (hs' : Sl w Y ys) (hx : ChIs xs g) (hy : ChIs ys h) (h0 : twoE g h = 0) (hg : g.length = n) (hh : h.length = n) (hm : mostE a b = 0) :
    Calls Try.prog 141 #[.slice X n k, .slice Y n k', .agg #[.int .i64 a, .int .i64 b]] w fun e w' => e = .returned (.bool (shB g h a b)) ∧ Below w.heap.size w w' := by
  have HP := hide (fun W hb hb' => parts_at X Y k k' n g h xs ys W hb hb' hx hy h0 hg hh)
  have HS := hide hs; clear hs
  have HS' := hide hs'; clear hs'
  obtain ⟨b1, b2, a1, a2, _⟩ := mostE_ok hm
  obtain ⟨d1, d2⟩ := pD_bd h0
  obtain ⟨n1, n2⟩ := pN_bd h0
  have HV := hide (show shB g h a b = decide (pN g h * b ≤ a * pD g h) from rfl)
  obtain ⟨N, hN⟩ : ∃ N, pN g h = N := ⟨_, rfl⟩
  obtain ⟨D, hD⟩ : ∃ D, pD g h = D := ⟨_, rfl⟩
  rw [hN] at n1 n2 HP HV
  rw [hD] at d1 d2 HP HV
  obtain ⟨p1, p2⟩ := mul_bd2 (a := N) (b := b) (m := 414720000) (n := 1000000000) (by omega) (by omega) (by omega) (by omega)
  obtain ⟨p3, p4⟩ := mul_bd2 (a := a) (b := D) (m := 1000000000) (n := 207360000) (by omega) (by omega) (by omega) (by omega)
  clear hx hy h0 hg hh hm hN hD
  go_enter Try.func141, Try.ntmps141
  go_wp2_with (go_at_call 129; go_must (refine (HP.out _ (HS.out.bel (by go_grown)) (HS'.out.bel (by go_grown))).mono ?_; rintro e w1 ⟨rfl, hb1⟩; have b1 : Below w.heap.size w w1 := Below.step (by go_grown) hb1; obtain ⟨hc1, hf1, y10⟩ := bloc1 w hb1 (by first | omega | (simp; done) | (simp; omega)); clear hb1; simp only []))
  go_ret
  exact ⟨by rw [HV.out]; rfl, b1⟩

def mayE (g h : List (Int × Int)) (a b : Int) : Int := firstOf [twoE g h, mostE a b]
set_option maxRecDepth 100000 in
set_option maxHeartbeats 4000000 in
theorem mayShare_err (A B : Option Addr) (c c' : Nat) (g h : List (Int × Int)) (a b : Int) (w : World) (h0 : mayE g h a b ≠ 0) (hs : Sl w A (gv g)) (hs' : Sl w B (gv h)) (hl : g.length ≤ 100) (hl' : h.length ≤ 100)
    (a1 : -9223372036854775808 ≤ a) (a2 : a ≤ 9223372036854775807) (b2 : b ≤ 9223372036854775807) :
    Calls Try.prog 75 #[.slice A g.length c, .slice B h.length c', .agg #[.int .i64 a, .int .i64 b]] w fun e w' => e = .returned (.tuple #[.bool false, .int .i64 (mayE g h a b)]) ∧ Below w.heap.size w w' := by
  have HO := hide (fun W hb hb' => openTwo_err A B c c' g h W hb hb' hl hl')
  have HM := hide (fun W => mostErr_beam a b W a1 a2 b2)
  have HS := hide hs; clear hs
  have HS' := hide hs'; clear hs'
  have hne : (mayE g h a b != 0) = true := by rw [bne_iff_ne]; exact h0
  have hdef : mayE g h a b = firstOf [twoE g h, mostE a b] := rfl
  obtain ⟨E, hE⟩ : ∃ E, twoE g h = E := ⟨_, rfl⟩
  obtain ⟨M, hM⟩ : ∃ M, mostE a b = M := ⟨_, rfl⟩
  rw [hdef, hE, hM] at hne
  rw [hdef, hE, hM]
  rw [hE] at HO
  rw [hM] at HM
  clear h0 hE hM hdef a1 a2 b2
  go_enter Try.func75, Try.ntmps75
  go_wp2_with (first
    | (go_at_call 124; refine (HO.out _ (HS.out.bel (by go_grown)) (HS'.out.bel (by go_grown))).mono ?_; rintro e w1 ⟨X, k, Y, k', rfl, hb1⟩; have b1 : Below w.heap.size w w1 := Below.step (by go_grown) hb1; obtain ⟨hc1, hf1, y10⟩ := bloc1 w hb1 (by first | omega | (simp; done) | (simp; omega)); clear hb1; simp only [])
    | (go_at_call 140; refine (HM.out _).mono ?_; rintro e w2 ⟨rfl, hb2⟩; have b2 : Below w.heap.size w w2 := Below.step b1 hb2; obtain ⟨hc2, hf2, y20⟩ := bloc1 w hb2 (by first | omega | (simp; done) | (simp; omega)); clear hb2; simp only [])
    | (go_at_call 93; refine (first2 _ _ _ _ (by simp)).mono ?_; rintro e w' ⟨rfl, rfl⟩; simp only []))
  go_ret2
  exact ⟨rfl, by go_grown⟩
set_option maxRecDepth 100000 in
set_option maxHeartbeats 4000000 in
theorem mayShare_ok (A B : Option Addr) (c c' n : Nat) (g h : List (Int × Int)) (a b : Int) (w : World) (h0 : twoE g h = 0) (hm : mostE a b = 0) (hg : g.length = n) (hh : h.length = n) (hs : Sl w A (gv g)) (hs' : Sl w B (gv h)) :
    Calls Try.prog 75 #[.slice A n c, .slice B n c', .agg #[.int .i64 a, .int .i64 b]] w fun e w' => e = .returned (.tuple #[.bool (shB g h a b), .int .i64 0]) ∧ Below w.heap.size w w' := by
  obtain ⟨m1, m2, m3, m4, _⟩ := mostE_ok hm
  have HO := hide (fun W hb hb' => openTwo_ok A B c c' n g h W h0 hg hh hb hb')
  have HM := hide (fun W => mostErr_beam a b W (by omega) (by omega) (by omega))
  have HC := hide (fun X Y k k' xs ys W hs hs' hx hy => chMay_beam X Y k k' n g h xs ys a b W hs hs' hx hy h0 hg hh hm)
  rw [hm] at HM
  have HS := hide hs; clear hs
  have HS' := hide hs'; clear hs'
  have hz : (firstOf [0, 0] != 0) = false := rfl
  clear h0 hm m1 m2 m3 m4 hg hh
  go_enter Try.func75, Try.ntmps75
  go_wp2_with (first
    | (go_at_call 124; refine (HO.out _ (HS.out.bel (by go_grown)) (HS'.out.bel (by go_grown))).mono ?_; rintro e w1 ⟨X, k, xs, Y, k', ys, rfl, hx, hy, hsx, hsy, hb1⟩; have HX := hide hx; have HY := hide hy; have HSX := hide hsx; have HSY := hide hsy; have b1 : Below w.heap.size w w1 := Below.step (by go_grown) hb1; obtain ⟨hc1, hf1, y10⟩ := bloc1 w hb1 (by first | omega | (simp; done) | (simp; omega)); clear hb1 hx hy hsx hsy; simp only [])
    | (go_at_call 140; refine (HM.out _).mono ?_; rintro e w2 ⟨rfl, hb2⟩; have b2 : Below w.heap.size w w2 := Below.step b1 hb2; have HSX2 := hide (HSX.out.bel hb2); have HSY2 := hide (HSY.out.bel hb2); obtain ⟨hc2, hf2, y20⟩ := bloc1 w hb2 (by first | omega | (simp; done) | (simp; omega)); clear hb2; simp only [])
    | (go_at_call 93; refine (first2 _ _ _ _ (by simp)).mono ?_; rintro e w' ⟨rfl, rfl⟩; simp only [])
    | (go_at_call 141; refine (HC.out _ _ _ _ _ _ _ (HSX2.out.bel (by go_grown)) (HSY2.out.bel (by go_grown)) HX.out HY.out).mono ?_; rintro e w3 ⟨rfl, hb3⟩; have b3 : Below w.heap.size w w3 := Below.step (by go_grown) hb3; clear hb3; simp only []))
  go_ret2
  exact ⟨rfl, by go_grown⟩
end Go.Proofs.Ytamkannjdbodpaa
