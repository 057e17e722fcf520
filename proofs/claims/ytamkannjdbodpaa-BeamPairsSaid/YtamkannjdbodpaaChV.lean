import Derived.Test.YtamkannjdbodpaaChU
namespace Go.Proofs.Ytamkannjdbodpaa
open Go.RowKit Go.WideShapes Go.ChangeShapes

set_option maxRecDepth 100000 in
set_option maxHeartbeats 2000000 in
theorem gcd_base (num den : Int) (w : World) (h1 : -9223372036854775808 ≤ num) (h2 : num ≤ 9223372036854775807) (h3 : 1 ≤ den) (h4 : den ≤ 9223372036854775807) :
    Calls Try.prog 162 #[.int .i64 num, .int .i64 den] w fun e w' => e = .returned (.int .i64 (Int.gcd num den)) ∧ ∃ n, w' = w.drewN n := by
  obtain ⟨G, hG⟩ : ∃ G : Int, (Int.gcd num den : Int) = G := ⟨_, rfl⟩
  have hGl : G ≤ den := by
    rw [← hG]
    exact Int.le_of_dvd (by omega : 0 < den) (Int.gcd_dvd_right num den)
  have HG := hide hG
  rw [hG]
  clear hG
  go_enter Try.func162, Try.ntmps162
  go_wp2
  go_loopw [0, 1] (fun a b wr => ∃ x y : Int, a = .int .i64 x ∧ b = .int .i64 y ∧ -9223372036854775808 ≤ x ∧ x ≤ 9223372036854775807 ∧ -9223372036854775808 ≤ y ∧ y ≤ 9223372036854775807 ∧ (Int.gcd x y : Int) = G ∧ ∃ n, wr = w.drewN n) (fun _ b _ => (intOf b).natAbs)
  case atStart => exact ⟨num, den, rfl, rfl, h1, h2, by omega, h4, HG.out, 0, rfl⟩
  case round =>
    obtain ⟨x, y, rfl, rfl, x1, x2, y1, y2, hg, n, rfl⟩ := hrel
    by_cases h0 : y = 0
    · have hd : (y != 0) = false := by simp [h0]
      have hmx : (x.natAbs : Int) = G := by
        rw [h0] at hg
        rw [← hg, Int.gcd_zero_right]
      have HS := hide (fun W => size_base x (by omega) (by omega) W)
      rw [hmx] at HS
      clear hg h0 hmx
      go_wp2_with (go_at_call 176; refine (HS.out _).mono ?_; rintro e w' ⟨rfl, rfl⟩; simp only [])
      go_ret
      exact ⟨rfl, n, rfl⟩
    · have hd : (y != 0) = true := by simp [h0]
      have hst := hide (gcd_step x y)
      have hgg := hide hg
      have hlt := hide (show (x.tmod y).natAbs < y.natAbs by rw [Int.natAbs_tmod]; exact Nat.mod_lt _ (by omega))
      have ht : -9223372036854775808 ≤ x.tmod y ∧ x.tmod y ≤ 9223372036854775807 := by have := hlt.out; omega
      obtain ⟨t1, t2⟩ := ht
      clear hg
      go_wp2
      go_quiet (fail)
      go_wp2
      go_roundw
      case rel => exact ⟨y, x.tmod y, rfl, rfl, y1, y2, t1, t2, by rw [hst.out]; exact hgg.out, by first | exact ⟨_, rfl⟩ | exact drewN2 _ _ _⟩
      case measure => simp [intOf]; exact Nat.mod_lt _ (by omega)
theorem tdiv_le (num G : Int) (h1 : -9223372036854775808 ≤ num) (h2 : num ≤ 9223372036854775807) (h3 : 1 ≤ G) : -9223372036854775808 ≤ num.tdiv G ∧ num.tdiv G ≤ 9223372036854775807 := by
  have h : (num.tdiv G).natAbs ≤ num.natAbs := by rw [Int.natAbs_tdiv]; exact Nat.div_le_self _ _
  by_cases hs : 0 ≤ num
  · omega
  · have := Int.tdiv_nonneg (a := -num) (b := G) (by omega) (by omega)
    rw [Int.neg_tdiv] at this
    omega
set_option maxRecDepth 100000 in
set_option maxHeartbeats 2000000 in
theorem lowest_base (num den : Int) (w : World) (h1 : -9223372036854775808 ≤ num) (h2 : num ≤ 9223372036854775807) (h3 : 1 ≤ den) (h4 : den ≤ 9223372036854775807) :
    Calls Try.prog 132 #[.int .i64 num, .int .i64 den] w fun e w' => e = .returned (.agg #[.int .i64 (lowN num den), .int .i64 (lowD num den)]) ∧ Below w.heap.size w w' := by
  have HC := hide (fun W => gcd_base num den W h1 h2 h3 h4)
  have hG1 := low_gcd num den h3
  have hN : lowN num den = num.tdiv (Int.gcd num den) := rfl
  have hD : lowD num den = den.tdiv (Int.gcd num den) := rfl
  obtain ⟨G, hG⟩ : ∃ G : Int, (Int.gcd num den : Int) = G := ⟨_, rfl⟩
  rw [hG] at HC hG1 hN hD
  obtain ⟨n1, n2⟩ := tdiv_le num G h1 h2 hG1
  obtain ⟨n3, n4⟩ := tdiv_le den G (by omega) h4 hG1
  rw [hN, hD]
  clear hG hN hD
  have hg0 : G ≠ 0 := by omega
  go_enter Try.func132, Try.ntmps132
  go_wp2_with (go_at_call 162; refine (HC.out _).mono ?_; rintro e w' ⟨rfl, n, rfl⟩; simp only [])
  go_region
  all_goals
    go_wp2
    have B0 := (Blk.new w 86 #[.int .i64 0, .int .i64 0]).drewN (n + 1)
    have hb2 := (B0.set_ 0 (.int .i64 (num.tdiv G))).set_ 1 (.int .i64 (den.tdiv G))
    have hbel := below_drewN ((Below.refl w.heap.size w).alloc (Nat.le_refl _) (.cells #[.int .i64 0, .int .i64 0] 86)) (n + 1)
    have hbel2 := (hbel.setCell (p := ⟨w.heap.size, 0, none⟩) (by simp) (.int .i64 (num.tdiv G))).setCell (p := ⟨w.heap.size, 1, none⟩) (by simp) (.int .i64 (den.tdiv G))
    clear B0 hbel
    revert hb2 hbel2
    generalize World.setCell _ _ _ = W
    intro hb2 hbel2
    have e0 : W.cell? ⟨w.heap.size, 0, none⟩ = some (.int .i64 (num.tdiv G)) := hb2.cell 0
    have e1 : W.cell? ⟨w.heap.size, 1, none⟩ = some (.int .i64 (den.tdiv G)) := hb2.cell 1
    refine bodyPost_ret (v := .agg #[.int .i64 (num.tdiv G), .int .i64 (den.tdiv G)]) (by simp [results, Try.results132, go_sem, e0, e1]) rfl ⟨rfl, hbel2⟩

set_option maxRecDepth 100000 in
set_option maxHeartbeats 2000000 in
theorem partOf_ref (A B : Option Addr) (c c' n : Nat) (g h : List (Int × Int)) (w : World) (h0 : twoE g h = 0) (hg : g.length = n) (hh : h.length = n) (hs : Sl w A (gv g)) (hs' : Sl w B (gv h)) :
    Calls Try.prog 63 #[.slice A n c, .slice B n c'] w fun e w' => e = .returned (.agg #[.int .i64 (lowN (pN g h) (pD g h)), .int .i64 (lowD (pN g h) (pD g h))]) ∧ Below w.heap.size w w' := by
  obtain ⟨-, sg, sh, -, -, -⟩ := twoE_ok h0
  have HS := hide hs; clear hs
  have HS' := hide hs'; clear hs'
  have HI := hide (fun W hb hb' => innerOf_ref A B c c' n g h W hb hb' hg hh sg sh)
  have HG := hide (fun W hb => energy_ref A c n g W hb hg sg)
  have HH := hide (fun W hb => energy_ref B c' n h W hb hh sh)
  obtain ⟨d1, d2⟩ := pD_bd h0
  obtain ⟨n1, n2⟩ := pN_bd h0
  have K := hide (show cle 1000000000 (innerZ g h n) by have := Ch30.in_ sg sh; rw [hg] at this; unfold cle at *; omega)
  obtain ⟨g1, g2⟩ := sg.en
  obtain ⟨g3, g4⟩ := sh.en
  have hN : nrm (innerZ g h n) = pN g h := by unfold pN; rw [hg]
  have hD : enG g n * enG h n = pD g h := by unfold pD; rw [hg, hh]
  rw [hg] at g1 g2
  rw [hh] at g3 g4
  obtain ⟨Z, hZ⟩ : ∃ Z, innerZ g h n = Z := ⟨_, rfl⟩
  rw [hZ] at HI K hN
  obtain ⟨P, hP⟩ : ∃ P, enG g n = P := ⟨_, rfl⟩
  obtain ⟨Q, hQ⟩ : ∃ Q, enG h n = Q := ⟨_, rfl⟩
  rw [hP] at HG g1 g2 hD
  rw [hQ] at HH g3 g4 hD
  obtain ⟨N, hN'⟩ : ∃ N, pN g h = N := ⟨_, rfl⟩
  obtain ⟨D, hD'⟩ : ∃ D, pD g h = D := ⟨_, rfl⟩
  rw [hN'] at n1 n2 hN
  rw [hD'] at d1 d2 hD
  rw [hN', hD']
  have p1 : 1 ≤ P * Q := by omega
  have p2 : P * Q ≤ 207360000 := by omega
  have HN := hide hN
  have HD := hide hD
  clear h0 sg sh hZ hP hQ hN' hD' hN hD hg hh
  go_enter Try.func63, Try.ntmps63
  go_wp2_with (first
    | (go_at_call 132; rw [HD.out]; refine (lowest_base N D _ (by omega) (by omega) d1 (by omega)).mono ?_; rintro e w5 ⟨rfl, hb5⟩; have b5 : Below w.heap.size w w5 := Below.step b4 hb5; obtain ⟨hc5, hf5, y50⟩ := bloc1 w hb5 (by first | omega | (simp; done) | (simp; omega)); clear hb5; simp only [])
    | (go_at_call 91; refine (HH.out _ (HS'.out.bel b3)).mono ?_; rintro e w4 ⟨rfl, hb4⟩; have b4 : Below w.heap.size w w4 := Below.step b3 hb4; obtain ⟨hc4, hf4, y40⟩ := bloc1 w hb4 (by first | omega | (simp; done) | (simp; omega)); clear hb4; simp only [])
    | (go_at_call 91; refine (HG.out _ (HS.out.bel b2)).mono ?_; rintro e w3 ⟨rfl, hb3⟩; have b3 : Below w.heap.size w w3 := Below.step b2 hb3; obtain ⟨hc3, hf3, y30⟩ := bloc1 w hb3 (by first | omega | (simp; done) | (simp; omega)); clear hb3; simp only [])
    | (go_at_call 133; refine (gnorm_ref Z _ K.out).mono ?_; rintro e w2 ⟨rfl, hb2⟩; have b2 : Below w.heap.size w w2 := Below.step b1 hb2; obtain ⟨hc2, hf2, y20⟩ := bloc1 w hb2 (by first | omega | (simp; done) | (simp; omega)); clear hb2; rw [HN.out]; simp only [])
    | (go_at_call 62; refine (HI.out _ (HS.out.bel (by go_grown)) (HS'.out.bel (by go_grown))).mono ?_; rintro e w1 ⟨rfl, hb1⟩; have b1 : Below w.heap.size w w1 := Below.step (by go_grown) hb1; obtain ⟨hc1, hf1, y10⟩ := bloc1 w hb1 (by first | omega | (simp; done) | (simp; omega)); clear hb1; simp only []))
  refine bodyPost_ret (v := .agg #[.int .i64 (lowN N D), .int .i64 (lowD N D)]) (by simp [results, Try.results63, go_sem, hc5, hc4, hc3, hc2, hc1]) rfl ⟨rfl, by go_grown⟩
set_option maxRecDepth 100000 in
set_option maxHeartbeats 2000000 in
theorem keptOf_ref (A B : Option Addr) (c c' n : Nat) (g h : List (Int × Int)) (w : World) (h0 : twoE g h = 0) (hg : g.length = n) (hh : h.length = n) (hs : Sl w A (gv g)) (hs' : Sl w B (gv h)) :
    Calls Try.prog 64 #[.slice A n c, .slice B n c'] w fun e w' => e = .returned (.agg #[.int .i64 (lowN (pD g h - pN g h) (pD g h)), .int .i64 (lowD (pD g h - pN g h) (pD g h))]) ∧ Below w.heap.size w w' := by
  obtain ⟨-, sg, sh, -, -, -⟩ := twoE_ok h0
  have HS := hide hs; clear hs
  have HS' := hide hs'; clear hs'
  have HI := hide (fun W hb hb' => innerOf_ref A B c c' n g h W hb hb' hg hh sg sh)
  have HG := hide (fun W hb => energy_ref A c n g W hb hg sg)
  have HH := hide (fun W hb => energy_ref B c' n h W hb hh sh)
  obtain ⟨d1, d2⟩ := pD_bd h0
  obtain ⟨n1, n2⟩ := pN_bd h0
  have K := hide (show cle 1000000000 (innerZ g h n) by have := Ch30.in_ sg sh; rw [hg] at this; unfold cle at *; omega)
  obtain ⟨g1, g2⟩ := sg.en
  obtain ⟨g3, g4⟩ := sh.en
  have hN : nrm (innerZ g h n) = pN g h := by unfold pN; rw [hg]
  have hD : enG g n * enG h n = pD g h := by unfold pD; rw [hg, hh]
  rw [hg] at g1 g2
  rw [hh] at g3 g4
  obtain ⟨Z, hZ⟩ : ∃ Z, innerZ g h n = Z := ⟨_, rfl⟩
  rw [hZ] at HI K hN
  obtain ⟨P, hP⟩ : ∃ P, enG g n = P := ⟨_, rfl⟩
  obtain ⟨Q, hQ⟩ : ∃ Q, enG h n = Q := ⟨_, rfl⟩
  rw [hP] at HG g1 g2 hD
  rw [hQ] at HH g3 g4 hD
  obtain ⟨N, hN'⟩ : ∃ N, pN g h = N := ⟨_, rfl⟩
  obtain ⟨D, hD'⟩ : ∃ D, pD g h = D := ⟨_, rfl⟩
  rw [hN'] at n1 n2 hN
  rw [hD'] at d1 d2 hD
  rw [hN', hD']
  have p1 : 1 ≤ P * Q := by omega
  have p2 : P * Q ≤ 207360000 := by omega
  have HN := hide hN
  have HD := hide hD
  clear h0 sg sh hZ hP hQ hN' hD' hN hD hg hh
  go_enter Try.func64, Try.ntmps64
  go_wp2_with (first
    | (go_at_call 132; rw [HD.out]; refine (lowest_base (D - N) D _ (by omega) (by omega) d1 (by omega)).mono ?_; rintro e w5 ⟨rfl, hb5⟩; have b5 : Below w.heap.size w w5 := Below.step b4 hb5; obtain ⟨hc5, hf5, y50⟩ := bloc1 w hb5 (by first | omega | (simp; done) | (simp; omega)); clear hb5; simp only [])
    | (go_at_call 133; refine (gnorm_ref Z _ K.out).mono ?_; rintro e w4 ⟨rfl, hb4⟩; have b4 : Below w.heap.size w w4 := Below.step b3 hb4; obtain ⟨hc4, hf4, y40⟩ := bloc1 w hb4 (by first | omega | (simp; done) | (simp; omega)); clear hb4; rw [HN.out]; simp only [])
    | (go_at_call 62; refine (HI.out _ (HS.out.bel b2) (HS'.out.bel b2)).mono ?_; rintro e w3 ⟨rfl, hb3⟩; have b3 : Below w.heap.size w w3 := Below.step b2 hb3; obtain ⟨hc3, hf3, y30⟩ := bloc1 w hb3 (by first | omega | (simp; done) | (simp; omega)); clear hb3; simp only [])
    | (go_at_call 91; refine (HH.out _ (HS'.out.bel b1)).mono ?_; rintro e w2 ⟨rfl, hb2⟩; have b2 : Below w.heap.size w w2 := Below.step b1 hb2; obtain ⟨hc2, hf2, y20⟩ := bloc1 w hb2 (by first | omega | (simp; done) | (simp; omega)); clear hb2; simp only [])
    | (go_at_call 91; refine (HG.out _ (HS.out.bel (by go_grown))).mono ?_; rintro e w1 ⟨rfl, hb1⟩; have b1 : Below w.heap.size w w1 := Below.step (by go_grown) hb1; obtain ⟨hc1, hf1, y10⟩ := bloc1 w hb1 (by first | omega | (simp; done) | (simp; omega)); clear hb1; simp only []))
  refine bodyPost_ret (v := .agg #[.int .i64 (lowN (D - N) D), .int .i64 (lowD (D - N) D)]) (by simp [results, Try.results64, go_sem, hc5, hc4, hc3, hc2, hc1]) rfl ⟨rfl, by go_grown⟩

end Go.Proofs.Ytamkannjdbodpaa
