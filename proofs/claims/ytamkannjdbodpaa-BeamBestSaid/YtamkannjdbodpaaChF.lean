import Derived.Test.YtamkannjdbodpaaChE
namespace Go.Proofs.Ytamkannjdbodpaa
open Go.RowKit Go.WideShapes Go.ChangeShapes

theorem firstOf_ok : ∀ {l : List Int}, firstOf l = 0 → ∀ x ∈ l, x = 0
  | [], _, x, h => absurd h (by simp)
  | a :: r, e, x, h => by
    unfold firstOf at e
    by_cases q : a = 0
    · rcases List.mem_cons.1 h with rfl | h
      · exact q
      · refine firstOf_ok (l := r) ?_ x h
        simpa [q] using e
    · simp [q] at e
theorem firstOf3_ok {a b c : Int} (h : firstOf [a, b, c] = 0) : a = 0 ∧ b = 0 ∧ c = 0 := ⟨firstOf_ok h a (by simp), firstOf_ok h b (by simp), firstOf_ok h c (by simp)⟩
theorem chE_ok {g : List (Int × Int)} (h : chE g = 0) : 1 ≤ g.length ∧ Ch30 g := by
  unfold chE at h
  obtain ⟨h1, h2, h3⟩ := firstOf3_ok h
  unfold unlessE at h1 h2 h3
  have a1 : 0 < (g.length : Int) := by
    by_cases q : 0 < (g.length : Int)
    · exact q
    · rw [decide_eq_false q] at h1; simp at h1
  have a2 : (g.length : Int) ≤ 8 := by
    by_cases q : (g.length : Int) ≤ 8
    · exact q
    · rw [decide_eq_false q] at h2; simp at h2
  have a3 : g.any greatG = false := by
    cases q : g.any greatG
    · rfl
    · rw [q] at h3; simp at h3
  refine ⟨by omega, by omega, fun z hz => ?_⟩
  have := List.any_eq_false.1 a3 z hz
  unfold greatG withinB at this
  unfold cle
  simp at this
  omega
theorem lenE_ok {g h : List (Int × Int)} (e : lenE g h = 0) : g.length = h.length := by
  unfold lenE unlessE at e
  by_cases q : g.length = h.length
  · exact q
  · rw [decide_eq_false q] at e; simp at e
theorem bothE_ok {g h : List (Int × Int)} (e : bothE g h = 0) : 1 ≤ g.length ∧ Ch30 g ∧ Ch30 h ∧ g.length = h.length := by
  obtain ⟨h1, h2, h3⟩ := firstOf3_ok e
  exact ⟨(chE_ok h1).1, (chE_ok h1).2, (chE_ok h2).2, lenE_ok h3⟩
theorem channelErr_at (A : Option Addr) (c n : Nat) (h : List (Int × Int)) (w : World) (hn : h.length = n) (hs : Sl w A (gv h)) (hl : n ≤ 1000) :
    Calls Try.prog 130 #[.slice A n c] w fun e w' => e = .returned (.int .i64 (chE h)) ∧ Below w.heap.size w w' := by
  subst hn; exact channelErr_beam A c h w hs hl
theorem channelOf_at (A : Option Addr) (c n : Nat) (h : List (Int × Int)) (w : World) (hn : h.length = n) (hs : Sl w A (gv h)) (hl : n ≤ 100) :
    Calls Try.prog 131 #[.slice A n c] w fun e w' => ∃ B k xs, e = .returned (.slice B n k) ∧ (Small 9000000000000 h → ChIs xs h) ∧ Sl w' B xs ∧ Below w.heap.size w w' := by
  subst hn
  exact (channelOf_beam A c h w hs hl).mono fun e w' ⟨B, k, xs, h1, h2, h3, h4⟩ => ⟨B, k, xs, h1, h2, Sl.of_own h3, h4⟩
def inV (g h : List (Int × Int)) : Int × Int := if bothE g h = 0 then innerZ g h g.length else (0, 0)
set_option maxRecDepth 100000 in
set_option maxHeartbeats 2000000 in
theorem innerOf_beam (A B : Option Addr) (c c' : Nat) (g h : List (Int × Int)) (w : World) (hs : Sl w A (gv g)) (hs' : Sl w B (gv h)) (hl : g.length ≤ 100) (hl' : h.length ≤ 100) :
    Calls Try.prog 60 #[.slice A g.length c, .slice B h.length c'] w fun e w' => e = .returned (.tuple #[.agg #[.int .i64 (inV g h).1, .int .i64 (inV g h).2], .int .i64 (bothE g h)]) ∧ Below w.heap.size w w' := by
  have HS := hide hs; clear hs
  have HS' := hide hs'; clear hs'
  by_cases h0 : bothE g h = 0
  · obtain ⟨g1, g2, g3, g4⟩ := bothE_ok h0
    have hv : inV g h = innerZ g h g.length := if_pos h0
    have hbe : (firstOf [chE g, chE h, unlessE true 13] != 0) = false := by
      have : lenE g h = unlessE true 13 := by unfold lenE; rw [decide_eq_true g4]
      unfold bothE at h0
      rw [this] at h0
      rw [bne_eq_false_iff_eq]; exact h0
    rw [hv, h0]
    obtain ⟨n, hn⟩ : ∃ n, g.length = n := ⟨_, rfl⟩
    have hn' : h.length = n := by omega
    have hk := Ch30.in_ g2 g3
    rw [hn] at hl hk
    rw [hn'] at hl'
    rw [hn, hn']
    obtain ⟨z, hz⟩ : ∃ z, innerZ g h n = z := ⟨_, rfl⟩
    rw [hz] at hk
    rw [hz]
    have K := hide (show cle 1000000000000000 z by unfold cle at *; omega)
    have HI := hide (fun (B B' : Option Addr) k k' xs ys W hb hb' hx hy => inner_beam B B' k k' n g h xs ys W hb hb' hx hy hn hn' (by omega) g2.2 g3.2 (by decide) (by decide) (by decide))
    rw [hz] at HI
    have SG := hide (g2.2.mono (n := 9000000000000) (by decide))
    have SH := hide (g3.2.mono (n := 9000000000000) (by decide))
    clear hv h0 hk g2 g3 g4 hz
    go_enter Try.func60, Try.ntmps60
    go_wp2_with (first
      | (go_at_call 130; refine (channelErr_at B c' n h _ hn' (HS'.out.bel b1) (by omega)).mono ?_; rintro e w2 ⟨rfl, hb2⟩; have b2 : Below w.heap.size w w2 := Below.step b1 hb2; obtain ⟨hc2, hf2, y20⟩ := bloc1 w hb2 (by first | omega | (simp; done) | (simp; omega)); clear hb2; simp only [])
      | (go_at_call 130; refine (channelErr_at A c n g _ hn (HS.out.bel (by go_grown)) (by omega)).mono ?_; rintro e w1 ⟨rfl, hb1⟩; have b1 : Below w.heap.size w w1 := Below.step (by go_grown) hb1; obtain ⟨hc1, hf1, y10⟩ := bloc1 w hb1 (by first | omega | (simp; done) | (simp; omega)); clear hb1; simp only [])
      | (go_at_call 94; refine (unless_any _ _ _).mono ?_; rintro e w' ⟨rfl, rfl⟩; simp only [])
      | (go_at_call 93; refine (first3 _ _ _ _ _ (by simp)).mono ?_; rintro e w' ⟨rfl, rfl⟩; simp only [])
      | (go_at_call 131; refine (channelOf_at B c' n h _ hn' (HS'.out.bel b3) (by omega)).mono ?_; rintro e w4 ⟨Y, k', ys, rfl, hy, hyr, hb4⟩; have b4 : Below w.heap.size w w4 := Below.step b3 hb4; obtain ⟨hc4, hf4, y40⟩ := bloc1 w hb4 (by first | omega | (simp; done) | (simp; omega)); have HYR := hide hyr; have HY := hide (hy SH.out); have HXR' := hide (HXR.out.bel hb4); clear hb4 hy hyr; simp only [])
      | (go_at_call 131; refine (channelOf_at A c n g _ hn (HS.out.bel (by go_grown)) (by omega)).mono ?_; rintro e w3 ⟨X, k, xs, rfl, hx, hxr, hb3⟩; have b3 : Below w.heap.size w w3 := Below.step (by go_grown) hb3; obtain ⟨hc3, hf3, y30⟩ := bloc1 w hb3 (by first | omega | (simp; done) | (simp; omega)); have HXR := hide hxr; have HX := hide (hx SG.out); clear hb3 hx hxr; simp only [])
      | (go_at_call 125; refine (HI.out _ _ _ _ _ _ _ HXR'.out HYR.out HX.out HY.out).mono ?_; rintro e w' ⟨x0, y0, rfl, hI, rfl⟩; have HIs := hide hI; clear hI; simp only [])
      | (go_at_call 127; refine (gauss_beam _ _ _ _ HIs.out K.out).mono ?_; rintro e w5 ⟨rfl, hb5⟩; have b5 : Below w.heap.size w w5 := Below.step b4 hb5; obtain ⟨hc5, hf5, y50⟩ := bloc1 w hb5 (by first | omega | (simp; done) | (simp; omega)); clear hb5; simp only []))
    refine bodyPost_ret (v := .tuple #[.agg #[.int .i64 z.1, .int .i64 z.2], .int .i64 0]) (by simp [results, Try.results60, go_sem, hc5, hc4, hc3, hc2, hc1, y20]) rfl ⟨rfl, by go_grown⟩
  · have hv : inV g h = (0, 0) := if_neg h0
    have hlq := lenEq g.length h.length
    have HB := hide (show bothE g h = firstOf [chE g, chE h, unlessE (decide (g.length = h.length)) 13] from rfl)
    have hbe : (firstOf [chE g, chE h, unlessE (decide (g.length = h.length)) 13] != 0) = true := by rw [bne_iff_ne]; exact h0
    rw [hv]
    clear hv h0
    go_enter Try.func60, Try.ntmps60
    go_wp2_with (first
      | (go_at_call 130; refine (channelErr_beam B c' h _ (HS'.out.bel b1) (by omega)).mono ?_; rintro e w2 ⟨rfl, hb2⟩; have b2 : Below w.heap.size w w2 := Below.step b1 hb2; obtain ⟨hc2, hf2, y20⟩ := bloc1 w hb2 (by first | omega | (simp; done) | (simp; omega)); clear hb2; simp only [])
      | (go_at_call 130; refine (channelErr_beam A c g _ (HS.out.bel (by go_grown)) (by omega)).mono ?_; rintro e w1 ⟨rfl, hb1⟩; have b1 : Below w.heap.size w w1 := Below.step (by go_grown) hb1; obtain ⟨hc1, hf1, y10⟩ := bloc1 w hb1 (by first | omega | (simp; done) | (simp; omega)); clear hb1; simp only [])
      | (go_at_call 94; refine (unless_any _ _ _).mono ?_; rintro e w' ⟨rfl, rfl⟩; simp only [])
      | (go_at_call 93; refine (first3 _ _ _ _ _ (by simp)).mono ?_; rintro e w' ⟨rfl, rfl⟩; simp only []))
    refine bodyPost_ret (v := .tuple #[.agg #[.int .i64 0, .int .i64 0], .int .i64 (bothE g h)]) (by rw [HB.out]; simp [results, Try.results60, go_sem, hc2, hc1, y20]) rfl ⟨rfl, by go_grown⟩
end Go.Proofs.Ytamkannjdbodpaa
