import Derived.Test.YtamkannjdbodpaaUsrR
namespace Go.Proofs.Ytamkannjdbodpaa
open Go.RowKit Go.WideShapes Go.ChangeShapes

theorem chn_info : (Try.prog.info? 162).map (fun i => (i.zero, i.size, i.bytes)) = some (some (.slice none 0 0), 1, 24) := by kernel_rfl
theorem reads_one (w : World) (a : Value) (t : TypeId) : Reads (w.alloc (.cells #[a] t)) (w.heap.size + 1) 1 (some ⟨w.heap.size, 0, none⟩) 1 [a] :=
  ⟨rfl, fun _ => ⟨_, rfl, by simp, fun j u hu => cell_one_new _ _ _ j u hu⟩⟩
theorem channelOf_own (A : Option Addr) (c n : Nat) (h : List (Int × Int)) (w : World) (hn : h.length = n) (hs : Sl w A (gv h)) (hl : n ≤ 100) :
    Calls Try.prog 131 #[.slice A n c] w fun e w' => ∃ B k xs, e = .returned (.slice B n k) ∧ (Small 9000000000000 h → ChIs xs h) ∧ w'.ownsRow w.heap.size 165 1 (.slice B n k) n xs ∧ Below w.heap.size w w' := by
  subst hn
  exact channelOf_beam A c h w hs hl
set_option maxRecDepth 100000 in
set_option maxHeartbeats 8000000 in
theorem openUsers_beam (A : Option Addr) (c : Nat) (us : List (List (Int × Int))) (a b : Int) (w : World) (hs : RowsAt GR w A us) (hl : ∀ u ∈ us, u.length ≤ 100) (hn : us.length ≤ 100)
    (a1 : -9223372036854775808 ≤ a) (a2 : a ≤ 9223372036854775807) (b2 : b ≤ 9223372036854775807) :
    Calls Try.prog 136 #[.slice A us.length c, .agg #[.int .i64 a, .int .i64 b]] w fun e w' => ∃ C k, e = .returned (.tuple #[.agg #[.slice C us.length k, .int .i64 a, .int .i64 b], .int .i64 (firstOf [usersE us, mostE a b])]) ∧ RowsAt CR w' C us ∧ Below w.heap.size w w' := by
  obtain ⟨i0, hi0, hz0, hz1, hz2⟩ := info_parts chn_info
  have HM := hide (fun W => mostErr_beam a b W a1 a2 b2)
  have HU := hide (fun W hb => usersErr_beam A c us W hb hl hn)
  have HS := hide hs; clear hs
  have HLN := hide hl; clear hl a1 a2 b2
  obtain ⟨M, hM⟩ : ∃ M, mostE a b = M := ⟨_, rfl⟩
  obtain ⟨U, hU⟩ : ∃ U, usersE us = U := ⟨_, rfl⟩
  rw [hM] at HM
  rw [hU] at HU
  rw [hM, hU]
  clear hM hU
  go_enter Try.func136, Try.ntmps136
  go_wp2
  go_loopw [13] (fun i wr => ∃ (k : Nat) (C : Option Addr) (c1 : Nat) (vs : List Value), k ≤ us.length ∧ i = .int .i64 k ∧ vs.length = k ∧ Blk wr w.heap.size 86 #[.int .i64 a, .int .i64 b] ∧ Blk wr (w.heap.size + 1) 177 #[.slice none 0 0, .int .i64 0, .int .i64 0] ∧ Blk wr (w.heap.size + 1 + 1) 177 #[.slice C k c1, .int .i64 a, .int .i64 b] ∧ wr.ownsRow w.heap.size 162 1 (.slice C k c1) k vs ∧ (∀ j (hj : j < us.length), j < k → ∃ B n xs, vs[j]? = some (.slice B us[j].length n) ∧ wr.ownsRow w.heap.size 165 1 (.slice B us[j].length n) us[j].length xs ∧ (Small 9000000000000 us[j] → ChIs xs us[j])) ∧ Below w.heap.size w wr) (fun i _ => us.length - (intOf i).toNat)
  case atStart => exact ⟨0, none, 0, [], Nat.zero_le _, rfl, rfl, ((Blk.new w _ _).alloc _).alloc _, (by have := (Blk.new (w.alloc (.cells #[.int .i64 a, .int .i64 b] 86)) 177 #[.slice none 0 0, .int .i64 0, .int .i64 0]).alloc (.cells #[.slice none 0 0, .int .i64 a, .int .i64 b] 177); rw [World.size_alloc] at this; exact this), (by have := Blk.new ((w.alloc (.cells #[.int .i64 a, .int .i64 b] 86)).alloc (.cells #[.slice none 0 0, .int .i64 0, .int .i64 0] 177)) 177 #[.slice none 0 0, .int .i64 a, .int .i64 b]; rw [World.size_alloc, World.size_alloc] at this; exact this), World.ownsRow_nil _ _ _ _, fun j _ hj => absurd hj (by omega), by go_grown⟩
  case round =>
    obtain ⟨k, C, c1, vs, hk, rfl, hvl, hb0, hb1, hb2, hrow, hin, hbel⟩ := hrel
    have y0 := hb0.lt
    have y1 := hb1.lt
    have y2 := hb2.lt
    by_cases hlt : k < us.length
    · obtain ⟨bb, off, B, ck, rfl, d1, hr⟩ := (HS.out.bel gr_lasts hbel).at_ hlt
      have hlk : us[k].length ≤ 100 := HLN.out _ (List.getElem_mem hlt)
      have c0 : wr.cell? ⟨w.heap.size + 1 + 1, 0, none⟩ = some (.slice C k c1) := hb2.cell 0
      have f0 := hb2.frozen 0
      have HIN := hide hin
      have HROW := hide hrow
      have HVL := hide hvl
      clear hvl
      have hbz := hbel.size
      obtain ⟨u, hu⟩ : ∃ u, us[k] = u := ⟨_, rfl⟩
      rw [hu] at d1 hr hlk
      have HUK := hide hu
      have HR := hide hr
      clear hin hr hu hrow
      go_wp2
      go_region_law
        (first
          | (go_simp; go_at_call 131; refine (channelOf_own B ck u.length u _ rfl (Sl.bel HR.out (by go_grown)) (by omega)).mono ?_; rintro e w1 ⟨B1, n1, xs, rfl, hx1, ho1, hbb⟩; have b1 : Below wr.heap.size wr w1 := Below.step (by go_grown) hbb; have HX1 := hide hx1; have HO1 := hide (ho1.weaken (base' := w.heap.size) (by simp; omega)); have HROW1 := hide (own_bel HROW.out b1); have z1 := b1.size; have c0' := b1.keeps c0; have y2' : w.heap.size + 1 + 1 < w1.heap.size := Nat.lt_of_lt_of_le y2 z1; clear hbb ho1 hx1)
          | (refine step_append_any _ (by rfl) _ _ _ (by rfl) w.heap.size 162 i0 (.slice none 0 0) 1 24 Try.underlying175 hi0 hz0 hz1 hz2 rfl (by omega) (.slice C k c1) k vs (by rfl) (HROW1.out.alloc (.cells #[.slice B1 u.length n1] 162)) (w1.heap.size + 1) (some ⟨w1.heap.size, 0, none⟩) 1 1 [.slice B1 u.length n1] (by rfl) (reads_one w1 _ _) (by simp [Value.oneCell']) (by simp only [maxLen]; omega) (by omega) (by simp; omega) ?_
             intro v' w3 hown' hgrow _
             obtain ⟨C2, k2, rfl⟩ := own_form hown'
             have hbel' := Below.app (Below.step hbel b1) HROW1.out hgrow
             have U0 := (hb0.below b1 y0).app HROW1.out hgrow (by decide)
             have U1 := (hb1.below b1 y1).app HROW1.out hgrow (by decide)
             have U2 := (hb2.below b1 y2).app HROW1.out hgrow (by decide)
             have c2 : w3.cell? ⟨w.heap.size + 1 + 1, 0, none⟩ = some (.slice C k c1) := U2.cell 0
             have f2 := U2.frozen 0))
      all_goals
        clear hb0 hb1 hb2 c0 f0 d1
        have hkeep : ∀ (v : Value) (m : Nat) (ys : List Value), w1.ownsRow w.heap.size 165 1 v m ys → (w3.setCell ⟨w.heap.size + 1 + 1, 0, none⟩ (.slice C2 (k + 1) k2)).ownsRow w.heap.size 165 1 v m ys := fun v m ys h => by
          have h3 := h.alloc (.cells #[.slice B1 u.length n1] 162)
          exact own_far (World.ownsRow.kept h3 hgrow (rows_ne h3 (HROW1.out.alloc _) (by decide))) U2 (by decide)
        have hin' : ∀ j (hj : j < us.length), j < k + 1 → ∃ B n ys, (vs ++ [Value.slice B1 u.length n1])[j]? = some (.slice B us[j].length n) ∧ (w3.setCell ⟨w.heap.size + 1 + 1, 0, none⟩ (.slice C2 (k + 1) k2)).ownsRow w.heap.size 165 1 (.slice B us[j].length n) us[j].length ys ∧ (Small 9000000000000 us[j] → ChIs ys us[j]) := fun j hj hjk => by
          by_cases q : j < k
          · obtain ⟨B2, n2, ys, h1, h2, h3⟩ := HIN.out j hj q
            exact ⟨B2, n2, ys, by rw [List.getElem?_append_left (by have := HVL.out; omega)]; exact h1, hkeep _ _ _ (own_bel h2 b1), h3⟩
          · obtain rfl : j = k := by omega
            rw [HUK.out]
            exact ⟨B1, n1, xs, by rw [List.getElem?_append_right (by have := HVL.out; omega), HVL.out, Nat.sub_self]; rfl, hkeep _ _ _ HO1.out, HX1.out⟩
        have HIN' := hide hin'
        have hrow' := own_far (u := .slice C2 (k + 1) k2) (i := 0) hown' U2 (by decide)
        have V0 := U0.far (p := ⟨w.heap.size + 1 + 1, 0, none⟩) (by simp; omega) (.slice C2 (k + 1) k2)
        have V1 := U1.far (p := ⟨w.heap.size + 1 + 1, 0, none⟩) (by simp) (.slice C2 (k + 1) k2)
        have V2 := U2.set_ 0 (.slice C2 (k + 1) k2)
        have hb4 := hbel'.setCell (p := ⟨w.heap.size + 1 + 1, 0, none⟩) (by simp; omega) (.slice C2 (k + 1) k2)
        clear hin' hkeep U0 U1 U2 c2 f2 hgrow hown'
        revert HIN' hrow' V0 V1 V2 hb4
        generalize World.setCell _ _ _ = W
        intro HIN' hrow' V0 V1 V2 hb4
        go_wp2
        go_roundw
        case rel => exact ⟨k + 1, C2, k2, _, by omega, by go_num, by simp [HVL.out], V0, V1, V2, hrow', HIN'.out, hb4⟩
        case measure => simp [intOf]; omega
    · obtain rfl : k = us.length := by omega
      have c0 : wr.cell? ⟨w.heap.size, 0, none⟩ = some (.int .i64 a) := hb0.cell 0
      have c3 : wr.cell? ⟨w.heap.size, 1, none⟩ = some (.int .i64 b) := hb0.cell 1
      have c4 : wr.cell? ⟨w.heap.size + 1 + 1, 0, none⟩ = some (.slice C us.length c1) := hb2.cell 0
      have c5 : wr.cell? ⟨w.heap.size + 1 + 1, 1, none⟩ = some (.int .i64 a) := hb2.cell 1
      have c6 : wr.cell? ⟨w.heap.size + 1 + 1, 2, none⟩ = some (.int .i64 b) := hb2.cell 2
      have d0 : wr.cell? ⟨w.heap.size + 1, 0, none⟩ = some (.slice none 0 0) := hb1.cell 0
      have d1 : wr.cell? ⟨w.heap.size + 1, 1, none⟩ = some (.int .i64 0) := hb1.cell 1
      have d2 : wr.cell? ⟨w.heap.size + 1, 2, none⟩ = some (.int .i64 0) := hb1.cell 2
      have HIN := hide hin
      have HROW := hide hrow
      have HB1 := hide hb1
      clear hin hrow hb0 hb1 hb2
      go_wp2
      go_region_held3 (fun w' => w'.cell? ⟨w.heap.size, 0, none⟩ = some (.int .i64 a) ∧ w'.cell? ⟨w.heap.size, 1, none⟩ = some (.int .i64 b) ∧ w'.cell? ⟨w.heap.size + 1 + 1, 0, none⟩ = some (.slice C us.length c1) ∧ w'.cell? ⟨w.heap.size + 1 + 1, 1, none⟩ = some (.int .i64 a) ∧ w'.cell? ⟨w.heap.size + 1 + 1, 2, none⟩ = some (.int .i64 b)) (first | (simp [go_sem]; done) | (simp [go_sem, *]; done) | exact ⟨q1, q2, q3, q4, q5⟩ | go_keep)
        (first
          | (go_at_call 163; go_must (refine (HU.out _ (HS.out.bel gr_lasts (below_drew hbel))).mono ?_; rintro e w4 ⟨rfl, hb⟩; have b4 : Below wr.heap.size wr w4 := Below.step (by go_grown) hb; clear hb; have q1 := b4.keeps c0; have q2 := b4.keeps c3; have q3 := b4.keeps c4; have q4 := b4.keeps c5; have q5 := b4.keeps c6; have z4 := b4.size))
          | (go_at_call 140; go_must (refine (HM.out _).mono ?_; rintro e w5 ⟨rfl, hb⟩; have b5 : Below wr.heap.size wr w5 := Below.step b4 hb; clear hb; have q1 := b5.keeps c0; have q2 := b5.keeps c3; have q3 := b5.keeps c4; have q4 := b5.keeps c5; have q5 := b5.keeps c6; have e0 := b5.keeps d0; have e1 := b5.keeps d1; have e2 := b5.keeps d2; have BB := HB1.out.below b5 y1; have f0 := BB.frozen 0; have f1 := BB.frozen 1; have f2 := BB.frozen 2; have z5 := b5.size; have y05 : w.heap.size < w5.heap.size := Nat.lt_of_lt_of_le y0 z5; have y15 : w.heap.size + 1 < w5.heap.size := Nat.lt_of_lt_of_le y1 z5; have y25 : w.heap.size + 1 + 1 < w5.heap.size := Nat.lt_of_lt_of_le y2 z5))
          | (go_at_call 93; go_must (refine (first2 _ _ _ _ (by simp)).mono ?_; rintro e w' ⟨rfl, rfl⟩)))
      have B1 := BB.set_ 0 (.slice C us.length c1)
      have B2 := B1.set_ 1 (.int .i64 a)
      have B3 := (B2.set_ 2 (.int .i64 b)).alloc (.cells #[.int .i64 U, .int .i64 M] 27)
      have hfar : ∀ (e size : Nat) (v : Value) (m : Nat) (ys : List Value), e ≠ 177 → wr.ownsRow w.heap.size e size v m ys → ((((w5.setCell ⟨w.heap.size + 1, 0, none⟩ (.slice C us.length c1)).setCell ⟨w.heap.size + 1, 1, none⟩ (.int .i64 a)).setCell ⟨w.heap.size + 1, 2, none⟩ (.int .i64 b)).alloc (.cells #[.int .i64 U, .int .i64 M] 27)).ownsRow w.heap.size e size v m ys := fun e size v m ys hne h =>
        (own_far (own_far (own_far (own_bel h b5) BB hne) B1 hne) B2 hne).alloc _
      have hrows : RowsAt CR ((((w5.setCell ⟨w.heap.size + 1, 0, none⟩ (.slice C us.length c1)).setCell ⟨w.heap.size + 1, 1, none⟩ (.int .i64 a)).setCell ⟨w.heap.size + 1, 2, none⟩ (.int .i64 b)).alloc (.cells #[.int .i64 U, .int .i64 M] 27)) C us :=
        ⟨vs, Sl.of_own (hfar _ _ _ _ _ (by decide) HROW.out), hvl, fun j hj => by
          obtain ⟨B, n, xs, h1, h2, h3⟩ := HIN.out j hj hj
          exact ⟨B, n, h1, xs, Sl.of_own (hfar _ _ _ _ _ (by decide) h2), h3⟩⟩
      have b5w := Below.step hbel b5
      have hb6 := (((b5w.setCell (p := ⟨w.heap.size + 1, 0, none⟩) (by simp) (.slice C us.length c1)).setCell (p := ⟨w.heap.size + 1, 1, none⟩) (by simp) (.int .i64 a)).setCell (p := ⟨w.heap.size + 1, 2, none⟩) (by simp) (.int .i64 b)).alloc (by have := b5w.size; simpa using this) (.cells #[.int .i64 U, .int .i64 M] 27)
      clear hfar B1 B2 BB b5w q1 q2 q3 q4 q5 e0 e1 e2 f0 f1 f2 c0 c3 c4 c5 c6 d0 d1 d2
      revert B3 hrows hb6
      generalize World.alloc _ _ = W
      intro B3 hrows hb6
      have e0 : W.cell? ⟨w.heap.size + 1, 0, none⟩ = some (.slice C us.length c1) := B3.cell 0
      have e1 : W.cell? ⟨w.heap.size + 1, 1, none⟩ = some (.int .i64 a) := B3.cell 1
      have e2 : W.cell? ⟨w.heap.size + 1, 2, none⟩ = some (.int .i64 b) := B3.cell 2
      go_wp2
      refine bodyPost_ret (v := .tuple #[.agg #[.slice C us.length c1, .int .i64 a, .int .i64 b], .int .i64 (firstOf [U, M])]) (by simp [results, Try.results136, go_sem, e0, e1, e2]) rfl ⟨C, c1, rfl, hrows, hb6⟩

set_option maxRecDepth 100000 in
set_option maxHeartbeats 4000000 in
theorem usMay_beam (C : Option Addr) (c n : Nat) (us : List (List (Int × Int))) (a b : Int) (i j : Nat) (w : World) (hs : RowsAt CR w C us) (hn : us.length = n) (_ : n ≤ 100) (hi : i < us.length) (hj : j < us.length) (h0 : twoE us[i] us[j] = 0) (hm : mostE a b = 0) :
    Calls Try.prog 139 #[.agg #[.slice C n c, .int .i64 a, .int .i64 b], .int .i64 i, .int .i64 j] w fun e w' => e = .returned (.bool (shB us[i] us[j] a b)) ∧ Below w.heap.size w w' := by
  obtain ⟨bb, off, X, cx, rfl, d1, xs, hx1, hx2⟩ := hs.at_ hi
  obtain ⟨bb', off', Y, cy, hA, d2, ys, hy1, hy2⟩ := hs.at_ hj
  injection hA with hA
  injection hA with hA1 hA2
  subst hA1 hA2
  obtain ⟨-, sg, sh, hlen, -, -⟩ := twoE_ok h0
  have hX := hx2 (sg.2.mono (by decide))
  have hY := hy2 (sh.2.mono (by decide))
  obtain ⟨m, hm1⟩ : ∃ m, us[i].length = m := ⟨_, rfl⟩
  have hm2 : us[j].length = m := by omega
  have HC := hide (fun W k1 k2 => chMay_beam X Y cx cy m us[i] us[j] xs ys a b W k1 k2 hX hY h0 hm1 hm2 hm)
  have HXS := hide hx1
  have HYS := hide hy1
  rw [hm1] at d1
  rw [hm2] at d2
  obtain ⟨V, hV⟩ : ∃ V, shB us[i] us[j] a b = V := ⟨_, rfl⟩
  rw [hV] at HC
  rw [hV]
  have hi' : (i : Int) < (n : Int) := by omega
  have hj' : (j : Int) < (n : Int) := by omega
  have hbw := lt_of_cell d1
  clear hs hx1 hx2 hy1 hy2 sg sh hlen hX hY hm1 hm2 hV h0 hm
  go_enter Try.func139, Try.ntmps139
  go_wp2
  go_region_held3 (fun w' => w'.cell? ⟨w.heap.size, 0, none⟩ = some (.slice (some ⟨bb, off, none⟩) n c) ∧ w'.cell? ⟨w.heap.size, 1, none⟩ = some (.int .i64 a) ∧ w'.cell? ⟨w.heap.size, 2, none⟩ = some (.int .i64 b) ∧ w'.cell? ⟨bb, off + i, none⟩ = some (.slice X m cx) ∧ w'.cell? ⟨bb, off + j, none⟩ = some (.slice Y m cy)) (first | (simp [go_sem]; done) | (simp [go_sem, *]; done) | exact ⟨q1, q2, q3, q4, q5⟩ | go_keep)
    (first
      | (go_at_call 141; go_must (refine (HC.out _ (HXS.out.bel (by go_grown)) (HYS.out.bel (by go_grown))).mono ?_; rintro e w1 ⟨rfl, hb1⟩; have b1 : Below w.heap.size w w1 := Below.step (by go_grown) hb1; obtain ⟨hc1, hf1, y10⟩ := bloc1 w hb1 (by first | omega | (simp; done) | (simp; omega)); have q4 := b1.keeps d1; have q5 := b1.keeps d2; have q1 : w1.cell? ⟨w.heap.size, 0, none⟩ = some (.slice (some ⟨bb, off, none⟩) n c) := (hc1 _ _ (by omega)).trans (by first | rfl | simp); have q2 : w1.cell? ⟨w.heap.size, 1, none⟩ = some (.int .i64 a) := (hc1 _ _ (by omega)).trans (by first | rfl | simp); have q3 : w1.cell? ⟨w.heap.size, 2, none⟩ = some (.int .i64 b) := (hc1 _ _ (by omega)).trans (by first | rfl | simp); clear hb1)))
  go_wp2
  go_ret
  exact ⟨rfl, b1⟩
end Go.Proofs.Ytamkannjdbodpaa
