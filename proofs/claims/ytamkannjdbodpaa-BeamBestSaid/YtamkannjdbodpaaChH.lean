import Derived.Test.YtamkannjdbodpaaChLaw
namespace Go.Proofs.Ytamkannjdbodpaa
open Go.RowKit Go.WideShapes Go.ChangeShapes

set_option maxRecDepth 100000 in
set_option maxHeartbeats 2000000 in
theorem partOf_ok (A B : Option Addr) (c c' n : Nat) (g h : List (Int × Int)) (w : World) (h0 : twoE g h = 0) (hg : g.length = n) (hh : h.length = n) (hs : Sl w A (gv g)) (hs' : Sl w B (gv h)) :
    Calls Try.prog 54 #[.slice A n c, .slice B n c'] w fun e w' => e = .returned (.tuple #[.agg #[.int .i64 (lowN (pN g h) (pD g h)), .int .i64 (lowD (pN g h) (pD g h))], .int .i64 0]) ∧ Below w.heap.size w w' := by
  have HS := hide hs; clear hs
  have HS' := hide hs'; clear hs'
  have HO := hide (fun W hb hb' => openTwo_ok A B c c' n g h W h0 hg hh hb hb')
  have HP := hide (fun X Y k k' xs ys W hb hb' hx hy => parts_at X Y k k' n g h xs ys W hb hb' hx hy h0 hg hh)
  obtain ⟨d1, d2⟩ := pD_bd h0
  obtain ⟨n1, n2⟩ := pN_bd h0
  obtain ⟨N, hN⟩ : ∃ N, pN g h = N := ⟨_, rfl⟩
  obtain ⟨D, hD⟩ : ∃ D, pD g h = D := ⟨_, rfl⟩
  rw [hN] at n1 n2 HP
  rw [hD] at d1 d2 HP
  rw [hN, hD]
  clear hN hD h0
  go_enter Try.func54, Try.ntmps54
  go_wp2_with (first
    | (go_at_call 128; refine (lowest_beam N D _ (by omega) (by omega) d1 (by omega)).mono ?_; rintro e w3 ⟨rfl, hb3⟩; have b3 : Below w.heap.size w w3 := Below.step b2 hb3; obtain ⟨hc3, hf3, y30⟩ := bloc1 w hb3 (by first | omega | (simp; done) | (simp; omega)); clear hb3; simp only [])
    | (go_at_call 129; refine (HP.out _ _ _ _ _ _ _ HSX.out HSY.out HX.out HY.out).mono ?_; rintro e w2 ⟨rfl, hb2⟩; have b2 : Below w.heap.size w w2 := Below.step b1 hb2; obtain ⟨hc2, hf2, y20⟩ := bloc1 w hb2 (by first | omega | (simp; done) | (simp; omega)); clear hb2; simp only [])
    | (go_at_call 124; refine (HO.out _ (HS.out.bel (by go_grown)) (HS'.out.bel (by go_grown))).mono ?_; rintro e w1 ⟨X, k, xs, Y, k', ys, rfl, hx, hy, hsx, hsy, hb1⟩; have b1 : Below w.heap.size w w1 := Below.step (by go_grown) hb1; obtain ⟨hc1, hf1, y10⟩ := bloc1 w hb1 (by first | omega | (simp; done) | (simp; omega)); have HX := hide hx; have HY := hide hy; have HSX := hide hsx; have HSY := hide hsy; clear hb1 hx hy hsx hsy; simp only []))
  refine bodyPost_ret (v := .tuple #[.agg #[.int .i64 (lowN N D), .int .i64 (lowD N D)], .int .i64 0]) (by simp [results, Try.results54, go_sem, hc3, hc2, hc1]) rfl ⟨rfl, by go_grown⟩
set_option maxRecDepth 100000 in
set_option maxHeartbeats 2000000 in
theorem keptOf_ok (A B : Option Addr) (c c' n : Nat) (g h : List (Int × Int)) (w : World) (h0 : twoE g h = 0) (hg : g.length = n) (hh : h.length = n) (hs : Sl w A (gv g)) (hs' : Sl w B (gv h)) :
    Calls Try.prog 55 #[.slice A n c, .slice B n c'] w fun e w' => e = .returned (.tuple #[.agg #[.int .i64 (lowN (pD g h - pN g h) (pD g h)), .int .i64 (lowD (pD g h - pN g h) (pD g h))], .int .i64 0]) ∧ Below w.heap.size w w' := by
  have HS := hide hs; clear hs
  have HS' := hide hs'; clear hs'
  have HO := hide (fun W hb hb' => openTwo_ok A B c c' n g h W h0 hg hh hb hb')
  have HP := hide (fun X Y k k' xs ys W hb hb' hx hy => parts_at X Y k k' n g h xs ys W hb hb' hx hy h0 hg hh)
  obtain ⟨d1, d2⟩ := pD_bd h0
  obtain ⟨n1, n2⟩ := pN_bd h0
  obtain ⟨N, hN⟩ : ∃ N, pN g h = N := ⟨_, rfl⟩
  obtain ⟨D, hD⟩ : ∃ D, pD g h = D := ⟨_, rfl⟩
  rw [hN] at n1 n2 HP
  rw [hD] at d1 d2 HP
  rw [hN, hD]
  clear hN hD h0
  go_enter Try.func55, Try.ntmps55
  go_wp2_with (first
    | (go_at_call 128; refine (lowest_beam (D - N) D _ (by omega) (by omega) d1 (by omega)).mono ?_; rintro e w3 ⟨rfl, hb3⟩; have b3 : Below w.heap.size w w3 := Below.step b2 hb3; obtain ⟨hc3, hf3, y30⟩ := bloc1 w hb3 (by first | omega | (simp; done) | (simp; omega)); clear hb3; simp only [])
    | (go_at_call 129; refine (HP.out _ _ _ _ _ _ _ HSX.out HSY.out HX.out HY.out).mono ?_; rintro e w2 ⟨rfl, hb2⟩; have b2 : Below w.heap.size w w2 := Below.step b1 hb2; obtain ⟨hc2, hf2, y20⟩ := bloc1 w hb2 (by first | omega | (simp; done) | (simp; omega)); clear hb2; simp only [])
    | (go_at_call 124; refine (HO.out _ (HS.out.bel (by go_grown)) (HS'.out.bel (by go_grown))).mono ?_; rintro e w1 ⟨X, k, xs, Y, k', ys, rfl, hx, hy, hsx, hsy, hb1⟩; have b1 : Below w.heap.size w w1 := Below.step (by go_grown) hb1; obtain ⟨hc1, hf1, y10⟩ := bloc1 w hb1 (by first | omega | (simp; done) | (simp; omega)); have HX := hide hx; have HY := hide hy; have HSX := hide hsx; have HSY := hide hsy; clear hb1 hx hy hsx hsy; simp only []))
  refine bodyPost_ret (v := .tuple #[.agg #[.int .i64 (lowN (D - N) D), .int .i64 (lowD (D - N) D)], .int .i64 0]) (by simp [results, Try.results55, go_sem, hc3, hc2, hc1]) rfl ⟨rfl, by go_grown⟩

set_option maxRecDepth 100000 in
set_option maxHeartbeats 2000000 in
theorem partOf_err (A B : Option Addr) (c c' : Nat) (g h : List (Int × Int)) (w : World) (h0 : twoE g h ≠ 0) (hs : Sl w A (gv g)) (hs' : Sl w B (gv h)) (hl : g.length ≤ 100) (hl' : h.length ≤ 100) :
    Calls Try.prog 54 #[.slice A g.length c, .slice B h.length c'] w fun e w' => e = .returned (.tuple #[.agg #[.int .i64 0, .int .i64 0], .int .i64 (twoE g h)]) ∧ Below w.heap.size w w' := by
  have HO := hide (fun W hb hb' => openTwo_err A B c c' g h W hb hb' hl hl')
  have HS := hide hs; clear hs
  have HS' := hide hs'; clear hs'
  have hne : (twoE g h != 0) = true := by rw [bne_iff_ne]; exact h0
  obtain ⟨E, hE⟩ : ∃ E, twoE g h = E := ⟨_, rfl⟩
  rw [hE] at hne HO
  rw [hE]
  clear h0 hE
  go_enter Try.func54, Try.ntmps54
  go_wp2_with (go_at_call 124; refine (HO.out _ (HS.out.bel (by go_grown)) (HS'.out.bel (by go_grown))).mono ?_; rintro e w1 ⟨X, k, Y, k', rfl, hb1⟩; have b1 : Below w.heap.size w w1 := Below.step (by go_grown) hb1; obtain ⟨hc1, hf1, y10⟩ := bloc1 w hb1 (by first | omega | (simp; done) | (simp; omega)); clear hb1; simp only [])
  refine bodyPost_ret (v := .tuple #[.agg #[.int .i64 0, .int .i64 0], .int .i64 E]) (by simp [results, Try.results54, go_sem, hc1]) rfl ⟨rfl, by go_grown⟩

set_option maxRecDepth 100000 in
set_option maxHeartbeats 2000000 in
theorem keptOf_err (A B : Option Addr) (c c' : Nat) (g h : List (Int × Int)) (w : World) (h0 : twoE g h ≠ 0) (hs : Sl w A (gv g)) (hs' : Sl w B (gv h)) (hl : g.length ≤ 100) (hl' : h.length ≤ 100) :
    Calls Try.prog 55 #[.slice A g.length c, .slice B h.length c'] w fun e w' => e = .returned (.tuple #[.agg #[.int .i64 0, .int .i64 0], .int .i64 (twoE g h)]) ∧ Below w.heap.size w w' := by
  have HO := hide (fun W hb hb' => openTwo_err A B c c' g h W hb hb' hl hl')
  have HS := hide hs; clear hs
  have HS' := hide hs'; clear hs'
  have hne : (twoE g h != 0) = true := by rw [bne_iff_ne]; exact h0
  obtain ⟨E, hE⟩ : ∃ E, twoE g h = E := ⟨_, rfl⟩
  rw [hE] at hne HO
  rw [hE]
  clear h0 hE
  go_enter Try.func55, Try.ntmps55
  go_wp2_with (go_at_call 124; refine (HO.out _ (HS.out.bel (by go_grown)) (HS'.out.bel (by go_grown))).mono ?_; rintro e w1 ⟨X, k, Y, k', rfl, hb1⟩; have b1 : Below w.heap.size w w1 := Below.step (by go_grown) hb1; obtain ⟨hc1, hf1, y10⟩ := bloc1 w hb1 (by first | omega | (simp; done) | (simp; omega)); clear hb1; simp only [])
  refine bodyPost_ret (v := .tuple #[.agg #[.int .i64 0, .int .i64 0], .int .i64 E]) (by simp [results, Try.results55, go_sem, hc1]) rfl ⟨rfl, by go_grown⟩

set_option maxRecDepth 100000 in
set_option maxHeartbeats 2000000 in
theorem cleared_err (A B : Option Addr) (c c' : Nat) (g h : List (Int × Int)) (w : World) (h0 : twoE g h ≠ 0) (hs : Sl w A (gv g)) (hs' : Sl w B (gv h)) (hl : g.length ≤ 100) (hl' : h.length ≤ 100) :
    Calls Try.prog 52 #[.slice A g.length c, .slice B h.length c'] w fun e w' => e = .returned (.tuple #[.slice none 0 0, .int .i64 (twoE g h)]) ∧ Below w.heap.size w w' := by
  have HO := hide (fun W hb hb' => openTwo_err A B c c' g h W hb hb' hl hl')
  have HS := hide hs; clear hs
  have HS' := hide hs'; clear hs'
  have hne : (twoE g h != 0) = true := by rw [bne_iff_ne]; exact h0
  obtain ⟨E, hE⟩ : ∃ E, twoE g h = E := ⟨_, rfl⟩
  rw [hE] at hne HO
  rw [hE]
  clear h0 hE
  go_enter Try.func52, Try.ntmps52
  go_wp2_with (go_at_call 124; refine (HO.out _ (HS.out.bel (by go_grown)) (HS'.out.bel (by go_grown))).mono ?_; rintro e w1 ⟨X, k, Y, k', rfl, hb1⟩; have b1 : Below w.heap.size w w1 := Below.step (by go_grown) hb1; clear hb1; simp only [])
  go_ret2
  exact ⟨rfl, by go_grown⟩

theorem ga_info : (Try.prog.info? 90).map (fun i => (i.zero, i.size, i.bytes)) = some (some (.agg #[.int .i64 0, .int .i64 0]), 2, 16) := by kernel_rfl
theorem Sl.of_ownN {w : World} {base e size n c : Nat} {A : Option Addr} {xs : List Value} (h : w.ownsRow base e size (.slice A n c) n xs) : Sl w A xs := by
  intro k hk
  have hn : 0 < n := by
    rcases Nat.eq_zero_or_pos n with q | q
    · have := h.1; rw [q] at this; omega
    · exact q
  obtain ⟨b, cap, hv, _, _⟩ := h.form hn
  injection hv with hA
  subst hA
  have hc := h.cells (g := b) rfl k _ (List.getElem?_eq_getElem hk)
  rw [add_lit] at hc
  exact ⟨b, 0, rfl, hc⟩
set_option maxRecDepth 100000 in
set_option maxHeartbeats 4000000 in
theorem cleared_ok (A B : Option Addr) (c c' n : Nat) (g h : List (Int × Int)) (w : World) (h0 : twoE g h = 0) (hg : g.length = n) (hh : h.length = n) (hs : Sl w A (gv g)) (hs' : Sl w B (gv h)) :
    Calls Try.prog 52 #[.slice A n c, .slice B n c'] w fun e w' => ∃ C k, e = .returned (.tuple #[.slice C n k, .int .i64 0]) ∧ Sl w' C (gv (clrL g h n)) ∧ Below w.heap.size w w' := by
  obtain ⟨i0, hi0, hz0, hz1, hz2⟩ := info_parts ga_info
  have HS := hide hs; clear hs
  have HS' := hide hs'; clear hs'
  have HO := hide (fun W hb hb' => openTwo_ok A B c c' n g h W h0 hg hh hb hb')
  obtain ⟨_, sg, sh, _, _⟩ := twoE_ok h0
  have hn8 := sg.1
  have HI := hide (fun X Y k k' xs ys W hb hb' hx hy => inner_beam X Y k k' n g h xs ys W hb hb' hx hy hg hh (by omega) sg.2 sh.2 (by decide) (by decide) (by decide))
  have HG := hide (fun X k xs W hb hx => energy_beam X k n g xs W hb hx hg (by omega) sg.2 (by decide) (by decide))
  have hc0 := Ch30.in_ sg sh
  have hc1 := Ch30.in_ sg sg
  rw [hg] at hc0 hc1
  have HC := hide (show ∀ k, clrAt g h k = csub (cmul (innerZ g g n) (h[k]?.getD (0, 0))) (cmul (innerZ g h n) (g[k]?.getD (0, 0))) from fun k => by unfold clrAt clrBy; rw [hg])
  obtain ⟨Z, hZ⟩ : ∃ Z, innerZ g h n = Z := ⟨_, rfl⟩
  obtain ⟨E, hE⟩ : ∃ E, innerZ g g n = E := ⟨_, rfl⟩
  rw [hZ] at hc0 HI HC
  rw [hE] at hc1 HG HC
  have SG := hide sg.2
  have SH := hide sh.2
  have C0 := hide hc0
  have C1 := hide hc1
  clear h0 sg sh hc0 hc1 hZ hE
  go_enter Try.func52, Try.ntmps52
  go_wp2_with (first
    | (go_at_call 126; refine (HG.out _ _ _ _ HSX.out HX.out).mono ?_; rintro e w' ⟨ex, ey, rfl, hI, rfl⟩; have HIe := hide hI; clear hI; simp only [])
    | (go_at_call 125; refine (HI.out _ _ _ _ _ _ _ HSX.out HSY.out HX.out HY.out).mono ?_; rintro e w' ⟨zx, zy, rfl, hI, rfl⟩; have HIz := hide hI; clear hI; simp only [])
    | (go_at_call 124; refine (HO.out _ HS.out HS'.out).mono ?_; rintro e w1 ⟨X, k, xs, Y, k', ys, rfl, hx, hy, hsx, hsy, hb1⟩; have HX := hide hx; have HY := hide hy; have HSX := hide hsx; have HSY := hide hsy; have HB1 := hide hb1; clear hb1 hx hy hsx hsy; simp only []))
  clear HO HI HG
  go_loopw [11, 31] (fun o i wr => ∃ (j : Nat) (C : Option Addr) (c1 : Nat), j ≤ n ∧ i = .int .i64 j ∧ o = .slice C j c1 ∧ wr.ownsRow w1.heap.size 90 2 (.slice C j c1) j (gv (clrL g h j)) ∧ Below w1.heap.size w1 wr) (fun _ i _ => n - (intOf i).toNat)
  case atStart => exact ⟨0, none, 0, Nat.zero_le _, rfl, rfl, World.ownsRow_nil _ _ _ _, Below.refl _ _⟩
  case round =>
    obtain ⟨j, C, c1, hj, rfl, rfl, hrow, hbel⟩ := hrel
    by_cases hlt : j < n
    · obtain ⟨x1, y1, e1, i1⟩ := HX.out.get j (by omega)
      obtain ⟨x2, y2, e2, i2⟩ := HY.out.get j (by omega)
      obtain ⟨j1, f1⟩ := List.getElem?_eq_some_iff.1 e1
      obtain ⟨j2, f2⟩ := List.getElem?_eq_some_iff.1 e2
      obtain ⟨b, off, rfl, d1⟩ := HSX.out j j1
      obtain ⟨b', off', rfl, d2⟩ := HSY.out j j2
      rw [f1] at d1
      rw [f2] at d2
      have d3 := (hbel.cell (p := ⟨b, off + j, none⟩) (lt_of_cell d1)).trans d1
      have d4 := (hbel.cell (p := ⟨b', off' + j, none⟩) (lt_of_cell d2)).trans d2
      have g1 : cle 30 g[j] := SG.out _ (List.getElem_mem (by omega))
      have g2 : cle 30 h[j] := SH.out _ (List.getElem_mem (by omega))
      obtain ⟨r, s, hmu, i3, g3⟩ := cmul_is HIe.out i2 C1.out g2 (by omega)
      obtain ⟨r', s', hmu', i4, g4⟩ := cmul_is HIz.out i1 C0.out g1 (by omega)
      obtain ⟨p, q, hsu, i5⟩ := csub_is i3 i4 g3 g4 (by omega)
      have hat : clrAt g h j = csub (cmul E h[j]) (cmul Z g[j]) := by
        rw [HC.out, List.getElem?_eq_getElem (by omega : j < g.length), List.getElem?_eq_getElem (by omega : j < h.length)]; rfl
      have hcl : cle 1000000000000000 (clrAt g h j) := by rw [hat]; unfold cle csub at *; dsimp only; omega
      rw [← hat] at i5
      have hsucc := hide (show gv (clrL g h (j + 1)) = gv (clrL g h j) ++ [.int .i64 (clrAt g h j).1, .int .i64 (clrAt g h j).2] by rw [clrL_succ, gv_append]; rfl)
      have HGA := hide (fun W => gauss_beam p q _ W i5 hcl)
      obtain ⟨u, hu⟩ : ∃ u, (clrAt g h j).1 = u := ⟨_, rfl⟩
      obtain ⟨v, hv⟩ : ∃ v, (clrAt g h j).2 = v := ⟨_, rfl⟩
      rw [hu, hv] at hsucc HGA
      have hm1 := fun w => run_complex_mul (P := Try.prog) w 165 _ _ _ _ _ _ hmu
      have hm2 := fun w => run_complex_mul (P := Try.prog) w 165 _ _ _ _ _ _ hmu'
      have hm3 := fun w => run_complex_sum (P := Try.prog) w .sub (.inr rfl) 165 .f64 _ _ _ _ _ _ hsu
      have hbz := hbel.size
      have HROW := hide hrow
      clear hmu hmu' hsu i1 i2 i3 i4 i5 g1 g2 g3 g4 hat hcl hu hv d1 d2 e1 e2 f1 f2 j1 j2 hrow
      go_wp2_with (first
        | (at_builtin; go_must (
             refine wpList_append_own _ rfl _ _ 80 rfl w1.heap.size 90 i0 _ 2 16 Try.underlying80 hi0 hz0 hz1 hz2 rfl (by decide) (.slice C j c1) j (gv (clrL g h j)) rfl (HROW2.out.alloc _) ⟨w2.heap.size, 0, none⟩ 1 1 [.int .i64 u, .int .i64 v] rfl rfl (cell_two_new _ _ _ _) (by simp [Value.oneCell']) (by simp only [maxLen]; omega) (by omega) (by simp; omega) ?_
             intro v' w3 hown' hgrow _
             obtain ⟨C2, k2, rfl⟩ := own_form hown'
             have hbel' := Below.app b2 HROW2.out hgrow))
        | (go_at_call 127; refine (HGA.out _).mono ?_; rintro e w2 ⟨rfl, hb2⟩; have b2 : Below w1.heap.size w1 w2 := Below.step hbel hb2; have HROW2 := hide (own_bel HROW.out hb2); have z2 := b2.size; clear hb2; simp only []))
      go_roundw
      case rel => exact ⟨j + 1, C2, k2, by omega, by go_num, rfl, by rw [hsucc.out]; exact hown', hbel'⟩
      case measure => simp [intOf]; omega
    · obtain rfl : j = n := by omega
      go_wp2
      refine bodyPost_ret (v := .tuple #[.slice C j c1, .int .i64 0]) (by simp [results, Try.results52, go_sem]) rfl ⟨C, c1, rfl, Sl.of_ownN hrow, Below.step HB1.out hbel⟩
end Go.Proofs.Ytamkannjdbodpaa
