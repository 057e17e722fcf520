import Derived.Test.YtamkannjdbodpaaLChannels
namespace Go.Proofs.Ytamkannjdbodpaa
open Go.RowKit Go.WideShapes Go.ChangeShapes

theorem twoE_swap {g h : List (Int × Int)} (e : twoE g h = 0) : twoE h g = 0 := by
  have h1 := firstOf_ok e (chE g) (by simp)
  have h2 := firstOf_ok e (chE h) (by simp)
  have h3 := lenE_ok (firstOf_ok e (lenE g h) (by simp))
  have h4 := firstOf_ok e (unlessE (g.any someG && h.any someG) 11) (by simp)
  unfold twoE lenE
  rw [h1, h2, Bool.and_comm, h4, decide_eq_true h3.symm]
  rfl
theorem BeamApart_err (A B : Option Addr) (c c' : Nat) (g h : List (Int × Int)) (w : World) (hs : Sl w A (gv g)) (hs' : Sl w B (gv h)) (h0 : twoE g h ≠ 0) :
    Calls Try.prog 11 #[.slice A g.length c, .slice B h.length c'] w fun e w' => e = .returned (.bool true) ∧ Below w.heap.size w w' := by
  have HRT := hide (fun W k1 k2 => twoErr_ref A B c c' g h W k1 k2)
  have HS := hide hs; clear hs
  have HS' := hide hs'; clear hs'
  have hne : (twoE g h != 0) = true := by rw [bne_iff_ne]; exact h0
  have HB := hide (Below.refl w.heap.size w)
  clear h0
  go_enter Try.func11, Try.ntmps11
  go_wp2_with (first
    | (go_at_call 18; go_must (refine (awake_ok _).mono ?_; rintro e w1 ⟨rfl, hb⟩; replace HB := hide (Below.step HB.out hb); clear hb; simp only []))
    | (go_at_call 51; go_must (refine (HRT.out _ (HS.out.bel HB.out) (HS'.out.bel HB.out)).mono ?_; rintro e w8 ⟨rfl, hb⟩; replace HB := hide (Below.step HB.out hb); clear hb; simp only [])))
  go_ret
  exact ⟨rfl, HB.out⟩

set_option maxRecDepth 100000 in
set_option maxHeartbeats 8000000 in
theorem BeamApart_ok (A B : Option Addr) (c c' n : Nat) (g h : List (Int × Int)) (w : World) (hs : Sl w A (gv g)) (hs' : Sl w B (gv h)) (hg : g.length = n) (hh : h.length = n) (h0 : twoE g h = 0) :
    Calls Try.prog 11 #[.slice A n c, .slice B n c'] w fun e w' => e = .returned (.bool true) ∧ Below w.heap.size w w' := by
  obtain ⟨-, sg, sh, -, hen, -⟩ := twoE_ok h0
  have hl8 := sg.1
  rw [hg] at hl8
  have hlh : h.length = g.length := by omega
  have HP := hide (fun A B c c' W k1 k2 => partOf_ok A B c c' n g h W h0 hg hh k1 k2)
  have HQ := hide (fun A B c c' W k1 k2 => partOf_ok A B c c' n h g W (twoE_swap h0) hh hg k1 k2)
  have HK := hide (fun A B c c' W k1 k2 => keptOf_ok A B c c' n g h W h0 hg hh k1 k2)
  have HC := hide (fun A B c c' W k1 k2 => cleared_ok A B c c' n g h W h0 hg hh k1 k2)
  have HRT := hide (show ∀ A B c c' W, Sl W A (gv g) → Sl W B (gv h) → Calls Try.prog 51 #[.slice A n c, .slice B n c'] W fun e w' => e = .returned (.int .i64 0) ∧ Below W.heap.size W w' from fun A B c c' W k1 k2 => by
    have := twoErr_ref A B c c' g h W k1 k2
    rw [hg, hh, h0] at this
    exact this)
  have HGC := hide (fun A c W k => copyG_at A c n g W hg k (by omega))
  have HHC := hide (fun A c W k => copyG_at A c n h W hh k (by omega))
  rw [pN_comm g h hlh, pD_comm g h] at HQ
  obtain ⟨d1, d2⟩ := pD_bd h0
  obtain ⟨n1, n2⟩ := pN_bd h0
  have hcau := cauchy g h hlh hen
  obtain ⟨r1, r2⟩ := low_rest (pN g h) (pD g h) d1
  obtain ⟨r3, r4⟩ := low_pos (pN g h) (pD g h) d1
  replace r4 := Int.le_trans r4 d2
  have r5 := low_nn (pN g h) (pD g h) n1
  have r6 := low_nn (pD g h - pN g h) (pD g h) (by omega)
  have r7 := low_zero (pD g h - pN g h) (pD g h) d1
  have hleft := clr_left g h hlh hen
  have hap := clr_apart g h
  have HLL := clrL_len g h n
  rw [hg] at hleft hap
  have hleft2 : (clrL g h n).any someG = (lowN (pD g h - pN g h) (pD g h) != 0) := by
    rw [hleft]
    by_cases q : pD g h - pN g h = 0
    · rw [r7.2 q, q]; rfl
    · have q2 : lowN (pD g h - pN g h) (pD g h) ≠ 0 := fun e => q (r7.1 e)
      rw [bne_iff_ne.2 q2, beq_eq_false_iff_ne.2 q]; rfl
  rw [r1] at HK
  have SG := hide sg.2
  have SH := hide sh.2
  have hcb : ∀ k < n, cle 2000000 ((clrL g h n)[k]?.getD (0, 0)) := fun k hk => by
    rw [clrL_at g h n k hk]
    have c0 := Ch30.in_ sg sh
    have c1 := Ch30.in_ sg sg
    have g3 := SG.out.get (by decide) k
    have g4 := SH.out.get (by decide) k
    have c2 := cmul_le c1 g4
    have c3 := cmul_le c0 g3
    unfold clrAt clrBy
    unfold cle csub at *
    dsimp only
    omega
  obtain ⟨a1, e1⟩ : ∃ a, lowN (pN g h) (pD g h) = a := ⟨_, rfl⟩
  obtain ⟨b1, e2⟩ : ∃ a, lowD (pN g h) (pD g h) = a := ⟨_, rfl⟩
  obtain ⟨a2, e3⟩ : ∃ a, lowN (pD g h - pN g h) (pD g h) = a := ⟨_, rfl⟩
  obtain ⟨L, hL⟩ : ∃ L, clrL g h n = L := ⟨_, rfl⟩
  rw [e1, e2] at HP HQ
  rw [e3, e2] at HK
  rw [hL] at HC HLL hleft2 hap hcb
  rw [e1, e3, e2] at r2
  rw [e2] at r3 r4
  rw [e1] at r5
  rw [e3] at r6 hleft2
  have HLF := hide hleft2
  have HAP := hide hap
  have HCB := hide hcb
  have HL := hide (innerZ_le (m := 30) (n := 2000000) SG.out (h := L) (fun z hz => by
    obtain ⟨k, hk, e⟩ := List.mem_iff_getElem.1 hz
    have := hcb k (by omega)
    rw [List.getElem?_eq_getElem hk, Option.getD_some, e] at this
    exact this) (by decide) (by decide))
  have HGL := hide hg
  have HS := hide hs
  have HS' := hide hs'
  clear hs hs' e1 e2 e3 hL h0 sg sh hg hh hlh hen d1 d2 n1 n2 hcau r1 r7 hleft hleft2 hap hcb
  have hr2 : (a1 + a2 != b1) = false := by rw [bne_eq_false_iff_eq]; exact r2
  have hq2 : ∀ w, (binOp .neq 86 (.agg #[.int .i64 a1, .int .i64 b1]) (.agg #[.int .i64 a1, .int .i64 b1])).run Try.prog w = .ok (.bool false) w := fun w => (fr_neq _ _ _ _ w).trans (by simp)
  have hq3 : ∀ w, (binOp .eql 90 (.agg #[.int .i64 0, .int .i64 0]) (.agg #[.int .i64 0, .int .i64 0])).run Try.prog w = .ok (.bool true) w := fun w => ga_eql _ _ _ _ w
  have HB := hide (Below.refl w.heap.size w)
  have HT := hide (Stay.triv w)
  go_enter Try.func11, Try.ntmps11
  go_wp2_with (first
    | (go_at_call 18; go_must (refine (awake_ok _).mono ?_; rintro e w1 ⟨rfl, hb⟩; replace HB := hide (Below.step HB.out hb); replace HT := hide (HT.out.step hb); clear hb; simp only []))
    | (go_at_call 51; go_must (refine (HRT.out _ _ _ _ _ (HS.out.bel HB.out) (HS'.out.bel HB.out)).mono ?_; rintro e w8 ⟨rfl, hb⟩; replace HB := hide (Below.step HB.out hb); replace HT := hide (HT.out.step hb); clear hb; simp only []))
    | (go_at_call 53; have qq := HQG1; go_must (refine (HGC.out _ _ _ (HS.out.bel HB.out)).mono ?_; rintro e wb ⟨Ag, cg, rfl, hsh, hb⟩; have HG2 := hide hsh; have HH2 := hide (HQG1.out.bel hb); replace HB := hide (Below.step HB.out hb); replace HT := hide (HT.out.step hb); clear hb hsh qq HQG1; simp only []))
    | (go_at_call 53; have qq := HG1; go_must (refine (HHC.out _ _ _ (HS'.out.bel HB.out)).mono ?_; rintro e wb ⟨Ah, ch, rfl, hsh, hb⟩; have HH2 := hide hsh; have HG2 := hide (HG1.out.bel hb); replace HB := hide (Below.step HB.out hb); replace HT := hide (HT.out.step hb); clear hb hsh qq HG1; simp only []))
    | (go_at_call 53; have qq := HPP; go_must (refine (HHC.out _ _ _ (HS'.out.bel HB.out)).mono ?_; rintro e wa ⟨Ah, ch, rfl, hsg, hb⟩; have HQG1 := hide hsg; replace HB := hide (Below.step HB.out hb); replace HT := hide (HT.out.step hb); clear hb hsg qq; simp only []))
    | (go_at_call 53; go_must (refine (HGC.out _ _ _ (HS.out.bel HB.out)).mono ?_; rintro e wa ⟨Ag, cg, rfl, hsg, hb⟩; have HG1 := hide hsg; replace HB := hide (Below.step HB.out hb); replace HT := hide (HT.out.step hb); clear hb hsg; simp only []))
    | (go_at_call 54; have qq := HPP; go_must (refine (HQ.out _ _ _ _ _ HH2.out HG2.out).mono ?_; rintro e w3 ⟨rfl, hb⟩; replace HB := hide ((Below.step HB.out hb).alloc (Below.step HB.out hb).size (.cells #[.int .i64 a1, .int .i64 b1] 86)); replace HT := hide (((HT.out.step hb).alloc (.cells #[.int .i64 a1, .int .i64 b1] 86)).and (stay_new w3 86 #[.int .i64 a1, .int .i64 b1])); clear hb HG2 HH2 HPP qq; simp only []))
    | (go_at_call 54; go_must (refine (HP.out _ _ _ _ _ HG2.out HH2.out).mono ?_; rintro e w2 ⟨rfl, hb⟩; have HPP := hide (Eq.refl 0); replace HB := hide ((Below.step HB.out hb).alloc (Below.step HB.out hb).size (.cells #[.int .i64 a1, .int .i64 b1] 86)); replace HT := hide (((HT.out.step hb).alloc (.cells #[.int .i64 a1, .int .i64 b1] 86)).and (stay_new w2 86 #[.int .i64 a1, .int .i64 b1])); clear hb HG2 HH2; simp only []))
    | (go_at_call 55; go_must (refine (HK.out _ _ _ _ _ HG2.out HH2.out).mono ?_; rintro e w4 ⟨rfl, hb⟩; replace HB := hide ((Below.step HB.out hb).alloc (Below.step HB.out hb).size (.cells #[.int .i64 a2, .int .i64 b1] 86)); replace HT := hide (((HT.out.step hb).alloc (.cells #[.int .i64 a2, .int .i64 b1] 86)).and (stay_new w4 86 #[.int .i64 a2, .int .i64 b1])); clear hb HG2 HH2; have p0 : (w4.alloc (.cells #[.int .i64 a2, .int .i64 b1] 86)).cell? ⟨w2.heap.size, 0, none⟩ = some (.int .i64 a1) := HT.out.now.1.1.2.cell 0; have p1 : (w4.alloc (.cells #[.int .i64 a2, .int .i64 b1] 86)).cell? ⟨w2.heap.size, 1, none⟩ = some (.int .i64 b1) := HT.out.now.1.1.2.cell 1; have p2 : (w4.alloc (.cells #[.int .i64 a2, .int .i64 b1] 86)).cell? ⟨w3.heap.size, 0, none⟩ = some (.int .i64 a1) := HT.out.now.1.2.cell 0; have p3 : (w4.alloc (.cells #[.int .i64 a2, .int .i64 b1] 86)).cell? ⟨w3.heap.size, 1, none⟩ = some (.int .i64 b1) := HT.out.now.1.2.cell 1; simp only []))
    | (go_at_call 52; go_must (refine (HC.out _ _ _ _ _ HG2.out HH2.out).mono ?_; rintro e w5 ⟨CL, cl, rfl, hcl, hb⟩; replace HB := hide (Below.step HB.out hb); replace HT := hide ((HT.out.step hb).and (stay_sl hcl)); clear hb hcl HG2 HH2; simp only [])))
  clear HRT HGC HHC HP HQ HK HC p0 p1 p2 p3 hq2 hr2
  obtain ⟨wX, hX⟩ : ∃ wX, w4.alloc (.cells #[.int .i64 a2, .int .i64 b1] 86) = wX := ⟨_, rfl⟩
  have hsz : w4.heap.size + 1 = wX.heap.size := by rw [← hX]; simp
  rw [hX] at HB HT
  rw [hX, hsz]
  clear hX hsz
  go_loopw [14, 15] (fun l i wr => ∃ (k : Nat) (bl : Bool), k ≤ n ∧ i = .int .i64 k ∧ l = .bool bl ∧ bl = (L.take k).any someG ∧ Blk wr wX.heap.size 90 #[.int .i64 (innerZ g L k).1, .int .i64 (innerZ g L k).2] ∧ Below wX.heap.size wX wr) (fun _ i _ => n - (intOf i).toNat)
  case atStart => exact ⟨0, false, Nat.zero_le _, rfl, rfl, rfl, Blk.new wX _ _, (Below.refl _ _).alloc (Nat.le_refl _) _⟩
  case round =>
    obtain ⟨k, bl, hk, rfl, rfl, hbl, hb1, hbel⟩ := hrel
    have yl1 := hb1.lt
    have hlk := HL.out k
    have HBL := hide hbl
    clear hbl
    by_cases hlt : k < n
    · have hgl := HGL.out
      have hll := HLL
      obtain ⟨b, off, rfl, e1, e2⟩ := HS.out.at2 (by omega : k < g.length)
      obtain ⟨b', off', rfl, e3, e4⟩ := HT.out.now.1.1.1.2.at2 (by omega : k < L.length)
      have hbw := Below.step HB.out hbel
      have d1 : wr.cell? ⟨b, off + k * 2, none⟩ = some (.int .i64 g[k].1) := (hbw.cell (p := ⟨b, off + k * 2, none⟩) (lt_of_cell e1)).trans e1
      have d2 : wr.cell? ⟨b, off + k * 2 + 1, none⟩ = some (.int .i64 g[k].2) := (hbw.cell (p := ⟨b, off + k * 2 + 1, none⟩) (lt_of_cell e2)).trans e2
      have d3 : wr.cell? ⟨b', off' + k * 2, none⟩ = some (.int .i64 L[k].1) := (hbel.cell (p := ⟨b', off' + k * 2, none⟩) (lt_of_cell e3)).trans e3
      have d4 : wr.cell? ⟨b', off' + k * 2 + 1, none⟩ = some (.int .i64 L[k].2) := (hbel.cell (p := ⟨b', off' + k * 2 + 1, none⟩) (lt_of_cell e4)).trans e4
      have g1 : cle 30 g[k] := SG.out _ (List.getElem_mem (by omega))
      have g2 : cle 2000000 L[k] := by have := HCB.out k hlt; rw [List.getElem?_eq_getElem (by omega : k < L.length)] at this; exact this
      have g3 := cmul_le (cconj_le g1) g2
      have hst : innerZ g L (k + 1) = cadd (innerZ g L k) (cmul (cconj g[k]) L[k]) := by
        rw [innerZ, List.getElem?_eq_getElem (by omega : k < g.length), List.getElem?_eq_getElem (by omega : k < L.length)]; rfl
      have HTK := hide (show (L.take (k + 1)).any someG = ((L.take k).any someG || someG L[k]) by
        rw [List.take_succ_eq_append_getElem (by omega), List.any_append]; simp)
      obtain ⟨S, hS⟩ : ∃ S, innerZ g L k = S := ⟨_, rfl⟩
      obtain ⟨G, hG⟩ : ∃ G, g[k] = G := ⟨_, rfl⟩
      obtain ⟨H, hH⟩ : ∃ H, L[k] = H := ⟨_, rfl⟩
      rw [hS] at hst hlk hb1
      rw [hG] at hst g1 g3 d1 d2
      rw [hH] at hst g2 g3 d3 d4 HTK
      rw [hH] at e3 e4
      have c1 := hide (show cle 1000000000000000 G by unfold cle at *; omega)
      have c2 := hide (show cle 1000000000 (cconj G) by have := cconj_le g1; unfold cle at *; omega)
      have c3 := hide (show cle 1000000000 H by unfold cle at *; omega)
      have c4 := hide (show cle 1000000000000000000 S by unfold cle at *; omega)
      have c5 := hide (show cle 1000000000000000000 (cmul (cconj G) H) by unfold cle at *; omega)
      have e0 : wr.cell? ⟨wX.heap.size, 0, none⟩ = some (.int .i64 S.1) := hb1.cell 0
      have e5 : wr.cell? ⟨wX.heap.size, 1, none⟩ = some (.int .i64 S.2) := hb1.cell 1
      have HST := hide hst
      have HE3 := hide e3
      have HE4 := hide e4
      have hsg : ∀ w, (binOp .neq 90 (.agg #[.int .i64 H.1, .int .i64 H.2]) (.agg #[.int .i64 0, .int .i64 0])).run Try.prog w = .ok (.bool (someG H)) w := fun w => (ga_neq _ _ _ _ w).trans (by
        obtain ⟨x, y⟩ := H
        unfold someG
        by_cases h1 : x = 0 <;> by_cases h2 : y = 0 <;> simp [h1, h2])
      clear e1 e2 e3 e4 g1 g2 g3 hS hG hH hst hlk hbw hgl hll
      go_wp2
      go_region_with
        (first
          | (go_at_call 58; go_must (refine (gconj_ref G _ c1.out).mono ?_; rintro e w1 ⟨rfl, hb⟩; have b1' : Below wr.heap.size wr w1 := Below.step (by go_grown) hb; clear hb; have i0 := b1'.keeps e0; have i1 := b1'.keeps e5; have i3 := b1'.keeps d3; have i4 := b1'.keeps d4))
          | (go_at_call 57; go_must (refine (gmul_ref (cconj G) H _ c2.out c3.out).mono ?_; rintro e w2 ⟨rfl, hb⟩; have b2 : Below wr.heap.size wr w2 := Below.step (by go_grown) hb; clear hb; have j0 := b2.keeps e0; have j1 := b2.keeps e5))
          | (go_at_call 56; go_must (refine (gadd_ref S (cmul (cconj G) H) _ c4.out c5.out).mono ?_; rintro e w3 ⟨rfl, hb⟩; have b3 : Below wr.heap.size wr w3 := Below.step (by go_grown) hb; clear hb; have B3 := hb1.below b3 yl1; have f0 := B3.frozen 0; have f1 := B3.frozen 1; have j2 := b3.keeps e0; have j3 := b3.keeps e5; rw [← HST.out])))
      all_goals
        have B4 := (B3.set_ 0 (.int .i64 (innerZ g L (k + 1)).1)).set_ 1 (.int .i64 (innerZ g L (k + 1)).2)
        have hb4 := ((Below.step hbel b3).setCell (p := ⟨wX.heap.size, 0, none⟩) (by simp) (.int .i64 (innerZ g L (k + 1)).1)).setCell (p := ⟨wX.heap.size, 1, none⟩) (by simp) (.int .i64 (innerZ g L (k + 1)).2)
        clear B3 b3 f0 f1 j2 j3 d1 d2 d3 d4 e0 e5 hbel hb1
        revert B4 hb4
        generalize World.setCell _ _ _ = W
        intro B4 hb4
        have d5 : W.cell? ⟨b', off' + k * 2, none⟩ = some (.int .i64 H.1) := (hb4.cell (p := ⟨b', off' + k * 2, none⟩) (lt_of_cell HE3.out)).trans HE3.out
        have d6 : W.cell? ⟨b', off' + k * 2 + 1, none⟩ = some (.int .i64 H.2) := (hb4.cell (p := ⟨b', off' + k * 2 + 1, none⟩) (lt_of_cell HE4.out)).trans HE4.out
        cases bl
        · go_wp2
          go_roundw
          case rel => exact ⟨k + 1, someG H, by omega, by go_num, rfl, by rw [HTK.out, ← HBL.out]; rfl, B4, hb4⟩
          case measure => simp [intOf]; omega
        · go_wp2
          go_roundw
          case rel => exact ⟨k + 1, true, by omega, by go_num, rfl, by rw [HTK.out, ← HBL.out]; rfl, B4, hb4⟩
          case measure => simp [intOf]; omega
    · obtain rfl : k = n := by omega
      rw [HAP.out] at hb1
      have e0 : wr.cell? ⟨wX.heap.size, 0, none⟩ = some (.int .i64 0) := hb1.cell 0
      have e5 : wr.cell? ⟨wX.heap.size, 1, none⟩ = some (.int .i64 0) := hb1.cell 1
      have e6 : wr.cell? ⟨w4.heap.size, 0, none⟩ = some (.int .i64 a2) := (HT.out _ hbel).2.cell 0
      have hbl : bl = (a2 != 0) := by rw [HBL.out, List.take_of_length_le (by omega), HLF.out]
      subst hbl
      have hbw := Below.step HB.out hbel
      clear HBL
      go_wp2
      go_ret
      exact ⟨by simp, by first | exact hbw | go_grown⟩
theorem BeamApart_law (A : Option Addr) (c : Nat) (g : List (Int × Int)) (B : Option Addr) (c' : Nat) (h : List (Int × Int)) (w : World) (hs : Sl w A (gv g)) (hs' : Sl w B (gv h)) :
    Calls Try.prog 11 #[.slice A g.length c, .slice B h.length c'] w fun e w' => e = .returned (.bool true) ∧ Below w.heap.size w w' := by
  by_cases h0 : twoE g h = 0
  · obtain ⟨_, _, _, e, _, _⟩ := twoE_ok h0
    have := BeamApart_ok A B c c' g.length g h w hs hs' rfl e.symm h0
    rw [← e]
    exact this
  · exact BeamApart_err A B c c' g h w hs hs' h0
end Go.Proofs.Ytamkannjdbodpaa
