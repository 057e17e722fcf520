import Derived.Test.YtamkannjdbodpaaChT
namespace Go.Proofs.Ytamkannjdbodpaa
open Go.RowKit Go.WideShapes Go.ChangeShapes

set_option maxRecDepth 100000 in
set_option maxHeartbeats 4000000 in
theorem innerOf_ref (A B : Option Addr) (c c' n : Nat) (g h : List (Int × Int)) (w : World) (hs : Sl w A (gv g)) (hs' : Sl w B (gv h)) (hg : g.length = n) (hh : h.length = n) (sg : Ch30 g) (sh : Ch30 h) :
    Calls Try.prog 62 #[.slice A n c, .slice B n c'] w fun e w' => e = .returned (.agg #[.int .i64 (innerZ g h n).1, .int .i64 (innerZ g h n).2]) ∧ Below w.heap.size w w' := by
  have HS := hide hs; clear hs
  have HS' := hide hs'; clear hs'
  have hn8 := sg.1
  have SG := hide sg.2
  have SH := hide sh.2
  have HL := hide (innerZ_le sg.2 sh.2 (by decide) (by decide))
  clear sg sh
  go_enter Try.func62, Try.ntmps62
  go_wp2
  go_loopw [6] (fun i wr => ∃ k : Nat, k ≤ n ∧ i = .int .i64 k ∧ Blk wr w.heap.size 90 #[.int .i64 0, .int .i64 0] ∧ Blk wr (w.heap.size + 1) 90 #[.int .i64 (innerZ g h k).1, .int .i64 (innerZ g h k).2] ∧ Below w.heap.size w wr) (fun i _ => n - (intOf i).toNat)
  case atStart => exact ⟨0, Nat.zero_le _, rfl, (Blk.new w _ _).alloc _, (by have := Blk.new (w.alloc (.cells #[.int .i64 0, .int .i64 0] 90)) 90 #[.int .i64 0, .int .i64 0]; rw [World.size_alloc] at this; exact this), by go_grown⟩
  case round =>
    obtain ⟨k, hk, rfl, hb0, hb1, hbel⟩ := hrel
    have yl0 := hb0.lt
    have yl1 := hb1.lt
    have hlk := HL.out k
    by_cases hlt : k < n
    · obtain ⟨b, off, rfl, e1, e2⟩ := HS.out.at2 (by omega : k < g.length)
      obtain ⟨b', off', rfl, e3, e4⟩ := HS'.out.at2 (by omega : k < h.length)
      have d1 : wr.cell? ⟨b, off + k * 2, none⟩ = some (.int .i64 g[k].1) := (hbel.cell (p := ⟨b, off + k * 2, none⟩) (lt_of_cell e1)).trans e1
      have d2 : wr.cell? ⟨b, off + k * 2 + 1, none⟩ = some (.int .i64 g[k].2) := (hbel.cell (p := ⟨b, off + k * 2 + 1, none⟩) (lt_of_cell e2)).trans e2
      have d3 : wr.cell? ⟨b', off' + k * 2, none⟩ = some (.int .i64 h[k].1) := (hbel.cell (p := ⟨b', off' + k * 2, none⟩) (lt_of_cell e3)).trans e3
      have d4 : wr.cell? ⟨b', off' + k * 2 + 1, none⟩ = some (.int .i64 h[k].2) := (hbel.cell (p := ⟨b', off' + k * 2 + 1, none⟩) (lt_of_cell e4)).trans e4
      have g1 : cle 30 g[k] := SG.out _ (List.getElem_mem (by omega))
      have g2 : cle 30 h[k] := SH.out _ (List.getElem_mem (by omega))
      have g3 := cmul_le (cconj_le g1) g2
      have hst : innerZ g h (k + 1) = cadd (innerZ g h k) (cmul (cconj g[k]) h[k]) := by
        rw [innerZ, List.getElem?_eq_getElem (by omega : k < g.length), List.getElem?_eq_getElem (by omega : k < h.length)]; rfl
      obtain ⟨S, hS⟩ : ∃ S, innerZ g h k = S := ⟨_, rfl⟩
      obtain ⟨G, hG⟩ : ∃ G, g[k] = G := ⟨_, rfl⟩
      obtain ⟨H, hH⟩ : ∃ H, h[k] = H := ⟨_, rfl⟩
      rw [hS] at hst hlk hb1
      rw [hG] at hst g1 g3 d1 d2
      rw [hH] at hst g2 g3 d3 d4
      have c1 := hide (show cle 1000000000000000 G by unfold cle at *; omega)
      have c2 := hide (show cle 1000000000 (cconj G) by have := cconj_le g1; unfold cle at *; omega)
      have c3 := hide (show cle 1000000000 H by unfold cle at *; omega)
      have c4 := hide (show cle 1000000000000000000 S by unfold cle at *; omega)
      have c5 := hide (show cle 1000000000000000000 (cmul (cconj G) H) by unfold cle at *; omega)
      have e0 : wr.cell? ⟨w.heap.size + 1, 0, none⟩ = some (.int .i64 S.1) := hb1.cell 0
      have e5 : wr.cell? ⟨w.heap.size + 1, 1, none⟩ = some (.int .i64 S.2) := hb1.cell 1
      have HST := hide hst
      clear e1 e2 e3 e4 g1 g2 g3 hS hG hH hst hlk
      go_wp2
      go_region_with
        (first
          | (go_at_call 58; go_must (refine (gconj_ref G _ c1.out).mono ?_; rintro e w1 ⟨rfl, hb⟩; have b1 : Below wr.heap.size wr w1 := Below.step (by go_grown) hb; clear hb; have i0 := b1.keeps e0; have i1 := b1.keeps e5; have i3 := b1.keeps d3; have i4 := b1.keeps d4))
          | (go_at_call 57; go_must (refine (gmul_ref (cconj G) H _ c2.out c3.out).mono ?_; rintro e w2 ⟨rfl, hb⟩; have b2 : Below wr.heap.size wr w2 := Below.step (by go_grown) hb; clear hb; have j0 := b2.keeps e0; have j1 := b2.keeps e5))
          | (go_at_call 56; go_must (refine (gadd_ref S (cmul (cconj G) H) _ c4.out c5.out).mono ?_; rintro e w3 ⟨rfl, hb⟩; have b3 : Below wr.heap.size wr w3 := Below.step (by go_grown) hb; clear hb; have B3 := hb1.below b3 yl1; have f0 := B3.frozen 0; have f1 := B3.frozen 1; have j2 := b3.keeps e0; have j3 := b3.keeps e5; rw [← HST.out])))
      all_goals
        go_wp2
        go_roundw
        case rel => exact ⟨k + 1, by omega, by go_num, ((hb0.below b3 yl0).far (by simp) _).far (by simp) _, (B3.set_ 0 (.int .i64 (innerZ g h (k + 1)).1)).set_ 1 (.int .i64 (innerZ g h (k + 1)).2), ((Below.step hbel b3).setCell (p := ⟨w.heap.size + 1, 0, none⟩) (by simp) _).setCell (p := ⟨w.heap.size + 1, 1, none⟩) (by simp) _⟩
        case measure => simp [intOf]; omega
    · obtain rfl : k = n := by omega
      obtain ⟨S, hS⟩ : ∃ S, innerZ g h k = S := ⟨_, rfl⟩
      rw [hS] at hb1
      have HSS := hide hS; clear hS
      have e0 : wr.cell? ⟨w.heap.size + 1, 0, none⟩ = some (.int .i64 S.1) := hb1.cell 0
      have e5 : wr.cell? ⟨w.heap.size + 1, 1, none⟩ = some (.int .i64 S.2) := hb1.cell 1
      have g0 := hb0.frozen 0
      have g1 := hb0.frozen 1
      have z0 : wr.cell? ⟨w.heap.size, 0, none⟩ = some (.int .i64 0) := hb0.cell 0
      have z1 : wr.cell? ⟨w.heap.size, 1, none⟩ = some (.int .i64 0) := hb0.cell 1
      go_wp2
      have hb3 := (hb0.set_ 0 (.int .i64 S.1)).set_ 1 (.int .i64 S.2)
      have hbel3 := (hbel.setCell (p := ⟨w.heap.size, 0, none⟩) (by simp) (.int .i64 S.1)).setCell (p := ⟨w.heap.size, 1, none⟩) (by simp) (.int .i64 S.2)
      clear hb0 hb1 hbel e0 e5 g0 g1 z0 z1
      revert hb3 hbel3
      generalize World.setCell _ _ _ = W
      intro hb3 hbel3
      have e0 : W.cell? ⟨w.heap.size, 0, none⟩ = some (.int .i64 S.1) := hb3.cell 0
      have e1 : W.cell? ⟨w.heap.size, 1, none⟩ = some (.int .i64 S.2) := hb3.cell 1
      refine bodyPost_ret (v := .agg #[.int .i64 S.1, .int .i64 S.2]) (by simp [results, Try.results62, go_sem, e0, e1]) rfl ⟨by rw [HSS.out], hbel3⟩
end Go.Proofs.Ytamkannjdbodpaa
