import Derived.Test.YtamkannjdbodpaaChV
import Derived.Deep.AppendLies
namespace Go.Proofs.Ytamkannjdbodpaa
open Go.RowKit Go.WideShapes Go.ChangeShapes

theorem reads_two (w : World) (a b : Value) (t : TypeId) : Reads (w.alloc (.cells #[a, b] t)) (w.heap.size + 1) 2 (some ⟨w.heap.size, 0, none⟩) 1 [a, b] :=
  ⟨rfl, fun _ => ⟨_, rfl, by simp, fun j u hu => cell_two_new _ _ _ _ j u hu⟩⟩
set_option maxRecDepth 100000 in
set_option maxHeartbeats 4000000 in
theorem cleared_ref (A B : Option Addr) (c c' n : Nat) (g h : List (Int × Int)) (w : World) (h0 : twoE g h = 0) (hg : g.length = n) (hh : h.length = n) (hs : Sl w A (gv g)) (hs' : Sl w B (gv h)) :
    Calls Try.prog 66 #[.slice A n c, .slice B n c'] w fun e w' => ∃ C k, e = .returned (.slice C n k) ∧ Sl w' C (gv (clrL g h n)) ∧ Below w.heap.size w w' := by
  obtain ⟨i0, hi0, hz0, hz1, hz2⟩ := info_parts ga_info
  obtain ⟨-, sg, sh, -, -, -⟩ := twoE_ok h0
  have HS := hide hs; clear hs
  have HS' := hide hs'; clear hs'
  have hn8 := sg.1
  rw [hg] at hn8
  have HI := hide (fun W hb hb' => innerOf_ref A B c c' n g h W hb hb' hg hh sg sh)
  have HG := hide (fun W hb => energy_ref A c n g W hb hg sg)
  have SG := hide sg.2
  have SH := hide sh.2
  have hc0 := Ch30.in_ sg sh
  rw [hg] at hc0
  obtain ⟨g1, g2⟩ := sg.en
  rw [hg] at g1 g2
  have HCA := hide (show ∀ k, clrAt g h k = csub (cmul (enG g n, 0) (h[k]?.getD (0, 0))) (cmul (innerZ g h n) (g[k]?.getD (0, 0))) from fun k => by unfold clrAt clrBy; rw [hg, inner_self])
  obtain ⟨Z, hZ⟩ : ∃ Z, innerZ g h n = Z := ⟨_, rfl⟩
  obtain ⟨E, hE⟩ : ∃ E, enG g n = E := ⟨_, rfl⟩
  rw [hZ] at hc0 HI HCA
  rw [hE] at g1 g2 HG HCA
  have C0 := hide hc0
  clear h0 sg sh hc0 hZ hE
  go_enter Try.func66, Try.ntmps66
  go_wp2_with (go_at_call 62; refine (HI.out _ HS.out HS'.out).mono ?_; rintro e w1 ⟨rfl, hb1⟩; have b1 : Below w.heap.size w w1 := hb1; clear hb1; simp only [])
  have hzw := b1.size
  go_loopw [6, 7] (fun o i wr => ∃ (k : Nat) (C : Option Addr) (c1 : Nat), k ≤ n ∧ i = .int .i64 k ∧ o = .slice C k c1 ∧ Blk wr w1.heap.size 90 #[.int .i64 Z.1, .int .i64 Z.2] ∧ wr.ownsRow (w1.heap.size + 1) 90 2 (.slice C k c1) k (gv (clrL g h k)) ∧ Below w.heap.size w wr) (fun _ i _ => n - (intOf i).toNat)
  case atStart => exact ⟨0, none, 0, Nat.zero_le _, rfl, rfl, Blk.new w1 _ _, World.ownsRow_nil _ _ _ _, by go_grown⟩
  case round =>
    obtain ⟨k, C, c1, hk, rfl, rfl, hb0, hrow, hbel⟩ := hrel
    have yl0 := hb0.lt
    by_cases hlt : k < n
    · obtain ⟨b, off, rfl, e1, e2⟩ := HS.out.at2 (by omega : k < g.length)
      obtain ⟨b', off', rfl, e3, e4⟩ := HS'.out.at2 (by omega : k < h.length)
      have d1 : wr.cell? ⟨b, off + k * 2, none⟩ = some (.int .i64 g[k].1) := (hbel.cell (p := ⟨b, off + k * 2, none⟩) (lt_of_cell e1)).trans e1
      have d2 : wr.cell? ⟨b, off + k * 2 + 1, none⟩ = some (.int .i64 g[k].2) := (hbel.cell (p := ⟨b, off + k * 2 + 1, none⟩) (lt_of_cell e2)).trans e2
      have d3 : wr.cell? ⟨b', off' + k * 2, none⟩ = some (.int .i64 h[k].1) := (hbel.cell (p := ⟨b', off' + k * 2, none⟩) (lt_of_cell e3)).trans e3
      have d4 : wr.cell? ⟨b', off' + k * 2 + 1, none⟩ = some (.int .i64 h[k].2) := (hbel.cell (p := ⟨b', off' + k * 2 + 1, none⟩) (lt_of_cell e4)).trans e4
      have e0 : wr.cell? ⟨w1.heap.size, 0, none⟩ = some (.int .i64 Z.1) := hb0.cell 0
      have e5 : wr.cell? ⟨w1.heap.size, 1, none⟩ = some (.int .i64 Z.2) := hb0.cell 1
      have g3 : cle 30 g[k] := SG.out _ (List.getElem_mem (by omega))
      have g4 : cle 30 h[k] := SH.out _ (List.getElem_mem (by omega))
      have c0 := C0.out
      have g5 : cle 14400 (E, 0) := by unfold cle; dsimp only; omega
      have g6 := cmul_le g5 g4
      have g7 := cmul_le c0 g3
      have hst : clrAt g h k = csub (cmul (E, 0) h[k]) (cmul Z g[k]) := by
        rw [HCA.out, List.getElem?_eq_getElem (by omega : k < g.length), List.getElem?_eq_getElem (by omega : k < h.length)]; rfl
      have hsucc := hide (show gv (clrL g h (k + 1)) = gv (clrL g h k) ++ [.int .i64 (clrAt g h k).1, .int .i64 (clrAt g h k).2] by rw [clrL_succ, gv_append]; rfl)
      obtain ⟨G, hG⟩ : ∃ G, g[k] = G := ⟨_, rfl⟩
      obtain ⟨H, hH⟩ : ∃ H, h[k] = H := ⟨_, rfl⟩
      obtain ⟨T, hT⟩ : ∃ T, clrAt g h k = T := ⟨_, rfl⟩
      rw [hG] at hst g3 g7 d1 d2
      rw [hH] at hst g4 g6 d3 d4
      rw [hT] at hst hsucc
      have k1 := hide (show cle 1000000000 (E, 0) by unfold cle at *; omega)
      have k2 := hide (show cle 1000000000 H by unfold cle at *; omega)
      have k3 := hide (show cle 1000000000 Z by unfold cle at *; omega)
      have k4 := hide (show cle 1000000000 G by unfold cle at *; omega)
      have k5 := hide (show cle 1000000000000000000 (cmul (E, 0) H) by unfold cle at *; omega)
      have k6 := hide (show cle 1000000000000000000 (cmul Z G) by unfold cle at *; omega)
      have HST := hide hst
      have HROW := hide hrow
      have HROWw := hide (hrow.weaken (base' := w.heap.size) (by omega))
      have HD1 := hide (fun W (hb : Below w.heap.size w W) => (hb.cell (p := ⟨b, off + k * 2, none⟩) (lt_of_cell e1)).trans e1)
      have HD2 := hide (fun W (hb : Below w.heap.size w W) => (hb.cell (p := ⟨b, off + k * 2 + 1, none⟩) (lt_of_cell e2)).trans e2)
      have HD3 := hide (fun W (hb : Below w.heap.size w W) => (hb.cell (p := ⟨b', off' + k * 2, none⟩) (lt_of_cell e3)).trans e3)
      have HD4 := hide (fun W (hb : Below w.heap.size w W) => (hb.cell (p := ⟨b', off' + k * 2 + 1, none⟩) (lt_of_cell e4)).trans e4)
      rw [hG] at HD1 HD2
      rw [hH] at HD3 HD4
      have HB0 := hide hb0
      clear e1 e2 e3 e4 g3 g4 g5 g6 g7 c0 hG hH hT hst hrow hb0
      go_wp2
      go_region_held3 (fun w' => w'.cell? ⟨b, off + k * 2, none⟩ = some (.int .i64 G.1) ∧ w'.cell? ⟨b, off + k * 2 + 1, none⟩ = some (.int .i64 G.2) ∧ w'.cell? ⟨b', off' + k * 2, none⟩ = some (.int .i64 H.1) ∧ w'.cell? ⟨b', off' + k * 2 + 1, none⟩ = some (.int .i64 H.2) ∧ w'.cell? ⟨w1.heap.size, 0, none⟩ = some (.int .i64 Z.1) ∧ w'.cell? ⟨w1.heap.size, 1, none⟩ = some (.int .i64 Z.2)) (first | (simp [go_sem]; done) | (simp [go_sem, *]; done) | go_keep)
        (first
          | (go_at_call 91; go_must (refine (HG.out _ (HS.out.bel (by go_grown))).mono ?_; rintro e w2 ⟨rfl, hb⟩; have b2 : Below wr.heap.size wr w2 := Below.step (by go_grown) hb; clear hb; have q0 := b2.keeps e0; have q1 := b2.keeps e5; have q2 := b2.keeps d1; have q3 := b2.keeps d2; have q4 := b2.keeps d3; have q5 := b2.keeps d4))
          | (go_at_call 134; go_must (refine (gsub_ref (cmul (E, 0) H) (cmul Z G) _ k5.out k6.out).mono ?_; rintro e w5 ⟨rfl, hb⟩; rw [← HST.out]; have b5 : Below wr.heap.size wr w5 := Below.step (by go_grown) hb; clear hb; have q0 := b5.keeps e0; have q1 := b5.keeps e5; have q2 := b5.keeps d1; have q3 := b5.keeps d2; have q4 := b5.keeps d3; have q5 := b5.keeps d4; have HROW5 : Hid (w5.ownsRow (w1.heap.size + 1) 90 2 (.slice C k c1) k (gv (clrL g h k))) := own_bel HROW.out b5; have HROW5w : Hid (w5.ownsRow w.heap.size 90 2 (.slice C k c1) k (gv (clrL g h k))) := own_bel HROWw.out b5; have z5 := b5.size))
          | (go_at_call 57; have q3 := b3; refine (gmul_ref Z G _ k3.out k4.out).mono ?_; rintro e w4 ⟨rfl, hb⟩; have b4 : Below wr.heap.size wr w4 := Below.step (by go_grown) hb; clear hb; have q0 := b4.keeps e0; have q1 := b4.keeps e5; have q2 := b4.keeps d1; have q3 := b4.keeps d2; have q4 := b4.keeps d3; have q5 := b4.keeps d4)
          | (go_at_call 57; go_must (refine (gmul_ref (E, 0) H _ k1.out k2.out).mono ?_; rintro e w3 ⟨rfl, hb⟩; have b3 : Below wr.heap.size wr w3 := Below.step (by go_grown) hb; clear hb; have q0 := b3.keeps e0; have q1 := b3.keeps e5; have q2 := b3.keeps d1; have q3 := b3.keeps d2; have q4 := b3.keeps d3; have q5 := b3.keeps d4))
          | (have qq := b5
             go_must (
             refine step_append_any _ ?_ (.tmp 17) (.tmp 33) 80 ?_ (w1.heap.size + 1) 90 i0 _ 2 16 Try.underlying80 hi0 hz0 hz1 hz2 ?_ ?_ (.slice C k c1) k (gv (clrL g h k)) ?_ (HROW5.out.alloc (.cells #[.int .i64 T.1, .int .i64 T.2] 90)) (w5.heap.size + 1) (some ⟨w5.heap.size, 0, none⟩) 1 1 [.int .i64 T.1, .int .i64 T.2] ?_ (reads_two w5 (.int .i64 T.1) (.int .i64 T.2) 90) ?_ ?_ ?_ ?_ ?_
             · rfl
             · rfl
             · rfl
             · omega
             · rfl
             · rfl
             · simp [Value.oneCell']
             · simp only [maxLen]; omega
             · omega
             · simp; omega
             intro v' w6 hown' hgrow _
             obtain ⟨C2, k2, rfl⟩ := own_form hown'
             have hbel6 : Below w.heap.size w w6 := Below.app (Below.step hbel b5) HROW5w.out hgrow
             have hneq : some w1.heap.size ≠ (Value.slice C k c1).ownBlock := by
               intro e
               have hlt2 := HROW5.out.lt _ e.symm
               omega
             have U := ((HB0.out.below b5 yl0).alloc (.cells #[.int .i64 T.1, .int .i64 T.2] 90)).grown hgrow hneq
             have q0 : w6.cell? ⟨w1.heap.size, 0, none⟩ = some (.int .i64 Z.1) := U.cell 0
             have q1 : w6.cell? ⟨w1.heap.size, 1, none⟩ = some (.int .i64 Z.2) := U.cell 1
             have q2 := HD1.out _ hbel6
             have q3 := HD2.out _ hbel6
             have q4 := HD3.out _ hbel6
             have q5 := HD4.out _ hbel6)))
      all_goals
        go_wp2
        go_roundw
        case rel => exact ⟨k + 1, C2, k2, by omega, by go_num, rfl, U, by rw [hsucc.out]; exact hown', hbel6⟩
        case measure => simp [intOf]; omega
    · obtain rfl : k = n := by omega
      go_wp2
      go_ret
      exact ⟨C, c1, rfl, Sl.of_ownN hrow, hbel⟩
end Go.Proofs.Ytamkannjdbodpaa
