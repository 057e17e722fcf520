import Derived.Test.YtamkannjdbodpaaChR
namespace Go.Proofs.Ytamkannjdbodpaa
open Go.RowKit Go.WideShapes Go.ChangeShapes

set_option maxRecDepth 100000 in
set_option maxHeartbeats 2000000 in
theorem channelErr_ref (A : Option Addr) (c : Nat) (h : List (Int × Int)) (w : World) (hs : Sl w A (gv h)) :
    Calls Try.prog 87 #[.slice A h.length c] w fun e w' => e = .returned (.int .i64 (chE h)) ∧ Below w.heap.size w w' := by
  have HS := hide hs; clear hs
  by_cases h0 : h.length = 0
  · have e : chE h = 10 := by unfold chE; rw [h0]; rfl
    have he : ((h.length : Int) == 0) = true := by simp [h0]
    rw [e]
    go_enter Try.func87, Try.ntmps87
    go_wp2
    go_ret
    exact ⟨rfl, by go_grown⟩
  · have he : ((h.length : Int) == 0) = false := by rw [beq_eq_false_iff_ne]; omega
    by_cases h8 : 8 < h.length
    · have e : chE h = 8 := by unfold chE; rw [decide_eq_true (by omega : 0 < (h.length : Int)), decide_eq_false (by omega : ¬ (h.length : Int) ≤ 8)]; rfl
      rw [e]
      go_enter Try.func87, Try.ntmps87
      go_wp2
      go_ret
      exact ⟨rfl, by go_grown⟩
    · have E := hide (show chE h = unlessE (!(decide (0 ≤ idxG greatG h 0))) 2 by
        unfold chE; rw [decide_eq_true (by omega : 0 < (h.length : Int)), decide_eq_true (by omega : (h.length : Int) ≤ 8), idxG_any _ _ _ (Int.le_refl _)]
        cases h.any greatG <;> rfl)
      go_enter Try.func87, Try.ntmps87
      go_wp2
      go_loopw [3] (fun i wr => ∃ k : Nat, k ≤ h.length ∧ i = .int .i64 k ∧ idxG greatG h 0 = idxG greatG (h.drop k) k ∧ w = wr) (fun i _ => h.length - (intOf i).toNat)
      case atStart => exact ⟨0, Nat.zero_le _, rfl, by simp, rfl⟩
      case round =>
        obtain ⟨k, hk, rfl, he, rfl⟩ := hrel
        have HE := hide he; clear he
        by_cases hlt : k < h.length
        · obtain ⟨b, off, rfl, d1, d2⟩ := HS.out.at2 hlt
          have hgr : greatG h[k] = (!(withinB h[k].1 (-30) 30) || !(withinB h[k].2 (-30) 30)) := rfl
          cases hw1 : withinB h[k].1 (-30) 30
          · have hh := hide (idxG_hit greatG h k hlt (by rw [hgr, hw1]; rfl) k)
            have HW := hide hw1; clear hw1 hgr
            go_wp2_with (go_at_call 24; refine (within_base _ _ _ _).mono ?_; rintro e w' ⟨rfl, rfl⟩; rw [HW.out]; simp only [])
            go_ret
            exact ⟨by rw [E.out, HE.out, hh.out, decide_eq_true (by omega : (0 : Int) ≤ (k : Int))]; rfl, by go_grown⟩
          · cases hw2 : withinB h[k].2 (-30) 30
            · have hh := hide (idxG_hit greatG h k hlt (by rw [hgr, hw1, hw2]; rfl) k)
              have HW := hide hw1; clear hw1 hgr
              have HW2 := hide hw2; clear hw2
              go_wp2_with (go_at_call 24; refine (within_base _ _ _ _).mono ?_; rintro e w' ⟨rfl, rfl⟩; first | rw [HW.out] | rw [HW2.out]; simp only [])
              go_ret
              exact ⟨by rw [E.out, HE.out, hh.out, decide_eq_true (by omega : (0 : Int) ≤ (k : Int))]; rfl, by go_grown⟩
            · have hh := hide (idxG_skip greatG h k hlt (by rw [hgr, hw1, hw2]; rfl) k)
              have HW := hide hw1; clear hw1 hgr
              have HW2 := hide hw2; clear hw2
              go_wp2_with (go_at_call 24; refine (within_base _ _ _ _).mono ?_; rintro e w' ⟨rfl, rfl⟩; first | rw [HW.out] | rw [HW2.out]; simp only [])
              go_roundw
              case rel => exact ⟨k + 1, by omega, by go_num, by rw [HE.out, hh.out]; simp, trivial⟩
              case measure => simp [intOf]; omega
        · go_wp2
          go_ret
          exact ⟨by rw [E.out, HE.out, List.drop_eq_nil_of_le (by omega)]; rfl, by go_grown⟩

theorem bothErr_ref (A B : Option Addr) (c c' : Nat) (g h : List (Int × Int)) (w : World) (hs : Sl w A (gv g)) (hs' : Sl w B (gv h)) :
    Calls Try.prog 61 #[.slice A g.length c, .slice B h.length c'] w fun e w' => e = .returned (.int .i64 (bothE g h)) ∧ Below w.heap.size w w' := by
  have HS := hide hs; clear hs
  have HS' := hide hs'; clear hs'
  have hb : bothE g h = if chE g = 0 then (if chE h = 0 then lenE g h else chE h) else chE g := by
    unfold bothE firstOf firstOf firstOf firstOf
    by_cases q1 : chE g = 0 <;> by_cases q2 : chE h = 0 <;> by_cases q3 : lenE g h = 0 <;> simp [q1, q2, q3]
  by_cases q1 : chE g = 0
  · rw [if_pos q1] at hb
    have n1 : (chE g != 0) = false := by simp [q1]
    by_cases q2 : chE h = 0
    · rw [if_pos q2] at hb
      have n2 : (chE h != 0) = false := by simp [q2]
      by_cases q3 : g.length = h.length
      · have n3 : ((g.length : Int) != (h.length : Int)) = false := by simp [q3]
        have hz : bothE g h = 0 := by rw [hb]; unfold lenE; rw [decide_eq_true q3]; rfl
        rw [hz]
        have Q3 := hide q3
        clear hb hz q1 q2 q3
        go_enter Try.func61, Try.ntmps61
        go_wp2_with (first
          | (go_at_call 87; refine (channelErr_ref B c' h _ (HS'.out.bel b1)).mono ?_; rintro e w2 ⟨rfl, hb2⟩; have b2 : Below w.heap.size w w2 := Below.step b1 hb2; clear hb2; simp only [])
          | (go_at_call 87; refine (channelErr_ref A c g _ HS.out).mono ?_; rintro e w1 ⟨rfl, hb1⟩; have b1 : Below w.heap.size w w1 := hb1; clear hb1; simp only []))
        go_ret
        exact ⟨rfl, b2⟩
      · have n3 : ((g.length : Int) != (h.length : Int)) = true := by rw [bne_iff_ne]; omega
        have hz : bothE g h = 13 := by rw [hb]; unfold lenE; rw [decide_eq_false q3]; rfl
        rw [hz]
        have Q3 := hide q3
        clear hb hz q1 q2 q3
        go_enter Try.func61, Try.ntmps61
        go_wp2_with (first
          | (go_at_call 87; refine (channelErr_ref B c' h _ (HS'.out.bel b1)).mono ?_; rintro e w2 ⟨rfl, hb2⟩; have b2 : Below w.heap.size w w2 := Below.step b1 hb2; clear hb2; simp only [])
          | (go_at_call 87; refine (channelErr_ref A c g _ HS.out).mono ?_; rintro e w1 ⟨rfl, hb1⟩; have b1 : Below w.heap.size w w1 := hb1; clear hb1; simp only []))
        go_ret
        exact ⟨rfl, b2⟩
    · rw [if_neg q2] at hb
      have n2 : (chE h != 0) = true := by rw [bne_iff_ne]; exact q2
      rw [hb]
      clear hb q1 q2
      go_enter Try.func61, Try.ntmps61
      go_wp2_with (first
        | (go_at_call 87; refine (channelErr_ref B c' h _ (HS'.out.bel b1)).mono ?_; rintro e w2 ⟨rfl, hb2⟩; have b2 : Below w.heap.size w w2 := Below.step b1 hb2; clear hb2; simp only [])
        | (go_at_call 87; refine (channelErr_ref A c g _ HS.out).mono ?_; rintro e w1 ⟨rfl, hb1⟩; have b1 : Below w.heap.size w w1 := hb1; clear hb1; simp only []))
      go_ret
      exact ⟨rfl, b2⟩
  · rw [if_neg q1] at hb
    have n1 : (chE g != 0) = true := by rw [bne_iff_ne]; exact q1
    rw [hb]
    clear hb q1
    go_enter Try.func61, Try.ntmps61
    go_wp2_with (go_at_call 87; refine (channelErr_ref A c g _ HS.out).mono ?_; rintro e w1 ⟨rfl, hb1⟩; have b1 : Below w.heap.size w w1 := hb1; clear hb1; simp only [])
    go_ret
    exact ⟨rfl, b1⟩

theorem energy_ref (A : Option Addr) (c n : Nat) (g : List (Int × Int)) (w : World) (hs : Sl w A (gv g)) (hg : g.length = n) (sg : Ch30 g) :
    Calls Try.prog 91 #[.slice A n c] w fun e w' => e = .returned (.int .i64 (enG g n)) ∧ Below w.heap.size w w' := by
  have HS := hide hs; clear hs
  have hn8 := sg.1
  have SG := hide sg.2
  go_enter Try.func91, Try.ntmps91
  go_wp2
  go_loopw [3, 4] (fun s i wr => ∃ k : Nat, k ≤ n ∧ i = .int .i64 k ∧ s = .int .i64 (enG g k) ∧ enG g k ≤ 1800 * k ∧ Below w.heap.size w wr) (fun _ i _ => n - (intOf i).toNat)
  case atStart => exact ⟨0, Nat.zero_le _, rfl, rfl, by simp [enG, innerZ], Below.refl _ _⟩
  case round =>
    obtain ⟨k, hk, rfl, rfl, hle, hbel⟩ := hrel
    have h0 := en_nn g k
    by_cases hlt : k < n
    · have hlt' : k < g.length := by omega
      obtain ⟨b, off, rfl, e1, e2⟩ := HS.out.at2 hlt'
      have d1 : wr.cell? ⟨b, off + k * 2, none⟩ = some (.int .i64 g[k].1) := (hbel.cell (p := ⟨b, off + k * 2, none⟩) (lt_of_cell e1)).trans e1
      have d2 : wr.cell? ⟨b, off + k * 2 + 1, none⟩ = some (.int .i64 g[k].2) := (hbel.cell (p := ⟨b, off + k * 2 + 1, none⟩) (lt_of_cell e2)).trans e2
      have g1 : cle 30 g[k] := SG.out _ (List.getElem_mem hlt')
      have g2 := hide (show cle 1000000000 g[k] by unfold cle at *; omega)
      obtain ⟨m1, m2⟩ := nrm_bd g1
      have hst : enG g (k + 1) = enG g k + nrm g[k] := by rw [en_step, List.getElem?_eq_getElem hlt']; rfl
      obtain ⟨N, hN⟩ : ∃ N, nrm g[k] = N := ⟨_, rfl⟩
      obtain ⟨S, hS⟩ : ∃ S, enG g k = S := ⟨_, rfl⟩
      rw [hN] at m1 m2 hst
      rw [hS] at hst h0 hle
      rw [hS]
      have HN := hide hN
      have HST := hide hst
      clear e1 e2 g1 hN hS hst
      go_wp2_with (go_at_call 133; refine (gnorm_ref g[k] _ g2.out).mono ?_; rintro e w1 ⟨rfl, hb1⟩; rw [HN.out]; have b1 := Below.step hbel hb1; clear hb1; simp only [])
      go_roundw
      case rel => exact ⟨k + 1, by omega, by go_num, by rw [HST.out], by rw [HST.out]; omega, b1⟩
      case measure => simp [intOf]; omega
    · obtain rfl : k = n := by omega
      go_wp2
      go_ret
      exact ⟨rfl, hbel⟩
end Go.Proofs.Ytamkannjdbodpaa
