import Derived.Test.YtfolipkbcibgdaaGpR
namespace Go.Proofs.Ytfolipkbcibgdaa
open Go.RowKit Go.WideShapes Go.ChangeShapes

/-! Parse at the example: from one line's state to the next one's -/
section
variable {g7 : Nat} {W1 : World} {A3 A4 A9 A10 : Option Addr} {c3 c4 c9 c10 : Nat}
theorem PSt.car {wr : World} (h : PSt g7 W1 0 A3 A4 A9 A10 c3 c4 c9 c10 wr) :
    PSt g7 W1 1 A3 A4 A9 A10 c3 c4 c9 c10 (((wr.drew.setCell ⟨g7, 0, none⟩ (.string ⟨([99] : Bs).toArray⟩)).setCell ⟨g7, 1, none⟩ (.int .i64 4)).setCell ⟨g7, 2, none⟩ (.int .i64 48)) := by
  have h0 : PSt g7 W1 0 A3 A4 A9 A10 c3 c4 c9 c10 wr.drew := h.bel (below_drewN (Below.refl _ wr) 1)
  have x1 := h0.box.set_ 0 (.string ⟨([99] : Bs).toArray⟩)
  have x2 := x1.set_ 1 (.int .i64 4)
  have x3 := x2.set_ 2 (.int .i64 48)
  refine ⟨x3, own_far (own_far (own_far h0.o3 h0.box (by decide)) x1 (by decide)) x2 (by decide), own_far (own_far (own_far h0.o4 h0.box (by decide)) x1 (by decide)) x2 (by decide), fun _ => h0.o9 (by omega), fun _ => h0.o3n (by omega), ?_, grown_one (grown_one (grown_one h0.gr _ _) _ _) _ _, h0.hg⟩
  obtain ⟨xs, h10⟩ := h0.o10
  exact ⟨xs, own_far (own_far (own_far h10 h0.box (by decide)) x1 (by decide)) x2 (by decide)⟩
theorem PSt.par {wr wy : World} {A A' : Option Addr} {c c' : Nat} (h : PSt g7 W1 1 A3 A4 A9 A10 c3 c4 c9 c10 wr) (hb : Below wr.heap.size wr wy) (ho : wy.ownsRow wr.heap.size 56 3 (.slice A 1 c) 1 (flatC Prt.cs [⟨0, 0, 4⟩])) :
    PSt g7 W1 2 A A4 A' A10 c c4 c' c10 (wy.setCell ⟨g7, 3, none⟩ (.slice A 1 c)) := by
  have h0 := h.bel hb
  refine ⟨h0.box.set_ 3 (.slice A 1 c), own_far (ho.weaken h.gr.size) h0.box (by decide), own_far h0.o4 h0.box (by decide), fun k => absurd k (by omega), fun k => absurd k (by omega), ?_, grown_one h0.gr _ _, h0.hg⟩
  obtain ⟨xs, h10⟩ := h0.o10
  exact ⟨xs, own_far h10 h0.box (by decide)⟩
theorem sn_succ (m : Nat) : snI (m + 3) = snI (m + 2) + 1 := by unfold snI; omega
theorem sn_m (m : Nat) : snI (m + 2) = m := by unfold snI; omega
theorem o10_keep {X0 X2 : World} {m : Nat} {o1 : Obj} (h : PSt g7 W1 (m + 2) A3 A4 A9 A10 c3 c4 c9 c10 X0) (hg1 : (X0.alloc o1).grownBy X2 (Value.ownBlock (.slice A4 (snI (m + 2)) c4))) :
    ∃ xs, X2.ownsRow W1.heap.size 3 1 (.slice A10 (snI (m + 2)) c10) (snI (m + 2)) xs := by
  obtain ⟨xs, h10⟩ := h.o10
  exact ⟨xs, own_other (h10.alloc o1) (h.o4.alloc o1) (by decide) hg1⟩
theorem PSt.sig {X0 X2 X4 : World} {m : Nat} {o1 o2 : Obj} {A4' A10' : Option Addr} {c4' c10' : Nat} (hm : m < 4) (h : PSt g7 W1 (m + 2) A3 A4 A9 A10 c3 c4 c9 c10 X0)
    (hg1 : (X0.alloc o1).grownBy X2 (Value.ownBlock (.slice A4 (snI (m + 2)) c4))) (ho4 : X2.ownsRow W1.heap.size 82 11 (.slice A4' (snI (m + 2) + 1) c4') (snI (m + 2) + 1) (flatC Sig.cs (exS.take (snI (m + 2))) ++ flatC Sig.cs [exS[m]'hm]))
    (hg2 : (X2.alloc o2).grownBy X4 (Value.ownBlock (.slice A10 (snI (m + 2)) c10))) (ho10 : ∃ xs, X4.ownsRow W1.heap.size 3 1 (.slice A10' (snI (m + 2) + 1) c10') (snI (m + 2) + 1) xs) :
    PSt g7 W1 (m + 3) A3 A4' A9 A10' c3 c4' c9 c10' (X4.setCell ⟨g7, 4, none⟩ (.slice A4' (snI (m + 2) + 1) c4')) := by
  have hP : pnI (m + 2) = 1 := by unfold pnI; rw [if_neg (by omega)]
  have hP3 : pnI (m + 3) = 1 := by unfold pnI; rw [if_neg (by omega)]
  have b0 := (fun (k : Nat) (hk : 0 < k) => (show nmI k = [99] ∧ ceI k = 4 ∧ wiI k = 48 from ⟨by unfold nmI; rw [if_neg (by omega)], by unfold ceI; rw [if_neg (by omega)], by unfold wiI; rw [if_neg (by omega)]⟩))
  obtain ⟨n1, n2, n3⟩ := b0 (m + 2) (by omega)
  obtain ⟨m1, m2, m3⟩ := b0 (m + 3) (by omega)
  obtain ⟨xs, h10⟩ := h.o10
  obtain ⟨ys, h10'⟩ := ho10
  have q3 := own_other (h.o3.alloc o1) (h.o4.alloc o1) (by decide) hg1
  have q10 := own_other (h10.alloc o1) (h.o4.alloc o1) (by decide) hg1
  have qx : Blk X2 g7 25 _ := (h.box.alloc o1).grown hg1 (fun e => own_blk_ne (h.o4.alloc o1) (h.box.alloc o1) (by decide) e.symm)
  have p3 := own_other (q3.alloc o2) (q10.alloc o2) (by decide) hg2
  have p4 := own_other (ho4.alloc o2) (q10.alloc o2) (by decide) hg2
  have px : Blk X4 g7 25 _ := (qx.alloc o2).grown hg2 (fun e => own_blk_ne (q10.alloc o2) (qx.alloc o2) (by decide) e.symm)
  have g0 : W1.grownBy (X0.alloc o1) (some g7) := h.gr.trans (World.grownBy_alloc X0 o1 _)
  have g2 : W1.grownBy X2 (some g7) := grown_own g0 hg1 (fun j hj => (h.o4.lt j hj).1)
  have g4 : W1.grownBy X4 (some g7) := grown_own (g2.trans (World.grownBy_alloc X2 o2 _)) hg2 (fun j hj => (q10.lt j hj).1)
  have hfl : flatC Sig.cs (exS.take (snI (m + 2))) ++ flatC Sig.cs [exS[m]'hm] = flatC Sig.cs (exS.take (snI (m + 3))) := by
    rw [← flatC_append, sn_succ, sn_m, List.take_succ_eq_append_getElem hm]
  have z := px.set_ 4 (.slice A4' (snI (m + 2) + 1) c4')
  refine ⟨?_, ?_, ?_, fun k => absurd k (by omega), fun k => absurd k (by omega), ?_, grown_one g4 _ _, h.hg⟩
  · rw [m1, m2, m3, hP3, sn_succ]
    rw [n1, n2, n3, hP] at z
    exact z
  · rw [hP] at p3
    rw [hP3]
    exact own_far p3 px (by decide)
  · rw [hfl] at p4
    rw [sn_succ] at p4 ⊢
    exact own_far p4 px (by decide)
  · rw [sn_succ]
    exact ⟨ys, own_far h10' px (by decide)⟩
end
theorem sigs_blk {w : World} {g t : Nat} {s : Sig} (h : Blk w g t #[.int .i64 s.kd, .int .i64 s.pa, .int .i64 s.pe, .int .i64 s.of_, .int .i64 s.sl, .int .i64 s.sy, .int .i64 s.sn, .int .i64 s.bk, .int .i64 s.bn, .int .i64 s.st, .int .i64 s.sh]) : Sigs w (some ⟨g, 0, none⟩) [s] := fun k hk => by
  obtain rfl : k = 0 := by simpa using hk
  refine ⟨g, 0, rfl, fun j u hu => ?_⟩
  have := h.cell j
  simp only [Nat.zero_mul, Nat.zero_add]
  rw [this]
  simpa [Sig.cs] using hu
end Go.Proofs.Ytfolipkbcibgdaa
