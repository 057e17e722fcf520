import Derived.Test.YtfolipkbcibgdaaGrS
namespace Go.Proofs.Ytfolipkbcibgdaa
open Go.RowKit Go.WideShapes Go.ChangeShapes

/-! runs of free blocks -/
def rgc (r : Nat × Nat) : List Value := [.int .i64 (r.1 : Int), .int .i64 (r.2 : Int)]
theorem rgc_n (r : Nat × Nat) : (rgc r).length = 2 := rfl
theorem range_info : (Try.prog.info? 72).map (fun i => (i.zero, i.size, i.bytes)) = some (some (.agg #[.int .i64 0, .int .i64 0]), 2, 16) := by kernel_rfl
def RunsOk (F : Nat → Bool) (k : Nat) (R : List (Nat × Nat)) : Prop := R.length ≤ k ∧ ∀ r ∈ R, r.1 ≤ r.2 ∧ r.2 < k ∧ ∀ b, r.1 ≤ b → b ≤ r.2 → F b = true
theorem RunsOk.succ {F : Nat → Bool} {k : Nat} {R : List (Nat × Nat)} (h : RunsOk F k R) : RunsOk F (k + 1) R :=
  ⟨by have := h.1; omega, fun r hr => ⟨(h.2 r hr).1, by have := (h.2 r hr).2.1; omega, (h.2 r hr).2.2⟩⟩
theorem RunsOk.snoc {F : Nat → Bool} {k : Nat} {R : List (Nat × Nat)} (h : RunsOk F k R) (hk : F k = true) : RunsOk F (k + 1) (R ++ [(k, k)]) :=
  ⟨by have := h.1; simp; omega, fun r hr => by
    rcases List.mem_append.1 hr with hr | hr
    · exact h.succ.2 r hr
    · rw [List.mem_singleton] at hr
      subst hr
      exact ⟨Nat.le_refl _, Nat.lt_succ_self _, fun b h1 h2 => by obtain rfl : b = k := Nat.le_antisymm h2 h1; exact hk⟩⟩
theorem RunsOk.last {F : Nat → Bool} {k lo hi : Nat} {R : List (Nat × Nat)} (h : RunsOk F k (R ++ [(lo, hi)])) (hh : hi + 1 = k) (hk : F k = true) : RunsOk F (k + 1) (R ++ [(lo, k)]) :=
  ⟨by have := h.1; simp at this ⊢; omega, fun r hr => by
    rcases List.mem_append.1 hr with hr | hr
    · exact h.succ.2 r (List.mem_append_left _ hr)
    · rw [List.mem_singleton] at hr
      subst hr
      have hl := h.2 (lo, hi) (by simp)
      refine ⟨by have := hl.1; simp only [] at this ⊢; omega, Nat.lt_succ_self _, fun b h1 h2 => ?_⟩
      by_cases e : b = k
      · subst e; exact hk
      · exact hl.2.2 b h1 (by simp only [] at h2 ⊢; omega)⟩
theorem grown_own {a w w' : World} {U : Nat} {r : Option Nat} (h : a.grownBy w (some U)) (hg : w.grownBy w' r) (hr : ∀ j, r = some j → a.heap.size ≤ j) : a.grownBy w' (some U) :=
  ⟨hg.os.trans h.os, hg.tape.trans h.tape, hg.output.trans h.output, Nat.le_trans h.size hg.size, fun i hi hn => (hg.block i (Nat.lt_of_lt_of_le hi h.size) (fun e => by have := hr i e.symm; omega)).trans (h.block i hi hn)⟩
theorem flat_set (R : List (Nat × Nat)) (lo hi k : Nat) : (flatC rgc (R ++ [(lo, hi)])).set (R.length * 2 + 1) (.int .i64 (k : Int)) = flatC rgc (R ++ [(lo, k)]) := by
  rw [flatC_append, flatC_append, List.set_append, if_neg (by rw [flatC_length rgc_n]; omega), flatC_length rgc_n, show R.length * 2 + 1 - R.length * 2 = 1 by omega]
  rfl
theorem flat_hi (R : List (Nat × Nat)) (lo hi : Nat) : (flatC rgc (R ++ [(lo, hi)]))[R.length * 2 + 1]? = some (.int .i64 (hi : Int)) := by
  rw [flatC_append, List.getElem?_append_right (by rw [flatC_length rgc_n]; omega), flatC_length rgc_n, show R.length * 2 + 1 - R.length * 2 = 1 by omega]
  rfl
def FreeR (F : Nat → Bool) (bl : Nat) (w : World) (e : Ending) (w' : World) : Prop := ∃ A c R, e = .returned (.tuple #[.slice A (List.length R) c, .int .i64 0]) ∧ Rws 2 rgc w' A R ∧ RunsOk F bl R ∧ Below w.heap.size w w'
set_option maxRecDepth 100000 in
set_option maxHeartbeats 16000000 in
theorem freeBlocks_ok (nm : Bs) (ce wi : Int) (PA SA : Option Addr) (pc sc : Nat) (P : List Prt) (S : List Sig) (l : List Alo) (D : Option Addr) (d : Nat) (a : Alo) (w : World) (hnm : OkN nm) (hc : OkCr ce wi P S) (hl : AccL ce P S l) (hd : l.length ≤ d) (ha : OkAl P a) (hP : Prts w PA P) (hS : Sigs w SA S) (hD : Alos w D l) :
    Calls Try.prog 28 #[.agg #[strV nm, .int .i64 ce, .int .i64 wi, .slice PA P.length pc, .slice SA S.length sc], .slice D l.length d, .agg #[.int .i64 a.pa, .int .i64 a.sf, .int .i64 a.sl, .int .i64 a.sy, .int .i64 a.sn, .int .i64 a.bk, .int .i64 a.bn]] w (FreeR (fun k => freeB ce P S l ⟨a.pa, a.sf, a.sl, a.sy, a.sn, k, 1⟩) (prtAt P a.pa).bl.toNat w) := by
  have hpk : a.pa.toNat < P.length := by have := ha.pa; omega
  have hq : prtAt P a.pa = P[a.pa.toNat] := by unfold prtAt; rw [List.getElem?_eq_getElem hpk]; rfl
  have hp := hc.ps _ (List.getElem_mem hpk)
  have HOA := hide (fun W k k2 k3 => openAllocations_ok nm ce wi PA SA pc sc P S l D d W hnm hc hl hd k k2 k3)
  have HA0 := hide (fun W k => alone_ok (strV nm) ce wi PA SA pc sc P S a W hc ha k)
  have HAK : ∀ k : Nat, k < (prtAt P a.pa).bl.toNat → OkAl P ⟨a.pa, a.sf, a.sl, a.sy, a.sn, k, 1⟩ := fun k hk => ⟨ha.pa, ha.sf, ha.sl, fun h => ⟨(ha.bx h).sy, by rw [hq] at hk; refine ⟨?_, ?_, ?_⟩ <;> simp only [] <;> omega⟩⟩
  have HFI := hide (fun (k : Nat) W (q : k < (prtAt P a.pa).bl.toNat) k1 k2 => fits_all (strV nm) ce wi PA SA pc sc P S ⟨a.pa, a.sf, a.sl, a.sy, a.sn, k, 1⟩ W hc (HAK k q) k1 k2)
  have HBU := hide (fun (k : Nat) W (q : k < (prtAt P a.pa).bl.toNat) k1 k2 => busy_all (strV nm) ce wi PA SA pc sc P S ⟨a.pa, a.sf, a.sl, a.sy, a.sn, k, 1⟩ l D d W hc (HAK k q) (fun x hx => by obtain ⟨j, hj, rfl⟩ := List.getElem_of_mem hx; exact hl.ok j hj) (by have := hl.few; omega) k1 k2)
  have HFF := hide (fun (k : Nat) => show (fun (k : Nat) => freeB ce P S l ⟨a.pa, a.sf, a.sl, a.sy, a.sn, k, 1⟩) k = (fitsB ce P S ⟨a.pa, a.sf, a.sl, a.sy, a.sn, k, 1⟩ && !busyB P l ⟨a.pa, a.sf, a.sl, a.sy, a.sn, k, 1⟩) from rfl)
  obtain ⟨F, hF⟩ : ∃ F, (fun (k : Nat) => freeB ce P S l ⟨a.pa, a.sf, a.sl, a.sy, a.sn, k, 1⟩) = F := ⟨_, rfl⟩
  rw [hF] at HFF ⊢
  obtain ⟨G1, hG1⟩ : ∃ G : Nat → Bool, (fun (k : Nat) => fitsB ce P S ⟨a.pa, a.sf, a.sl, a.sy, a.sn, k, 1⟩) = G := ⟨_, rfl⟩
  obtain ⟨G2, hG2⟩ : ∃ G : Nat → Bool, (fun (k : Nat) => busyB P l ⟨a.pa, a.sf, a.sl, a.sy, a.sn, k, 1⟩) = G := ⟨_, rfl⟩
  have e1 : ∀ (k : Nat), fitsB ce P S ⟨a.pa, a.sf, a.sl, a.sy, a.sn, k, 1⟩ = G1 k := fun k => by rw [← hG1]
  have e2 : ∀ (k : Nat), busyB P l ⟨a.pa, a.sf, a.sl, a.sy, a.sn, k, 1⟩ = G2 k := fun k => by rw [← hG2]
  simp only [e1] at HFI HFF
  simp only [e2] at HBU HFF
  have hBl : (((prtAt P a.pa).bl.toNat : Nat) : Int) = (P[a.pa.toNat]).bl := by rw [hq]; have := hp.bl; omega
  have hbl := hp.bl
  have hpa := ha.pa
  have hpl := hc.pn.2
  obtain ⟨q, hqe⟩ := Int.eq_ofNat_of_zero_le hpa.1
  have hak : a.pa.toNat = q := by omega
  obtain ⟨b, o, rfl, -⟩ := hP.at_ q (by omega)
  have HPQ := hide (fun W (h : Prts W (some ⟨b, o, none⟩) P) => show W.cell? ⟨b, o + q * 3, none⟩ = some (.int .i64 (P[a.pa.toNat]'hpk).mu) ∧ W.cell? ⟨b, o + q * 3 + 1, none⟩ = some (.int .i64 (P[a.pa.toNat]'hpk).fi) ∧ W.cell? ⟨b, o + q * 3 + 2, none⟩ = some (.int .i64 (P[a.pa.toNat]'hpk).bl) from by
    simp only [hak]
    exact prts_now h q (by omega))
  obtain ⟨p, hpe⟩ : ∃ p, P[a.pa.toNat]'hpk = p := ⟨_, rfl⟩
  rw [hpe] at hbl HPQ hBl
  obtain ⟨B, hB⟩ : ∃ B, (prtAt P a.pa).bl.toNat = B := ⟨_, rfl⟩
  rw [hB] at hBl HFI HBU ⊢
  rw [← hBl] at HPQ hbl
  obtain ⟨mu, hmu⟩ : ∃ x, p.mu = x := ⟨_, rfl⟩
  obtain ⟨fi, hfi⟩ : ∃ x, p.fi = x := ⟨_, rfl⟩
  rw [hmu, hfi] at HPQ
  obtain ⟨pn, hpn⟩ : ∃ x, P.length = x := ⟨_, rfl⟩
  obtain ⟨gn, hgn⟩ : ∃ x, S.length = x := ⟨_, rfl⟩
  obtain ⟨m, hm⟩ : ∃ x, l.length = x := ⟨_, rfl⟩
  have g1 : (q : Int) < (pn : Int) := by omega
  obtain ⟨i0, hi0, hz0, hz1, hz2⟩ := info_parts range_info
  have HT0 := hide (((stay_rws hP).and (stay_rws hS)).and (stay_rws hD))
  have HT : Hid (Stay (((w.alloc (.cells #[strV nm, .int .i64 ce, .int .i64 wi, .slice (some ⟨b, o, none⟩) P.length pc, .slice SA S.length sc] 25)).alloc (.cells #[.int .i64 a.pa, .int .i64 a.sf, .int .i64 a.sl, .int .i64 a.sy, .int .i64 a.sn, .int .i64 a.bk, .int .i64 a.bn] 34))) (fun W => (((Blk W w.heap.size 25 #[strV nm, .int .i64 ce, .int .i64 wi, .slice (some ⟨b, o, none⟩) P.length pc, .slice SA S.length sc] ∧ Blk W (w.heap.size + 1) 34 #[.int .i64 a.pa, .int .i64 a.sf, .int .i64 a.sl, .int .i64 a.sy, .int .i64 a.sn, .int .i64 a.bk, .int .i64 a.bn])) ∧ Below w.heap.size w W))) := hide
    ((((stay_blk ((Blk.new w 25 #[strV nm, .int .i64 ce, .int .i64 wi, .slice (some ⟨b, o, none⟩) P.length pc, .slice SA S.length sc]).alloc (.cells #[.int .i64 a.pa, .int .i64 a.sf, .int .i64 a.sl, .int .i64 a.sy, .int .i64 a.sn, .int .i64 a.bk, .int .i64 a.bn] 34))).and ((stay_blk (blk_up w 25 34 #[strV nm, .int .i64 ce, .int .i64 wi, .slice (some ⟨b, o, none⟩) P.length pc, .slice SA S.length sc] #[.int .i64 a.pa, .int .i64 a.sf, .int .i64 a.sl, .int .i64 a.sy, .int .i64 a.sn, .int .i64 a.bk, .int .i64 a.bn])))).and (stay_below ((((Below.refl _ w).alloc (Nat.le_refl _) (.cells #[strV nm, .int .i64 ce, .int .i64 wi, .slice (some ⟨b, o, none⟩) P.length pc, .slice SA S.length sc] 25)).alloc (by simp) (.cells #[.int .i64 a.pa, .int .i64 a.sf, .int .i64 a.sl, .int .i64 a.sy, .int .i64 a.sn, .int .i64 a.bk, .int .i64 a.bn] 34))))))
  clear hP hS hD hc hl hd hnm ha hp hq hpe hak hF hG1 hG2 e1 e2 hmu hfi hB HAK
  rw [hqe] at HT HFI HBU HA0 ⊢
  rw [hpn, hgn] at HT HFI HBU HA0 HOA ⊢
  rw [hpn] at hpa hpl
  rw [hm] at HOA HBU ⊢
  clear hqe hpn hgn hm hpk hpa hBl
  obtain ⟨W0, hW0⟩ : ∃ W0, ((w.alloc (.cells #[strV nm, .int .i64 ce, .int .i64 wi, .slice (some ⟨b, o, none⟩) pn pc, .slice SA gn sc] 25)).alloc (.cells #[.int .i64 (q : Int), .int .i64 a.sf, .int .i64 a.sl, .int .i64 a.sy, .int .i64 a.sn, .int .i64 a.bk, .int .i64 a.bn] 34)) = W0 := ⟨_, rfl⟩
  rw [hW0] at HT
  have z0 : W0.cell? ⟨w.heap.size, 0, none⟩ = some (strV nm) := HT.out.now.1.1.cell 0
  have z1 : W0.cell? ⟨w.heap.size, 1, none⟩ = some (.int .i64 ce) := HT.out.now.1.1.cell 1
  have z2 : W0.cell? ⟨w.heap.size, 2, none⟩ = some (.int .i64 wi) := HT.out.now.1.1.cell 2
  have z3 : W0.cell? ⟨w.heap.size, 3, none⟩ = some (.slice (some ⟨b, o, none⟩) pn pc) := HT.out.now.1.1.cell 3
  have z4 : W0.cell? ⟨w.heap.size, 4, none⟩ = some (.slice SA gn sc) := HT.out.now.1.1.cell 4
  go_enter Try.func28, Try.ntmps28
  go_wp2_with (first
    | (refine wpList_store_row rfl 58 (.tmp 8) (.tmp 17) rfl w1.heap.size #[strV nm, .int .i64 ce, .int .i64 wi, .slice (some ⟨b, o, none⟩) pn pc, .slice SA gn sc] rfl rfl 58 #[.string ⟨#[]⟩, .int .i64 0, .int .i64 0, .slice none 0 0, .slice none 0 0] (Blk.new w1 58 #[.string ⟨#[]⟩, .int .i64 0, .int .i64 0, .slice none 0 0, .slice none 0 0]) (by kernel_rfl) rfl (by simp [Value.oneCell', strV]) ?_; have hYl : w.heap.size + 1 < w1.heap.size := HT.out.now.1.2.lt; have HX := hide ((Blk.new w1 58 #[.string ⟨#[]⟩, .int .i64 0, .int .i64 0, .slice none 0 0, .slice none 0 0]).row #[strV nm, .int .i64 ce, .int .i64 wi, .slice (some ⟨b, o, none⟩) pn pc, .slice SA gn sc]); replace HT := hide ((HT.out.step (Below.row (g := w1.heap.size) ((Below.refl w1.heap.size w1).alloc (Nat.le_refl _) (.cells #[.string ⟨#[]⟩, .int .i64 0, .int .i64 0, .slice none 0 0, .slice none 0 0] 58)) (Nat.le_refl _) #[strV nm, .int .i64 ce, .int .i64 wi, .slice (some ⟨b, o, none⟩) pn pc, .slice SA gn sc])).and (stay_blk HX.out)); clear HX; obtain ⟨Y, hY⟩ : ∃ Y, w1.heap.size = Y := ⟨_, rfl⟩; obtain ⟨W1, hW1⟩ : ∃ W1, (w1.alloc (.cells #[.string ⟨#[]⟩, .int .i64 0, .int .i64 0, .slice none 0 0, .slice none 0 0] 58)).setRow w1.heap.size #[strV nm, .int .i64 ce, .int .i64 wi, .slice (some ⟨b, o, none⟩) pn pc, .slice SA gn sc] = W1 := ⟨_, rfl⟩; rw [hW1] at HT ⊢; rw [hY] at HT hYl ⊢; clear hW1 hY; have y0 : W1.cell? ⟨Y, 0, none⟩ = some (strV nm) := HT.out.now.2.cell 0; have y1 : W1.cell? ⟨Y, 1, none⟩ = some (.int .i64 ce) := HT.out.now.2.cell 1; have y2 : W1.cell? ⟨Y, 2, none⟩ = some (.int .i64 wi) := HT.out.now.2.cell 2; have y3 : W1.cell? ⟨Y, 3, none⟩ = some (.slice (some ⟨b, o, none⟩) pn pc) := HT.out.now.2.cell 3; have y4 : W1.cell? ⟨Y, 4, none⟩ = some (.slice SA gn sc) := HT.out.now.2.cell 4; have v0 : W1.cell? ⟨w.heap.size + 1, 0, none⟩ = some (.int .i64 (q : Int)) := HT.out.now.1.1.2.cell 0; have v1 : W1.cell? ⟨w.heap.size + 1, 1, none⟩ = some (.int .i64 a.sf) := HT.out.now.1.1.2.cell 1; have v2 : W1.cell? ⟨w.heap.size + 1, 2, none⟩ = some (.int .i64 a.sl) := HT.out.now.1.1.2.cell 2; have v3 : W1.cell? ⟨w.heap.size + 1, 3, none⟩ = some (.int .i64 a.sy) := HT.out.now.1.1.2.cell 3; have v4 : W1.cell? ⟨w.heap.size + 1, 4, none⟩ = some (.int .i64 a.sn) := HT.out.now.1.1.2.cell 4; have v5 : W1.cell? ⟨w.heap.size + 1, 5, none⟩ = some (.int .i64 a.bk) := HT.out.now.1.1.2.cell 5; have v6 : W1.cell? ⟨w.heap.size + 1, 6, none⟩ = some (.int .i64 a.bn) := HT.out.now.1.1.2.cell 6; skip)
    | (go_at_call 19; go_must (refine (HOA.out _ (HT0.out _ HT.out.now.2).1.1 (HT0.out _ HT.out.now.2).1.2 (HT0.out _ HT.out.now.2).2).mono ?_; rintro e w1 ⟨rfl, hb⟩; replace HT := hide (HT.out.step hb); clear hb hW0 z0 z1 z2 z3 z4; simp only []))
    | (go_at_call 24; go_must (refine (HA0.out _ (HT0.out _ HT.out.now.1.2).1.1).mono ?_; rintro e w2 ⟨rfl, hb⟩; replace HT := hide (HT.out.step hb); clear hb y0 y1 y2 y3 y4 v0 v1 v2 v3 v4 v5 v6; have v6 : w2.cell? ⟨w.heap.size + 1, 6, none⟩ = some (.int .i64 a.bn) := HT.out.now.1.1.2.cell 6; have f6 : w2.frozen? ⟨w.heap.size + 1, 6, none⟩ = false := HT.out.now.1.1.2.frozen 6; have HE := hide ((((but_blk HT.out.now.1.1.1 (U := w.heap.size + 1) (by omega)).and (but_blk HT.out.now.2 (by omega))).and (but_below HT.out.now.1.2 (by omega))).step (grown_one (World.grownBy.refl _ _) 6 (.int .i64 1))); have HX := hide (show Blk (w2.setCell ⟨w.heap.size + 1, 6, none⟩ (.int .i64 1)) (w.heap.size + 1) 34 (#[.int .i64 (q : Int), .int .i64 a.sf, .int .i64 a.sl, .int .i64 a.sy, .int .i64 a.sn, .int .i64 a.bk, .int .i64 1]) from HT.out.now.1.1.2.set_ 6 (.int .i64 1)); have c3 : (w2.setCell ⟨w.heap.size + 1, 6, none⟩ (.int .i64 1)).cell? ⟨w.heap.size, 3, none⟩ = some (.slice (some ⟨b, o, none⟩) pn pc) := HE.out.now.1.1.cell 3; have x0 : (w2.setCell ⟨w.heap.size + 1, 6, none⟩ (.int .i64 1)).cell? ⟨w.heap.size + 1, 0, none⟩ = some (.int .i64 (q : Int)) := HX.out.cell 0; have p2 := (HPQ.out _ (HT0.out _ HE.out.now.2).1.1).2.2; simp only [])))
  clear v6 f6 c3 x0 p2 HT HPQ HA0 HOA
  obtain ⟨W5, hW5⟩ : ∃ W5, w2.setCell ⟨w.heap.size + 1, 6, none⟩ (.int .i64 1) = W5 := ⟨_, rfl⟩
  rw [hW5] at HE HX ⊢
  clear hW5
  have hX5 := hide HX.out.lt
  go_loopw [11, 36] (fun ov i wr => ∃ (k : Nat) (b : Int) (A : Option Addr) (c : Nat) (R : List (Nat × Nat)), k ≤ B ∧ i = .int .i64 k ∧ ov = .slice A R.length c ∧ W5.grownBy wr (some (w.heap.size + 1)) ∧ Blk wr (w.heap.size + 1) 34 (#[.int .i64 (q : Int), .int .i64 a.sf, .int .i64 a.sl, .int .i64 a.sy, .int .i64 a.sn, .int .i64 b, .int .i64 1]) ∧ wr.ownsRow W5.heap.size 72 2 (.slice A R.length c) R.length (flatC rgc R) ∧ RunsOk F k R) (fun _ i _ => B - (intOf i).toNat)
  case atStart => exact ⟨0, a.bk, none, 0, [], Nat.zero_le _, rfl, rfl, World.grownBy.refl _ _, HX.out, ⟨rfl, .inl ⟨rfl, rfl⟩⟩, Nat.zero_le _, fun r hr => absurd hr (by simp)⟩
  case round =>
    clear HX
    obtain ⟨k, b3, A, c, R, hkB, rfl, rfl, hg, hbk, hown, hok⟩ := hrel
    obtain ⟨rn, hrn⟩ : ∃ rn, R.length = rn := ⟨_, rfl⟩
    rw [hrn] at hown ⊢
    replace hg := hide hg
    replace hbk := hide hbk
    replace hown := hide hown
    replace hok := hide hok
    by_cases hlt : k < B
    · have hki : (k : Int) < (B : Int) := by omega
      have a5 : wr.cell? ⟨w.heap.size + 1, 5, none⟩ = some (.int .i64 b3) := hbk.out.cell 5
      have f5 := hbk.out.frozen 5
      have hg2 := hide (grown_one hg.out 5 (.int .i64 (k : Int)))
      have hbk2 := hide (show Blk (wr.setCell ⟨w.heap.size + 1, 5, none⟩ (.int .i64 (k : Int))) (w.heap.size + 1) 34 (#[.int .i64 (q : Int), .int .i64 a.sf, .int .i64 a.sl, .int .i64 a.sy, .int .i64 a.sn, .int .i64 (k : Int), .int .i64 1]) from hbk.out.set_ 5 (.int .i64 (k : Int)))
      have hown2 := hide (ownsRow_setCell_below hown.out (a := ⟨w.heap.size + 1, 5, none⟩) hX5.out (.int .i64 (k : Int)))
      have HF1 := hide (fun W q q2 => HFI.out k W hlt q q2)
      have HB1 := hide (fun W q q2 => HBU.out k W hlt q q2)
      have hFv := HFF.out k
      obtain ⟨bv1, hv1⟩ : ∃ v, G1 k = v := ⟨_, rfl⟩
      obtain ⟨bv2, hv2⟩ : ∃ v, G2 k = v := ⟨_, rfl⟩
      rw [hv1] at HF1 hFv
      rw [hv2] at HB1 hFv
      replace hFv := hide hFv
      clear hv1 hv2 hg hbk hown
      have y0 : (wr.setCell ⟨w.heap.size + 1, 5, none⟩ (.int .i64 (k : Int))).cell? ⟨Y, 0, none⟩ = some (strV nm) := (HE.out _ hg2.out).1.2.cell 0
      have y1 : (wr.setCell ⟨w.heap.size + 1, 5, none⟩ (.int .i64 (k : Int))).cell? ⟨Y, 1, none⟩ = some (.int .i64 ce) := (HE.out _ hg2.out).1.2.cell 1
      have y2 : (wr.setCell ⟨w.heap.size + 1, 5, none⟩ (.int .i64 (k : Int))).cell? ⟨Y, 2, none⟩ = some (.int .i64 wi) := (HE.out _ hg2.out).1.2.cell 2
      have y3 : (wr.setCell ⟨w.heap.size + 1, 5, none⟩ (.int .i64 (k : Int))).cell? ⟨Y, 3, none⟩ = some (.slice (some ⟨b, o, none⟩) pn pc) := (HE.out _ hg2.out).1.2.cell 3
      have y4 : (wr.setCell ⟨w.heap.size + 1, 5, none⟩ (.int .i64 (k : Int))).cell? ⟨Y, 4, none⟩ = some (.slice SA gn sc) := (HE.out _ hg2.out).1.2.cell 4
      have v0 : (wr.setCell ⟨w.heap.size + 1, 5, none⟩ (.int .i64 (k : Int))).cell? ⟨w.heap.size + 1, 0, none⟩ = some (.int .i64 (q : Int)) := hbk2.out.cell 0
      have v1 : (wr.setCell ⟨w.heap.size + 1, 5, none⟩ (.int .i64 (k : Int))).cell? ⟨w.heap.size + 1, 1, none⟩ = some (.int .i64 a.sf) := hbk2.out.cell 1
      have v2 : (wr.setCell ⟨w.heap.size + 1, 5, none⟩ (.int .i64 (k : Int))).cell? ⟨w.heap.size + 1, 2, none⟩ = some (.int .i64 a.sl) := hbk2.out.cell 2
      have v3 : (wr.setCell ⟨w.heap.size + 1, 5, none⟩ (.int .i64 (k : Int))).cell? ⟨w.heap.size + 1, 3, none⟩ = some (.int .i64 a.sy) := hbk2.out.cell 3
      have v4 : (wr.setCell ⟨w.heap.size + 1, 5, none⟩ (.int .i64 (k : Int))).cell? ⟨w.heap.size + 1, 4, none⟩ = some (.int .i64 a.sn) := hbk2.out.cell 4
      have v5 : (wr.setCell ⟨w.heap.size + 1, 5, none⟩ (.int .i64 (k : Int))).cell? ⟨w.heap.size + 1, 5, none⟩ = some (.int .i64 (k : Int)) := hbk2.out.cell 5
      have v6 : (wr.setCell ⟨w.heap.size + 1, 5, none⟩ (.int .i64 (k : Int))).cell? ⟨w.heap.size + 1, 6, none⟩ = some (.int .i64 1) := hbk2.out.cell 6
      cases bv1
      · go_wp2_with (go_at_call 26; go_must (refine (HF1.out _ (HT0.out _ (HE.out _ hg2.out).2).1.1 (HT0.out _ (HE.out _ hg2.out).2).1.2).mono ?_; rintro e w8 ⟨rfl, hb⟩; replace hbk2 := hide (hbk2.out.below hb hbk2.out.lt); replace hg2 := hide (gb_trans hg2.out (only_of_below hb _)); replace hown2 := hide (own_bel hown2.out hb); clear hb; clear a5 f5 y0 y1 y2 y3 y4 v0 v1 v2 v3 v4 v5 v6; simp only []))
        go_roundw
        case rel => exact ⟨k + 1, (k : Int), A, c, R, by omega, by go_num, by rw [hrn], hg2.out, hbk2.out, by rw [hrn]; exact hown2.out, hok.out.succ⟩
        case measure => simp [intOf]; omega
      · cases bv2
        · go_wp2_with (first
            | (go_at_call 27; go_must (refine (HB1.out _ (HT0.out _ (HE.out _ hg2.out).2).1.1 (HT0.out _ (HE.out _ hg2.out).2).2).mono ?_; rintro e w9 ⟨rfl, hb⟩; replace hbk2 := hide (hbk2.out.below hb hbk2.out.lt); replace hg2 := hide (gb_trans hg2.out (only_of_below hb _)); replace hown2 := hide (own_bel hown2.out hb); clear hb; clear y0 y1 y2 y3 y4 v0 v1 v2 v3 v4 v5 v6; simp only []))
            | (go_at_call 26; go_must (refine (HF1.out _ (HT0.out _ (HE.out _ hg2.out).2).1.1 (HT0.out _ (HE.out _ hg2.out).2).1.2).mono ?_; rintro e w8 ⟨rfl, hb⟩; replace hbk2 := hide (hbk2.out.below hb hbk2.out.lt); replace hg2 := hide (gb_trans hg2.out (only_of_below hb _)); replace hown2 := hide (own_bel hown2.out hb); clear hb; clear a5 f5 y0 y1 y2 y3 y4 v0 v1 v2 v3 v4 v5 v6; have y0 : w8.cell? ⟨Y, 0, none⟩ = some (strV nm) := (HE.out _ hg2.out).1.2.cell 0; have y1 : w8.cell? ⟨Y, 1, none⟩ = some (.int .i64 ce) := (HE.out _ hg2.out).1.2.cell 1; have y2 : w8.cell? ⟨Y, 2, none⟩ = some (.int .i64 wi) := (HE.out _ hg2.out).1.2.cell 2; have y3 : w8.cell? ⟨Y, 3, none⟩ = some (.slice (some ⟨b, o, none⟩) pn pc) := (HE.out _ hg2.out).1.2.cell 3; have y4 : w8.cell? ⟨Y, 4, none⟩ = some (.slice SA gn sc) := (HE.out _ hg2.out).1.2.cell 4; have v0 : w8.cell? ⟨w.heap.size + 1, 0, none⟩ = some (.int .i64 (q : Int)) := hbk2.out.cell 0; have v1 : w8.cell? ⟨w.heap.size + 1, 1, none⟩ = some (.int .i64 a.sf) := hbk2.out.cell 1; have v2 : w8.cell? ⟨w.heap.size + 1, 2, none⟩ = some (.int .i64 a.sl) := hbk2.out.cell 2; have v3 : w8.cell? ⟨w.heap.size + 1, 3, none⟩ = some (.int .i64 a.sy) := hbk2.out.cell 3; have v4 : w8.cell? ⟨w.heap.size + 1, 4, none⟩ = some (.int .i64 a.sn) := hbk2.out.cell 4; have v5 : w8.cell? ⟨w.heap.size + 1, 5, none⟩ = some (.int .i64 (k : Int)) := hbk2.out.cell 5; have v6 : w8.cell? ⟨w.heap.size + 1, 6, none⟩ = some (.int .i64 1) := hbk2.out.cell 6; simp only [])))
          have hFk := hide (show F k = true from hFv.out)
          have happ := hide (hok.out.snoc hFk.out)
          have hrl := hok.out.1
          have hrb : rn < 200 := by omega
          by_cases hr0 : 0 < rn
          · obtain ⟨R0, lo, hi, rfl⟩ : ∃ R0 lo hi, R = R0 ++ [(lo, hi)] := by
              rcases List.eq_nil_or_concat R with h | ⟨R0, x, h⟩
              · rw [h] at hrn; simp at hrn; omega
              · exact ⟨R0, x.1, x.2, by rw [h]; simp⟩
            obtain ⟨n0, hn0⟩ : ∃ n0, R0.length = n0 := ⟨_, rfl⟩
            have hrn0 : rn = n0 + 1 := by rw [← hrn, ← hn0]; simp
            have hhi := (hok.out.2 (lo, hi) (by simp)).2.1
            have hmr := hide (fun (e : hi + 1 = k) => hok.out.last e hFk.out)
            simp only [] at hhi
            obtain ⟨g, cap, hv, -, hgb⟩ := hown2.out.form hr0
            have hAe : A = some ⟨g, 0, none⟩ := by injection hv
            subst hAe
            have hge : W5.heap.size ≤ g := (hown2.out.lt g rfl).1
            have HC := hide (show w9.cell? ⟨g, n0 * 2 + 1, none⟩ = some (.int .i64 (hi : Int)) from by
              rw [← hn0]
              have h := hown2.out.cells (g := g) rfl (R0.length * 2 + 1) _ (flat_hi R0 lo hi)
              rw [add_lit, Nat.zero_add] at h
              exact h)
            have r1 : (0 : Int) < (rn : Int) := by omega
            have r2 : IntKind.i64.wrap ((rn : Int) - 1) = (n0 : Int) := by rw [show (rn : Int) - 1 = (n0 : Int) by omega]; exact IntWalk.i64_in _ (by omega)
            have r3 : (n0 : Int) < (rn : Int) := by omega
            have r4 : IntKind.i64.wrap ((k : Int) - 1) = (k : Int) - 1 := IntWalk.i64_in _ (by omega)
            replace hrn0 := hide hrn0
            clear hv hgb
            by_cases hcon : hi + 1 = k
            · have r5 : ((hi : Int) == (k : Int) - 1) = true := by rw [beq_iff_eq]; omega
              refine wp_region_held_drew (S := fun w_ => Below w9.heap.size w9 w_) (by kernel_rfl) (below_drewN (Below.refl w9.heap.size w9) 1) (fun hHeld => ?_)
              refine take_at (i := 0) 62 (v := .int .i64 (rn : Int)) rfl rfl (by kernel_rfl) (by kernel_rfl) (by kernel_rfl) (fun _ _ _ h => h) (Or.inl ⟨by rfl, by intro w_ hSw; go_simp⟩) (by assumption) ?_
              try simp only [Act.put, List.setIfInBounds_toArray, List.set_cons_zero, List.set_cons_succ]
              refine take_at (i := 1) 63 (v := .bool true) rfl rfl (by kernel_rfl) (by kernel_rfl) (by kernel_rfl) (fun _ _ _ h => h) (Or.inl ⟨by rfl, by intro w_ hSw; go_simp⟩) (by assumption) ?_
              try simp only [Act.put, List.setIfInBounds_toArray, List.set_cons_zero, List.set_cons_succ]
              refine take_at (i := 2) 64 (v := .bool true) rfl rfl (by kernel_rfl) (by kernel_rfl) (by kernel_rfl) (fun _ _ _ h => h) (Or.inl ⟨by rfl, by intro w_ hSw; go_simp⟩) (by assumption) ?_
              try simp only [Act.put, List.setIfInBounds_toArray, List.set_cons_zero, List.set_cons_succ]
              refine take_at (i := 3) 65 (v := .slice (some ⟨g, 0, none⟩) rn c) rfl rfl (by kernel_rfl) (by kernel_rfl) (by kernel_rfl) (fun _ _ _ h => h) (Or.inl ⟨by rfl, by intro w_ hSw; go_simp⟩) (by assumption) ?_
              try simp only [Act.put, List.setIfInBounds_toArray, List.set_cons_zero, List.set_cons_succ]
              refine take_at (i := 4) 66 (v := .int .i64 (rn : Int)) rfl rfl (by kernel_rfl) (by kernel_rfl) (by kernel_rfl) (fun _ _ _ h => h) (Or.inl ⟨by rfl, by intro w_ hSw; go_simp⟩) (by assumption) ?_
              try simp only [Act.put, List.setIfInBounds_toArray, List.set_cons_zero, List.set_cons_succ]
              refine take_at (i := 5) 67 (v := .int .i64 (n0 : Int)) rfl rfl (by kernel_rfl) (by kernel_rfl) (by kernel_rfl) (fun _ _ _ h => h) (Or.inl ⟨by rfl, by intro w_ hSw; go_simp⟩) (by assumption) ?_
              try simp only [Act.put, List.setIfInBounds_toArray, List.set_cons_zero, List.set_cons_succ]
              refine take_at (i := 6) 68 (v := .pointer (some ⟨g, n0 * 2, none⟩)) rfl rfl (by kernel_rfl) (by kernel_rfl) (by kernel_rfl) (fun _ _ _ h => h) (Or.inl ⟨by rfl, by intro w_ hSw; go_simp⟩) (by assumption) ?_
              try simp only [Act.put, List.setIfInBounds_toArray, List.set_cons_zero, List.set_cons_succ]
              refine take_at (i := 7) 69 (v := .pointer (some ⟨g, n0 * 2 + 1, none⟩)) rfl rfl (by kernel_rfl) (by kernel_rfl) (by kernel_rfl) (fun _ _ _ h => h) (Or.inl ⟨by rfl, by intro w_ hSw; go_simp⟩) (by assumption) ?_
              try simp only [Act.put, List.setIfInBounds_toArray, List.set_cons_zero, List.set_cons_succ]
              refine take_at (i := 8) 70 (v := .int .i64 (hi : Int)) rfl rfl (by kernel_rfl) (by kernel_rfl) (by kernel_rfl) (fun _ _ _ h => h) (Or.inl ⟨by rfl, by intro w_ hSw; have cg := (hSw.cell (lt_of_cell HC.out)).trans HC.out; go_simp⟩) (by assumption) ?_
              try simp only [Act.put, List.setIfInBounds_toArray, List.set_cons_zero, List.set_cons_succ]
              refine take_at (i := 9) 71 (v := .pointer (some ⟨w.heap.size + 1, 5, none⟩)) rfl rfl (by kernel_rfl) (by kernel_rfl) (by kernel_rfl) (fun _ _ _ h => h) (Or.inl ⟨by rfl, by intro w_ hSw; go_simp⟩) (by assumption) ?_
              try simp only [Act.put, List.setIfInBounds_toArray, List.set_cons_zero, List.set_cons_succ]
              refine take_at (i := 10) 72 (v := .int .i64 (k : Int)) rfl rfl (by kernel_rfl) (by kernel_rfl) (by kernel_rfl) (fun _ _ _ h => h) (Or.inl ⟨by rfl, by intro w_ hSw; have c5 : w_.cell? ⟨w.heap.size + 1, 5, none⟩ = some (.int .i64 (k : Int)) := (hbk2.out.below hSw hbk2.out.lt).cell 5; go_simp⟩) (by assumption) ?_
              try simp only [Act.put, List.setIfInBounds_toArray, List.set_cons_zero, List.set_cons_succ]
              refine take_at (i := 11) 73 (v := .int .i64 ((k : Int) - 1)) rfl rfl (by kernel_rfl) (by kernel_rfl) (by kernel_rfl) (fun _ _ _ h => h) (Or.inl ⟨by rfl, by intro w_ hSw; go_simp⟩) (by assumption) ?_
              try simp only [Act.put, List.setIfInBounds_toArray, List.set_cons_zero, List.set_cons_succ]
              refine take_at (i := 12) 74 (v := .bool true) rfl rfl (by kernel_rfl) (by kernel_rfl) (by kernel_rfl) (fun _ _ _ h => h) (Or.inl ⟨by rfl, by intro w_ hSw; go_simp⟩) (by assumption) ?_
              try simp only [Act.put, List.setIfInBounds_toArray, List.set_cons_zero, List.set_cons_succ]
              refine take_at (i := 13) 75 (v := .bool true) rfl rfl (by kernel_rfl) (by kernel_rfl) (by kernel_rfl) (fun _ _ _ h => h) (Or.inl ⟨by rfl, by intro w_ hSw; go_simp⟩) (by assumption) ?_
              try simp only [Act.put, List.setIfInBounds_toArray, List.set_cons_zero, List.set_cons_succ]
              refine take_at (i := 14) 61 (v := .bool true) rfl rfl (by kernel_rfl) (by kernel_rfl) (by kernel_rfl) (fun _ _ _ h => h) (Or.inl ⟨by rfl, by intro w_ hSw; go_simp⟩) (by assumption) ?_
              try simp only [Act.put, List.setIfInBounds_toArray, List.set_cons_zero, List.set_cons_succ]
              refine wpAnyH_done (by kernel_rfl) ?_ _
              obtain ⟨W9, hW9⟩ : ∃ W9, w9.drew = W9 := ⟨_, rfl⟩
              rw [hW9] at hHeld
              first | rw [hW9] | (change Code.wp _ _ _ _ w9.drew; rw [hW9])
              replace hbk2 := hide (hbk2.out.below hHeld hbk2.out.lt)
              replace hg2 := hide (gb_trans hg2.out (only_of_below hHeld _))
              replace hown2 := hide (own_bel hown2.out hHeld)
              clear hHeld HC hW9 r5
              have HC : W9.cell? ⟨g, n0 * 2 + 1, none⟩ = some (.int .i64 (hi : Int)) := by
                rw [← hn0]
                have h := hown2.out.cells (g := g) rfl (R0.length * 2 + 1) _ (flat_hi R0 lo hi)
                rw [add_lit, Nat.zero_add] at h
                exact h
              have HFz : W9.frozen? ⟨g, n0 * 2 + 1, none⟩ = false := World.ownsRow.frozenAt (hrn ▸ hown2.out) (n0 * 2 + 1)
              have v5 : W9.cell? ⟨w.heap.size + 1, 5, none⟩ = some (.int .i64 (k : Int)) := hbk2.out.cell 5
              have HST := hide (World.ownsRow.stored hown2.out (n0 * 2 + 1) (.int .i64 (k : Int))).1
              rw [← hn0, flat_set] at HST
              have hne : w.heap.size + 1 ≠ g := by have := hX5.out; omega
              go_wp2_with fail
              go_roundw
              case rel => exact ⟨k + 1, (k : Int), some ⟨g, 0, none⟩, c, R0 ++ [(lo, k)], by omega, by go_num, by rw [← hrn]; simp, only_setCell hg2.out (.inr hge) _, hbk2.out.far hne _, by rw [show (R0 ++ [(lo, k)]).length = rn by rw [hrn0.out, ← hn0]; simp, ← hn0]; exact HST.out, hmr.out hcon⟩
              case measure => simp [intOf]; omega
            · have r5 : ((hi : Int) == (k : Int) - 1) = false := by rw [beq_eq_false_iff_ne]; omega
              have r6 : ¬ (hi : Int) = (k : Int) - 1 := by omega
              refine wp_region_held_drew (S := fun w_ => Below w9.heap.size w9 w_) (by kernel_rfl) (below_drewN (Below.refl w9.heap.size w9) 1) (fun hHeld => ?_)
              refine take_at (i := 0) 62 (v := .int .i64 (rn : Int)) rfl rfl (by kernel_rfl) (by kernel_rfl) (by kernel_rfl) (fun _ _ _ h => h) (Or.inl ⟨by rfl, by intro w_ hSw; go_simp⟩) (by assumption) ?_
              try simp only [Act.put, List.setIfInBounds_toArray, List.set_cons_zero, List.set_cons_succ]
              refine take_at (i := 1) 63 (v := .bool true) rfl rfl (by kernel_rfl) (by kernel_rfl) (by kernel_rfl) (fun _ _ _ h => h) (Or.inl ⟨by rfl, by intro w_ hSw; go_simp⟩) (by assumption) ?_
              try simp only [Act.put, List.setIfInBounds_toArray, List.set_cons_zero, List.set_cons_succ]
              refine take_at (i := 2) 64 (v := .bool true) rfl rfl (by kernel_rfl) (by kernel_rfl) (by kernel_rfl) (fun _ _ _ h => h) (Or.inl ⟨by rfl, by intro w_ hSw; go_simp⟩) (by assumption) ?_
              try simp only [Act.put, List.setIfInBounds_toArray, List.set_cons_zero, List.set_cons_succ]
              refine take_at (i := 3) 65 (v := .slice (some ⟨g, 0, none⟩) rn c) rfl rfl (by kernel_rfl) (by kernel_rfl) (by kernel_rfl) (fun _ _ _ h => h) (Or.inl ⟨by rfl, by intro w_ hSw; go_simp⟩) (by assumption) ?_
              try simp only [Act.put, List.setIfInBounds_toArray, List.set_cons_zero, List.set_cons_succ]
              refine take_at (i := 4) 66 (v := .int .i64 (rn : Int)) rfl rfl (by kernel_rfl) (by kernel_rfl) (by kernel_rfl) (fun _ _ _ h => h) (Or.inl ⟨by rfl, by intro w_ hSw; go_simp⟩) (by assumption) ?_
              try simp only [Act.put, List.setIfInBounds_toArray, List.set_cons_zero, List.set_cons_succ]
              refine take_at (i := 5) 67 (v := .int .i64 (n0 : Int)) rfl rfl (by kernel_rfl) (by kernel_rfl) (by kernel_rfl) (fun _ _ _ h => h) (Or.inl ⟨by rfl, by intro w_ hSw; go_simp⟩) (by assumption) ?_
              try simp only [Act.put, List.setIfInBounds_toArray, List.set_cons_zero, List.set_cons_succ]
              refine take_at (i := 6) 68 (v := .pointer (some ⟨g, n0 * 2, none⟩)) rfl rfl (by kernel_rfl) (by kernel_rfl) (by kernel_rfl) (fun _ _ _ h => h) (Or.inl ⟨by rfl, by intro w_ hSw; go_simp⟩) (by assumption) ?_
              try simp only [Act.put, List.setIfInBounds_toArray, List.set_cons_zero, List.set_cons_succ]
              refine take_at (i := 7) 69 (v := .pointer (some ⟨g, n0 * 2 + 1, none⟩)) rfl rfl (by kernel_rfl) (by kernel_rfl) (by kernel_rfl) (fun _ _ _ h => h) (Or.inl ⟨by rfl, by intro w_ hSw; go_simp⟩) (by assumption) ?_
              try simp only [Act.put, List.setIfInBounds_toArray, List.set_cons_zero, List.set_cons_succ]
              refine take_at (i := 8) 70 (v := .int .i64 (hi : Int)) rfl rfl (by kernel_rfl) (by kernel_rfl) (by kernel_rfl) (fun _ _ _ h => h) (Or.inl ⟨by rfl, by intro w_ hSw; have cg := (hSw.cell (lt_of_cell HC.out)).trans HC.out; go_simp⟩) (by assumption) ?_
              try simp only [Act.put, List.setIfInBounds_toArray, List.set_cons_zero, List.set_cons_succ]
              refine take_at (i := 9) 71 (v := .pointer (some ⟨w.heap.size + 1, 5, none⟩)) rfl rfl (by kernel_rfl) (by kernel_rfl) (by kernel_rfl) (fun _ _ _ h => h) (Or.inl ⟨by rfl, by intro w_ hSw; go_simp⟩) (by assumption) ?_
              try simp only [Act.put, List.setIfInBounds_toArray, List.set_cons_zero, List.set_cons_succ]
              refine take_at (i := 10) 72 (v := .int .i64 (k : Int)) rfl rfl (by kernel_rfl) (by kernel_rfl) (by kernel_rfl) (fun _ _ _ h => h) (Or.inl ⟨by rfl, by intro w_ hSw; have c5 : w_.cell? ⟨w.heap.size + 1, 5, none⟩ = some (.int .i64 (k : Int)) := (hbk2.out.below hSw hbk2.out.lt).cell 5; go_simp⟩) (by assumption) ?_
              try simp only [Act.put, List.setIfInBounds_toArray, List.set_cons_zero, List.set_cons_succ]
              refine take_at (i := 11) 73 (v := .int .i64 ((k : Int) - 1)) rfl rfl (by kernel_rfl) (by kernel_rfl) (by kernel_rfl) (fun _ _ _ h => h) (Or.inl ⟨by rfl, by intro w_ hSw; go_simp⟩) (by assumption) ?_
              try simp only [Act.put, List.setIfInBounds_toArray, List.set_cons_zero, List.set_cons_succ]
              refine take_at (i := 12) 74 (v := .bool false) rfl rfl (by kernel_rfl) (by kernel_rfl) (by kernel_rfl) (fun _ _ _ h => h) (Or.inl ⟨by rfl, by intro w_ hSw; go_simp⟩) (by assumption) ?_
              try simp only [Act.put, List.setIfInBounds_toArray, List.set_cons_zero, List.set_cons_succ]
              refine take_at (i := 13) 75 (v := .bool false) rfl rfl (by kernel_rfl) (by kernel_rfl) (by kernel_rfl) (fun _ _ _ h => h) (Or.inl ⟨by rfl, by intro w_ hSw; go_simp⟩) (by assumption) ?_
              try simp only [Act.put, List.setIfInBounds_toArray, List.set_cons_zero, List.set_cons_succ]
              refine take_at (i := 14) 61 (v := .bool false) rfl rfl (by kernel_rfl) (by kernel_rfl) (by kernel_rfl) (fun _ _ _ h => h) (Or.inl ⟨by rfl, by intro w_ hSw; go_simp⟩) (by assumption) ?_
              try simp only [Act.put, List.setIfInBounds_toArray, List.set_cons_zero, List.set_cons_succ]
              refine wpAnyH_done (by kernel_rfl) ?_ _
              clear HC r5 r6
              obtain ⟨R, hR⟩ : ∃ R, R0 ++ [(lo, hi)] = R := ⟨_, rfl⟩
              rw [hR] at hrn hown2 happ
              obtain ⟨A, hA⟩ : ∃ A : Option Addr, some ⟨g, 0, none⟩ = A := ⟨_, rfl⟩
              rw [hA] at hown2 ⊢
              clear hA hR hmr hok
              obtain ⟨W9, hW9⟩ : ∃ W9, w9.drew = W9 := ⟨_, rfl⟩
              rw [hW9] at hHeld
              first | rw [hW9] | (change Code.wp _ _ _ _ w9.drew; rw [hW9])
              replace hbk2 := hide (hbk2.out.below hHeld hbk2.out.lt)
              replace hg2 := hide (gb_trans hg2.out (only_of_below hHeld _))
              replace hown2 := hide (own_bel hown2.out hHeld)
              clear hHeld hW9
              have v5 : W9.cell? ⟨w.heap.size + 1, 5, none⟩ = some (.int .i64 (k : Int)) := hbk2.out.cell 5
              have hXg := hide (fun j (hj : (Value.slice A rn c).ownBlock = some j) => (hown2.out.lt j hj).1)
              have hXs := hX5.out
              go_wp2_with (at_builtin; refine wpList_append_own _ rfl _ _ 67 rfl W5.heap.size 72 i0 (.agg #[.int .i64 0, .int .i64 0]) 2 16 Try.underlying67 hi0 hz0 hz1 hz2 rfl (by decide) _ rn (flatC rgc R) rfl (hown2.out.alloc _) ⟨W9.heap.size, 0, none⟩ 1 1 [.int .i64 (k : Int), .int .i64 (k : Int)] rfl rfl (cell_two_new _ _ _ _) (by simp [Value.oneCell']) (by simp only [maxLen]; omega) (by omega) (Nat.le_trans hg2.out.size (by simp)) ?_; intro v' w11 hown' hgrow _; obtain ⟨A2, c2, rfl⟩ := own_form hown'; replace hown' := hide hown'; replace hgrow := hide hgrow; clear v5)
              go_roundw
              case rel =>
                refine ⟨k + 1, (k : Int), A2, c2, R ++ [(k, k)], by omega, by go_num, by rw [List.length_append, hrn]; rfl, grown_own (grown_own hg2.out (r := none) (only_of_below ((Below.refl _ W9).alloc (Nat.le_refl _) _) none) (fun j hj => by cases hj)) hgrow.out hXg.out, ?_, by rw [List.length_append, hrn, flatC_append]; exact hown'.out, happ.out⟩
                exact (hbk2.out.alloc _).grown hgrow.out (fun e => by have := hXg.out _ e.symm; omega)
              case measure => simp [intOf]; omega
          · have r1 : ¬ (0 : Int) < (rn : Int) := by omega
            refine wp_region_held_drew (S := fun w_ => Below w9.heap.size w9 w_) (by kernel_rfl) (below_drewN (Below.refl w9.heap.size w9) 1) (fun hHeld => ?_)
            refine take_at (i := 0) 62 (v := .int .i64 (rn : Int)) rfl rfl (by kernel_rfl) (by kernel_rfl) (by kernel_rfl) (fun _ _ _ h => h) (Or.inl ⟨by rfl, by intro w_ hSw; go_simp⟩) (by assumption) ?_
            try simp only [Act.put, List.setIfInBounds_toArray, List.set_cons_zero, List.set_cons_succ]
            refine take_at (i := 1) 63 (v := .bool false) rfl rfl (by kernel_rfl) (by kernel_rfl) (by kernel_rfl) (fun _ _ _ h => h) (Or.inl ⟨by rfl, by intro w_ hSw; go_simp⟩) (by assumption) ?_
            try simp only [Act.put, List.setIfInBounds_toArray, List.set_cons_zero, List.set_cons_succ]
            refine take_at (i := 2) 64 (v := .bool false) rfl rfl (by kernel_rfl) (by kernel_rfl) (by kernel_rfl) (fun _ _ _ h => h) (Or.inl ⟨by rfl, by intro w_ hSw; go_simp⟩) (by assumption) ?_
            try simp only [Act.put, List.setIfInBounds_toArray, List.set_cons_zero, List.set_cons_succ]
            refine take_at (i := 3) 65 (v := undef) rfl rfl (by kernel_rfl) (by kernel_rfl) (by kernel_rfl) (fun _ _ _ h => h) (Or.inr ⟨by rfl, by rfl⟩) (by assumption) ?_
            try simp only [Act.put, List.setIfInBounds_toArray, List.set_cons_zero, List.set_cons_succ]
            refine take_at (i := 4) 66 (v := undef) rfl rfl (by kernel_rfl) (by kernel_rfl) (by kernel_rfl) (fun _ _ _ h => h) (Or.inr ⟨by rfl, by rfl⟩) (by assumption) ?_
            try simp only [Act.put, List.setIfInBounds_toArray, List.set_cons_zero, List.set_cons_succ]
            refine take_at (i := 5) 67 (v := undef) rfl rfl (by kernel_rfl) (by kernel_rfl) (by kernel_rfl) (fun _ _ _ h => h) (Or.inr ⟨by rfl, by rfl⟩) (by assumption) ?_
            try simp only [Act.put, List.setIfInBounds_toArray, List.set_cons_zero, List.set_cons_succ]
            refine take_at (i := 6) 68 (v := undef) rfl rfl (by kernel_rfl) (by kernel_rfl) (by kernel_rfl) (fun _ _ _ h => h) (Or.inr ⟨by rfl, by rfl⟩) (by assumption) ?_
            try simp only [Act.put, List.setIfInBounds_toArray, List.set_cons_zero, List.set_cons_succ]
            refine take_at (i := 7) 69 (v := undef) rfl rfl (by kernel_rfl) (by kernel_rfl) (by kernel_rfl) (fun _ _ _ h => h) (Or.inr ⟨by rfl, by rfl⟩) (by assumption) ?_
            try simp only [Act.put, List.setIfInBounds_toArray, List.set_cons_zero, List.set_cons_succ]
            refine take_at (i := 8) 70 (v := undef) rfl rfl (by kernel_rfl) (by kernel_rfl) (by kernel_rfl) (fun _ _ _ h => h) (Or.inr ⟨by rfl, by rfl⟩) (by assumption) ?_
            try simp only [Act.put, List.setIfInBounds_toArray, List.set_cons_zero, List.set_cons_succ]
            refine take_at (i := 9) 71 (v := undef) rfl rfl (by kernel_rfl) (by kernel_rfl) (by kernel_rfl) (fun _ _ _ h => h) (Or.inr ⟨by rfl, by rfl⟩) (by assumption) ?_
            try simp only [Act.put, List.setIfInBounds_toArray, List.set_cons_zero, List.set_cons_succ]
            refine take_at (i := 10) 72 (v := undef) rfl rfl (by kernel_rfl) (by kernel_rfl) (by kernel_rfl) (fun _ _ _ h => h) (Or.inr ⟨by rfl, by rfl⟩) (by assumption) ?_
            try simp only [Act.put, List.setIfInBounds_toArray, List.set_cons_zero, List.set_cons_succ]
            refine take_at (i := 11) 73 (v := undef) rfl rfl (by kernel_rfl) (by kernel_rfl) (by kernel_rfl) (fun _ _ _ h => h) (Or.inr ⟨by rfl, by rfl⟩) (by assumption) ?_
            try simp only [Act.put, List.setIfInBounds_toArray, List.set_cons_zero, List.set_cons_succ]
            refine take_at (i := 12) 74 (v := undef) rfl rfl (by kernel_rfl) (by kernel_rfl) (by kernel_rfl) (fun _ _ _ h => h) (Or.inr ⟨by rfl, by rfl⟩) (by assumption) ?_
            try simp only [Act.put, List.setIfInBounds_toArray, List.set_cons_zero, List.set_cons_succ]
            refine take_at (i := 13) 75 (v := .bool false) rfl rfl (by kernel_rfl) (by kernel_rfl) (by kernel_rfl) (fun _ _ _ h => h) (Or.inl ⟨by rfl, by intro w_ hSw; go_simp⟩) (by assumption) ?_
            try simp only [Act.put, List.setIfInBounds_toArray, List.set_cons_zero, List.set_cons_succ]
            refine take_at (i := 14) 61 (v := .bool false) rfl rfl (by kernel_rfl) (by kernel_rfl) (by kernel_rfl) (fun _ _ _ h => h) (Or.inl ⟨by rfl, by intro w_ hSw; go_simp⟩) (by assumption) ?_
            try simp only [Act.put, List.setIfInBounds_toArray, List.set_cons_zero, List.set_cons_succ]
            refine wpAnyH_done (by kernel_rfl) ?_ _
            clear hok
            obtain ⟨W9, hW9⟩ : ∃ W9, w9.drew = W9 := ⟨_, rfl⟩
            rw [hW9] at hHeld
            first | rw [hW9] | (change Code.wp _ _ _ _ w9.drew; rw [hW9])
            replace hbk2 := hide (hbk2.out.below hHeld hbk2.out.lt)
            replace hg2 := hide (gb_trans hg2.out (only_of_below hHeld _))
            replace hown2 := hide (own_bel hown2.out hHeld)
            clear hHeld hW9
            have v5 : W9.cell? ⟨w.heap.size + 1, 5, none⟩ = some (.int .i64 (k : Int)) := hbk2.out.cell 5
            have hXg := hide (fun j (hj : (Value.slice A rn c).ownBlock = some j) => (hown2.out.lt j hj).1)
            have hXs := hX5.out
            go_wp2_with (at_builtin; refine wpList_append_own _ rfl _ _ 67 rfl W5.heap.size 72 i0 (.agg #[.int .i64 0, .int .i64 0]) 2 16 Try.underlying67 hi0 hz0 hz1 hz2 rfl (by decide) _ rn (flatC rgc R) rfl (hown2.out.alloc _) ⟨W9.heap.size, 0, none⟩ 1 1 [.int .i64 (k : Int), .int .i64 (k : Int)] rfl rfl (cell_two_new _ _ _ _) (by simp [Value.oneCell']) (by simp only [maxLen]; omega) (by omega) (Nat.le_trans hg2.out.size (by simp)) ?_; intro v' w11 hown' hgrow _; obtain ⟨A2, c2, rfl⟩ := own_form hown'; replace hown' := hide hown'; replace hgrow := hide hgrow; clear v5)
            go_roundw
            case rel =>
              refine ⟨k + 1, (k : Int), A2, c2, R ++ [(k, k)], by omega, by go_num, by rw [List.length_append, hrn]; rfl, grown_own (grown_own hg2.out (r := none) (only_of_below ((Below.refl _ W9).alloc (Nat.le_refl _) _) none) (fun j hj => by cases hj)) hgrow.out hXg.out, ?_, by rw [List.length_append, hrn, flatC_append]; exact hown'.out, happ.out⟩
              exact (hbk2.out.alloc _).grown hgrow.out (fun e => by have := hXg.out _ e.symm; omega)
            case measure => simp [intOf]; omega
        · go_wp2_with (first
            | (go_at_call 27; go_must (refine (HB1.out _ (HT0.out _ (HE.out _ hg2.out).2).1.1 (HT0.out _ (HE.out _ hg2.out).2).2).mono ?_; rintro e w9 ⟨rfl, hb⟩; replace hbk2 := hide (hbk2.out.below hb hbk2.out.lt); replace hg2 := hide (gb_trans hg2.out (only_of_below hb _)); replace hown2 := hide (own_bel hown2.out hb); clear hb; clear y0 y1 y2 y3 y4 v0 v1 v2 v3 v4 v5 v6; simp only []))
            | (go_at_call 26; go_must (refine (HF1.out _ (HT0.out _ (HE.out _ hg2.out).2).1.1 (HT0.out _ (HE.out _ hg2.out).2).1.2).mono ?_; rintro e w8 ⟨rfl, hb⟩; replace hbk2 := hide (hbk2.out.below hb hbk2.out.lt); replace hg2 := hide (gb_trans hg2.out (only_of_below hb _)); replace hown2 := hide (own_bel hown2.out hb); clear hb; clear a5 f5 y0 y1 y2 y3 y4 v0 v1 v2 v3 v4 v5 v6; have y0 : w8.cell? ⟨Y, 0, none⟩ = some (strV nm) := (HE.out _ hg2.out).1.2.cell 0; have y1 : w8.cell? ⟨Y, 1, none⟩ = some (.int .i64 ce) := (HE.out _ hg2.out).1.2.cell 1; have y2 : w8.cell? ⟨Y, 2, none⟩ = some (.int .i64 wi) := (HE.out _ hg2.out).1.2.cell 2; have y3 : w8.cell? ⟨Y, 3, none⟩ = some (.slice (some ⟨b, o, none⟩) pn pc) := (HE.out _ hg2.out).1.2.cell 3; have y4 : w8.cell? ⟨Y, 4, none⟩ = some (.slice SA gn sc) := (HE.out _ hg2.out).1.2.cell 4; have v0 : w8.cell? ⟨w.heap.size + 1, 0, none⟩ = some (.int .i64 (q : Int)) := hbk2.out.cell 0; have v1 : w8.cell? ⟨w.heap.size + 1, 1, none⟩ = some (.int .i64 a.sf) := hbk2.out.cell 1; have v2 : w8.cell? ⟨w.heap.size + 1, 2, none⟩ = some (.int .i64 a.sl) := hbk2.out.cell 2; have v3 : w8.cell? ⟨w.heap.size + 1, 3, none⟩ = some (.int .i64 a.sy) := hbk2.out.cell 3; have v4 : w8.cell? ⟨w.heap.size + 1, 4, none⟩ = some (.int .i64 a.sn) := hbk2.out.cell 4; have v5 : w8.cell? ⟨w.heap.size + 1, 5, none⟩ = some (.int .i64 (k : Int)) := hbk2.out.cell 5; have v6 : w8.cell? ⟨w.heap.size + 1, 6, none⟩ = some (.int .i64 1) := hbk2.out.cell 6; simp only [])))
          go_roundw
          case rel => exact ⟨k + 1, (k : Int), A, c, R, by omega, by go_num, by rw [hrn], hg2.out, hbk2.out, by rw [hrn]; exact hown2.out, hok.out.succ⟩
          case measure => simp [intOf]; omega
    · obtain rfl : k = B := by omega
      have hki : ¬ (k : Int) < (k : Int) := by omega
      go_wp2_with fail
      exact bodyPost_ret (v := .tuple #[.slice A rn c, .int .i64 0]) (by simp [results, Try.results28, go_sem]) rfl ⟨A, c, R, by rw [hrn], Rws.of_own rgc_n hown.out hrn.symm, hok.out, (HE.out _ hg.out).2⟩
end Go.Proofs.Ytfolipkbcibgdaa
