import Derived.Test.YtfolipkbcibgdaaGrW
import Derived.Deep.LoopGhost
namespace Go.Proofs.Ytfolipkbcibgdaa
open Go.RowKit Go.WideShapes Go.ChangeShapes

/-! what holds in every later world, block U apart -/
def But (U : Nat) (w : World) (P : World → Prop) : Prop := ∀ W, w.grownBy W (some U) → P W
theorem But.now {U : Nat} {w : World} {P : World → Prop} (h : But U w P) : P w := h w (World.grownBy.refl w _)
theorem But.step {U : Nat} {w w' : World} {P : World → Prop} (h : But U w P) (hb : w.grownBy w' (some U)) : But U w' P := fun W hW => h W (hb.trans hW)
theorem But.and {U : Nat} {w : World} {P Q : World → Prop} (h : But U w P) (h' : But U w Q) : But U w (fun W => P W ∧ Q W) := fun W hW => ⟨h W hW, h' W hW⟩
theorem But.bel {U : Nat} {w w' : World} {P : World → Prop} (h : But U w P) (hb : Below w.heap.size w w') : But U w' P := h.step (only_of_below hb _)
theorem but_grown {U : Nat} {w W : World} (h : w.grownBy W (some U)) : But U W (fun W' => w.grownBy W' (some U)) := fun _ hW => h.trans hW
theorem but_blk {U : Nat} {w : World} {g t : Nat} {cs : Array Value} (h : Blk w g t cs) (hne : g ≠ U) : But U w (fun W => Blk W g t cs) := fun _ hW => h.grown hW (fun e => hne (by injection e))
theorem but_below {U : Nat} {w w' : World} (h : Below w.heap.size w w') (hU : w.heap.size ≤ U) : But U w' (fun W => Below w.heap.size w W) := fun W hW =>
  ⟨hW.os.trans h.os, hW.tape.trans h.tape, hW.output.trans h.output, Nat.le_trans h.size hW.size, fun i hi => (hW.block i (Nat.lt_of_lt_of_le hi h.size) (fun e => by injection e with e; omega)).trans (h.block i hi)⟩

/-! what is looked for, and the first place for it -/
structure OkWn (P : List Prt) (pa fr te sy sn bn : Int) : Prop where
  pp : 0 ≤ pa ∧ pa < (P.length : Int)
  ff : 0 ≤ fr ∧ fr ≤ te ∧ te ≤ 10239 ∧ te - fr ≤ 100
  bb : ∀ h : pa.toNat < P.length, OkBx P[pa.toNat] sy sn 0 bn
def freeB (ce : Int) (P : List Prt) (S : List Sig) (l : List Alo) (a : Alo) : Bool := fitsB ce P S a && !busyB P l a
def slN (P : List Prt) (pa : Int) : Nat := 2 ^ (prtAt P pa).mu.toNat
def blN (P : List Prt) (pa bn : Int) : Nat := ((prtAt P pa).bl - bn + 1).toNat
def FirstR (F : Int → Nat → Nat → Bool) (N B : Nat) (pa fr te sy sn bn : Int) (w : World) (e : Ending) (w' : World) : Prop :=
  ((∃ (n : Int) (sl bk : Nat), e = .returned (.tuple #[.agg #[.int .i64 pa, .int .i64 n, .int .i64 (sl : Int), .int .i64 sy, .int .i64 sn, .int .i64 (bk : Int), .int .i64 bn], .int .i64 0]) ∧ (fr ≤ n ∧ n ≤ te ∧ sl < N ∧ bk < B) ∧ F n sl bk = true ∧
      (∀ n', fr ≤ n' → n' < n → ∀ s b, s < N → b < B → F n' s b = false) ∧ (∀ s b, s < sl → b < B → F n s b = false) ∧ ∀ b, b < bk → F n sl b = false) ∨
    (e = .returned (.tuple #[.agg #[.int .i64 0, .int .i64 0, .int .i64 0, .int .i64 0, .int .i64 0, .int .i64 0, .int .i64 0], .int .i64 12]) ∧ ∀ n', fr ≤ n' → n' ≤ te → ∀ s b, s < N → b < B → F n' s b = false)) ∧ Below w.heap.size w w'
theorem ok_wA {ce wi : Int} {P : List Prt} {S : List Sig} {pa fr te sy sn bn : Int} (hc : OkCr ce wi P S) (h : OkWn P pa fr te sy sn bn) {n : Int} {sl bk : Nat} (h1 : fr ≤ n) (h2 : n ≤ te) (h3 : sl < slN P pa) (h4 : bk < blN P pa bn) : OkAl P ⟨pa, n, sl, sy, sn, bk, bn⟩ := by
  have hpk : pa.toNat < P.length := by have := h.pp; omega
  have hq : prtAt P pa = P[pa.toNat] := by unfold prtAt; rw [List.getElem?_eq_getElem hpk]; rfl
  unfold slN at h3
  unfold blN at h4
  rw [hq] at h3 h4
  have hb := h.bb hpk
  have hp := hc.ps _ (List.getElem_mem hpk)
  exact ⟨h.pp, by have := h.ff; constructor <;> simp only [] <;> omega, ⟨by simp only []; omega, fun _ => by simp only []; omega⟩, fun _ => ⟨hb.sy, by have := hb.bk; have := hp.bl; refine ⟨?_, ?_, ?_⟩ <;> simp only [] <;> omega⟩⟩
set_option maxRecDepth 100000 in
set_option maxHeartbeats 16000000 in
theorem firstFit_ok (nm : Bs) (ce wi : Int) (PA SA : Option Addr) (pc sc : Nat) (P : List Prt) (S : List Sig) (l : List Alo) (D : Option Addr) (d : Nat) (pa fr te sy sn bn : Int) (w : World) (hnm : OkN nm) (hc : OkCr ce wi P S) (hl : AccL ce P S l) (hd : l.length ≤ d) (hx : OkWn P pa fr te sy sn bn) (hP : Prts w PA P) (hS : Sigs w SA S) (hD : Alos w D l) :
    Calls Try.prog 8 #[.agg #[strV nm, .int .i64 ce, .int .i64 wi, .slice PA P.length pc, .slice SA S.length sc], .slice D l.length d, .agg #[.int .i64 pa, .int .i64 fr, .int .i64 te, .int .i64 sy, .int .i64 sn, .int .i64 bn]] w (FirstR (fun n sl bk => freeB ce P S l ⟨pa, n, sl, sy, sn, bk, bn⟩) (slN P pa) (blN P pa bn) pa fr te sy sn bn w) := by
  have hpk : pa.toNat < P.length := by have := hx.pp; omega
  have hq : prtAt P pa = P[pa.toNat] := by unfold prtAt; rw [List.getElem?_eq_getElem hpk]; rfl
  have hp := hc.ps _ (List.getElem_mem hpk)
  have hbx := hx.bb hpk
  have hN1 := pw_int hp.mu
  have HSL := hide (fun W => slotsOf_int hp.mu W)
  have HOA := hide (fun W k k2 k3 => openAllocations_ok nm ce wi PA SA pc sc P S l D d W hnm hc hl hd k k2 k3)
  have hBp : 1 ≤ blN P pa bn := by unfold blN; rw [hq]; have := hbx.bk; omega
  have hNp : 1 ≤ slN P pa := by unfold slN; exact Nat.one_le_two_pow
  have HA0 := hide (fun W k => alone_ok (strV nm) ce wi PA SA pc sc P S ⟨pa, fr, 0, sy, sn, 0, bn⟩ W hc (ok_wA hc hx (Int.le_refl _) hx.ff.2.1 (sl := 0) (bk := 0) (by omega) (by omega)) k)
  have HFI := hide (fun (n : Int) (sl bk : Nat) W (q : fr ≤ n ∧ n ≤ te ∧ sl < slN P pa ∧ bk < blN P pa bn) k k2 => fits_all (strV nm) ce wi PA SA pc sc P S ⟨pa, n, sl, sy, sn, bk, bn⟩ W hc (ok_wA hc hx q.1 q.2.1 q.2.2.1 q.2.2.2) k k2)
  have HBU := hide (fun (n : Int) (sl bk : Nat) W (q : fr ≤ n ∧ n ≤ te ∧ sl < slN P pa ∧ bk < blN P pa bn) k k2 => busy_all (strV nm) ce wi PA SA pc sc P S ⟨pa, n, sl, sy, sn, bk, bn⟩ l D d W hc (ok_wA hc hx q.1 q.2.1 q.2.2.1 q.2.2.2) (fun x hx => by obtain ⟨j, hj, rfl⟩ := List.getElem_of_mem hx; exact hl.ok j hj) (by have := hl.few; omega) k k2)
  have HFF := hide (fun (n : Int) (sl bk : Nat) => show (fun n sl bk => freeB ce P S l ⟨pa, n, (sl : Nat), sy, sn, (bk : Nat), bn⟩) n sl bk = (fitsB ce P S ⟨pa, n, sl, sy, sn, bk, bn⟩ && !busyB P l ⟨pa, n, sl, sy, sn, bk, bn⟩) from rfl)
  obtain ⟨F, hF⟩ : ∃ F, (fun (n : Int) (sl bk : Nat) => freeB ce P S l ⟨pa, n, sl, sy, sn, bk, bn⟩) = F := ⟨_, rfl⟩
  rw [hF] at HFF ⊢
  obtain ⟨G1, hG1⟩ : ∃ G : Int → Nat → Nat → Bool, (fun (n : Int) (sl bk : Nat) => fitsB ce P S ⟨pa, n, sl, sy, sn, bk, bn⟩) = G := ⟨_, rfl⟩
  obtain ⟨G2, hG2⟩ : ∃ G : Int → Nat → Nat → Bool, (fun (n : Int) (sl bk : Nat) => busyB P l ⟨pa, n, sl, sy, sn, bk, bn⟩) = G := ⟨_, rfl⟩
  have e1 : ∀ (n : Int) (sl bk : Nat), fitsB ce P S ⟨pa, n, sl, sy, sn, bk, bn⟩ = G1 n sl bk := fun n sl bk => by rw [← hG1]
  have e2 : ∀ (n : Int) (sl bk : Nat), busyB P l ⟨pa, n, sl, sy, sn, bk, bn⟩ = G2 n sl bk := fun n sl bk => by rw [← hG2]
  simp only [e1] at HFI HFF
  simp only [e2] at HBU HFF
  dsimp only at HA0
  have hBl : ((blN P pa bn : Nat) : Int) = (P[pa.toNat]).bl - bn + 1 := by unfold blN; rw [hq]; have := hbx.bk; omega
  have hNl : ((slN P pa : Nat) : Int) = ((2 ^ (P[pa.toNat]).mu.toNat : Nat) : Int) := by unfold slN; rw [hq]
  have hfr := hx.ff
  have hbn := hbx.bk
  have hbl := hp.bl
  have hpa := hx.pp
  have hpl := hc.pn.2
  obtain ⟨k, hk⟩ := Int.eq_ofNat_of_zero_le hpa.1
  have hak : pa.toNat = k := by omega
  obtain ⟨b, o, rfl, -⟩ := hP.at_ k (by omega)
  have HPQ := hide (fun W (h : Prts W (some ⟨b, o, none⟩) P) => show W.cell? ⟨b, o + k * 3, none⟩ = some (.int .i64 (P[pa.toNat]'hpk).mu) ∧ W.cell? ⟨b, o + k * 3 + 1, none⟩ = some (.int .i64 (P[pa.toNat]'hpk).fi) ∧ W.cell? ⟨b, o + k * 3 + 2, none⟩ = some (.int .i64 (P[pa.toNat]'hpk).bl) from by
    simp only [hak]
    exact prts_now h k (by omega))
  obtain ⟨p, hpe⟩ : ∃ p, P[pa.toNat]'hpk = p := ⟨_, rfl⟩
  rw [hpe] at HSL hN1 hbn hbl HPQ hBl hNl
  rw [← hNl] at HSL hN1
  obtain ⟨N, hN⟩ : ∃ N, slN P pa = N := ⟨_, rfl⟩
  obtain ⟨B, hB⟩ : ∃ B, blN P pa bn = B := ⟨_, rfl⟩
  rw [hN] at HSL hN1 hNp
  rw [hB] at hBp hBl
  rw [hN, hB] at HFI HBU ⊢
  obtain ⟨mu, hmu⟩ : ∃ x, p.mu = x := ⟨_, rfl⟩
  obtain ⟨fi, hfi⟩ : ∃ x, p.fi = x := ⟨_, rfl⟩
  obtain ⟨bl, hbl'⟩ : ∃ x, p.bl = x := ⟨_, rfl⟩
  rw [hmu] at HSL
  rw [hmu, hfi, hbl'] at HPQ
  rw [hbl'] at hBl hbn hbl
  obtain ⟨pn, hpn⟩ : ∃ x, P.length = x := ⟨_, rfl⟩
  obtain ⟨gn, hgn⟩ : ∃ x, S.length = x := ⟨_, rfl⟩
  obtain ⟨m, hm⟩ : ∃ x, l.length = x := ⟨_, rfl⟩
  have g1 : (k : Int) < (pn : Int) := by omega
  have g2 : decide (fr ≤ te) = true := decide_eq_true hfr.2.1
  have g3 : decide (te - fr ≤ 100) = true := decide_eq_true hfr.2.2.2
  have w1 : IntKind.i64.wrap (te - fr) = te - fr := IntWalk.i64_in _ (by omega)
  have w2 : IntKind.i64.wrap (bl - bn) = bl - bn := IntWalk.i64_in _ (by omega)
  have w3 : IntKind.i64.wrap (bl - bn + 1) = (B : Int) := by rw [hBl]; exact IntWalk.i64_in _ (by omega)
  have HT0 := hide (((stay_rws hP).and (stay_rws hS)).and (stay_rws hD))
  have HT : Hid (Stay (((w.alloc (.cells #[strV nm, .int .i64 ce, .int .i64 wi, .slice (some ⟨b, o, none⟩) P.length pc, .slice SA S.length sc] 25)).alloc (.cells #[.int .i64 pa, .int .i64 fr, .int .i64 te, .int .i64 sy, .int .i64 sn, .int .i64 bn] 27)).alloc (.cells #[.int .i64 0, .int .i64 0, .int .i64 0, .int .i64 0, .int .i64 0, .int .i64 0, .int .i64 0] 34)) (fun W => (((Blk W w.heap.size 25 #[strV nm, .int .i64 ce, .int .i64 wi, .slice (some ⟨b, o, none⟩) P.length pc, .slice SA S.length sc] ∧ Blk W (w.heap.size + 1) 27 #[.int .i64 pa, .int .i64 fr, .int .i64 te, .int .i64 sy, .int .i64 sn, .int .i64 bn]) ∧ Blk W (w.heap.size + 2) 34 #[.int .i64 0, .int .i64 0, .int .i64 0, .int .i64 0, .int .i64 0, .int .i64 0, .int .i64 0]) ∧ Below w.heap.size w W))) := hide
    (((((stay_blk ((Blk.new w 25 #[strV nm, .int .i64 ce, .int .i64 wi, .slice (some ⟨b, o, none⟩) P.length pc, .slice SA S.length sc]).alloc (.cells #[.int .i64 pa, .int .i64 fr, .int .i64 te, .int .i64 sy, .int .i64 sn, .int .i64 bn] 27))).alloc (.cells #[.int .i64 0, .int .i64 0, .int .i64 0, .int .i64 0, .int .i64 0, .int .i64 0, .int .i64 0] 34)).and ((stay_blk (blk_up w 25 27 #[strV nm, .int .i64 ce, .int .i64 wi, .slice (some ⟨b, o, none⟩) P.length pc, .slice SA S.length sc] #[.int .i64 pa, .int .i64 fr, .int .i64 te, .int .i64 sy, .int .i64 sn, .int .i64 bn])).alloc (.cells #[.int .i64 0, .int .i64 0, .int .i64 0, .int .i64 0, .int .i64 0, .int .i64 0, .int .i64 0] 34))).and (stay_blk (blk_up2 w 25 27 34 #[strV nm, .int .i64 ce, .int .i64 wi, .slice (some ⟨b, o, none⟩) P.length pc, .slice SA S.length sc] #[.int .i64 pa, .int .i64 fr, .int .i64 te, .int .i64 sy, .int .i64 sn, .int .i64 bn] #[.int .i64 0, .int .i64 0, .int .i64 0, .int .i64 0, .int .i64 0, .int .i64 0, .int .i64 0]))).and (stay_below ((((Below.refl _ w).alloc (Nat.le_refl _) (.cells #[strV nm, .int .i64 ce, .int .i64 wi, .slice (some ⟨b, o, none⟩) P.length pc, .slice SA S.length sc] 25)).alloc (by simp) (.cells #[.int .i64 pa, .int .i64 fr, .int .i64 te, .int .i64 sy, .int .i64 sn, .int .i64 bn] 27)).alloc (by simp; omega) (.cells #[.int .i64 0, .int .i64 0, .int .i64 0, .int .i64 0, .int .i64 0, .int .i64 0, .int .i64 0] 34))))
  clear hP hS hD hc hl hd hnm hx hp hbx hq hpe hak hF hG1 hG2 e1 e2 hNl hmu hfi hbl' hN hB
  rw [hk] at HT HFI HBU HA0 ⊢
  rw [hpn, hgn] at HT HFI HBU HA0 HOA ⊢
  rw [hpn] at hpa hpl
  rw [hm] at HOA HBU ⊢
  clear hk hpn hgn hm hpk hpa
  obtain ⟨W0, hW0⟩ : ∃ W0, ((w.alloc (.cells #[strV nm, .int .i64 ce, .int .i64 wi, .slice (some ⟨b, o, none⟩) pn pc, .slice SA gn sc] 25)).alloc (.cells #[.int .i64 (k : Int), .int .i64 fr, .int .i64 te, .int .i64 sy, .int .i64 sn, .int .i64 bn] 27)).alloc (.cells #[.int .i64 0, .int .i64 0, .int .i64 0, .int .i64 0, .int .i64 0, .int .i64 0, .int .i64 0] 34) = W0 := ⟨_, rfl⟩
  rw [hW0] at HT
  have z0 : W0.cell? ⟨w.heap.size, 0, none⟩ = some (strV nm) := HT.out.now.1.1.1.cell 0
  have z1 : W0.cell? ⟨w.heap.size, 1, none⟩ = some (.int .i64 ce) := HT.out.now.1.1.1.cell 1
  have z2 : W0.cell? ⟨w.heap.size, 2, none⟩ = some (.int .i64 wi) := HT.out.now.1.1.1.cell 2
  have z3 : W0.cell? ⟨w.heap.size, 3, none⟩ = some (.slice (some ⟨b, o, none⟩) pn pc) := HT.out.now.1.1.1.cell 3
  have z4 : W0.cell? ⟨w.heap.size, 4, none⟩ = some (.slice SA gn sc) := HT.out.now.1.1.1.cell 4
  go_enter Try.func8, Try.ntmps8
  go_wp2_with (first
    | (refine wpList_store_row rfl 58 (.tmp 8) (.tmp 17) rfl w1.heap.size #[strV nm, .int .i64 ce, .int .i64 wi, .slice (some ⟨b, o, none⟩) pn pc, .slice SA gn sc] rfl rfl 58 #[.string ⟨#[]⟩, .int .i64 0, .int .i64 0, .slice none 0 0, .slice none 0 0] (Blk.new w1 58 #[.string ⟨#[]⟩, .int .i64 0, .int .i64 0, .slice none 0 0, .slice none 0 0]) (by kernel_rfl) rfl (by simp [Value.oneCell', strV]) ?_; have HX := hide ((Blk.new w1 58 #[.string ⟨#[]⟩, .int .i64 0, .int .i64 0, .slice none 0 0, .slice none 0 0]).row #[strV nm, .int .i64 ce, .int .i64 wi, .slice (some ⟨b, o, none⟩) pn pc, .slice SA gn sc]); replace HT := hide ((HT.out.step (Below.row (g := w1.heap.size) ((Below.refl w1.heap.size w1).alloc (Nat.le_refl _) (.cells #[.string ⟨#[]⟩, .int .i64 0, .int .i64 0, .slice none 0 0, .slice none 0 0] 58)) (Nat.le_refl _) #[strV nm, .int .i64 ce, .int .i64 wi, .slice (some ⟨b, o, none⟩) pn pc, .slice SA gn sc])).and (stay_blk HX.out)); clear HX)
    | (go_at_call 19; go_must (refine (HOA.out _ (HT0.out _ HT.out.now.2).1.1 (HT0.out _ HT.out.now.2).1.2 (HT0.out _ HT.out.now.2).2).mono ?_; rintro e w1 ⟨rfl, hb⟩; replace HT := hide (HT.out.step hb); clear hb hW0 z0 z1 z2 z3 z4; simp only [])))
  obtain ⟨Y, hY⟩ : ∃ Y, w1.heap.size = Y := ⟨_, rfl⟩
  obtain ⟨W1, hW1⟩ : ∃ W1, (w1.alloc (.cells #[.string ⟨#[]⟩, .int .i64 0, .int .i64 0, .slice none 0 0, .slice none 0 0] 58)).setRow w1.heap.size #[strV nm, .int .i64 ce, .int .i64 wi, .slice (some ⟨b, o, none⟩) pn pc, .slice SA gn sc] = W1 := ⟨_, rfl⟩
  rw [hW1] at HT ⊢
  rw [hY] at HT ⊢
  clear hW1 hY HOA
  refine wp_region_held_drew (S := fun w_ => Below W1.heap.size W1 w_) (by kernel_rfl) (below_drewN (Below.refl W1.heap.size W1) 1) (fun hHeld => ?_)
  refine take_at (i := 0) 19 (v := .int .i64 0) rfl rfl (by kernel_rfl) (by kernel_rfl) (by kernel_rfl) (fun _ _ _ h => h) (Or.inl ⟨by rfl, by intro w_ hSw; go_simp⟩) (by assumption) ?_
  try simp only [Act.put, List.setIfInBounds_toArray, List.set_cons_zero, List.set_cons_succ]
  refine take_at (i := 1) 20 (v := .agg #[strV nm, .int .i64 ce, .int .i64 wi, .slice (some ⟨b, o, none⟩) pn pc, .slice SA gn sc]) rfl rfl (by kernel_rfl) (by kernel_rfl) (by kernel_rfl) (fun _ _ _ h => h) (Or.inl ⟨by rfl, by intro w_ hSw; have c0 : w_.cell? ⟨Y, 0, none⟩ = some (strV nm) := (HT.out _ hSw).2.cell 0; have c1 : w_.cell? ⟨Y, 1, none⟩ = some (.int .i64 ce) := (HT.out _ hSw).2.cell 1; have c2 : w_.cell? ⟨Y, 2, none⟩ = some (.int .i64 wi) := (HT.out _ hSw).2.cell 2; have c3 : w_.cell? ⟨Y, 3, none⟩ = some (.slice (some ⟨b, o, none⟩) pn pc) := (HT.out _ hSw).2.cell 3; have c4 : w_.cell? ⟨Y, 4, none⟩ = some (.slice SA gn sc) := (HT.out _ hSw).2.cell 4; go_simp⟩) (by assumption) ?_
  try simp only [Act.put, List.setIfInBounds_toArray, List.set_cons_zero, List.set_cons_succ]
  refine take_at (i := 2) 21 (v := .pointer (some ⟨w.heap.size + 1, 0, none⟩)) rfl rfl (by kernel_rfl) (by kernel_rfl) (by kernel_rfl) (fun _ _ _ h => h) (Or.inl ⟨by rfl, by intro w_ hSw; go_simp⟩) (by assumption) ?_
  try simp only [Act.put, List.setIfInBounds_toArray, List.set_cons_zero, List.set_cons_succ]
  refine take_at (i := 3) 22 (v := .int .i64 (k : Int)) rfl rfl (by kernel_rfl) (by kernel_rfl) (by kernel_rfl) (fun _ _ _ h => h) (Or.inl ⟨by rfl, by intro w_ hSw; have c0 : w_.cell? ⟨w.heap.size + 1, 0, none⟩ = some (.int .i64 (k : Int)) := (HT.out _ hSw).1.1.1.2.cell 0; go_simp⟩) (by assumption) ?_
  try simp only [Act.put, List.setIfInBounds_toArray, List.set_cons_zero, List.set_cons_succ]
  refine take_at (i := 5) 24 (v := .pointer (some ⟨w.heap.size + 1, 1, none⟩)) rfl rfl (by kernel_rfl) (by kernel_rfl) (by kernel_rfl) (fun _ _ _ h => h) (Or.inl ⟨by rfl, by intro w_ hSw; go_simp⟩) (by assumption) ?_
  try simp only [Act.put, List.setIfInBounds_toArray, List.set_cons_zero, List.set_cons_succ]
  refine take_at (i := 6) 25 (v := .int .i64 fr) rfl rfl (by kernel_rfl) (by kernel_rfl) (by kernel_rfl) (fun _ _ _ h => h) (Or.inl ⟨by rfl, by intro w_ hSw; have c1 : w_.cell? ⟨w.heap.size + 1, 1, none⟩ = some (.int .i64 fr) := (HT.out _ hSw).1.1.1.2.cell 1; go_simp⟩) (by assumption) ?_
  try simp only [Act.put, List.setIfInBounds_toArray, List.set_cons_zero, List.set_cons_succ]
  refine take_at (i := 8) 27 (v := .pointer (some ⟨w.heap.size + 1, 2, none⟩)) rfl rfl (by kernel_rfl) (by kernel_rfl) (by kernel_rfl) (fun _ _ _ h => h) (Or.inl ⟨by rfl, by intro w_ hSw; go_simp⟩) (by assumption) ?_
  try simp only [Act.put, List.setIfInBounds_toArray, List.set_cons_zero, List.set_cons_succ]
  refine take_at (i := 9) 28 (v := .int .i64 te) rfl rfl (by kernel_rfl) (by kernel_rfl) (by kernel_rfl) (fun _ _ _ h => h) (Or.inl ⟨by rfl, by intro w_ hSw; have c2 : w_.cell? ⟨w.heap.size + 1, 2, none⟩ = some (.int .i64 te) := (HT.out _ hSw).1.1.1.2.cell 2; go_simp⟩) (by assumption) ?_
  try simp only [Act.put, List.setIfInBounds_toArray, List.set_cons_zero, List.set_cons_succ]
  refine take_at (i := 11) 30 (v := .pointer (some ⟨w.heap.size + 1, 1, none⟩)) rfl rfl (by kernel_rfl) (by kernel_rfl) (by kernel_rfl) (fun _ _ _ h => h) (Or.inl ⟨by rfl, by intro w_ hSw; go_simp⟩) (by assumption) ?_
  try simp only [Act.put, List.setIfInBounds_toArray, List.set_cons_zero, List.set_cons_succ]
  refine take_at (i := 12) 31 (v := .int .i64 fr) rfl rfl (by kernel_rfl) (by kernel_rfl) (by kernel_rfl) (fun _ _ _ h => h) (Or.inl ⟨by rfl, by intro w_ hSw; have c1 : w_.cell? ⟨w.heap.size + 1, 1, none⟩ = some (.int .i64 fr) := (HT.out _ hSw).1.1.1.2.cell 1; go_simp⟩) (by assumption) ?_
  try simp only [Act.put, List.setIfInBounds_toArray, List.set_cons_zero, List.set_cons_succ]
  refine take_at (i := 13) 32 (v := .pointer (some ⟨w.heap.size + 1, 2, none⟩)) rfl rfl (by kernel_rfl) (by kernel_rfl) (by kernel_rfl) (fun _ _ _ h => h) (Or.inl ⟨by rfl, by intro w_ hSw; go_simp⟩) (by assumption) ?_
  try simp only [Act.put, List.setIfInBounds_toArray, List.set_cons_zero, List.set_cons_succ]
  refine take_at (i := 14) 33 (v := .int .i64 te) rfl rfl (by kernel_rfl) (by kernel_rfl) (by kernel_rfl) (fun _ _ _ h => h) (Or.inl ⟨by rfl, by intro w_ hSw; have c2 : w_.cell? ⟨w.heap.size + 1, 2, none⟩ = some (.int .i64 te) := (HT.out _ hSw).1.1.1.2.cell 2; go_simp⟩) (by assumption) ?_
  try simp only [Act.put, List.setIfInBounds_toArray, List.set_cons_zero, List.set_cons_succ]
  refine take_at (i := 15) 34 (v := .bool true) rfl rfl (by kernel_rfl) (by kernel_rfl) (by kernel_rfl) (fun _ _ _ h => h) (Or.inl ⟨by rfl, by intro w_ hSw; go_simp⟩) (by assumption) ?_
  try simp only [Act.put, List.setIfInBounds_toArray, List.set_cons_zero, List.set_cons_succ]
  refine wpAnyH_ready (rs := [4]) (by kernel_rfl) (by simp) ?_
  refine AllReadyH.cons rfl (fun K hK => ?_) AllReadyH.nil
  go_simp
  go_at_call 21
  refine (cpartErr_ok _ _ _ _ _ _ _ _ _ _ _ (by omega) (by omega)).mono ?_
  rintro e v2_1 ⟨rfl, hb⟩
  replace hHeld := Below.step hHeld hb
  clear hb
  try simp only []
  refine hK.out _ _ hHeld (fun hHeld => ?_)
  clear hK K
  try simp only [Act.put, List.setIfInBounds_toArray, List.set_cons_zero, List.set_cons_succ]
  refine wpAnyH_ready (rs := [7]) (by kernel_rfl) (by simp) ?_
  refine AllReadyH.cons rfl (fun K hK => ?_) AllReadyH.nil
  go_simp
  go_at_call 22
  refine (subframeErr_ok _ _ (by omega)).mono ?_
  rintro e w' ⟨rfl, rfl⟩
  try simp only []
  refine hK.out _ _ hHeld (fun hHeld => ?_)
  clear hK K
  try simp only [Act.put, List.setIfInBounds_toArray, List.set_cons_zero, List.set_cons_succ]
  refine wpAnyH_ready (rs := [10]) (by kernel_rfl) (by simp) ?_
  refine AllReadyH.cons rfl (fun K hK => ?_) AllReadyH.nil
  go_simp
  go_at_call 22
  refine (subframeErr_ok _ _ (by omega)).mono ?_
  rintro e w' ⟨rfl, rfl⟩
  try simp only []
  refine hK.out _ _ hHeld (fun hHeld => ?_)
  clear hK K
  try simp only [Act.put, List.setIfInBounds_toArray, List.set_cons_zero, List.set_cons_succ]
  refine wpAnyH_ready (rs := [16]) (by kernel_rfl) (by simp) ?_
  refine AllReadyH.cons rfl (fun K hK => ?_) AllReadyH.nil
  go_simp
  go_at_call 23
  refine (unless_yes _ _).mono ?_
  rintro e w' ⟨rfl, rfl⟩
  try simp only []
  refine hK.out _ _ hHeld (fun hHeld => ?_)
  clear hK K
  try simp only [Act.put, List.setIfInBounds_toArray, List.set_cons_zero, List.set_cons_succ]
  refine wpAnyH_ready (rs := [17]) (by kernel_rfl) (by simp) ?_
  refine AllReadyH.cons rfl (fun K hK => ?_) AllReadyH.nil
  go_simp
  refine hK.out _ _ (hHeld.alloc hHeld.size _) (fun hHeld => ?_)
  clear hK K
  try simp only [Act.put, List.setIfInBounds_toArray, List.set_cons_zero, List.set_cons_succ]
  refine wpAnyH_ready (rs := [18]) (by kernel_rfl) (by simp) ?_
  refine AllReadyH.cons rfl (fun K hK => ?_) AllReadyH.nil
  go_simp
  go_at_call 20
  refine (first_z5 _ _ (by first | rfl | simp)).mono ?_
  rintro e w' ⟨rfl, rfl⟩
  try simp only []
  refine hK.out _ _ hHeld (fun hHeld => ?_)
  clear hK K
  try simp only [Act.put, List.setIfInBounds_toArray, List.set_cons_zero, List.set_cons_succ]
  refine take_at (i := 19) 9 (v := .int .i64 0) rfl rfl (by kernel_rfl) (by kernel_rfl) (by kernel_rfl) (fun _ _ _ h => h) (Or.inl ⟨by rfl, by intro w_ hSw; go_simp⟩) (by assumption) ?_
  try simp only [Act.put, List.setIfInBounds_toArray, List.set_cons_zero, List.set_cons_succ]
  refine wpAnyH_done (by kernel_rfl) ?_ _
  replace HT := hide (HT.out.step hHeld)
  clear hHeld
  obtain ⟨W2, hW2⟩ : ∃ W2, (v2_1.alloc (.cells #[.int .i64 0, .int .i64 0, .int .i64 0, .int .i64 0, .int .i64 0] 35)) = W2 := ⟨_, rfl⟩
  rw [hW2] at HT ⊢
  clear hW2
  have x0 : W2.cell? ⟨w.heap.size + 1, 0, none⟩ = some (.int .i64 (k : Int)) := HT.out.now.1.1.1.2.cell 0
  have x1 : W2.cell? ⟨w.heap.size + 1, 1, none⟩ = some (.int .i64 fr) := HT.out.now.1.1.1.2.cell 1
  have x2 : W2.cell? ⟨w.heap.size + 1, 2, none⟩ = some (.int .i64 te) := HT.out.now.1.1.1.2.cell 2
  have x3 : W2.cell? ⟨w.heap.size + 1, 3, none⟩ = some (.int .i64 sy) := HT.out.now.1.1.1.2.cell 3
  have x4 : W2.cell? ⟨w.heap.size + 1, 4, none⟩ = some (.int .i64 sn) := HT.out.now.1.1.1.2.cell 4
  have x5 : W2.cell? ⟨w.heap.size + 1, 5, none⟩ = some (.int .i64 bn) := HT.out.now.1.1.1.2.cell 5
  go_wp2_with fail
  clear x0 x1 x2 x3 x4 x5
  have hZ2 : w.heap.size + 2 < W2.heap.size := HT.out.now.1.1.2.lt
  have hY2 : Y < W2.heap.size := HT.out.now.2.lt
  replace HT := hide ((HT.out.alloc (.cells #[.int .i64 (k : Int), .int .i64 fr, .int .i64 0, .int .i64 sy, .int .i64 sn, .int .i64 0, .int .i64 bn] 34)).and (stay_blk (Blk.new W2 34 #[.int .i64 (k : Int), .int .i64 fr, .int .i64 0, .int .i64 sy, .int .i64 sn, .int .i64 0, .int .i64 bn])))
  obtain ⟨A, hA⟩ : ∃ A, W2.heap.size = A := ⟨_, rfl⟩
  obtain ⟨W3, hW3⟩ : ∃ W3, W2.alloc (.cells #[.int .i64 (k : Int), .int .i64 fr, .int .i64 0, .int .i64 sy, .int .i64 sn, .int .i64 0, .int .i64 bn] 34) = W3 := ⟨_, rfl⟩
  rw [hW3] at HT ⊢
  rw [hA] at HT hZ2 hY2 ⊢
  clear hW3 hA
  refine wp_region_held_drew (S := fun w_ => Below W3.heap.size W3 w_) (by kernel_rfl) (below_drewN (Below.refl W3.heap.size W3) 1) (fun hHeld => ?_)
  refine take_at (i := 0) 53 (v := .agg #[strV nm, .int .i64 ce, .int .i64 wi, .slice (some ⟨b, o, none⟩) pn pc, .slice SA gn sc]) rfl rfl (by kernel_rfl) (by kernel_rfl) (by kernel_rfl) (fun _ _ _ h => h) (Or.inl ⟨by rfl, by intro w_ hSw; have c0 : w_.cell? ⟨Y, 0, none⟩ = some (strV nm) := (HT.out _ hSw).1.2.cell 0; have c1 : w_.cell? ⟨Y, 1, none⟩ = some (.int .i64 ce) := (HT.out _ hSw).1.2.cell 1; have c2 : w_.cell? ⟨Y, 2, none⟩ = some (.int .i64 wi) := (HT.out _ hSw).1.2.cell 2; have c3 : w_.cell? ⟨Y, 3, none⟩ = some (.slice (some ⟨b, o, none⟩) pn pc) := (HT.out _ hSw).1.2.cell 3; have c4 : w_.cell? ⟨Y, 4, none⟩ = some (.slice SA gn sc) := (HT.out _ hSw).1.2.cell 4; go_simp⟩) (by assumption) ?_
  try simp only [Act.put, List.setIfInBounds_toArray, List.set_cons_zero, List.set_cons_succ]
  refine take_at (i := 1) 54 (v := .agg #[.int .i64 (k : Int), .int .i64 fr, .int .i64 0, .int .i64 sy, .int .i64 sn, .int .i64 0, .int .i64 bn]) rfl rfl (by kernel_rfl) (by kernel_rfl) (by kernel_rfl) (fun _ _ _ h => h) (Or.inl ⟨by rfl, by intro w_ hSw; have c0 : w_.cell? ⟨A, 0, none⟩ = some (.int .i64 (k : Int)) := (HT.out _ hSw).2.cell 0; have c1 : w_.cell? ⟨A, 1, none⟩ = some (.int .i64 fr) := (HT.out _ hSw).2.cell 1; have c2 : w_.cell? ⟨A, 2, none⟩ = some (.int .i64 0) := (HT.out _ hSw).2.cell 2; have c3 : w_.cell? ⟨A, 3, none⟩ = some (.int .i64 sy) := (HT.out _ hSw).2.cell 3; have c4 : w_.cell? ⟨A, 4, none⟩ = some (.int .i64 sn) := (HT.out _ hSw).2.cell 4; have c5 : w_.cell? ⟨A, 5, none⟩ = some (.int .i64 0) := (HT.out _ hSw).2.cell 5; have c6 : w_.cell? ⟨A, 6, none⟩ = some (.int .i64 bn) := (HT.out _ hSw).2.cell 6; go_simp⟩) (by assumption) ?_
  try simp only [Act.put, List.setIfInBounds_toArray, List.set_cons_zero, List.set_cons_succ]
  refine take_at (i := 3) 56 (v := .pointer (some ⟨w.heap.size + 1, 2, none⟩)) rfl rfl (by kernel_rfl) (by kernel_rfl) (by kernel_rfl) (fun _ _ _ h => h) (Or.inl ⟨by rfl, by intro w_ hSw; go_simp⟩) (by assumption) ?_
  try simp only [Act.put, List.setIfInBounds_toArray, List.set_cons_zero, List.set_cons_succ]
  refine take_at (i := 4) 57 (v := .int .i64 te) rfl rfl (by kernel_rfl) (by kernel_rfl) (by kernel_rfl) (fun _ _ _ h => h) (Or.inl ⟨by rfl, by intro w_ hSw; have c2 : w_.cell? ⟨w.heap.size + 1, 2, none⟩ = some (.int .i64 te) := (HT.out _ hSw).1.1.1.1.2.cell 2; go_simp⟩) (by assumption) ?_
  try simp only [Act.put, List.setIfInBounds_toArray, List.set_cons_zero, List.set_cons_succ]
  refine take_at (i := 5) 58 (v := .pointer (some ⟨w.heap.size + 1, 1, none⟩)) rfl rfl (by kernel_rfl) (by kernel_rfl) (by kernel_rfl) (fun _ _ _ h => h) (Or.inl ⟨by rfl, by intro w_ hSw; go_simp⟩) (by assumption) ?_
  try simp only [Act.put, List.setIfInBounds_toArray, List.set_cons_zero, List.set_cons_succ]
  refine take_at (i := 6) 59 (v := .int .i64 fr) rfl rfl (by kernel_rfl) (by kernel_rfl) (by kernel_rfl) (fun _ _ _ h => h) (Or.inl ⟨by rfl, by intro w_ hSw; have c1 : w_.cell? ⟨w.heap.size + 1, 1, none⟩ = some (.int .i64 fr) := (HT.out _ hSw).1.1.1.1.2.cell 1; go_simp⟩) (by assumption) ?_
  try simp only [Act.put, List.setIfInBounds_toArray, List.set_cons_zero, List.set_cons_succ]
  refine take_at (i := 7) 60 (v := .int .i64 (te - fr)) rfl rfl (by kernel_rfl) (by kernel_rfl) (by kernel_rfl) (fun _ _ _ h => h) (Or.inl ⟨by rfl, by intro w_ hSw; go_simp⟩) (by assumption) ?_
  try simp only [Act.put, List.setIfInBounds_toArray, List.set_cons_zero, List.set_cons_succ]
  refine take_at (i := 8) 61 (v := .bool true) rfl rfl (by kernel_rfl) (by kernel_rfl) (by kernel_rfl) (fun _ _ _ h => h) (Or.inl ⟨by rfl, by intro w_ hSw; go_simp⟩) (by assumption) ?_
  try simp only [Act.put, List.setIfInBounds_toArray, List.set_cons_zero, List.set_cons_succ]
  refine wpAnyH_ready (rs := [2]) (by kernel_rfl) (by simp) ?_
  refine AllReadyH.cons rfl (fun K hK => ?_) AllReadyH.nil
  go_simp
  go_at_call 24
  refine (HA0.out _ (HT0.out _ (HT.out _ hHeld).1.1.2).1.1).mono ?_
  rintro e v6_1 ⟨rfl, hb⟩
  replace hHeld := Below.step hHeld hb
  clear hb
  try simp only []
  refine hK.out _ _ hHeld (fun hHeld => ?_)
  clear hK K
  try simp only [Act.put, List.setIfInBounds_toArray, List.set_cons_zero, List.set_cons_succ]
  refine wpAnyH_ready (rs := [9]) (by kernel_rfl) (by simp) ?_
  refine AllReadyH.cons rfl (fun K hK => ?_) AllReadyH.nil
  go_simp
  go_at_call 23
  refine (unless_yes _ _).mono ?_
  rintro e w' ⟨rfl, rfl⟩
  try simp only []
  refine hK.out _ _ hHeld (fun hHeld => ?_)
  clear hK K
  try simp only [Act.put, List.setIfInBounds_toArray, List.set_cons_zero, List.set_cons_succ]
  refine wpAnyH_ready (rs := [10]) (by kernel_rfl) (by simp) ?_
  refine AllReadyH.cons rfl (fun K hK => ?_) AllReadyH.nil
  go_simp
  refine hK.out _ _ (hHeld.alloc hHeld.size _) (fun hHeld => ?_)
  clear hK K
  try simp only [Act.put, List.setIfInBounds_toArray, List.set_cons_zero, List.set_cons_succ]
  refine wpAnyH_ready (rs := [11]) (by kernel_rfl) (by simp) ?_
  refine AllReadyH.cons rfl (fun K hK => ?_) AllReadyH.nil
  go_simp
  go_at_call 20
  refine (first_z2 _ _ (by first | rfl | simp)).mono ?_
  rintro e w' ⟨rfl, rfl⟩
  try simp only []
  refine hK.out _ _ hHeld (fun hHeld => ?_)
  clear hK K
  try simp only [Act.put, List.setIfInBounds_toArray, List.set_cons_zero, List.set_cons_succ]
  refine take_at (i := 12) 11 (v := .int .i64 0) rfl rfl (by kernel_rfl) (by kernel_rfl) (by kernel_rfl) (fun _ _ _ h => h) (Or.inl ⟨by rfl, by intro w_ hSw; go_simp⟩) (by assumption) ?_
  try simp only [Act.put, List.setIfInBounds_toArray, List.set_cons_zero, List.set_cons_succ]
  refine wpAnyH_done (by kernel_rfl) ?_ _
  replace HT := hide (HT.out.step hHeld)
  clear hHeld HA0
  obtain ⟨W4, hW4⟩ : ∃ W4, (v6_1.alloc (.cells #[.int .i64 0, .int .i64 0] 35)) = W4 := ⟨_, rfl⟩
  rw [hW4] at HT ⊢
  clear hW4
  have hAQ : A < W4.heap.size := HT.out.now.2.lt
  have HT5 := hide ((HT.out.alloc (.cells #[.int .i64 mu, .int .i64 fi, .int .i64 bl] 56)).and (stay_blk (Blk.new W4 56 #[.int .i64 mu, .int .i64 fi, .int .i64 bl])))
  have c3 : W4.cell? ⟨w.heap.size, 3, none⟩ = some (.slice (some ⟨b, o, none⟩) pn pc) := HT.out.now.1.1.1.1.1.cell 3
  have x0 : W4.cell? ⟨w.heap.size + 1, 0, none⟩ = some (.int .i64 (k : Int)) := HT.out.now.1.1.1.1.2.cell 0
  have x1 : (W4.alloc (.cells #[.int .i64 mu, .int .i64 fi, .int .i64 bl] 56)).cell? ⟨w.heap.size + 1, 1, none⟩ = some (.int .i64 fr) := HT5.out.now.1.1.1.1.1.2.cell 1
  have a1 : (W4.alloc (.cells #[.int .i64 mu, .int .i64 fi, .int .i64 bl] 56)).cell? ⟨A, 1, none⟩ = some (.int .i64 fr) := HT5.out.now.1.2.cell 1
  have f1 : (W4.alloc (.cells #[.int .i64 mu, .int .i64 fi, .int .i64 bl] 56)).frozen? ⟨A, 1, none⟩ = false := HT5.out.now.1.2.frozen 1
  have p0 := (HPQ.out _ (HT0.out _ HT.out.now.1.1.2).1.1).1
  have p1 := (HPQ.out _ (HT0.out _ HT.out.now.1.1.2).1.1).2.1
  have p2 := (HPQ.out _ (HT0.out _ HT.out.now.1.1.2).1.1).2.2
  go_wp2_with fail
  clear c3 x0 x1 a1 f1 p0 p1 p2 HPQ HT5
  have hAB := hide (show Blk (W4.setCell ⟨A, 1, none⟩ (.int .i64 fr)) A 34 #[.int .i64 (k : Int), .int .i64 fr, .int .i64 0, .int .i64 sy, .int .i64 sn, .int .i64 0, .int .i64 bn] from HT.out.now.2.set_ 1 (.int .i64 fr))
  have HE0 : Hid (But A (W4.setCell ⟨A, 1, none⟩ (.int .i64 fr)) (fun W => ((((Blk W w.heap.size 25 #[strV nm, .int .i64 ce, .int .i64 wi, .slice (some ⟨b, o, none⟩) pn pc, .slice SA gn sc] ∧ Blk W (w.heap.size + 1) 27 #[.int .i64 (k : Int), .int .i64 fr, .int .i64 te, .int .i64 sy, .int .i64 sn, .int .i64 bn]) ∧ Blk W (w.heap.size + 2) 34 #[.int .i64 0, .int .i64 0, .int .i64 0, .int .i64 0, .int .i64 0, .int .i64 0, .int .i64 0]) ∧ Blk W Y 58 #[strV nm, .int .i64 ce, .int .i64 wi, .slice (some ⟨b, o, none⟩) pn pc, .slice SA gn sc]) ∧ Below w.heap.size w W))) := hide
    ((((((but_blk HT.out.now.1.1.1.1.1 (by omega)).and (but_blk HT.out.now.1.1.1.1.2 (by omega))).and (but_blk HT.out.now.1.1.1.2 (by omega))).and (but_blk HT.out.now.1.2 (by omega))).and (but_below HT.out.now.1.1.2 (by omega))).step (grown_one (World.grownBy.refl _ _) 1 _))
  clear HT
  have hQ1 : (W4.setCell ⟨A, 1, none⟩ (.int .i64 fr)).heap.size = W4.heap.size := by simp [World.setCell]
  obtain ⟨Q, hQ⟩ : ∃ Q, W4.heap.size = Q := ⟨_, rfl⟩
  obtain ⟨W5, hW5⟩ : ∃ W5, W4.setCell ⟨A, 1, none⟩ (.int .i64 fr) = W5 := ⟨_, rfl⟩
  rw [hW5] at hAB HE0 hQ1 ⊢
  rw [hQ] at hAQ hQ1 ⊢
  clear hQ hW5
  have HE := hide ((HE0.out.bel ((Below.refl W5.heap.size W5).alloc (Nat.le_refl _) (.cells #[.int .i64 mu, .int .i64 fi, .int .i64 bl] 56))).and (but_blk (Blk.newN W5 56 #[.int .i64 mu, .int .i64 fi, .int .i64 bl] hQ1) (by omega)))
  replace hAB := hide (hAB.out.alloc (.cells #[.int .i64 mu, .int .i64 fi, .int .i64 bl] 56))
  obtain ⟨W6, hW6⟩ : ∃ W6, W5.alloc (.cells #[.int .i64 mu, .int .i64 fi, .int .i64 bl] 56) = W6 := ⟨_, rfl⟩
  rw [hW6] at HE hAB ⊢
  clear hW6 HE0 hQ1
  try simp only [Act.put]
  go_loopg [] (te + 1 - fr).toNat (fun j wr => ∃ (n s b : Int), n + (j : Int) = te + 1 ∧ fr ≤ n ∧ W6.grownBy wr (some A) ∧ Blk wr A 34 (#[.int .i64 (k : Int), .int .i64 n, .int .i64 s, .int .i64 sy, .int .i64 sn, .int .i64 b, .int .i64 bn]) ∧ ∀ n', fr ≤ n' → n' < n → ∀ s b, s < N → b < B → F n' s b = false)
  case atStart => exact ⟨fr, 0, 0, by omega, Int.le_refl _, World.grownBy.refl _ _, hAB.out, fun n' h1 h2 => by omega⟩
  case round =>
  obtain ⟨n, s, b', hnj, hfn, hg, hbk, hno⟩ := hrel
  replace hg := hide hg
  replace hbk := hide hbk
  replace hno := hide hno
  clear hAB
  have a1 : wr.cell? ⟨A, 1, none⟩ = some (.int .i64 n) := hbk.out.cell 1
  have x2 : wr.cell? ⟨w.heap.size + 1, 2, none⟩ = some (.int .i64 te) := (HE.out _ hg.out).1.1.1.1.2.cell 2
  have p0 : wr.cell? ⟨Q, 0, none⟩ = some (.int .i64 mu) := (HE.out _ hg.out).2.cell 0
  by_cases hle : n ≤ te
  · go_wp2_with (go_at_call 25; go_must (refine (HSL.out _).mono ?_; rintro e w' ⟨rfl, rfl⟩; simp only []))
    clear a1 x2 p0
    go_loopw [90] (fun i wz => ∃ (z : Nat) (s b : Int), z ≤ N ∧ i = .int .i64 z ∧ W6.grownBy wz (some A) ∧ Blk wz A 34 (#[.int .i64 (k : Int), .int .i64 n, .int .i64 s, .int .i64 sy, .int .i64 sn, .int .i64 b, .int .i64 bn]) ∧ ∀ s b, s < z → b < B → F n s b = false) (fun i _ => N - (intOf i).toNat)
    case atStart => exact ⟨0, s, b', Nat.zero_le _, rfl, hg.out, hbk.out, fun s b h => by omega⟩
    case round =>
      obtain ⟨z, s2, b2, hzN, rfl, hg, hbk, hno2⟩ := hrel
      replace hg := hide hg
      replace hbk := hide hbk
      replace hno2 := hide hno2
      by_cases hlt : z < N
      · have hzi : (z : Int) < (N : Int) := by omega
        have a2 : wr.cell? ⟨A, 2, none⟩ = some (.int .i64 s2) := hbk.out.cell 2
        have f2 := hbk.out.frozen 2
        have hg2 := hide (grown_one hg.out 2 (.int .i64 (z : Int)))
        have hbk2 := hide (show Blk (wr.setCell ⟨A, 2, none⟩ (.int .i64 (z : Int))) A 34 (#[.int .i64 (k : Int), .int .i64 n, .int .i64 (z : Int), .int .i64 sy, .int .i64 sn, .int .i64 b2, .int .i64 bn]) from hbk.out.set_ 2 (.int .i64 (z : Int)))
        have p2 : (wr.setCell ⟨A, 2, none⟩ (.int .i64 (z : Int))).cell? ⟨Q, 2, none⟩ = some (.int .i64 bl) := (HE.out _ hg2.out).2.cell 2
        have x5 : (wr.setCell ⟨A, 2, none⟩ (.int .i64 (z : Int))).cell? ⟨w.heap.size + 1, 5, none⟩ = some (.int .i64 bn) := (HE.out _ hg2.out).1.1.1.1.2.cell 5
        go_wp2_with fail
        clear a2 f2 p2 x5 hg hbk
        obtain ⟨W7, hW7⟩ : ∃ W7, wr.setCell ⟨A, 2, none⟩ (.int .i64 (z : Int)) = W7 := ⟨_, rfl⟩
        rw [hW7] at hg2 hbk2 ⊢
        clear hW7
        go_loopw [100] (fun i wz => ∃ (y : Nat) (b : Int), y ≤ B ∧ i = .int .i64 y ∧ W6.grownBy wz (some A) ∧ Blk wz A 34 (#[.int .i64 (k : Int), .int .i64 n, .int .i64 (z : Int), .int .i64 sy, .int .i64 sn, .int .i64 b, .int .i64 bn]) ∧ ∀ b, b < y → F n z b = false) (fun i _ => B - (intOf i).toNat)
        case atStart => exact ⟨0, b2, Nat.zero_le _, rfl, hg2.out, hbk2.out, fun b h => by omega⟩
        case round =>
          clear hg2 hbk2
          obtain ⟨y, b3, hyB, rfl, hg, hbk, hno3⟩ := hrel
          replace hg := hide hg
          replace hbk := hide hbk
          replace hno3 := hide hno3
          by_cases hlt3 : y < B
          · have hyi : (y : Int) < (B : Int) := by omega
            have a5 : wr.cell? ⟨A, 5, none⟩ = some (.int .i64 b3) := hbk.out.cell 5
            have f5 := hbk.out.frozen 5
            have hg2 := hide (grown_one hg.out 5 (.int .i64 (y : Int)))
            have hbk2 := hide (show Blk (wr.setCell ⟨A, 5, none⟩ (.int .i64 (y : Int))) A 34 (#[.int .i64 (k : Int), .int .i64 n, .int .i64 (z : Int), .int .i64 sy, .int .i64 sn, .int .i64 (y : Int), .int .i64 bn]) from hbk.out.set_ 5 (.int .i64 (y : Int)))
            have HF1 := hide (fun W q q2 => HFI.out n z y W ⟨hfn, hle, hlt, hlt3⟩ q q2)
            have HB1 := hide (fun W q q2 => HBU.out n z y W ⟨hfn, hle, hlt, hlt3⟩ q q2)
            have hFv := HFF.out n z y
            obtain ⟨bv1, hv1⟩ : ∃ v, G1 n z y = v := ⟨_, rfl⟩
            obtain ⟨bv2, hv2⟩ : ∃ v, G2 n z y = v := ⟨_, rfl⟩
            rw [hv1] at HF1 hFv
            rw [hv2] at HB1 hFv
            replace hFv := hide hFv
            clear hv1 hv2
            have y0 : (wr.setCell ⟨A, 5, none⟩ (.int .i64 (y : Int))).cell? ⟨Y, 0, none⟩ = some (strV nm) := (HE.out _ hg2.out).1.1.2.cell 0
            have y1 : (wr.setCell ⟨A, 5, none⟩ (.int .i64 (y : Int))).cell? ⟨Y, 1, none⟩ = some (.int .i64 ce) := (HE.out _ hg2.out).1.1.2.cell 1
            have y2 : (wr.setCell ⟨A, 5, none⟩ (.int .i64 (y : Int))).cell? ⟨Y, 2, none⟩ = some (.int .i64 wi) := (HE.out _ hg2.out).1.1.2.cell 2
            have y3 : (wr.setCell ⟨A, 5, none⟩ (.int .i64 (y : Int))).cell? ⟨Y, 3, none⟩ = some (.slice (some ⟨b, o, none⟩) pn pc) := (HE.out _ hg2.out).1.1.2.cell 3
            have y4 : (wr.setCell ⟨A, 5, none⟩ (.int .i64 (y : Int))).cell? ⟨Y, 4, none⟩ = some (.slice SA gn sc) := (HE.out _ hg2.out).1.1.2.cell 4
            have v0 : (wr.setCell ⟨A, 5, none⟩ (.int .i64 (y : Int))).cell? ⟨A, 0, none⟩ = some (.int .i64 (k : Int)) := hbk2.out.cell 0
            have v1 : (wr.setCell ⟨A, 5, none⟩ (.int .i64 (y : Int))).cell? ⟨A, 1, none⟩ = some (.int .i64 n) := hbk2.out.cell 1
            have v2 : (wr.setCell ⟨A, 5, none⟩ (.int .i64 (y : Int))).cell? ⟨A, 2, none⟩ = some (.int .i64 (z : Int)) := hbk2.out.cell 2
            have v3 : (wr.setCell ⟨A, 5, none⟩ (.int .i64 (y : Int))).cell? ⟨A, 3, none⟩ = some (.int .i64 sy) := hbk2.out.cell 3
            have v4 : (wr.setCell ⟨A, 5, none⟩ (.int .i64 (y : Int))).cell? ⟨A, 4, none⟩ = some (.int .i64 sn) := hbk2.out.cell 4
            have v5 : (wr.setCell ⟨A, 5, none⟩ (.int .i64 (y : Int))).cell? ⟨A, 5, none⟩ = some (.int .i64 (y : Int)) := hbk2.out.cell 5
            have v6 : (wr.setCell ⟨A, 5, none⟩ (.int .i64 (y : Int))).cell? ⟨A, 6, none⟩ = some (.int .i64 bn) := hbk2.out.cell 6
            cases bv1
            · have hno4 := hide (fun b (h : b < y + 1) => show F n z b = false from by
                by_cases e : b = y
                · subst e; exact hFv.out
                · exact hno3.out b (by omega))
              go_wp2_with (go_at_call 26; go_must (refine (HF1.out _ (HT0.out _ (HE.out _ hg2.out).1.2).1.1 (HT0.out _ (HE.out _ hg2.out).1.2).1.2).mono ?_; rintro e w8 ⟨rfl, hb⟩; replace hbk2 := hide (hbk2.out.below hb hbk2.out.lt); replace hg2 := hide (gb_trans hg2.out (only_of_below hb _)); clear hb a5 f5 y0 y1 y2 y3 y4 v0 v1 v2 v3 v4 v5 v6; simp only []))
              go_roundw
              case rel => exact ⟨y + 1, (y : Int), by omega, by go_num, hg2.out, hbk2.out, hno4.out⟩
              case measure => simp [intOf]; omega
            · cases bv2
              · go_wp2_with (first
                  | (refine wpList_store_row rfl 34 (.tmp 6) (.tmp 114) rfl (w.heap.size + 1 + 1) (#[.int .i64 (k : Int), .int .i64 n, .int .i64 (z : Int), .int .i64 sy, .int .i64 sn, .int .i64 (y : Int), .int .i64 bn]) rfl rfl 34 #[.int .i64 0, .int .i64 0, .int .i64 0, .int .i64 0, .int .i64 0, .int .i64 0, .int .i64 0] (HE.out _ hg2.out).1.1.1.2 (by kernel_rfl) rfl (by simp [Value.oneCell']) ?_)
                  | (go_at_call 27; go_must (refine (HB1.out _ (HT0.out _ (HE.out _ hg2.out).1.2).1.1 (HT0.out _ (HE.out _ hg2.out).1.2).2).mono ?_; rintro e w9 ⟨rfl, hb⟩; replace hbk2 := hide (hbk2.out.below hb hbk2.out.lt); replace hg2 := hide (gb_trans hg2.out (only_of_below hb _)); clear hb y0 y1 y2 y3 y4 v0 v1 v2 v3 v4 v5 v6; have v0 : w9.cell? ⟨A, 0, none⟩ = some (.int .i64 (k : Int)) := hbk2.out.cell 0; have v1 : w9.cell? ⟨A, 1, none⟩ = some (.int .i64 n) := hbk2.out.cell 1; have v2 : w9.cell? ⟨A, 2, none⟩ = some (.int .i64 (z : Int)) := hbk2.out.cell 2; have v3 : w9.cell? ⟨A, 3, none⟩ = some (.int .i64 sy) := hbk2.out.cell 3; have v4 : w9.cell? ⟨A, 4, none⟩ = some (.int .i64 sn) := hbk2.out.cell 4; have v5 : w9.cell? ⟨A, 5, none⟩ = some (.int .i64 (y : Int)) := hbk2.out.cell 5; have v6 : w9.cell? ⟨A, 6, none⟩ = some (.int .i64 bn) := hbk2.out.cell 6; simp only []))
                  | (go_at_call 26; go_must (refine (HF1.out _ (HT0.out _ (HE.out _ hg2.out).1.2).1.1 (HT0.out _ (HE.out _ hg2.out).1.2).1.2).mono ?_; rintro e w8 ⟨rfl, hb⟩; replace hbk2 := hide (hbk2.out.below hb hbk2.out.lt); replace hg2 := hide (gb_trans hg2.out (only_of_below hb _)); clear hb a5 f5 y0 y1 y2 y3 y4 v0 v1 v2 v3 v4 v5 v6; have y0 : w8.cell? ⟨Y, 0, none⟩ = some (strV nm) := (HE.out _ hg2.out).1.1.2.cell 0; have y1 : w8.cell? ⟨Y, 1, none⟩ = some (.int .i64 ce) := (HE.out _ hg2.out).1.1.2.cell 1; have y2 : w8.cell? ⟨Y, 2, none⟩ = some (.int .i64 wi) := (HE.out _ hg2.out).1.1.2.cell 2; have y3 : w8.cell? ⟨Y, 3, none⟩ = some (.slice (some ⟨b, o, none⟩) pn pc) := (HE.out _ hg2.out).1.1.2.cell 3; have y4 : w8.cell? ⟨Y, 4, none⟩ = some (.slice SA gn sc) := (HE.out _ hg2.out).1.1.2.cell 4; have v0 : w8.cell? ⟨A, 0, none⟩ = some (.int .i64 (k : Int)) := hbk2.out.cell 0; have v1 : w8.cell? ⟨A, 1, none⟩ = some (.int .i64 n) := hbk2.out.cell 1; have v2 : w8.cell? ⟨A, 2, none⟩ = some (.int .i64 (z : Int)) := hbk2.out.cell 2; have v3 : w8.cell? ⟨A, 3, none⟩ = some (.int .i64 sy) := hbk2.out.cell 3; have v4 : w8.cell? ⟨A, 4, none⟩ = some (.int .i64 sn) := hbk2.out.cell 4; have v5 : w8.cell? ⟨A, 5, none⟩ = some (.int .i64 (y : Int)) := hbk2.out.cell 5; have v6 : w8.cell? ⟨A, 6, none⟩ = some (.int .i64 bn) := hbk2.out.cell 6; simp only [])))
                exact bodyPost_ret (results_row_tmp rfl _ _ (w.heap.size + 1 + 1) 34 (#[.int .i64 (k : Int), .int .i64 n, .int .i64 (z : Int), .int .i64 sy, .int .i64 sn, .int .i64 (y : Int), .int .i64 bn]) _ (.int .i64 0) rfl rfl ((HE.out _ hg2.out).1.1.1.2.row _) Try.underlying34 rfl (by kernel_rfl)) rfl ⟨.inl ⟨n, z, y, rfl, ⟨hfn, hle, hlt, hlt3⟩, hFv.out, hno.out, hno2.out, hno3.out⟩, Below.row (HE.out _ hg2.out).1.2 (by omega) _⟩
              · have hno4 := hide (fun b (h : b < y + 1) => show F n z b = false from by
                  by_cases e : b = y
                  · subst e; exact hFv.out
                  · exact hno3.out b (by omega))
                go_wp2_with (first
                  | (go_at_call 27; go_must (refine (HB1.out _ (HT0.out _ (HE.out _ hg2.out).1.2).1.1 (HT0.out _ (HE.out _ hg2.out).1.2).2).mono ?_; rintro e w9 ⟨rfl, hb⟩; replace hbk2 := hide (hbk2.out.below hb hbk2.out.lt); replace hg2 := hide (gb_trans hg2.out (only_of_below hb _)); clear hb y0 y1 y2 y3 y4 v0 v1 v2 v3 v4 v5 v6; simp only []))
                  | (go_at_call 26; go_must (refine (HF1.out _ (HT0.out _ (HE.out _ hg2.out).1.2).1.1 (HT0.out _ (HE.out _ hg2.out).1.2).1.2).mono ?_; rintro e w8 ⟨rfl, hb⟩; replace hbk2 := hide (hbk2.out.below hb hbk2.out.lt); replace hg2 := hide (gb_trans hg2.out (only_of_below hb _)); clear hb a5 f5 y0 y1 y2 y3 y4 v0 v1 v2 v3 v4 v5 v6; have y0 : w8.cell? ⟨Y, 0, none⟩ = some (strV nm) := (HE.out _ hg2.out).1.1.2.cell 0; have y1 : w8.cell? ⟨Y, 1, none⟩ = some (.int .i64 ce) := (HE.out _ hg2.out).1.1.2.cell 1; have y2 : w8.cell? ⟨Y, 2, none⟩ = some (.int .i64 wi) := (HE.out _ hg2.out).1.1.2.cell 2; have y3 : w8.cell? ⟨Y, 3, none⟩ = some (.slice (some ⟨b, o, none⟩) pn pc) := (HE.out _ hg2.out).1.1.2.cell 3; have y4 : w8.cell? ⟨Y, 4, none⟩ = some (.slice SA gn sc) := (HE.out _ hg2.out).1.1.2.cell 4; have v0 : w8.cell? ⟨A, 0, none⟩ = some (.int .i64 (k : Int)) := hbk2.out.cell 0; have v1 : w8.cell? ⟨A, 1, none⟩ = some (.int .i64 n) := hbk2.out.cell 1; have v2 : w8.cell? ⟨A, 2, none⟩ = some (.int .i64 (z : Int)) := hbk2.out.cell 2; have v3 : w8.cell? ⟨A, 3, none⟩ = some (.int .i64 sy) := hbk2.out.cell 3; have v4 : w8.cell? ⟨A, 4, none⟩ = some (.int .i64 sn) := hbk2.out.cell 4; have v5 : w8.cell? ⟨A, 5, none⟩ = some (.int .i64 (y : Int)) := hbk2.out.cell 5; have v6 : w8.cell? ⟨A, 6, none⟩ = some (.int .i64 bn) := hbk2.out.cell 6; simp only [])))
                go_roundw
                case rel => exact ⟨y + 1, (y : Int), by omega, by go_num, hg2.out, hbk2.out, hno4.out⟩
                case measure => simp [intOf]; omega
          · obtain rfl : y = B := by omega
            have hyi : ¬ (y : Int) < (y : Int) := by omega
            have hno4 := hide (fun s b (h : s < z + 1) (hb : b < y) => show F n s b = false from by
              by_cases e : s = z
              · subst e; exact hno3.out b hb
              · exact hno2.out s b (by omega) hb)
            go_wp2_with fail
            go_roundw
            case rel => exact ⟨z + 1, (z : Int), b3, by omega, by go_num, hg.out, hbk.out, hno4.out⟩
            case measure => simp [intOf]; omega
      · obtain rfl : z = N := by omega
        have hzi : ¬ (z : Int) < (z : Int) := by omega
        have a1 : wr.cell? ⟨A, 1, none⟩ = some (.int .i64 n) := hbk.out.cell 1
        have f1 := hbk.out.frozen 1
        have w4 : IntKind.i64.wrap (n + 1) = n + 1 := IntWalk.i64_in _ (by omega)
        have hno4 := hide (fun n' (h1 : fr ≤ n') (h2 : n' < n + 1) s b (hs : s < z) (hb : b < B) => show F n' s b = false from by
          by_cases e : n' = n
          · subst e; exact hno2.out s b hs hb
          · exact hno.out n' h1 (by omega) s b hs hb)
        have hg2 := hide (grown_one hg.out 1 (.int .i64 (n + 1)))
        have hbk2 := hide (show Blk (wr.setCell ⟨A, 1, none⟩ (.int .i64 (n + 1))) A 34 #[.int .i64 (k : Int), .int .i64 (n + 1), .int .i64 s2, .int .i64 sy, .int .i64 sn, .int .i64 b2, .int .i64 bn] from hbk.out.set_ 1 (.int .i64 (n + 1)))
        go_wp2_with fail
        go_roundg (gk - 1)
        case measure => omega
        case rel => exact ⟨n + 1, s2, b2, by omega, by omega, hg2.out, hbk2.out, hno4.out⟩
  · go_wp2_with (refine wpList_store_row rfl 34 (.tmp 6) (.tmp 117) rfl (w.heap.size + 1 + 1) #[.int .i64 0, .int .i64 0, .int .i64 0, .int .i64 0, .int .i64 0, .int .i64 0, .int .i64 0] rfl rfl 34 #[.int .i64 0, .int .i64 0, .int .i64 0, .int .i64 0, .int .i64 0, .int .i64 0, .int .i64 0] (HE.out _ hg.out).1.1.1.2 (by kernel_rfl) rfl (by simp [Value.oneCell']) ?_)
    exact bodyPost_ret (results_row_tmp rfl _ _ (w.heap.size + 1 + 1) 34 #[.int .i64 0, .int .i64 0, .int .i64 0, .int .i64 0, .int .i64 0, .int .i64 0, .int .i64 0] _ (.int .i64 12) rfl rfl ((HE.out _ hg.out).1.1.1.2.row _) Try.underlying34 rfl (by kernel_rfl)) rfl ⟨.inr ⟨rfl, fun n' h1 h2 => hno.out n' h1 (by omega)⟩, Below.row (HE.out _ hg.out).1.2 (by omega) _⟩
end Go.Proofs.Ytfolipkbcibgdaa
