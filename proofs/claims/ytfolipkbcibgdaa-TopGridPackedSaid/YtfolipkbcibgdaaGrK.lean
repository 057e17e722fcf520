import Derived.Test.YtfolipkbcibgdaaGrJ
namespace Go.Proofs.Ytfolipkbcibgdaa
open Go.RowKit Go.WideShapes Go.ChangeShapes

/-! covers of right signals and allocations of a right carrier -/
def prtAt (P : List Prt) (pa : Int) : Prt := P[pa.toNat]?.getD ⟨0, 0, 0⟩
def sigCT (P : List Prt) (s : Sig) : Nat → Bool := sgT (prtAt P s.pa).mu.toNat s.sy.toNat s.sn.toNat (slotsN (prtAt P s.pa).mu.toNat s.sl)
def sigCU (ce : Int) (P : List Prt) (s : Sig) : Nat → Bool := sgU (prtAt P s.pa).mu.toNat (prtAt P s.pa).fi.toNat (subsN s.st.toNat s.sh.toNat ce.toNat (12 * s.bk.toNat) (12 * s.bn.toNat))
def aloCT (P : List Prt) (a : Alo) : Nat → Bool := alT (prtAt P a.pa).mu.toNat a.sl.toNat a.sy.toNat a.sn.toNat
def aloCU (P : List Prt) (a : Alo) : Nat → Bool := alU (prtAt P a.pa).mu.toNat (prtAt P a.pa).fi.toNat a.bk.toNat a.bn.toNat
theorem fit_nat {ce wi : Int} {P : List Prt} {S : List Sig} (hc : OkCr ce wi P S) {k : Nat} (hk : k < P.length) {bk bn : Int} {sy sn : Int} (hb : OkBx P[k] sy sn bk bn) : (P[k]).fi.toNat + 2 ^ (P[k]).mu.toNat * (12 * (bk.toNat + bn.toNat)) ≤ 600 := by
  have hp := hc.ps _ (List.getElem_mem hk)
  have h1 := hp.fit
  have h2 := hp.fi
  have h3 := hc.wi_
  have h4 := hb.bk
  have h5 := hp.bl
  obtain ⟨V, hV⟩ : ∃ V, 2 ^ (P[k]).mu.toNat = V := ⟨_, rfl⟩
  rw [hV] at h1 ⊢
  obtain ⟨X, hX⟩ := Int.eq_ofNat_of_zero_le h2
  obtain ⟨Y, hY⟩ := Int.eq_ofNat_of_zero_le (show 0 ≤ (P[k]).bl by omega)
  have h6 : bk.toNat + bn.toNat ≤ Y := by omega
  have h7 := Nat.mul_le_mul_left V (Nat.mul_le_mul_left 12 h6)
  rw [hX, hY] at h1
  rw [hX]
  have h8 : (V : Int) * 12 * (Y : Int) = ((V * (12 * Y) : Nat) : Int) := by push_cast; rw [Int.mul_assoc]
  rw [h8] at h1
  simp only [Int.toNat_natCast]
  omega
set_option maxHeartbeats 4000000 in
theorem signal_all (nmv : Value) (ce wi : Int) (PA SA : Option Addr) (pc sc : Nat) (P : List Prt) (S : List Sig) (s : Sig) (w : World) (hc : OkCr ce wi P S) (hs : OkSg P s) (hP : Prts w PA P) :
    Calls Try.prog 48 #[.agg #[nmv, .int .i64 ce, .int .i64 wi, .slice PA P.length pc, .slice SA S.length sc], .agg #[.int .i64 s.kd, .int .i64 s.pa, .int .i64 s.pe, .int .i64 s.of_, .int .i64 s.sl, .int .i64 s.sy, .int .i64 s.sn, .int .i64 s.bk, .int .i64 s.bn, .int .i64 s.st, .int .i64 s.sh]] w fun e w' => ∃ g, e = .returned (.pointer (some ⟨g, 0, none⟩)) ∧ CovAt w' g (sigCT P s) (sigCU ce P s) ∧ w.heap.size ≤ g ∧ Below w.heap.size w w' := by
  have hpk : s.pa.toNat < P.length := by have := hs.pa; omega
  have hbx := hs.bx hpk
  have hp := hc.ps _ (List.getElem_mem hpk)
  have hfit := fit_nat hc hpk hbx
  obtain ⟨b, o, rfl, c0, c1, c2⟩ := hP.at_ s.pa.toNat hpk
  have hsl : s.sl = -1 ∨ (0 ≤ s.sl ∧ s.sl < ((2 ^ (P[s.pa.toNat]).mu.toNat : Nat) : Int)) := by
    rcases hs.sl with h | h
    · exact .inl h
    · exact .inr ⟨h.1, h.2 hpk⟩
  have hq : prtAt P s.pa = P[s.pa.toNat] := by unfold prtAt; rw [List.getElem?_eq_getElem hpk]; rfl
  unfold sigCT sigCU
  rw [hq]
  have e1 : ((P[s.pa.toNat]).mu.toNat : Int) = (P[s.pa.toNat]).mu := by have := hp.mu; omega
  have e2 : ((P[s.pa.toNat]).fi.toNat : Int) = (P[s.pa.toNat]).fi := by have := hp.fi; omega
  have e3 : (s.pa.toNat : Int) = s.pa := by have := hs.pa; omega
  have e4 : (s.sy.toNat : Int) = s.sy := by have := hbx.sy; omega
  have e5 : (s.sn.toNat : Int) = s.sn := by have := hbx.sy; omega
  have e6 : (s.bk.toNat : Int) = s.bk := by have := hbx.bk; omega
  have e7 : (s.bn.toNat : Int) = s.bn := by have := hbx.bk; omega
  have e8 : (s.st.toNat : Int) = s.st := by have := hs.st; omega
  have e9 : (s.sh.toNat : Int) = s.sh := by have := hs.sh; omega
  have e10 : (ce.toNat : Int) = ce := by have := hc.ce_; omega
  have h := signal_grid nmv wi s.kd s.pe s.of_ s.sl (P[s.pa.toNat]).bl b o P.length pc SA S.length sc s.pa.toNat s.sy.toNat s.sn.toNat s.bk.toNat s.bn.toNat s.st.toNat s.sh.toNat ce.toNat (P[s.pa.toNat]).mu.toNat (P[s.pa.toNat]).fi.toNat w (by have := hp.mu; omega) hsl (by have := hbx.sy; omega) (by have := hs.st; omega) (by have := hs.sh; have := hs.st; omega) (by have := hc.ce_; omega) (by have := hbx.bk; have := hp.bl; omega) hfit hpk (by rw [e1]; exact c0) (by rw [e2]; exact c1) c2
  rw [e3, e4, e5, e6, e7, e8, e9, e10] at h
  exact h
set_option maxHeartbeats 4000000 in
theorem allocation_all (nmv : Value) (ce wi : Int) (PA SA : Option Addr) (pc sc : Nat) (P : List Prt) (S : List Sig) (a : Alo) (w : World) (hc : OkCr ce wi P S) (ha : OkAl P a) (hP : Prts w PA P) :
    Calls Try.prog 45 #[.agg #[nmv, .int .i64 ce, .int .i64 wi, .slice PA P.length pc, .slice SA S.length sc], .agg #[.int .i64 a.pa, .int .i64 a.sf, .int .i64 a.sl, .int .i64 a.sy, .int .i64 a.sn, .int .i64 a.bk, .int .i64 a.bn]] w fun e w' => ∃ g, e = .returned (.pointer (some ⟨g, 0, none⟩)) ∧ CovAt w' g (aloCT P a) (aloCU P a) ∧ w.heap.size ≤ g ∧ Below w.heap.size w w' := by
  have hpk : a.pa.toNat < P.length := by have := ha.pa; omega
  have hbx := ha.bx hpk
  have hp := hc.ps _ (List.getElem_mem hpk)
  have hfit := fit_nat hc hpk hbx
  obtain ⟨b, o, rfl, c0, c1, c2⟩ := hP.at_ a.pa.toNat hpk
  have hsl := ha.sl.2 hpk
  have hsl0 := ha.sl.1
  have hq : prtAt P a.pa = P[a.pa.toNat] := by unfold prtAt; rw [List.getElem?_eq_getElem hpk]; rfl
  unfold aloCT aloCU
  rw [hq]
  have e1 : ((P[a.pa.toNat]).mu.toNat : Int) = (P[a.pa.toNat]).mu := by have := hp.mu; omega
  have e2 : ((P[a.pa.toNat]).fi.toNat : Int) = (P[a.pa.toNat]).fi := by have := hp.fi; omega
  have e3 : (a.pa.toNat : Int) = a.pa := by have := ha.pa; omega
  have e4 : (a.sy.toNat : Int) = a.sy := by have := hbx.sy; omega
  have e5 : (a.sn.toNat : Int) = a.sn := by have := hbx.sy; omega
  have e6 : (a.bk.toNat : Int) = a.bk := by have := hbx.bk; omega
  have e7 : (a.bn.toNat : Int) = a.bn := by have := hbx.bk; omega
  have e8 : (a.sl.toNat : Int) = a.sl := by omega
  have h := allocation_grid nmv ce wi a.sf (P[a.pa.toNat]).bl b o P.length pc SA S.length sc a.pa.toNat a.sl.toNat a.sy.toNat a.sn.toNat a.bk.toNat a.bn.toNat (P[a.pa.toNat]).mu.toNat (P[a.pa.toNat]).fi.toNat w (by have := hp.mu; omega) (by omega) (by have := hbx.sy; omega) (by have := hbx.bk; have := hp.bl; omega) hfit hpk (by rw [e1]; exact c0) (by rw [e2]; exact c1) c2
  rw [e3, e4, e5, e6, e7, e8] at h
  exact h
/-! where a signal stands; clashes -/
def stB (s : Sig) (sf : Int) : Bool := decide (sf.toNat % s.pe.toNat = s.of_.toNat)
def clashB (ce : Int) (P : List Prt) (s : Sig) (a : Alo) : Bool := decide (s.kd ≠ 3) && stB s a.sf && meetB (sigCT P s) (sigCU ce P s) (aloCT P a) (aloCU P a)
def busyB1 (P : List Prt) (y a : Alo) : Bool := decide (y.sf = a.sf) && meetB (aloCT P y) (aloCU P y) (aloCT P a) (aloCU P a)
def fitsB (ce : Int) (P : List Prt) (S : List Sig) (a : Alo) : Bool := !(S.any fun x => clashB ce P x a)
def busyB (P : List Prt) (l : List Alo) (a : Alo) : Bool := l.any fun x => busyB1 P x a
set_option maxRecDepth 100000 in
set_option maxHeartbeats 4000000 in
theorem stands_grid (s : Sig) (sf : Int) (w : World) (hpe : 1 ≤ s.pe ∧ s.pe ≤ 10240) (hof : 0 ≤ s.of_ ∧ s.of_ < s.pe) (hsf : 0 ≤ sf ∧ sf ≤ 10239) :
    Calls Try.prog 36 #[.agg #[.int .i64 s.kd, .int .i64 s.pa, .int .i64 s.pe, .int .i64 s.of_, .int .i64 s.sl, .int .i64 s.sy, .int .i64 s.sn, .int .i64 s.bk, .int .i64 s.bn, .int .i64 s.st, .int .i64 s.sh], .int .i64 sf] w fun e w' => e = .returned (.bool (stB s sf)) ∧ Below w.heap.size w w' := by
  have hB := hide (Blk.new w 82 #[.int .i64 s.kd, .int .i64 s.pa, .int .i64 s.pe, .int .i64 s.of_, .int .i64 s.sl, .int .i64 s.sy, .int .i64 s.sn, .int .i64 s.bk, .int .i64 s.bn, .int .i64 s.st, .int .i64 s.sh])
  obtain ⟨f, rfl⟩ := Int.eq_ofNat_of_zero_le hsf.1
  obtain ⟨p, hp⟩ := Int.eq_ofNat_of_zero_le (show 0 ≤ s.pe by omega)
  obtain ⟨q, hq⟩ := Int.eq_ofNat_of_zero_le hof.1
  have hv : stB s (f : Int) = decide (f % p = q) := by unfold stB; rw [hp, hq]; simp
  have hmod : f % p < p := Nat.mod_lt _ (by omega)
  have d1 : (f : Int).tmod (p : Int) = ((f % p : Nat) : Int) := (Int.ofNat_tmod f p).symm
  obtain ⟨R, hR⟩ : ∃ x, f % p = x := ⟨_, rfl⟩
  rw [hR] at hv hmod d1
  obtain ⟨r, hr⟩ : ∃ x, decide (R = q) = x := ⟨_, rfl⟩
  have hre : ((R : Int) == (q : Int)) = r := by rw [← hr]; rw [Bool.eq_iff_iff]; simp; omega
  rw [hv, hr]
  have wR : IntKind.i64.wrap (R : Int) = (R : Int) := IntWalk.i64_in _ (by omega)
  have hp0 : ¬ p = 0 := by omega
  rw [hp, hq] at hB ⊢
  clear hR hr hv hp hq
  go_enter Try.func36, Try.ntmps36
  go_wp2_with fail
  obtain ⟨W0, hW0⟩ : ∃ W0, w.alloc (.cells #[.int .i64 s.kd, .int .i64 s.pa, .int .i64 (p : Int), .int .i64 (q : Int), .int .i64 s.sl, .int .i64 s.sy, .int .i64 s.sn, .int .i64 s.bk, .int .i64 s.bn, .int .i64 s.st, .int .i64 s.sh] 82) = W0 := ⟨_, rfl⟩
  have hBel : Hid (Below w.heap.size w W0) := hide (hW0 ▸ (Below.refl _ w).alloc (Nat.le_refl _) (.cells #[.int .i64 s.kd, .int .i64 s.pa, .int .i64 (p : Int), .int .i64 (q : Int), .int .i64 s.sl, .int .i64 s.sy, .int .i64 s.sn, .int .i64 s.bk, .int .i64 s.bn, .int .i64 s.st, .int .i64 s.sh] 82))
  rw [hW0] at hB
  first | rw [hW0] | skip
  refine wp_region_held_drew (S := fun w_ => Below W0.heap.size W0 w_) (by kernel_rfl) (below_drewN (Below.refl W0.heap.size W0) 1) (fun hHeld => ?_)
  refine take_at (i := 0) 5 (v := .int .i64 (f : Int)) rfl rfl (by kernel_rfl) (by kernel_rfl) (by kernel_rfl) (fun _ _ _ h => h) (Or.inl ⟨by rfl, by intro w_ hSw; go_simp⟩) (by assumption) ?_
  try simp only [Act.put, List.setIfInBounds_toArray, List.set_cons_zero, List.set_cons_succ]
  refine take_at (i := 1) 6 (v := .pointer (some ⟨w.heap.size, 2, none⟩)) rfl rfl (by kernel_rfl) (by kernel_rfl) (by kernel_rfl) (fun _ _ _ h => h) (Or.inl ⟨by rfl, by intro w_ hSw; go_simp⟩) (by assumption) ?_
  try simp only [Act.put, List.setIfInBounds_toArray, List.set_cons_zero, List.set_cons_succ]
  refine take_at (i := 2) 7 (v := .int .i64 (p : Int)) rfl rfl (by kernel_rfl) (by kernel_rfl) (by kernel_rfl) (fun _ _ _ h => h) (Or.inl ⟨by rfl, by intro w_ hSw; have c2 : w_.cell? ⟨w.heap.size, 2, none⟩ = some (.int .i64 (p : Int)) := (hB.out.below hSw hB.out.lt).cell 2; go_simp⟩) (by assumption) ?_
  try simp only [Act.put, List.setIfInBounds_toArray, List.set_cons_zero, List.set_cons_succ]
  refine take_at (i := 3) 8 (v := .int .i64 (R : Int)) rfl rfl (by kernel_rfl) (by kernel_rfl) (by kernel_rfl) (fun _ _ _ h => h) (Or.inl ⟨by rfl, by intro w_ hSw; go_simp⟩) (by assumption) ?_
  try simp only [Act.put, List.setIfInBounds_toArray, List.set_cons_zero, List.set_cons_succ]
  refine take_at (i := 4) 9 (v := .pointer (some ⟨w.heap.size, 3, none⟩)) rfl rfl (by kernel_rfl) (by kernel_rfl) (by kernel_rfl) (fun _ _ _ h => h) (Or.inl ⟨by rfl, by intro w_ hSw; go_simp⟩) (by assumption) ?_
  try simp only [Act.put, List.setIfInBounds_toArray, List.set_cons_zero, List.set_cons_succ]
  refine take_at (i := 5) 10 (v := .int .i64 (q : Int)) rfl rfl (by kernel_rfl) (by kernel_rfl) (by kernel_rfl) (fun _ _ _ h => h) (Or.inl ⟨by rfl, by intro w_ hSw; have c3 : w_.cell? ⟨w.heap.size, 3, none⟩ = some (.int .i64 (q : Int)) := (hB.out.below hSw hB.out.lt).cell 3; go_simp⟩) (by assumption) ?_
  try simp only [Act.put, List.setIfInBounds_toArray, List.set_cons_zero, List.set_cons_succ]
  refine take_at (i := 6) 11 (v := .bool r) rfl rfl (by kernel_rfl) (by kernel_rfl) (by kernel_rfl) (fun _ _ _ h => h) (Or.inl ⟨by rfl, by intro w_ hSw; go_simp⟩) (by assumption) ?_
  try simp only [Act.put, List.setIfInBounds_toArray, List.set_cons_zero, List.set_cons_succ]
  refine take_at (i := 7) 4 (v := .bool r) rfl rfl (by kernel_rfl) (by kernel_rfl) (by kernel_rfl) (fun _ _ _ h => h) (Or.inl ⟨by rfl, by intro w_ hSw; go_simp⟩) (by assumption) ?_
  try simp only [Act.put, List.setIfInBounds_toArray, List.set_cons_zero, List.set_cons_succ]
  refine wpAnyH_done (by kernel_rfl) ?_ _
  have hfin := hide (Below.step hBel.out hHeld)
  clear hHeld
  go_wp2_with fail
  go_ret
  exact ⟨rfl, hfin.out⟩
/-! the closures of fits and busy -/
structure Env (nmv : Value) (ce wi : Int) (PA SA : Option Addr) (pc sc : Nat) (P : List Prt) (S : List Sig) (a : Alo) (g q1 q2 q3 : Nat) (w : World) : Prop where
  al : Blk w q1 34 #[.int .i64 a.pa, .int .i64 a.sf, .int .i64 a.sl, .int .i64 a.sy, .int .i64 a.sn, .int .i64 a.bk, .int .i64 a.bn]
  cr : Blk w q2 58 #[nmv, .int .i64 ce, .int .i64 wi, .slice PA P.length pc, .slice SA S.length sc]
  bx : w.cell? ⟨q3, 0, none⟩ = some (.pointer (some ⟨g, 0, none⟩))
  cv : CovAt w g (aloCT P a) (aloCU P a)
  ps : Prts w PA P
theorem stay_env {nmv : Value} {ce wi : Int} {PA SA : Option Addr} {pc sc : Nat} {P : List Prt} {S : List Sig} {a : Alo} {g q1 q2 q3 : Nat} {w : World} (h : Env nmv ce wi PA SA pc sc P S a g q1 q2 q3 w) : Stay w (fun W => Env nmv ce wi PA SA pc sc P S a g q1 q2 q3 W) := fun _ hW =>
  ⟨h.al.below hW h.al.lt, h.cr.below hW h.cr.lt, (hW.cell (lt_of_cell h.bx)).trans h.bx, h.cv.bel hW, h.ps.bel hW⟩
set_option maxRecDepth 100000 in
set_option maxHeartbeats 8000000 in
theorem fits1 (nmv : Value) (ce wi : Int) (PA SA : Option Addr) (pc sc : Nat) (P : List Prt) (S : List Sig) (a : Alo) (g q1 q2 q3 : Nat) (s : Sig) (w : World) (hc : OkCr ce wi P S) (ha : OkAl P a) (hs : OkSg P s) (hE : Env nmv ce wi PA SA pc sc P S a g q1 q2 q3 w) :
    Calls Try.prog 47 #[.agg #[.int .i64 s.kd, .int .i64 s.pa, .int .i64 s.pe, .int .i64 s.of_, .int .i64 s.sl, .int .i64 s.sy, .int .i64 s.sn, .int .i64 s.bk, .int .i64 s.bn, .int .i64 s.st, .int .i64 s.sh], .pointer (some ⟨q1, 0, none⟩), .pointer (some ⟨q2, 0, none⟩), .pointer (some ⟨q3, 0, none⟩)] w fun e w' => e = .returned (.bool (clashB ce P s a)) ∧ Below w.heap.size w w' := by
  have HST := hide (fun W => stands_grid s a.sf W hs.pe hs.of_ ha.sf)
  have HSG := hide (fun W k => signal_all nmv ce wi PA SA pc sc P S s W hc hs k)
  have HT : Hid (Stay (w.alloc (.cells #[.int .i64 s.kd, .int .i64 s.pa, .int .i64 s.pe, .int .i64 s.of_, .int .i64 s.sl, .int .i64 s.sy, .int .i64 s.sn, .int .i64 s.bk, .int .i64 s.bn, .int .i64 s.st, .int .i64 s.sh] 82)) (fun W => Blk W w.heap.size 82 #[.int .i64 s.kd, .int .i64 s.pa, .int .i64 s.pe, .int .i64 s.of_, .int .i64 s.sl, .int .i64 s.sy, .int .i64 s.sn, .int .i64 s.bk, .int .i64 s.bn, .int .i64 s.st, .int .i64 s.sh] ∧ (Env nmv ce wi PA SA pc sc P S a g q1 q2 q3 W ∧ Below w.heap.size w W))) := hide ((stay_blk (Blk.new w 82 #[.int .i64 s.kd, .int .i64 s.pa, .int .i64 s.pe, .int .i64 s.of_, .int .i64 s.sl, .int .i64 s.sy, .int .i64 s.sn, .int .i64 s.bk, .int .i64 s.bn, .int .i64 s.st, .int .i64 s.sh])).and (((stay_env hE).alloc (.cells #[.int .i64 s.kd, .int .i64 s.pa, .int .i64 s.pe, .int .i64 s.of_, .int .i64 s.sl, .int .i64 s.sy, .int .i64 s.sn, .int .i64 s.bk, .int .i64 s.bn, .int .i64 s.st, .int .i64 s.sh] 82)).and (stay_below ((Below.refl _ w).alloc (Nat.le_refl _) (.cells #[.int .i64 s.kd, .int .i64 s.pa, .int .i64 s.pe, .int .i64 s.of_, .int .i64 s.sl, .int .i64 s.sy, .int .i64 s.sn, .int .i64 s.bk, .int .i64 s.bn, .int .i64 s.st, .int .i64 s.sh] 82)))))
  have hcl : clashB ce P s a = (decide (s.kd ≠ 3) && stB s a.sf && meetB (sigCT P s) (sigCU ce P s) (aloCT P a) (aloCU P a)) := rfl
  obtain ⟨sb, hsb⟩ : ∃ x, stB s a.sf = x := ⟨_, rfl⟩
  obtain ⟨mt, hmt⟩ : ∃ x, meetB (sigCT P s) (sigCU ce P s) (aloCT P a) (aloCU P a) = x := ⟨_, rfl⟩
  rw [hsb] at HST hcl
  rw [hmt] at hcl
  rw [hcl]
  replace hmt := hide hmt
  obtain ⟨W0, hW0⟩ : ∃ W0, w.alloc (.cells #[.int .i64 s.kd, .int .i64 s.pa, .int .i64 s.pe, .int .i64 s.of_, .int .i64 s.sl, .int .i64 s.sy, .int .i64 s.sn, .int .i64 s.bk, .int .i64 s.bn, .int .i64 s.st, .int .i64 s.sh] 82) = W0 := ⟨_, rfl⟩
  rw [hW0] at HT
  clear hcl hsb hc ha hs hE
  by_cases hk : s.kd = 3
  · have hkb : (s.kd != 3) = false := by simp [hk]
    rw [show decide (s.kd ≠ 3) = false by simp [hk]]
    clear hk
    go_enter Try.func47, Try.ntmps47
    go_wp2_with fail
    first | rw [hW0] | skip
    refine wp_region_held_drew (S := fun w_ => Below W0.heap.size W0 w_) (by kernel_rfl) (below_drewN (Below.refl W0.heap.size W0) 1) (fun hHeld => ?_)
    refine take_at (i := 0) 6 (v := .pointer (some ⟨w.heap.size, 0, none⟩)) rfl rfl (by kernel_rfl) (by kernel_rfl) (by kernel_rfl) (fun _ _ _ h => h) (Or.inl ⟨by rfl, by intro w_ hSw; go_simp⟩) (by assumption) ?_
    try simp only [Act.put, List.setIfInBounds_toArray, List.set_cons_zero, List.set_cons_succ]
    refine take_at (i := 1) 7 (v := .int .i64 s.kd) rfl rfl (by kernel_rfl) (by kernel_rfl) (by kernel_rfl) (fun _ _ _ h => h) (Or.inl ⟨by rfl, by intro w_ hSw; have c0 : w_.cell? ⟨w.heap.size, 0, none⟩ = some (.int .i64 s.kd) := (HT.out _ hSw).1.cell 0; go_simp⟩) (by assumption) ?_
    try simp only [Act.put, List.setIfInBounds_toArray, List.set_cons_zero, List.set_cons_succ]
    refine take_at (i := 2) 8 (v := .bool false) rfl rfl (by kernel_rfl) (by kernel_rfl) (by kernel_rfl) (fun _ _ _ h => h) (Or.inl ⟨by rfl, by intro w_ hSw; go_simp⟩) (by assumption) ?_
    try simp only [Act.put, List.setIfInBounds_toArray, List.set_cons_zero, List.set_cons_succ]
    refine take_at (i := 3) 9 (v := .bool false) rfl rfl (by kernel_rfl) (by kernel_rfl) (by kernel_rfl) (fun _ _ _ h => h) (Or.inl ⟨by rfl, by intro w_ hSw; go_simp⟩) (by assumption) ?_
    try simp only [Act.put, List.setIfInBounds_toArray, List.set_cons_zero, List.set_cons_succ]
    refine take_at (i := 4) 10 (v := undef) rfl rfl (by kernel_rfl) (by kernel_rfl) (by kernel_rfl) (fun _ _ _ h => h) (Or.inr ⟨by rfl, by rfl⟩) (by assumption) ?_
    try simp only [Act.put, List.setIfInBounds_toArray, List.set_cons_zero, List.set_cons_succ]
    refine take_at (i := 5) 11 (v := undef) rfl rfl (by kernel_rfl) (by kernel_rfl) (by kernel_rfl) (fun _ _ _ h => h) (Or.inr ⟨by rfl, by rfl⟩) (by assumption) ?_
    try simp only [Act.put, List.setIfInBounds_toArray, List.set_cons_zero, List.set_cons_succ]
    refine take_at (i := 6) 12 (v := undef) rfl rfl (by kernel_rfl) (by kernel_rfl) (by kernel_rfl) (fun _ _ _ h => h) (Or.inr ⟨by rfl, by rfl⟩) (by assumption) ?_
    try simp only [Act.put, List.setIfInBounds_toArray, List.set_cons_zero, List.set_cons_succ]
    refine take_at (i := 7) 13 (v := undef) rfl rfl (by kernel_rfl) (by kernel_rfl) (by kernel_rfl) (fun _ _ _ h => h) (Or.inr ⟨by rfl, by rfl⟩) (by assumption) ?_
    try simp only [Act.put, List.setIfInBounds_toArray, List.set_cons_zero, List.set_cons_succ]
    refine take_at (i := 8) 14 (v := .bool false) rfl rfl (by kernel_rfl) (by kernel_rfl) (by kernel_rfl) (fun _ _ _ h => h) (Or.inl ⟨by rfl, by intro w_ hSw; go_simp⟩) (by assumption) ?_
    try simp only [Act.put, List.setIfInBounds_toArray, List.set_cons_zero, List.set_cons_succ]
    refine take_at (i := 9) 15 (v := .bool false) rfl rfl (by kernel_rfl) (by kernel_rfl) (by kernel_rfl) (fun _ _ _ h => h) (Or.inl ⟨by rfl, by intro w_ hSw; go_simp⟩) (by assumption) ?_
    try simp only [Act.put, List.setIfInBounds_toArray, List.set_cons_zero, List.set_cons_succ]
    refine take_at (i := 10) 16 (v := undef) rfl rfl (by kernel_rfl) (by kernel_rfl) (by kernel_rfl) (fun _ _ _ h => h) (Or.inr ⟨by rfl, by rfl⟩) (by assumption) ?_
    try simp only [Act.put, List.setIfInBounds_toArray, List.set_cons_zero, List.set_cons_succ]
    refine take_at (i := 11) 17 (v := undef) rfl rfl (by kernel_rfl) (by kernel_rfl) (by kernel_rfl) (fun _ _ _ h => h) (Or.inr ⟨by rfl, by rfl⟩) (by assumption) ?_
    try simp only [Act.put, List.setIfInBounds_toArray, List.set_cons_zero, List.set_cons_succ]
    refine take_at (i := 13) 19 (v := undef) rfl rfl (by kernel_rfl) (by kernel_rfl) (by kernel_rfl) (fun _ _ _ h => h) (Or.inr ⟨by rfl, by rfl⟩) (by assumption) ?_
    try simp only [Act.put, List.setIfInBounds_toArray, List.set_cons_zero, List.set_cons_succ]
    refine take_at (i := 12) 18 (v := undef) rfl rfl (by kernel_rfl) (by kernel_rfl) (by kernel_rfl) (fun _ _ _ h => h) (Or.inr ⟨by rfl, by rfl⟩) (by assumption) ?_
    try simp only [Act.put, List.setIfInBounds_toArray, List.set_cons_zero, List.set_cons_succ]
    refine take_at (i := 14) 20 (v := undef) rfl rfl (by kernel_rfl) (by kernel_rfl) (by kernel_rfl) (fun _ _ _ h => h) (Or.inr ⟨by rfl, by rfl⟩) (by assumption) ?_
    try simp only [Act.put, List.setIfInBounds_toArray, List.set_cons_zero, List.set_cons_succ]
    refine take_at (i := 15) 21 (v := .bool false) rfl rfl (by kernel_rfl) (by kernel_rfl) (by kernel_rfl) (fun _ _ _ h => h) (Or.inl ⟨by rfl, by intro w_ hSw; go_simp⟩) (by assumption) ?_
    try simp only [Act.put, List.setIfInBounds_toArray, List.set_cons_zero, List.set_cons_succ]
    refine take_at (i := 16) 5 (v := .bool false) rfl rfl (by kernel_rfl) (by kernel_rfl) (by kernel_rfl) (fun _ _ _ h => h) (Or.inl ⟨by rfl, by intro w_ hSw; go_simp⟩) (by assumption) ?_
    try simp only [Act.put, List.setIfInBounds_toArray, List.set_cons_zero, List.set_cons_succ]
    refine wpAnyH_done (by kernel_rfl) ?_ _
    replace HT := hide (HT.out.step hHeld)
    clear hHeld
    go_wp2_with fail
    go_ret
    exact ⟨by simp, HT.out.now.2.2⟩
  have hkb : (s.kd != 3) = true := by rw [bne_iff_ne]; exact hk
  rw [show decide (s.kd ≠ 3) = true by simp [hk]]
  clear hk
  cases sb
  · go_enter Try.func47, Try.ntmps47
    go_wp2_with fail
    first | rw [hW0] | skip
    refine wp_region_held_drew (S := fun w_ => Below W0.heap.size W0 w_) (by kernel_rfl) (below_drewN (Below.refl W0.heap.size W0) 1) (fun hHeld => ?_)
    refine take_at (i := 0) 6 (v := .pointer (some ⟨w.heap.size, 0, none⟩)) rfl rfl (by kernel_rfl) (by kernel_rfl) (by kernel_rfl) (fun _ _ _ h => h) (Or.inl ⟨by rfl, by intro w_ hSw; go_simp⟩) (by assumption) ?_
    try simp only [Act.put, List.setIfInBounds_toArray, List.set_cons_zero, List.set_cons_succ]
    refine take_at (i := 1) 7 (v := .int .i64 s.kd) rfl rfl (by kernel_rfl) (by kernel_rfl) (by kernel_rfl) (fun _ _ _ h => h) (Or.inl ⟨by rfl, by intro w_ hSw; have c0 : w_.cell? ⟨w.heap.size, 0, none⟩ = some (.int .i64 s.kd) := (HT.out _ hSw).1.cell 0; go_simp⟩) (by assumption) ?_
    try simp only [Act.put, List.setIfInBounds_toArray, List.set_cons_zero, List.set_cons_succ]
    refine take_at (i := 2) 8 (v := .bool true) rfl rfl (by kernel_rfl) (by kernel_rfl) (by kernel_rfl) (fun _ _ _ h => h) (Or.inl ⟨by rfl, by intro w_ hSw; go_simp⟩) (by assumption) ?_
    try simp only [Act.put, List.setIfInBounds_toArray, List.set_cons_zero, List.set_cons_succ]
    refine take_at (i := 3) 9 (v := .bool true) rfl rfl (by kernel_rfl) (by kernel_rfl) (by kernel_rfl) (fun _ _ _ h => h) (Or.inl ⟨by rfl, by intro w_ hSw; go_simp⟩) (by assumption) ?_
    try simp only [Act.put, List.setIfInBounds_toArray, List.set_cons_zero, List.set_cons_succ]
    refine take_at (i := 4) 10 (v := .agg #[.int .i64 s.kd, .int .i64 s.pa, .int .i64 s.pe, .int .i64 s.of_, .int .i64 s.sl, .int .i64 s.sy, .int .i64 s.sn, .int .i64 s.bk, .int .i64 s.bn, .int .i64 s.st, .int .i64 s.sh]) rfl rfl (by kernel_rfl) (by kernel_rfl) (by kernel_rfl) (fun _ _ _ h => h) (Or.inl ⟨by rfl, by intro w_ hSw; have c0 : w_.cell? ⟨w.heap.size, 0, none⟩ = some (.int .i64 s.kd) := (HT.out _ hSw).1.cell 0; have c1 : w_.cell? ⟨w.heap.size, 1, none⟩ = some (.int .i64 s.pa) := (HT.out _ hSw).1.cell 1; have c2 : w_.cell? ⟨w.heap.size, 2, none⟩ = some (.int .i64 s.pe) := (HT.out _ hSw).1.cell 2; have c3 : w_.cell? ⟨w.heap.size, 3, none⟩ = some (.int .i64 s.of_) := (HT.out _ hSw).1.cell 3; have c4 : w_.cell? ⟨w.heap.size, 4, none⟩ = some (.int .i64 s.sl) := (HT.out _ hSw).1.cell 4; have c5 : w_.cell? ⟨w.heap.size, 5, none⟩ = some (.int .i64 s.sy) := (HT.out _ hSw).1.cell 5; have c6 : w_.cell? ⟨w.heap.size, 6, none⟩ = some (.int .i64 s.sn) := (HT.out _ hSw).1.cell 6; have c7 : w_.cell? ⟨w.heap.size, 7, none⟩ = some (.int .i64 s.bk) := (HT.out _ hSw).1.cell 7; have c8 : w_.cell? ⟨w.heap.size, 8, none⟩ = some (.int .i64 s.bn) := (HT.out _ hSw).1.cell 8; have c9 : w_.cell? ⟨w.heap.size, 9, none⟩ = some (.int .i64 s.st) := (HT.out _ hSw).1.cell 9; have c10 : w_.cell? ⟨w.heap.size, 10, none⟩ = some (.int .i64 s.sh) := (HT.out _ hSw).1.cell 10; go_simp⟩) (by assumption) ?_
    try simp only [Act.put, List.setIfInBounds_toArray, List.set_cons_zero, List.set_cons_succ]
    refine take_at (i := 5) 11 (v := .pointer (some ⟨q1, 1, none⟩)) rfl rfl (by kernel_rfl) (by kernel_rfl) (by kernel_rfl) (fun _ _ _ h => h) (Or.inl ⟨by rfl, by intro w_ hSw; go_simp⟩) (by assumption) ?_
    try simp only [Act.put, List.setIfInBounds_toArray, List.set_cons_zero, List.set_cons_succ]
    refine take_at (i := 6) 12 (v := .int .i64 a.sf) rfl rfl (by kernel_rfl) (by kernel_rfl) (by kernel_rfl) (fun _ _ _ h => h) (Or.inl ⟨by rfl, by intro w_ hSw; have c1 : w_.cell? ⟨q1, 1, none⟩ = some (.int .i64 a.sf) := (HT.out _ hSw).2.1.al.cell 1; go_simp⟩) (by assumption) ?_
    try simp only [Act.put, List.setIfInBounds_toArray, List.set_cons_zero, List.set_cons_succ]
    refine wpAnyH_ready (rs := [7]) (by kernel_rfl) (by simp) ?_
    refine AllReadyH.cons rfl (fun K hK => ?_) AllReadyH.nil
    go_simp
    go_at_call 36
    refine (HST.out _).mono ?_
    rintro e v1 ⟨rfl, hb⟩
    replace hHeld := Below.step hHeld hb
    clear hb
    simp only []
    refine hK.out _ _ hHeld (fun hHeld => ?_)
    clear hK K
    try simp only [Act.put, List.setIfInBounds_toArray, List.set_cons_zero, List.set_cons_succ]
    refine take_at (i := 8) 14 (v := .bool false) rfl rfl (by kernel_rfl) (by kernel_rfl) (by kernel_rfl) (fun _ _ _ h => h) (Or.inl ⟨by rfl, by intro w_ hSw; go_simp⟩) (by assumption) ?_
    try simp only [Act.put, List.setIfInBounds_toArray, List.set_cons_zero, List.set_cons_succ]
    refine take_at (i := 9) 15 (v := .bool false) rfl rfl (by kernel_rfl) (by kernel_rfl) (by kernel_rfl) (fun _ _ _ h => h) (Or.inl ⟨by rfl, by intro w_ hSw; go_simp⟩) (by assumption) ?_
    try simp only [Act.put, List.setIfInBounds_toArray, List.set_cons_zero, List.set_cons_succ]
    refine take_at (i := 10) 16 (v := undef) rfl rfl (by kernel_rfl) (by kernel_rfl) (by kernel_rfl) (fun _ _ _ h => h) (Or.inr ⟨by rfl, by rfl⟩) (by assumption) ?_
    try simp only [Act.put, List.setIfInBounds_toArray, List.set_cons_zero, List.set_cons_succ]
    refine take_at (i := 11) 17 (v := undef) rfl rfl (by kernel_rfl) (by kernel_rfl) (by kernel_rfl) (fun _ _ _ h => h) (Or.inr ⟨by rfl, by rfl⟩) (by assumption) ?_
    try simp only [Act.put, List.setIfInBounds_toArray, List.set_cons_zero, List.set_cons_succ]
    refine take_at (i := 13) 19 (v := undef) rfl rfl (by kernel_rfl) (by kernel_rfl) (by kernel_rfl) (fun _ _ _ h => h) (Or.inr ⟨by rfl, by rfl⟩) (by assumption) ?_
    try simp only [Act.put, List.setIfInBounds_toArray, List.set_cons_zero, List.set_cons_succ]
    refine take_at (i := 12) 18 (v := undef) rfl rfl (by kernel_rfl) (by kernel_rfl) (by kernel_rfl) (fun _ _ _ h => h) (Or.inr ⟨by rfl, by rfl⟩) (by assumption) ?_
    try simp only [Act.put, List.setIfInBounds_toArray, List.set_cons_zero, List.set_cons_succ]
    refine take_at (i := 14) 20 (v := undef) rfl rfl (by kernel_rfl) (by kernel_rfl) (by kernel_rfl) (fun _ _ _ h => h) (Or.inr ⟨by rfl, by rfl⟩) (by assumption) ?_
    try simp only [Act.put, List.setIfInBounds_toArray, List.set_cons_zero, List.set_cons_succ]
    refine take_at (i := 15) 21 (v := .bool false) rfl rfl (by kernel_rfl) (by kernel_rfl) (by kernel_rfl) (fun _ _ _ h => h) (Or.inl ⟨by rfl, by intro w_ hSw; go_simp⟩) (by assumption) ?_
    try simp only [Act.put, List.setIfInBounds_toArray, List.set_cons_zero, List.set_cons_succ]
    refine take_at (i := 16) 5 (v := .bool false) rfl rfl (by kernel_rfl) (by kernel_rfl) (by kernel_rfl) (fun _ _ _ h => h) (Or.inl ⟨by rfl, by intro w_ hSw; go_simp⟩) (by assumption) ?_
    try simp only [Act.put, List.setIfInBounds_toArray, List.set_cons_zero, List.set_cons_succ]
    refine wpAnyH_done (by kernel_rfl) ?_ _
    replace HT := hide (HT.out.step hHeld)
    clear hHeld
    go_wp2_with fail
    go_ret
    exact ⟨by simp, HT.out.now.2.2⟩
  go_enter Try.func47, Try.ntmps47
  go_wp2_with fail
  first | rw [hW0] | skip
  refine wp_region_held_drew (S := fun w_ => Below W0.heap.size W0 w_) (by kernel_rfl) (below_drewN (Below.refl W0.heap.size W0) 1) (fun hHeld => ?_)
  refine take_at (i := 0) 6 (v := .pointer (some ⟨w.heap.size, 0, none⟩)) rfl rfl (by kernel_rfl) (by kernel_rfl) (by kernel_rfl) (fun _ _ _ h => h) (Or.inl ⟨by rfl, by intro w_ hSw; go_simp⟩) (by assumption) ?_
  try simp only [Act.put, List.setIfInBounds_toArray, List.set_cons_zero, List.set_cons_succ]
  refine take_at (i := 1) 7 (v := .int .i64 s.kd) rfl rfl (by kernel_rfl) (by kernel_rfl) (by kernel_rfl) (fun _ _ _ h => h) (Or.inl ⟨by rfl, by intro w_ hSw; have c0 : w_.cell? ⟨w.heap.size, 0, none⟩ = some (.int .i64 s.kd) := (HT.out _ hSw).1.cell 0; go_simp⟩) (by assumption) ?_
  try simp only [Act.put, List.setIfInBounds_toArray, List.set_cons_zero, List.set_cons_succ]
  refine take_at (i := 2) 8 (v := .bool true) rfl rfl (by kernel_rfl) (by kernel_rfl) (by kernel_rfl) (fun _ _ _ h => h) (Or.inl ⟨by rfl, by intro w_ hSw; go_simp⟩) (by assumption) ?_
  try simp only [Act.put, List.setIfInBounds_toArray, List.set_cons_zero, List.set_cons_succ]
  refine take_at (i := 3) 9 (v := .bool true) rfl rfl (by kernel_rfl) (by kernel_rfl) (by kernel_rfl) (fun _ _ _ h => h) (Or.inl ⟨by rfl, by intro w_ hSw; go_simp⟩) (by assumption) ?_
  try simp only [Act.put, List.setIfInBounds_toArray, List.set_cons_zero, List.set_cons_succ]
  refine take_at (i := 4) 10 (v := .agg #[.int .i64 s.kd, .int .i64 s.pa, .int .i64 s.pe, .int .i64 s.of_, .int .i64 s.sl, .int .i64 s.sy, .int .i64 s.sn, .int .i64 s.bk, .int .i64 s.bn, .int .i64 s.st, .int .i64 s.sh]) rfl rfl (by kernel_rfl) (by kernel_rfl) (by kernel_rfl) (fun _ _ _ h => h) (Or.inl ⟨by rfl, by intro w_ hSw; have c0 : w_.cell? ⟨w.heap.size, 0, none⟩ = some (.int .i64 s.kd) := (HT.out _ hSw).1.cell 0; have c1 : w_.cell? ⟨w.heap.size, 1, none⟩ = some (.int .i64 s.pa) := (HT.out _ hSw).1.cell 1; have c2 : w_.cell? ⟨w.heap.size, 2, none⟩ = some (.int .i64 s.pe) := (HT.out _ hSw).1.cell 2; have c3 : w_.cell? ⟨w.heap.size, 3, none⟩ = some (.int .i64 s.of_) := (HT.out _ hSw).1.cell 3; have c4 : w_.cell? ⟨w.heap.size, 4, none⟩ = some (.int .i64 s.sl) := (HT.out _ hSw).1.cell 4; have c5 : w_.cell? ⟨w.heap.size, 5, none⟩ = some (.int .i64 s.sy) := (HT.out _ hSw).1.cell 5; have c6 : w_.cell? ⟨w.heap.size, 6, none⟩ = some (.int .i64 s.sn) := (HT.out _ hSw).1.cell 6; have c7 : w_.cell? ⟨w.heap.size, 7, none⟩ = some (.int .i64 s.bk) := (HT.out _ hSw).1.cell 7; have c8 : w_.cell? ⟨w.heap.size, 8, none⟩ = some (.int .i64 s.bn) := (HT.out _ hSw).1.cell 8; have c9 : w_.cell? ⟨w.heap.size, 9, none⟩ = some (.int .i64 s.st) := (HT.out _ hSw).1.cell 9; have c10 : w_.cell? ⟨w.heap.size, 10, none⟩ = some (.int .i64 s.sh) := (HT.out _ hSw).1.cell 10; go_simp⟩) (by assumption) ?_
  try simp only [Act.put, List.setIfInBounds_toArray, List.set_cons_zero, List.set_cons_succ]
  refine take_at (i := 5) 11 (v := .pointer (some ⟨q1, 1, none⟩)) rfl rfl (by kernel_rfl) (by kernel_rfl) (by kernel_rfl) (fun _ _ _ h => h) (Or.inl ⟨by rfl, by intro w_ hSw; go_simp⟩) (by assumption) ?_
  try simp only [Act.put, List.setIfInBounds_toArray, List.set_cons_zero, List.set_cons_succ]
  refine take_at (i := 6) 12 (v := .int .i64 a.sf) rfl rfl (by kernel_rfl) (by kernel_rfl) (by kernel_rfl) (fun _ _ _ h => h) (Or.inl ⟨by rfl, by intro w_ hSw; have c1 : w_.cell? ⟨q1, 1, none⟩ = some (.int .i64 a.sf) := (HT.out _ hSw).2.1.al.cell 1; go_simp⟩) (by assumption) ?_
  try simp only [Act.put, List.setIfInBounds_toArray, List.set_cons_zero, List.set_cons_succ]
  refine wpAnyH_ready (rs := [7]) (by kernel_rfl) (by simp) ?_
  refine AllReadyH.cons rfl (fun K hK => ?_) AllReadyH.nil
  go_simp
  go_at_call 36
  refine (HST.out _).mono ?_
  rintro e v1 ⟨rfl, hb⟩
  replace hHeld := Below.step hHeld hb
  clear hb
  simp only []
  refine hK.out _ _ hHeld (fun hHeld => ?_)
  clear hK K
  try simp only [Act.put, List.setIfInBounds_toArray, List.set_cons_zero, List.set_cons_succ]
  refine take_at (i := 8) 14 (v := .bool true) rfl rfl (by kernel_rfl) (by kernel_rfl) (by kernel_rfl) (fun _ _ _ h => h) (Or.inl ⟨by rfl, by intro w_ hSw; go_simp⟩) (by assumption) ?_
  try simp only [Act.put, List.setIfInBounds_toArray, List.set_cons_zero, List.set_cons_succ]
  refine take_at (i := 9) 15 (v := .bool true) rfl rfl (by kernel_rfl) (by kernel_rfl) (by kernel_rfl) (fun _ _ _ h => h) (Or.inl ⟨by rfl, by intro w_ hSw; go_simp⟩) (by assumption) ?_
  try simp only [Act.put, List.setIfInBounds_toArray, List.set_cons_zero, List.set_cons_succ]
  refine take_at (i := 10) 16 (v := .agg #[nmv, .int .i64 ce, .int .i64 wi, .slice PA P.length pc, .slice SA S.length sc]) rfl rfl (by kernel_rfl) (by kernel_rfl) (by kernel_rfl) (fun _ _ _ h => h) (Or.inl ⟨by rfl, by intro w_ hSw; have c0 : w_.cell? ⟨q2, 0, none⟩ = some (nmv) := (HT.out _ hSw).2.1.cr.cell 0; have c1 : w_.cell? ⟨q2, 1, none⟩ = some (.int .i64 ce) := (HT.out _ hSw).2.1.cr.cell 1; have c2 : w_.cell? ⟨q2, 2, none⟩ = some (.int .i64 wi) := (HT.out _ hSw).2.1.cr.cell 2; have c3 : w_.cell? ⟨q2, 3, none⟩ = some (.slice PA P.length pc) := (HT.out _ hSw).2.1.cr.cell 3; have c4 : w_.cell? ⟨q2, 4, none⟩ = some (.slice SA S.length sc) := (HT.out _ hSw).2.1.cr.cell 4; go_simp⟩) (by assumption) ?_
  try simp only [Act.put, List.setIfInBounds_toArray, List.set_cons_zero, List.set_cons_succ]
  refine take_at (i := 11) 17 (v := .agg #[.int .i64 s.kd, .int .i64 s.pa, .int .i64 s.pe, .int .i64 s.of_, .int .i64 s.sl, .int .i64 s.sy, .int .i64 s.sn, .int .i64 s.bk, .int .i64 s.bn, .int .i64 s.st, .int .i64 s.sh]) rfl rfl (by kernel_rfl) (by kernel_rfl) (by kernel_rfl) (fun _ _ _ h => h) (Or.inl ⟨by rfl, by intro w_ hSw; have c0 : w_.cell? ⟨w.heap.size, 0, none⟩ = some (.int .i64 s.kd) := (HT.out _ hSw).1.cell 0; have c1 : w_.cell? ⟨w.heap.size, 1, none⟩ = some (.int .i64 s.pa) := (HT.out _ hSw).1.cell 1; have c2 : w_.cell? ⟨w.heap.size, 2, none⟩ = some (.int .i64 s.pe) := (HT.out _ hSw).1.cell 2; have c3 : w_.cell? ⟨w.heap.size, 3, none⟩ = some (.int .i64 s.of_) := (HT.out _ hSw).1.cell 3; have c4 : w_.cell? ⟨w.heap.size, 4, none⟩ = some (.int .i64 s.sl) := (HT.out _ hSw).1.cell 4; have c5 : w_.cell? ⟨w.heap.size, 5, none⟩ = some (.int .i64 s.sy) := (HT.out _ hSw).1.cell 5; have c6 : w_.cell? ⟨w.heap.size, 6, none⟩ = some (.int .i64 s.sn) := (HT.out _ hSw).1.cell 6; have c7 : w_.cell? ⟨w.heap.size, 7, none⟩ = some (.int .i64 s.bk) := (HT.out _ hSw).1.cell 7; have c8 : w_.cell? ⟨w.heap.size, 8, none⟩ = some (.int .i64 s.bn) := (HT.out _ hSw).1.cell 8; have c9 : w_.cell? ⟨w.heap.size, 9, none⟩ = some (.int .i64 s.st) := (HT.out _ hSw).1.cell 9; have c10 : w_.cell? ⟨w.heap.size, 10, none⟩ = some (.int .i64 s.sh) := (HT.out _ hSw).1.cell 10; go_simp⟩) (by assumption) ?_
  try simp only [Act.put, List.setIfInBounds_toArray, List.set_cons_zero, List.set_cons_succ]
  refine take_at (i := 13) 19 (v := .pointer (some ⟨g, 0, none⟩)) rfl rfl (by kernel_rfl) (by kernel_rfl) (by kernel_rfl) (fun _ _ _ h => h) (Or.inl ⟨by rfl, by intro w_ hSw; have c0 := (HT.out _ hSw).2.1.bx; go_simp⟩) (by assumption) ?_
  try simp only [Act.put, List.setIfInBounds_toArray, List.set_cons_zero, List.set_cons_succ]
  refine wpAnyH_ready (rs := [12]) (by kernel_rfl) (by simp) ?_
  refine AllReadyH.cons rfl (fun K hK => ?_) AllReadyH.nil
  go_simp
  go_at_call 48
  refine (HSG.out _ (HT.out _ hHeld).2.1.ps).mono ?_
  rintro e v2 ⟨g2, rfl, hcv2, -, hb⟩
  have HC2 := hide (stay_cov hcv2)
  clear hcv2
  replace hHeld := Below.step hHeld hb
  clear hb
  simp only []
  refine hK.out _ _ hHeld (fun hHeld => ?_)
  clear hK K
  try simp only [Act.put, List.setIfInBounds_toArray, List.set_cons_zero, List.set_cons_succ]
  refine wpAnyH_ready (rs := [14]) (by kernel_rfl) (by simp) ?_
  refine AllReadyH.cons rfl (fun K hK => ?_) AllReadyH.nil
  go_simp
  go_at_call 49
  refine (meets_grid g2 g _ _ _ _ _ HC2.out.now (HT.out _ hHeld).2.1.cv).mono ?_
  rintro e w' ⟨rfl, rfl⟩
  rw [hmt.out]
  simp only []
  refine hK.out _ _ hHeld (fun hHeld => ?_)
  clear hK K
  try simp only [Act.put, List.setIfInBounds_toArray, List.set_cons_zero, List.set_cons_succ]
  refine take_at (i := 15) 21 (v := .bool mt) rfl rfl (by kernel_rfl) (by kernel_rfl) (by kernel_rfl) (fun _ _ _ h => h) (Or.inl ⟨by rfl, by intro w_ hSw; go_simp⟩) (by assumption) ?_
  try simp only [Act.put, List.setIfInBounds_toArray, List.set_cons_zero, List.set_cons_succ]
  refine take_at (i := 16) 5 (v := .bool mt) rfl rfl (by kernel_rfl) (by kernel_rfl) (by kernel_rfl) (fun _ _ _ h => h) (Or.inl ⟨by rfl, by intro w_ hSw; go_simp⟩) (by assumption) ?_
  try simp only [Act.put, List.setIfInBounds_toArray, List.set_cons_zero, List.set_cons_succ]
  refine wpAnyH_done (by kernel_rfl) ?_ _
  replace HT := hide (HT.out.step hHeld)
  clear hHeld
  go_wp2_with fail
  go_ret
  exact ⟨by simp, HT.out.now.2.2⟩
set_option maxRecDepth 100000 in
set_option maxHeartbeats 8000000 in
theorem busy1 (nmv : Value) (ce wi : Int) (PA SA : Option Addr) (pc sc : Nat) (P : List Prt) (S : List Sig) (a : Alo) (g q1 q2 q3 : Nat) (y : Alo) (w : World) (hc : OkCr ce wi P S) (_ : OkAl P a) (hs : OkAl P y) (hE : Env nmv ce wi PA SA pc sc P S a g q1 q2 q3 w) :
    Calls Try.prog 51 #[.agg #[.int .i64 y.pa, .int .i64 y.sf, .int .i64 y.sl, .int .i64 y.sy, .int .i64 y.sn, .int .i64 y.bk, .int .i64 y.bn], .pointer (some ⟨q1, 0, none⟩), .pointer (some ⟨q2, 0, none⟩), .pointer (some ⟨q3, 0, none⟩)] w fun e w' => e = .returned (.bool (busyB1 P y a)) ∧ Below w.heap.size w w' := by
  have HSG := hide (fun W k => allocation_all nmv ce wi PA SA pc sc P S y W hc hs k)
  have HT : Hid (Stay (w.alloc (.cells #[.int .i64 y.pa, .int .i64 y.sf, .int .i64 y.sl, .int .i64 y.sy, .int .i64 y.sn, .int .i64 y.bk, .int .i64 y.bn] 34)) (fun W => Blk W w.heap.size 34 #[.int .i64 y.pa, .int .i64 y.sf, .int .i64 y.sl, .int .i64 y.sy, .int .i64 y.sn, .int .i64 y.bk, .int .i64 y.bn] ∧ (Env nmv ce wi PA SA pc sc P S a g q1 q2 q3 W ∧ Below w.heap.size w W))) := hide ((stay_blk (Blk.new w 34 #[.int .i64 y.pa, .int .i64 y.sf, .int .i64 y.sl, .int .i64 y.sy, .int .i64 y.sn, .int .i64 y.bk, .int .i64 y.bn])).and (((stay_env hE).alloc (.cells #[.int .i64 y.pa, .int .i64 y.sf, .int .i64 y.sl, .int .i64 y.sy, .int .i64 y.sn, .int .i64 y.bk, .int .i64 y.bn] 34)).and (stay_below ((Below.refl _ w).alloc (Nat.le_refl _) (.cells #[.int .i64 y.pa, .int .i64 y.sf, .int .i64 y.sl, .int .i64 y.sy, .int .i64 y.sn, .int .i64 y.bk, .int .i64 y.bn] 34)))))
  have hcl : busyB1 P y a = (decide (y.sf = a.sf) && meetB (aloCT P y) (aloCU P y) (aloCT P a) (aloCU P a)) := rfl
  obtain ⟨mt, hmt⟩ : ∃ x, meetB (aloCT P y) (aloCU P y) (aloCT P a) (aloCU P a) = x := ⟨_, rfl⟩
  rw [hmt] at hcl
  rw [hcl]
  replace hmt := hide hmt
  obtain ⟨W0, hW0⟩ : ∃ W0, w.alloc (.cells #[.int .i64 y.pa, .int .i64 y.sf, .int .i64 y.sl, .int .i64 y.sy, .int .i64 y.sn, .int .i64 y.bk, .int .i64 y.bn] 34) = W0 := ⟨_, rfl⟩
  rw [hW0] at HT
  clear hcl hc hs hE
  by_cases hk : y.sf = a.sf
  rotate_left
  · have hkb : (y.sf == a.sf) = false := by rw [beq_eq_false_iff_ne]; exact hk
    rw [show decide (y.sf = a.sf) = false by simp [hk]]
    clear hk
    go_enter Try.func51, Try.ntmps51
    go_wp2_with fail
    first | rw [hW0] | skip
    refine wp_region_held_drew (S := fun w_ => Below W0.heap.size W0 w_) (by kernel_rfl) (below_drewN (Below.refl W0.heap.size W0) 1) (fun hHeld => ?_)
    refine take_at (i := 0) 6 (v := .pointer (some ⟨w.heap.size, 1, none⟩)) rfl rfl (by kernel_rfl) (by kernel_rfl) (by kernel_rfl) (fun _ _ _ h => h) (Or.inl ⟨by rfl, by intro w_ hSw; go_simp⟩) (by assumption) ?_
    try simp only [Act.put, List.setIfInBounds_toArray, List.set_cons_zero, List.set_cons_succ]
    refine take_at (i := 1) 7 (v := .int .i64 y.sf) rfl rfl (by kernel_rfl) (by kernel_rfl) (by kernel_rfl) (fun _ _ _ h => h) (Or.inl ⟨by rfl, by intro w_ hSw; have c1 : w_.cell? ⟨w.heap.size, 1, none⟩ = some (.int .i64 y.sf) := (HT.out _ hSw).1.cell 1; go_simp⟩) (by assumption) ?_
    try simp only [Act.put, List.setIfInBounds_toArray, List.set_cons_zero, List.set_cons_succ]
    refine take_at (i := 2) 8 (v := .pointer (some ⟨q1, 1, none⟩)) rfl rfl (by kernel_rfl) (by kernel_rfl) (by kernel_rfl) (fun _ _ _ h => h) (Or.inl ⟨by rfl, by intro w_ hSw; go_simp⟩) (by assumption) ?_
    try simp only [Act.put, List.setIfInBounds_toArray, List.set_cons_zero, List.set_cons_succ]
    refine take_at (i := 3) 9 (v := .int .i64 a.sf) rfl rfl (by kernel_rfl) (by kernel_rfl) (by kernel_rfl) (fun _ _ _ h => h) (Or.inl ⟨by rfl, by intro w_ hSw; have c1 : w_.cell? ⟨q1, 1, none⟩ = some (.int .i64 a.sf) := (HT.out _ hSw).2.1.al.cell 1; go_simp⟩) (by assumption) ?_
    try simp only [Act.put, List.setIfInBounds_toArray, List.set_cons_zero, List.set_cons_succ]
    refine take_at (i := 4) 10 (v := .bool false) rfl rfl (by kernel_rfl) (by kernel_rfl) (by kernel_rfl) (fun _ _ _ h => h) (Or.inl ⟨by rfl, by intro w_ hSw; go_simp⟩) (by assumption) ?_
    try simp only [Act.put, List.setIfInBounds_toArray, List.set_cons_zero, List.set_cons_succ]
    refine take_at (i := 5) 11 (v := .bool false) rfl rfl (by kernel_rfl) (by kernel_rfl) (by kernel_rfl) (fun _ _ _ h => h) (Or.inl ⟨by rfl, by intro w_ hSw; go_simp⟩) (by assumption) ?_
    try simp only [Act.put, List.setIfInBounds_toArray, List.set_cons_zero, List.set_cons_succ]
    refine take_at (i := 6) 12 (v := undef) rfl rfl (by kernel_rfl) (by kernel_rfl) (by kernel_rfl) (fun _ _ _ h => h) (Or.inr ⟨by rfl, by rfl⟩) (by assumption) ?_
    try simp only [Act.put, List.setIfInBounds_toArray, List.set_cons_zero, List.set_cons_succ]
    refine take_at (i := 7) 13 (v := undef) rfl rfl (by kernel_rfl) (by kernel_rfl) (by kernel_rfl) (fun _ _ _ h => h) (Or.inr ⟨by rfl, by rfl⟩) (by assumption) ?_
    try simp only [Act.put, List.setIfInBounds_toArray, List.set_cons_zero, List.set_cons_succ]
    refine take_at (i := 9) 15 (v := undef) rfl rfl (by kernel_rfl) (by kernel_rfl) (by kernel_rfl) (fun _ _ _ h => h) (Or.inr ⟨by rfl, by rfl⟩) (by assumption) ?_
    try simp only [Act.put, List.setIfInBounds_toArray, List.set_cons_zero, List.set_cons_succ]
    refine take_at (i := 8) 14 (v := undef) rfl rfl (by kernel_rfl) (by kernel_rfl) (by kernel_rfl) (fun _ _ _ h => h) (Or.inr ⟨by rfl, by rfl⟩) (by assumption) ?_
    try simp only [Act.put, List.setIfInBounds_toArray, List.set_cons_zero, List.set_cons_succ]
    refine take_at (i := 10) 16 (v := undef) rfl rfl (by kernel_rfl) (by kernel_rfl) (by kernel_rfl) (fun _ _ _ h => h) (Or.inr ⟨by rfl, by rfl⟩) (by assumption) ?_
    try simp only [Act.put, List.setIfInBounds_toArray, List.set_cons_zero, List.set_cons_succ]
    refine take_at (i := 11) 17 (v := .bool false) rfl rfl (by kernel_rfl) (by kernel_rfl) (by kernel_rfl) (fun _ _ _ h => h) (Or.inl ⟨by rfl, by intro w_ hSw; go_simp⟩) (by assumption) ?_
    try simp only [Act.put, List.setIfInBounds_toArray, List.set_cons_zero, List.set_cons_succ]
    refine take_at (i := 12) 5 (v := .bool false) rfl rfl (by kernel_rfl) (by kernel_rfl) (by kernel_rfl) (fun _ _ _ h => h) (Or.inl ⟨by rfl, by intro w_ hSw; go_simp⟩) (by assumption) ?_
    try simp only [Act.put, List.setIfInBounds_toArray, List.set_cons_zero, List.set_cons_succ]
    refine wpAnyH_done (by kernel_rfl) ?_ _
    replace HT := hide (HT.out.step hHeld)
    clear hHeld
    go_wp2_with fail
    go_ret
    exact ⟨by simp, HT.out.now.2.2⟩
  have hkb : (y.sf == a.sf) = true := by simp [hk]
  rw [show decide (y.sf = a.sf) = true by simp [hk]]
  replace hk := hide hk
  go_enter Try.func51, Try.ntmps51
  go_wp2_with fail
  first | rw [hW0] | skip
  refine wp_region_held_drew (S := fun w_ => Below W0.heap.size W0 w_) (by kernel_rfl) (below_drewN (Below.refl W0.heap.size W0) 1) (fun hHeld => ?_)
  refine take_at (i := 0) 6 (v := .pointer (some ⟨w.heap.size, 1, none⟩)) rfl rfl (by kernel_rfl) (by kernel_rfl) (by kernel_rfl) (fun _ _ _ h => h) (Or.inl ⟨by rfl, by intro w_ hSw; go_simp⟩) (by assumption) ?_
  try simp only [Act.put, List.setIfInBounds_toArray, List.set_cons_zero, List.set_cons_succ]
  refine take_at (i := 1) 7 (v := .int .i64 y.sf) rfl rfl (by kernel_rfl) (by kernel_rfl) (by kernel_rfl) (fun _ _ _ h => h) (Or.inl ⟨by rfl, by intro w_ hSw; have c1 : w_.cell? ⟨w.heap.size, 1, none⟩ = some (.int .i64 y.sf) := (HT.out _ hSw).1.cell 1; go_simp⟩) (by assumption) ?_
  try simp only [Act.put, List.setIfInBounds_toArray, List.set_cons_zero, List.set_cons_succ]
  refine take_at (i := 2) 8 (v := .pointer (some ⟨q1, 1, none⟩)) rfl rfl (by kernel_rfl) (by kernel_rfl) (by kernel_rfl) (fun _ _ _ h => h) (Or.inl ⟨by rfl, by intro w_ hSw; go_simp⟩) (by assumption) ?_
  try simp only [Act.put, List.setIfInBounds_toArray, List.set_cons_zero, List.set_cons_succ]
  refine take_at (i := 3) 9 (v := .int .i64 a.sf) rfl rfl (by kernel_rfl) (by kernel_rfl) (by kernel_rfl) (fun _ _ _ h => h) (Or.inl ⟨by rfl, by intro w_ hSw; have c1 : w_.cell? ⟨q1, 1, none⟩ = some (.int .i64 a.sf) := (HT.out _ hSw).2.1.al.cell 1; go_simp⟩) (by assumption) ?_
  try simp only [Act.put, List.setIfInBounds_toArray, List.set_cons_zero, List.set_cons_succ]
  refine take_at (i := 4) 10 (v := .bool true) rfl rfl (by kernel_rfl) (by kernel_rfl) (by kernel_rfl) (fun _ _ _ h => h) (Or.inl ⟨by rfl, by intro w_ hSw; go_simp⟩) (by assumption) ?_
  try simp only [Act.put, List.setIfInBounds_toArray, List.set_cons_zero, List.set_cons_succ]
  refine take_at (i := 5) 11 (v := .bool true) rfl rfl (by kernel_rfl) (by kernel_rfl) (by kernel_rfl) (fun _ _ _ h => h) (Or.inl ⟨by rfl, by intro w_ hSw; go_simp⟩) (by assumption) ?_
  try simp only [Act.put, List.setIfInBounds_toArray, List.set_cons_zero, List.set_cons_succ]
  refine take_at (i := 6) 12 (v := .agg #[nmv, .int .i64 ce, .int .i64 wi, .slice PA P.length pc, .slice SA S.length sc]) rfl rfl (by kernel_rfl) (by kernel_rfl) (by kernel_rfl) (fun _ _ _ h => h) (Or.inl ⟨by rfl, by intro w_ hSw; have c0 : w_.cell? ⟨q2, 0, none⟩ = some (nmv) := (HT.out _ hSw).2.1.cr.cell 0; have c1 : w_.cell? ⟨q2, 1, none⟩ = some (.int .i64 ce) := (HT.out _ hSw).2.1.cr.cell 1; have c2 : w_.cell? ⟨q2, 2, none⟩ = some (.int .i64 wi) := (HT.out _ hSw).2.1.cr.cell 2; have c3 : w_.cell? ⟨q2, 3, none⟩ = some (.slice PA P.length pc) := (HT.out _ hSw).2.1.cr.cell 3; have c4 : w_.cell? ⟨q2, 4, none⟩ = some (.slice SA S.length sc) := (HT.out _ hSw).2.1.cr.cell 4; go_simp⟩) (by assumption) ?_
  try simp only [Act.put, List.setIfInBounds_toArray, List.set_cons_zero, List.set_cons_succ]
  refine take_at (i := 7) 13 (v := .agg #[.int .i64 y.pa, .int .i64 y.sf, .int .i64 y.sl, .int .i64 y.sy, .int .i64 y.sn, .int .i64 y.bk, .int .i64 y.bn]) rfl rfl (by kernel_rfl) (by kernel_rfl) (by kernel_rfl) (fun _ _ _ h => h) (Or.inl ⟨by rfl, by intro w_ hSw; have c0 : w_.cell? ⟨w.heap.size, 0, none⟩ = some (.int .i64 y.pa) := (HT.out _ hSw).1.cell 0; have c1 : w_.cell? ⟨w.heap.size, 1, none⟩ = some (.int .i64 y.sf) := (HT.out _ hSw).1.cell 1; have c2 : w_.cell? ⟨w.heap.size, 2, none⟩ = some (.int .i64 y.sl) := (HT.out _ hSw).1.cell 2; have c3 : w_.cell? ⟨w.heap.size, 3, none⟩ = some (.int .i64 y.sy) := (HT.out _ hSw).1.cell 3; have c4 : w_.cell? ⟨w.heap.size, 4, none⟩ = some (.int .i64 y.sn) := (HT.out _ hSw).1.cell 4; have c5 : w_.cell? ⟨w.heap.size, 5, none⟩ = some (.int .i64 y.bk) := (HT.out _ hSw).1.cell 5; have c6 : w_.cell? ⟨w.heap.size, 6, none⟩ = some (.int .i64 y.bn) := (HT.out _ hSw).1.cell 6; go_simp⟩) (by assumption) ?_
  try simp only [Act.put, List.setIfInBounds_toArray, List.set_cons_zero, List.set_cons_succ]
  refine take_at (i := 9) 15 (v := .pointer (some ⟨g, 0, none⟩)) rfl rfl (by kernel_rfl) (by kernel_rfl) (by kernel_rfl) (fun _ _ _ h => h) (Or.inl ⟨by rfl, by intro w_ hSw; have c0 := (HT.out _ hSw).2.1.bx; go_simp⟩) (by assumption) ?_
  try simp only [Act.put, List.setIfInBounds_toArray, List.set_cons_zero, List.set_cons_succ]
  refine wpAnyH_ready (rs := [8]) (by kernel_rfl) (by simp) ?_
  refine AllReadyH.cons rfl (fun K hK => ?_) AllReadyH.nil
  go_simp
  go_at_call 45
  refine (HSG.out _ (HT.out _ hHeld).2.1.ps).mono ?_
  rintro e v2 ⟨g2, rfl, hcv2, -, hb⟩
  have HC2 := hide (stay_cov hcv2)
  clear hcv2
  replace hHeld := Below.step hHeld hb
  clear hb
  simp only []
  refine hK.out _ _ hHeld (fun hHeld => ?_)
  clear hK K
  try simp only [Act.put, List.setIfInBounds_toArray, List.set_cons_zero, List.set_cons_succ]
  refine wpAnyH_ready (rs := [10]) (by kernel_rfl) (by simp) ?_
  refine AllReadyH.cons rfl (fun K hK => ?_) AllReadyH.nil
  go_simp
  go_at_call 49
  refine (meets_grid g2 g _ _ _ _ _ HC2.out.now (HT.out _ hHeld).2.1.cv).mono ?_
  rintro e w' ⟨rfl, rfl⟩
  rw [hmt.out]
  simp only []
  refine hK.out _ _ hHeld (fun hHeld => ?_)
  clear hK K
  try simp only [Act.put, List.setIfInBounds_toArray, List.set_cons_zero, List.set_cons_succ]
  refine take_at (i := 11) 17 (v := .bool mt) rfl rfl (by kernel_rfl) (by kernel_rfl) (by kernel_rfl) (fun _ _ _ h => h) (Or.inl ⟨by rfl, by intro w_ hSw; go_simp⟩) (by assumption) ?_
  try simp only [Act.put, List.setIfInBounds_toArray, List.set_cons_zero, List.set_cons_succ]
  refine take_at (i := 12) 5 (v := .bool mt) rfl rfl (by kernel_rfl) (by kernel_rfl) (by kernel_rfl) (fun _ _ _ h => h) (Or.inl ⟨by rfl, by intro w_ hSw; go_simp⟩) (by assumption) ?_
  try simp only [Act.put, List.setIfInBounds_toArray, List.set_cons_zero, List.set_cons_succ]
  refine wpAnyH_done (by kernel_rfl) ?_ _
  replace HT := hide (HT.out.step hHeld)
  clear hHeld
  go_wp2_with fail
  go_ret
  exact ⟨by simp, HT.out.now.2.2⟩
def IdxR (b : Bool) (w : World) (e : Ending) (w' : World) : Prop := ∃ i : Int, e = .returned (.int .i64 i) ∧ decide (0 ≤ i) = b ∧ Below w.heap.size w w'
set_option maxRecDepth 100000 in
set_option maxHeartbeats 4000000 in
theorem idx_fits (nmv : Value) (ce wi : Int) (PA SA : Option Addr) (pc sc : Nat) (P : List Prt) (S : List Sig) (a : Alo) (g q1 q2 q3 : Nat) (L : List Sig) (D : Option Addr) (d : Nat) (w : World) (hc : OkCr ce wi P S) (ha : OkAl P a) (hL : ∀ x ∈ L, OkSg P x) (hl : L.length ≤ 1000) (hD : Sigs w D L) (hE : Env nmv ce wi PA SA pc sc P S a g q1 q2 q3 w) :
    Calls Try.prog 34 #[.slice D L.length d, .func (.func 47) #[] #[.pointer (some ⟨q1, 0, none⟩), .pointer (some ⟨q2, 0, none⟩), .pointer (some ⟨q3, 0, none⟩)]] w (IdxR (L.any fun x => clashB ce P x a) w) := by
  have HT := hide ((stay_rws hD).and (stay_env hE))
  have HN := hide (fun x W hx k => fits1 nmv ce wi PA SA pc sc P S a g q1 q2 q3 x W hc ha (hL x hx) k)
  obtain ⟨m, hm⟩ : ∃ m, L.length = m := ⟨_, rfl⟩
  rw [hm] at hl ⊢
  clear hD hE hL hc ha
  go_enter Try.func34, Try.ntmps34
  go_wp2_with fail
  go_loopw [5, 8] (fun _ i wr => ∃ k : Nat, k ≤ m ∧ i = .int .i64 k ∧ (∀ j (h : j < L.length), j < k → (fun x => clashB ce P x a) L[j] = false) ∧ Below w.heap.size w wr) (fun _ i _ => m - (intOf i).toNat)
  case atStart => exact ⟨0, Nat.zero_le _, rfl, fun j _ h => absurd h (by omega), Below.refl _ _⟩
  case round =>
    obtain ⟨k, hkm, rfl, hno, hbel⟩ := hrel
    replace hno := hide hno
    replace hbel := hide hbel
    by_cases hlt : k < m
    · have hkl : k < L.length := by omega
      have hki : (k : Int) < (m : Int) := by omega
      obtain ⟨b, o, rfl, b0, b1, b2, b3, b4, b5, b6, b7, b8, b9, b10⟩ := Sigs.at_ (HT.out _ hbel.out).1 k hkl
      have hno2 := hide (fun (h : (fun x => clashB ce P x a) L[k] = false) j (hj : j < L.length) (hjk : j < k + 1) => show (fun x => clashB ce P x a) L[j] = false from by
        by_cases e : j = k
        · subst e; exact h
        · exact hno.out j hj (by omega))
      have hin := hide (fun (h : (fun x => clashB ce P x a) L[k] = true) => show (L.any fun x => clashB ce P x a) = true from List.any_eq_true.2 ⟨L[k], List.getElem_mem hkl, h⟩)
      have HN1 := hide (fun W k' => HN.out (L[k]'hkl) W (List.getElem_mem hkl) k')
      obtain ⟨x, hx⟩ : ∃ x, L[k] = x := ⟨_, rfl⟩
      rw [hx] at b0 b1 b2 b3 b4 b5 b6 b7 b8 b9 b10 hno2 hin HN1
      clear hx hkl
      cases hp : clashB ce P x a
      · have hno3 := hide (hno2.out hp)
        rw [hp] at HN1
        clear hno2 hin hp
        go_wp2_with (go_at_call 47; go_must (refine (HN1.out _ (HT.out _ hbel.out).2).mono ?_; rintro e w2 ⟨rfl, hb⟩; replace hbel := hide (Below.step hbel.out hb); clear hb b0 b1 b2 b3 b4 b5 b6 b7 b8 b9 b10; simp only []))
        go_roundw
        case rel => exact ⟨k + 1, by omega, by go_num, hno3.out, hbel.out⟩
        case measure => simp [intOf]; omega
      · have hyes := hide (hin.out hp)
        rw [hp] at HN1
        clear hno2 hin hp
        go_wp2_with (go_at_call 47; go_must (refine (HN1.out _ (HT.out _ hbel.out).2).mono ?_; rintro e w2 ⟨rfl, hb⟩; replace hbel := hide (Below.step hbel.out hb); clear hb b0 b1 b2 b3 b4 b5 b6 b7 b8 b9 b10; simp only []))
        go_ret
        exact ⟨_, rfl, by rw [hyes.out]; simp, hbel.out⟩
    · obtain rfl : k = m := by omega
      have hki : ¬ (k : Int) < (k : Int) := by omega
      go_wp2_with fail
      go_ret
      refine ⟨_, rfl, ?_, hbel.out⟩
      have hf : (L.any fun x => clashB ce P x a) = false := by
        rw [List.any_eq_false]
        intro x hx
        obtain ⟨j, hj, rfl⟩ := List.getElem_of_mem hx
        have := hno.out j hj (by omega)
        simpa using this
      rw [hf]
      simp
set_option maxRecDepth 100000 in
theorem contains_fits (nmv : Value) (ce wi : Int) (PA SA : Option Addr) (pc sc : Nat) (P : List Prt) (S : List Sig) (a : Alo) (g q1 q2 q3 : Nat) (L : List Sig) (D : Option Addr) (d : Nat) (w : World) (hc : OkCr ce wi P S) (ha : OkAl P a) (hL : ∀ x ∈ L, OkSg P x) (hl : L.length ≤ 1000) (hD : Sigs w D L) (hE : Env nmv ce wi PA SA pc sc P S a g q1 q2 q3 w) :
    Calls Try.prog 46 #[.slice D L.length d, .func (.func 47) #[] #[.pointer (some ⟨q1, 0, none⟩), .pointer (some ⟨q2, 0, none⟩), .pointer (some ⟨q3, 0, none⟩)]] w fun e w' => e = .returned (.bool (L.any fun x => clashB ce P x a)) ∧ Below w.heap.size w w' := by
  have HI := hide (idx_fits nmv ce wi PA SA pc sc P S a g q1 q2 q3 L D d w hc ha hL hl hD hE)
  obtain ⟨V, hV⟩ : ∃ V, (L.any fun x => clashB ce P x a) = V := ⟨_, rfl⟩
  rw [hV] at HI ⊢
  clear hV hD hE hl hL hc ha
  go_enter Try.func46, Try.ntmps46
  go_wp2_with fail
  go_at_call 34
  refine HI.out.mono ?_
  rintro e w1 ⟨i, rfl, hi, hb⟩
  replace hb := hide hb
  replace hi := hide hi
  simp only []
  go_wp2_with fail
  go_ret
  exact ⟨by rw [hi.out]; rfl, hb.out⟩
set_option maxRecDepth 100000 in
set_option maxHeartbeats 4000000 in
theorem idx_busy (nmv : Value) (ce wi : Int) (PA SA : Option Addr) (pc sc : Nat) (P : List Prt) (S : List Sig) (a : Alo) (g q1 q2 q3 : Nat) (L : List Alo) (D : Option Addr) (d : Nat) (w : World) (hc : OkCr ce wi P S) (ha : OkAl P a) (hL : ∀ x ∈ L, OkAl P x) (hl : L.length ≤ 1000) (hD : Alos w D L) (hE : Env nmv ce wi PA SA pc sc P S a g q1 q2 q3 w) :
    Calls Try.prog 63 #[.slice D L.length d, .func (.func 51) #[] #[.pointer (some ⟨q1, 0, none⟩), .pointer (some ⟨q2, 0, none⟩), .pointer (some ⟨q3, 0, none⟩)]] w (IdxR (L.any fun x => busyB1 P x a) w) := by
  have HT := hide ((stay_rws hD).and (stay_env hE))
  have HN := hide (fun x W hx k => busy1 nmv ce wi PA SA pc sc P S a g q1 q2 q3 x W hc ha (hL x hx) k)
  obtain ⟨m, hm⟩ : ∃ m, L.length = m := ⟨_, rfl⟩
  rw [hm] at hl ⊢
  clear hD hE hL hc ha
  go_enter Try.func63, Try.ntmps63
  go_wp2_with fail
  go_loopw [5, 8] (fun _ i wr => ∃ k : Nat, k ≤ m ∧ i = .int .i64 k ∧ (∀ j (h : j < L.length), j < k → (fun x => busyB1 P x a) L[j] = false) ∧ Below w.heap.size w wr) (fun _ i _ => m - (intOf i).toNat)
  case atStart => exact ⟨0, Nat.zero_le _, rfl, fun j _ h => absurd h (by omega), Below.refl _ _⟩
  case round =>
    obtain ⟨k, hkm, rfl, hno, hbel⟩ := hrel
    replace hno := hide hno
    replace hbel := hide hbel
    by_cases hlt : k < m
    · have hkl : k < L.length := by omega
      have hki : (k : Int) < (m : Int) := by omega
      obtain ⟨b, o, rfl, b0, b1, b2, b3, b4, b5, b6⟩ := Alos.at_ (HT.out _ hbel.out).1 k hkl
      have hno2 := hide (fun (h : (fun x => busyB1 P x a) L[k] = false) j (hj : j < L.length) (hjk : j < k + 1) => show (fun x => busyB1 P x a) L[j] = false from by
        by_cases e : j = k
        · subst e; exact h
        · exact hno.out j hj (by omega))
      have hin := hide (fun (h : (fun x => busyB1 P x a) L[k] = true) => show (L.any fun x => busyB1 P x a) = true from List.any_eq_true.2 ⟨L[k], List.getElem_mem hkl, h⟩)
      have HN1 := hide (fun W k' => HN.out (L[k]'hkl) W (List.getElem_mem hkl) k')
      obtain ⟨x, hx⟩ : ∃ x, L[k] = x := ⟨_, rfl⟩
      rw [hx] at b0 b1 b2 b3 b4 b5 b6 hno2 hin HN1
      clear hx hkl
      cases hp : busyB1 P x a
      · have hno3 := hide (hno2.out hp)
        rw [hp] at HN1
        clear hno2 hin hp
        go_wp2_with (go_at_call 51; go_must (refine (HN1.out _ (HT.out _ hbel.out).2).mono ?_; rintro e w2 ⟨rfl, hb⟩; replace hbel := hide (Below.step hbel.out hb); clear hb b0 b1 b2 b3 b4 b5 b6; simp only []))
        go_roundw
        case rel => exact ⟨k + 1, by omega, by go_num, hno3.out, hbel.out⟩
        case measure => simp [intOf]; omega
      · have hyes := hide (hin.out hp)
        rw [hp] at HN1
        clear hno2 hin hp
        go_wp2_with (go_at_call 51; go_must (refine (HN1.out _ (HT.out _ hbel.out).2).mono ?_; rintro e w2 ⟨rfl, hb⟩; replace hbel := hide (Below.step hbel.out hb); clear hb b0 b1 b2 b3 b4 b5 b6; simp only []))
        go_ret
        exact ⟨_, rfl, by rw [hyes.out]; simp, hbel.out⟩
    · obtain rfl : k = m := by omega
      have hki : ¬ (k : Int) < (k : Int) := by omega
      go_wp2_with fail
      go_ret
      refine ⟨_, rfl, ?_, hbel.out⟩
      have hf : (L.any fun x => busyB1 P x a) = false := by
        rw [List.any_eq_false]
        intro x hx
        obtain ⟨j, hj, rfl⟩ := List.getElem_of_mem hx
        have := hno.out j hj (by omega)
        simpa using this
      rw [hf]
      simp
set_option maxRecDepth 100000 in
theorem contains_busy (nmv : Value) (ce wi : Int) (PA SA : Option Addr) (pc sc : Nat) (P : List Prt) (S : List Sig) (a : Alo) (g q1 q2 q3 : Nat) (L : List Alo) (D : Option Addr) (d : Nat) (w : World) (hc : OkCr ce wi P S) (ha : OkAl P a) (hL : ∀ x ∈ L, OkAl P x) (hl : L.length ≤ 1000) (hD : Alos w D L) (hE : Env nmv ce wi PA SA pc sc P S a g q1 q2 q3 w) :
    Calls Try.prog 50 #[.slice D L.length d, .func (.func 51) #[] #[.pointer (some ⟨q1, 0, none⟩), .pointer (some ⟨q2, 0, none⟩), .pointer (some ⟨q3, 0, none⟩)]] w fun e w' => e = .returned (.bool (L.any fun x => busyB1 P x a)) ∧ Below w.heap.size w w' := by
  have HI := hide (idx_busy nmv ce wi PA SA pc sc P S a g q1 q2 q3 L D d w hc ha hL hl hD hE)
  obtain ⟨V, hV⟩ : ∃ V, (L.any fun x => busyB1 P x a) = V := ⟨_, rfl⟩
  rw [hV] at HI ⊢
  clear hV hD hE hl hL hc ha
  go_enter Try.func50, Try.ntmps50
  go_wp2_with fail
  go_at_call 63
  refine HI.out.mono ?_
  rintro e w1 ⟨i, rfl, hi, hb⟩
  replace hb := hide hb
  replace hi := hide hi
  simp only []
  go_wp2_with fail
  go_ret
  exact ⟨by rw [hi.out]; rfl, hb.out⟩
end Go.Proofs.Ytfolipkbcibgdaa
