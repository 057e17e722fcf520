import Derived.Test.YtfolipkbcibgdaaGrO
namespace Go.Proofs.Ytfolipkbcibgdaa
open Go.RowKit Go.WideShapes Go.ChangeShapes

/-! a right allocation alone has no error -/
theorem pw_int {mu : Int} (h : 0 ≤ mu ∧ mu ≤ 3) : (1 : Int) ≤ ((2 ^ mu.toNat : Nat) : Int) ∧ ((2 ^ mu.toNat : Nat) : Int) ≤ 8 := by
  have := pw_bd mu.toNat (by omega); omega
theorem slotsOf_int {mu : Int} (h : 0 ≤ mu ∧ mu ≤ 3) (w : World) : Calls Try.prog 25 #[.int .i64 mu] w fun e w' => e = .returned (.int .i64 ((2 ^ mu.toNat : Nat) : Int)) ∧ w = w' := by
  have h1 := slotsOf_grid mu.toNat w (by omega)
  rw [show (mu.toNat : Int) = mu by omega] at h1
  exact h1
set_option maxRecDepth 100000 in
set_option maxHeartbeats 8000000 in
theorem alone_ok (nmv : Value) (ce wi : Int) (PA SA : Option Addr) (pc sc : Nat) (P : List Prt) (S : List Sig) (a : Alo) (w : World) (hc : OkCr ce wi P S) (ha : OkAl P a) (hP : Prts w PA P) :
    Calls Try.prog 24 #[.agg #[nmv, .int .i64 ce, .int .i64 wi, .slice PA P.length pc, .slice SA S.length sc], .agg #[.int .i64 a.pa, .int .i64 a.sf, .int .i64 a.sl, .int .i64 a.sy, .int .i64 a.sn, .int .i64 a.bk, .int .i64 a.bn]] w fun e w' => e = .returned (.int .i64 0) ∧ Below w.heap.size w w' := by
  have hpk : a.pa.toNat < P.length := by have := ha.pa; omega
  have hbx := ha.bx hpk
  have hp := hc.ps _ (List.getElem_mem hpk)
  have hsl := ha.sl.2 hpk
  have hsl0 := ha.sl.1
  have hsf := ha.sf
  have hpl := hc.pn.2
  have hpa := ha.pa
  have bx1 := hbx.sy
  have bx2 := hbx.bk
  have pbl := hp.bl
  have HSL := hide (fun W => slotsOf_int hp.mu W)
  have hN1 := pw_int hp.mu
  obtain ⟨k, hk⟩ := Int.eq_ofNat_of_zero_le hpa.1
  have hak : a.pa.toNat = k := by omega
  have HPR := hide (fun W (h : Prts W PA P) => h.at_ k (by omega))
  obtain ⟨b, o, rfl, -⟩ := hP.at_ k (by omega)
  have HPQ := hide (fun W (h : Prts W (some ⟨b, o, none⟩) P) => show W.cell? ⟨b, o + k * 3, none⟩ = some (.int .i64 (P[a.pa.toNat]'hpk).mu) ∧ W.cell? ⟨b, o + k * 3 + 1, none⟩ = some (.int .i64 (P[a.pa.toNat]'hpk).fi) ∧ W.cell? ⟨b, o + k * 3 + 2, none⟩ = some (.int .i64 (P[a.pa.toNat]'hpk).bl) from by
    obtain ⟨b', o', e, c⟩ := h.at_ k (by omega)
    injection e with e; injection e with e1 e2; subst e1 e2
    simp only [hak]
    exact c)
  obtain ⟨p, hpe⟩ : ∃ p, P[a.pa.toNat]'hpk = p := ⟨_, rfl⟩
  rw [hpe] at HSL hN1 bx2 pbl HPQ hsl
  obtain ⟨N, hN⟩ : ∃ N : Int, ((2 ^ p.mu.toNat : Nat) : Int) = N := ⟨_, rfl⟩
  rw [hN] at HSL hN1 hsl
  obtain ⟨mu, hmu⟩ : ∃ x, p.mu = x := ⟨_, rfl⟩
  obtain ⟨fi, hfi⟩ : ∃ x, p.fi = x := ⟨_, rfl⟩
  obtain ⟨bl, hbl⟩ : ∃ x, p.bl = x := ⟨_, rfl⟩
  rw [hmu] at HSL
  rw [hmu, hfi, hbl] at HPQ
  rw [hbl] at bx2 pbl
  obtain ⟨pn, hpn⟩ : ∃ x, P.length = x := ⟨_, rfl⟩
  have g1 : (k : Int) < (pn : Int) := by omega
  have w1 : IntKind.i64.wrap (N - 1) = N - 1 := IntWalk.i64_in _ (by omega)
  have HT : Hid (Stay ((w.alloc (.cells #[nmv, .int .i64 ce, .int .i64 wi, .slice (some ⟨b, o, none⟩) P.length pc, .slice SA S.length sc] 58)).alloc (.cells #[.int .i64 a.pa, .int .i64 a.sf, .int .i64 a.sl, .int .i64 a.sy, .int .i64 a.sn, .int .i64 a.bk, .int .i64 a.bn] 34)) (fun W => (((Blk W w.heap.size 58 #[nmv, .int .i64 ce, .int .i64 wi, .slice (some ⟨b, o, none⟩) P.length pc, .slice SA S.length sc] ∧ Blk W (w.heap.size + 1) 34 #[.int .i64 a.pa, .int .i64 a.sf, .int .i64 a.sl, .int .i64 a.sy, .int .i64 a.sn, .int .i64 a.bk, .int .i64 a.bn]) ∧ Below w.heap.size w W) ∧ Prts W (some ⟨b, o, none⟩) P))) := hide
    (((((stay_blk (Blk.new w 58 #[nmv, .int .i64 ce, .int .i64 wi, .slice (some ⟨b, o, none⟩) P.length pc, .slice SA S.length sc])).alloc (.cells #[.int .i64 a.pa, .int .i64 a.sf, .int .i64 a.sl, .int .i64 a.sy, .int .i64 a.sn, .int .i64 a.bk, .int .i64 a.bn] 34)).and (stay_blk (blk_up w 58 34 #[nmv, .int .i64 ce, .int .i64 wi, .slice (some ⟨b, o, none⟩) P.length pc, .slice SA S.length sc] #[.int .i64 a.pa, .int .i64 a.sf, .int .i64 a.sl, .int .i64 a.sy, .int .i64 a.sn, .int .i64 a.bk, .int .i64 a.bn]))).and (stay_below (((Below.refl _ w).alloc (Nat.le_refl _) (.cells #[nmv, .int .i64 ce, .int .i64 wi, .slice (some ⟨b, o, none⟩) P.length pc, .slice SA S.length sc] 58)).alloc (by simp) (.cells #[.int .i64 a.pa, .int .i64 a.sf, .int .i64 a.sl, .int .i64 a.sy, .int .i64 a.sn, .int .i64 a.bk, .int .i64 a.bn] 34)))).and (((stay_rws hP).alloc (.cells #[nmv, .int .i64 ce, .int .i64 wi, .slice (some ⟨b, o, none⟩) P.length pc, .slice SA S.length sc] 58)).alloc (.cells #[.int .i64 a.pa, .int .i64 a.sf, .int .i64 a.sl, .int .i64 a.sy, .int .i64 a.sn, .int .i64 a.bk, .int .i64 a.bn] 34)))
  clear hP HPR hpe hN hmu hfi hbl hbx hp hc ha hak
  rw [hk] at HT ⊢
  rw [hpn] at HT ⊢ hpl
  clear hk hpn
  obtain ⟨W0, hW0⟩ : ∃ W0, (w.alloc (.cells #[nmv, .int .i64 ce, .int .i64 wi, .slice (some ⟨b, o, none⟩) pn pc, .slice SA S.length sc] 58)).alloc (.cells #[.int .i64 (k : Int), .int .i64 a.sf, .int .i64 a.sl, .int .i64 a.sy, .int .i64 a.sn, .int .i64 a.bk, .int .i64 a.bn] 34) = W0 := ⟨_, rfl⟩
  rw [hW0] at HT
  go_enter Try.func24, Try.ntmps24
  go_wp2_with fail
  first | rw [hW0] | skip
  clear hW0
  refine wp_region_held_drew (S := fun w_ => Below W0.heap.size W0 w_) (by kernel_rfl) (below_drewN (Below.refl W0.heap.size W0) 1) (fun hHeld => ?_)
  refine take_at (i := 0) 7 (v := .agg #[nmv, .int .i64 ce, .int .i64 wi, .slice (some ⟨b, o, none⟩) pn pc, .slice SA S.length sc]) rfl rfl (by kernel_rfl) (by kernel_rfl) (by kernel_rfl) (fun _ _ _ h => h) (Or.inl ⟨by rfl, by intro w_ hSw; have c0 : w_.cell? ⟨w.heap.size, 0, none⟩ = some (nmv) := (HT.out _ hSw).1.1.1.cell 0; have c1 : w_.cell? ⟨w.heap.size, 1, none⟩ = some (.int .i64 ce) := (HT.out _ hSw).1.1.1.cell 1; have c2 : w_.cell? ⟨w.heap.size, 2, none⟩ = some (.int .i64 wi) := (HT.out _ hSw).1.1.1.cell 2; have c3 : w_.cell? ⟨w.heap.size, 3, none⟩ = some (.slice (some ⟨b, o, none⟩) pn pc) := (HT.out _ hSw).1.1.1.cell 3; have c4 : w_.cell? ⟨w.heap.size, 4, none⟩ = some (.slice SA S.length sc) := (HT.out _ hSw).1.1.1.cell 4; go_simp⟩) (by assumption) ?_
  try simp only [Act.put, List.setIfInBounds_toArray, List.set_cons_zero, List.set_cons_succ]
  refine take_at (i := 1) 8 (v := .pointer (some ⟨w.heap.size + 1, 0, none⟩)) rfl rfl (by kernel_rfl) (by kernel_rfl) (by kernel_rfl) (fun _ _ _ h => h) (Or.inl ⟨by rfl, by intro w_ hSw; go_simp⟩) (by assumption) ?_
  try simp only [Act.put, List.setIfInBounds_toArray, List.set_cons_zero, List.set_cons_succ]
  refine take_at (i := 2) 9 (v := .int .i64 (k : Int)) rfl rfl (by kernel_rfl) (by kernel_rfl) (by kernel_rfl) (fun _ _ _ h => h) (Or.inl ⟨by rfl, by intro w_ hSw; have c0 : w_.cell? ⟨w.heap.size + 1, 0, none⟩ = some (.int .i64 (k : Int)) := (HT.out _ hSw).1.1.2.cell 0; go_simp⟩) (by assumption) ?_
  try simp only [Act.put, List.setIfInBounds_toArray, List.set_cons_zero, List.set_cons_succ]
  refine take_at (i := 4) 11 (v := .pointer (some ⟨w.heap.size + 1, 1, none⟩)) rfl rfl (by kernel_rfl) (by kernel_rfl) (by kernel_rfl) (fun _ _ _ h => h) (Or.inl ⟨by rfl, by intro w_ hSw; go_simp⟩) (by assumption) ?_
  try simp only [Act.put, List.setIfInBounds_toArray, List.set_cons_zero, List.set_cons_succ]
  refine take_at (i := 5) 12 (v := .int .i64 a.sf) rfl rfl (by kernel_rfl) (by kernel_rfl) (by kernel_rfl) (fun _ _ _ h => h) (Or.inl ⟨by rfl, by intro w_ hSw; have c1 : w_.cell? ⟨w.heap.size + 1, 1, none⟩ = some (.int .i64 a.sf) := (HT.out _ hSw).1.1.2.cell 1; go_simp⟩) (by assumption) ?_
  try simp only [Act.put, List.setIfInBounds_toArray, List.set_cons_zero, List.set_cons_succ]
  refine wpAnyH_ready (rs := [3]) (by kernel_rfl) (by simp) ?_
  refine AllReadyH.cons rfl (fun K hK => ?_) AllReadyH.nil
  go_simp
  go_at_call 21
  refine (cpartErr_ok _ _ _ _ _ _ _ _ _ _ _ (by omega) (by omega)).mono ?_
  rintro e v1_1 ⟨rfl, hb⟩
  replace hHeld := Below.step hHeld hb
  clear hb
  try simp only []
  refine hK.out _ _ hHeld (fun hHeld => ?_)
  clear hK K
  try simp only [Act.put, List.setIfInBounds_toArray, List.set_cons_zero, List.set_cons_succ]
  refine wpAnyH_ready (rs := [6]) (by kernel_rfl) (by simp) ?_
  refine AllReadyH.cons rfl (fun K hK => ?_) AllReadyH.nil
  go_simp
  go_at_call 22
  refine (subframeErr_ok _ _ (by omega)).mono ?_
  rintro e w' ⟨rfl, rfl⟩
  try simp only []
  refine hK.out _ _ hHeld (fun hHeld => ?_)
  clear hK K
  try simp only [Act.put, List.setIfInBounds_toArray, List.set_cons_zero, List.set_cons_succ]
  refine wpAnyH_ready (rs := [7]) (by kernel_rfl) (by simp) ?_
  refine AllReadyH.cons rfl (fun K hK => ?_) AllReadyH.nil
  go_simp
  refine hK.out _ _ (hHeld.alloc hHeld.size _) (fun hHeld => ?_)
  clear hK K
  try simp only [Act.put, List.setIfInBounds_toArray, List.set_cons_zero, List.set_cons_succ]
  refine wpAnyH_ready (rs := [8]) (by kernel_rfl) (by simp) ?_
  refine AllReadyH.cons rfl (fun K hK => ?_) AllReadyH.nil
  go_simp
  go_at_call 20
  refine (first_z2 _ _ (by first | rfl | simp)).mono ?_
  rintro e w' ⟨rfl, rfl⟩
  try simp only []
  refine hK.out _ _ hHeld (fun hHeld => ?_)
  clear hK K
  try simp only [Act.put, List.setIfInBounds_toArray, List.set_cons_zero, List.set_cons_succ]
  refine take_at (i := 9) 5 (v := .int .i64 0) rfl rfl (by kernel_rfl) (by kernel_rfl) (by kernel_rfl) (fun _ _ _ h => h) (Or.inl ⟨by rfl, by intro w_ hSw; go_simp⟩) (by assumption) ?_
  try simp only [Act.put, List.setIfInBounds_toArray, List.set_cons_zero, List.set_cons_succ]
  refine wpAnyH_done (by kernel_rfl) ?_ _
  replace HT := hide (HT.out.step hHeld)
  clear hHeld
  obtain ⟨W1, hW1⟩ : ∃ W1, (v1_1.alloc (.cells #[.int .i64 0, .int .i64 0] 35)) = W1 := ⟨_, rfl⟩
  rw [hW1] at HT ⊢
  clear hW1
  have c3 : W1.cell? ⟨w.heap.size, 3, none⟩ = some (.slice (some ⟨b, o, none⟩) pn pc) := HT.out.now.1.1.1.cell 3
  have a0 : W1.cell? ⟨w.heap.size + 1, 0, none⟩ = some (.int .i64 (k : Int)) := HT.out.now.1.1.2.cell 0
  have p0 := (HPQ.out _ HT.out.now.2).1
  have p1 := (HPQ.out _ HT.out.now.2).2.1
  have p2 := (HPQ.out _ HT.out.now.2).2.2
  go_wp2_with fail
  clear c3 a0 p0 p1 p2
  replace HT := hide ((HT.out.alloc (.cells #[.int .i64 mu, .int .i64 fi, .int .i64 bl] 56)).and (stay_blk (Blk.new W1 56 #[.int .i64 mu, .int .i64 fi, .int .i64 bl])))
  obtain ⟨W2, hW2⟩ : ∃ W2, W1.alloc (.cells #[.int .i64 mu, .int .i64 fi, .int .i64 bl] 56) = W2 := ⟨_, rfl⟩
  rw [hW2] at HT ⊢
  clear hW2
  refine wp_region_held_drew (S := fun w_ => Below W2.heap.size W2 w_) (by kernel_rfl) (below_drewN (Below.refl W2.heap.size W2) 1) (fun hHeld => ?_)
  refine take_at (i := 0) 26 (v := .pointer (some ⟨w.heap.size + 1, 2, none⟩)) rfl rfl (by kernel_rfl) (by kernel_rfl) (by kernel_rfl) (fun _ _ _ h => h) (Or.inl ⟨by rfl, by intro w_ hSw; go_simp⟩) (by assumption) ?_
  try simp only [Act.put, List.setIfInBounds_toArray, List.set_cons_zero, List.set_cons_succ]
  refine take_at (i := 1) 27 (v := .int .i64 a.sl) rfl rfl (by kernel_rfl) (by kernel_rfl) (by kernel_rfl) (fun _ _ _ h => h) (Or.inl ⟨by rfl, by intro w_ hSw; have c2 : w_.cell? ⟨w.heap.size + 1, 2, none⟩ = some (.int .i64 a.sl) := (HT.out _ hSw).1.1.1.2.cell 2; go_simp⟩) (by assumption) ?_
  try simp only [Act.put, List.setIfInBounds_toArray, List.set_cons_zero, List.set_cons_succ]
  refine take_at (i := 2) 28 (v := .pointer (some ⟨W1.heap.size, 0, none⟩)) rfl rfl (by kernel_rfl) (by kernel_rfl) (by kernel_rfl) (fun _ _ _ h => h) (Or.inl ⟨by rfl, by intro w_ hSw; go_simp⟩) (by assumption) ?_
  try simp only [Act.put, List.setIfInBounds_toArray, List.set_cons_zero, List.set_cons_succ]
  refine take_at (i := 3) 29 (v := .int .i64 mu) rfl rfl (by kernel_rfl) (by kernel_rfl) (by kernel_rfl) (fun _ _ _ h => h) (Or.inl ⟨by rfl, by intro w_ hSw; have c0 : w_.cell? ⟨W1.heap.size, 0, none⟩ = some (.int .i64 mu) := (HT.out _ hSw).2.cell 0; go_simp⟩) (by assumption) ?_
  try simp only [Act.put, List.setIfInBounds_toArray, List.set_cons_zero, List.set_cons_succ]
  refine take_at (i := 8) 34 (v := .agg #[.int .i64 (k : Int), .int .i64 a.sf, .int .i64 a.sl, .int .i64 a.sy, .int .i64 a.sn, .int .i64 a.bk, .int .i64 a.bn]) rfl rfl (by kernel_rfl) (by kernel_rfl) (by kernel_rfl) (fun _ _ _ h => h) (Or.inl ⟨by rfl, by intro w_ hSw; have c0 : w_.cell? ⟨w.heap.size + 1, 0, none⟩ = some (.int .i64 (k : Int)) := (HT.out _ hSw).1.1.1.2.cell 0; have c1 : w_.cell? ⟨w.heap.size + 1, 1, none⟩ = some (.int .i64 a.sf) := (HT.out _ hSw).1.1.1.2.cell 1; have c2 : w_.cell? ⟨w.heap.size + 1, 2, none⟩ = some (.int .i64 a.sl) := (HT.out _ hSw).1.1.1.2.cell 2; have c3 : w_.cell? ⟨w.heap.size + 1, 3, none⟩ = some (.int .i64 a.sy) := (HT.out _ hSw).1.1.1.2.cell 3; have c4 : w_.cell? ⟨w.heap.size + 1, 4, none⟩ = some (.int .i64 a.sn) := (HT.out _ hSw).1.1.1.2.cell 4; have c5 : w_.cell? ⟨w.heap.size + 1, 5, none⟩ = some (.int .i64 a.bk) := (HT.out _ hSw).1.1.1.2.cell 5; have c6 : w_.cell? ⟨w.heap.size + 1, 6, none⟩ = some (.int .i64 a.bn) := (HT.out _ hSw).1.1.1.2.cell 6; go_simp⟩) (by assumption) ?_
  try simp only [Act.put, List.setIfInBounds_toArray, List.set_cons_zero, List.set_cons_succ]
  refine take_at (i := 10) 36 (v := .agg #[.int .i64 mu, .int .i64 fi, .int .i64 bl]) rfl rfl (by kernel_rfl) (by kernel_rfl) (by kernel_rfl) (fun _ _ _ h => h) (Or.inl ⟨by rfl, by intro w_ hSw; have c0 : w_.cell? ⟨W1.heap.size, 0, none⟩ = some (.int .i64 mu) := (HT.out _ hSw).2.cell 0; have c1 : w_.cell? ⟨W1.heap.size, 1, none⟩ = some (.int .i64 fi) := (HT.out _ hSw).2.cell 1; have c2 : w_.cell? ⟨W1.heap.size, 2, none⟩ = some (.int .i64 bl) := (HT.out _ hSw).2.cell 2; go_simp⟩) (by assumption) ?_
  try simp only [Act.put, List.setIfInBounds_toArray, List.set_cons_zero, List.set_cons_succ]
  refine take_at (i := 12) 38 (v := .agg #[.int .i64 (k : Int), .int .i64 a.sf, .int .i64 a.sl, .int .i64 a.sy, .int .i64 a.sn, .int .i64 a.bk, .int .i64 a.bn]) rfl rfl (by kernel_rfl) (by kernel_rfl) (by kernel_rfl) (fun _ _ _ h => h) (Or.inl ⟨by rfl, by intro w_ hSw; have c0 : w_.cell? ⟨w.heap.size + 1, 0, none⟩ = some (.int .i64 (k : Int)) := (HT.out _ hSw).1.1.1.2.cell 0; have c1 : w_.cell? ⟨w.heap.size + 1, 1, none⟩ = some (.int .i64 a.sf) := (HT.out _ hSw).1.1.1.2.cell 1; have c2 : w_.cell? ⟨w.heap.size + 1, 2, none⟩ = some (.int .i64 a.sl) := (HT.out _ hSw).1.1.1.2.cell 2; have c3 : w_.cell? ⟨w.heap.size + 1, 3, none⟩ = some (.int .i64 a.sy) := (HT.out _ hSw).1.1.1.2.cell 3; have c4 : w_.cell? ⟨w.heap.size + 1, 4, none⟩ = some (.int .i64 a.sn) := (HT.out _ hSw).1.1.1.2.cell 4; have c5 : w_.cell? ⟨w.heap.size + 1, 5, none⟩ = some (.int .i64 a.bk) := (HT.out _ hSw).1.1.1.2.cell 5; have c6 : w_.cell? ⟨w.heap.size + 1, 6, none⟩ = some (.int .i64 a.bn) := (HT.out _ hSw).1.1.1.2.cell 6; go_simp⟩) (by assumption) ?_
  try simp only [Act.put, List.setIfInBounds_toArray, List.set_cons_zero, List.set_cons_succ]
  refine take_at (i := 14) 40 (v := .agg #[.int .i64 mu, .int .i64 fi, .int .i64 bl]) rfl rfl (by kernel_rfl) (by kernel_rfl) (by kernel_rfl) (fun _ _ _ h => h) (Or.inl ⟨by rfl, by intro w_ hSw; have c0 : w_.cell? ⟨W1.heap.size, 0, none⟩ = some (.int .i64 mu) := (HT.out _ hSw).2.cell 0; have c1 : w_.cell? ⟨W1.heap.size, 1, none⟩ = some (.int .i64 fi) := (HT.out _ hSw).2.cell 1; have c2 : w_.cell? ⟨W1.heap.size, 2, none⟩ = some (.int .i64 bl) := (HT.out _ hSw).2.cell 2; go_simp⟩) (by assumption) ?_
  try simp only [Act.put, List.setIfInBounds_toArray, List.set_cons_zero, List.set_cons_succ]
  refine wpAnyH_ready (rs := [4]) (by kernel_rfl) (by simp) ?_
  refine AllReadyH.cons rfl (fun K hK => ?_) AllReadyH.nil
  go_simp
  go_at_call 25
  refine (HSL.out _).mono ?_
  rintro e w' ⟨rfl, rfl⟩
  try simp only []
  refine hK.out _ _ hHeld (fun hHeld => ?_)
  clear hK K
  try simp only [Act.put, List.setIfInBounds_toArray, List.set_cons_zero, List.set_cons_succ]
  refine take_at (i := 5) 31 (v := .int .i64 (N - 1)) rfl rfl (by kernel_rfl) (by kernel_rfl) (by kernel_rfl) (fun _ _ _ h => h) (Or.inl ⟨by rfl, by intro w_ hSw; go_simp⟩) (by assumption) ?_
  try simp only [Act.put, List.setIfInBounds_toArray, List.set_cons_zero, List.set_cons_succ]
  refine wpAnyH_ready (rs := [6]) (by kernel_rfl) (by simp) ?_
  refine AllReadyH.cons rfl (fun K hK => ?_) AllReadyH.nil
  go_simp
  go_at_call 37
  refine (within_yes _ _ _ (by omega) _).mono ?_
  rintro e w' ⟨rfl, rfl⟩
  try simp only []
  refine hK.out _ _ hHeld (fun hHeld => ?_)
  clear hK K
  try simp only [Act.put, List.setIfInBounds_toArray, List.set_cons_zero, List.set_cons_succ]
  refine wpAnyH_ready (rs := [7]) (by kernel_rfl) (by simp) ?_
  refine AllReadyH.cons rfl (fun K hK => ?_) AllReadyH.nil
  go_simp
  go_at_call 23
  refine (unless_yes _ _).mono ?_
  rintro e w' ⟨rfl, rfl⟩
  try simp only []
  refine hK.out _ _ hHeld (fun hHeld => ?_)
  clear hK K
  try simp only [Act.put, List.setIfInBounds_toArray, List.set_cons_zero, List.set_cons_succ]
  refine wpAnyH_ready (rs := [9]) (by kernel_rfl) (by simp) ?_
  refine AllReadyH.cons rfl (fun K hK => ?_) AllReadyH.nil
  go_simp
  go_at_call 42
  refine (boxIn_ok _ _ _ _ _ _ _ _).mono ?_
  rintro e v5_1 ⟨rfl, hb⟩
  replace hHeld := Below.step hHeld hb
  clear hb
  try simp only []
  refine hK.out _ _ hHeld (fun hHeld => ?_)
  clear hK K
  try simp only [Act.put, List.setIfInBounds_toArray, List.set_cons_zero, List.set_cons_succ]
  refine wpAnyH_ready (rs := [11]) (by kernel_rfl) (by simp) ?_
  refine AllReadyH.cons rfl (fun K hK => ?_) AllReadyH.nil
  go_simp
  go_at_call 43
  refine (rangeErr_ok _ _ _ _ _ _ _ _ (by omega) (by omega) (by omega) (by omega) (by omega)).mono ?_
  rintro e v5_2 ⟨rfl, hb⟩
  replace hHeld := Below.step hHeld hb
  clear hb
  try simp only []
  refine hK.out _ _ hHeld (fun hHeld => ?_)
  clear hK K
  try simp only [Act.put, List.setIfInBounds_toArray, List.set_cons_zero, List.set_cons_succ]
  refine wpAnyH_ready (rs := [13]) (by kernel_rfl) (by simp) ?_
  refine AllReadyH.cons rfl (fun K hK => ?_) AllReadyH.nil
  go_simp
  go_at_call 42
  refine (boxIn_ok _ _ _ _ _ _ _ _).mono ?_
  rintro e v5_3 ⟨rfl, hb⟩
  replace hHeld := Below.step hHeld hb
  clear hb
  try simp only []
  refine hK.out _ _ hHeld (fun hHeld => ?_)
  clear hK K
  try simp only [Act.put, List.setIfInBounds_toArray, List.set_cons_zero, List.set_cons_succ]
  refine wpAnyH_ready (rs := [15]) (by kernel_rfl) (by simp) ?_
  refine AllReadyH.cons rfl (fun K hK => ?_) AllReadyH.nil
  go_simp
  go_at_call 44
  refine (breakErr_ok _ _ _ _ _ _ _ _ (by omega) (by omega) (by omega)).mono ?_
  rintro e v5_4 ⟨rfl, hb⟩
  replace hHeld := Below.step hHeld hb
  clear hb
  try simp only []
  refine hK.out _ _ hHeld (fun hHeld => ?_)
  clear hK K
  try simp only [Act.put, List.setIfInBounds_toArray, List.set_cons_zero, List.set_cons_succ]
  refine wpAnyH_ready (rs := [16]) (by kernel_rfl) (by simp) ?_
  refine AllReadyH.cons rfl (fun K hK => ?_) AllReadyH.nil
  go_simp
  refine hK.out _ _ (hHeld.alloc hHeld.size _) (fun hHeld => ?_)
  clear hK K
  try simp only [Act.put, List.setIfInBounds_toArray, List.set_cons_zero, List.set_cons_succ]
  refine wpAnyH_ready (rs := [17]) (by kernel_rfl) (by simp) ?_
  refine AllReadyH.cons rfl (fun K hK => ?_) AllReadyH.nil
  go_simp
  go_at_call 20
  refine (first_z3 _ _ (by first | rfl | simp)).mono ?_
  rintro e w' ⟨rfl, rfl⟩
  try simp only []
  refine hK.out _ _ hHeld (fun hHeld => ?_)
  clear hK K
  try simp only [Act.put, List.setIfInBounds_toArray, List.set_cons_zero, List.set_cons_succ]
  refine take_at (i := 18) 4 (v := .int .i64 0) rfl rfl (by kernel_rfl) (by kernel_rfl) (by kernel_rfl) (fun _ _ _ h => h) (Or.inl ⟨by rfl, by intro w_ hSw; go_simp⟩) (by assumption) ?_
  try simp only [Act.put, List.setIfInBounds_toArray, List.set_cons_zero, List.set_cons_succ]
  refine wpAnyH_done (by kernel_rfl) ?_ _
  have hfin := hide (Below.step HT.out.now.1.1.2 hHeld)
  clear hHeld
  go_wp2_with fail
  go_ret
  exact ⟨rfl, hfin.out⟩
end Go.Proofs.Ytfolipkbcibgdaa
