import Derived.Test.YtfolipkbcibgdaaGrP
namespace Go.Proofs.Ytfolipkbcibgdaa
open Go.RowKit Go.WideShapes Go.ChangeShapes

/-! a right part and a right signal have no error -/
theorem boxOf_ok (kd pa pe of_ sl sy sn bk bn st sh : Int) (w : World) :
    Calls Try.prog 71 #[.agg #[.int .i64 kd, .int .i64 pa, .int .i64 pe, .int .i64 of_, .int .i64 sl, .int .i64 sy, .int .i64 sn, .int .i64 bk, .int .i64 bn, .int .i64 st, .int .i64 sh]] w fun e w' => e = .returned (.agg #[.int .i64 sy, .int .i64 sn, .int .i64 bk, .int .i64 bn]) ∧ Below w.heap.size w w' := by
  have HB := hide (((Below.refl _ w).alloc (Nat.le_refl _) (.cells #[.int .i64 kd, .int .i64 pa, .int .i64 pe, .int .i64 of_, .int .i64 sl, .int .i64 sy, .int .i64 sn, .int .i64 bk, .int .i64 bn, .int .i64 st, .int .i64 sh] 82)).alloc (by simp) (.cells #[.int .i64 sy, .int .i64 sn, .int .i64 bk, .int .i64 bn] 90))
  go_enter Try.func71, Try.ntmps71
  go_wp2_with fail
  refine bodyPost_ret (v := .agg #[.int .i64 sy, .int .i64 sn, .int .i64 bk, .int .i64 bn]) ?_ rfl ⟨rfl, HB.out⟩
  simp [results, Try.results71, go_sem]
set_option maxRecDepth 100000 in
set_option maxHeartbeats 8000000 in
theorem partErr_ok (nmv : Value) (ce wi : Int) (pv sv : Value) (p : Prt) (w : World) (hp : OkP wi p) (hwi : 1 ≤ wi ∧ wi ≤ 600) :
    Calls Try.prog 65 #[.agg #[nmv, .int .i64 ce, .int .i64 wi, pv, sv], .agg #[.int .i64 p.mu, .int .i64 p.fi, .int .i64 p.bl]] w fun e w' => e = .returned (.int .i64 0) ∧ Below w.heap.size w w' := by
  have HSL := hide (fun W => slotsOf_int hp.mu W)
  have hN1 := pw_int hp.mu
  have hdv := hp.dv
  have hft := hp.fit
  have hmu := hp.mu
  have hfi := hp.fi
  have hbl := hp.bl
  obtain ⟨N, hN⟩ : ∃ N : Int, ((2 ^ p.mu.toNat : Nat) : Int) = N := ⟨_, rfl⟩
  rw [hN] at HSL hN1 hdv hft
  obtain ⟨mu, hmu'⟩ : ∃ x, p.mu = x := ⟨_, rfl⟩
  obtain ⟨fi, hfi'⟩ : ∃ x, p.fi = x := ⟨_, rfl⟩
  obtain ⟨bl, hbl'⟩ : ∃ x, p.bl = x := ⟨_, rfl⟩
  rw [hmu'] at HSL hmu ⊢
  rw [hfi'] at hdv hft hfi ⊢
  rw [hbl'] at hft hbl ⊢
  clear hN hmu' hfi' hbl' hp
  have hnn : 0 ≤ N * 12 * bl := Int.mul_nonneg (by omega) (by omega)
  have hfiw : fi ≤ wi - 1 := by
    have : 1 * 1 ≤ N * 12 * bl := Int.mul_le_mul (by omega) (by omega) (by omega) (by omega)
    omega
  have w1 : IntKind.i64.wrap (wi - 1) = wi - 1 := IntWalk.i64_in _ (by omega)
  have w2 : IntKind.i64.wrap (N * 12) = N * 12 := IntWalk.i64_in _ (by omega)
  have w3 : IntKind.i64.wrap (N * 12 * bl) = N * 12 * bl := IntWalk.i64_in _ (by omega)
  have w4 : IntKind.i64.wrap (fi + N * 12 * bl) = fi + N * 12 * bl := IntWalk.i64_in _ (by omega)
  have hm : fi.tmod N = 0 := by rw [Int.tmod_eq_emod_of_nonneg hfi]; exact hdv
  have hN0 : ¬ N = 0 := by omega
  have hd : decide (fi + N * 12 * bl ≤ wi) = true := decide_eq_true hft
  have HT : Hid (Stay ((w.alloc (.cells #[nmv, .int .i64 ce, .int .i64 wi, pv, sv] 25)).alloc (.cells #[.int .i64 mu, .int .i64 fi, .int .i64 bl] 56)) (fun W => (Blk W w.heap.size 25 #[nmv, .int .i64 ce, .int .i64 wi, pv, sv] ∧ Blk W (w.heap.size + 1) 56 #[.int .i64 mu, .int .i64 fi, .int .i64 bl]) ∧ Below w.heap.size w W)) := hide
    ((((stay_blk (Blk.new w 25 #[nmv, .int .i64 ce, .int .i64 wi, pv, sv])).alloc (.cells #[.int .i64 mu, .int .i64 fi, .int .i64 bl] 56)).and (stay_blk (blk_up w 25 56 #[nmv, .int .i64 ce, .int .i64 wi, pv, sv] #[.int .i64 mu, .int .i64 fi, .int .i64 bl]))).and (stay_below (((Below.refl _ w).alloc (Nat.le_refl _) (.cells #[nmv, .int .i64 ce, .int .i64 wi, pv, sv] 25)).alloc (by simp) (.cells #[.int .i64 mu, .int .i64 fi, .int .i64 bl] 56))))
  go_enter Try.func65, Try.ntmps65
  go_wp2_with (first | (go_at_call 37; go_must (refine (within_yes _ _ _ (by omega) _).mono ?_; rintro e w' ⟨rfl, rfl⟩; simp only [])) | (go_at_call 23; go_must (refine (unless_yes _ _).mono ?_; rintro e w' ⟨rfl, rfl⟩; simp only [])) | (go_at_call 20; go_must (refine (first_z1 _ _ (by first | rfl | simp)).mono ?_; rintro e w' ⟨rfl, rfl⟩; simp only [])) | (go_at_call 25; go_must (refine (HSL.out _).mono ?_; rintro e w' ⟨rfl, rfl⟩; simp only [])))
  replace HT := hide (HT.out.alloc (.cells #[.int .i64 0] 35))
  obtain ⟨W0, hW0⟩ : ∃ W0, ((w.alloc (.cells #[nmv, .int .i64 ce, .int .i64 wi, pv, sv] 25)).alloc (.cells #[.int .i64 mu, .int .i64 fi, .int .i64 bl] 56)).alloc (.cells #[.int .i64 0] 35) = W0 := ⟨_, rfl⟩
  rw [hW0] at HT
  first | rw [hW0] | skip
  clear hW0
  refine wp_region_held_drew (S := fun w_ => Below W0.heap.size W0 w_) (by kernel_rfl) (below_drewN (Below.refl W0.heap.size W0) 1) (fun hHeld => ?_)
  refine take_at (i := 0) 32 (v := .pointer (some ⟨w.heap.size + 1, 1, none⟩)) rfl rfl (by kernel_rfl) (by kernel_rfl) (by kernel_rfl) (fun _ _ _ h => h) (Or.inl ⟨by rfl, by intro w_ hSw; go_simp⟩) (by assumption) ?_
  try simp only [Act.put, List.setIfInBounds_toArray, List.set_cons_zero, List.set_cons_succ]
  refine take_at (i := 1) 33 (v := .int .i64 fi) rfl rfl (by kernel_rfl) (by kernel_rfl) (by kernel_rfl) (fun _ _ _ h => h) (Or.inl ⟨by rfl, by intro w_ hSw; have c1 : w_.cell? ⟨w.heap.size + 1, 1, none⟩ = some (.int .i64 fi) := (HT.out _ hSw).1.2.cell 1; go_simp⟩) (by assumption) ?_
  try simp only [Act.put, List.setIfInBounds_toArray, List.set_cons_zero, List.set_cons_succ]
  refine take_at (i := 2) 34 (v := .int .i64 N) rfl rfl (by kernel_rfl) (by kernel_rfl) (by kernel_rfl) (fun _ _ _ h => h) (Or.inl ⟨by rfl, by intro w_ hSw; go_simp⟩) (by assumption) ?_
  try simp only [Act.put, List.setIfInBounds_toArray, List.set_cons_zero, List.set_cons_succ]
  refine take_at (i := 3) 35 (v := .int .i64 0) rfl rfl (by kernel_rfl) (by kernel_rfl) (by kernel_rfl) (fun _ _ _ h => h) (Or.inl ⟨by rfl, by intro w_ hSw; go_simp⟩) (by assumption) ?_
  try simp only [Act.put, List.setIfInBounds_toArray, List.set_cons_zero, List.set_cons_succ]
  refine take_at (i := 4) 36 (v := .bool true) rfl rfl (by kernel_rfl) (by kernel_rfl) (by kernel_rfl) (fun _ _ _ h => h) (Or.inl ⟨by rfl, by intro w_ hSw; go_simp⟩) (by assumption) ?_
  try simp only [Act.put, List.setIfInBounds_toArray, List.set_cons_zero, List.set_cons_succ]
  refine take_at (i := 6) 38 (v := .pointer (some ⟨w.heap.size + 1, 1, none⟩)) rfl rfl (by kernel_rfl) (by kernel_rfl) (by kernel_rfl) (fun _ _ _ h => h) (Or.inl ⟨by rfl, by intro w_ hSw; go_simp⟩) (by assumption) ?_
  try simp only [Act.put, List.setIfInBounds_toArray, List.set_cons_zero, List.set_cons_succ]
  refine take_at (i := 7) 39 (v := .int .i64 fi) rfl rfl (by kernel_rfl) (by kernel_rfl) (by kernel_rfl) (fun _ _ _ h => h) (Or.inl ⟨by rfl, by intro w_ hSw; have c1 : w_.cell? ⟨w.heap.size + 1, 1, none⟩ = some (.int .i64 fi) := (HT.out _ hSw).1.2.cell 1; go_simp⟩) (by assumption) ?_
  try simp only [Act.put, List.setIfInBounds_toArray, List.set_cons_zero, List.set_cons_succ]
  refine take_at (i := 8) 40 (v := .int .i64 N) rfl rfl (by kernel_rfl) (by kernel_rfl) (by kernel_rfl) (fun _ _ _ h => h) (Or.inl ⟨by rfl, by intro w_ hSw; go_simp⟩) (by assumption) ?_
  try simp only [Act.put, List.setIfInBounds_toArray, List.set_cons_zero, List.set_cons_succ]
  refine take_at (i := 9) 41 (v := .int .i64 (N * 12)) rfl rfl (by kernel_rfl) (by kernel_rfl) (by kernel_rfl) (fun _ _ _ h => h) (Or.inl ⟨by rfl, by intro w_ hSw; go_simp⟩) (by assumption) ?_
  try simp only [Act.put, List.setIfInBounds_toArray, List.set_cons_zero, List.set_cons_succ]
  refine take_at (i := 10) 42 (v := .pointer (some ⟨w.heap.size + 1, 2, none⟩)) rfl rfl (by kernel_rfl) (by kernel_rfl) (by kernel_rfl) (fun _ _ _ h => h) (Or.inl ⟨by rfl, by intro w_ hSw; go_simp⟩) (by assumption) ?_
  try simp only [Act.put, List.setIfInBounds_toArray, List.set_cons_zero, List.set_cons_succ]
  refine take_at (i := 11) 43 (v := .int .i64 bl) rfl rfl (by kernel_rfl) (by kernel_rfl) (by kernel_rfl) (fun _ _ _ h => h) (Or.inl ⟨by rfl, by intro w_ hSw; have c2 : w_.cell? ⟨w.heap.size + 1, 2, none⟩ = some (.int .i64 bl) := (HT.out _ hSw).1.2.cell 2; go_simp⟩) (by assumption) ?_
  try simp only [Act.put, List.setIfInBounds_toArray, List.set_cons_zero, List.set_cons_succ]
  refine take_at (i := 12) 44 (v := .int .i64 (N * 12 * bl)) rfl rfl (by kernel_rfl) (by kernel_rfl) (by kernel_rfl) (fun _ _ _ h => h) (Or.inl ⟨by rfl, by intro w_ hSw; go_simp⟩) (by assumption) ?_
  try simp only [Act.put, List.setIfInBounds_toArray, List.set_cons_zero, List.set_cons_succ]
  refine take_at (i := 13) 45 (v := .int .i64 (fi + N * 12 * bl)) rfl rfl (by kernel_rfl) (by kernel_rfl) (by kernel_rfl) (fun _ _ _ h => h) (Or.inl ⟨by rfl, by intro w_ hSw; go_simp⟩) (by assumption) ?_
  try simp only [Act.put, List.setIfInBounds_toArray, List.set_cons_zero, List.set_cons_succ]
  refine take_at (i := 14) 46 (v := .pointer (some ⟨w.heap.size, 2, none⟩)) rfl rfl (by kernel_rfl) (by kernel_rfl) (by kernel_rfl) (fun _ _ _ h => h) (Or.inl ⟨by rfl, by intro w_ hSw; go_simp⟩) (by assumption) ?_
  try simp only [Act.put, List.setIfInBounds_toArray, List.set_cons_zero, List.set_cons_succ]
  refine take_at (i := 15) 47 (v := .int .i64 wi) rfl rfl (by kernel_rfl) (by kernel_rfl) (by kernel_rfl) (fun _ _ _ h => h) (Or.inl ⟨by rfl, by intro w_ hSw; have c2 : w_.cell? ⟨w.heap.size, 2, none⟩ = some (.int .i64 wi) := (HT.out _ hSw).1.1.cell 2; go_simp⟩) (by assumption) ?_
  try simp only [Act.put, List.setIfInBounds_toArray, List.set_cons_zero, List.set_cons_succ]
  refine take_at (i := 16) 48 (v := .bool true) rfl rfl (by kernel_rfl) (by kernel_rfl) (by kernel_rfl) (fun _ _ _ h => h) (Or.inl ⟨by rfl, by intro w_ hSw; go_simp⟩) (by assumption) ?_
  try simp only [Act.put, List.setIfInBounds_toArray, List.set_cons_zero, List.set_cons_succ]
  refine wpAnyH_ready (rs := [5]) (by kernel_rfl) (by simp) ?_
  refine AllReadyH.cons rfl (fun K hK => ?_) AllReadyH.nil
  go_simp
  go_at_call 23
  refine (unless_yes _ _).mono ?_
  rintro e w' ⟨rfl, rfl⟩
  try simp only []
  refine hK.out _ _ hHeld (fun hHeld => ?_)
  clear hK K
  try simp only [Act.put, List.setIfInBounds_toArray, List.set_cons_zero, List.set_cons_succ]
  refine wpAnyH_ready (rs := [17]) (by kernel_rfl) (by simp) ?_
  refine AllReadyH.cons rfl (fun K hK => ?_) AllReadyH.nil
  go_simp
  go_at_call 23
  refine (unless_yes _ _).mono ?_
  rintro e w' ⟨rfl, rfl⟩
  try simp only []
  refine hK.out _ _ hHeld (fun hHeld => ?_)
  clear hK K
  try simp only [Act.put, List.setIfInBounds_toArray, List.set_cons_zero, List.set_cons_succ]
  refine wpAnyH_ready (rs := [18]) (by kernel_rfl) (by simp) ?_
  refine AllReadyH.cons rfl (fun K hK => ?_) AllReadyH.nil
  go_simp
  refine hK.out _ _ (below_drewN ((Below.refl _ _).alloc (Nat.le_refl _) _) 1) (fun hHeld => ?_)
  clear hK K
  try simp only [Act.put, List.setIfInBounds_toArray, List.set_cons_zero, List.set_cons_succ]
  refine wpAnyH_ready (rs := [19]) (by kernel_rfl) (by simp) ?_
  refine AllReadyH.cons rfl (fun K hK => ?_) AllReadyH.nil
  go_simp
  go_at_call 20
  refine (first_z2d _ _ (by first | rfl | simp)).mono ?_
  rintro e w' ⟨rfl, rfl⟩
  try simp only []
  refine hK.out _ _ hHeld (fun hHeld => ?_)
  clear hK K
  try simp only [Act.put, List.setIfInBounds_toArray, List.set_cons_zero, List.set_cons_succ]
  refine take_at (i := 20) 4 (v := .int .i64 0) rfl rfl (by kernel_rfl) (by kernel_rfl) (by kernel_rfl) (fun _ _ _ h => h) (Or.inl ⟨by rfl, by intro w_ hSw; go_simp⟩) (by assumption) ?_
  try simp only [Act.put, List.setIfInBounds_toArray, List.set_cons_zero, List.set_cons_succ]
  refine wpAnyH_done (by kernel_rfl) ?_ _
  have hfin := hide (Below.step HT.out.now.2 hHeld)
  clear hHeld
  go_wp2_with fail
  go_ret
  exact ⟨rfl, hfin.out⟩
set_option maxRecDepth 100000 in
set_option maxHeartbeats 8000000 in
theorem signalErr_each (nmv : Value) (ce wi : Int) (PA : Option Addr) (pc : Nat) (sv : Value) (P : List Prt) (S : List Sig) (s : Sig) (w : World) (hc : OkCr ce wi P S) (hs : OkSg P s) (hP : Prts w PA P) (hcs : s.sl = -1) :
    Calls Try.prog 66 #[.agg #[nmv, .int .i64 ce, .int .i64 wi, .slice PA P.length pc, sv], .agg #[.int .i64 s.kd, .int .i64 s.pa, .int .i64 s.pe, .int .i64 s.of_, .int .i64 s.sl, .int .i64 s.sy, .int .i64 s.sn, .int .i64 s.bk, .int .i64 s.bn, .int .i64 s.st, .int .i64 s.sh]] w fun e w' => e = .returned (.int .i64 0) ∧ Below w.heap.size w w' := by
  have hpk : s.pa.toNat < P.length := by have := hs.pa; omega
  have hbx := hs.bx hpk
  have hp := hc.ps _ (List.getElem_mem hpk)
  have hsl : s.sl = -1 ∨ (0 ≤ s.sl ∧ s.sl < ((2 ^ (P[s.pa.toNat]).mu.toNat : Nat) : Int)) := by
    rcases hs.sl with h | h
    · exact .inl h
    · exact .inr ⟨h.1, h.2 hpk⟩
  have hpl := hc.pn.2
  have hpa := hs.pa
  have hkd := hs.kd
  have hpe := hs.pe
  have hdv := hs.dv
  have hof := hs.of_
  have hst := hs.st
  have hsh := hs.sh
  have bx1 := hbx.sy
  have bx2 := hbx.bk
  have pbl := hp.bl
  have HSL := hide (fun W => slotsOf_int hp.mu W)
  have hN1 := pw_int hp.mu
  have hmod : (10240 : Int).tmod s.pe = 0 := by rw [Int.tmod_eq_emod_of_nonneg (by omega)]; exact hdv
  have hpe0 : ¬ s.pe = 0 := by omega
  obtain ⟨k, hk⟩ := Int.eq_ofNat_of_zero_le hpa.1
  have hak : s.pa.toNat = k := by omega
  obtain ⟨b, o, rfl, -⟩ := hP.at_ k (by omega)
  have HPQ := hide (fun W (h : Prts W (some ⟨b, o, none⟩) P) => show W.cell? ⟨b, o + k * 3, none⟩ = some (.int .i64 (P[s.pa.toNat]'hpk).mu) ∧ W.cell? ⟨b, o + k * 3 + 1, none⟩ = some (.int .i64 (P[s.pa.toNat]'hpk).fi) ∧ W.cell? ⟨b, o + k * 3 + 2, none⟩ = some (.int .i64 (P[s.pa.toNat]'hpk).bl) from by
    obtain ⟨b', o', e, c⟩ := h.at_ k (by omega)
    injection e with e; injection e with e1 e2; subst e1 e2
    simp only [hak]
    exact c)
  obtain ⟨p, hpe'⟩ : ∃ p, P[s.pa.toNat]'hpk = p := ⟨_, rfl⟩
  rw [hpe'] at HSL hN1 bx2 pbl HPQ hsl
  obtain ⟨N, hN⟩ : ∃ N : Int, ((2 ^ p.mu.toNat : Nat) : Int) = N := ⟨_, rfl⟩
  rw [hN] at HSL hN1 hsl
  obtain ⟨mu, hmu⟩ : ∃ x, p.mu = x := ⟨_, rfl⟩
  obtain ⟨fi, hfi⟩ : ∃ x, p.fi = x := ⟨_, rfl⟩
  obtain ⟨bl, hbl⟩ : ∃ x, p.bl = x := ⟨_, rfl⟩
  rw [hmu] at HSL
  rw [hmu, hfi, hbl] at HPQ
  rw [hbl] at bx2 pbl
  obtain ⟨pn, hpn⟩ : ∃ x, P.length = x := ⟨_, rfl⟩
  have g1 : (k : Int) < (pn : Int) := by omega
  have w1 : IntKind.i64.wrap (N - 1) = N - 1 := IntWalk.i64_in _ (by omega)
  have w2 : IntKind.i64.wrap ((pn : Int) - 1) = (pn : Int) - 1 := IntWalk.i64_in _ (by omega)
  have w3 : IntKind.i64.wrap (s.pe - 1) = s.pe - 1 := IntWalk.i64_in _ (by omega)
  have w4 : IntKind.i64.wrap (s.st - 1) = s.st - 1 := IntWalk.i64_in _ (by omega)
  have HT : Hid (Stay ((w.alloc (.cells #[nmv, .int .i64 ce, .int .i64 wi, .slice (some ⟨b, o, none⟩) P.length pc, sv] 25)).alloc (.cells #[.int .i64 s.kd, .int .i64 s.pa, .int .i64 s.pe, .int .i64 s.of_, .int .i64 s.sl, .int .i64 s.sy, .int .i64 s.sn, .int .i64 s.bk, .int .i64 s.bn, .int .i64 s.st, .int .i64 s.sh] 82)) (fun W => (((Blk W w.heap.size 25 #[nmv, .int .i64 ce, .int .i64 wi, .slice (some ⟨b, o, none⟩) P.length pc, sv] ∧ Blk W (w.heap.size + 1) 82 #[.int .i64 s.kd, .int .i64 s.pa, .int .i64 s.pe, .int .i64 s.of_, .int .i64 s.sl, .int .i64 s.sy, .int .i64 s.sn, .int .i64 s.bk, .int .i64 s.bn, .int .i64 s.st, .int .i64 s.sh]) ∧ Below w.heap.size w W) ∧ Prts W (some ⟨b, o, none⟩) P))) := hide
    (((((stay_blk (Blk.new w 25 #[nmv, .int .i64 ce, .int .i64 wi, .slice (some ⟨b, o, none⟩) P.length pc, sv])).alloc (.cells #[.int .i64 s.kd, .int .i64 s.pa, .int .i64 s.pe, .int .i64 s.of_, .int .i64 s.sl, .int .i64 s.sy, .int .i64 s.sn, .int .i64 s.bk, .int .i64 s.bn, .int .i64 s.st, .int .i64 s.sh] 82)).and (stay_blk (blk_up w 25 82 #[nmv, .int .i64 ce, .int .i64 wi, .slice (some ⟨b, o, none⟩) P.length pc, sv] #[.int .i64 s.kd, .int .i64 s.pa, .int .i64 s.pe, .int .i64 s.of_, .int .i64 s.sl, .int .i64 s.sy, .int .i64 s.sn, .int .i64 s.bk, .int .i64 s.bn, .int .i64 s.st, .int .i64 s.sh]))).and (stay_below (((Below.refl _ w).alloc (Nat.le_refl _) (.cells #[nmv, .int .i64 ce, .int .i64 wi, .slice (some ⟨b, o, none⟩) P.length pc, sv] 25)).alloc (by simp) (.cells #[.int .i64 s.kd, .int .i64 s.pa, .int .i64 s.pe, .int .i64 s.of_, .int .i64 s.sl, .int .i64 s.sy, .int .i64 s.sn, .int .i64 s.bk, .int .i64 s.bn, .int .i64 s.st, .int .i64 s.sh] 82)))).and (((stay_rws hP).alloc (.cells #[nmv, .int .i64 ce, .int .i64 wi, .slice (some ⟨b, o, none⟩) P.length pc, sv] 25)).alloc (.cells #[.int .i64 s.kd, .int .i64 s.pa, .int .i64 s.pe, .int .i64 s.of_, .int .i64 s.sl, .int .i64 s.sy, .int .i64 s.sn, .int .i64 s.bk, .int .i64 s.bn, .int .i64 s.st, .int .i64 s.sh] 82)))
  clear hP hpe' hN hmu hfi hbl hbx hp hc hs hak hdv
  rw [hk] at HT ⊢
  rw [hcs] at HT ⊢
  clear hcs hsl
  rw [hpn] at HT ⊢ hpl
  clear hk hpn
  obtain ⟨W0, hW0⟩ : ∃ W0, (w.alloc (.cells #[nmv, .int .i64 ce, .int .i64 wi, .slice (some ⟨b, o, none⟩) pn pc, sv] 25)).alloc (.cells #[.int .i64 s.kd, .int .i64 (k : Int), .int .i64 s.pe, .int .i64 s.of_, .int .i64 (-1), .int .i64 s.sy, .int .i64 s.sn, .int .i64 s.bk, .int .i64 s.bn, .int .i64 s.st, .int .i64 s.sh] 82) = W0 := ⟨_, rfl⟩
  rw [hW0] at HT
  go_enter Try.func66, Try.ntmps66
  go_wp2_with fail
  first | rw [hW0] | skip
  clear hW0
  refine wp_region_held_drew (S := fun w_ => Below W0.heap.size W0 w_) (by kernel_rfl) (below_drewN (Below.refl W0.heap.size W0) 1) (fun hHeld => ?_)
  refine take_at (i := 0) 9 (v := .pointer (some ⟨w.heap.size + 1, 0, none⟩)) rfl rfl (by kernel_rfl) (by kernel_rfl) (by kernel_rfl) (fun _ _ _ h => h) (Or.inl ⟨by rfl, by intro w_ hSw; go_simp⟩) (by assumption) ?_
  try simp only [Act.put, List.setIfInBounds_toArray, List.set_cons_zero, List.set_cons_succ]
  refine take_at (i := 1) 10 (v := .int .i64 s.kd) rfl rfl (by kernel_rfl) (by kernel_rfl) (by kernel_rfl) (fun _ _ _ h => h) (Or.inl ⟨by rfl, by intro w_ hSw; have c0 : w_.cell? ⟨w.heap.size + 1, 0, none⟩ = some (.int .i64 s.kd) := (HT.out _ hSw).1.1.2.cell 0; go_simp⟩) (by assumption) ?_
  try simp only [Act.put, List.setIfInBounds_toArray, List.set_cons_zero, List.set_cons_succ]
  refine take_at (i := 4) 13 (v := .pointer (some ⟨w.heap.size + 1, 1, none⟩)) rfl rfl (by kernel_rfl) (by kernel_rfl) (by kernel_rfl) (fun _ _ _ h => h) (Or.inl ⟨by rfl, by intro w_ hSw; go_simp⟩) (by assumption) ?_
  try simp only [Act.put, List.setIfInBounds_toArray, List.set_cons_zero, List.set_cons_succ]
  refine take_at (i := 5) 14 (v := .int .i64 (k : Int)) rfl rfl (by kernel_rfl) (by kernel_rfl) (by kernel_rfl) (fun _ _ _ h => h) (Or.inl ⟨by rfl, by intro w_ hSw; have c1 : w_.cell? ⟨w.heap.size + 1, 1, none⟩ = some (.int .i64 (k : Int)) := (HT.out _ hSw).1.1.2.cell 1; go_simp⟩) (by assumption) ?_
  try simp only [Act.put, List.setIfInBounds_toArray, List.set_cons_zero, List.set_cons_succ]
  refine take_at (i := 6) 15 (v := .pointer (some ⟨w.heap.size, 3, none⟩)) rfl rfl (by kernel_rfl) (by kernel_rfl) (by kernel_rfl) (fun _ _ _ h => h) (Or.inl ⟨by rfl, by intro w_ hSw; go_simp⟩) (by assumption) ?_
  try simp only [Act.put, List.setIfInBounds_toArray, List.set_cons_zero, List.set_cons_succ]
  refine take_at (i := 7) 16 (v := .slice (some ⟨b, o, none⟩) pn pc) rfl rfl (by kernel_rfl) (by kernel_rfl) (by kernel_rfl) (fun _ _ _ h => h) (Or.inl ⟨by rfl, by intro w_ hSw; have c3 : w_.cell? ⟨w.heap.size, 3, none⟩ = some (.slice (some ⟨b, o, none⟩) pn pc) := (HT.out _ hSw).1.1.1.cell 3; go_simp⟩) (by assumption) ?_
  try simp only [Act.put, List.setIfInBounds_toArray, List.set_cons_zero, List.set_cons_succ]
  refine take_at (i := 8) 17 (v := .int .i64 (pn : Int)) rfl rfl (by kernel_rfl) (by kernel_rfl) (by kernel_rfl) (fun _ _ _ h => h) (Or.inl ⟨by rfl, by intro w_ hSw; go_simp⟩) (by assumption) ?_
  try simp only [Act.put, List.setIfInBounds_toArray, List.set_cons_zero, List.set_cons_succ]
  refine take_at (i := 9) 18 (v := .int .i64 ((pn : Int) - 1)) rfl rfl (by kernel_rfl) (by kernel_rfl) (by kernel_rfl) (fun _ _ _ h => h) (Or.inl ⟨by rfl, by intro w_ hSw; go_simp⟩) (by assumption) ?_
  try simp only [Act.put, List.setIfInBounds_toArray, List.set_cons_zero, List.set_cons_succ]
  refine take_at (i := 12) 21 (v := .pointer (some ⟨w.heap.size + 1, 2, none⟩)) rfl rfl (by kernel_rfl) (by kernel_rfl) (by kernel_rfl) (fun _ _ _ h => h) (Or.inl ⟨by rfl, by intro w_ hSw; go_simp⟩) (by assumption) ?_
  try simp only [Act.put, List.setIfInBounds_toArray, List.set_cons_zero, List.set_cons_succ]
  refine take_at (i := 13) 22 (v := .int .i64 s.pe) rfl rfl (by kernel_rfl) (by kernel_rfl) (by kernel_rfl) (fun _ _ _ h => h) (Or.inl ⟨by rfl, by intro w_ hSw; have c2 : w_.cell? ⟨w.heap.size + 1, 2, none⟩ = some (.int .i64 s.pe) := (HT.out _ hSw).1.1.2.cell 2; go_simp⟩) (by assumption) ?_
  try simp only [Act.put, List.setIfInBounds_toArray, List.set_cons_zero, List.set_cons_succ]
  refine wpAnyH_ready (rs := [2]) (by kernel_rfl) (by simp) ?_
  refine AllReadyH.cons rfl (fun K hK => ?_) AllReadyH.nil
  go_simp
  go_at_call 37
  refine (within_yes _ _ _ (by omega) _).mono ?_
  rintro e w' ⟨rfl, rfl⟩
  try simp only []
  refine hK.out _ _ hHeld (fun hHeld => ?_)
  clear hK K
  try simp only [Act.put, List.setIfInBounds_toArray, List.set_cons_zero, List.set_cons_succ]
  refine wpAnyH_ready (rs := [3]) (by kernel_rfl) (by simp) ?_
  refine AllReadyH.cons rfl (fun K hK => ?_) AllReadyH.nil
  go_simp
  go_at_call 23
  refine (unless_yes _ _).mono ?_
  rintro e w' ⟨rfl, rfl⟩
  try simp only []
  refine hK.out _ _ hHeld (fun hHeld => ?_)
  clear hK K
  try simp only [Act.put, List.setIfInBounds_toArray, List.set_cons_zero, List.set_cons_succ]
  refine wpAnyH_ready (rs := [10]) (by kernel_rfl) (by simp) ?_
  refine AllReadyH.cons rfl (fun K hK => ?_) AllReadyH.nil
  go_simp
  go_at_call 37
  refine (within_yes _ _ _ (by omega) _).mono ?_
  rintro e w' ⟨rfl, rfl⟩
  try simp only []
  refine hK.out _ _ hHeld (fun hHeld => ?_)
  clear hK K
  try simp only [Act.put, List.setIfInBounds_toArray, List.set_cons_zero, List.set_cons_succ]
  refine wpAnyH_ready (rs := [11]) (by kernel_rfl) (by simp) ?_
  refine AllReadyH.cons rfl (fun K hK => ?_) AllReadyH.nil
  go_simp
  go_at_call 23
  refine (unless_yes _ _).mono ?_
  rintro e w' ⟨rfl, rfl⟩
  try simp only []
  refine hK.out _ _ hHeld (fun hHeld => ?_)
  clear hK K
  try simp only [Act.put, List.setIfInBounds_toArray, List.set_cons_zero, List.set_cons_succ]
  refine wpAnyH_ready (rs := [14]) (by kernel_rfl) (by simp) ?_
  refine AllReadyH.cons rfl (fun K hK => ?_) AllReadyH.nil
  go_simp
  go_at_call 37
  refine (within_yes _ _ _ (by omega) _).mono ?_
  rintro e w' ⟨rfl, rfl⟩
  try simp only []
  refine hK.out _ _ hHeld (fun hHeld => ?_)
  clear hK K
  try simp only [Act.put, List.setIfInBounds_toArray, List.set_cons_zero, List.set_cons_succ]
  refine wpAnyH_ready (rs := [15]) (by kernel_rfl) (by simp) ?_
  refine AllReadyH.cons rfl (fun K hK => ?_) AllReadyH.nil
  go_simp
  go_at_call 23
  refine (unless_yes _ _).mono ?_
  rintro e w' ⟨rfl, rfl⟩
  try simp only []
  refine hK.out _ _ hHeld (fun hHeld => ?_)
  clear hK K
  try simp only [Act.put, List.setIfInBounds_toArray, List.set_cons_zero, List.set_cons_succ]
  refine wpAnyH_ready (rs := [16]) (by kernel_rfl) (by simp) ?_
  refine AllReadyH.cons rfl (fun K hK => ?_) AllReadyH.nil
  go_simp
  refine hK.out _ _ (below_drewN ((Below.refl _ _).alloc (Nat.le_refl _) _) 1) (fun hHeld => ?_)
  clear hK K
  try simp only [Act.put, List.setIfInBounds_toArray, List.set_cons_zero, List.set_cons_succ]
  refine wpAnyH_ready (rs := [17]) (by kernel_rfl) (by simp) ?_
  refine AllReadyH.cons rfl (fun K hK => ?_) AllReadyH.nil
  go_simp
  go_at_call 20
  refine (first_z3d _ _ (by first | rfl | simp)).mono ?_
  rintro e w' ⟨rfl, rfl⟩
  try simp only []
  refine hK.out _ _ hHeld (fun hHeld => ?_)
  clear hK K
  try simp only [Act.put, List.setIfInBounds_toArray, List.set_cons_zero, List.set_cons_succ]
  refine take_at (i := 18) 5 (v := .int .i64 0) rfl rfl (by kernel_rfl) (by kernel_rfl) (by kernel_rfl) (fun _ _ _ h => h) (Or.inl ⟨by rfl, by intro w_ hSw; go_simp⟩) (by assumption) ?_
  try simp only [Act.put, List.setIfInBounds_toArray, List.set_cons_zero, List.set_cons_succ]
  refine wpAnyH_done (by kernel_rfl) ?_ _
  replace HT := hide (HT.out.step hHeld)
  clear hHeld
  obtain ⟨W1, hW1⟩ : ∃ W1, (W0.alloc (.cells #[.int .i64 0, .int .i64 0, .int .i64 0] 35)).drew = W1 := ⟨_, rfl⟩
  first | rw [hW1] at HT ⊢ | (change Hid (Stay (W0.alloc (.cells #[.int .i64 0, .int .i64 0, .int .i64 0] 35)).drew _) at HT; rw [hW1] at HT ⊢)
  clear hW1
  have c3 : W1.cell? ⟨w.heap.size, 3, none⟩ = some (.slice (some ⟨b, o, none⟩) pn pc) := HT.out.now.1.1.1.cell 3
  have a1 : W1.cell? ⟨w.heap.size + 1, 1, none⟩ = some (.int .i64 (k : Int)) := HT.out.now.1.1.2.cell 1
  have p0 := (HPQ.out _ HT.out.now.2).1
  have p1 := (HPQ.out _ HT.out.now.2).2.1
  have p2 := (HPQ.out _ HT.out.now.2).2.2
  go_wp2_with fail
  clear c3 a1 p0 p1 p2
  replace HT := hide ((HT.out.alloc (.cells #[.int .i64 mu, .int .i64 fi, .int .i64 bl] 56)).and (stay_blk (Blk.new W1 56 #[.int .i64 mu, .int .i64 fi, .int .i64 bl])))
  obtain ⟨W2, hW2⟩ : ∃ W2, W1.alloc (.cells #[.int .i64 mu, .int .i64 fi, .int .i64 bl] 56) = W2 := ⟨_, rfl⟩
  rw [hW2] at HT ⊢
  clear hW2
  refine wp_region_held_drew (S := fun w_ => Below W2.heap.size W2 w_) (by kernel_rfl) (below_drewN (Below.refl W2.heap.size W2) 1) (fun hHeld => ?_)
  refine take_at (i := 0) 36 (v := .pointer (some ⟨w.heap.size + 1, 3, none⟩)) rfl rfl (by kernel_rfl) (by kernel_rfl) (by kernel_rfl) (fun _ _ _ h => h) (Or.inl ⟨by rfl, by intro w_ hSw; go_simp⟩) (by assumption) ?_
  try simp only [Act.put, List.setIfInBounds_toArray, List.set_cons_zero, List.set_cons_succ]
  refine take_at (i := 1) 37 (v := .int .i64 s.of_) rfl rfl (by kernel_rfl) (by kernel_rfl) (by kernel_rfl) (fun _ _ _ h => h) (Or.inl ⟨by rfl, by intro w_ hSw; have c3 : w_.cell? ⟨w.heap.size + 1, 3, none⟩ = some (.int .i64 s.of_) := (HT.out _ hSw).1.1.1.2.cell 3; go_simp⟩) (by assumption) ?_
  try simp only [Act.put, List.setIfInBounds_toArray, List.set_cons_zero, List.set_cons_succ]
  refine take_at (i := 2) 38 (v := .pointer (some ⟨w.heap.size + 1, 2, none⟩)) rfl rfl (by kernel_rfl) (by kernel_rfl) (by kernel_rfl) (fun _ _ _ h => h) (Or.inl ⟨by rfl, by intro w_ hSw; go_simp⟩) (by assumption) ?_
  try simp only [Act.put, List.setIfInBounds_toArray, List.set_cons_zero, List.set_cons_succ]
  refine take_at (i := 3) 39 (v := .int .i64 s.pe) rfl rfl (by kernel_rfl) (by kernel_rfl) (by kernel_rfl) (fun _ _ _ h => h) (Or.inl ⟨by rfl, by intro w_ hSw; have c2 : w_.cell? ⟨w.heap.size + 1, 2, none⟩ = some (.int .i64 s.pe) := (HT.out _ hSw).1.1.1.2.cell 2; go_simp⟩) (by assumption) ?_
  try simp only [Act.put, List.setIfInBounds_toArray, List.set_cons_zero, List.set_cons_succ]
  refine take_at (i := 4) 40 (v := .int .i64 (s.pe - 1)) rfl rfl (by kernel_rfl) (by kernel_rfl) (by kernel_rfl) (fun _ _ _ h => h) (Or.inl ⟨by rfl, by intro w_ hSw; go_simp⟩) (by assumption) ?_
  try simp only [Act.put, List.setIfInBounds_toArray, List.set_cons_zero, List.set_cons_succ]
  refine wpAnyH_ready (rs := [5]) (by kernel_rfl) (by simp) ?_
  refine AllReadyH.cons rfl (fun K hK => ?_) AllReadyH.nil
  go_simp
  go_at_call 37
  refine (within_yes _ _ _ (by omega) _).mono ?_
  rintro e w' ⟨rfl, rfl⟩
  try simp only []
  refine hK.out _ _ hHeld (fun hHeld => ?_)
  clear hK K
  try simp only [Act.put, List.setIfInBounds_toArray, List.set_cons_zero, List.set_cons_succ]
  refine take_at (i := 6) 42 (v := .bool true) rfl rfl (by kernel_rfl) (by kernel_rfl) (by kernel_rfl) (fun _ _ _ h => h) (Or.inl ⟨by rfl, by intro w_ hSw; go_simp⟩) (by assumption) ?_
  try simp only [Act.put, List.setIfInBounds_toArray, List.set_cons_zero, List.set_cons_succ]
  refine take_at (i := 7) 43 (v := .pointer (some ⟨w.heap.size + 1, 4, none⟩)) rfl rfl (by kernel_rfl) (by kernel_rfl) (by kernel_rfl) (fun _ _ _ h => h) (Or.inl ⟨by rfl, by intro w_ hSw; go_simp⟩) (by assumption) ?_
  try simp only [Act.put, List.setIfInBounds_toArray, List.set_cons_zero, List.set_cons_succ]
  refine take_at (i := 8) 44 (v := .int .i64 (-1)) rfl rfl (by kernel_rfl) (by kernel_rfl) (by kernel_rfl) (fun _ _ _ h => h) (Or.inl ⟨by rfl, by intro w_ hSw; have c4 : w_.cell? ⟨w.heap.size + 1, 4, none⟩ = some (.int .i64 (-1)) := (HT.out _ hSw).1.1.1.2.cell 4; go_simp⟩) (by assumption) ?_
  try simp only [Act.put, List.setIfInBounds_toArray, List.set_cons_zero, List.set_cons_succ]
  refine take_at (i := 9) 45 (v := .bool true) rfl rfl (by kernel_rfl) (by kernel_rfl) (by kernel_rfl) (fun _ _ _ h => h) (Or.inl ⟨by rfl, by intro w_ hSw; go_simp⟩) (by assumption) ?_
  try simp only [Act.put, List.setIfInBounds_toArray, List.set_cons_zero, List.set_cons_succ]
  refine take_at (i := 10) 46 (v := .bool true) rfl rfl (by kernel_rfl) (by kernel_rfl) (by kernel_rfl) (fun _ _ _ h => h) (Or.inl ⟨by rfl, by intro w_ hSw; go_simp⟩) (by assumption) ?_
  try simp only [Act.put, List.setIfInBounds_toArray, List.set_cons_zero, List.set_cons_succ]
  refine take_at (i := 11) 47 (v := undef) rfl rfl (by kernel_rfl) (by kernel_rfl) (by kernel_rfl) (fun _ _ _ h => h) (Or.inr ⟨by rfl, by rfl⟩) (by assumption) ?_
  try simp only [Act.put, List.setIfInBounds_toArray, List.set_cons_zero, List.set_cons_succ]
  refine take_at (i := 12) 48 (v := undef) rfl rfl (by kernel_rfl) (by kernel_rfl) (by kernel_rfl) (fun _ _ _ h => h) (Or.inr ⟨by rfl, by rfl⟩) (by assumption) ?_
  try simp only [Act.put, List.setIfInBounds_toArray, List.set_cons_zero, List.set_cons_succ]
  refine take_at (i := 13) 49 (v := undef) rfl rfl (by kernel_rfl) (by kernel_rfl) (by kernel_rfl) (fun _ _ _ h => h) (Or.inr ⟨by rfl, by rfl⟩) (by assumption) ?_
  try simp only [Act.put, List.setIfInBounds_toArray, List.set_cons_zero, List.set_cons_succ]
  refine take_at (i := 14) 50 (v := undef) rfl rfl (by kernel_rfl) (by kernel_rfl) (by kernel_rfl) (fun _ _ _ h => h) (Or.inr ⟨by rfl, by rfl⟩) (by assumption) ?_
  try simp only [Act.put, List.setIfInBounds_toArray, List.set_cons_zero, List.set_cons_succ]
  refine take_at (i := 15) 51 (v := undef) rfl rfl (by kernel_rfl) (by kernel_rfl) (by kernel_rfl) (fun _ _ _ h => h) (Or.inr ⟨by rfl, by rfl⟩) (by assumption) ?_
  try simp only [Act.put, List.setIfInBounds_toArray, List.set_cons_zero, List.set_cons_succ]
  refine take_at (i := 16) 52 (v := undef) rfl rfl (by kernel_rfl) (by kernel_rfl) (by kernel_rfl) (fun _ _ _ h => h) (Or.inr ⟨by rfl, by rfl⟩) (by assumption) ?_
  try simp only [Act.put, List.setIfInBounds_toArray, List.set_cons_zero, List.set_cons_succ]
  refine take_at (i := 17) 53 (v := undef) rfl rfl (by kernel_rfl) (by kernel_rfl) (by kernel_rfl) (fun _ _ _ h => h) (Or.inr ⟨by rfl, by rfl⟩) (by assumption) ?_
  try simp only [Act.put, List.setIfInBounds_toArray, List.set_cons_zero, List.set_cons_succ]
  refine take_at (i := 18) 54 (v := .bool true) rfl rfl (by kernel_rfl) (by kernel_rfl) (by kernel_rfl) (fun _ _ _ h => h) (Or.inl ⟨by rfl, by intro w_ hSw; go_simp⟩) (by assumption) ?_
  try simp only [Act.put, List.setIfInBounds_toArray, List.set_cons_zero, List.set_cons_succ]
  refine take_at (i := 19) 55 (v := .bool true) rfl rfl (by kernel_rfl) (by kernel_rfl) (by kernel_rfl) (fun _ _ _ h => h) (Or.inl ⟨by rfl, by intro w_ hSw; go_simp⟩) (by assumption) ?_
  try simp only [Act.put, List.setIfInBounds_toArray, List.set_cons_zero, List.set_cons_succ]
  refine take_at (i := 20) 7 (v := .bool true) rfl rfl (by kernel_rfl) (by kernel_rfl) (by kernel_rfl) (fun _ _ _ h => h) (Or.inl ⟨by rfl, by intro w_ hSw; go_simp⟩) (by assumption) ?_
  try simp only [Act.put, List.setIfInBounds_toArray, List.set_cons_zero, List.set_cons_succ]
  refine wpAnyH_done (by kernel_rfl) ?_ _
  replace HT := hide (HT.out.step hHeld)
  clear hHeld
  obtain ⟨W3, hW3⟩ : ∃ W3, W2.drew = W3 := ⟨_, rfl⟩
  first | rw [hW3] at HT ⊢ | (change Hid (Stay W2.drew _) at HT; rw [hW3] at HT ⊢)
  clear hW3
  have a9 : W3.cell? ⟨w.heap.size + 1, 9, none⟩ = some (.int .i64 s.st) := HT.out.now.1.1.1.2.cell 9
  have a10 : W3.cell? ⟨w.heap.size + 1, 10, none⟩ = some (.int .i64 s.sh) := HT.out.now.1.1.1.2.cell 10
  go_wp2_with (first | (go_at_call 37; go_must (refine (within_yes _ _ _ (by omega) _).mono ?_; rintro e w' ⟨rfl, rfl⟩; simp only [])) | (go_at_call 23; go_must (refine (unless_yes _ _).mono ?_; rintro e w' ⟨rfl, rfl⟩; simp only [])))
  clear a9 a10
  refine wp_region_held_drew (S := fun w_ => Below W3.heap.size W3 w_) (by kernel_rfl) (below_drewN (Below.refl W3.heap.size W3) 1) (fun hHeld => ?_)
  refine take_at (i := 0) 67 (v := .pointer (some ⟨w.heap.size + 1, 2, none⟩)) rfl rfl (by kernel_rfl) (by kernel_rfl) (by kernel_rfl) (fun _ _ _ h => h) (Or.inl ⟨by rfl, by intro w_ hSw; go_simp⟩) (by assumption) ?_
  try simp only [Act.put, List.setIfInBounds_toArray, List.set_cons_zero, List.set_cons_succ]
  refine take_at (i := 1) 68 (v := .int .i64 s.pe) rfl rfl (by kernel_rfl) (by kernel_rfl) (by kernel_rfl) (fun _ _ _ h => h) (Or.inl ⟨by rfl, by intro w_ hSw; have c2 : w_.cell? ⟨w.heap.size + 1, 2, none⟩ = some (.int .i64 s.pe) := (HT.out _ hSw).1.1.1.2.cell 2; go_simp⟩) (by assumption) ?_
  try simp only [Act.put, List.setIfInBounds_toArray, List.set_cons_zero, List.set_cons_succ]
  refine take_at (i := 2) 69 (v := .int .i64 0) rfl rfl (by kernel_rfl) (by kernel_rfl) (by kernel_rfl) (fun _ _ _ h => h) (Or.inl ⟨by rfl, by intro w_ hSw; go_simp⟩) (by assumption) ?_
  try simp only [Act.put, List.setIfInBounds_toArray, List.set_cons_zero, List.set_cons_succ]
  refine take_at (i := 3) 70 (v := .bool true) rfl rfl (by kernel_rfl) (by kernel_rfl) (by kernel_rfl) (fun _ _ _ h => h) (Or.inl ⟨by rfl, by intro w_ hSw; go_simp⟩) (by assumption) ?_
  try simp only [Act.put, List.setIfInBounds_toArray, List.set_cons_zero, List.set_cons_succ]
  refine take_at (i := 5) 72 (v := .bool true) rfl rfl (by kernel_rfl) (by kernel_rfl) (by kernel_rfl) (fun _ _ _ h => h) (Or.inl ⟨by rfl, by intro w_ hSw; go_simp⟩) (by assumption) ?_
  try simp only [Act.put, List.setIfInBounds_toArray, List.set_cons_zero, List.set_cons_succ]
  refine take_at (i := 10) 77 (v := .agg #[.int .i64 s.kd, .int .i64 (k : Int), .int .i64 s.pe, .int .i64 s.of_, .int .i64 (-1), .int .i64 s.sy, .int .i64 s.sn, .int .i64 s.bk, .int .i64 s.bn, .int .i64 s.st, .int .i64 s.sh]) rfl rfl (by kernel_rfl) (by kernel_rfl) (by kernel_rfl) (fun _ _ _ h => h) (Or.inl ⟨by rfl, by intro w_ hSw; have c0 : w_.cell? ⟨w.heap.size + 1, 0, none⟩ = some (.int .i64 s.kd) := (HT.out _ hSw).1.1.1.2.cell 0; have c1 : w_.cell? ⟨w.heap.size + 1, 1, none⟩ = some (.int .i64 (k : Int)) := (HT.out _ hSw).1.1.1.2.cell 1; have c2 : w_.cell? ⟨w.heap.size + 1, 2, none⟩ = some (.int .i64 s.pe) := (HT.out _ hSw).1.1.1.2.cell 2; have c3 : w_.cell? ⟨w.heap.size + 1, 3, none⟩ = some (.int .i64 s.of_) := (HT.out _ hSw).1.1.1.2.cell 3; have c4 : w_.cell? ⟨w.heap.size + 1, 4, none⟩ = some (.int .i64 (-1)) := (HT.out _ hSw).1.1.1.2.cell 4; have c5 : w_.cell? ⟨w.heap.size + 1, 5, none⟩ = some (.int .i64 s.sy) := (HT.out _ hSw).1.1.1.2.cell 5; have c6 : w_.cell? ⟨w.heap.size + 1, 6, none⟩ = some (.int .i64 s.sn) := (HT.out _ hSw).1.1.1.2.cell 6; have c7 : w_.cell? ⟨w.heap.size + 1, 7, none⟩ = some (.int .i64 s.bk) := (HT.out _ hSw).1.1.1.2.cell 7; have c8 : w_.cell? ⟨w.heap.size + 1, 8, none⟩ = some (.int .i64 s.bn) := (HT.out _ hSw).1.1.1.2.cell 8; have c9 : w_.cell? ⟨w.heap.size + 1, 9, none⟩ = some (.int .i64 s.st) := (HT.out _ hSw).1.1.1.2.cell 9; have c10 : w_.cell? ⟨w.heap.size + 1, 10, none⟩ = some (.int .i64 s.sh) := (HT.out _ hSw).1.1.1.2.cell 10; go_simp⟩) (by assumption) ?_
  try simp only [Act.put, List.setIfInBounds_toArray, List.set_cons_zero, List.set_cons_succ]
  refine take_at (i := 12) 79 (v := .agg #[.int .i64 mu, .int .i64 fi, .int .i64 bl]) rfl rfl (by kernel_rfl) (by kernel_rfl) (by kernel_rfl) (fun _ _ _ h => h) (Or.inl ⟨by rfl, by intro w_ hSw; have c0 : w_.cell? ⟨W1.heap.size, 0, none⟩ = some (.int .i64 mu) := (HT.out _ hSw).2.cell 0; have c1 : w_.cell? ⟨W1.heap.size, 1, none⟩ = some (.int .i64 fi) := (HT.out _ hSw).2.cell 1; have c2 : w_.cell? ⟨W1.heap.size, 2, none⟩ = some (.int .i64 bl) := (HT.out _ hSw).2.cell 2; go_simp⟩) (by assumption) ?_
  try simp only [Act.put, List.setIfInBounds_toArray, List.set_cons_zero, List.set_cons_succ]
  refine take_at (i := 14) 81 (v := .agg #[.int .i64 s.kd, .int .i64 (k : Int), .int .i64 s.pe, .int .i64 s.of_, .int .i64 (-1), .int .i64 s.sy, .int .i64 s.sn, .int .i64 s.bk, .int .i64 s.bn, .int .i64 s.st, .int .i64 s.sh]) rfl rfl (by kernel_rfl) (by kernel_rfl) (by kernel_rfl) (fun _ _ _ h => h) (Or.inl ⟨by rfl, by intro w_ hSw; have c0 : w_.cell? ⟨w.heap.size + 1, 0, none⟩ = some (.int .i64 s.kd) := (HT.out _ hSw).1.1.1.2.cell 0; have c1 : w_.cell? ⟨w.heap.size + 1, 1, none⟩ = some (.int .i64 (k : Int)) := (HT.out _ hSw).1.1.1.2.cell 1; have c2 : w_.cell? ⟨w.heap.size + 1, 2, none⟩ = some (.int .i64 s.pe) := (HT.out _ hSw).1.1.1.2.cell 2; have c3 : w_.cell? ⟨w.heap.size + 1, 3, none⟩ = some (.int .i64 s.of_) := (HT.out _ hSw).1.1.1.2.cell 3; have c4 : w_.cell? ⟨w.heap.size + 1, 4, none⟩ = some (.int .i64 (-1)) := (HT.out _ hSw).1.1.1.2.cell 4; have c5 : w_.cell? ⟨w.heap.size + 1, 5, none⟩ = some (.int .i64 s.sy) := (HT.out _ hSw).1.1.1.2.cell 5; have c6 : w_.cell? ⟨w.heap.size + 1, 6, none⟩ = some (.int .i64 s.sn) := (HT.out _ hSw).1.1.1.2.cell 6; have c7 : w_.cell? ⟨w.heap.size + 1, 7, none⟩ = some (.int .i64 s.bk) := (HT.out _ hSw).1.1.1.2.cell 7; have c8 : w_.cell? ⟨w.heap.size + 1, 8, none⟩ = some (.int .i64 s.bn) := (HT.out _ hSw).1.1.1.2.cell 8; have c9 : w_.cell? ⟨w.heap.size + 1, 9, none⟩ = some (.int .i64 s.st) := (HT.out _ hSw).1.1.1.2.cell 9; have c10 : w_.cell? ⟨w.heap.size + 1, 10, none⟩ = some (.int .i64 s.sh) := (HT.out _ hSw).1.1.1.2.cell 10; go_simp⟩) (by assumption) ?_
  try simp only [Act.put, List.setIfInBounds_toArray, List.set_cons_zero, List.set_cons_succ]
  refine take_at (i := 16) 83 (v := .agg #[.int .i64 mu, .int .i64 fi, .int .i64 bl]) rfl rfl (by kernel_rfl) (by kernel_rfl) (by kernel_rfl) (fun _ _ _ h => h) (Or.inl ⟨by rfl, by intro w_ hSw; have c0 : w_.cell? ⟨W1.heap.size, 0, none⟩ = some (.int .i64 mu) := (HT.out _ hSw).2.cell 0; have c1 : w_.cell? ⟨W1.heap.size, 1, none⟩ = some (.int .i64 fi) := (HT.out _ hSw).2.cell 1; have c2 : w_.cell? ⟨W1.heap.size, 2, none⟩ = some (.int .i64 bl) := (HT.out _ hSw).2.cell 2; go_simp⟩) (by assumption) ?_
  try simp only [Act.put, List.setIfInBounds_toArray, List.set_cons_zero, List.set_cons_succ]
  refine wpAnyH_ready (rs := [4]) (by kernel_rfl) (by simp) ?_
  refine AllReadyH.cons rfl (fun K hK => ?_) AllReadyH.nil
  go_simp
  go_at_call 23
  refine (unless_yes _ _).mono ?_
  rintro e w' ⟨rfl, rfl⟩
  try simp only []
  refine hK.out _ _ hHeld (fun hHeld => ?_)
  clear hK K
  try simp only [Act.put, List.setIfInBounds_toArray, List.set_cons_zero, List.set_cons_succ]
  refine take_at (i := 6) 73 (v := .bool true) rfl rfl (by kernel_rfl) (by kernel_rfl) (by kernel_rfl) (fun _ _ _ h => h) (Or.inl ⟨by rfl, by intro w_ hSw; go_simp⟩) (by assumption) ?_
  try simp only [Act.put, List.setIfInBounds_toArray, List.set_cons_zero, List.set_cons_succ]
  refine take_at (i := 7) 74 (v := .bool true) rfl rfl (by kernel_rfl) (by kernel_rfl) (by kernel_rfl) (fun _ _ _ h => h) (Or.inl ⟨by rfl, by intro w_ hSw; go_simp⟩) (by assumption) ?_
  try simp only [Act.put, List.setIfInBounds_toArray, List.set_cons_zero, List.set_cons_succ]
  refine take_at (i := 8) 75 (v := .bool true) rfl rfl (by kernel_rfl) (by kernel_rfl) (by kernel_rfl) (fun _ _ _ h => h) (Or.inl ⟨by rfl, by intro w_ hSw; go_simp⟩) (by assumption) ?_
  try simp only [Act.put, List.setIfInBounds_toArray, List.set_cons_zero, List.set_cons_succ]
  refine wpAnyH_ready (rs := [9]) (by kernel_rfl) (by simp) ?_
  refine AllReadyH.cons rfl (fun K hK => ?_) AllReadyH.nil
  go_simp
  go_at_call 23
  refine (unless_yes _ _).mono ?_
  rintro e w' ⟨rfl, rfl⟩
  try simp only []
  refine hK.out _ _ hHeld (fun hHeld => ?_)
  clear hK K
  try simp only [Act.put, List.setIfInBounds_toArray, List.set_cons_zero, List.set_cons_succ]
  refine wpAnyH_ready (rs := [11]) (by kernel_rfl) (by simp) ?_
  refine AllReadyH.cons rfl (fun K hK => ?_) AllReadyH.nil
  go_simp
  go_at_call 71
  refine (boxOf_ok _ _ _ _ _ _ _ _ _ _ _ _).mono ?_
  rintro e v7_1 ⟨rfl, hb⟩
  replace hHeld := Below.step hHeld hb
  clear hb
  try simp only []
  refine hK.out _ _ hHeld (fun hHeld => ?_)
  clear hK K
  try simp only [Act.put, List.setIfInBounds_toArray, List.set_cons_zero, List.set_cons_succ]
  refine wpAnyH_ready (rs := [13]) (by kernel_rfl) (by simp) ?_
  refine AllReadyH.cons rfl (fun K hK => ?_) AllReadyH.nil
  go_simp
  go_at_call 43
  refine (rangeErr_ok _ _ _ _ _ _ _ _ (by omega) (by omega) (by omega) (by omega) (by omega)).mono ?_
  rintro e v7_2 ⟨rfl, hb⟩
  replace hHeld := Below.step hHeld hb
  clear hb
  try simp only []
  refine hK.out _ _ hHeld (fun hHeld => ?_)
  clear hK K
  try simp only [Act.put, List.setIfInBounds_toArray, List.set_cons_zero, List.set_cons_succ]
  refine wpAnyH_ready (rs := [15]) (by kernel_rfl) (by simp) ?_
  refine AllReadyH.cons rfl (fun K hK => ?_) AllReadyH.nil
  go_simp
  go_at_call 71
  refine (boxOf_ok _ _ _ _ _ _ _ _ _ _ _ _).mono ?_
  rintro e v7_3 ⟨rfl, hb⟩
  replace hHeld := Below.step hHeld hb
  clear hb
  try simp only []
  refine hK.out _ _ hHeld (fun hHeld => ?_)
  clear hK K
  try simp only [Act.put, List.setIfInBounds_toArray, List.set_cons_zero, List.set_cons_succ]
  refine wpAnyH_ready (rs := [17]) (by kernel_rfl) (by simp) ?_
  refine AllReadyH.cons rfl (fun K hK => ?_) AllReadyH.nil
  go_simp
  go_at_call 44
  refine (breakErr_ok _ _ _ _ _ _ _ _ (by omega) (by omega) (by omega)).mono ?_
  rintro e v7_4 ⟨rfl, hb⟩
  replace hHeld := Below.step hHeld hb
  clear hb
  try simp only []
  refine hK.out _ _ hHeld (fun hHeld => ?_)
  clear hK K
  try simp only [Act.put, List.setIfInBounds_toArray, List.set_cons_zero, List.set_cons_succ]
  refine wpAnyH_ready (rs := [18]) (by kernel_rfl) (by simp) ?_
  refine AllReadyH.cons rfl (fun K hK => ?_) AllReadyH.nil
  go_simp
  refine hK.out _ _ (hHeld.alloc hHeld.size _) (fun hHeld => ?_)
  clear hK K
  try simp only [Act.put, List.setIfInBounds_toArray, List.set_cons_zero, List.set_cons_succ]
  refine wpAnyH_ready (rs := [19]) (by kernel_rfl) (by simp) ?_
  refine AllReadyH.cons rfl (fun K hK => ?_) AllReadyH.nil
  go_simp
  go_at_call 20
  refine (first_z4 _ _ (by first | rfl | simp)).mono ?_
  rintro e w' ⟨rfl, rfl⟩
  try simp only []
  refine hK.out _ _ hHeld (fun hHeld => ?_)
  clear hK K
  try simp only [Act.put, List.setIfInBounds_toArray, List.set_cons_zero, List.set_cons_succ]
  refine take_at (i := 20) 4 (v := .int .i64 0) rfl rfl (by kernel_rfl) (by kernel_rfl) (by kernel_rfl) (fun _ _ _ h => h) (Or.inl ⟨by rfl, by intro w_ hSw; go_simp⟩) (by assumption) ?_
  try simp only [Act.put, List.setIfInBounds_toArray, List.set_cons_zero, List.set_cons_succ]
  refine wpAnyH_done (by kernel_rfl) ?_ _
  have hfin := hide (Below.step HT.out.now.1.1.2 hHeld)
  clear hHeld
  go_wp2_with fail
  go_ret
  exact ⟨rfl, hfin.out⟩
set_option maxRecDepth 100000 in
set_option maxHeartbeats 8000000 in
theorem signalErr_one (nmv : Value) (ce wi : Int) (PA : Option Addr) (pc : Nat) (sv : Value) (P : List Prt) (S : List Sig) (s : Sig) (w : World) (hc : OkCr ce wi P S) (hs : OkSg P s) (hP : Prts w PA P) (hcs : ¬ s.sl = -1) :
    Calls Try.prog 66 #[.agg #[nmv, .int .i64 ce, .int .i64 wi, .slice PA P.length pc, sv], .agg #[.int .i64 s.kd, .int .i64 s.pa, .int .i64 s.pe, .int .i64 s.of_, .int .i64 s.sl, .int .i64 s.sy, .int .i64 s.sn, .int .i64 s.bk, .int .i64 s.bn, .int .i64 s.st, .int .i64 s.sh]] w fun e w' => e = .returned (.int .i64 0) ∧ Below w.heap.size w w' := by
  have hpk : s.pa.toNat < P.length := by have := hs.pa; omega
  have hbx := hs.bx hpk
  have hp := hc.ps _ (List.getElem_mem hpk)
  have hsl : s.sl = -1 ∨ (0 ≤ s.sl ∧ s.sl < ((2 ^ (P[s.pa.toNat]).mu.toNat : Nat) : Int)) := by
    rcases hs.sl with h | h
    · exact .inl h
    · exact .inr ⟨h.1, h.2 hpk⟩
  have hpl := hc.pn.2
  have hpa := hs.pa
  have hkd := hs.kd
  have hpe := hs.pe
  have hdv := hs.dv
  have hof := hs.of_
  have hst := hs.st
  have hsh := hs.sh
  have bx1 := hbx.sy
  have bx2 := hbx.bk
  have pbl := hp.bl
  have HSL := hide (fun W => slotsOf_int hp.mu W)
  have hN1 := pw_int hp.mu
  have hmod : (10240 : Int).tmod s.pe = 0 := by rw [Int.tmod_eq_emod_of_nonneg (by omega)]; exact hdv
  have hpe0 : ¬ s.pe = 0 := by omega
  have hslb : decide (s.sl = -1) = false := decide_eq_false hcs
  have hslc : (s.sl == -1) = false := by rw [beq_eq_false_iff_ne]; exact hcs
  obtain ⟨k, hk⟩ := Int.eq_ofNat_of_zero_le hpa.1
  have hak : s.pa.toNat = k := by omega
  obtain ⟨b, o, rfl, -⟩ := hP.at_ k (by omega)
  have HPQ := hide (fun W (h : Prts W (some ⟨b, o, none⟩) P) => show W.cell? ⟨b, o + k * 3, none⟩ = some (.int .i64 (P[s.pa.toNat]'hpk).mu) ∧ W.cell? ⟨b, o + k * 3 + 1, none⟩ = some (.int .i64 (P[s.pa.toNat]'hpk).fi) ∧ W.cell? ⟨b, o + k * 3 + 2, none⟩ = some (.int .i64 (P[s.pa.toNat]'hpk).bl) from by
    obtain ⟨b', o', e, c⟩ := h.at_ k (by omega)
    injection e with e; injection e with e1 e2; subst e1 e2
    simp only [hak]
    exact c)
  obtain ⟨p, hpe'⟩ : ∃ p, P[s.pa.toNat]'hpk = p := ⟨_, rfl⟩
  rw [hpe'] at HSL hN1 bx2 pbl HPQ hsl
  obtain ⟨N, hN⟩ : ∃ N : Int, ((2 ^ p.mu.toNat : Nat) : Int) = N := ⟨_, rfl⟩
  rw [hN] at HSL hN1 hsl
  obtain ⟨mu, hmu⟩ : ∃ x, p.mu = x := ⟨_, rfl⟩
  obtain ⟨fi, hfi⟩ : ∃ x, p.fi = x := ⟨_, rfl⟩
  obtain ⟨bl, hbl⟩ : ∃ x, p.bl = x := ⟨_, rfl⟩
  rw [hmu] at HSL
  rw [hmu, hfi, hbl] at HPQ
  rw [hbl] at bx2 pbl
  obtain ⟨pn, hpn⟩ : ∃ x, P.length = x := ⟨_, rfl⟩
  have g1 : (k : Int) < (pn : Int) := by omega
  have w1 : IntKind.i64.wrap (N - 1) = N - 1 := IntWalk.i64_in _ (by omega)
  have w2 : IntKind.i64.wrap ((pn : Int) - 1) = (pn : Int) - 1 := IntWalk.i64_in _ (by omega)
  have w3 : IntKind.i64.wrap (s.pe - 1) = s.pe - 1 := IntWalk.i64_in _ (by omega)
  have w4 : IntKind.i64.wrap (s.st - 1) = s.st - 1 := IntWalk.i64_in _ (by omega)
  have HT : Hid (Stay ((w.alloc (.cells #[nmv, .int .i64 ce, .int .i64 wi, .slice (some ⟨b, o, none⟩) P.length pc, sv] 25)).alloc (.cells #[.int .i64 s.kd, .int .i64 s.pa, .int .i64 s.pe, .int .i64 s.of_, .int .i64 s.sl, .int .i64 s.sy, .int .i64 s.sn, .int .i64 s.bk, .int .i64 s.bn, .int .i64 s.st, .int .i64 s.sh] 82)) (fun W => (((Blk W w.heap.size 25 #[nmv, .int .i64 ce, .int .i64 wi, .slice (some ⟨b, o, none⟩) P.length pc, sv] ∧ Blk W (w.heap.size + 1) 82 #[.int .i64 s.kd, .int .i64 s.pa, .int .i64 s.pe, .int .i64 s.of_, .int .i64 s.sl, .int .i64 s.sy, .int .i64 s.sn, .int .i64 s.bk, .int .i64 s.bn, .int .i64 s.st, .int .i64 s.sh]) ∧ Below w.heap.size w W) ∧ Prts W (some ⟨b, o, none⟩) P))) := hide
    (((((stay_blk (Blk.new w 25 #[nmv, .int .i64 ce, .int .i64 wi, .slice (some ⟨b, o, none⟩) P.length pc, sv])).alloc (.cells #[.int .i64 s.kd, .int .i64 s.pa, .int .i64 s.pe, .int .i64 s.of_, .int .i64 s.sl, .int .i64 s.sy, .int .i64 s.sn, .int .i64 s.bk, .int .i64 s.bn, .int .i64 s.st, .int .i64 s.sh] 82)).and (stay_blk (blk_up w 25 82 #[nmv, .int .i64 ce, .int .i64 wi, .slice (some ⟨b, o, none⟩) P.length pc, sv] #[.int .i64 s.kd, .int .i64 s.pa, .int .i64 s.pe, .int .i64 s.of_, .int .i64 s.sl, .int .i64 s.sy, .int .i64 s.sn, .int .i64 s.bk, .int .i64 s.bn, .int .i64 s.st, .int .i64 s.sh]))).and (stay_below (((Below.refl _ w).alloc (Nat.le_refl _) (.cells #[nmv, .int .i64 ce, .int .i64 wi, .slice (some ⟨b, o, none⟩) P.length pc, sv] 25)).alloc (by simp) (.cells #[.int .i64 s.kd, .int .i64 s.pa, .int .i64 s.pe, .int .i64 s.of_, .int .i64 s.sl, .int .i64 s.sy, .int .i64 s.sn, .int .i64 s.bk, .int .i64 s.bn, .int .i64 s.st, .int .i64 s.sh] 82)))).and (((stay_rws hP).alloc (.cells #[nmv, .int .i64 ce, .int .i64 wi, .slice (some ⟨b, o, none⟩) P.length pc, sv] 25)).alloc (.cells #[.int .i64 s.kd, .int .i64 s.pa, .int .i64 s.pe, .int .i64 s.of_, .int .i64 s.sl, .int .i64 s.sy, .int .i64 s.sn, .int .i64 s.bk, .int .i64 s.bn, .int .i64 s.st, .int .i64 s.sh] 82)))
  clear hP hpe' hN hmu hfi hbl hbx hp hc hs hak hdv
  rw [hk] at HT ⊢
  rw [hpn] at HT ⊢ hpl
  clear hk hpn
  obtain ⟨W0, hW0⟩ : ∃ W0, (w.alloc (.cells #[nmv, .int .i64 ce, .int .i64 wi, .slice (some ⟨b, o, none⟩) pn pc, sv] 25)).alloc (.cells #[.int .i64 s.kd, .int .i64 (k : Int), .int .i64 s.pe, .int .i64 s.of_, .int .i64 s.sl, .int .i64 s.sy, .int .i64 s.sn, .int .i64 s.bk, .int .i64 s.bn, .int .i64 s.st, .int .i64 s.sh] 82) = W0 := ⟨_, rfl⟩
  rw [hW0] at HT
  go_enter Try.func66, Try.ntmps66
  go_wp2_with fail
  first | rw [hW0] | skip
  clear hW0
  refine wp_region_held_drew (S := fun w_ => Below W0.heap.size W0 w_) (by kernel_rfl) (below_drewN (Below.refl W0.heap.size W0) 1) (fun hHeld => ?_)
  refine take_at (i := 0) 9 (v := .pointer (some ⟨w.heap.size + 1, 0, none⟩)) rfl rfl (by kernel_rfl) (by kernel_rfl) (by kernel_rfl) (fun _ _ _ h => h) (Or.inl ⟨by rfl, by intro w_ hSw; go_simp⟩) (by assumption) ?_
  try simp only [Act.put, List.setIfInBounds_toArray, List.set_cons_zero, List.set_cons_succ]
  refine take_at (i := 1) 10 (v := .int .i64 s.kd) rfl rfl (by kernel_rfl) (by kernel_rfl) (by kernel_rfl) (fun _ _ _ h => h) (Or.inl ⟨by rfl, by intro w_ hSw; have c0 : w_.cell? ⟨w.heap.size + 1, 0, none⟩ = some (.int .i64 s.kd) := (HT.out _ hSw).1.1.2.cell 0; go_simp⟩) (by assumption) ?_
  try simp only [Act.put, List.setIfInBounds_toArray, List.set_cons_zero, List.set_cons_succ]
  refine take_at (i := 4) 13 (v := .pointer (some ⟨w.heap.size + 1, 1, none⟩)) rfl rfl (by kernel_rfl) (by kernel_rfl) (by kernel_rfl) (fun _ _ _ h => h) (Or.inl ⟨by rfl, by intro w_ hSw; go_simp⟩) (by assumption) ?_
  try simp only [Act.put, List.setIfInBounds_toArray, List.set_cons_zero, List.set_cons_succ]
  refine take_at (i := 5) 14 (v := .int .i64 (k : Int)) rfl rfl (by kernel_rfl) (by kernel_rfl) (by kernel_rfl) (fun _ _ _ h => h) (Or.inl ⟨by rfl, by intro w_ hSw; have c1 : w_.cell? ⟨w.heap.size + 1, 1, none⟩ = some (.int .i64 (k : Int)) := (HT.out _ hSw).1.1.2.cell 1; go_simp⟩) (by assumption) ?_
  try simp only [Act.put, List.setIfInBounds_toArray, List.set_cons_zero, List.set_cons_succ]
  refine take_at (i := 6) 15 (v := .pointer (some ⟨w.heap.size, 3, none⟩)) rfl rfl (by kernel_rfl) (by kernel_rfl) (by kernel_rfl) (fun _ _ _ h => h) (Or.inl ⟨by rfl, by intro w_ hSw; go_simp⟩) (by assumption) ?_
  try simp only [Act.put, List.setIfInBounds_toArray, List.set_cons_zero, List.set_cons_succ]
  refine take_at (i := 7) 16 (v := .slice (some ⟨b, o, none⟩) pn pc) rfl rfl (by kernel_rfl) (by kernel_rfl) (by kernel_rfl) (fun _ _ _ h => h) (Or.inl ⟨by rfl, by intro w_ hSw; have c3 : w_.cell? ⟨w.heap.size, 3, none⟩ = some (.slice (some ⟨b, o, none⟩) pn pc) := (HT.out _ hSw).1.1.1.cell 3; go_simp⟩) (by assumption) ?_
  try simp only [Act.put, List.setIfInBounds_toArray, List.set_cons_zero, List.set_cons_succ]
  refine take_at (i := 8) 17 (v := .int .i64 (pn : Int)) rfl rfl (by kernel_rfl) (by kernel_rfl) (by kernel_rfl) (fun _ _ _ h => h) (Or.inl ⟨by rfl, by intro w_ hSw; go_simp⟩) (by assumption) ?_
  try simp only [Act.put, List.setIfInBounds_toArray, List.set_cons_zero, List.set_cons_succ]
  refine take_at (i := 9) 18 (v := .int .i64 ((pn : Int) - 1)) rfl rfl (by kernel_rfl) (by kernel_rfl) (by kernel_rfl) (fun _ _ _ h => h) (Or.inl ⟨by rfl, by intro w_ hSw; go_simp⟩) (by assumption) ?_
  try simp only [Act.put, List.setIfInBounds_toArray, List.set_cons_zero, List.set_cons_succ]
  refine take_at (i := 12) 21 (v := .pointer (some ⟨w.heap.size + 1, 2, none⟩)) rfl rfl (by kernel_rfl) (by kernel_rfl) (by kernel_rfl) (fun _ _ _ h => h) (Or.inl ⟨by rfl, by intro w_ hSw; go_simp⟩) (by assumption) ?_
  try simp only [Act.put, List.setIfInBounds_toArray, List.set_cons_zero, List.set_cons_succ]
  refine take_at (i := 13) 22 (v := .int .i64 s.pe) rfl rfl (by kernel_rfl) (by kernel_rfl) (by kernel_rfl) (fun _ _ _ h => h) (Or.inl ⟨by rfl, by intro w_ hSw; have c2 : w_.cell? ⟨w.heap.size + 1, 2, none⟩ = some (.int .i64 s.pe) := (HT.out _ hSw).1.1.2.cell 2; go_simp⟩) (by assumption) ?_
  try simp only [Act.put, List.setIfInBounds_toArray, List.set_cons_zero, List.set_cons_succ]
  refine wpAnyH_ready (rs := [2]) (by kernel_rfl) (by simp) ?_
  refine AllReadyH.cons rfl (fun K hK => ?_) AllReadyH.nil
  go_simp
  go_at_call 37
  refine (within_yes _ _ _ (by omega) _).mono ?_
  rintro e w' ⟨rfl, rfl⟩
  try simp only []
  refine hK.out _ _ hHeld (fun hHeld => ?_)
  clear hK K
  try simp only [Act.put, List.setIfInBounds_toArray, List.set_cons_zero, List.set_cons_succ]
  refine wpAnyH_ready (rs := [3]) (by kernel_rfl) (by simp) ?_
  refine AllReadyH.cons rfl (fun K hK => ?_) AllReadyH.nil
  go_simp
  go_at_call 23
  refine (unless_yes _ _).mono ?_
  rintro e w' ⟨rfl, rfl⟩
  try simp only []
  refine hK.out _ _ hHeld (fun hHeld => ?_)
  clear hK K
  try simp only [Act.put, List.setIfInBounds_toArray, List.set_cons_zero, List.set_cons_succ]
  refine wpAnyH_ready (rs := [10]) (by kernel_rfl) (by simp) ?_
  refine AllReadyH.cons rfl (fun K hK => ?_) AllReadyH.nil
  go_simp
  go_at_call 37
  refine (within_yes _ _ _ (by omega) _).mono ?_
  rintro e w' ⟨rfl, rfl⟩
  try simp only []
  refine hK.out _ _ hHeld (fun hHeld => ?_)
  clear hK K
  try simp only [Act.put, List.setIfInBounds_toArray, List.set_cons_zero, List.set_cons_succ]
  refine wpAnyH_ready (rs := [11]) (by kernel_rfl) (by simp) ?_
  refine AllReadyH.cons rfl (fun K hK => ?_) AllReadyH.nil
  go_simp
  go_at_call 23
  refine (unless_yes _ _).mono ?_
  rintro e w' ⟨rfl, rfl⟩
  try simp only []
  refine hK.out _ _ hHeld (fun hHeld => ?_)
  clear hK K
  try simp only [Act.put, List.setIfInBounds_toArray, List.set_cons_zero, List.set_cons_succ]
  refine wpAnyH_ready (rs := [14]) (by kernel_rfl) (by simp) ?_
  refine AllReadyH.cons rfl (fun K hK => ?_) AllReadyH.nil
  go_simp
  go_at_call 37
  refine (within_yes _ _ _ (by omega) _).mono ?_
  rintro e w' ⟨rfl, rfl⟩
  try simp only []
  refine hK.out _ _ hHeld (fun hHeld => ?_)
  clear hK K
  try simp only [Act.put, List.setIfInBounds_toArray, List.set_cons_zero, List.set_cons_succ]
  refine wpAnyH_ready (rs := [15]) (by kernel_rfl) (by simp) ?_
  refine AllReadyH.cons rfl (fun K hK => ?_) AllReadyH.nil
  go_simp
  go_at_call 23
  refine (unless_yes _ _).mono ?_
  rintro e w' ⟨rfl, rfl⟩
  try simp only []
  refine hK.out _ _ hHeld (fun hHeld => ?_)
  clear hK K
  try simp only [Act.put, List.setIfInBounds_toArray, List.set_cons_zero, List.set_cons_succ]
  refine wpAnyH_ready (rs := [16]) (by kernel_rfl) (by simp) ?_
  refine AllReadyH.cons rfl (fun K hK => ?_) AllReadyH.nil
  go_simp
  refine hK.out _ _ (below_drewN ((Below.refl _ _).alloc (Nat.le_refl _) _) 1) (fun hHeld => ?_)
  clear hK K
  try simp only [Act.put, List.setIfInBounds_toArray, List.set_cons_zero, List.set_cons_succ]
  refine wpAnyH_ready (rs := [17]) (by kernel_rfl) (by simp) ?_
  refine AllReadyH.cons rfl (fun K hK => ?_) AllReadyH.nil
  go_simp
  go_at_call 20
  refine (first_z3d _ _ (by first | rfl | simp)).mono ?_
  rintro e w' ⟨rfl, rfl⟩
  try simp only []
  refine hK.out _ _ hHeld (fun hHeld => ?_)
  clear hK K
  try simp only [Act.put, List.setIfInBounds_toArray, List.set_cons_zero, List.set_cons_succ]
  refine take_at (i := 18) 5 (v := .int .i64 0) rfl rfl (by kernel_rfl) (by kernel_rfl) (by kernel_rfl) (fun _ _ _ h => h) (Or.inl ⟨by rfl, by intro w_ hSw; go_simp⟩) (by assumption) ?_
  try simp only [Act.put, List.setIfInBounds_toArray, List.set_cons_zero, List.set_cons_succ]
  refine wpAnyH_done (by kernel_rfl) ?_ _
  replace HT := hide (HT.out.step hHeld)
  clear hHeld
  obtain ⟨W1, hW1⟩ : ∃ W1, (W0.alloc (.cells #[.int .i64 0, .int .i64 0, .int .i64 0] 35)).drew = W1 := ⟨_, rfl⟩
  first | rw [hW1] at HT ⊢ | (change Hid (Stay (W0.alloc (.cells #[.int .i64 0, .int .i64 0, .int .i64 0] 35)).drew _) at HT; rw [hW1] at HT ⊢)
  clear hW1
  have c3 : W1.cell? ⟨w.heap.size, 3, none⟩ = some (.slice (some ⟨b, o, none⟩) pn pc) := HT.out.now.1.1.1.cell 3
  have a1 : W1.cell? ⟨w.heap.size + 1, 1, none⟩ = some (.int .i64 (k : Int)) := HT.out.now.1.1.2.cell 1
  have p0 := (HPQ.out _ HT.out.now.2).1
  have p1 := (HPQ.out _ HT.out.now.2).2.1
  have p2 := (HPQ.out _ HT.out.now.2).2.2
  go_wp2_with fail
  clear c3 a1 p0 p1 p2
  replace HT := hide ((HT.out.alloc (.cells #[.int .i64 mu, .int .i64 fi, .int .i64 bl] 56)).and (stay_blk (Blk.new W1 56 #[.int .i64 mu, .int .i64 fi, .int .i64 bl])))
  obtain ⟨W2, hW2⟩ : ∃ W2, W1.alloc (.cells #[.int .i64 mu, .int .i64 fi, .int .i64 bl] 56) = W2 := ⟨_, rfl⟩
  rw [hW2] at HT ⊢
  clear hW2
  refine wp_region_held_drew (S := fun w_ => Below W2.heap.size W2 w_) (by kernel_rfl) (below_drewN (Below.refl W2.heap.size W2) 1) (fun hHeld => ?_)
  refine take_at (i := 0) 36 (v := .pointer (some ⟨w.heap.size + 1, 3, none⟩)) rfl rfl (by kernel_rfl) (by kernel_rfl) (by kernel_rfl) (fun _ _ _ h => h) (Or.inl ⟨by rfl, by intro w_ hSw; go_simp⟩) (by assumption) ?_
  try simp only [Act.put, List.setIfInBounds_toArray, List.set_cons_zero, List.set_cons_succ]
  refine take_at (i := 1) 37 (v := .int .i64 s.of_) rfl rfl (by kernel_rfl) (by kernel_rfl) (by kernel_rfl) (fun _ _ _ h => h) (Or.inl ⟨by rfl, by intro w_ hSw; have c3 : w_.cell? ⟨w.heap.size + 1, 3, none⟩ = some (.int .i64 s.of_) := (HT.out _ hSw).1.1.1.2.cell 3; go_simp⟩) (by assumption) ?_
  try simp only [Act.put, List.setIfInBounds_toArray, List.set_cons_zero, List.set_cons_succ]
  refine take_at (i := 2) 38 (v := .pointer (some ⟨w.heap.size + 1, 2, none⟩)) rfl rfl (by kernel_rfl) (by kernel_rfl) (by kernel_rfl) (fun _ _ _ h => h) (Or.inl ⟨by rfl, by intro w_ hSw; go_simp⟩) (by assumption) ?_
  try simp only [Act.put, List.setIfInBounds_toArray, List.set_cons_zero, List.set_cons_succ]
  refine take_at (i := 3) 39 (v := .int .i64 s.pe) rfl rfl (by kernel_rfl) (by kernel_rfl) (by kernel_rfl) (fun _ _ _ h => h) (Or.inl ⟨by rfl, by intro w_ hSw; have c2 : w_.cell? ⟨w.heap.size + 1, 2, none⟩ = some (.int .i64 s.pe) := (HT.out _ hSw).1.1.1.2.cell 2; go_simp⟩) (by assumption) ?_
  try simp only [Act.put, List.setIfInBounds_toArray, List.set_cons_zero, List.set_cons_succ]
  refine take_at (i := 4) 40 (v := .int .i64 (s.pe - 1)) rfl rfl (by kernel_rfl) (by kernel_rfl) (by kernel_rfl) (fun _ _ _ h => h) (Or.inl ⟨by rfl, by intro w_ hSw; go_simp⟩) (by assumption) ?_
  try simp only [Act.put, List.setIfInBounds_toArray, List.set_cons_zero, List.set_cons_succ]
  refine wpAnyH_ready (rs := [5]) (by kernel_rfl) (by simp) ?_
  refine AllReadyH.cons rfl (fun K hK => ?_) AllReadyH.nil
  go_simp
  go_at_call 37
  refine (within_yes _ _ _ (by omega) _).mono ?_
  rintro e w' ⟨rfl, rfl⟩
  try simp only []
  refine hK.out _ _ hHeld (fun hHeld => ?_)
  clear hK K
  try simp only [Act.put, List.setIfInBounds_toArray, List.set_cons_zero, List.set_cons_succ]
  refine take_at (i := 6) 42 (v := .bool true) rfl rfl (by kernel_rfl) (by kernel_rfl) (by kernel_rfl) (fun _ _ _ h => h) (Or.inl ⟨by rfl, by intro w_ hSw; go_simp⟩) (by assumption) ?_
  try simp only [Act.put, List.setIfInBounds_toArray, List.set_cons_zero, List.set_cons_succ]
  refine take_at (i := 7) 43 (v := .pointer (some ⟨w.heap.size + 1, 4, none⟩)) rfl rfl (by kernel_rfl) (by kernel_rfl) (by kernel_rfl) (fun _ _ _ h => h) (Or.inl ⟨by rfl, by intro w_ hSw; go_simp⟩) (by assumption) ?_
  try simp only [Act.put, List.setIfInBounds_toArray, List.set_cons_zero, List.set_cons_succ]
  refine take_at (i := 8) 44 (v := .int .i64 s.sl) rfl rfl (by kernel_rfl) (by kernel_rfl) (by kernel_rfl) (fun _ _ _ h => h) (Or.inl ⟨by rfl, by intro w_ hSw; have c4 : w_.cell? ⟨w.heap.size + 1, 4, none⟩ = some (.int .i64 s.sl) := (HT.out _ hSw).1.1.1.2.cell 4; go_simp⟩) (by assumption) ?_
  try simp only [Act.put, List.setIfInBounds_toArray, List.set_cons_zero, List.set_cons_succ]
  refine take_at (i := 9) 45 (v := .bool false) rfl rfl (by kernel_rfl) (by kernel_rfl) (by kernel_rfl) (fun _ _ _ h => h) (Or.inl ⟨by rfl, by intro w_ hSw; go_simp⟩) (by assumption) ?_
  try simp only [Act.put, List.setIfInBounds_toArray, List.set_cons_zero, List.set_cons_succ]
  refine take_at (i := 10) 46 (v := .bool false) rfl rfl (by kernel_rfl) (by kernel_rfl) (by kernel_rfl) (fun _ _ _ h => h) (Or.inl ⟨by rfl, by intro w_ hSw; go_simp⟩) (by assumption) ?_
  try simp only [Act.put, List.setIfInBounds_toArray, List.set_cons_zero, List.set_cons_succ]
  refine take_at (i := 11) 47 (v := .pointer (some ⟨w.heap.size + 1, 4, none⟩)) rfl rfl (by kernel_rfl) (by kernel_rfl) (by kernel_rfl) (fun _ _ _ h => h) (Or.inl ⟨by rfl, by intro w_ hSw; go_simp⟩) (by assumption) ?_
  try simp only [Act.put, List.setIfInBounds_toArray, List.set_cons_zero, List.set_cons_succ]
  refine take_at (i := 12) 48 (v := .int .i64 s.sl) rfl rfl (by kernel_rfl) (by kernel_rfl) (by kernel_rfl) (fun _ _ _ h => h) (Or.inl ⟨by rfl, by intro w_ hSw; have c4 : w_.cell? ⟨w.heap.size + 1, 4, none⟩ = some (.int .i64 s.sl) := (HT.out _ hSw).1.1.1.2.cell 4; go_simp⟩) (by assumption) ?_
  try simp only [Act.put, List.setIfInBounds_toArray, List.set_cons_zero, List.set_cons_succ]
  refine take_at (i := 13) 49 (v := .pointer (some ⟨W1.heap.size, 0, none⟩)) rfl rfl (by kernel_rfl) (by kernel_rfl) (by kernel_rfl) (fun _ _ _ h => h) (Or.inl ⟨by rfl, by intro w_ hSw; go_simp⟩) (by assumption) ?_
  try simp only [Act.put, List.setIfInBounds_toArray, List.set_cons_zero, List.set_cons_succ]
  refine take_at (i := 14) 50 (v := .int .i64 mu) rfl rfl (by kernel_rfl) (by kernel_rfl) (by kernel_rfl) (fun _ _ _ h => h) (Or.inl ⟨by rfl, by intro w_ hSw; have c0 : w_.cell? ⟨W1.heap.size, 0, none⟩ = some (.int .i64 mu) := (HT.out _ hSw).2.cell 0; go_simp⟩) (by assumption) ?_
  try simp only [Act.put, List.setIfInBounds_toArray, List.set_cons_zero, List.set_cons_succ]
  refine wpAnyH_ready (rs := [15]) (by kernel_rfl) (by simp) ?_
  refine AllReadyH.cons rfl (fun K hK => ?_) AllReadyH.nil
  go_simp
  go_at_call 25
  refine (HSL.out _).mono ?_
  rintro e w' ⟨rfl, rfl⟩
  try simp only []
  refine hK.out _ _ hHeld (fun hHeld => ?_)
  clear hK K
  try simp only [Act.put, List.setIfInBounds_toArray, List.set_cons_zero, List.set_cons_succ]
  refine take_at (i := 16) 52 (v := .int .i64 (N - 1)) rfl rfl (by kernel_rfl) (by kernel_rfl) (by kernel_rfl) (fun _ _ _ h => h) (Or.inl ⟨by rfl, by intro w_ hSw; go_simp⟩) (by assumption) ?_
  try simp only [Act.put, List.setIfInBounds_toArray, List.set_cons_zero, List.set_cons_succ]
  refine wpAnyH_ready (rs := [17]) (by kernel_rfl) (by simp) ?_
  refine AllReadyH.cons rfl (fun K hK => ?_) AllReadyH.nil
  go_simp
  go_at_call 37
  refine (within_yes _ _ _ (by omega) _).mono ?_
  rintro e w' ⟨rfl, rfl⟩
  try simp only []
  refine hK.out _ _ hHeld (fun hHeld => ?_)
  clear hK K
  try simp only [Act.put, List.setIfInBounds_toArray, List.set_cons_zero, List.set_cons_succ]
  refine take_at (i := 18) 54 (v := .bool true) rfl rfl (by kernel_rfl) (by kernel_rfl) (by kernel_rfl) (fun _ _ _ h => h) (Or.inl ⟨by rfl, by intro w_ hSw; go_simp⟩) (by assumption) ?_
  try simp only [Act.put, List.setIfInBounds_toArray, List.set_cons_zero, List.set_cons_succ]
  refine take_at (i := 19) 55 (v := .bool true) rfl rfl (by kernel_rfl) (by kernel_rfl) (by kernel_rfl) (fun _ _ _ h => h) (Or.inl ⟨by rfl, by intro w_ hSw; go_simp⟩) (by assumption) ?_
  try simp only [Act.put, List.setIfInBounds_toArray, List.set_cons_zero, List.set_cons_succ]
  refine take_at (i := 20) 7 (v := .bool true) rfl rfl (by kernel_rfl) (by kernel_rfl) (by kernel_rfl) (fun _ _ _ h => h) (Or.inl ⟨by rfl, by intro w_ hSw; go_simp⟩) (by assumption) ?_
  try simp only [Act.put, List.setIfInBounds_toArray, List.set_cons_zero, List.set_cons_succ]
  refine wpAnyH_done (by kernel_rfl) ?_ _
  replace HT := hide (HT.out.step hHeld)
  clear hHeld
  obtain ⟨W3, hW3⟩ : ∃ W3, W2.drew = W3 := ⟨_, rfl⟩
  first | rw [hW3] at HT ⊢ | (change Hid (Stay W2.drew _) at HT; rw [hW3] at HT ⊢)
  clear hW3
  have a9 : W3.cell? ⟨w.heap.size + 1, 9, none⟩ = some (.int .i64 s.st) := HT.out.now.1.1.1.2.cell 9
  have a10 : W3.cell? ⟨w.heap.size + 1, 10, none⟩ = some (.int .i64 s.sh) := HT.out.now.1.1.1.2.cell 10
  go_wp2_with (first | (go_at_call 37; go_must (refine (within_yes _ _ _ (by omega) _).mono ?_; rintro e w' ⟨rfl, rfl⟩; simp only [])) | (go_at_call 23; go_must (refine (unless_yes _ _).mono ?_; rintro e w' ⟨rfl, rfl⟩; simp only [])))
  clear a9 a10
  refine wp_region_held_drew (S := fun w_ => Below W3.heap.size W3 w_) (by kernel_rfl) (below_drewN (Below.refl W3.heap.size W3) 1) (fun hHeld => ?_)
  refine take_at (i := 0) 67 (v := .pointer (some ⟨w.heap.size + 1, 2, none⟩)) rfl rfl (by kernel_rfl) (by kernel_rfl) (by kernel_rfl) (fun _ _ _ h => h) (Or.inl ⟨by rfl, by intro w_ hSw; go_simp⟩) (by assumption) ?_
  try simp only [Act.put, List.setIfInBounds_toArray, List.set_cons_zero, List.set_cons_succ]
  refine take_at (i := 1) 68 (v := .int .i64 s.pe) rfl rfl (by kernel_rfl) (by kernel_rfl) (by kernel_rfl) (fun _ _ _ h => h) (Or.inl ⟨by rfl, by intro w_ hSw; have c2 : w_.cell? ⟨w.heap.size + 1, 2, none⟩ = some (.int .i64 s.pe) := (HT.out _ hSw).1.1.1.2.cell 2; go_simp⟩) (by assumption) ?_
  try simp only [Act.put, List.setIfInBounds_toArray, List.set_cons_zero, List.set_cons_succ]
  refine take_at (i := 2) 69 (v := .int .i64 0) rfl rfl (by kernel_rfl) (by kernel_rfl) (by kernel_rfl) (fun _ _ _ h => h) (Or.inl ⟨by rfl, by intro w_ hSw; go_simp⟩) (by assumption) ?_
  try simp only [Act.put, List.setIfInBounds_toArray, List.set_cons_zero, List.set_cons_succ]
  refine take_at (i := 3) 70 (v := .bool true) rfl rfl (by kernel_rfl) (by kernel_rfl) (by kernel_rfl) (fun _ _ _ h => h) (Or.inl ⟨by rfl, by intro w_ hSw; go_simp⟩) (by assumption) ?_
  try simp only [Act.put, List.setIfInBounds_toArray, List.set_cons_zero, List.set_cons_succ]
  refine take_at (i := 5) 72 (v := .bool true) rfl rfl (by kernel_rfl) (by kernel_rfl) (by kernel_rfl) (fun _ _ _ h => h) (Or.inl ⟨by rfl, by intro w_ hSw; go_simp⟩) (by assumption) ?_
  try simp only [Act.put, List.setIfInBounds_toArray, List.set_cons_zero, List.set_cons_succ]
  refine take_at (i := 10) 77 (v := .agg #[.int .i64 s.kd, .int .i64 (k : Int), .int .i64 s.pe, .int .i64 s.of_, .int .i64 s.sl, .int .i64 s.sy, .int .i64 s.sn, .int .i64 s.bk, .int .i64 s.bn, .int .i64 s.st, .int .i64 s.sh]) rfl rfl (by kernel_rfl) (by kernel_rfl) (by kernel_rfl) (fun _ _ _ h => h) (Or.inl ⟨by rfl, by intro w_ hSw; have c0 : w_.cell? ⟨w.heap.size + 1, 0, none⟩ = some (.int .i64 s.kd) := (HT.out _ hSw).1.1.1.2.cell 0; have c1 : w_.cell? ⟨w.heap.size + 1, 1, none⟩ = some (.int .i64 (k : Int)) := (HT.out _ hSw).1.1.1.2.cell 1; have c2 : w_.cell? ⟨w.heap.size + 1, 2, none⟩ = some (.int .i64 s.pe) := (HT.out _ hSw).1.1.1.2.cell 2; have c3 : w_.cell? ⟨w.heap.size + 1, 3, none⟩ = some (.int .i64 s.of_) := (HT.out _ hSw).1.1.1.2.cell 3; have c4 : w_.cell? ⟨w.heap.size + 1, 4, none⟩ = some (.int .i64 s.sl) := (HT.out _ hSw).1.1.1.2.cell 4; have c5 : w_.cell? ⟨w.heap.size + 1, 5, none⟩ = some (.int .i64 s.sy) := (HT.out _ hSw).1.1.1.2.cell 5; have c6 : w_.cell? ⟨w.heap.size + 1, 6, none⟩ = some (.int .i64 s.sn) := (HT.out _ hSw).1.1.1.2.cell 6; have c7 : w_.cell? ⟨w.heap.size + 1, 7, none⟩ = some (.int .i64 s.bk) := (HT.out _ hSw).1.1.1.2.cell 7; have c8 : w_.cell? ⟨w.heap.size + 1, 8, none⟩ = some (.int .i64 s.bn) := (HT.out _ hSw).1.1.1.2.cell 8; have c9 : w_.cell? ⟨w.heap.size + 1, 9, none⟩ = some (.int .i64 s.st) := (HT.out _ hSw).1.1.1.2.cell 9; have c10 : w_.cell? ⟨w.heap.size + 1, 10, none⟩ = some (.int .i64 s.sh) := (HT.out _ hSw).1.1.1.2.cell 10; go_simp⟩) (by assumption) ?_
  try simp only [Act.put, List.setIfInBounds_toArray, List.set_cons_zero, List.set_cons_succ]
  refine take_at (i := 12) 79 (v := .agg #[.int .i64 mu, .int .i64 fi, .int .i64 bl]) rfl rfl (by kernel_rfl) (by kernel_rfl) (by kernel_rfl) (fun _ _ _ h => h) (Or.inl ⟨by rfl, by intro w_ hSw; have c0 : w_.cell? ⟨W1.heap.size, 0, none⟩ = some (.int .i64 mu) := (HT.out _ hSw).2.cell 0; have c1 : w_.cell? ⟨W1.heap.size, 1, none⟩ = some (.int .i64 fi) := (HT.out _ hSw).2.cell 1; have c2 : w_.cell? ⟨W1.heap.size, 2, none⟩ = some (.int .i64 bl) := (HT.out _ hSw).2.cell 2; go_simp⟩) (by assumption) ?_
  try simp only [Act.put, List.setIfInBounds_toArray, List.set_cons_zero, List.set_cons_succ]
  refine take_at (i := 14) 81 (v := .agg #[.int .i64 s.kd, .int .i64 (k : Int), .int .i64 s.pe, .int .i64 s.of_, .int .i64 s.sl, .int .i64 s.sy, .int .i64 s.sn, .int .i64 s.bk, .int .i64 s.bn, .int .i64 s.st, .int .i64 s.sh]) rfl rfl (by kernel_rfl) (by kernel_rfl) (by kernel_rfl) (fun _ _ _ h => h) (Or.inl ⟨by rfl, by intro w_ hSw; have c0 : w_.cell? ⟨w.heap.size + 1, 0, none⟩ = some (.int .i64 s.kd) := (HT.out _ hSw).1.1.1.2.cell 0; have c1 : w_.cell? ⟨w.heap.size + 1, 1, none⟩ = some (.int .i64 (k : Int)) := (HT.out _ hSw).1.1.1.2.cell 1; have c2 : w_.cell? ⟨w.heap.size + 1, 2, none⟩ = some (.int .i64 s.pe) := (HT.out _ hSw).1.1.1.2.cell 2; have c3 : w_.cell? ⟨w.heap.size + 1, 3, none⟩ = some (.int .i64 s.of_) := (HT.out _ hSw).1.1.1.2.cell 3; have c4 : w_.cell? ⟨w.heap.size + 1, 4, none⟩ = some (.int .i64 s.sl) := (HT.out _ hSw).1.1.1.2.cell 4; have c5 : w_.cell? ⟨w.heap.size + 1, 5, none⟩ = some (.int .i64 s.sy) := (HT.out _ hSw).1.1.1.2.cell 5; have c6 : w_.cell? ⟨w.heap.size + 1, 6, none⟩ = some (.int .i64 s.sn) := (HT.out _ hSw).1.1.1.2.cell 6; have c7 : w_.cell? ⟨w.heap.size + 1, 7, none⟩ = some (.int .i64 s.bk) := (HT.out _ hSw).1.1.1.2.cell 7; have c8 : w_.cell? ⟨w.heap.size + 1, 8, none⟩ = some (.int .i64 s.bn) := (HT.out _ hSw).1.1.1.2.cell 8; have c9 : w_.cell? ⟨w.heap.size + 1, 9, none⟩ = some (.int .i64 s.st) := (HT.out _ hSw).1.1.1.2.cell 9; have c10 : w_.cell? ⟨w.heap.size + 1, 10, none⟩ = some (.int .i64 s.sh) := (HT.out _ hSw).1.1.1.2.cell 10; go_simp⟩) (by assumption) ?_
  try simp only [Act.put, List.setIfInBounds_toArray, List.set_cons_zero, List.set_cons_succ]
  refine take_at (i := 16) 83 (v := .agg #[.int .i64 mu, .int .i64 fi, .int .i64 bl]) rfl rfl (by kernel_rfl) (by kernel_rfl) (by kernel_rfl) (fun _ _ _ h => h) (Or.inl ⟨by rfl, by intro w_ hSw; have c0 : w_.cell? ⟨W1.heap.size, 0, none⟩ = some (.int .i64 mu) := (HT.out _ hSw).2.cell 0; have c1 : w_.cell? ⟨W1.heap.size, 1, none⟩ = some (.int .i64 fi) := (HT.out _ hSw).2.cell 1; have c2 : w_.cell? ⟨W1.heap.size, 2, none⟩ = some (.int .i64 bl) := (HT.out _ hSw).2.cell 2; go_simp⟩) (by assumption) ?_
  try simp only [Act.put, List.setIfInBounds_toArray, List.set_cons_zero, List.set_cons_succ]
  refine wpAnyH_ready (rs := [4]) (by kernel_rfl) (by simp) ?_
  refine AllReadyH.cons rfl (fun K hK => ?_) AllReadyH.nil
  go_simp
  go_at_call 23
  refine (unless_yes _ _).mono ?_
  rintro e w' ⟨rfl, rfl⟩
  try simp only []
  refine hK.out _ _ hHeld (fun hHeld => ?_)
  clear hK K
  try simp only [Act.put, List.setIfInBounds_toArray, List.set_cons_zero, List.set_cons_succ]
  refine take_at (i := 6) 73 (v := .bool true) rfl rfl (by kernel_rfl) (by kernel_rfl) (by kernel_rfl) (fun _ _ _ h => h) (Or.inl ⟨by rfl, by intro w_ hSw; go_simp⟩) (by assumption) ?_
  try simp only [Act.put, List.setIfInBounds_toArray, List.set_cons_zero, List.set_cons_succ]
  refine take_at (i := 7) 74 (v := .bool true) rfl rfl (by kernel_rfl) (by kernel_rfl) (by kernel_rfl) (fun _ _ _ h => h) (Or.inl ⟨by rfl, by intro w_ hSw; go_simp⟩) (by assumption) ?_
  try simp only [Act.put, List.setIfInBounds_toArray, List.set_cons_zero, List.set_cons_succ]
  refine take_at (i := 8) 75 (v := .bool true) rfl rfl (by kernel_rfl) (by kernel_rfl) (by kernel_rfl) (fun _ _ _ h => h) (Or.inl ⟨by rfl, by intro w_ hSw; go_simp⟩) (by assumption) ?_
  try simp only [Act.put, List.setIfInBounds_toArray, List.set_cons_zero, List.set_cons_succ]
  refine wpAnyH_ready (rs := [9]) (by kernel_rfl) (by simp) ?_
  refine AllReadyH.cons rfl (fun K hK => ?_) AllReadyH.nil
  go_simp
  go_at_call 23
  refine (unless_yes _ _).mono ?_
  rintro e w' ⟨rfl, rfl⟩
  try simp only []
  refine hK.out _ _ hHeld (fun hHeld => ?_)
  clear hK K
  try simp only [Act.put, List.setIfInBounds_toArray, List.set_cons_zero, List.set_cons_succ]
  refine wpAnyH_ready (rs := [11]) (by kernel_rfl) (by simp) ?_
  refine AllReadyH.cons rfl (fun K hK => ?_) AllReadyH.nil
  go_simp
  go_at_call 71
  refine (boxOf_ok _ _ _ _ _ _ _ _ _ _ _ _).mono ?_
  rintro e v7_1 ⟨rfl, hb⟩
  replace hHeld := Below.step hHeld hb
  clear hb
  try simp only []
  refine hK.out _ _ hHeld (fun hHeld => ?_)
  clear hK K
  try simp only [Act.put, List.setIfInBounds_toArray, List.set_cons_zero, List.set_cons_succ]
  refine wpAnyH_ready (rs := [13]) (by kernel_rfl) (by simp) ?_
  refine AllReadyH.cons rfl (fun K hK => ?_) AllReadyH.nil
  go_simp
  go_at_call 43
  refine (rangeErr_ok _ _ _ _ _ _ _ _ (by omega) (by omega) (by omega) (by omega) (by omega)).mono ?_
  rintro e v7_2 ⟨rfl, hb⟩
  replace hHeld := Below.step hHeld hb
  clear hb
  try simp only []
  refine hK.out _ _ hHeld (fun hHeld => ?_)
  clear hK K
  try simp only [Act.put, List.setIfInBounds_toArray, List.set_cons_zero, List.set_cons_succ]
  refine wpAnyH_ready (rs := [15]) (by kernel_rfl) (by simp) ?_
  refine AllReadyH.cons rfl (fun K hK => ?_) AllReadyH.nil
  go_simp
  go_at_call 71
  refine (boxOf_ok _ _ _ _ _ _ _ _ _ _ _ _).mono ?_
  rintro e v7_3 ⟨rfl, hb⟩
  replace hHeld := Below.step hHeld hb
  clear hb
  try simp only []
  refine hK.out _ _ hHeld (fun hHeld => ?_)
  clear hK K
  try simp only [Act.put, List.setIfInBounds_toArray, List.set_cons_zero, List.set_cons_succ]
  refine wpAnyH_ready (rs := [17]) (by kernel_rfl) (by simp) ?_
  refine AllReadyH.cons rfl (fun K hK => ?_) AllReadyH.nil
  go_simp
  go_at_call 44
  refine (breakErr_ok _ _ _ _ _ _ _ _ (by omega) (by omega) (by omega)).mono ?_
  rintro e v7_4 ⟨rfl, hb⟩
  replace hHeld := Below.step hHeld hb
  clear hb
  try simp only []
  refine hK.out _ _ hHeld (fun hHeld => ?_)
  clear hK K
  try simp only [Act.put, List.setIfInBounds_toArray, List.set_cons_zero, List.set_cons_succ]
  refine wpAnyH_ready (rs := [18]) (by kernel_rfl) (by simp) ?_
  refine AllReadyH.cons rfl (fun K hK => ?_) AllReadyH.nil
  go_simp
  refine hK.out _ _ (hHeld.alloc hHeld.size _) (fun hHeld => ?_)
  clear hK K
  try simp only [Act.put, List.setIfInBounds_toArray, List.set_cons_zero, List.set_cons_succ]
  refine wpAnyH_ready (rs := [19]) (by kernel_rfl) (by simp) ?_
  refine AllReadyH.cons rfl (fun K hK => ?_) AllReadyH.nil
  go_simp
  go_at_call 20
  refine (first_z4 _ _ (by first | rfl | simp)).mono ?_
  rintro e w' ⟨rfl, rfl⟩
  try simp only []
  refine hK.out _ _ hHeld (fun hHeld => ?_)
  clear hK K
  try simp only [Act.put, List.setIfInBounds_toArray, List.set_cons_zero, List.set_cons_succ]
  refine take_at (i := 20) 4 (v := .int .i64 0) rfl rfl (by kernel_rfl) (by kernel_rfl) (by kernel_rfl) (fun _ _ _ h => h) (Or.inl ⟨by rfl, by intro w_ hSw; go_simp⟩) (by assumption) ?_
  try simp only [Act.put, List.setIfInBounds_toArray, List.set_cons_zero, List.set_cons_succ]
  refine wpAnyH_done (by kernel_rfl) ?_ _
  have hfin := hide (Below.step HT.out.now.1.1.2 hHeld)
  clear hHeld
  go_wp2_with fail
  go_ret
  exact ⟨rfl, hfin.out⟩
set_option maxRecDepth 100000 in
theorem signalErr_ok (nmv : Value) (ce wi : Int) (PA : Option Addr) (pc : Nat) (sv : Value) (P : List Prt) (S : List Sig) (s : Sig) (w : World) (hc : OkCr ce wi P S) (hs : OkSg P s) (hP : Prts w PA P) :
    Calls Try.prog 66 #[.agg #[nmv, .int .i64 ce, .int .i64 wi, .slice PA P.length pc, sv], .agg #[.int .i64 s.kd, .int .i64 s.pa, .int .i64 s.pe, .int .i64 s.of_, .int .i64 s.sl, .int .i64 s.sy, .int .i64 s.sn, .int .i64 s.bk, .int .i64 s.bn, .int .i64 s.st, .int .i64 s.sh]] w fun e w' => e = .returned (.int .i64 0) ∧ Below w.heap.size w w' := by
  by_cases h : s.sl = -1
  · exact signalErr_each nmv ce wi PA pc sv P S s w hc hs hP h
  · exact signalErr_one nmv ce wi PA pc sv P S s w hc hs hP h
end Go.Proofs.Ytfolipkbcibgdaa
