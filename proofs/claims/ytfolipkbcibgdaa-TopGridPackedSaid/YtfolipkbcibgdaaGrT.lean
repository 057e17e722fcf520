import Derived.Test.YtfolipkbcibgdaaGrR
namespace Go.Proofs.Ytfolipkbcibgdaa
open Go.RowKit Go.WideShapes Go.ChangeShapes

/-! a cover's zero value; the cover of an allocation -/
def covC : Array Value := Array.replicate 712 (.bool false)
theorem covC_size : covC.size = 712 := by simp [covC]
theorem zc_eq : Try.zeroCells114 = covC := by kernel_rfl
theorem cov_zero {w : World} {g : Nat} (h : Blk w g 114 Try.zeroCells114) : CovAt w g (fun _ => false) (fun _ => false) :=
  ⟨covC, zc_eq ▸ h, covC_size, fun i hi => by unfold covC; rw [Array.getElem?_replicate, if_pos (by omega)], fun i hi => by unfold covC; rw [Array.getElem?_replicate, if_pos (by omega)]⟩
theorem inR_join {a b c : Nat} (h1 : a ≤ b) (h2 : b ≤ c) (f : Nat → Bool) : inR b c (inR a b f) = inR a c f := by
  funext j
  unfold inR
  cases f j
  · simp only [Bool.false_or]
    rw [Bool.eq_iff_iff]
    simp only [Bool.or_eq_true, Bool.and_eq_true, decide_eq_true_eq]
    omega
  · simp
/-- ticks and units of an allocation in a part -/
def alT (mu sl sy sn : Nat) : Nat → Bool := inR ((sl * 14 + sy) * las mu) ((sl * 14 + sy) * las mu + sn * las mu) (fun _ => false)
def alU (mu fi bk bn : Nat) : Nat → Bool := inR (fi + 2 ^ mu * (12 * bk)) (fi + 2 ^ mu * (12 * (bk + bn))) (fun _ => false)
theorem gb_trans {a b c : World} {r : Option Nat} (h : a.grownBy b r) (k : b.grownBy c r) : a.grownBy c r :=
  ⟨k.os.trans h.os, k.tape.trans h.tape, k.output.trans h.output, Nat.le_trans h.size k.size, fun i hi hn => (k.block i (Nat.lt_of_lt_of_le hi h.size) hn).trans (h.block i hi hn)⟩
set_option maxRecDepth 100000 in
set_option maxHeartbeats 8000000 in
theorem allocation_grid (nmv : Value) (ce wi sf bl : Int) (b o pn pc : Nat) (SA : Option Addr) (sm sc pa sl sy sn bk bn mu fi : Nat) (w : World) (hmu : mu ≤ 3) (hsl : sl < 2 ^ mu) (hsn : sy + sn ≤ 14) (hbk : bk + bn ≤ 24) (hfit : fi + 2 ^ mu * (12 * (bk + bn)) ≤ 600) (hpa : pa < pn)
    (h0 : w.cell? ⟨b, o + pa * 3, none⟩ = some (.int .i64 (mu : Int))) (h1 : w.cell? ⟨b, o + pa * 3 + 1, none⟩ = some (.int .i64 (fi : Int))) (h2 : w.cell? ⟨b, o + pa * 3 + 2, none⟩ = some (.int .i64 bl)) :
    Calls Try.prog 45 #[.agg #[nmv, .int .i64 ce, .int .i64 wi, .slice (some ⟨b, o, none⟩) pn pc, .slice SA sm sc], .agg #[.int .i64 (pa : Int), .int .i64 sf, .int .i64 (sl : Int), .int .i64 (sy : Int), .int .i64 (sn : Int), .int .i64 (bk : Int), .int .i64 (bn : Int)]] w fun e w' => ∃ g, e = .returned (.pointer (some ⟨g, 0, none⟩)) ∧ CovAt w' g (alT mu sl sy sn) (alU mu fi bk bn) ∧ w.heap.size ≤ g ∧ Below w.heap.size w w' := by
  have HT : Hid (Stay ((w.alloc (.cells #[nmv, .int .i64 ce, .int .i64 wi, .slice (some ⟨b, o, none⟩) pn pc, .slice SA sm sc] 58)).alloc (.cells #[.int .i64 (pa : Int), .int .i64 sf, .int .i64 (sl : Int), .int .i64 (sy : Int), .int .i64 (sn : Int), .int .i64 (bk : Int), .int .i64 (bn : Int)] 34)) (fun W => (((Blk W w.heap.size 58 #[nmv, .int .i64 ce, .int .i64 wi, .slice (some ⟨b, o, none⟩) pn pc, .slice SA sm sc] ∧ Blk W (w.heap.size + 1) 34 #[.int .i64 (pa : Int), .int .i64 sf, .int .i64 (sl : Int), .int .i64 (sy : Int), .int .i64 (sn : Int), .int .i64 (bk : Int), .int .i64 (bn : Int)]) ∧ Below w.heap.size w W) ∧ W.cell? ⟨b, o + pa * 3, none⟩ = some (.int .i64 (mu : Int))) ∧ W.cell? ⟨b, o + pa * 3 + 1, none⟩ = some (.int .i64 (fi : Int)) ∧ W.cell? ⟨b, o + pa * 3 + 2, none⟩ = some (.int .i64 bl))) := hide
    ((((((stay_blk (Blk.new w 58 #[nmv, .int .i64 ce, .int .i64 wi, .slice (some ⟨b, o, none⟩) pn pc, .slice SA sm sc])).alloc (.cells #[.int .i64 (pa : Int), .int .i64 sf, .int .i64 (sl : Int), .int .i64 (sy : Int), .int .i64 (sn : Int), .int .i64 (bk : Int), .int .i64 (bn : Int)] 34)).and (stay_blk (blk_up w 58 34 #[nmv, .int .i64 ce, .int .i64 wi, .slice (some ⟨b, o, none⟩) pn pc, .slice SA sm sc] #[.int .i64 (pa : Int), .int .i64 sf, .int .i64 (sl : Int), .int .i64 (sy : Int), .int .i64 (sn : Int), .int .i64 (bk : Int), .int .i64 (bn : Int)]))).and (stay_below (((Below.refl _ w).alloc (Nat.le_refl _) (.cells #[nmv, .int .i64 ce, .int .i64 wi, .slice (some ⟨b, o, none⟩) pn pc, .slice SA sm sc] 58)).alloc (by simp) (.cells #[.int .i64 (pa : Int), .int .i64 sf, .int .i64 (sl : Int), .int .i64 (sy : Int), .int .i64 (sn : Int), .int .i64 (bk : Int), .int .i64 (bn : Int)] 34)))).and (((stay_at h0).alloc (.cells #[nmv, .int .i64 ce, .int .i64 wi, .slice (some ⟨b, o, none⟩) pn pc, .slice SA sm sc] 58)).alloc (.cells #[.int .i64 (pa : Int), .int .i64 sf, .int .i64 (sl : Int), .int .i64 (sy : Int), .int .i64 (sn : Int), .int .i64 (bk : Int), .int .i64 (bn : Int)] 34))).and ((((stay_at h1).alloc (.cells #[nmv, .int .i64 ce, .int .i64 wi, .slice (some ⟨b, o, none⟩) pn pc, .slice SA sm sc] 58)).alloc (.cells #[.int .i64 (pa : Int), .int .i64 sf, .int .i64 (sl : Int), .int .i64 (sy : Int), .int .i64 (sn : Int), .int .i64 (bk : Int), .int .i64 (bn : Int)] 34)).and (((stay_at h2).alloc (.cells #[nmv, .int .i64 ce, .int .i64 wi, .slice (some ⟨b, o, none⟩) pn pc, .slice SA sm sc] 58)).alloc (.cells #[.int .i64 (pa : Int), .int .i64 sf, .int .i64 (sl : Int), .int .i64 (sy : Int), .int .i64 (sn : Int), .int .i64 (bk : Int), .int .i64 (bn : Int)] 34))))
  have hpi : (pa : Int) < (pn : Int) := by omega
  clear h0 h1 h2
  go_enter Try.func45, Try.ntmps45
  go_wp2_with fail
  obtain ⟨W0, hW0⟩ : ∃ W0, (w.alloc (.cells #[nmv, .int .i64 ce, .int .i64 wi, .slice (some ⟨b, o, none⟩) pn pc, .slice SA sm sc] 58)).alloc (.cells #[.int .i64 (pa : Int), .int .i64 sf, .int .i64 (sl : Int), .int .i64 (sy : Int), .int .i64 (sn : Int), .int .i64 (bk : Int), .int .i64 (bn : Int)] 34) = W0 := ⟨_, rfl⟩
  rw [hW0] at HT
  first | rw [hW0] | skip
  go_cut [5, 6] from 8 (fun s5 s6 wx => ∃ gc gp, s5 = .pointer (some ⟨gc, 0, none⟩) ∧ s6 = .pointer (some ⟨gp, 0, none⟩) ∧ Blk wx gc 114 Try.zeroCells114 ∧ Blk wx gp 56 #[.int .i64 (mu : Int), .int .i64 (fi : Int), .int .i64 bl] ∧ W0.heap.size ≤ gc ∧ W0.heap.size ≤ gp ∧ Below W0.heap.size W0 wx)
  case first =>
    refine wp_region_held_drew (S := fun w_ => Below W0.heap.size W0 w_) (by kernel_rfl) (below_drewN (Below.refl W0.heap.size W0) 1) (fun hHeld => ?_)
    obtain ⟨v0, hv0⟩ : ∃ v0, W0.drew = v0 := ⟨_, rfl⟩
    replace hHeld : Below W0.heap.size W0 W0.drew := hHeld
    rw [hv0] at hHeld
    first | rw [hv0] | (change wpAnyH _ _ _ _ _ _ _ _ W0.drew; rw [hv0])
    clear hv0
    refine take_at (i := 0) 8 (v := .agg Try.zeroCells114) rfl rfl (by kernel_rfl) (by kernel_rfl) (by kernel_rfl) (fun _ _ _ h => h) (Or.inl ⟨by rfl, by intro w_ hSw; go_simp⟩) (by assumption) ?_
    try simp only [Act.put, List.setIfInBounds_toArray, List.set_cons_zero, List.set_cons_succ]
    refine take_at (i := 2) 10 (v := .pointer (some ⟨w.heap.size, 0, none⟩)) rfl rfl (by kernel_rfl) (by kernel_rfl) (by kernel_rfl) (fun _ _ _ h => h) (Or.inl ⟨by rfl, by intro w_ hSw; go_simp⟩) (by assumption) ?_
    try simp only [Act.put, List.setIfInBounds_toArray, List.set_cons_zero, List.set_cons_succ]
    refine take_at (i := 3) 11 (v := .pointer (some ⟨w.heap.size, 3, none⟩)) rfl rfl (by kernel_rfl) (by kernel_rfl) (by kernel_rfl) (fun _ _ _ h => h) (Or.inl ⟨by rfl, by intro w_ hSw; go_simp⟩) (by assumption) ?_
    try simp only [Act.put, List.setIfInBounds_toArray, List.set_cons_zero, List.set_cons_succ]
    refine take_at (i := 4) 12 (v := .slice (some ⟨b, o, none⟩) pn pc) rfl rfl (by kernel_rfl) (by kernel_rfl) (by kernel_rfl) (fun _ _ _ h => h) (Or.inl ⟨by rfl, by intro w_ hSw; have q := (HT.out _ hSw).1.1.1.1; have c3 : w_.cell? ⟨w.heap.size, 3, none⟩ = some (.slice (some ⟨b, o, none⟩) pn pc) := q.cell 3; go_simp⟩) (by assumption) ?_
    try simp only [Act.put, List.setIfInBounds_toArray, List.set_cons_zero, List.set_cons_succ]
    refine take_at (i := 5) 13 (v := .pointer (some ⟨w.heap.size + 1, 0, none⟩)) rfl rfl (by kernel_rfl) (by kernel_rfl) (by kernel_rfl) (fun _ _ _ h => h) (Or.inl ⟨by rfl, by intro w_ hSw; go_simp⟩) (by assumption) ?_
    try simp only [Act.put, List.setIfInBounds_toArray, List.set_cons_zero, List.set_cons_succ]
    refine take_at (i := 6) 14 (v := .int .i64 (pa : Int)) rfl rfl (by kernel_rfl) (by kernel_rfl) (by kernel_rfl) (fun _ _ _ h => h) (Or.inl ⟨by rfl, by intro w_ hSw; have q := (HT.out _ hSw).1.1.1.2; have c0 : w_.cell? ⟨w.heap.size + 1, 0, none⟩ = some (.int .i64 (pa : Int)) := q.cell 0; go_simp⟩) (by assumption) ?_
    try simp only [Act.put, List.setIfInBounds_toArray, List.set_cons_zero, List.set_cons_succ]
    refine take_at (i := 7) 15 (v := .pointer (some ⟨b, o + pa * 3, none⟩)) rfl rfl (by kernel_rfl) (by kernel_rfl) (by kernel_rfl) (fun _ _ _ h => h) (Or.inl ⟨by rfl, by intro w_ hSw; go_simp⟩) (by assumption) ?_
    try simp only [Act.put, List.setIfInBounds_toArray, List.set_cons_zero, List.set_cons_succ]
    refine take_at (i := 8) 16 (v := .agg #[.int .i64 (mu : Int), .int .i64 (fi : Int), .int .i64 bl]) rfl rfl (by kernel_rfl) (by kernel_rfl) (by kernel_rfl) (fun _ _ _ h => h) (Or.inl ⟨by rfl, by intro w_ hSw; have q0 := (HT.out _ hSw).1.2; have q1 := (HT.out _ hSw).2.1; have q2 := (HT.out _ hSw).2.2; go_simp⟩) (by assumption) ?_
    try simp only [Act.put, List.setIfInBounds_toArray, List.set_cons_zero, List.set_cons_succ]
    obtain ⟨gc, hgc⟩ : ∃ g, v0.heap.size = g := ⟨_, rfl⟩
    obtain ⟨gp, hgp⟩ : ∃ g, v0.heap.size = g := ⟨_, rfl⟩
    refine wpAnyH_ready (rs := [1, 9]) (by kernel_rfl) (by simp) ?_
    refine AllReadyH.cons rfl (fun K hK => ?_) (AllReadyH.cons rfl (fun K hK => ?_) AllReadyH.nil)
    · clear hgp
      go_simp
      have hb := (Below.refl v0.heap.size v0).alloc (Nat.le_refl _) (.cells Try.zeroCells114 114)
      have gcge := Nat.le_trans hHeld.size (Nat.le_of_eq hgc)
      replace hHeld := Below.step hHeld hb
      have Hgc := hide (stay_blk (Blk.newN v0 114 Try.zeroCells114 hgc))
      obtain ⟨v1, hwn⟩ : ∃ w9, v0.alloc (.cells Try.zeroCells114 114) = w9 := ⟨_, rfl⟩
      rw [hwn] at hHeld Hgc ⊢
      clear hb hwn hgc
      refine hK.out _ _ hHeld (fun hHeld => ?_)
      clear hK K
      try simp only [Act.put, List.setIfInBounds_toArray, List.set_cons_zero, List.set_cons_succ]
      obtain ⟨gp, hgp⟩ : ∃ g, v1.heap.size = g := ⟨_, rfl⟩
      refine wpAnyH_ready (rs := [9]) (by kernel_rfl) (by simp) ?_
      refine AllReadyH.cons rfl (fun K hK => ?_) AllReadyH.nil
      go_simp
      have hb := (Below.refl v1.heap.size v1).alloc (Nat.le_refl _) (.cells #[.int .i64 0, .int .i64 0, .int .i64 0] 56)
      replace Hgc := hide (Hgc.out.step hb)
      have gpge := Nat.le_trans hHeld.size (Nat.le_of_eq hgp)
      replace hHeld := Below.step hHeld hb
      have Hgp := hide (stay_blk (Blk.newN v1 56 #[.int .i64 0, .int .i64 0, .int .i64 0] hgp))
      obtain ⟨v2, hwn⟩ : ∃ w9, v1.alloc (.cells #[.int .i64 0, .int .i64 0, .int .i64 0] 56) = w9 := ⟨_, rfl⟩
      rw [hwn] at hHeld Hgc Hgp ⊢
      clear hb hwn hgp
      refine hK.out _ _ hHeld (fun hHeld => ?_)
      clear hK K
      try simp only [Act.put, List.setIfInBounds_toArray, List.set_cons_zero, List.set_cons_succ]
      refine take_at (i := 10) 5 (v := .pointer (some ⟨gc, 0, none⟩)) rfl rfl (by kernel_rfl) (by kernel_rfl) (by kernel_rfl) (fun _ _ _ h => h) (Or.inl ⟨by rfl, by intro w_ hSw; go_simp⟩) (by assumption) ?_
      try simp only [Act.put, List.setIfInBounds_toArray, List.set_cons_zero, List.set_cons_succ]
      refine wpAnyH_ready (rs := [11]) (by kernel_rfl) (by simp) ?_
      refine AllReadyH.cons rfl (fun K hK => ?_) AllReadyH.nil
      refine step_store_rowF rfl 56 _ _ rfl gp #[.int .i64 (mu : Int), .int .i64 (fi : Int), .int .i64 bl] rfl rfl 56 #[.int .i64 0, .int .i64 0, .int .i64 0] Hgp.out.now (by kernel_rfl) rfl (by simp [Value.oneCell']) ?_
      have HCK := hide (Hgc.out.now.rowFar (k := gp) (by intro e; have h1 := Hgc.out.now; have h2 := Hgp.out.now; rw [e] at h1; unfold Blk at h1 h2; rw [h1] at h2; simp at h2) #[.int .i64 (mu : Int), .int .i64 (fi : Int), .int .i64 bl])
      replace hHeld := Below.row (g := gp) hHeld gpge #[.int .i64 (mu : Int), .int .i64 (fi : Int), .int .i64 bl]
      have HSgp := hide (Hgp.out.now.row #[.int .i64 (mu : Int), .int .i64 (fi : Int), .int .i64 bl])
      obtain ⟨v3, hwn⟩ : ∃ w9, v2.setRow gp #[.int .i64 (mu : Int), .int .i64 (fi : Int), .int .i64 bl] = w9 := ⟨_, rfl⟩
      rw [hwn] at hHeld HSgp HCK ⊢
      clear hwn Hgc Hgp
      refine hK.out _ _ hHeld (fun hHeld => ?_)
      clear hK K
      try simp only [Act.put, List.setIfInBounds_toArray]
      refine wpAnyH_done (by kernel_rfl) ?_ _
      go_wp2_with fail
      go_meet
      exact ⟨gc, gp, rfl, rfl, HCK.out, HSgp.out, gcge, gpge, hHeld⟩
    · clear hgc
      go_simp
      have hb := (Below.refl v0.heap.size v0).alloc (Nat.le_refl _) (.cells #[.int .i64 0, .int .i64 0, .int .i64 0] 56)
      have gpge := Nat.le_trans hHeld.size (Nat.le_of_eq hgp)
      replace hHeld := Below.step hHeld hb
      have Hgp := hide (stay_blk (Blk.newN v0 56 #[.int .i64 0, .int .i64 0, .int .i64 0] hgp))
      obtain ⟨v1, hwn⟩ : ∃ w9, v0.alloc (.cells #[.int .i64 0, .int .i64 0, .int .i64 0] 56) = w9 := ⟨_, rfl⟩
      rw [hwn] at hHeld Hgp ⊢
      clear hb hwn hgp
      refine hK.out _ _ hHeld (fun hHeld => ?_)
      clear hK K
      try simp only [Act.put, List.setIfInBounds_toArray, List.set_cons_zero, List.set_cons_succ]
      obtain ⟨gc, hgc⟩ : ∃ g, v1.heap.size = g := ⟨_, rfl⟩
      refine wpAnyH_ready (rs := [1]) (by kernel_rfl) (by simp) ?_
      refine AllReadyH.cons rfl (fun K hK => ?_) AllReadyH.nil
      go_simp
      have hb := (Below.refl v1.heap.size v1).alloc (Nat.le_refl _) (.cells Try.zeroCells114 114)
      replace Hgp := hide (Hgp.out.step hb)
      have gcge := Nat.le_trans hHeld.size (Nat.le_of_eq hgc)
      replace hHeld := Below.step hHeld hb
      have Hgc := hide (stay_blk (Blk.newN v1 114 Try.zeroCells114 hgc))
      obtain ⟨v2, hwn⟩ : ∃ w9, v1.alloc (.cells Try.zeroCells114 114) = w9 := ⟨_, rfl⟩
      rw [hwn] at hHeld Hgp Hgc ⊢
      clear hb hwn hgc
      refine hK.out _ _ hHeld (fun hHeld => ?_)
      clear hK K
      try simp only [Act.put, List.setIfInBounds_toArray, List.set_cons_zero, List.set_cons_succ]
      refine take_at (i := 10) 5 (v := .pointer (some ⟨gc, 0, none⟩)) rfl rfl (by kernel_rfl) (by kernel_rfl) (by kernel_rfl) (fun _ _ _ h => h) (Or.inl ⟨by rfl, by intro w_ hSw; go_simp⟩) (by assumption) ?_
      try simp only [Act.put, List.setIfInBounds_toArray, List.set_cons_zero, List.set_cons_succ]
      refine wpAnyH_ready (rs := [11]) (by kernel_rfl) (by simp) ?_
      refine AllReadyH.cons rfl (fun K hK => ?_) AllReadyH.nil
      refine step_store_rowF rfl 56 _ _ rfl gp #[.int .i64 (mu : Int), .int .i64 (fi : Int), .int .i64 bl] rfl rfl 56 #[.int .i64 0, .int .i64 0, .int .i64 0] Hgp.out.now (by kernel_rfl) rfl (by simp [Value.oneCell']) ?_
      have HCK := hide (Hgc.out.now.rowFar (k := gp) (by intro e; have h1 := Hgc.out.now; have h2 := Hgp.out.now; rw [e] at h1; unfold Blk at h1 h2; rw [h1] at h2; simp at h2) #[.int .i64 (mu : Int), .int .i64 (fi : Int), .int .i64 bl])
      replace hHeld := Below.row (g := gp) hHeld gpge #[.int .i64 (mu : Int), .int .i64 (fi : Int), .int .i64 bl]
      have HSgp := hide (Hgp.out.now.row #[.int .i64 (mu : Int), .int .i64 (fi : Int), .int .i64 bl])
      obtain ⟨v3, hwn⟩ : ∃ w9, v2.setRow gp #[.int .i64 (mu : Int), .int .i64 (fi : Int), .int .i64 bl] = w9 := ⟨_, rfl⟩
      rw [hwn] at hHeld HSgp HCK ⊢
      clear hwn Hgp Hgc
      refine hK.out _ _ hHeld (fun hHeld => ?_)
      clear hK K
      try simp only [Act.put, List.setIfInBounds_toArray]
      refine wpAnyH_done (by kernel_rfl) ?_ _
      go_wp2_with fail
      go_meet
      exact ⟨gc, gp, rfl, rfl, HCK.out, HSgp.out, gcge, gpge, hHeld⟩
  case rest =>
    obtain ⟨gc, gp, rfl, rfl, hcc, hpp, hgc, hgp, hb⟩ := hcut
    replace HT := hide (HT.out.step hb)
    have hlc := hcc.lt
    have hlp := hpp.lt
    have hsz0 : w.heap.size + 1 < W0.heap.size := by rw [← hW0]; simp
    have hcv := hide (cov_zero hcc)
    replace hpp := hide hpp
    have hne : gc ≠ gp := by intro e; have h1 := hcc; have h2 := hpp.out; rw [e] at h1; unfold Blk at h1 h2; rw [h1] at h2; simp at h2
    clear hcc hb hW0
    have p0 : wc.cell? ⟨gp, 0, none⟩ = some (.int .i64 (mu : Int)) := hpp.out.cell 0
    have a2 : wc.cell? ⟨w.heap.size + 1, 2, none⟩ = some (.int .i64 (sl : Int)) := HT.out.now.1.1.1.2.cell 2
    have a3 : wc.cell? ⟨w.heap.size + 1, 3, none⟩ = some (.int .i64 (sy : Int)) := HT.out.now.1.1.1.2.cell 3
    have a4 : wc.cell? ⟨w.heap.size + 1, 4, none⟩ = some (.int .i64 (sn : Int)) := HT.out.now.1.1.1.2.cell 4
    go_wp2_with fail
    go_at_call 58
    refine (time_grid gc mu sl sy sn _ _ _ hmu hsl hsn hcv.out).mono ?_
    rintro e w1 ⟨rfl, hg1, hc1⟩
    have HP := hide (fun W (h : wc.grownBy W (some gc)) => And.intro (And.intro (hpp.out.grown h (fun e => hne (by injection e with e; exact e.symm))) (HT.out.now.1.1.1.2.grown h (fun e => by injection e with e; omega))) (HT.out.now.1.1.2.grown h (by omega) (fun j hj => by injection hj with hj; omega)))
    have hV := pw_bd mu hmu
    obtain ⟨V, hVe⟩ : ∃ V, 2 ^ mu = V := ⟨_, rfl⟩
    have hmono := hide (fun k (hk : k < 12 * (bk + bn)) => show fi + 2 ^ mu * k + 2 ^ mu ≤ 600 from by
      have h1 := Nat.mul_le_mul_left (2 ^ mu) (show k + 1 ≤ 12 * (bk + bn) by omega)
      rw [Nat.mul_succ] at h1
      omega)
    have hun := hide (show alU mu fi bk bn = inR (fi + V * (12 * bk)) (fi + V * (12 * (bk + bn))) (fun _ => false) from by rw [← hVe]; rfl)
    have hfr := hide (fun k tk un W (hk : k < 12 * (bk + bn)) hc => frequency_grid gc mu fi k bl tk un W hmu (hmono.out k hk) hc)
    rw [hVe] at hfr
    replace hc1 := hide hc1
    replace hg1 := hide hg1
    have e1 : IntKind.i64.wrap (12 * (bk : Int)) = ((12 * bk : Nat) : Int) := by rw [IntWalk.i64_in _ (by omega)]; push_cast; rfl
    have e2 : IntKind.i64.wrap ((bk : Int) + (bn : Int)) = (bk : Int) + (bn : Int) := IntWalk.i64_in _ (by omega)
    have e3 : IntKind.i64.wrap (12 * ((bk : Int) + (bn : Int))) = ((12 * (bk + bn) : Nat) : Int) := by rw [IntWalk.i64_in _ (by omega)]; push_cast; rfl
    clear p0 a2 a3 a4 hmono hcv
    have a5 : w1.cell? ⟨w.heap.size + 1, 5, none⟩ = some (.int .i64 (bk : Int)) := (HP.out _ hg1.out).1.2.cell 5
    simp only []
    go_wp2_with fail
    clear a5
    go_loopw [7] (fun i wr => ∃ k : Nat, 12 * bk ≤ k ∧ k ≤ 12 * (bk + bn) ∧ i = .int .i64 k ∧ wc.grownBy wr (some gc) ∧ CovAt wr gc (alT mu sl sy sn) (inR (fi + V * (12 * bk)) (fi + V * k) (fun _ => false))) (fun i _ => 12 * (bk + bn) - (intOf i).toNat)
    case atStart => exact ⟨12 * bk, Nat.le_refl _, by omega, rfl, hg1.out, by rw [inR_none]; exact hc1.out⟩
    case round =>
      obtain ⟨k, hk1, hk2, rfl, hg, hcv⟩ := hrel
      replace hg := hide hg
      replace hcv := hide hcv
      have hh := hide (HP.out _ hg.out)
      have a5 : wr.cell? ⟨w.heap.size + 1, 5, none⟩ = some (.int .i64 (bk : Int)) := hh.out.1.2.cell 5
      have a6 : wr.cell? ⟨w.heap.size + 1, 6, none⟩ = some (.int .i64 (bn : Int)) := hh.out.1.2.cell 6
      by_cases hlt : k < 12 * (bk + bn)
      · have hki : (k : Int) < ((12 * (bk + bn) : Nat) : Int) := by omega
        have p0 : wr.cell? ⟨gp, 0, none⟩ = some (.int .i64 (mu : Int)) := hh.out.1.1.cell 0
        have p1 : wr.cell? ⟨gp, 1, none⟩ = some (.int .i64 (fi : Int)) := hh.out.1.1.cell 1
        have p2 : wr.cell? ⟨gp, 2, none⟩ = some (.int .i64 bl) := hh.out.1.1.cell 2
        go_wp2_with fail
        go_at_call 59
        refine (hfr.out k _ _ _ hlt hcv.out).mono ?_
        rintro e w2 ⟨rfl, hg2, hc2⟩
        replace hg2 := hide (gb_trans hg.out hg2)
        have hj : V * (12 * bk) ≤ V * k := Nat.mul_le_mul_left V hk1
        rw [inR_join (by omega) (by omega), show fi + V * k + V = fi + V * (k + 1) by rw [Nat.mul_succ]; omega] at hc2
        replace hc2 := hide hc2
        clear a5 a6 p0 p1 p2 hh
        simp only []
        go_wp2_with fail
        exact ⟨⟨k + 1, by omega, by omega, by go_num, hg2.out, hc2.out⟩, by simp [intOf]; omega⟩
      · obtain rfl : k = 12 * (bk + bn) := by omega
        have hki : ¬ ((12 * (bk + bn) : Nat) : Int) < ((12 * (bk + bn) : Nat) : Int) := by omega
        go_wp2_with fail
        go_ret
        exact ⟨gc, rfl, by rw [hun.out]; exact hcv.out, by omega, hh.out.2⟩
end Go.Proofs.Ytfolipkbcibgdaa
