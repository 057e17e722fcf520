import Derived.Test.YtfolipkbcibgdaaGrI
namespace Go.Proofs.Ytfolipkbcibgdaa
open Go.RowKit Go.WideShapes Go.ChangeShapes

/-! the cover of a signal -/
def sgT (mu sy sn : Nat) (L : List Nat) : Nat → Bool := L.foldl (fun f t => inR ((t * 14 + sy) * las mu) ((t * 14 + sy) * las mu + sn * las mu) f) (fun _ => false)
def sgU (mu fi : Nat) (L : List Nat) : Nat → Bool := L.foldl (fun f k => inR (fi + 2 ^ mu * k) (fi + 2 ^ mu * k + 2 ^ mu) f) (fun _ => false)
theorem sgT_succ (mu sy sn : Nat) (L : List Nat) (k : Nat) (hk : k < L.length) : sgT mu sy sn (L.take (k + 1)) = inR ((L[k] * 14 + sy) * las mu) ((L[k] * 14 + sy) * las mu + sn * las mu) (sgT mu sy sn (L.take k)) := by
  unfold sgT
  rw [List.take_succ_eq_append_getElem hk, List.foldl_append]
  rfl
theorem sgU_succ (mu fi : Nat) (L : List Nat) (k : Nat) (hk : k < L.length) : sgU mu fi (L.take (k + 1)) = inR (fi + 2 ^ mu * L[k]) (fi + 2 ^ mu * L[k] + 2 ^ mu) (sgU mu fi (L.take k)) := by
  unfold sgU
  rw [List.take_succ_eq_append_getElem hk, List.foldl_append]
  rfl
theorem CovAt.ne_int {w : World} {g b o : Nat} {tk un : Nat → Bool} {z : Int} (h : CovAt w g tk un) (hc : w.cell? ⟨b, o, none⟩ = some (.int .i64 z)) : b ≠ g := by
  rintro rfl
  obtain ⟨cs, hb, hs, h1, h2⟩ := h
  rw [hb.cell] at hc
  have ho : o < 712 := by have := (Array.getElem?_eq_some_iff.1 hc).1; omega
  by_cases q : o < 112
  · rw [h1 o q] at hc; simp at hc
  · have h3 := h2 (o - 112) (by omega)
    rw [show 112 + (o - 112) = o by omega] at h3
    rw [h3] at hc; simp at hc
theorem CovAt.cell_far {w w' : World} {g b o : Nat} {tk un : Nat → Bool} {z : Int} (h : CovAt w g tk un) (hg : w.grownBy w' (some g)) (hc : w.cell? ⟨b, o, none⟩ = some (.int .i64 z)) : w'.cell? ⟨b, o, none⟩ = some (.int .i64 z) :=
  (hg.cell_far ⟨b, o, none⟩ (lt_of_cell hc) (fun e => h.ne_int hc (by injection e))).trans hc
theorem CovAt.sl_far {w w' : World} {g : Nat} {tk un : Nat → Bool} {A : Option Addr} {l : List Int} (h : CovAt w g tk un) (hg : w.grownBy w' (some g)) (hs : Sl w A (iv l)) : Sl w' A (iv l) := fun k hk => by
  obtain ⟨b, o, e, hc⟩ := hs k hk
  have hk' : k < l.length := by rw [iv_length] at hk; exact hk
  have e2 : (iv l)[k] = .int .i64 l[k] := by simp [iv]
  rw [e2] at hc
  exact ⟨b, o, e, by rw [e2]; exact h.cell_far hg hc⟩
theorem slotsN_lt {mu : Nat} {sl : Int} (h : sl = -1 ∨ (0 ≤ sl ∧ sl < ((2 ^ mu : Nat) : Int))) : ∀ x ∈ slotsN mu sl, x < 2 ^ mu := by
  intro x hx
  unfold slotsN at hx
  by_cases e : sl = -1
  · rw [if_pos e] at hx; exact List.mem_range.1 hx
  · rw [if_neg e] at hx
    obtain rfl : x = sl.toNat := by simpa using hx
    rcases h with h | h
    · exact absurd h e
    · omega
theorem subsN_bd {st sh ce lo m : Nat} : ∀ x ∈ subsN st sh ce lo m, lo ≤ x ∧ x < lo + m := by
  intro x hx
  unfold subsN at hx
  have h1 := (List.mem_filter.1 hx).1
  rw [List.mem_range'] at h1
  obtain ⟨i, hi, rfl⟩ := h1
  omega
theorem natI_at {L : List Nat} {k : Nat} (hk : k < L.length) (hk' : k < (natI L).length) : (natI L)[k] = (L[k] : Int) := by simp [natI]
set_option maxRecDepth 100000 in
set_option maxHeartbeats 16000000 in
theorem signal_grid (nmv : Value) (wi kd pe of_ sl bl : Int) (b o pn pc : Nat) (SA : Option Addr) (sm sc pa sy sn bk bn st sh ce mu fi : Nat) (w : World) (hmu : mu ≤ 3) (hsl : sl = -1 ∨ (0 ≤ sl ∧ sl < ((2 ^ mu : Nat) : Int))) (hsn : sy + sn ≤ 14) (hst : 1 ≤ st ∧ st ≤ 12) (hsh : sh < st) (hce : ce ≤ 1007) (hbk : bk + bn ≤ 24) (hfit : fi + 2 ^ mu * (12 * (bk + bn)) ≤ 600) (hpa : pa < pn)
    (h0 : w.cell? ⟨b, o + pa * 3, none⟩ = some (.int .i64 (mu : Int))) (h1 : w.cell? ⟨b, o + pa * 3 + 1, none⟩ = some (.int .i64 (fi : Int))) (h2 : w.cell? ⟨b, o + pa * 3 + 2, none⟩ = some (.int .i64 bl)) :
    Calls Try.prog 48 #[.agg #[nmv, .int .i64 (ce : Int), .int .i64 wi, .slice (some ⟨b, o, none⟩) pn pc, .slice SA sm sc], .agg #[.int .i64 kd, .int .i64 (pa : Int), .int .i64 pe, .int .i64 of_, .int .i64 sl, .int .i64 (sy : Int), .int .i64 (sn : Int), .int .i64 (bk : Int), .int .i64 (bn : Int), .int .i64 (st : Int), .int .i64 (sh : Int)]] w fun e w' => ∃ g, e = .returned (.pointer (some ⟨g, 0, none⟩)) ∧ CovAt w' g (sgT mu sy sn (slotsN mu sl)) (sgU mu fi (subsN st sh ce (12 * bk) (12 * bn))) ∧ w.heap.size ≤ g ∧ Below w.heap.size w w' := by
  have HSL := hide (fun W h => slots_grid nmv wi kd pe of_ sl (sy : Int) (sn : Int) b o pn pc SA sm sc pa bk bn st sh ce mu W hmu (by omega) hpa h)
  have HSB := hide (fun W => subcarriers_grid nmv wi kd pe of_ sl (sy : Int) (sn : Int) b o pn pc SA sm sc pa bk bn st sh ce W hst hsh hce hbk)
  have hlt1 := hide (slotsN_lt hsl)
  have HTI := hide (fun g t tk un W (ht : t < 2 ^ mu) hc => time_grid g mu t sy sn tk un W hmu ht hsn hc)
  have HFR := hide (fun g k tk un W (hk : k < 12 * (bk + bn)) hc => frequency_grid g mu fi k bl tk un W hmu (by
      have h1 := Nat.mul_le_mul_left (2 ^ mu) (show k + 1 ≤ 12 * (bk + bn) by omega)
      rw [Nat.mul_succ] at h1
      omega) hc)
  have hlen1 : (slotsN mu sl).length ≤ 8 := by
    have := (pw_bd mu hmu).2
    unfold slotsN
    split
    · rw [List.length_range]; omega
    · simp
  have hlen2 := subsN_len st sh ce (12 * bk) (12 * bn)
  have hbd2 := hide (subsN_bd (st := st) (sh := sh) (ce := ce) (lo := 12 * bk) (m := 12 * bn))
  obtain ⟨L1, hL1⟩ : ∃ l, slotsN mu sl = l := ⟨_, rfl⟩
  obtain ⟨L2, hL2⟩ : ∃ l, subsN st sh ce (12 * bk) (12 * bn) = l := ⟨_, rfl⟩
  rw [hL1] at HSL hlt1 hlen1 ⊢
  rw [hL2] at HSB hlen2 hbd2 ⊢
  have hpi : (pa : Int) < (pn : Int) := by omega
  have HT : Hid (Stay ((w.alloc (.cells #[nmv, .int .i64 (ce : Int), .int .i64 wi, .slice (some ⟨b, o, none⟩) pn pc, .slice SA sm sc] 58)).alloc (.cells #[.int .i64 kd, .int .i64 (pa : Int), .int .i64 pe, .int .i64 of_, .int .i64 sl, .int .i64 (sy : Int), .int .i64 (sn : Int), .int .i64 (bk : Int), .int .i64 (bn : Int), .int .i64 (st : Int), .int .i64 (sh : Int)] 82)) (fun W => (((Blk W w.heap.size 58 #[nmv, .int .i64 (ce : Int), .int .i64 wi, .slice (some ⟨b, o, none⟩) pn pc, .slice SA sm sc] ∧ Blk W (w.heap.size + 1) 82 #[.int .i64 kd, .int .i64 (pa : Int), .int .i64 pe, .int .i64 of_, .int .i64 sl, .int .i64 (sy : Int), .int .i64 (sn : Int), .int .i64 (bk : Int), .int .i64 (bn : Int), .int .i64 (st : Int), .int .i64 (sh : Int)]) ∧ Below w.heap.size w W) ∧ W.cell? ⟨b, o + pa * 3, none⟩ = some (.int .i64 (mu : Int))) ∧ W.cell? ⟨b, o + pa * 3 + 1, none⟩ = some (.int .i64 (fi : Int)) ∧ W.cell? ⟨b, o + pa * 3 + 2, none⟩ = some (.int .i64 bl))) := hide
    ((((((stay_blk (Blk.new w 58 #[nmv, .int .i64 (ce : Int), .int .i64 wi, .slice (some ⟨b, o, none⟩) pn pc, .slice SA sm sc])).alloc (.cells #[.int .i64 kd, .int .i64 (pa : Int), .int .i64 pe, .int .i64 of_, .int .i64 sl, .int .i64 (sy : Int), .int .i64 (sn : Int), .int .i64 (bk : Int), .int .i64 (bn : Int), .int .i64 (st : Int), .int .i64 (sh : Int)] 82)).and (stay_blk (blk_up w 58 82 #[nmv, .int .i64 (ce : Int), .int .i64 wi, .slice (some ⟨b, o, none⟩) pn pc, .slice SA sm sc] #[.int .i64 kd, .int .i64 (pa : Int), .int .i64 pe, .int .i64 of_, .int .i64 sl, .int .i64 (sy : Int), .int .i64 (sn : Int), .int .i64 (bk : Int), .int .i64 (bn : Int), .int .i64 (st : Int), .int .i64 (sh : Int)]))).and (stay_below (((Below.refl _ w).alloc (Nat.le_refl _) (.cells #[nmv, .int .i64 (ce : Int), .int .i64 wi, .slice (some ⟨b, o, none⟩) pn pc, .slice SA sm sc] 58)).alloc (by simp) (.cells #[.int .i64 kd, .int .i64 (pa : Int), .int .i64 pe, .int .i64 of_, .int .i64 sl, .int .i64 (sy : Int), .int .i64 (sn : Int), .int .i64 (bk : Int), .int .i64 (bn : Int), .int .i64 (st : Int), .int .i64 (sh : Int)] 82)))).and (((stay_at h0).alloc (.cells #[nmv, .int .i64 (ce : Int), .int .i64 wi, .slice (some ⟨b, o, none⟩) pn pc, .slice SA sm sc] 58)).alloc (.cells #[.int .i64 kd, .int .i64 (pa : Int), .int .i64 pe, .int .i64 of_, .int .i64 sl, .int .i64 (sy : Int), .int .i64 (sn : Int), .int .i64 (bk : Int), .int .i64 (bn : Int), .int .i64 (st : Int), .int .i64 (sh : Int)] 82))).and ((((stay_at h1).alloc (.cells #[nmv, .int .i64 (ce : Int), .int .i64 wi, .slice (some ⟨b, o, none⟩) pn pc, .slice SA sm sc] 58)).alloc (.cells #[.int .i64 kd, .int .i64 (pa : Int), .int .i64 pe, .int .i64 of_, .int .i64 sl, .int .i64 (sy : Int), .int .i64 (sn : Int), .int .i64 (bk : Int), .int .i64 (bn : Int), .int .i64 (st : Int), .int .i64 (sh : Int)] 82)).and (((stay_at h2).alloc (.cells #[nmv, .int .i64 (ce : Int), .int .i64 wi, .slice (some ⟨b, o, none⟩) pn pc, .slice SA sm sc] 58)).alloc (.cells #[.int .i64 kd, .int .i64 (pa : Int), .int .i64 pe, .int .i64 of_, .int .i64 sl, .int .i64 (sy : Int), .int .i64 (sn : Int), .int .i64 (bk : Int), .int .i64 (bn : Int), .int .i64 (st : Int), .int .i64 (sh : Int)] 82))))
  clear h0 h1 h2 hL1 hL2 hsl hst hsh hce hfit hsn
  go_enter Try.func48, Try.ntmps48
  go_wp2_with fail
  obtain ⟨W0, hW0⟩ : ∃ W0, (w.alloc (.cells #[nmv, .int .i64 (ce : Int), .int .i64 wi, .slice (some ⟨b, o, none⟩) pn pc, .slice SA sm sc] 58)).alloc (.cells #[.int .i64 kd, .int .i64 (pa : Int), .int .i64 pe, .int .i64 of_, .int .i64 sl, .int .i64 (sy : Int), .int .i64 (sn : Int), .int .i64 (bk : Int), .int .i64 (bn : Int), .int .i64 (st : Int), .int .i64 (sh : Int)] 82) = W0 := ⟨_, rfl⟩
  rw [hW0] at HT
  first | rw [hW0] | skip
  go_cut [5, 6] from 11 (fun s5 s6 wx => ∃ gc gp, s5 = .pointer (some ⟨gc, 0, none⟩) ∧ s6 = .pointer (some ⟨gp, 0, none⟩) ∧ Blk wx gc 114 Try.zeroCells114 ∧ Blk wx gp 56 #[.int .i64 (mu : Int), .int .i64 (fi : Int), .int .i64 bl] ∧ W0.heap.size ≤ gc ∧ W0.heap.size ≤ gp ∧ Below W0.heap.size W0 wx)
  case first =>
    refine wp_region_held_drew (S := fun w_ => Below W0.heap.size W0 w_) (by kernel_rfl) (below_drewN (Below.refl W0.heap.size W0) 1) (fun hHeld => ?_)
    obtain ⟨v0, hv0⟩ : ∃ v0, W0.drew = v0 := ⟨_, rfl⟩
    replace hHeld : Below W0.heap.size W0 W0.drew := hHeld
    rw [hv0] at hHeld
    first | rw [hv0] | (change wpAnyH _ _ _ _ _ _ _ _ W0.drew; rw [hv0])
    clear hv0
    refine take_at (i := 0) 11 (v := .agg Try.zeroCells114) rfl rfl (by kernel_rfl) (by kernel_rfl) (by kernel_rfl) (fun _ _ _ h => h) (Or.inl ⟨by rfl, by intro w_ hSw; go_simp⟩) (by assumption) ?_
    try simp only [Act.put, List.setIfInBounds_toArray, List.set_cons_zero, List.set_cons_succ]
    refine take_at (i := 2) 13 (v := .pointer (some ⟨w.heap.size, 0, none⟩)) rfl rfl (by kernel_rfl) (by kernel_rfl) (by kernel_rfl) (fun _ _ _ h => h) (Or.inl ⟨by rfl, by intro w_ hSw; go_simp⟩) (by assumption) ?_
    try simp only [Act.put, List.setIfInBounds_toArray, List.set_cons_zero, List.set_cons_succ]
    refine take_at (i := 3) 14 (v := .pointer (some ⟨w.heap.size, 3, none⟩)) rfl rfl (by kernel_rfl) (by kernel_rfl) (by kernel_rfl) (fun _ _ _ h => h) (Or.inl ⟨by rfl, by intro w_ hSw; go_simp⟩) (by assumption) ?_
    try simp only [Act.put, List.setIfInBounds_toArray, List.set_cons_zero, List.set_cons_succ]
    refine take_at (i := 4) 15 (v := .slice (some ⟨b, o, none⟩) pn pc) rfl rfl (by kernel_rfl) (by kernel_rfl) (by kernel_rfl) (fun _ _ _ h => h) (Or.inl ⟨by rfl, by intro w_ hSw; have q := (HT.out _ hSw).1.1.1.1; have c3 : w_.cell? ⟨w.heap.size, 3, none⟩ = some (.slice (some ⟨b, o, none⟩) pn pc) := q.cell 3; go_simp⟩) (by assumption) ?_
    try simp only [Act.put, List.setIfInBounds_toArray, List.set_cons_zero, List.set_cons_succ]
    refine take_at (i := 5) 16 (v := .pointer (some ⟨w.heap.size + 1, 1, none⟩)) rfl rfl (by kernel_rfl) (by kernel_rfl) (by kernel_rfl) (fun _ _ _ h => h) (Or.inl ⟨by rfl, by intro w_ hSw; go_simp⟩) (by assumption) ?_
    try simp only [Act.put, List.setIfInBounds_toArray, List.set_cons_zero, List.set_cons_succ]
    refine take_at (i := 6) 17 (v := .int .i64 (pa : Int)) rfl rfl (by kernel_rfl) (by kernel_rfl) (by kernel_rfl) (fun _ _ _ h => h) (Or.inl ⟨by rfl, by intro w_ hSw; have q := (HT.out _ hSw).1.1.1.2; have c1 : w_.cell? ⟨w.heap.size + 1, 1, none⟩ = some (.int .i64 (pa : Int)) := q.cell 1; go_simp⟩) (by assumption) ?_
    try simp only [Act.put, List.setIfInBounds_toArray, List.set_cons_zero, List.set_cons_succ]
    refine take_at (i := 7) 18 (v := .pointer (some ⟨b, o + pa * 3, none⟩)) rfl rfl (by kernel_rfl) (by kernel_rfl) (by kernel_rfl) (fun _ _ _ h => h) (Or.inl ⟨by rfl, by intro w_ hSw; go_simp⟩) (by assumption) ?_
    try simp only [Act.put, List.setIfInBounds_toArray, List.set_cons_zero, List.set_cons_succ]
    refine take_at (i := 8) 19 (v := .agg #[.int .i64 (mu : Int), .int .i64 (fi : Int), .int .i64 bl]) rfl rfl (by kernel_rfl) (by kernel_rfl) (by kernel_rfl) (fun _ _ _ h => h) (Or.inl ⟨by rfl, by intro w_ hSw; have q0 := (HT.out _ hSw).1.2; have q1 := (HT.out _ hSw).2.1; have q2 := (HT.out _ hSw).2.2; go_simp⟩) (by assumption) ?_
    try simp only [Act.put, List.setIfInBounds_toArray, List.set_cons_zero, List.set_cons_succ]
    obtain ⟨gc, hgc⟩ : ∃ g, v0.heap.size = g := ⟨_, rfl⟩
    obtain ⟨gp, hgp⟩ : ∃ g, v0.heap.size = g := ⟨_, rfl⟩
    refine wpAnyH_ready (rs := [1, 9]) (by kernel_rfl) (by simp) ?_
    refine AllReadyH.cons rfl (fun K hK => ?_) (AllReadyH.cons rfl (fun K hK => ?_) AllReadyH.nil)
    · clear hgp
      go_simp
      have hb := (Below.refl v0.heap.size v0).alloc (Nat.le_refl _) (.cells Try.zeroCells114 114)
      have gcge := Nat.le_trans hHeld.size (Nat.le_of_eq hgc)
      replace hHeld := Below.step hHeld hb
      have Hgc := hide (stay_blk (Blk.newN v0 114 Try.zeroCells114 hgc))
      obtain ⟨v1, hwn⟩ : ∃ w9, v0.alloc (.cells Try.zeroCells114 114) = w9 := ⟨_, rfl⟩
      rw [hwn] at hHeld Hgc ⊢
      clear hb hwn hgc
      refine hK.out _ _ hHeld (fun hHeld => ?_)
      clear hK K
      try simp only [Act.put, List.setIfInBounds_toArray, List.set_cons_zero, List.set_cons_succ]
      obtain ⟨gp, hgp⟩ : ∃ g, v1.heap.size = g := ⟨_, rfl⟩
      refine wpAnyH_ready (rs := [9]) (by kernel_rfl) (by simp) ?_
      refine AllReadyH.cons rfl (fun K hK => ?_) AllReadyH.nil
      go_simp
      have hb := (Below.refl v1.heap.size v1).alloc (Nat.le_refl _) (.cells #[.int .i64 0, .int .i64 0, .int .i64 0] 56)
      replace Hgc := hide (Hgc.out.step hb)
      have gpge := Nat.le_trans hHeld.size (Nat.le_of_eq hgp)
      replace hHeld := Below.step hHeld hb
      have Hgp := hide (stay_blk (Blk.newN v1 56 #[.int .i64 0, .int .i64 0, .int .i64 0] hgp))
      obtain ⟨v2, hwn⟩ : ∃ w9, v1.alloc (.cells #[.int .i64 0, .int .i64 0, .int .i64 0] 56) = w9 := ⟨_, rfl⟩
      rw [hwn] at hHeld Hgc Hgp ⊢
      clear hb hwn hgp
      refine hK.out _ _ hHeld (fun hHeld => ?_)
      clear hK K
      try simp only [Act.put, List.setIfInBounds_toArray, List.set_cons_zero, List.set_cons_succ]
      refine take_at (i := 10) 5 (v := .pointer (some ⟨gc, 0, none⟩)) rfl rfl (by kernel_rfl) (by kernel_rfl) (by kernel_rfl) (fun _ _ _ h => h) (Or.inl ⟨by rfl, by intro w_ hSw; go_simp⟩) (by assumption) ?_
      try simp only [Act.put, List.setIfInBounds_toArray, List.set_cons_zero, List.set_cons_succ]
      refine wpAnyH_ready (rs := [11]) (by kernel_rfl) (by simp) ?_
      refine AllReadyH.cons rfl (fun K hK => ?_) AllReadyH.nil
      refine step_store_rowF rfl 56 _ _ rfl gp #[.int .i64 (mu : Int), .int .i64 (fi : Int), .int .i64 bl] rfl rfl 56 #[.int .i64 0, .int .i64 0, .int .i64 0] Hgp.out.now (by kernel_rfl) rfl (by simp [Value.oneCell']) ?_
      have HCK := hide (Hgc.out.now.rowFar (k := gp) (by intro e; have h1 := Hgc.out.now; have h2 := Hgp.out.now; rw [e] at h1; unfold Blk at h1 h2; rw [h1] at h2; simp at h2) #[.int .i64 (mu : Int), .int .i64 (fi : Int), .int .i64 bl])
      replace hHeld := Below.row (g := gp) hHeld gpge #[.int .i64 (mu : Int), .int .i64 (fi : Int), .int .i64 bl]
      have HSgp := hide (Hgp.out.now.row #[.int .i64 (mu : Int), .int .i64 (fi : Int), .int .i64 bl])
      obtain ⟨v3, hwn⟩ : ∃ w9, v2.setRow gp #[.int .i64 (mu : Int), .int .i64 (fi : Int), .int .i64 bl] = w9 := ⟨_, rfl⟩
      rw [hwn] at hHeld HSgp HCK ⊢
      clear hwn Hgc Hgp
      refine hK.out _ _ hHeld (fun hHeld => ?_)
      clear hK K
      try simp only [Act.put, List.setIfInBounds_toArray]
      refine wpAnyH_done (by kernel_rfl) ?_ _
      go_wp2_with fail
      go_meet
      exact ⟨gc, gp, rfl, rfl, HCK.out, HSgp.out, gcge, gpge, hHeld⟩
    · clear hgc
      go_simp
      have hb := (Below.refl v0.heap.size v0).alloc (Nat.le_refl _) (.cells #[.int .i64 0, .int .i64 0, .int .i64 0] 56)
      have gpge := Nat.le_trans hHeld.size (Nat.le_of_eq hgp)
      replace hHeld := Below.step hHeld hb
      have Hgp := hide (stay_blk (Blk.newN v0 56 #[.int .i64 0, .int .i64 0, .int .i64 0] hgp))
      obtain ⟨v1, hwn⟩ : ∃ w9, v0.alloc (.cells #[.int .i64 0, .int .i64 0, .int .i64 0] 56) = w9 := ⟨_, rfl⟩
      rw [hwn] at hHeld Hgp ⊢
      clear hb hwn hgp
      refine hK.out _ _ hHeld (fun hHeld => ?_)
      clear hK K
      try simp only [Act.put, List.setIfInBounds_toArray, List.set_cons_zero, List.set_cons_succ]
      obtain ⟨gc, hgc⟩ : ∃ g, v1.heap.size = g := ⟨_, rfl⟩
      refine wpAnyH_ready (rs := [1]) (by kernel_rfl) (by simp) ?_
      refine AllReadyH.cons rfl (fun K hK => ?_) AllReadyH.nil
      go_simp
      have hb := (Below.refl v1.heap.size v1).alloc (Nat.le_refl _) (.cells Try.zeroCells114 114)
      replace Hgp := hide (Hgp.out.step hb)
      have gcge := Nat.le_trans hHeld.size (Nat.le_of_eq hgc)
      replace hHeld := Below.step hHeld hb
      have Hgc := hide (stay_blk (Blk.newN v1 114 Try.zeroCells114 hgc))
      obtain ⟨v2, hwn⟩ : ∃ w9, v1.alloc (.cells Try.zeroCells114 114) = w9 := ⟨_, rfl⟩
      rw [hwn] at hHeld Hgp Hgc ⊢
      clear hb hwn hgc
      refine hK.out _ _ hHeld (fun hHeld => ?_)
      clear hK K
      try simp only [Act.put, List.setIfInBounds_toArray, List.set_cons_zero, List.set_cons_succ]
      refine take_at (i := 10) 5 (v := .pointer (some ⟨gc, 0, none⟩)) rfl rfl (by kernel_rfl) (by kernel_rfl) (by kernel_rfl) (fun _ _ _ h => h) (Or.inl ⟨by rfl, by intro w_ hSw; go_simp⟩) (by assumption) ?_
      try simp only [Act.put, List.setIfInBounds_toArray, List.set_cons_zero, List.set_cons_succ]
      refine wpAnyH_ready (rs := [11]) (by kernel_rfl) (by simp) ?_
      refine AllReadyH.cons rfl (fun K hK => ?_) AllReadyH.nil
      refine step_store_rowF rfl 56 _ _ rfl gp #[.int .i64 (mu : Int), .int .i64 (fi : Int), .int .i64 bl] rfl rfl 56 #[.int .i64 0, .int .i64 0, .int .i64 0] Hgp.out.now (by kernel_rfl) rfl (by simp [Value.oneCell']) ?_
      have HCK := hide (Hgc.out.now.rowFar (k := gp) (by intro e; have h1 := Hgc.out.now; have h2 := Hgp.out.now; rw [e] at h1; unfold Blk at h1 h2; rw [h1] at h2; simp at h2) #[.int .i64 (mu : Int), .int .i64 (fi : Int), .int .i64 bl])
      replace hHeld := Below.row (g := gp) hHeld gpge #[.int .i64 (mu : Int), .int .i64 (fi : Int), .int .i64 bl]
      have HSgp := hide (Hgp.out.now.row #[.int .i64 (mu : Int), .int .i64 (fi : Int), .int .i64 bl])
      obtain ⟨v3, hwn⟩ : ∃ w9, v2.setRow gp #[.int .i64 (mu : Int), .int .i64 (fi : Int), .int .i64 bl] = w9 := ⟨_, rfl⟩
      rw [hwn] at hHeld HSgp HCK ⊢
      clear hwn Hgp Hgc
      refine hK.out _ _ hHeld (fun hHeld => ?_)
      clear hK K
      try simp only [Act.put, List.setIfInBounds_toArray]
      refine wpAnyH_done (by kernel_rfl) ?_ _
      go_wp2_with fail
      go_meet
      exact ⟨gc, gp, rfl, rfl, HCK.out, HSgp.out, gcge, gpge, hHeld⟩
  case rest =>
    obtain ⟨gc, gp, rfl, rfl, hcc, hpp, hgc, hgp, hb⟩ := hcut
    replace HT := hide ((HT.out.step hb).and (stay_blk hpp))
    have hsz0 : w.heap.size + 1 < W0.heap.size := by rw [← hW0]; simp
    have hne : gc ≠ gp := by intro e; have h1 := hcc; have h2 := hpp; rw [e] at h1; unfold Blk at h1 h2; rw [h1] at h2; simp at h2
    have hcv := hide (stay_cov (cov_zero hcc))
    clear hcc hb hW0 hpp
    have qq0 : wc.cell? ⟨w.heap.size, 0, none⟩ = some (nmv) := HT.out.now.1.1.1.1.1.cell 0
    have qq1 : wc.cell? ⟨w.heap.size, 1, none⟩ = some (.int .i64 (ce : Int)) := HT.out.now.1.1.1.1.1.cell 1
    have qq2 : wc.cell? ⟨w.heap.size, 2, none⟩ = some (.int .i64 wi) := HT.out.now.1.1.1.1.1.cell 2
    have qq3 : wc.cell? ⟨w.heap.size, 3, none⟩ = some (.slice (some ⟨b, o, none⟩) pn pc) := HT.out.now.1.1.1.1.1.cell 3
    have qq4 : wc.cell? ⟨w.heap.size, 4, none⟩ = some (.slice SA sm sc) := HT.out.now.1.1.1.1.1.cell 4
    have a0 : wc.cell? ⟨w.heap.size + 1, 0, none⟩ = some (.int .i64 kd) := HT.out.now.1.1.1.1.2.cell 0
    have a1 : wc.cell? ⟨w.heap.size + 1, 1, none⟩ = some (.int .i64 (pa : Int)) := HT.out.now.1.1.1.1.2.cell 1
    have a2 : wc.cell? ⟨w.heap.size + 1, 2, none⟩ = some (.int .i64 pe) := HT.out.now.1.1.1.1.2.cell 2
    have a3 : wc.cell? ⟨w.heap.size + 1, 3, none⟩ = some (.int .i64 of_) := HT.out.now.1.1.1.1.2.cell 3
    have a4 : wc.cell? ⟨w.heap.size + 1, 4, none⟩ = some (.int .i64 sl) := HT.out.now.1.1.1.1.2.cell 4
    have a5 : wc.cell? ⟨w.heap.size + 1, 5, none⟩ = some (.int .i64 (sy : Int)) := HT.out.now.1.1.1.1.2.cell 5
    have a6 : wc.cell? ⟨w.heap.size + 1, 6, none⟩ = some (.int .i64 (sn : Int)) := HT.out.now.1.1.1.1.2.cell 6
    have a7 : wc.cell? ⟨w.heap.size + 1, 7, none⟩ = some (.int .i64 (bk : Int)) := HT.out.now.1.1.1.1.2.cell 7
    have a8 : wc.cell? ⟨w.heap.size + 1, 8, none⟩ = some (.int .i64 (bn : Int)) := HT.out.now.1.1.1.1.2.cell 8
    have a9 : wc.cell? ⟨w.heap.size + 1, 9, none⟩ = some (.int .i64 (st : Int)) := HT.out.now.1.1.1.1.2.cell 9
    have a10 : wc.cell? ⟨w.heap.size + 1, 10, none⟩ = some (.int .i64 (sh : Int)) := HT.out.now.1.1.1.1.2.cell 10
    go_wp2_with fail
    go_at_call 60
    refine (HSL.out _ HT.out.now.1.1.2).mono ?_
    rintro e w1 ⟨A1, c1, rfl, hs1, hb⟩
    replace HT := hide (HT.out.step hb)
    replace hcv := hide (hcv.out.step hb).now
    replace hs1 := hide hs1
    clear hb HSL qq0 qq1 qq2 qq3 qq4 a0 a1 a2 a3 a4 a5 a6 a7 a8 a9 a10
    simp only []
    go_wp2_with fail
    have HP := hide (fun W (h : w1.grownBy W (some gc)) => And.intro (And.intro (And.intro (HT.out.now.2.grown h (fun e => hne (by injection e with e; exact e.symm))) (And.intro (HT.out.now.1.1.1.1.1.grown h (fun e => by injection e with e; omega)) (HT.out.now.1.1.1.1.2.grown h (fun e => by injection e with e; omega)))) (HT.out.now.1.1.1.2.grown h (by have := HT.out.now.1.1.1.2.size; omega) (fun j hj => by injection hj with hj; omega))) (hcv.out.sl_far h hs1.out))
    go_loopw [24] (fun i wr => ∃ k : Nat, k ≤ L1.length ∧ i = .int .i64 k ∧ w1.grownBy wr (some gc) ∧ CovAt wr gc (sgT mu sy sn (L1.take k)) (fun _ => false)) (fun i _ => L1.length - (intOf i).toNat)
    case atStart => exact ⟨0, Nat.zero_le _, rfl, World.grownBy.refl _ _, by simpa [sgT] using hcv.out⟩
    case round =>
      obtain ⟨k, hk, rfl, hg, hc⟩ := hrel
      replace hg := hide hg
      replace hc := hide hc
      have hh := hide (HP.out _ hg.out)
      by_cases hlt : k < L1.length
      · have hki : (k : Int) < (L1.length : Int) := by omega
        obtain ⟨b5, o5, rfl, v5⟩ := hh.out.2.int (show k < (natI L1).length by rw [natI_len]; exact hlt)
        rw [natI_at hlt] at v5
        have hx := hlt1.out L1[k] (List.getElem_mem hlt)
        have hsc := hide (sgT_succ mu sy sn L1 k hlt)
        obtain ⟨x, hxe⟩ : ∃ x, L1[k] = x := ⟨_, rfl⟩
        rw [hxe] at v5 hx hsc
        clear hxe
        have p0 : wr.cell? ⟨gp, 0, none⟩ = some (.int .i64 (mu : Int)) := hh.out.1.1.1.cell 0
        have a5 : wr.cell? ⟨w.heap.size + 1, 5, none⟩ = some (.int .i64 (sy : Int)) := hh.out.1.1.2.2.cell 5
        have a6 : wr.cell? ⟨w.heap.size + 1, 6, none⟩ = some (.int .i64 (sn : Int)) := hh.out.1.1.2.2.cell 6
        go_wp2_with fail
        go_at_call 58
        refine (HTI.out gc x _ _ _ hx hc.out).mono ?_
        rintro e w2 ⟨rfl, hg2, hc2⟩
        rw [← hsc.out] at hc2
        replace hg2 := hide (gb_trans hg.out hg2)
        replace hc2 := hide hc2
        clear p0 a5 a6 v5 hh
        simp only []
        go_wp2_with fail
        exact ⟨⟨k + 1, by omega, by go_num, hg2.out, hc2.out⟩, by simp [intOf]; omega⟩
      · obtain rfl : k = L1.length := by omega
        have hki : ¬ (L1.length : Int) < (L1.length : Int) := by omega
        rw [List.take_length] at hc
        clear HP HTI hlt1
        have qq0 : wr.cell? ⟨w.heap.size, 0, none⟩ = some (nmv) := hh.out.1.1.2.1.cell 0
        have qq1 : wr.cell? ⟨w.heap.size, 1, none⟩ = some (.int .i64 (ce : Int)) := hh.out.1.1.2.1.cell 1
        have qq2 : wr.cell? ⟨w.heap.size, 2, none⟩ = some (.int .i64 wi) := hh.out.1.1.2.1.cell 2
        have qq3 : wr.cell? ⟨w.heap.size, 3, none⟩ = some (.slice (some ⟨b, o, none⟩) pn pc) := hh.out.1.1.2.1.cell 3
        have qq4 : wr.cell? ⟨w.heap.size, 4, none⟩ = some (.slice SA sm sc) := hh.out.1.1.2.1.cell 4
        have a0 : wr.cell? ⟨w.heap.size + 1, 0, none⟩ = some (.int .i64 kd) := hh.out.1.1.2.2.cell 0
        have a1 : wr.cell? ⟨w.heap.size + 1, 1, none⟩ = some (.int .i64 (pa : Int)) := hh.out.1.1.2.2.cell 1
        have a2 : wr.cell? ⟨w.heap.size + 1, 2, none⟩ = some (.int .i64 pe) := hh.out.1.1.2.2.cell 2
        have a3 : wr.cell? ⟨w.heap.size + 1, 3, none⟩ = some (.int .i64 of_) := hh.out.1.1.2.2.cell 3
        have a4 : wr.cell? ⟨w.heap.size + 1, 4, none⟩ = some (.int .i64 sl) := hh.out.1.1.2.2.cell 4
        have a5 : wr.cell? ⟨w.heap.size + 1, 5, none⟩ = some (.int .i64 (sy : Int)) := hh.out.1.1.2.2.cell 5
        have a6 : wr.cell? ⟨w.heap.size + 1, 6, none⟩ = some (.int .i64 (sn : Int)) := hh.out.1.1.2.2.cell 6
        have a7 : wr.cell? ⟨w.heap.size + 1, 7, none⟩ = some (.int .i64 (bk : Int)) := hh.out.1.1.2.2.cell 7
        have a8 : wr.cell? ⟨w.heap.size + 1, 8, none⟩ = some (.int .i64 (bn : Int)) := hh.out.1.1.2.2.cell 8
        have a9 : wr.cell? ⟨w.heap.size + 1, 9, none⟩ = some (.int .i64 (st : Int)) := hh.out.1.1.2.2.cell 9
        have a10 : wr.cell? ⟨w.heap.size + 1, 10, none⟩ = some (.int .i64 (sh : Int)) := hh.out.1.1.2.2.cell 10
        go_wp2_with fail
        go_at_call 61
        refine (HSB.out _).mono ?_
        rintro e w3 ⟨A2, c2, rfl, hs3, hb⟩
        have hcv3 := hide (hc.out.bel hb)
        have hF := hide (And.intro (And.intro (hh.out.1.1.1.below hb hh.out.1.1.1.lt) (hh.out.1.1.2.2.below hb hh.out.1.1.2.2.lt)) (Below.step hh.out.1.2 hb))
        replace hs3 := hide hs3
        have hz3 : gc < w3.heap.size := hcv3.out.lt
        clear hb HSB qq0 qq1 qq2 qq3 qq4 a0 a1 a2 a3 a4 a5 a6 a7 a8 a9 a10 hc hg hh
        simp only []
        go_wp2_with fail
        have HP := hide (fun W (h : w3.grownBy W (some gc)) => And.intro (And.intro (And.intro (hF.out.1.1.grown h (fun e => hne (by injection e with e; exact e.symm))) (hF.out.1.2.grown h (fun e => by injection e with e; omega))) (hF.out.2.grown h (by have := hF.out.2.size; omega) (fun j hj => by injection hj with hj; omega))) (hcv3.out.sl_far h hs3.out))
        go_loopw [42] (fun i wr => ∃ k : Nat, k ≤ L2.length ∧ i = .int .i64 k ∧ w3.grownBy wr (some gc) ∧ CovAt wr gc (sgT mu sy sn L1) (sgU mu fi (L2.take k))) (fun i _ => L2.length - (intOf i).toNat)
        case atStart => exact ⟨0, Nat.zero_le _, rfl, World.grownBy.refl _ _, by simpa [sgU] using hcv3.out⟩
        case round =>
          obtain ⟨m, hk2, rfl, hg, hc⟩ := hrel
          replace hg := hide hg
          replace hc := hide hc
          have hh := hide (HP.out _ hg.out)
          by_cases hlt : m < L2.length
          · have hki2 : (m : Int) < (L2.length : Int) := by omega
            obtain ⟨b5, o5, rfl, v5⟩ := hh.out.2.int (show m < (natI L2).length by rw [natI_len]; exact hlt)
            rw [natI_at hlt] at v5
            have hx := hbd2.out L2[m] (List.getElem_mem hlt)
            have hsc := hide (sgU_succ mu fi L2 m hlt)
            obtain ⟨x, hxe⟩ : ∃ x, L2[m] = x := ⟨_, rfl⟩
            rw [hxe] at v5 hx hsc
            clear hxe
            have p0 : wr.cell? ⟨gp, 0, none⟩ = some (.int .i64 (mu : Int)) := hh.out.1.1.1.cell 0
            have p1 : wr.cell? ⟨gp, 1, none⟩ = some (.int .i64 (fi : Int)) := hh.out.1.1.1.cell 1
            have p2 : wr.cell? ⟨gp, 2, none⟩ = some (.int .i64 bl) := hh.out.1.1.1.cell 2
            go_wp2_with fail
            go_at_call 59
            refine (HFR.out gc x _ _ _ (by omega) hc.out).mono ?_
            rintro e w2 ⟨rfl, hg2, hc2⟩
            rw [← hsc.out] at hc2
            replace hg2 := hide (gb_trans hg.out hg2)
            replace hc2 := hide hc2
            clear p0 p1 p2 v5 hh
            simp only []
            go_wp2_with fail
            exact ⟨⟨m + 1, by omega, by go_num, hg2.out, hc2.out⟩, by simp [intOf]; omega⟩
          · obtain rfl : m = L2.length := by omega
            have hki2 : ¬ (L2.length : Int) < (L2.length : Int) := by omega
            rw [List.take_length] at hc
            go_wp2_with fail
            go_ret
            exact ⟨gc, rfl, hc.out, by omega, hh.out.1.2⟩
end Go.Proofs.Ytfolipkbcibgdaa
