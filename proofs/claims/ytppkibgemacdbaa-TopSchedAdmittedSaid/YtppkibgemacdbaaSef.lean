import Derived.Test.YtppkibgemacdbaaSed
namespace Go.Proofs.Ytppkibgemacdbaa
open Go.RowKit Go.WideShapes Go.ChangeShapes

/-! rows of slots; CopySlots -/
theorem slot_info : (Try.prog.info? 44).map (fun i => (i.zero, i.size, i.bytes)) = some (some (.agg #[.slice none 0 0, .slice none 0 0]), 2, 48) := by kernel_rfl
def Rows (W : World) (v : Value) (xs : List Value) (k : Nat) (le : Int) (ar : Nat → Int) : Prop := ∀ j, j < k → ∃ rb ro r qb qo q, xs[j * 2]? = some (.slice (some ⟨rb, ro, none⟩) 1 r) ∧ xs[j * 2 + 1]? = some (.slice (some ⟨qb, qo, none⟩) 1 q) ∧
  W.cell? ⟨rb, ro, none⟩ = some (.int .i64 le) ∧ W.cell? ⟨qb, qo, none⟩ = some (.int .i64 (ar j)) ∧ v.ownBlock ≠ some rb ∧ v.ownBlock ≠ some qb
theorem rows_bel {W W' : World} {v : Value} {xs : List Value} {k : Nat} {le : Int} {ar : Nat → Int} (h : Rows W v xs k le ar) (hb : Below W.heap.size W W') : Rows W' v xs k le ar := fun j hj => by
  obtain ⟨rb, ro, r, qb, qo, q, h1, h2, h3, h4, h5, h6⟩ := h j hj
  exact ⟨rb, ro, r, qb, qo, q, h1, h2, (hb.cell (lt_of_cell h3)).trans h3, (hb.cell (lt_of_cell h4)).trans h4, h5, h6⟩
theorem rows_snoc {w w' : World} {v v' : Value} {xs : List Value} {k : Nat} {le : Int} {ar : Nat → Int} (h : Rows w v xs k le ar) (hl : xs.length = k * 2) {rb ro r qb qo q : Nat} (h3 : w.cell? ⟨rb, ro, none⟩ = some (.int .i64 le)) (h4 : w.cell? ⟨qb, qo, none⟩ = some (.int .i64 (ar k))) (h5 : v.ownBlock ≠ some rb) (h6 : v.ownBlock ≠ some qb)
    (hg : w.grownBy w' v.ownBlock) (hv : v'.ownBlock = v.ownBlock ∨ v'.ownBlock = some w.heap.size) : Rows w' v' (xs ++ [.slice (some ⟨rb, ro, none⟩) 1 r, .slice (some ⟨qb, qo, none⟩) 1 q]) (k + 1) le ar := fun j hj => by
  have far : ∀ b o x, w.cell? ⟨b, o, none⟩ = some x → v.ownBlock ≠ some b → w'.cell? ⟨b, o, none⟩ = some x ∧ v'.ownBlock ≠ some b := fun b o x hc hne => by
    have hlt := lt_of_cell hc
    refine ⟨(hg.cell_far ⟨b, o, none⟩ hlt (fun e => hne e.symm)).trans hc, ?_⟩
    rcases hv with e | e
    · rw [e]; exact hne
    · rw [e]; intro e'; injection e' with e'; omega
  by_cases hjk : j < k
  · obtain ⟨rb, ro, r, qb, qo, q, g1, g2, g3, g4, g5, g6⟩ := h j hjk
    obtain ⟨a1, a2⟩ := far _ _ _ g3 g5
    obtain ⟨b1, b2⟩ := far _ _ _ g4 g6
    exact ⟨rb, ro, r, qb, qo, q, by rw [List.getElem?_append_left (by omega)]; exact g1, by rw [List.getElem?_append_left (by omega)]; exact g2, a1, b1, a2, b2⟩
  · obtain rfl : j = k := by omega
    obtain ⟨a1, a2⟩ := far _ _ _ h3 h5
    obtain ⟨b1, b2⟩ := far _ _ _ h4 h6
    exact ⟨rb, ro, r, qb, qo, q, by rw [List.getElem?_append_right (by omega), hl]; simp, by rw [List.getElem?_append_right (by omega), hl]; simp, a1, b1, a2, b2⟩
theorem rows_slots {W : World} {base e : Nat} {A : Option Addr} {k c : Nat} {xs : List Value} {le : Int} {ar : Nat → Int} (ho : W.ownsRow base e 2 (.slice A k c) k xs) (h : Rows W (.slice A k c) xs k le ar) : SlotsAt W A k le ar := fun j hj => by
  obtain ⟨rb, ro, r, qb, qo, q, h1, h2, h3, h4, _, _⟩ := h j hj
  obtain ⟨g, cap, hv, _, _⟩ := ho.form (by omega)
  injection hv with hA
  subst hA
  have c1 := ho.cells (g := g) rfl _ _ h1
  have c2 := ho.cells (g := g) rfl _ _ h2
  rw [add_lit] at c1 c2
  exact ⟨g, 0, rb, ro, r, qb, qo, q, rfl, c1, by rw [Nat.add_assoc]; exact c2, h3, h4⟩
theorem slots_less {W : World} {D : Option Addr} {m m' : Nat} {le : Int} {ar : Nat → Int} (h : SlotsAt W D m le ar) (hm : m' ≤ m) : SlotsAt W D m' le ar := fun j hj => h j (by omega)
theorem copyOne (rb ro r : Nat) (x : Int) (w : World) (h : w.cell? ⟨rb, ro, none⟩ = some (.int .i64 x)) :
    Calls Try.prog 34 #[.slice (some ⟨rb, ro, none⟩) 1 r] w fun e w' => ∃ g c, e = .returned (.slice (some ⟨g, 0, none⟩) 1 c) ∧ w'.cell? ⟨g, 0, none⟩ = some (.int .i64 x) ∧ w.heap.size ≤ g ∧ Below w.heap.size w w' := by
  have hs : Sl w (some ⟨rb, ro, none⟩) (iv [x]) := fun k hk => by
    have hk : k < 1 := hk
    obtain rfl : k = 0 := by omega
    exact ⟨rb, ro, rfl, h⟩
  refine (copyInts (some ⟨rb, ro, none⟩) r [x] w hs (by simp)).mono ?_
  rintro e w' ⟨A', c', rfl, ho, hb⟩
  obtain ⟨g, cap, hv, _, _⟩ := World.ownsRow.form ho (by simp)
  injection hv with hA _ hc
  subst hA hc
  have hc := World.ownsRow.cells ho (g := g) rfl 0 _ rfl
  rw [add_lit] at hc
  exact ⟨g, _, rfl, hc, (World.ownsRow.lt ho _ rfl).1, hb⟩
theorem reads_two (w : World) (a b : Value) (t : TypeId) {p : Nat} (hp : w.heap.size = p) : Reads (w.alloc (.cells #[a, b] t)) (p + 1) 2 (some ⟨p, 0, none⟩) 1 [a, b] := ⟨rfl, fun _ => ⟨_, rfl, by simp, fun j u hu => by
  have hB := Blk.newN w t #[a, b] hp
  rw [add_lit, Nat.zero_add, hB.cell]
  simpa using hu⟩⟩
def CopySlotsR (m : Nat) (le : Int) (ar : Nat → Int) (w : World) (e : Ending) (w' : World) : Prop := ∃ A c, e = .returned (.slice A m c) ∧ SlotsAt w' A m le ar ∧ Below w.heap.size w w'
set_option maxRecDepth 100000 in
set_option maxHeartbeats 8000000 in
theorem copySlots (D : Option Addr) (d m : Nat) (le : Int) (ar : Nat → Int) (w : World) (hs : SlotsAt w D m le ar) (hm : m ≤ 60) :
    Calls Try.prog 15 #[.slice D m d] w (CopySlotsR m le ar w) := by
  obtain ⟨i1, hi0, hz0, hz1, hz2⟩ := info_parts slot_info
  have HS := hide hs
  clear hs
  go_enter Try.func15, Try.ntmps15
  go_wp2_with fail
  go_loopw [3, 4] (fun vo i wr => ∃ k : Nat, ∃ A c xs, k ≤ m ∧ vo = .slice A k c ∧ i = .int .i64 k ∧ wr.ownsRow w.heap.size 44 2 (.slice A k c) k xs ∧ Rows wr (.slice A k c) xs k le ar ∧ Below w.heap.size w wr) (fun _ i _ => m - (intOf i).toNat)
  case atStart => exact ⟨0, none, 0, [], Nat.zero_le _, rfl, rfl, ⟨rfl, .inl ⟨rfl, rfl⟩⟩, fun j hj => absurd hj (by omega), Below.refl _ _⟩
  case round =>
    obtain ⟨k, A, c, xs, hkm, rfl, rfl, hown, hrows, hbel⟩ := hrel
    have HOW := hide hown
    have HRO := hide hrows
    have HBE := hide hbel
    clear hown hrows hbel
    by_cases hlt : k < m
    · obtain ⟨b, o, rb, ro, r, qb, qo, q, rfl, h2, h3, h4, h5⟩ := HS.out k hlt
      have hki : (k : Int) < (m : Int) := by omega
      have HC := hide ((((stay_at h2).and (stay_at h3)).and ((stay_at h4).and (stay_at h5))).step HBE.out)
      have hbw := lt_of_cell h2
      have HW := hide (below_drewN (Below.refl wr.heap.size wr) 1)
      clear h2 h3 h4 h5
      go_wp2_with fail
      refine wp_region_held_drew (S := fun w_ => w_.cell? ⟨b, o + k * 2, none⟩ = some (.slice (some ⟨rb, ro, none⟩) 1 r) ∧ w_.cell? ⟨b, o + k * 2 + 1, none⟩ = some (.slice (some ⟨qb, qo, none⟩) 1 q)) (by kernel_rfl) (HC.out _ HW.out).1 (fun hHeld => ?_)
      refine take_at (i := 0) 11 (v := .slice A k c) rfl rfl (by kernel_rfl) (by kernel_rfl) (by kernel_rfl) (fun _ _ _ h => h) (Or.inl ⟨by rfl, by intro w_ hSw; go_simp⟩) (by assumption) ?_
      try simp only [Act.put, List.setIfInBounds_toArray, List.set_cons_zero, List.set_cons_succ]
      refine take_at (i := 1) 12 (v := .slice (some ⟨b, o, none⟩) m d) rfl rfl (by kernel_rfl) (by kernel_rfl) (by kernel_rfl) (fun _ _ _ h => h) (Or.inl ⟨by rfl, by intro w_ hSw; go_simp⟩) (by assumption) ?_
      try simp only [Act.put, List.setIfInBounds_toArray, List.set_cons_zero, List.set_cons_succ]
      refine take_at (i := 2) 13 (v := .int .i64 (k : Int)) rfl rfl (by kernel_rfl) (by kernel_rfl) (by kernel_rfl) (fun _ _ _ h => h) (Or.inl ⟨by rfl, by intro w_ hSw; go_simp⟩) (by assumption) ?_
      try simp only [Act.put, List.setIfInBounds_toArray, List.set_cons_zero, List.set_cons_succ]
      refine take_at (i := 3) 14 (v := .pointer (some ⟨b, o + k * 2, none⟩)) rfl rfl (by kernel_rfl) (by kernel_rfl) (by kernel_rfl) (fun _ _ _ h => h) (Or.inl ⟨by rfl, by intro w_ hSw; go_simp⟩) (by assumption) ?_
      try simp only [Act.put, List.setIfInBounds_toArray, List.set_cons_zero, List.set_cons_succ]
      refine take_at (i := 4) 15 (v := .pointer (some ⟨b, o + k * 2, none⟩)) rfl rfl (by kernel_rfl) (by kernel_rfl) (by kernel_rfl) (fun _ _ _ h => h) (Or.inl ⟨by rfl, by intro w_ hSw; go_simp⟩) (by assumption) ?_
      try simp only [Act.put, List.setIfInBounds_toArray, List.set_cons_zero, List.set_cons_succ]
      refine take_at (i := 5) 16 (v := .slice (some ⟨rb, ro, none⟩) 1 r) rfl rfl (by kernel_rfl) (by kernel_rfl) (by kernel_rfl) (fun _ _ _ h => h) (Or.inl ⟨by rfl, by intro w_ hSw; have c0 := hSw.1; go_simp⟩) (by assumption) ?_
      try simp only [Act.put, List.setIfInBounds_toArray, List.set_cons_zero, List.set_cons_succ]
      refine take_at (i := 7) 18 (v := .slice (some ⟨b, o, none⟩) m d) rfl rfl (by kernel_rfl) (by kernel_rfl) (by kernel_rfl) (fun _ _ _ h => h) (Or.inl ⟨by rfl, by intro w_ hSw; go_simp⟩) (by assumption) ?_
      try simp only [Act.put, List.setIfInBounds_toArray, List.set_cons_zero, List.set_cons_succ]
      refine take_at (i := 8) 19 (v := .int .i64 (k : Int)) rfl rfl (by kernel_rfl) (by kernel_rfl) (by kernel_rfl) (fun _ _ _ h => h) (Or.inl ⟨by rfl, by intro w_ hSw; go_simp⟩) (by assumption) ?_
      try simp only [Act.put, List.setIfInBounds_toArray, List.set_cons_zero, List.set_cons_succ]
      refine take_at (i := 9) 20 (v := .pointer (some ⟨b, o + k * 2, none⟩)) rfl rfl (by kernel_rfl) (by kernel_rfl) (by kernel_rfl) (fun _ _ _ h => h) (Or.inl ⟨by rfl, by intro w_ hSw; go_simp⟩) (by assumption) ?_
      try simp only [Act.put, List.setIfInBounds_toArray, List.set_cons_zero, List.set_cons_succ]
      refine take_at (i := 10) 21 (v := .pointer (some ⟨b, o + k * 2 + 1, none⟩)) rfl rfl (by kernel_rfl) (by kernel_rfl) (by kernel_rfl) (fun _ _ _ h => h) (Or.inl ⟨by rfl, by intro w_ hSw; go_simp⟩) (by assumption) ?_
      try simp only [Act.put, List.setIfInBounds_toArray, List.set_cons_zero, List.set_cons_succ]
      refine take_at (i := 11) 22 (v := .slice (some ⟨qb, qo, none⟩) 1 q) rfl rfl (by kernel_rfl) (by kernel_rfl) (by kernel_rfl) (fun _ _ _ h => h) (Or.inl ⟨by rfl, by intro w_ hSw; have c0 := hSw.2; go_simp⟩) (by assumption) ?_
      try simp only [Act.put, List.setIfInBounds_toArray, List.set_cons_zero, List.set_cons_succ]
      refine wpAnyH_ready (rs := [6]) (by kernel_rfl) (by simp) ?_
      refine AllReadyH.cons rfl (fun K hK => ?_) AllReadyH.nil
      go_simp
      go_at_call 34
      refine (copyOne rb ro r le _ (HC.out _ HW.out).2.1).mono ?_
      rintro e w1 ⟨g1, k1, rfl, hc1, hg1, hb⟩
      have hgg1 : wr.heap.size ≤ g1 := hg1
      replace HW := hide (Below.step HW.out hb)
      have H1 := hide (stay_at hc1)
      clear hc1 hg1 hb
      have hHeld : w1.cell? ⟨b, o + k * 2, none⟩ = some (.slice (some ⟨rb, ro, none⟩) 1 r) ∧ w1.cell? ⟨b, o + k * 2 + 1, none⟩ = some (.slice (some ⟨qb, qo, none⟩) 1 q) := (HC.out _ HW.out).1
      simp only []
      refine hK.out _ _ hHeld (fun hHeld => ?_)
      clear hK K
      try simp only [Act.put, List.setIfInBounds_toArray, List.set_cons_zero, List.set_cons_succ]
      refine wpAnyH_ready (rs := [12]) (by kernel_rfl) (by simp) ?_
      refine AllReadyH.cons rfl (fun K hK => ?_) AllReadyH.nil
      go_simp
      go_at_call 34
      refine (copyOne qb qo q (ar k) _ (HC.out _ HW.out).2.2).mono ?_
      rintro e w2 ⟨g2, k2, rfl, hc2, hg2, hb⟩
      have hgg2 : wr.heap.size ≤ g2 := Nat.le_trans HW.out.size hg2
      replace HW := hide (Below.step HW.out hb)
      replace H1 := hide (H1.out.step hb)
      have H2 := hide (stay_at hc2)
      clear hc2 hg2 hb
      have hHeld : w2.cell? ⟨b, o + k * 2, none⟩ = some (.slice (some ⟨rb, ro, none⟩) 1 r) ∧ w2.cell? ⟨b, o + k * 2 + 1, none⟩ = some (.slice (some ⟨qb, qo, none⟩) 1 q) := (HC.out _ HW.out).1
      simp only []
      refine hK.out _ _ hHeld (fun hHeld => ?_)
      clear hK K
      try simp only [Act.put, List.setIfInBounds_toArray, List.set_cons_zero, List.set_cons_succ]
      refine take_at (i := 13) 24 (v := .agg #[.slice (some ⟨g1, 0, none⟩) 1 k1, .slice (some ⟨g2, 0, none⟩) 1 k2]) rfl rfl (by kernel_rfl) (by kernel_rfl) (by kernel_rfl) (fun _ _ _ h => h) (Or.inl ⟨by rfl, by intro w_ hSw; go_simp⟩) (by assumption) ?_
      try simp only [Act.put, List.setIfInBounds_toArray, List.set_cons_zero, List.set_cons_succ]
      refine wpAnyH_ready (rs := [14]) (by kernel_rfl) (by simp) ?_
      refine AllReadyH.cons rfl (fun K hK => ?_) AllReadyH.nil
      go_simp
      obtain ⟨p, hp⟩ : ∃ p, w2.heap.size = p := ⟨_, rfl⟩
      try rw [hp]
      replace HW := hide (HW.out.alloc HW.out.size (.cells #[.slice (some ⟨g1, 0, none⟩) 1 k1, .slice (some ⟨g2, 0, none⟩) 1 k2] 44))
      replace H1 := hide (H1.out.alloc (.cells #[.slice (some ⟨g1, 0, none⟩) 1 k1, .slice (some ⟨g2, 0, none⟩) 1 k2] 44))
      replace H2 := hide (H2.out.alloc (.cells #[.slice (some ⟨g1, 0, none⟩) 1 k1, .slice (some ⟨g2, 0, none⟩) 1 k2] 44))
      have hHeld : (w2.alloc (.cells #[.slice (some ⟨g1, 0, none⟩) 1 k1, .slice (some ⟨g2, 0, none⟩) 1 k2] 44)).cell? ⟨b, o + k * 2, none⟩ = some (.slice (some ⟨rb, ro, none⟩) 1 r) ∧ (w2.alloc (.cells #[.slice (some ⟨g1, 0, none⟩) 1 k1, .slice (some ⟨g2, 0, none⟩) 1 k2] 44)).cell? ⟨b, o + k * 2 + 1, none⟩ = some (.slice (some ⟨qb, qo, none⟩) 1 q) := (HC.out _ HW.out).1
      refine hK.out _ _ hHeld (fun hHeld => ?_)
      clear hK K
      try simp only [Act.put, List.setIfInBounds_toArray, List.set_cons_zero, List.set_cons_succ]
      refine wpAnyH_ready (rs := [15]) (by kernel_rfl) (by simp) ?_
      refine AllReadyH.cons rfl (fun K hK => ?_) AllReadyH.nil
      refine step_append_any _ (by rfl) (.tmp 11) (.tmp 25) 42 (by rfl) w.heap.size 44 i1 (.agg #[.slice none 0 0, .slice none 0 0]) 2 48 Try.underlying42 hi0 hz0 hz1 hz2 rfl (by omega) (.slice A k c) k xs (by rfl) (HOW.out.kept (row := none) ⟨HW.out.os, HW.out.tape, HW.out.output, HW.out.size, fun k hk _ => HW.out.block k hk⟩ (by cases hv : Value.ownBlock (.slice A k c) <;> simp)) (p + 1) (some ⟨p, 0, none⟩) 1 1 [.slice (some ⟨g1, 0, none⟩) 1 k1, .slice (some ⟨g2, 0, none⟩) 1 k2] (by rfl) (reads_two w2 _ _ _ hp) (by simp [Value.oneCell']) (by simp only [maxLen]; omega) (by omega) (Nat.le_trans HBE.out.size HW.out.size) ?_
      intro v9 w9 hown9 hgrow hat
      replace hgrow : (w2.alloc (.cells #[.slice (some ⟨g1, 0, none⟩) 1 k1, .slice (some ⟨g2, 0, none⟩) 1 k2] 44)).grownBy w9 (Value.ownBlock (.slice A k c)) := hgrow
      obtain ⟨A9, c9, rfl⟩ := own_form hown9
      have HO9 := hide hown9
      have HR9 := hide (rows_snoc (r := k1) (q := k2) (rows_bel HRO.out HW.out) HOW.out.1 H1.out.now H2.out.now (fun e => by have := (HOW.out.lt _ e).2; omega) (fun e => by have := (HOW.out.lt _ e).2; omega) hgrow hat)
      have HB9 := hide ((Below.step HBE.out HW.out).grown hgrow (Nat.le_trans HBE.out.size HW.out.size) (fun k hk => (HOW.out.lt k hk).1))
      have hHeld : w9.cell? ⟨b, o + k * 2, none⟩ = some (.slice (some ⟨rb, ro, none⟩) 1 r) ∧ w9.cell? ⟨b, o + k * 2 + 1, none⟩ = some (.slice (some ⟨qb, qo, none⟩) 1 q) := ⟨(hgrow.cell_far ⟨b, o + k * 2, none⟩ (lt_of_cell hHeld.1) (fun e => by have := (HOW.out.lt _ e.symm).1; simp at this; omega)).trans hHeld.1, (hgrow.cell_far ⟨b, o + k * 2 + 1, none⟩ (lt_of_cell hHeld.2) (fun e => by have := (HOW.out.lt _ e.symm).1; simp at this; omega)).trans hHeld.2⟩
      clear hown9 hgrow hat H1 H2 HW
      refine hK.out _ _ hHeld (fun hHeld => ?_)
      clear hK K
      try simp only [Act.put, List.setIfInBounds_toArray]
      refine take_at (i := 16) 3 (v := .slice A9 (k + 1) c9) rfl rfl (by kernel_rfl) (by kernel_rfl) (by kernel_rfl) (fun _ _ _ h => h) (Or.inl ⟨by rfl, by intro w_ hSw; go_simp⟩) (by assumption) ?_
      try simp only [Act.put]
      refine wpAnyH_done (by kernel_rfl) ?_ _
      clear hHeld
      go_wp2_with fail
      go_roundw
      case rel => exact ⟨k + 1, A9, c9, _, by omega, rfl, by go_num, HO9.out, HR9.out, HB9.out⟩
      case measure => simp [intOf]; omega
    · obtain rfl : k = m := by omega
      have hki : ¬ (k : Int) < (k : Int) := by omega
      go_wp2
      go_ret
      exact ⟨A, c, rfl, rows_slots HOW.out HRO.out, HBE.out⟩
end Go.Proofs.Ytppkibgemacdbaa
