import Derived.Test.YtppkibgemacdbaaMgc
import Derived.Test.YtppkibgemacdbaaWvZ
namespace Go.Proofs.Ytppkibgemacdbaa
open Go.RowKit Go.WideShapes Go.ChangeShapes

/-! what holds in every later world, block U apart -/
def But (U : Nat) (w : World) (P : World → Prop) : Prop := ∀ W, w.grownBy W (some U) → P W
theorem But.now {U : Nat} {w : World} {P : World → Prop} (h : But U w P) : P w := h w (World.grownBy.refl w _)
theorem But.step {U : Nat} {w w' : World} {P : World → Prop} (h : But U w P) (hb : w.grownBy w' (some U)) : But U w' P := fun W hW => h W (hb.trans hW)
theorem But.and {U : Nat} {w : World} {P Q : World → Prop} (h : But U w P) (h' : But U w Q) : But U w (fun W => P W ∧ Q W) := fun W hW => ⟨h W hW, h' W hW⟩
theorem But.bel {U : Nat} {w w' : World} {P : World → Prop} (h : But U w P) (hb : Below w.heap.size w w') : But U w' P := h.step (only_of_below hb _)
theorem But.alloc {U : Nat} {w : World} {P : World → Prop} (h : But U w P) (o : Obj) : But U (w.alloc o) P := h.bel ((Below.refl _ _).alloc (Nat.le_refl _) o)
theorem But.drewN {U : Nat} {w : World} {P : World → Prop} (h : But U w P) (k : Nat) : But U (w.drewN k) P := h.bel (below_drewN (Below.refl _ _) k)
theorem But.set_ {U : Nat} {w : World} {P : World → Prop} (h : But U w P) (i : Nat) (u : Value) : But U (w.setCell ⟨U, i, none⟩ u) P :=
  h.step (only_setCell (World.grownBy.refl w _) (.inl rfl) u)
theorem but_grown {U : Nat} {w W : World} (h : w.grownBy W (some U)) : But U W (fun W' => w.grownBy W' (some U)) := fun _ hW => h.trans hW
theorem but_blk {U : Nat} {w : World} {g t : Nat} {cs : Array Value} (h : Blk w g t cs) (hne : g ≠ U) : But U w (fun W => Blk W g t cs) := fun _ hW => h.grown hW (fun e => hne (by injection e))
theorem but_at {U : Nat} {w : World} {b o : Nat} {v : Value} (h : w.cell? ⟨b, o, none⟩ = some v) (hne : b ≠ U) : But U w (fun W => W.cell? ⟨b, o, none⟩ = some v) := fun _ hW =>
  (hW.cell_far ⟨b, o, none⟩ (lt_of_cell h) (fun e => hne (by injection e))).trans h
theorem but_sl {U : Nat} {w : World} {A : Option Addr} {xs : List Value} (h : Sl w A xs) (hne : ∀ b off, A = some ⟨b, off, none⟩ → b ≠ U) : But U w (fun W => Sl W A xs) := fun _ hW k hk => by
  obtain ⟨b, off, e, hc⟩ := h k hk
  exact ⟨b, off, e, (hW.cell_far ⟨b, off + k, none⟩ (lt_of_cell hc) (fun e' => hne b off e (by injection e'))).trans hc⟩
theorem Stay.but {U : Nat} {w : World} {P : World → Prop} (h : But U w P) : Stay w P := fun W hW => h W (only_of_below hW _)

theorem below_drew {B : Nat} {a w : World} (h : Below B a w) : Below B a w.drew := ⟨h.os, h.tape, h.output, h.size, h.block⟩

/-! left of a run of one user -/
def leftC (C bl : Int) : Int := if 0 < bl then C - 1 else C
set_option maxRecDepth 100000 in
set_option maxHeartbeats 8000000 in
theorem left_one (B C P : Int) (A : Option Addr) (c n : Nat) (R U V vc : Nat) (nm : Bs) (kd pr wt pw le bu ra de ne wa se rt bl : Int) (w : World) (hR : Blk w R 93 #[.int .i64 B, .int .i64 C, .int .i64 P, .slice A n c, .slice (some ⟨V, 0, none⟩) 1 vc]) (hV : w.cell? ⟨V, 0, none⟩ = some (.pointer (some ⟨U, 0, none⟩))) (hU : Blk w U 97 #[strV nm, .int .i64 kd, .int .i64 pr, .int .i64 wt, .int .i64 pw, .int .i64 le, .int .i64 bu, .int .i64 ra, .int .i64 de, .int .i64 ne, .int .i64 wa, .int .i64 se, .int .i64 rt, .int .i64 bl])
    (h0 : 0 ≤ bl ∧ bl ≤ 1000000) (h1 : 0 ≤ pw ∧ pw ≤ 1000000) (hB : 0 ≤ B ∧ B ≤ 1000000) (hC : 0 ≤ C ∧ C ≤ 1000000) (hP : 0 ≤ P ∧ P ≤ 1000000) :
    Calls Try.prog 63 #[.pointer (some ⟨R, 0, none⟩)] w fun e w' => e = .returned (.agg #[.int .i64 (B - bl), .int .i64 (leftC C bl), .int .i64 (P - bl * pw)]) ∧ Below w.heap.size w w' := by
  have hm : 0 ≤ bl * pw ∧ bl * pw ≤ 1000000 * 1000000 := ⟨Int.mul_nonneg h0.1 h1.1, Int.mul_le_mul h0.2 h1.2 h1.1 (by omega)⟩
  have ww : IntKind.i64.wrap (bl * pw) = bl * pw := IntWalk.i64_in _ (by omega)
  obtain ⟨Z, hZ⟩ : ∃ z, bl * pw = z := ⟨_, rfl⟩
  rw [hZ] at hm ⊢
  replace ww := ww.trans hZ
  have w1 : IntKind.i64.wrap (B - bl) = B - bl := IntWalk.i64_in _ (by omega)
  have w2 : IntKind.i64.wrap (C - 1) = C - 1 := IntWalk.i64_in _ (by omega)
  have w3 : IntKind.i64.wrap (P - Z) = P - Z := IntWalk.i64_in _ (by omega)
  have hRl := hR.lt
  have hUl := hU.lt
  have hVl := lt_of_cell hV
  have HT := hide ((stay_blk hR).and (stay_blk hU) |>.and (stay_at hV))
  obtain ⟨CC, hCC⟩ : ∃ z, leftC C bl = z := ⟨_, rfl⟩
  rw [hCC]
  have hcase : (0 < bl ∧ CC = C - 1) ∨ (¬ 0 < bl ∧ CC = C) := by
    unfold leftC at hCC
    by_cases h : 0 < bl
    · rw [if_pos h] at hCC; exact .inl ⟨h, hCC.symm⟩
    · rw [if_neg h] at hCC; exact .inr ⟨h, hCC.symm⟩
  clear hR hU hV h0 h1 hB hC hP hm hZ hCC
  go_enter Try.func63, Try.ntmps63
  go_wp2_with fail
  have HB0 := hide ((Below.refl _ w).alloc (Nat.le_refl _) (.cells #[.int .i64 0, .int .i64 0, .int .i64 0] 51))
  have HX0 := hide (Blk.new w 51 #[.int .i64 0, .int .i64 0, .int .i64 0])
  obtain ⟨W0, hW0⟩ : ∃ W0, w.alloc (.cells #[.int .i64 0, .int .i64 0, .int .i64 0] 51) = W0 := ⟨_, rfl⟩
  rw [hW0] at HB0 HX0 ⊢
  have hz0 : W0.heap.size = w.heap.size + 1 := by rw [← hW0]; simp
  replace hz0 := hide hz0
  clear hW0
  obtain ⟨L, hL⟩ : ∃ L, W0.heap.size = L := ⟨_, rfl⟩
  have hL1 : w.heap.size < L := by have := hz0.out; omega
  have HX1 := hide (HX0.out.alloc (.cells #[.int .i64 0, .int .i64 0, .int .i64 0] 51))
  have HB1 := hide (HB0.out.alloc (by have := hz0.out; omega) (.cells #[.int .i64 0, .int .i64 0, .int .i64 0] 51))
  have HL1 := hide (Blk.newN W0 51 #[.int .i64 0, .int .i64 0, .int .i64 0] hL)
  have hHeld := (⟨below_drewN HB0.out 1, HX0.out.drewN 1⟩ : Below w.heap.size w W0.drew ∧ Blk W0.drew w.heap.size 51 #[.int .i64 0, .int .i64 0, .int .i64 0])
  refine UpTo.start (z := 20) (S := fun w' => Below w.heap.size w w' ∧ Blk w' w.heap.size 51 #[.int .i64 0, .int .i64 0, .int .i64 0]) (by kernel_rfl) ?_
  refine UpTo.take (i := 0) 6 (v := .pointer (some ⟨R, 0, none⟩)) rfl rfl (by kernel_rfl) (by kernel_rfl) (by kernel_rfl) (by kernel_rfl) (fun _ _ _ h => h) hHeld (Or.inl ⟨by rfl, by intro w_ hSw; go_simp⟩) ?_
  try simp only [Act.put, List.setIfInBounds_toArray, List.set_cons_zero, List.set_cons_succ]
  refine UpTo.take (i := 1) 7 (v := .pointer (some ⟨R, 0, none⟩)) rfl rfl (by kernel_rfl) (by kernel_rfl) (by kernel_rfl) (by kernel_rfl) (fun _ _ _ h => h) hHeld (Or.inl ⟨by rfl, by intro w_ hSw; go_simp⟩) ?_
  try simp only [Act.put, List.setIfInBounds_toArray, List.set_cons_zero, List.set_cons_succ]
  refine UpTo.take (i := 2) 8 (v := .pointer (some ⟨R, 0, none⟩)) rfl rfl (by kernel_rfl) (by kernel_rfl) (by kernel_rfl) (by kernel_rfl) (fun _ _ _ h => h) hHeld (Or.inl ⟨by rfl, by intro w_ hSw; go_simp⟩) ?_
  try simp only [Act.put, List.setIfInBounds_toArray, List.set_cons_zero, List.set_cons_succ]
  refine UpTo.take (i := 3) 9 (v := .pointer (some ⟨R, 0, none⟩)) rfl rfl (by kernel_rfl) (by kernel_rfl) (by kernel_rfl) (by kernel_rfl) (fun _ _ _ h => h) hHeld (Or.inl ⟨by rfl, by intro w_ hSw; go_simp⟩) ?_
  try simp only [Act.put, List.setIfInBounds_toArray, List.set_cons_zero, List.set_cons_succ]
  refine UpTo.take (i := 4) 10 (v := .pointer (some ⟨R, 0, none⟩)) rfl rfl (by kernel_rfl) (by kernel_rfl) (by kernel_rfl) (by kernel_rfl) (fun _ _ _ h => h) hHeld (Or.inl ⟨by rfl, by intro w_ hSw; go_simp⟩) ?_
  try simp only [Act.put, List.setIfInBounds_toArray, List.set_cons_zero, List.set_cons_succ]
  refine UpTo.take (i := 5) 11 (v := .int .i64 B) rfl rfl (by kernel_rfl) (by kernel_rfl) (by kernel_rfl) (by kernel_rfl) (fun _ _ _ h => h) hHeld (Or.inl ⟨by rfl, by intro w_ hSw; have hb := hSw.1; have c0 : w_.cell? ⟨R, 0, none⟩ = some (.int .i64 B) := (HT.out _ hb).1.1.cell 0; have c1 : w_.cell? ⟨R, 1, none⟩ = some (.int .i64 C) := (HT.out _ hb).1.1.cell 1; have c2 : w_.cell? ⟨R, 2, none⟩ = some (.int .i64 P) := (HT.out _ hb).1.1.cell 2; go_simp⟩) ?_
  try simp only [Act.put, List.setIfInBounds_toArray, List.set_cons_zero, List.set_cons_succ]
  refine UpTo.take (i := 6) 12 (v := .pointer (some ⟨R, 0, none⟩)) rfl rfl (by kernel_rfl) (by kernel_rfl) (by kernel_rfl) (by kernel_rfl) (fun _ _ _ h => h) hHeld (Or.inl ⟨by rfl, by intro w_ hSw; go_simp⟩) ?_
  try simp only [Act.put, List.setIfInBounds_toArray, List.set_cons_zero, List.set_cons_succ]
  refine UpTo.take (i := 7) 13 (v := .pointer (some ⟨R, 0, none⟩)) rfl rfl (by kernel_rfl) (by kernel_rfl) (by kernel_rfl) (by kernel_rfl) (fun _ _ _ h => h) hHeld (Or.inl ⟨by rfl, by intro w_ hSw; go_simp⟩) ?_
  try simp only [Act.put, List.setIfInBounds_toArray, List.set_cons_zero, List.set_cons_succ]
  refine UpTo.take (i := 8) 14 (v := .pointer (some ⟨R, 0, none⟩)) rfl rfl (by kernel_rfl) (by kernel_rfl) (by kernel_rfl) (by kernel_rfl) (fun _ _ _ h => h) hHeld (Or.inl ⟨by rfl, by intro w_ hSw; go_simp⟩) ?_
  try simp only [Act.put, List.setIfInBounds_toArray, List.set_cons_zero, List.set_cons_succ]
  refine UpTo.take (i := 9) 15 (v := .pointer (some ⟨R, 0, none⟩)) rfl rfl (by kernel_rfl) (by kernel_rfl) (by kernel_rfl) (by kernel_rfl) (fun _ _ _ h => h) hHeld (Or.inl ⟨by rfl, by intro w_ hSw; go_simp⟩) ?_
  try simp only [Act.put, List.setIfInBounds_toArray, List.set_cons_zero, List.set_cons_succ]
  refine UpTo.take (i := 10) 16 (v := .pointer (some ⟨R, 1, none⟩)) rfl rfl (by kernel_rfl) (by kernel_rfl) (by kernel_rfl) (by kernel_rfl) (fun _ _ _ h => h) hHeld (Or.inl ⟨by rfl, by intro w_ hSw; go_simp⟩) ?_
  try simp only [Act.put, List.setIfInBounds_toArray, List.set_cons_zero, List.set_cons_succ]
  refine UpTo.take (i := 11) 17 (v := .int .i64 C) rfl rfl (by kernel_rfl) (by kernel_rfl) (by kernel_rfl) (by kernel_rfl) (fun _ _ _ h => h) hHeld (Or.inl ⟨by rfl, by intro w_ hSw; have hb := hSw.1; have c0 : w_.cell? ⟨R, 0, none⟩ = some (.int .i64 B) := (HT.out _ hb).1.1.cell 0; have c1 : w_.cell? ⟨R, 1, none⟩ = some (.int .i64 C) := (HT.out _ hb).1.1.cell 1; have c2 : w_.cell? ⟨R, 2, none⟩ = some (.int .i64 P) := (HT.out _ hb).1.1.cell 2; go_simp⟩) ?_
  try simp only [Act.put, List.setIfInBounds_toArray, List.set_cons_zero, List.set_cons_succ]
  refine UpTo.take (i := 12) 18 (v := .pointer (some ⟨R, 0, none⟩)) rfl rfl (by kernel_rfl) (by kernel_rfl) (by kernel_rfl) (by kernel_rfl) (fun _ _ _ h => h) hHeld (Or.inl ⟨by rfl, by intro w_ hSw; go_simp⟩) ?_
  try simp only [Act.put, List.setIfInBounds_toArray, List.set_cons_zero, List.set_cons_succ]
  refine UpTo.take (i := 13) 19 (v := .pointer (some ⟨R, 0, none⟩)) rfl rfl (by kernel_rfl) (by kernel_rfl) (by kernel_rfl) (by kernel_rfl) (fun _ _ _ h => h) hHeld (Or.inl ⟨by rfl, by intro w_ hSw; go_simp⟩) ?_
  try simp only [Act.put, List.setIfInBounds_toArray, List.set_cons_zero, List.set_cons_succ]
  refine UpTo.take (i := 14) 20 (v := .pointer (some ⟨R, 0, none⟩)) rfl rfl (by kernel_rfl) (by kernel_rfl) (by kernel_rfl) (by kernel_rfl) (fun _ _ _ h => h) hHeld (Or.inl ⟨by rfl, by intro w_ hSw; go_simp⟩) ?_
  try simp only [Act.put, List.setIfInBounds_toArray, List.set_cons_zero, List.set_cons_succ]
  refine UpTo.take (i := 15) 21 (v := .pointer (some ⟨R, 0, none⟩)) rfl rfl (by kernel_rfl) (by kernel_rfl) (by kernel_rfl) (by kernel_rfl) (fun _ _ _ h => h) hHeld (Or.inl ⟨by rfl, by intro w_ hSw; go_simp⟩) ?_
  try simp only [Act.put, List.setIfInBounds_toArray, List.set_cons_zero, List.set_cons_succ]
  refine UpTo.take (i := 16) 22 (v := .pointer (some ⟨R, 2, none⟩)) rfl rfl (by kernel_rfl) (by kernel_rfl) (by kernel_rfl) (by kernel_rfl) (fun _ _ _ h => h) hHeld (Or.inl ⟨by rfl, by intro w_ hSw; go_simp⟩) ?_
  try simp only [Act.put, List.setIfInBounds_toArray, List.set_cons_zero, List.set_cons_succ]
  refine UpTo.take (i := 17) 23 (v := .int .i64 P) rfl rfl (by kernel_rfl) (by kernel_rfl) (by kernel_rfl) (by kernel_rfl) (fun _ _ _ h => h) hHeld (Or.inl ⟨by rfl, by intro w_ hSw; have hb := hSw.1; have c0 : w_.cell? ⟨R, 0, none⟩ = some (.int .i64 B) := (HT.out _ hb).1.1.cell 0; have c1 : w_.cell? ⟨R, 1, none⟩ = some (.int .i64 C) := (HT.out _ hb).1.1.cell 1; have c2 : w_.cell? ⟨R, 2, none⟩ = some (.int .i64 P) := (HT.out _ hb).1.1.cell 2; go_simp⟩) ?_
  try simp only [Act.put, List.setIfInBounds_toArray, List.set_cons_zero, List.set_cons_succ]
  refine UpTo.take (i := 18) 24 (v := .agg #[.int .i64 B, .int .i64 C, .int .i64 P]) rfl rfl (by kernel_rfl) (by kernel_rfl) (by kernel_rfl) (by kernel_rfl) (fun _ _ _ h => h) hHeld (Or.inl ⟨by rfl, by intro w_ hSw; go_simp⟩) ?_
  try simp only [Act.put, List.setIfInBounds_toArray, List.set_cons_zero, List.set_cons_succ]
  refine UpTo.next (i := 19) (by kernel_rfl) rfl (fun K hK => ?_)
  go_simp
  refine hK.out _ _ (fun _ => (⟨below_drewN HB1.out 1, HX1.out.drewN 1⟩)) ?_
  clear hK K
  try simp only [Act.put, List.setIfInBounds_toArray, List.set_cons_zero, List.set_cons_succ]
  refine UpTo.next (i := 20) (by kernel_rfl) rfl (fun K hK => ?_)
  refine step_store_rowF rfl 51 _ _ rfl L #[.int .i64 B, .int .i64 C, .int .i64 P] rfl rfl 51 #[.int .i64 0, .int .i64 0, .int .i64 0] (HL1.out.drewN 1) (by kernel_rfl) rfl (by simp [Value.oneCell']) ?_
  refine hK.out _ _ (fun h => absurd rfl h) ?_
  clear hK K
  refine UpTo.done (by kernel_rfl) ?_ _
  have HL2 := hide (HL1.out.drew.row #[.int .i64 B, .int .i64 C, .int .i64 P])
  have HX2 := hide (HX1.out.drew.rowFar (k := L) (by omega) #[.int .i64 B, .int .i64 C, .int .i64 P])
  have HB2 := hide (Below.row (g := L) (below_drew HB1.out) (by omega) #[.int .i64 B, .int .i64 C, .int .i64 P])
  clear hHeld HX0 HB0 HX1 HB1 HL1
  obtain ⟨W2, hW2⟩ : ∃ W2, (W0.alloc (.cells #[.int .i64 0, .int .i64 0, .int .i64 0] 51)).drew.setRow L #[.int .i64 B, .int .i64 C, .int .i64 P] = W2 := ⟨_, rfl⟩
  rw [hW2] at HB2 HX2 HL2 ⊢
  clear hW2 hL hz0
  have r4 : W2.cell? ⟨R, 4, none⟩ = some (.slice (some ⟨V, 0, none⟩) 1 vc) := (HT.out _ HB2.out).1.1.cell 4
  have v0 : W2.cell? ⟨V, 0, none⟩ = some (.pointer (some ⟨U, 0, none⟩)) := (HT.out _ HB2.out).2
  have l0 : W2.cell? ⟨L, 0, none⟩ = some (.int .i64 B) := HL2.out.cell 0
  have lf0 := HL2.out.frozen 0
  have u13 : W2.cell? ⟨U, 13, none⟩ = some (.int .i64 bl) := (HT.out _ HB2.out).1.2.cell 13
  go_wp2_with fail
  refine wp_loop_rounds 2 ?_
  rw [rounds_succ]
  go_wp2_with fail
  have hHeld := (rfl : W2.drew = W2.drew)
  refine UpTo.start (z := 8) (S := fun w' => w' = W2.drew) (by kernel_rfl) ?_
  refine UpTo.take (i := 0) 34 (v := .pointer (some ⟨L, 0, none⟩)) rfl rfl (by kernel_rfl) (by kernel_rfl) (by kernel_rfl) (by kernel_rfl) (fun _ _ _ h => h) hHeld (Or.inl ⟨by rfl, by intro w_ hSw; go_simp⟩) ?_
  try simp only [Act.put, List.setIfInBounds_toArray, List.set_cons_zero, List.set_cons_succ]
  refine UpTo.take (i := 1) 35 (v := .int .i64 B) rfl rfl (by kernel_rfl) (by kernel_rfl) (by kernel_rfl) (by kernel_rfl) (fun _ _ _ h => h) hHeld (Or.inl ⟨by rfl, by intro w_ hSw; rw [hSw]; go_simp⟩) ?_
  try simp only [Act.put, List.setIfInBounds_toArray, List.set_cons_zero, List.set_cons_succ]
  refine UpTo.take (i := 2) 36 (v := .pointer (some ⟨U, 0, none⟩)) rfl rfl (by kernel_rfl) (by kernel_rfl) (by kernel_rfl) (by kernel_rfl) (fun _ _ _ h => h) hHeld (Or.inl ⟨by rfl, by intro w_ hSw; go_simp⟩) ?_
  try simp only [Act.put, List.setIfInBounds_toArray, List.set_cons_zero, List.set_cons_succ]
  refine UpTo.take (i := 3) 37 (v := .pointer (some ⟨U, 0, none⟩)) rfl rfl (by kernel_rfl) (by kernel_rfl) (by kernel_rfl) (by kernel_rfl) (fun _ _ _ h => h) hHeld (Or.inl ⟨by rfl, by intro w_ hSw; go_simp⟩) ?_
  try simp only [Act.put, List.setIfInBounds_toArray, List.set_cons_zero, List.set_cons_succ]
  refine UpTo.take (i := 4) 38 (v := .pointer (some ⟨U, 13, none⟩)) rfl rfl (by kernel_rfl) (by kernel_rfl) (by kernel_rfl) (by kernel_rfl) (fun _ _ _ h => h) hHeld (Or.inl ⟨by rfl, by intro w_ hSw; go_simp⟩) ?_
  try simp only [Act.put, List.setIfInBounds_toArray, List.set_cons_zero, List.set_cons_succ]
  refine UpTo.take (i := 5) 39 (v := .int .i64 bl) rfl rfl (by kernel_rfl) (by kernel_rfl) (by kernel_rfl) (by kernel_rfl) (fun _ _ _ h => h) hHeld (Or.inl ⟨by rfl, by intro w_ hSw; rw [hSw]; go_simp⟩) ?_
  try simp only [Act.put, List.setIfInBounds_toArray, List.set_cons_zero, List.set_cons_succ]
  refine UpTo.take (i := 6) 40 (v := .int .i64 (B - bl)) rfl rfl (by kernel_rfl) (by kernel_rfl) (by kernel_rfl) (by kernel_rfl) (fun _ _ _ h => h) hHeld (Or.inl ⟨by rfl, by intro w_ hSw; go_simp⟩) ?_
  try simp only [Act.put, List.setIfInBounds_toArray, List.set_cons_zero, List.set_cons_succ]
  refine UpTo.take (i := 7) 41 (v := .pointer (some ⟨L, 0, none⟩)) rfl rfl (by kernel_rfl) (by kernel_rfl) (by kernel_rfl) (by kernel_rfl) (fun _ _ _ h => h) hHeld (Or.inl ⟨by rfl, by intro w_ hSw; go_simp⟩) ?_
  try simp only [Act.put, List.setIfInBounds_toArray, List.set_cons_zero, List.set_cons_succ]
  refine UpTo.next (i := 8) (by kernel_rfl) rfl (fun K hK => ?_)
  go_simp
  refine hK.out _ _ (fun h => absurd rfl h) ?_
  clear hK K
  refine UpTo.done (by kernel_rfl) ?_ _
  have HL3 : Hid (Blk (W2.setCell ⟨L, 0, none⟩ (.int .i64 (B - bl))).drew L 51 #[.int .i64 (B - bl), .int .i64 C, .int .i64 P]) := hide (HL2.out.set_ 0 (.int .i64 (B - bl))).drew
  have HB3 := hide (below_drew (HB2.out.setCell (p := ⟨L, 0, none⟩) (by show _ ≤ L; omega) (.int .i64 (B - bl))))
  have HX3 := hide (HX2.out.far (p := ⟨L, 0, none⟩) (by show _ ≠ L; omega) (.int .i64 (B - bl))).drew
  obtain ⟨W3, hW3⟩ : ∃ W3, (W2.setCell ⟨L, 0, none⟩ (.int .i64 (B - bl))).drew = W3 := ⟨_, rfl⟩
  rw [hW3] at HB3 HX3 HL3 ⊢
  clear hW3 HL2 HB2 HX2 hHeld l0 lf0 u13 r4 v0
  have r4 : W3.cell? ⟨R, 4, none⟩ = some (.slice (some ⟨V, 0, none⟩) 1 vc) := (HT.out _ HB3.out).1.1.cell 4
  have u4 : W3.cell? ⟨U, 4, none⟩ = some (.int .i64 pw) := (HT.out _ HB3.out).1.2.cell 4
  have u13 : W3.cell? ⟨U, 13, none⟩ = some (.int .i64 bl) := (HT.out _ HB3.out).1.2.cell 13
  have l0 : W3.cell? ⟨L, 0, none⟩ = some (.int .i64 (B - bl)) := HL3.out.cell 0
  have l1 : W3.cell? ⟨L, 1, none⟩ = some (.int .i64 C) := HL3.out.cell 1
  have l2 : W3.cell? ⟨L, 2, none⟩ = some (.int .i64 P) := HL3.out.cell 2
  have lf0 := HL3.out.frozen 0
  have lf1 := HL3.out.frozen 1
  have lf2 := HL3.out.frozen 2
  go_wp2_with fail
  have hHeld := (rfl : W3.drew = W3.drew)
  refine UpTo.start (z := 14) (S := fun w' => w' = W3.drew) (by kernel_rfl) ?_
  refine UpTo.take (i := 0) 42 (v := .pointer (some ⟨L, 2, none⟩)) rfl rfl (by kernel_rfl) (by kernel_rfl) (by kernel_rfl) (by kernel_rfl) (fun _ _ _ h => h) hHeld (Or.inl ⟨by rfl, by intro w_ hSw; go_simp⟩) ?_
  try simp only [Act.put, List.setIfInBounds_toArray, List.set_cons_zero, List.set_cons_succ]
  refine UpTo.take (i := 1) 43 (v := .int .i64 P) rfl rfl (by kernel_rfl) (by kernel_rfl) (by kernel_rfl) (by kernel_rfl) (fun _ _ _ h => h) hHeld (Or.inl ⟨by rfl, by intro w_ hSw; rw [hSw]; go_simp⟩) ?_
  try simp only [Act.put, List.setIfInBounds_toArray, List.set_cons_zero, List.set_cons_succ]
  refine UpTo.take (i := 2) 44 (v := .pointer (some ⟨U, 0, none⟩)) rfl rfl (by kernel_rfl) (by kernel_rfl) (by kernel_rfl) (by kernel_rfl) (fun _ _ _ h => h) hHeld (Or.inl ⟨by rfl, by intro w_ hSw; go_simp⟩) ?_
  try simp only [Act.put, List.setIfInBounds_toArray, List.set_cons_zero, List.set_cons_succ]
  refine UpTo.take (i := 3) 45 (v := .pointer (some ⟨U, 0, none⟩)) rfl rfl (by kernel_rfl) (by kernel_rfl) (by kernel_rfl) (by kernel_rfl) (fun _ _ _ h => h) hHeld (Or.inl ⟨by rfl, by intro w_ hSw; go_simp⟩) ?_
  try simp only [Act.put, List.setIfInBounds_toArray, List.set_cons_zero, List.set_cons_succ]
  refine UpTo.take (i := 4) 46 (v := .pointer (some ⟨U, 13, none⟩)) rfl rfl (by kernel_rfl) (by kernel_rfl) (by kernel_rfl) (by kernel_rfl) (fun _ _ _ h => h) hHeld (Or.inl ⟨by rfl, by intro w_ hSw; go_simp⟩) ?_
  try simp only [Act.put, List.setIfInBounds_toArray, List.set_cons_zero, List.set_cons_succ]
  refine UpTo.take (i := 5) 47 (v := .int .i64 bl) rfl rfl (by kernel_rfl) (by kernel_rfl) (by kernel_rfl) (by kernel_rfl) (fun _ _ _ h => h) hHeld (Or.inl ⟨by rfl, by intro w_ hSw; rw [hSw]; go_simp⟩) ?_
  try simp only [Act.put, List.setIfInBounds_toArray, List.set_cons_zero, List.set_cons_succ]
  refine UpTo.take (i := 6) 48 (v := .pointer (some ⟨U, 0, none⟩)) rfl rfl (by kernel_rfl) (by kernel_rfl) (by kernel_rfl) (by kernel_rfl) (fun _ _ _ h => h) hHeld (Or.inl ⟨by rfl, by intro w_ hSw; go_simp⟩) ?_
  try simp only [Act.put, List.setIfInBounds_toArray, List.set_cons_zero, List.set_cons_succ]
  refine UpTo.take (i := 7) 49 (v := .pointer (some ⟨U, 0, none⟩)) rfl rfl (by kernel_rfl) (by kernel_rfl) (by kernel_rfl) (by kernel_rfl) (fun _ _ _ h => h) hHeld (Or.inl ⟨by rfl, by intro w_ hSw; go_simp⟩) ?_
  try simp only [Act.put, List.setIfInBounds_toArray, List.set_cons_zero, List.set_cons_succ]
  refine UpTo.take (i := 8) 50 (v := .pointer (some ⟨U, 0, none⟩)) rfl rfl (by kernel_rfl) (by kernel_rfl) (by kernel_rfl) (by kernel_rfl) (fun _ _ _ h => h) hHeld (Or.inl ⟨by rfl, by intro w_ hSw; go_simp⟩) ?_
  try simp only [Act.put, List.setIfInBounds_toArray, List.set_cons_zero, List.set_cons_succ]
  refine UpTo.take (i := 9) 51 (v := .pointer (some ⟨U, 4, none⟩)) rfl rfl (by kernel_rfl) (by kernel_rfl) (by kernel_rfl) (by kernel_rfl) (fun _ _ _ h => h) hHeld (Or.inl ⟨by rfl, by intro w_ hSw; go_simp⟩) ?_
  try simp only [Act.put, List.setIfInBounds_toArray, List.set_cons_zero, List.set_cons_succ]
  refine UpTo.take (i := 10) 52 (v := .int .i64 pw) rfl rfl (by kernel_rfl) (by kernel_rfl) (by kernel_rfl) (by kernel_rfl) (fun _ _ _ h => h) hHeld (Or.inl ⟨by rfl, by intro w_ hSw; rw [hSw]; go_simp⟩) ?_
  try simp only [Act.put, List.setIfInBounds_toArray, List.set_cons_zero, List.set_cons_succ]
  refine UpTo.take (i := 11) 53 (v := .int .i64 Z) rfl rfl (by kernel_rfl) (by kernel_rfl) (by kernel_rfl) (by kernel_rfl) (fun _ _ _ h => h) hHeld (Or.inl ⟨by rfl, by intro w_ hSw; go_simp⟩) ?_
  try simp only [Act.put, List.setIfInBounds_toArray, List.set_cons_zero, List.set_cons_succ]
  refine UpTo.take (i := 12) 54 (v := .int .i64 (P - Z)) rfl rfl (by kernel_rfl) (by kernel_rfl) (by kernel_rfl) (by kernel_rfl) (fun _ _ _ h => h) hHeld (Or.inl ⟨by rfl, by intro w_ hSw; go_simp⟩) ?_
  try simp only [Act.put, List.setIfInBounds_toArray, List.set_cons_zero, List.set_cons_succ]
  refine UpTo.take (i := 13) 55 (v := .pointer (some ⟨L, 2, none⟩)) rfl rfl (by kernel_rfl) (by kernel_rfl) (by kernel_rfl) (by kernel_rfl) (fun _ _ _ h => h) hHeld (Or.inl ⟨by rfl, by intro w_ hSw; go_simp⟩) ?_
  try simp only [Act.put, List.setIfInBounds_toArray, List.set_cons_zero, List.set_cons_succ]
  refine UpTo.next (i := 14) (by kernel_rfl) rfl (fun K hK => ?_)
  go_simp
  refine hK.out _ _ (fun h => absurd rfl h) ?_
  clear hK K
  refine UpTo.done (by kernel_rfl) ?_ _
  have HL4 : Hid (Blk (W3.setCell ⟨L, 2, none⟩ (.int .i64 (P - Z))).drew L 51 #[.int .i64 (B - bl), .int .i64 C, .int .i64 (P - Z)]) := hide (HL3.out.set_ 2 (.int .i64 (P - Z))).drew
  have HB4 := hide (below_drew (HB3.out.setCell (p := ⟨L, 2, none⟩) (by show _ ≤ L; omega) (.int .i64 (P - Z))))
  have HX4 := hide (HX3.out.far (p := ⟨L, 2, none⟩) (by show _ ≠ L; omega) (.int .i64 (P - Z))).drew
  obtain ⟨W4, hW4⟩ : ∃ W4, (W3.setCell ⟨L, 2, none⟩ (.int .i64 (P - Z))).drew = W4 := ⟨_, rfl⟩
  rw [hW4] at HB4 HX4 HL4 ⊢
  clear hW4 HL3 HB3 HX3 hHeld l0 l1 l2 lf0 lf1 lf2 u13 u4 r4
  have r4 : W4.cell? ⟨R, 4, none⟩ = some (.slice (some ⟨V, 0, none⟩) 1 vc) := (HT.out _ HB4.out).1.1.cell 4
  have u4 : W4.cell? ⟨U, 4, none⟩ = some (.int .i64 pw) := (HT.out _ HB4.out).1.2.cell 4
  have u13 : W4.cell? ⟨U, 13, none⟩ = some (.int .i64 bl) := (HT.out _ HB4.out).1.2.cell 13
  have l0 : W4.cell? ⟨L, 0, none⟩ = some (.int .i64 (B - bl)) := HL4.out.cell 0
  have l1 : W4.cell? ⟨L, 1, none⟩ = some (.int .i64 C) := HL4.out.cell 1
  have l2 : W4.cell? ⟨L, 2, none⟩ = some (.int .i64 (P - Z)) := HL4.out.cell 2
  have lf0 := HL4.out.frozen 0
  have lf1 := HL4.out.frozen 1
  have lf2 := HL4.out.frozen 2
  rcases hcase with ⟨hbl, rfl⟩ | ⟨hbl, rfl⟩
  · have hbl2 : ¬ bl ≤ 0 := by omega
    go_wp2_with fail
    have HB5 := hide (HB4.out.setCell (p := ⟨L, 1, none⟩) (by show _ ≤ L; omega) (.int .i64 (C - 1)))
    have HL5 : Hid (Blk _ L 51 #[.int .i64 (B - bl), .int .i64 (C - 1), .int .i64 (P - Z)]) := hide (HL4.out.set_ 1 (.int .i64 (C - 1)))
    have HX5 := hide (HX4.out.far (p := ⟨L, 1, none⟩) (by show _ ≠ L; omega) (.int .i64 (C - 1)))
    obtain ⟨W5, hW5⟩ : ∃ W5, W4.setCell ⟨L, 1, none⟩ (.int .i64 (C - 1)) = W5 := ⟨_, rfl⟩
    rw [hW5] at HB5 HX5 HL5 ⊢
    clear hW5 HB4 HX4 HL4 l0 l1 l2
    have l0 : W5.cell? ⟨L, 0, none⟩ = some (.int .i64 (B - bl)) := HL5.out.cell 0
    have l1 : W5.cell? ⟨L, 1, none⟩ = some (.int .i64 (C - 1)) := HL5.out.cell 1
    have l2 : W5.cell? ⟨L, 2, none⟩ = some (.int .i64 (P - Z)) := HL5.out.cell 2
    clear r4 u4 u13 lf0 lf1 lf2
    rw [rounds_succ]
    go_wp2_with (refine wpList_store_row rfl 51 (.tmp 2) (.tmp 66) rfl w.heap.size #[.int .i64 (B - bl), .int .i64 (C - 1), .int .i64 (P - Z)] rfl rfl 51 #[.int .i64 0, .int .i64 0, .int .i64 0] HX5.out (by kernel_rfl) rfl (by simp [Value.oneCell']) ?_)
    have HXe := hide (HX5.out.row #[.int .i64 (B - bl), .int .i64 (C - 1), .int .i64 (P - Z)])
    have HBe := hide (Below.row (g := w.heap.size) HB5.out (Nat.le_refl _) #[.int .i64 (B - bl), .int .i64 (C - 1), .int .i64 (P - Z)])
    obtain ⟨We, hWe⟩ : ∃ We, W5.setRow w.heap.size #[.int .i64 (B - bl), .int .i64 (C - 1), .int .i64 (P - Z)] = We := ⟨_, rfl⟩
    rw [hWe] at HXe HBe ⊢
    refine bodyPost_ret (v := .agg #[.int .i64 (B - bl), .int .i64 (C - 1), .int .i64 (P - Z)]) ?_ rfl ⟨rfl, HBe.out⟩
    have y0 : We.cell? ⟨w.heap.size, 0, none⟩ = some (.int .i64 (B - bl)) := HXe.out.cell 0
    have y1 : We.cell? ⟨w.heap.size, 1, none⟩ = some (.int .i64 (C - 1)) := HXe.out.cell 1
    have y2 : We.cell? ⟨w.heap.size, 2, none⟩ = some (.int .i64 (P - Z)) := HXe.out.cell 2
    simp [results, Try.results63, go_sem, y0, y1, y2]
  · have hbl2 : bl ≤ 0 := by omega
    go_wp2_with fail
    clear l0 l1 l2
    have l0 : W4.cell? ⟨L, 0, none⟩ = some (.int .i64 (B - bl)) := HL4.out.cell 0
    have l1 : W4.cell? ⟨L, 1, none⟩ = some (.int .i64 CC) := HL4.out.cell 1
    have l2 : W4.cell? ⟨L, 2, none⟩ = some (.int .i64 (P - Z)) := HL4.out.cell 2
    clear r4 u4 u13 lf0 lf1 lf2
    rw [rounds_succ]
    go_wp2_with (refine wpList_store_row rfl 51 (.tmp 2) (.tmp 66) rfl w.heap.size #[.int .i64 (B - bl), .int .i64 CC, .int .i64 (P - Z)] rfl rfl 51 #[.int .i64 0, .int .i64 0, .int .i64 0] HX4.out (by kernel_rfl) rfl (by simp [Value.oneCell']) ?_)
    have HXe := hide (HX4.out.row #[.int .i64 (B - bl), .int .i64 CC, .int .i64 (P - Z)])
    have HBe := hide (Below.row (g := w.heap.size) HB4.out (Nat.le_refl _) #[.int .i64 (B - bl), .int .i64 CC, .int .i64 (P - Z)])
    obtain ⟨We, hWe⟩ : ∃ We, W4.setRow w.heap.size #[.int .i64 (B - bl), .int .i64 CC, .int .i64 (P - Z)] = We := ⟨_, rfl⟩
    rw [hWe] at HXe HBe ⊢
    refine bodyPost_ret (v := .agg #[.int .i64 (B - bl), .int .i64 CC, .int .i64 (P - Z)]) ?_ rfl ⟨rfl, HBe.out⟩
    have y0 : We.cell? ⟨w.heap.size, 0, none⟩ = some (.int .i64 (B - bl)) := HXe.out.cell 0
    have y1 : We.cell? ⟨w.heap.size, 1, none⟩ = some (.int .i64 CC) := HXe.out.cell 1
    have y2 : We.cell? ⟨w.heap.size, 2, none⟩ = some (.int .i64 (P - Z)) := HXe.out.cell 2
    simp [results, Try.results63, go_sem, y0, y1, y2]
end Go.Proofs.Ytppkibgemacdbaa
