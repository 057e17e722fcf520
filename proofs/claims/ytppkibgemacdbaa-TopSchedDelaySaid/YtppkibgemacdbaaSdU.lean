import Derived.Test.YtppkibgemacdbaaSdT
namespace Go.Proofs.Ytppkibgemacdbaa
open Go.RowKit Go.WideShapes Go.ChangeShapes

/-! a user of a run -/
set_option maxRecDepth 100000 in
set_option maxHeartbeats 4000000 in
theorem taken_run (u : Nat) (nm : Bs) (kd pr wt pw le bu ra de ne wa se rt bl : Int) (w : World) (hu : Blk w u 97 #[strV nm, .int .i64 kd, .int .i64 pr, .int .i64 wt, .int .i64 pw, .int .i64 le, .int .i64 bu, .int .i64 ra, .int .i64 de, .int .i64 ne, .int .i64 wa, .int .i64 se, .int .i64 rt, .int .i64 bl]) (h0 : 0 ≤ bl ∧ bl ≤ 1000000) (h1 : 0 ≤ rt ∧ rt ≤ 1000) :
    Calls Try.prog 57 #[.pointer (some ⟨u, 0, none⟩)] w fun e w' => e = .returned (.int .i64 (min wa (bl * rt))) ∧ Below w.heap.size w w' := by
  have hm : 0 ≤ bl * rt ∧ bl * rt ≤ 1000000 * 1000 := ⟨Int.mul_nonneg h0.1 h1.1, Int.mul_le_mul h0.2 h1.2 h1.1 (by omega)⟩
  have ww : IntKind.i64.wrap (bl * rt) = bl * rt := IntWalk.i64_in _ (by omega)
  obtain ⟨Z, hZ⟩ : ∃ z, bl * rt = z := ⟨_, rfl⟩
  rw [hZ] at hm ⊢
  replace ww := ww.trans hZ
  have HL := hide (fun W (h : Below w.heap.size w W) => hu.below h hu.lt)
  clear hZ h0 h1 hu
  rcases (by omega : wa ≤ Z ∨ Z < wa) with hq | hq
  · have hmx : min wa Z = wa := by omega
    rw [hmx]
    have hm2 : ¬ Z < wa := by omega
    go_enter Try.func57, Try.ntmps57
    go_wp2_with fail
    refine wp_region_held_drew (S := fun w' => Below w.heap.size w w') (by kernel_rfl) (below_drewN (Below.refl _ _) 1) (fun hHeld => ?_)
    refine take_at (i := 0) 3 (v := .pointer (some ⟨u, 0, none⟩)) rfl rfl (by kernel_rfl) (by kernel_rfl) (by kernel_rfl) (fun _ _ _ h => h) (Or.inl ⟨by rfl, by intro w hSw; go_simp⟩) (by assumption) ?_
    try simp only [Act.put, List.setIfInBounds_toArray, List.set_cons_zero, List.set_cons_succ]
    refine take_at (i := 1) 4 (v := .pointer (some ⟨u, 0, none⟩)) rfl rfl (by kernel_rfl) (by kernel_rfl) (by kernel_rfl) (fun _ _ _ h => h) (Or.inl ⟨by rfl, by intro w hSw; go_simp⟩) (by assumption) ?_
    try simp only [Act.put, List.setIfInBounds_toArray, List.set_cons_zero, List.set_cons_succ]
    refine take_at (i := 2) 5 (v := .pointer (some ⟨u, 10, none⟩)) rfl rfl (by kernel_rfl) (by kernel_rfl) (by kernel_rfl) (fun _ _ _ h => h) (Or.inl ⟨by rfl, by intro w hSw; go_simp⟩) (by assumption) ?_
    try simp only [Act.put, List.setIfInBounds_toArray, List.set_cons_zero, List.set_cons_succ]
    refine take_at (i := 3) 6 (v := .int .i64 wa) rfl rfl (by kernel_rfl) (by kernel_rfl) (by kernel_rfl) (fun _ _ _ h => h) (Or.inl ⟨by rfl, by intro w_ hSw; have hb := HL.out w_ hSw; have c10 : w_.cell? ⟨u, 10, none⟩ = some (.int .i64 wa) := hb.cell 10; have c12 : w_.cell? ⟨u, 12, none⟩ = some (.int .i64 rt) := hb.cell 12; have c13 : w_.cell? ⟨u, 13, none⟩ = some (.int .i64 bl) := hb.cell 13; go_simp⟩) (by assumption) ?_
    try simp only [Act.put, List.setIfInBounds_toArray, List.set_cons_zero, List.set_cons_succ]
    refine take_at (i := 4) 7 (v := .pointer (some ⟨u, 0, none⟩)) rfl rfl (by kernel_rfl) (by kernel_rfl) (by kernel_rfl) (fun _ _ _ h => h) (Or.inl ⟨by rfl, by intro w hSw; go_simp⟩) (by assumption) ?_
    try simp only [Act.put, List.setIfInBounds_toArray, List.set_cons_zero, List.set_cons_succ]
    refine take_at (i := 5) 8 (v := .pointer (some ⟨u, 0, none⟩)) rfl rfl (by kernel_rfl) (by kernel_rfl) (by kernel_rfl) (fun _ _ _ h => h) (Or.inl ⟨by rfl, by intro w hSw; go_simp⟩) (by assumption) ?_
    try simp only [Act.put, List.setIfInBounds_toArray, List.set_cons_zero, List.set_cons_succ]
    refine take_at (i := 6) 9 (v := .pointer (some ⟨u, 13, none⟩)) rfl rfl (by kernel_rfl) (by kernel_rfl) (by kernel_rfl) (fun _ _ _ h => h) (Or.inl ⟨by rfl, by intro w hSw; go_simp⟩) (by assumption) ?_
    try simp only [Act.put, List.setIfInBounds_toArray, List.set_cons_zero, List.set_cons_succ]
    refine take_at (i := 7) 10 (v := .int .i64 bl) rfl rfl (by kernel_rfl) (by kernel_rfl) (by kernel_rfl) (fun _ _ _ h => h) (Or.inl ⟨by rfl, by intro w_ hSw; have hb := HL.out w_ hSw; have c10 : w_.cell? ⟨u, 10, none⟩ = some (.int .i64 wa) := hb.cell 10; have c12 : w_.cell? ⟨u, 12, none⟩ = some (.int .i64 rt) := hb.cell 12; have c13 : w_.cell? ⟨u, 13, none⟩ = some (.int .i64 bl) := hb.cell 13; go_simp⟩) (by assumption) ?_
    try simp only [Act.put, List.setIfInBounds_toArray, List.set_cons_zero, List.set_cons_succ]
    refine take_at (i := 8) 11 (v := .pointer (some ⟨u, 0, none⟩)) rfl rfl (by kernel_rfl) (by kernel_rfl) (by kernel_rfl) (fun _ _ _ h => h) (Or.inl ⟨by rfl, by intro w hSw; go_simp⟩) (by assumption) ?_
    try simp only [Act.put, List.setIfInBounds_toArray, List.set_cons_zero, List.set_cons_succ]
    refine take_at (i := 9) 12 (v := .pointer (some ⟨u, 0, none⟩)) rfl rfl (by kernel_rfl) (by kernel_rfl) (by kernel_rfl) (fun _ _ _ h => h) (Or.inl ⟨by rfl, by intro w hSw; go_simp⟩) (by assumption) ?_
    try simp only [Act.put, List.setIfInBounds_toArray, List.set_cons_zero, List.set_cons_succ]
    refine take_at (i := 10) 13 (v := .pointer (some ⟨u, 12, none⟩)) rfl rfl (by kernel_rfl) (by kernel_rfl) (by kernel_rfl) (fun _ _ _ h => h) (Or.inl ⟨by rfl, by intro w hSw; go_simp⟩) (by assumption) ?_
    try simp only [Act.put, List.setIfInBounds_toArray, List.set_cons_zero, List.set_cons_succ]
    refine take_at (i := 11) 14 (v := .int .i64 rt) rfl rfl (by kernel_rfl) (by kernel_rfl) (by kernel_rfl) (fun _ _ _ h => h) (Or.inl ⟨by rfl, by intro w_ hSw; have hb := HL.out w_ hSw; have c10 : w_.cell? ⟨u, 10, none⟩ = some (.int .i64 wa) := hb.cell 10; have c12 : w_.cell? ⟨u, 12, none⟩ = some (.int .i64 rt) := hb.cell 12; have c13 : w_.cell? ⟨u, 13, none⟩ = some (.int .i64 bl) := hb.cell 13; go_simp⟩) (by assumption) ?_
    try simp only [Act.put, List.setIfInBounds_toArray, List.set_cons_zero, List.set_cons_succ]
    refine take_at (i := 12) 15 (v := .int .i64 Z) rfl rfl (by kernel_rfl) (by kernel_rfl) (by kernel_rfl) (fun _ _ _ h => h) (Or.inl ⟨by rfl, by intro w hSw; go_simp⟩) (by assumption) ?_
    try simp only [Act.put, List.setIfInBounds_toArray, List.set_cons_zero, List.set_cons_succ]
    refine take_at (i := 13) 16 (v := .int .i64 wa) rfl rfl (by kernel_rfl) (by kernel_rfl) (by kernel_rfl) (fun _ _ _ h => h) (Or.inl ⟨by rfl, by intro w hSw; go_simp; all_goals omega⟩) (by assumption) ?_
    try simp only [Act.put, List.setIfInBounds_toArray, List.set_cons_zero, List.set_cons_succ]
    refine take_at (i := 14) 2 (v := .int .i64 wa) rfl rfl (by kernel_rfl) (by kernel_rfl) (by kernel_rfl) (fun _ _ _ h => h) (Or.inl ⟨by rfl, by intro w hSw; go_simp⟩) (by assumption) ?_
    try simp only [Act.put, List.setIfInBounds_toArray, List.set_cons_zero, List.set_cons_succ]
    refine wpAnyH_done (by kernel_rfl) ?_ _
    clear hHeld
    go_wp2
    go_ret
    exact ⟨rfl, below_drewN (Below.refl _ _) _⟩
  · have hmx : min wa Z = Z := by omega
    rw [hmx]
    have hm2 : ¬ wa ≤ Z := by omega
    have hm3 : ¬ wa < Z := by omega
    go_enter Try.func57, Try.ntmps57
    go_wp2_with fail
    refine wp_region_held_drew (S := fun w' => Below w.heap.size w w') (by kernel_rfl) (below_drewN (Below.refl _ _) 1) (fun hHeld => ?_)
    refine take_at (i := 0) 3 (v := .pointer (some ⟨u, 0, none⟩)) rfl rfl (by kernel_rfl) (by kernel_rfl) (by kernel_rfl) (fun _ _ _ h => h) (Or.inl ⟨by rfl, by intro w hSw; go_simp⟩) (by assumption) ?_
    try simp only [Act.put, List.setIfInBounds_toArray, List.set_cons_zero, List.set_cons_succ]
    refine take_at (i := 1) 4 (v := .pointer (some ⟨u, 0, none⟩)) rfl rfl (by kernel_rfl) (by kernel_rfl) (by kernel_rfl) (fun _ _ _ h => h) (Or.inl ⟨by rfl, by intro w hSw; go_simp⟩) (by assumption) ?_
    try simp only [Act.put, List.setIfInBounds_toArray, List.set_cons_zero, List.set_cons_succ]
    refine take_at (i := 2) 5 (v := .pointer (some ⟨u, 10, none⟩)) rfl rfl (by kernel_rfl) (by kernel_rfl) (by kernel_rfl) (fun _ _ _ h => h) (Or.inl ⟨by rfl, by intro w hSw; go_simp⟩) (by assumption) ?_
    try simp only [Act.put, List.setIfInBounds_toArray, List.set_cons_zero, List.set_cons_succ]
    refine take_at (i := 3) 6 (v := .int .i64 wa) rfl rfl (by kernel_rfl) (by kernel_rfl) (by kernel_rfl) (fun _ _ _ h => h) (Or.inl ⟨by rfl, by intro w_ hSw; have hb := HL.out w_ hSw; have c10 : w_.cell? ⟨u, 10, none⟩ = some (.int .i64 wa) := hb.cell 10; have c12 : w_.cell? ⟨u, 12, none⟩ = some (.int .i64 rt) := hb.cell 12; have c13 : w_.cell? ⟨u, 13, none⟩ = some (.int .i64 bl) := hb.cell 13; go_simp⟩) (by assumption) ?_
    try simp only [Act.put, List.setIfInBounds_toArray, List.set_cons_zero, List.set_cons_succ]
    refine take_at (i := 4) 7 (v := .pointer (some ⟨u, 0, none⟩)) rfl rfl (by kernel_rfl) (by kernel_rfl) (by kernel_rfl) (fun _ _ _ h => h) (Or.inl ⟨by rfl, by intro w hSw; go_simp⟩) (by assumption) ?_
    try simp only [Act.put, List.setIfInBounds_toArray, List.set_cons_zero, List.set_cons_succ]
    refine take_at (i := 5) 8 (v := .pointer (some ⟨u, 0, none⟩)) rfl rfl (by kernel_rfl) (by kernel_rfl) (by kernel_rfl) (fun _ _ _ h => h) (Or.inl ⟨by rfl, by intro w hSw; go_simp⟩) (by assumption) ?_
    try simp only [Act.put, List.setIfInBounds_toArray, List.set_cons_zero, List.set_cons_succ]
    refine take_at (i := 6) 9 (v := .pointer (some ⟨u, 13, none⟩)) rfl rfl (by kernel_rfl) (by kernel_rfl) (by kernel_rfl) (fun _ _ _ h => h) (Or.inl ⟨by rfl, by intro w hSw; go_simp⟩) (by assumption) ?_
    try simp only [Act.put, List.setIfInBounds_toArray, List.set_cons_zero, List.set_cons_succ]
    refine take_at (i := 7) 10 (v := .int .i64 bl) rfl rfl (by kernel_rfl) (by kernel_rfl) (by kernel_rfl) (fun _ _ _ h => h) (Or.inl ⟨by rfl, by intro w_ hSw; have hb := HL.out w_ hSw; have c10 : w_.cell? ⟨u, 10, none⟩ = some (.int .i64 wa) := hb.cell 10; have c12 : w_.cell? ⟨u, 12, none⟩ = some (.int .i64 rt) := hb.cell 12; have c13 : w_.cell? ⟨u, 13, none⟩ = some (.int .i64 bl) := hb.cell 13; go_simp⟩) (by assumption) ?_
    try simp only [Act.put, List.setIfInBounds_toArray, List.set_cons_zero, List.set_cons_succ]
    refine take_at (i := 8) 11 (v := .pointer (some ⟨u, 0, none⟩)) rfl rfl (by kernel_rfl) (by kernel_rfl) (by kernel_rfl) (fun _ _ _ h => h) (Or.inl ⟨by rfl, by intro w hSw; go_simp⟩) (by assumption) ?_
    try simp only [Act.put, List.setIfInBounds_toArray, List.set_cons_zero, List.set_cons_succ]
    refine take_at (i := 9) 12 (v := .pointer (some ⟨u, 0, none⟩)) rfl rfl (by kernel_rfl) (by kernel_rfl) (by kernel_rfl) (fun _ _ _ h => h) (Or.inl ⟨by rfl, by intro w hSw; go_simp⟩) (by assumption) ?_
    try simp only [Act.put, List.setIfInBounds_toArray, List.set_cons_zero, List.set_cons_succ]
    refine take_at (i := 10) 13 (v := .pointer (some ⟨u, 12, none⟩)) rfl rfl (by kernel_rfl) (by kernel_rfl) (by kernel_rfl) (fun _ _ _ h => h) (Or.inl ⟨by rfl, by intro w hSw; go_simp⟩) (by assumption) ?_
    try simp only [Act.put, List.setIfInBounds_toArray, List.set_cons_zero, List.set_cons_succ]
    refine take_at (i := 11) 14 (v := .int .i64 rt) rfl rfl (by kernel_rfl) (by kernel_rfl) (by kernel_rfl) (fun _ _ _ h => h) (Or.inl ⟨by rfl, by intro w_ hSw; have hb := HL.out w_ hSw; have c10 : w_.cell? ⟨u, 10, none⟩ = some (.int .i64 wa) := hb.cell 10; have c12 : w_.cell? ⟨u, 12, none⟩ = some (.int .i64 rt) := hb.cell 12; have c13 : w_.cell? ⟨u, 13, none⟩ = some (.int .i64 bl) := hb.cell 13; go_simp⟩) (by assumption) ?_
    try simp only [Act.put, List.setIfInBounds_toArray, List.set_cons_zero, List.set_cons_succ]
    refine take_at (i := 12) 15 (v := .int .i64 Z) rfl rfl (by kernel_rfl) (by kernel_rfl) (by kernel_rfl) (fun _ _ _ h => h) (Or.inl ⟨by rfl, by intro w hSw; go_simp⟩) (by assumption) ?_
    try simp only [Act.put, List.setIfInBounds_toArray, List.set_cons_zero, List.set_cons_succ]
    refine take_at (i := 13) 16 (v := .int .i64 Z) rfl rfl (by kernel_rfl) (by kernel_rfl) (by kernel_rfl) (fun _ _ _ h => h) (Or.inl ⟨by rfl, by intro w hSw; go_simp; all_goals omega⟩) (by assumption) ?_
    try simp only [Act.put, List.setIfInBounds_toArray, List.set_cons_zero, List.set_cons_succ]
    refine take_at (i := 14) 2 (v := .int .i64 Z) rfl rfl (by kernel_rfl) (by kernel_rfl) (by kernel_rfl) (fun _ _ _ h => h) (Or.inl ⟨by rfl, by intro w hSw; go_simp⟩) (by assumption) ?_
    try simp only [Act.put, List.setIfInBounds_toArray, List.set_cons_zero, List.set_cons_succ]
    refine wpAnyH_done (by kernel_rfl) ?_ _
    clear hHeld
    go_wp2
    go_ret
    exact ⟨rfl, below_drewN (Below.refl _ _) _⟩
end Go.Proofs.Ytppkibgemacdbaa
