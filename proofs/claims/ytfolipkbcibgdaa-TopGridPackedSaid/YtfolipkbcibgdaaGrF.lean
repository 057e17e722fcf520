import Derived.Test.YtfolipkbcibgdaaGrC
namespace Go.Proofs.Ytfolipkbcibgdaa
open Go.RowKit Go.WideShapes Go.ChangeShapes

/-! time and frequency of a cover -/
set_option maxRecDepth 100000 in
set_option maxHeartbeats 4000000 in
theorem time_grid (g mu sl sy n : Nat) (tk un : Nat → Bool) (w : World) (h : mu ≤ 3) (h1 : sl < 2 ^ mu) (h2 : sy + n ≤ 14) (hc : CovAt w g tk un) :
    Calls Try.prog 58 #[.pointer (some ⟨g, 0, none⟩), .int .i64 (mu : Int), .int .i64 (sl : Int), .int .i64 (sy : Int), .int .i64 (n : Int)] w fun e w' => e = .returned (.tuple #[]) ∧ w.grownBy w' (some g) ∧ CovAt w' g (inR ((sl * 14 + sy) * las mu) ((sl * 14 + sy) * las mu + n * las mu) tk) un := by
  have hp := pw_bd mu h
  have hL := hide (fun W => lastsOf_grid mu W h)
  have hTi := hide (fun W => tickOf_grid mu sl sy W h (by omega) (by omega))
  have hb := las_bd mu h
  have hlp := las_pw mu h
  obtain ⟨D, hD⟩ : ∃ D, las mu = D := ⟨_, rfl⟩
  rw [hD] at hL hTi hb hlp ⊢
  have hto : (sl * 14 + sy) * D + n * D ≤ 112 := by
    have e1 : (sl * 14 + sy) * D + n * D = (sl * 14 + sy + n) * D := by rw [Nat.add_mul (sl * 14 + sy) n]
    have e2 := Nat.mul_le_mul_right D (show sl * 14 + sy + n ≤ 14 * 2 ^ mu by omega)
    rw [Nat.mul_assoc, Nat.mul_comm (2 ^ mu) D, hlp] at e2
    omega
  obtain ⟨X, hX⟩ : ∃ X, (sl * 14 + sy) * D = X := ⟨_, rfl⟩
  obtain ⟨Y, hY⟩ : ∃ Y, n * D = Y := ⟨_, rfl⟩
  have e : (n : Int) * (D : Int) = (Y : Int) := by rw [← hY]; push_cast; rfl
  rw [hX] at hTi hto ⊢
  rw [hY] at hto ⊢
  have w1 : IntKind.i64.wrap ((n : Int) * (D : Int)) = (Y : Int) := by rw [e]; exact IntWalk.i64_in _ (by omega)
  have w2 : IntKind.i64.wrap ((X : Int) + (Y : Int)) = (X : Int) + (Y : Int) := IntWalk.i64_in _ (by omega)
  have hC := hide hc
  clear hX hY hD e hlp hb hp hc
  go_enter Try.func58, Try.ntmps58
  go_wp2_with (go_at_call 69; go_must (refine (hTi.out _).mono ?_; rintro e w' ⟨rfl, rfl⟩; simp only []))
  go_loopw [11] (fun i wr => ∃ k : Nat, X ≤ k ∧ k ≤ X + Y ∧ i = .int .i64 k ∧ w.grownBy wr (some g) ∧ CovAt wr g (inR X k tk) un) (fun i _ => X + Y - (intOf i).toNat)
  case atStart => exact ⟨X, Nat.le_refl _, by omega, rfl, World.grownBy.refl _ _, by rw [inR_none]; exact hC.out⟩
  case round =>
    obtain ⟨k, hk1, hk2, rfl, hg, hcv⟩ := hrel
    replace hg := hide hg
    replace hcv := hide hcv
    by_cases hlt : k < X + Y
    · have hki : (k : Int) < (X : Int) + (Y : Int) := by omega
      have hk112 : (k : Int) < 112 := by omega
      have c0 := hcv.out.tick k (by omega)
      have f0 := hcv.out.frozen k
      go_wp2_with (go_at_call 70; go_must (refine (hL.out _).mono ?_; rintro e w' ⟨rfl, rfl⟩; simp only []))
      exact ⟨⟨k + 1, by omega, by omega, by go_num, grown_one hg.out k _, by rw [← inR_succ X k hk1]; exact hcv.out.setT k (by omega)⟩, by simp [intOf]; omega⟩
    · obtain rfl : k = X + Y := by omega
      have hki : ¬ ((X + Y : Nat) : Int) < (X : Int) + (Y : Int) := by omega
      go_wp2_with (go_at_call 70; go_must (refine (hL.out _).mono ?_; rintro e w' ⟨rfl, rfl⟩; simp only []))
      exact bodyPost_end (results_none Try.results58 _ _ _) rfl ⟨rfl, hg.out, hcv.out⟩
set_option maxRecDepth 100000 in
set_option maxHeartbeats 4000000 in
theorem frequency_grid (g mu fi sub : Nat) (bl : Int) (tk un : Nat → Bool) (w : World) (h : mu ≤ 3) (h1 : fi + 2 ^ mu * sub + 2 ^ mu ≤ 600) (hc : CovAt w g tk un) :
    Calls Try.prog 59 #[.pointer (some ⟨g, 0, none⟩), .agg #[.int .i64 (mu : Int), .int .i64 (fi : Int), .int .i64 bl], .int .i64 (sub : Int)] w fun e w' => e = .returned (.tuple #[]) ∧ w.grownBy w' (some g) ∧ CovAt w' g tk (inR (fi + 2 ^ mu * sub) (fi + 2 ^ mu * sub + 2 ^ mu) un) := by
  have hp := pw_bd mu h
  have hS := hide (fun W => slotsOf_grid mu W h)
  obtain ⟨V, hV⟩ : ∃ V, 2 ^ mu = V := ⟨_, rfl⟩
  rw [hV] at hS hp h1 ⊢
  obtain ⟨Y, hY⟩ : ∃ Y, V * sub = Y := ⟨_, rfl⟩
  have e : (V : Int) * (sub : Int) = (Y : Int) := by rw [← hY]; push_cast; rfl
  rw [hY] at h1 ⊢
  have w1 : IntKind.i64.wrap ((V : Int) * (sub : Int)) = (Y : Int) := by rw [e]; exact IntWalk.i64_in _ (by omega)
  have w2 : IntKind.i64.wrap ((fi : Int) + (Y : Int)) = ((fi + Y : Nat) : Int) := by rw [IntWalk.i64_in _ (by omega)]; push_cast; rfl
  have w3 : IntKind.i64.wrap (((fi + Y : Nat) : Int) + (V : Int)) = ((fi + Y + V : Nat) : Int) := by rw [IntWalk.i64_in _ (by omega)]; push_cast; rfl
  obtain ⟨X, hX⟩ : ∃ X, fi + Y = X := ⟨_, rfl⟩
  rw [hX] at h1 w2 w3 ⊢
  have hB := hide (Blk.new w 56 #[.int .i64 (mu : Int), .int .i64 (fi : Int), .int .i64 bl])
  have hG0 := hide (show w.grownBy (w.alloc (.cells #[.int .i64 (mu : Int), .int .i64 (fi : Int), .int .i64 bl] 56)) (some g) from ⟨rfl, rfl, rfl, by simp, fun k hk _ => ((Below.refl w.heap.size w).alloc (Nat.le_refl _) (.cells #[.int .i64 (mu : Int), .int .i64 (fi : Int), .int .i64 bl] 56)).block k hk⟩)
  have hC := hide (hc.bel ((Below.refl _ w).alloc (Nat.le_refl _) (.cells #[.int .i64 (mu : Int), .int .i64 (fi : Int), .int .i64 bl] 56)))
  have hgw : g ≠ w.heap.size := by have := hc.lt; omega
  clear hX hY hV e hc
  go_enter Try.func59, Try.ntmps59
  go_wp2_with fail
  obtain ⟨W0, hW0⟩ : ∃ W0, w.alloc (.cells #[.int .i64 (mu : Int), .int .i64 (fi : Int), .int .i64 bl] 56) = W0 := ⟨_, rfl⟩
  rw [hW0] at hB hG0 hC
  first | rw [hW0] | skip
  refine wp_region_held_drew (S := fun w_ => Below W0.heap.size W0 w_) (by kernel_rfl) (below_drewN (Below.refl W0.heap.size W0) 1) (fun hHeld => ?_)
  refine take_at (i := 0) 8 (v := .pointer (some ⟨w.heap.size, 1, none⟩)) rfl rfl (by kernel_rfl) (by kernel_rfl) (by kernel_rfl) (fun _ _ _ h => h) (Or.inl ⟨by rfl, by intro w_ hSw; go_simp⟩) (by assumption) ?_
  try simp only [Act.put, List.setIfInBounds_toArray, List.set_cons_zero, List.set_cons_succ]
  refine take_at (i := 1) 9 (v := .int .i64 (fi : Int)) rfl rfl (by kernel_rfl) (by kernel_rfl) (by kernel_rfl) (fun _ _ _ h => h) (Or.inl ⟨by rfl, by intro w_ hSw; have c1 : w_.cell? ⟨w.heap.size, 1, none⟩ = some (.int .i64 (fi : Int)) := (hB.out.below hSw hB.out.lt).cell 1; go_simp⟩) (by assumption) ?_
  try simp only [Act.put, List.setIfInBounds_toArray, List.set_cons_zero, List.set_cons_succ]
  refine take_at (i := 2) 10 (v := .pointer (some ⟨w.heap.size, 0, none⟩)) rfl rfl (by kernel_rfl) (by kernel_rfl) (by kernel_rfl) (fun _ _ _ h => h) (Or.inl ⟨by rfl, by intro w_ hSw; go_simp⟩) (by assumption) ?_
  try simp only [Act.put, List.setIfInBounds_toArray, List.set_cons_zero, List.set_cons_succ]
  refine take_at (i := 3) 11 (v := .int .i64 (mu : Int)) rfl rfl (by kernel_rfl) (by kernel_rfl) (by kernel_rfl) (fun _ _ _ h => h) (Or.inl ⟨by rfl, by intro w_ hSw; have c0 : w_.cell? ⟨w.heap.size, 0, none⟩ = some (.int .i64 (mu : Int)) := (hB.out.below hSw hB.out.lt).cell 0; go_simp⟩) (by assumption) ?_
  try simp only [Act.put, List.setIfInBounds_toArray, List.set_cons_zero, List.set_cons_succ]
  refine take_at (i := 5) 13 (v := .int .i64 (sub : Int)) rfl rfl (by kernel_rfl) (by kernel_rfl) (by kernel_rfl) (fun _ _ _ h => h) (Or.inl ⟨by rfl, by intro w_ hSw; go_simp⟩) (by assumption) ?_
  try simp only [Act.put, List.setIfInBounds_toArray, List.set_cons_zero, List.set_cons_succ]
  refine wpAnyH_ready (rs := [4]) (by kernel_rfl) (by simp) ?_
  refine AllReadyH.cons rfl (fun K hK => ?_) AllReadyH.nil
  go_simp
  go_at_call 25
  refine (hS.out _).mono ?_
  rintro e w' ⟨rfl, rfl⟩
  simp only []
  refine hK.out _ _ hHeld (fun hHeld => ?_)
  clear hK K
  try simp only [Act.put, List.setIfInBounds_toArray, List.set_cons_zero, List.set_cons_succ]
  refine take_at (i := 6) 14 (v := .int .i64 (Y : Int)) rfl rfl (by kernel_rfl) (by kernel_rfl) (by kernel_rfl) (fun _ _ _ h => h) (Or.inl ⟨by rfl, by intro w_ hSw; go_simp⟩) (by assumption) ?_
  try simp only [Act.put, List.setIfInBounds_toArray, List.set_cons_zero, List.set_cons_succ]
  refine take_at (i := 7) 15 (v := .int .i64 (X : Int)) rfl rfl (by kernel_rfl) (by kernel_rfl) (by kernel_rfl) (fun _ _ _ h => h) (Or.inl ⟨by rfl, by intro w_ hSw; go_simp⟩) (by assumption) ?_
  try simp only [Act.put, List.setIfInBounds_toArray, List.set_cons_zero, List.set_cons_succ]
  refine take_at (i := 8) 6 (v := .int .i64 (X : Int)) rfl rfl (by kernel_rfl) (by kernel_rfl) (by kernel_rfl) (fun _ _ _ h => h) (Or.inl ⟨by rfl, by intro w_ hSw; go_simp⟩) (by assumption) ?_
  try simp only [Act.put, List.setIfInBounds_toArray, List.set_cons_zero, List.set_cons_succ]
  refine wpAnyH_done (by kernel_rfl) ?_ _
  have hD1 := hide (show w.grownBy W0.drew (some g) from ⟨hG0.out.os, hG0.out.tape, hG0.out.output, hG0.out.size, hG0.out.block⟩)
  have hC1 := hide (show CovAt W0.drew g tk un from hC.out.keep rfl)
  have hB1 := hide (show Blk W0.drew w.heap.size 56 #[.int .i64 (mu : Int), .int .i64 (fi : Int), .int .i64 bl] from hB.out)
  have W0s : w.heap.size < W0.drew.heap.size := hB1.out.lt
  clear hB hG0 hC hHeld
  go_wp2_with fail
  go_loopw [7] (fun i wr => ∃ k : Nat, X ≤ k ∧ k ≤ X + V ∧ i = .int .i64 k ∧ w.grownBy wr (some g) ∧ Blk wr w.heap.size 56 #[.int .i64 (mu : Int), .int .i64 (fi : Int), .int .i64 bl] ∧ CovAt wr g tk (inR X k un)) (fun i _ => X + V - (intOf i).toNat)
  case atStart => exact ⟨X, Nat.le_refl _, by omega, rfl, hD1.out, hB1.out, by rw [inR_none]; exact hC1.out⟩
  case round =>
    obtain ⟨k, hk1, hk2, rfl, hg, hbk, hcv⟩ := hrel
    replace hg := hide hg
    replace hcv := hide hcv
    replace hbk := hide hbk
    have z0 : wr.cell? ⟨w.heap.size, 0, none⟩ = some (.int .i64 (mu : Int)) := hbk.out.cell 0
    by_cases hlt : k < X + V
    · have hki : (k : Int) < ((X + V : Nat) : Int) := by omega
      have hk600 : (k : Int) < 600 := by omega
      have c0 := hcv.out.unit k (by omega)
      have f0 := hcv.out.frozen (112 + k)
      go_wp2_with (go_at_call 25; go_must (refine (hS.out _).mono ?_; rintro e w' ⟨rfl, rfl⟩; simp only []))
      exact ⟨⟨k + 1, by omega, by omega, by go_num, grown_one hg.out (112 + k) _, hbk.out.far (by show w.heap.size ≠ g; omega) _, by rw [← inR_succ X k hk1]; exact hcv.out.setU k (by omega)⟩, by simp [intOf]; omega⟩
    · obtain rfl : k = X + V := by omega
      have hki : ¬ ((X + V : Nat) : Int) < ((X + V : Nat) : Int) := by omega
      go_wp2_with (go_at_call 25; go_must (refine (hS.out _).mono ?_; rintro e w' ⟨rfl, rfl⟩; simp only []))
      exact bodyPost_end (results_none Try.results59 _ _ _) rfl ⟨rfl, hg.out, hcv.out⟩
end Go.Proofs.Ytfolipkbcibgdaa
