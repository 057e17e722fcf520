import Derived.Test.YtfolipkbcibgdaaGrT
namespace Go.Proofs.Ytfolipkbcibgdaa
open Go.RowKit Go.WideShapes Go.ChangeShapes

/-! the subcarriers of a signal -/
theorem within_yes (n lo hi : Int) (h : lo ≤ n ∧ n ≤ hi) (w : World) : Calls Try.prog 37 #[.int .i64 n, .int .i64 lo, .int .i64 hi] w fun x w' => x = .returned (.bool true) ∧ w = w' := by
  have h1 := within_gr n lo hi w
  rw [show withinB n lo hi = true by simp [withinB]; omega] at h1
  exact h1
def combB (st sh ce k : Nat) : Bool := decide (k % st = (sh + ce) % st)
set_option maxRecDepth 100000 in
set_option maxHeartbeats 8000000 in
theorem has_grid (nmv : Value) (wi kd pe of_ sl sy sn : Int) (b o pn pc : Nat) (SA : Option Addr) (sm sc pa bk bn st sh ce k : Nat) (w : World) (hst : 1 ≤ st ∧ st ≤ 12) (hsh : sh < st) (hce : ce ≤ 1007) (hbk : bk + bn ≤ 24) (hk1 : 12 * bk ≤ k) (hk2 : k < 12 * (bk + bn)) :
    Calls Try.prog 38 #[.agg #[nmv, .int .i64 (ce : Int), .int .i64 wi, .slice (some ⟨b, o, none⟩) pn pc, .slice SA sm sc], .agg #[.int .i64 kd, .int .i64 (pa : Int), .int .i64 pe, .int .i64 of_, .int .i64 sl, .int .i64 sy, .int .i64 sn, .int .i64 (bk : Int), .int .i64 (bn : Int), .int .i64 (st : Int), .int .i64 (sh : Int)], .int .i64 (k : Int)] w fun e w' => e = .returned (.bool (combB st sh ce k)) ∧ Below w.heap.size w w' := by
  have HT : Hid (Stay ((w.alloc (.cells #[nmv, .int .i64 (ce : Int), .int .i64 wi, .slice (some ⟨b, o, none⟩) pn pc, .slice SA sm sc] 58)).alloc (.cells #[.int .i64 kd, .int .i64 (pa : Int), .int .i64 pe, .int .i64 of_, .int .i64 sl, .int .i64 sy, .int .i64 sn, .int .i64 (bk : Int), .int .i64 (bn : Int), .int .i64 (st : Int), .int .i64 (sh : Int)] 82)) (fun W => (Blk W w.heap.size 58 #[nmv, .int .i64 (ce : Int), .int .i64 wi, .slice (some ⟨b, o, none⟩) pn pc, .slice SA sm sc] ∧ Blk W (w.heap.size + 1) 82 #[.int .i64 kd, .int .i64 (pa : Int), .int .i64 pe, .int .i64 of_, .int .i64 sl, .int .i64 sy, .int .i64 sn, .int .i64 (bk : Int), .int .i64 (bn : Int), .int .i64 (st : Int), .int .i64 (sh : Int)]) ∧ Below w.heap.size w W)) := hide
    ((((stay_blk (Blk.new w 58 #[nmv, .int .i64 (ce : Int), .int .i64 wi, .slice (some ⟨b, o, none⟩) pn pc, .slice SA sm sc])).alloc (.cells #[.int .i64 kd, .int .i64 (pa : Int), .int .i64 pe, .int .i64 of_, .int .i64 sl, .int .i64 sy, .int .i64 sn, .int .i64 (bk : Int), .int .i64 (bn : Int), .int .i64 (st : Int), .int .i64 (sh : Int)] 82)).and (stay_blk (blk_up w 58 82 #[nmv, .int .i64 (ce : Int), .int .i64 wi, .slice (some ⟨b, o, none⟩) pn pc, .slice SA sm sc] #[.int .i64 kd, .int .i64 (pa : Int), .int .i64 pe, .int .i64 of_, .int .i64 sl, .int .i64 sy, .int .i64 sn, .int .i64 (bk : Int), .int .i64 (bn : Int), .int .i64 (st : Int), .int .i64 (sh : Int)]))).and (stay_below (((Below.refl _ w).alloc (Nat.le_refl _) (.cells #[nmv, .int .i64 (ce : Int), .int .i64 wi, .slice (some ⟨b, o, none⟩) pn pc, .slice SA sm sc] 58)).alloc (by simp) (.cells #[.int .i64 kd, .int .i64 (pa : Int), .int .i64 pe, .int .i64 of_, .int .i64 sl, .int .i64 sy, .int .i64 sn, .int .i64 (bk : Int), .int .i64 (bn : Int), .int .i64 (st : Int), .int .i64 (sh : Int)] 82))))
  have hw := hide (fun W => within_yes ((k / 12 : Nat) : Int) (bk : Int) ((bk : Int) + (bn : Int) - 1) (by omega) W)
  have e1 : IntKind.i64.wrap ((bk : Int) + (bn : Int)) = (bk : Int) + (bn : Int) := IntWalk.i64_in _ (by omega)
  have e2 : IntKind.i64.wrap ((bk : Int) + (bn : Int) - 1) = (bk : Int) + (bn : Int) - 1 := IntWalk.i64_in _ (by omega)
  have e3 : IntKind.i64.wrap ((sh : Int) + (ce : Int)) = ((sh + ce : Nat) : Int) := by rw [IntWalk.i64_in _ (by omega)]; push_cast; rfl
  have d1 : (k : Int).tdiv 12 = ((k / 12 : Nat) : Int) := (Int.ofNat_tdiv k 12).symm
  have d2 : (k : Int).tmod (st : Int) = ((k % st : Nat) : Int) := (Int.ofNat_tmod k st).symm
  have d3 : ((sh + ce : Nat) : Int).tmod (st : Int) = (((sh + ce) % st : Nat) : Int) := (Int.ofNat_tmod (sh + ce) st).symm
  have hz : ((st : Int) == 0) = false := by rw [beq_eq_false_iff_ne]; omega
  have hz2 : ¬ ((st : Int) = 0) := by omega
  have b1 : k / 12 < 24 := by omega
  have b2 : k % st < 12 := Nat.lt_of_lt_of_le (Nat.mod_lt _ (by omega)) hst.2
  have b3 : (sh + ce) % st < 12 := Nat.lt_of_lt_of_le (Nat.mod_lt _ (by omega)) hst.2
  obtain ⟨K1, hK1⟩ : ∃ x, k / 12 = x := ⟨_, rfl⟩
  obtain ⟨K2, hK2⟩ : ∃ x, k % st = x := ⟨_, rfl⟩
  obtain ⟨K3, hK3⟩ : ∃ x, (sh + ce) % st = x := ⟨_, rfl⟩
  obtain ⟨M, hM⟩ : ∃ x, sh + ce = x := ⟨_, rfl⟩
  obtain ⟨r, hr⟩ : ∃ x, decide (K2 = K3) = x := ⟨_, rfl⟩
  have hre : ((K2 : Int) == (K3 : Int)) = r := by rw [← hr]; rw [Bool.eq_iff_iff]; simp; omega
  rw [show combB st sh ce k = r by unfold combB; rw [hK2, hK3, hr]]
  rw [hK1] at hw d1 b1
  rw [hK2] at d2 b2
  rw [hK3] at d3 b3
  rw [hM] at e3 d3
  have wK1 : IntKind.i64.wrap (K1 : Int) = (K1 : Int) := IntWalk.i64_in _ (by omega)
  have wK2 : IntKind.i64.wrap (K2 : Int) = (K2 : Int) := IntWalk.i64_in _ (by omega)
  have wK3 : IntKind.i64.wrap (K3 : Int) = (K3 : Int) := IntWalk.i64_in _ (by omega)
  have hs0 : ¬ st = 0 := by omega
  clear hK1 hK2 hK3 hM hr
  go_enter Try.func38, Try.ntmps38
  go_wp2_with fail
  obtain ⟨W0, hW0⟩ : ∃ W0, (w.alloc (.cells #[nmv, .int .i64 (ce : Int), .int .i64 wi, .slice (some ⟨b, o, none⟩) pn pc, .slice SA sm sc] 58)).alloc (.cells #[.int .i64 kd, .int .i64 (pa : Int), .int .i64 pe, .int .i64 of_, .int .i64 sl, .int .i64 sy, .int .i64 sn, .int .i64 (bk : Int), .int .i64 (bn : Int), .int .i64 (st : Int), .int .i64 (sh : Int)] 82) = W0 := ⟨_, rfl⟩
  rw [hW0] at HT
  first | rw [hW0] | skip
  refine wp_region_held_drew (S := fun w_ => Below W0.heap.size W0 w_) (by kernel_rfl) (below_drewN (Below.refl W0.heap.size W0) 1) (fun hHeld => ?_)
  refine take_at (i := 0) 7 (v := .int .i64 (k : Int)) rfl rfl (by kernel_rfl) (by kernel_rfl) (by kernel_rfl) (fun _ _ _ h => h) (Or.inl ⟨by rfl, by intro w_ hSw; go_simp⟩) (by assumption) ?_
  try simp only [Act.put, List.setIfInBounds_toArray, List.set_cons_zero, List.set_cons_succ]
  refine take_at (i := 1) 8 (v := .int .i64 (K1 : Int)) rfl rfl (by kernel_rfl) (by kernel_rfl) (by kernel_rfl) (fun _ _ _ h => h) (Or.inl ⟨by rfl, by intro w_ hSw; go_simp⟩) (by assumption) ?_
  try simp only [Act.put, List.setIfInBounds_toArray, List.set_cons_zero, List.set_cons_succ]
  refine take_at (i := 2) 9 (v := .pointer (some ⟨w.heap.size + 1, 7, none⟩)) rfl rfl (by kernel_rfl) (by kernel_rfl) (by kernel_rfl) (fun _ _ _ h => h) (Or.inl ⟨by rfl, by intro w_ hSw; go_simp⟩) (by assumption) ?_
  try simp only [Act.put, List.setIfInBounds_toArray, List.set_cons_zero, List.set_cons_succ]
  refine take_at (i := 3) 10 (v := .int .i64 (bk : Int)) rfl rfl (by kernel_rfl) (by kernel_rfl) (by kernel_rfl) (fun _ _ _ h => h) (Or.inl ⟨by rfl, by intro w_ hSw; have q := (HT.out _ hSw).1.2; have c7 : w_.cell? ⟨w.heap.size + 1, 7, none⟩ = some (.int .i64 (bk : Int)) := q.cell 7; go_simp⟩) (by assumption) ?_
  try simp only [Act.put, List.setIfInBounds_toArray, List.set_cons_zero, List.set_cons_succ]
  refine take_at (i := 4) 11 (v := .pointer (some ⟨w.heap.size + 1, 7, none⟩)) rfl rfl (by kernel_rfl) (by kernel_rfl) (by kernel_rfl) (fun _ _ _ h => h) (Or.inl ⟨by rfl, by intro w_ hSw; go_simp⟩) (by assumption) ?_
  try simp only [Act.put, List.setIfInBounds_toArray, List.set_cons_zero, List.set_cons_succ]
  refine take_at (i := 5) 12 (v := .int .i64 (bk : Int)) rfl rfl (by kernel_rfl) (by kernel_rfl) (by kernel_rfl) (fun _ _ _ h => h) (Or.inl ⟨by rfl, by intro w_ hSw; have q := (HT.out _ hSw).1.2; have c7 : w_.cell? ⟨w.heap.size + 1, 7, none⟩ = some (.int .i64 (bk : Int)) := q.cell 7; go_simp⟩) (by assumption) ?_
  try simp only [Act.put, List.setIfInBounds_toArray, List.set_cons_zero, List.set_cons_succ]
  refine take_at (i := 6) 13 (v := .pointer (some ⟨w.heap.size + 1, 8, none⟩)) rfl rfl (by kernel_rfl) (by kernel_rfl) (by kernel_rfl) (fun _ _ _ h => h) (Or.inl ⟨by rfl, by intro w_ hSw; go_simp⟩) (by assumption) ?_
  try simp only [Act.put, List.setIfInBounds_toArray, List.set_cons_zero, List.set_cons_succ]
  refine take_at (i := 7) 14 (v := .int .i64 (bn : Int)) rfl rfl (by kernel_rfl) (by kernel_rfl) (by kernel_rfl) (fun _ _ _ h => h) (Or.inl ⟨by rfl, by intro w_ hSw; have q := (HT.out _ hSw).1.2; have c8 : w_.cell? ⟨w.heap.size + 1, 8, none⟩ = some (.int .i64 (bn : Int)) := q.cell 8; go_simp⟩) (by assumption) ?_
  try simp only [Act.put, List.setIfInBounds_toArray, List.set_cons_zero, List.set_cons_succ]
  refine take_at (i := 8) 15 (v := .int .i64 ((bk : Int) + (bn : Int))) rfl rfl (by kernel_rfl) (by kernel_rfl) (by kernel_rfl) (fun _ _ _ h => h) (Or.inl ⟨by rfl, by intro w_ hSw; go_simp⟩) (by assumption) ?_
  try simp only [Act.put, List.setIfInBounds_toArray, List.set_cons_zero, List.set_cons_succ]
  refine take_at (i := 9) 16 (v := .int .i64 ((bk : Int) + (bn : Int) - 1)) rfl rfl (by kernel_rfl) (by kernel_rfl) (by kernel_rfl) (fun _ _ _ h => h) (Or.inl ⟨by rfl, by intro w_ hSw; go_simp⟩) (by assumption) ?_
  try simp only [Act.put, List.setIfInBounds_toArray, List.set_cons_zero, List.set_cons_succ]
  refine wpAnyH_ready (rs := [10]) (by kernel_rfl) (by simp) ?_
  refine AllReadyH.cons rfl (fun K hK => ?_) AllReadyH.nil
  go_simp
  go_at_call 37
  refine (hw.out _).mono ?_
  rintro e w' ⟨rfl, rfl⟩
  simp only []
  refine hK.out _ _ hHeld (fun hHeld => ?_)
  clear hK K
  try simp only [Act.put, List.setIfInBounds_toArray, List.set_cons_zero, List.set_cons_succ]
  refine take_at (i := 11) 18 (v := .bool true) rfl rfl (by kernel_rfl) (by kernel_rfl) (by kernel_rfl) (fun _ _ _ h => h) (Or.inl ⟨by rfl, by intro w_ hSw; go_simp⟩) (by assumption) ?_
  try simp only [Act.put, List.setIfInBounds_toArray, List.set_cons_zero, List.set_cons_succ]
  refine take_at (i := 12) 19 (v := .int .i64 (k : Int)) rfl rfl (by kernel_rfl) (by kernel_rfl) (by kernel_rfl) (fun _ _ _ h => h) (Or.inl ⟨by rfl, by intro w_ hSw; go_simp⟩) (by assumption) ?_
  try simp only [Act.put, List.setIfInBounds_toArray, List.set_cons_zero, List.set_cons_succ]
  refine take_at (i := 13) 20 (v := .pointer (some ⟨w.heap.size + 1, 9, none⟩)) rfl rfl (by kernel_rfl) (by kernel_rfl) (by kernel_rfl) (fun _ _ _ h => h) (Or.inl ⟨by rfl, by intro w_ hSw; go_simp⟩) (by assumption) ?_
  try simp only [Act.put, List.setIfInBounds_toArray, List.set_cons_zero, List.set_cons_succ]
  refine take_at (i := 14) 21 (v := .int .i64 (st : Int)) rfl rfl (by kernel_rfl) (by kernel_rfl) (by kernel_rfl) (fun _ _ _ h => h) (Or.inl ⟨by rfl, by intro w_ hSw; have q := (HT.out _ hSw).1.2; have c9 : w_.cell? ⟨w.heap.size + 1, 9, none⟩ = some (.int .i64 (st : Int)) := q.cell 9; go_simp⟩) (by assumption) ?_
  try simp only [Act.put, List.setIfInBounds_toArray, List.set_cons_zero, List.set_cons_succ]
  refine take_at (i := 15) 22 (v := .int .i64 (K2 : Int)) rfl rfl (by kernel_rfl) (by kernel_rfl) (by kernel_rfl) (fun _ _ _ h => h) (Or.inl ⟨by rfl, by intro w_ hSw; go_simp⟩) (by assumption) ?_
  try simp only [Act.put, List.setIfInBounds_toArray, List.set_cons_zero, List.set_cons_succ]
  refine take_at (i := 16) 23 (v := .pointer (some ⟨w.heap.size + 1, 10, none⟩)) rfl rfl (by kernel_rfl) (by kernel_rfl) (by kernel_rfl) (fun _ _ _ h => h) (Or.inl ⟨by rfl, by intro w_ hSw; go_simp⟩) (by assumption) ?_
  try simp only [Act.put, List.setIfInBounds_toArray, List.set_cons_zero, List.set_cons_succ]
  refine take_at (i := 17) 24 (v := .int .i64 (sh : Int)) rfl rfl (by kernel_rfl) (by kernel_rfl) (by kernel_rfl) (fun _ _ _ h => h) (Or.inl ⟨by rfl, by intro w_ hSw; have q := (HT.out _ hSw).1.2; have c10 : w_.cell? ⟨w.heap.size + 1, 10, none⟩ = some (.int .i64 (sh : Int)) := q.cell 10; go_simp⟩) (by assumption) ?_
  try simp only [Act.put, List.setIfInBounds_toArray, List.set_cons_zero, List.set_cons_succ]
  refine take_at (i := 18) 25 (v := .pointer (some ⟨w.heap.size, 0, none⟩)) rfl rfl (by kernel_rfl) (by kernel_rfl) (by kernel_rfl) (fun _ _ _ h => h) (Or.inl ⟨by rfl, by intro w_ hSw; go_simp⟩) (by assumption) ?_
  try simp only [Act.put, List.setIfInBounds_toArray, List.set_cons_zero, List.set_cons_succ]
  refine take_at (i := 19) 26 (v := .pointer (some ⟨w.heap.size, 1, none⟩)) rfl rfl (by kernel_rfl) (by kernel_rfl) (by kernel_rfl) (fun _ _ _ h => h) (Or.inl ⟨by rfl, by intro w_ hSw; go_simp⟩) (by assumption) ?_
  try simp only [Act.put, List.setIfInBounds_toArray, List.set_cons_zero, List.set_cons_succ]
  refine take_at (i := 20) 27 (v := .int .i64 (ce : Int)) rfl rfl (by kernel_rfl) (by kernel_rfl) (by kernel_rfl) (fun _ _ _ h => h) (Or.inl ⟨by rfl, by intro w_ hSw; have q := (HT.out _ hSw).1.1; have c1 : w_.cell? ⟨w.heap.size, 1, none⟩ = some (.int .i64 (ce : Int)) := q.cell 1; go_simp⟩) (by assumption) ?_
  try simp only [Act.put, List.setIfInBounds_toArray, List.set_cons_zero, List.set_cons_succ]
  refine take_at (i := 21) 28 (v := .int .i64 (M : Int)) rfl rfl (by kernel_rfl) (by kernel_rfl) (by kernel_rfl) (fun _ _ _ h => h) (Or.inl ⟨by rfl, by intro w_ hSw; go_simp⟩) (by assumption) ?_
  try simp only [Act.put, List.setIfInBounds_toArray, List.set_cons_zero, List.set_cons_succ]
  refine take_at (i := 22) 29 (v := .pointer (some ⟨w.heap.size + 1, 9, none⟩)) rfl rfl (by kernel_rfl) (by kernel_rfl) (by kernel_rfl) (fun _ _ _ h => h) (Or.inl ⟨by rfl, by intro w_ hSw; go_simp⟩) (by assumption) ?_
  try simp only [Act.put, List.setIfInBounds_toArray, List.set_cons_zero, List.set_cons_succ]
  refine take_at (i := 23) 30 (v := .int .i64 (st : Int)) rfl rfl (by kernel_rfl) (by kernel_rfl) (by kernel_rfl) (fun _ _ _ h => h) (Or.inl ⟨by rfl, by intro w_ hSw; have q := (HT.out _ hSw).1.2; have c9 : w_.cell? ⟨w.heap.size + 1, 9, none⟩ = some (.int .i64 (st : Int)) := q.cell 9; go_simp⟩) (by assumption) ?_
  try simp only [Act.put, List.setIfInBounds_toArray, List.set_cons_zero, List.set_cons_succ]
  refine take_at (i := 24) 31 (v := .int .i64 (K3 : Int)) rfl rfl (by kernel_rfl) (by kernel_rfl) (by kernel_rfl) (fun _ _ _ h => h) (Or.inl ⟨by rfl, by intro w_ hSw; go_simp⟩) (by assumption) ?_
  try simp only [Act.put, List.setIfInBounds_toArray, List.set_cons_zero, List.set_cons_succ]
  refine take_at (i := 25) 32 (v := .bool r) rfl rfl (by kernel_rfl) (by kernel_rfl) (by kernel_rfl) (fun _ _ _ h => h) (Or.inl ⟨by rfl, by intro w_ hSw; go_simp⟩) (by assumption) ?_
  try simp only [Act.put, List.setIfInBounds_toArray, List.set_cons_zero, List.set_cons_succ]
  refine take_at (i := 26) 33 (v := .bool r) rfl rfl (by kernel_rfl) (by kernel_rfl) (by kernel_rfl) (fun _ _ _ h => h) (Or.inl ⟨by rfl, by intro w_ hSw; go_simp⟩) (by assumption) ?_
  try simp only [Act.put, List.setIfInBounds_toArray, List.set_cons_zero, List.set_cons_succ]
  refine take_at (i := 27) 6 (v := .bool r) rfl rfl (by kernel_rfl) (by kernel_rfl) (by kernel_rfl) (fun _ _ _ h => h) (Or.inl ⟨by rfl, by intro w_ hSw; go_simp⟩) (by assumption) ?_
  try simp only [Act.put, List.setIfInBounds_toArray, List.set_cons_zero, List.set_cons_succ]
  refine wpAnyH_done (by kernel_rfl) ?_ _
  replace HT := hide (HT.out.step hHeld)
  clear hHeld
  go_wp2_with fail
  go_ret
  exact ⟨rfl, HT.out.now.2⟩
end Go.Proofs.Ytfolipkbcibgdaa
