import Derived.Test.YtppkibgemacdbaaSdF
namespace Go.Proofs.Ytppkibgemacdbaa
open Go.RowKit Go.WideShapes Go.ChangeShapes

/-! sites: the program -/
theorem ceil_sched (n b : Int) (w : World) (hb : 0 < b) (hb' : b ≤ 1000000000) (h0 : 0 ≤ n) (h1 : n ≤ 1000000000) : Calls Try.prog 42 #[.int .i64 n, .int .i64 b] w fun e w' => e = .returned (.int .i64 (ceilI n b)) ∧ w = w' := by
  have e1 : IntKind.i64.wrap (n + b) = n + b := IntWalk.i64_in _ (by omega)
  have e2 : IntKind.i64.wrap (n + b - 1) = n + b - 1 := IntWalk.i64_in _ (by omega)
  have hq := ceil_bd (n := n) hb h0
  have hq0 := ceil_nn (n := n) hb h0
  have HV := hide (show (n + b - 1).tdiv b = ceilI n b from by unfold ceilI; rw [Int.tdiv_eq_ediv_of_nonneg (by omega)])
  have HV2 := hide (show (n + b - 1) / b = ceilI n b from rfl)
  obtain ⟨q, hqq⟩ : ∃ q, ceilI n b = q := ⟨_, rfl⟩
  rw [hqq] at hq hq0 HV HV2
  have e3 : IntKind.i64.wrap q = q := IntWalk.i64_in _ (by omega)
  have hb0 : b ≠ 0 := by omega
  rw [hqq]
  clear hqq
  go_enter Try.func42, Try.ntmps42
  go_wp2
  all_goals first
    | (go_ret
       refine ⟨?_, rfl⟩
       first
         | rfl
         | (rw [HV.out]; rfl)
         | (rw [HV.out, e3]; rfl)
         | (rw [HV2.out]; rfl)
         | (rw [HV2.out, e3]; rfl)
         | (simp only [HV.out, HV2.out, e3]; rfl))
theorem guaranteed_sched (nm : Bs) (kd pr wt pw le bu ra de : Int) (w : World) : Calls Try.prog 38 #[.agg #[strV nm, .int .i64 kd, .int .i64 pr, .int .i64 wt, .int .i64 pw, .int .i64 le, .int .i64 bu, .int .i64 ra, .int .i64 de]] w fun e w' => e = .returned (.bool (!(kd == 0))) ∧ Below w.heap.size w w' := by
  go_enter Try.func38, Try.ntmps38
  go_wp2
  go_ret
  exact ⟨rfl, (Below.refl _ _).alloc (Nat.le_refl _) _⟩
theorem isReport_sched (B C P : Int) (A : Option Addr) (c n : Nat) (le : Int) (w : World) (hn : 0 < n) (hl : n ≤ 1000000) :
    Calls Try.prog 48 #[.agg #[.int .i64 B, .int .i64 C, .int .i64 P, .slice A n c], .int .i64 le] w fun e w' => e = .returned (.bool (withinB le 0 ((n : Int) - 1))) ∧ Below w.heap.size w w' := by
  have w1 : IntKind.i64.wrap ((n : Int) - 1) = (n : Int) - 1 := IntWalk.i64_in _ (by omega)
  go_enter Try.func48, Try.ntmps48
  go_wp2_with (go_at_call 41; go_must (refine (within_sy _ _ _ _).mono ?_; rintro e w' ⟨rfl, rfl⟩; simp only []))
  go_ret
  exact ⟨rfl, (Below.refl _ _).alloc (Nat.le_refl _) _⟩
set_option maxRecDepth 100000 in
set_option maxHeartbeats 4000000 in
theorem checkSite_ok (B C P : Int) (A : Option Addr) (c n : Nat) (T : List Int) (w : World) (hn : T.length = n) (hs : Sl w A (iv T)) (ho : OkS B C P T) :
    Calls Try.prog 64 #[.agg #[.int .i64 B, .int .i64 C, .int .i64 P, .slice A n c]] w fun e w' => e = .returned (.int .i64 0) ∧ Below w.heap.size w w' := by
  have HO := hide ho
  have H1 := hide (show withinB B 1 20 = true by have := ho.b; simp [withinB]; omega)
  have H2 := hide (show withinB C 1 8 = true by have := ho.c; simp [withinB]; omega)
  have H3 := hide (show withinB P 0 100000 = true by have := ho.p; simp [withinB]; omega)
  have hp := ho.pos
  have hf := ho.few
  rw [hn] at hp hf
  have HS := hide hs
  have HN := hide hn
  have HB := hide (show Below w.heap.size w (w.alloc (.cells #[.int .i64 B, .int .i64 C, .int .i64 P, .slice A n c] 24)) from (Below.refl _ _).alloc (Nat.le_refl _) _)
  have HX := hide (Blk.new w 24 #[.int .i64 B, .int .i64 C, .int .i64 P, .slice A n c])
  have q0 : (w.alloc (.cells #[.int .i64 B, .int .i64 C, .int .i64 P, .slice A n c] 24)).cell? ⟨w.heap.size, 0, none⟩ = some (.int .i64 B) := HX.out.cell 0
  have q1 : (w.alloc (.cells #[.int .i64 B, .int .i64 C, .int .i64 P, .slice A n c] 24)).cell? ⟨w.heap.size, 1, none⟩ = some (.int .i64 C) := HX.out.cell 1
  have q2 : (w.alloc (.cells #[.int .i64 B, .int .i64 C, .int .i64 P, .slice A n c] 24)).cell? ⟨w.heap.size, 2, none⟩ = some (.int .i64 P) := HX.out.cell 2
  have q3 : (w.alloc (.cells #[.int .i64 B, .int .i64 C, .int .i64 P, .slice A n c] 24)).cell? ⟨w.heap.size, 3, none⟩ = some (.slice A n c) := HX.out.cell 3
  have hd1 : decide (0 < n) = true := decide_eq_true hp
  have hd2 : decide (n ≤ 16) = true := decide_eq_true hf
  have hp' : (0 : Int) < (n : Int) := by omega
  have hf' : (n : Int) ≤ 16 := by omega
  have HE := hide (show firstOf [unlessE true 2, unlessE true 10, unlessE true 8] = 0 from rfl)
  have HE2 := hide (show firstOf [unlessE true 2, unlessE true 9] = 0 from rfl)
  clear hs ho hn
  go_enter Try.func64, Try.ntmps64
  go_wp2_with fail
  obtain ⟨W0, hW0⟩ : ∃ W0, w.alloc (.cells #[.int .i64 B, .int .i64 C, .int .i64 P, .slice A n c] 24) = W0 := ⟨_, rfl⟩
  rw [hW0] at HB HX ⊢
  clear hW0 q0 q1 q2 q3
  have HL := hide (fun W (h : Below W0.heap.size W0 W) => (show (W.cell? ⟨w.heap.size, 0, none⟩ = some (.int .i64 B) ∧ W.cell? ⟨w.heap.size, 1, none⟩ = some (.int .i64 C)) ∧ W.cell? ⟨w.heap.size, 2, none⟩ = some (.int .i64 P) ∧ W.cell? ⟨w.heap.size, 3, none⟩ = some (.slice A n c) from by
    have hb := HX.out.below h HX.out.lt
    exact ⟨⟨hb.cell 0, hb.cell 1⟩, hb.cell 2, hb.cell 3⟩))
  refine wp_region_held_drew (S := fun w' => Below W0.heap.size W0 w') (by kernel_rfl) (below_drewN (Below.refl _ _) 1) (fun hHeld => ?_)
  refine take_at (i := 0) 8 (v := .pointer (some ⟨w.heap.size, 0, none⟩)) rfl rfl (by kernel_rfl) (by kernel_rfl) (by kernel_rfl) (fun _ _ _ h => h) (Or.inl ⟨by rfl, by intro w hSw; go_simp⟩) (by assumption) ?_
  try simp only [Act.put, List.setIfInBounds_toArray, List.set_cons_zero, List.set_cons_succ]
  refine take_at (i := 1) 9 (v := .int .i64 B) rfl rfl (by kernel_rfl) (by kernel_rfl) (by kernel_rfl) (fun _ _ _ h => h) (Or.inl ⟨by rfl, by intro w hSw; obtain ⟨⟨c0, c1⟩, c2, c3⟩ := HL.out w hSw; go_simp⟩) (by assumption) ?_
  try simp only [Act.put, List.setIfInBounds_toArray, List.set_cons_zero, List.set_cons_succ]
  refine take_at (i := 14) 22 (v := .pointer (some ⟨w.heap.size, 3, none⟩)) rfl rfl (by kernel_rfl) (by kernel_rfl) (by kernel_rfl) (fun _ _ _ h => h) (Or.inl ⟨by rfl, by intro w hSw; go_simp⟩) (by assumption) ?_
  try simp only [Act.put, List.setIfInBounds_toArray, List.set_cons_zero, List.set_cons_succ]
  refine take_at (i := 15) 23 (v := .slice A n c) rfl rfl (by kernel_rfl) (by kernel_rfl) (by kernel_rfl) (fun _ _ _ h => h) (Or.inl ⟨by rfl, by intro w hSw; obtain ⟨⟨c0, c1⟩, c2, c3⟩ := HL.out w hSw; go_simp⟩) (by assumption) ?_
  try simp only [Act.put, List.setIfInBounds_toArray, List.set_cons_zero, List.set_cons_succ]
  refine take_at (i := 16) 24 (v := .int .i64 (n : Int)) rfl rfl (by kernel_rfl) (by kernel_rfl) (by kernel_rfl) (fun _ _ _ h => h) (Or.inl ⟨by rfl, by intro w hSw; go_simp⟩) (by assumption) ?_
  try simp only [Act.put, List.setIfInBounds_toArray, List.set_cons_zero, List.set_cons_succ]
  refine take_at (i := 17) 25 (v := .bool true) rfl rfl (by kernel_rfl) (by kernel_rfl) (by kernel_rfl) (fun _ _ _ h => h) (Or.inl ⟨by rfl, by intro w hSw; go_simp⟩) (by assumption) ?_
  try simp only [Act.put, List.setIfInBounds_toArray, List.set_cons_zero, List.set_cons_succ]
  refine take_at (i := 19) 27 (v := .pointer (some ⟨w.heap.size, 3, none⟩)) rfl rfl (by kernel_rfl) (by kernel_rfl) (by kernel_rfl) (fun _ _ _ h => h) (Or.inl ⟨by rfl, by intro w hSw; go_simp⟩) (by assumption) ?_
  try simp only [Act.put, List.setIfInBounds_toArray, List.set_cons_zero, List.set_cons_succ]
  refine take_at (i := 20) 28 (v := .slice A n c) rfl rfl (by kernel_rfl) (by kernel_rfl) (by kernel_rfl) (fun _ _ _ h => h) (Or.inl ⟨by rfl, by intro w hSw; obtain ⟨⟨c0, c1⟩, c2, c3⟩ := HL.out w hSw; go_simp⟩) (by assumption) ?_
  try simp only [Act.put, List.setIfInBounds_toArray, List.set_cons_zero, List.set_cons_succ]
  refine take_at (i := 21) 29 (v := .int .i64 (n : Int)) rfl rfl (by kernel_rfl) (by kernel_rfl) (by kernel_rfl) (fun _ _ _ h => h) (Or.inl ⟨by rfl, by intro w hSw; go_simp⟩) (by assumption) ?_
  try simp only [Act.put, List.setIfInBounds_toArray, List.set_cons_zero, List.set_cons_succ]
  refine take_at (i := 22) 30 (v := .bool true) rfl rfl (by kernel_rfl) (by kernel_rfl) (by kernel_rfl) (fun _ _ _ h => h) (Or.inl ⟨by rfl, by intro w hSw; go_simp⟩) (by assumption) ?_
  try simp only [Act.put, List.setIfInBounds_toArray, List.set_cons_zero, List.set_cons_succ]
  refine wpAnyH_ready (rs := [2]) (by kernel_rfl) (by simp) ?_
  refine AllReadyH.cons rfl (fun K hK => ?_) AllReadyH.nil
  go_simp
  go_at_call 41
  refine (within_sy _ _ _ _).mono ?_
  rintro e w' ⟨rfl, rfl⟩
  rw [H1.out]
  try simp only []
  refine hK.out _ _ (below_drewN (Below.refl _ _) 1) (fun hHeld => ?_)
  clear hK K
  try simp only [Act.put, List.setIfInBounds_toArray, List.set_cons_zero, List.set_cons_succ]
  refine take_at (i := 3) 11 (v := .bool true) rfl rfl (by kernel_rfl) (by kernel_rfl) (by kernel_rfl) (fun _ _ _ h => h) (Or.inl ⟨by rfl, by intro w hSw; go_simp⟩) (by assumption) ?_
  try simp only [Act.put, List.setIfInBounds_toArray, List.set_cons_zero, List.set_cons_succ]
  refine take_at (i := 4) 12 (v := .pointer (some ⟨w.heap.size, 1, none⟩)) rfl rfl (by kernel_rfl) (by kernel_rfl) (by kernel_rfl) (fun _ _ _ h => h) (Or.inl ⟨by rfl, by intro w hSw; go_simp⟩) (by assumption) ?_
  try simp only [Act.put, List.setIfInBounds_toArray, List.set_cons_zero, List.set_cons_succ]
  refine take_at (i := 5) 13 (v := .int .i64 C) rfl rfl (by kernel_rfl) (by kernel_rfl) (by kernel_rfl) (fun _ _ _ h => h) (Or.inl ⟨by rfl, by intro w hSw; obtain ⟨⟨c0, c1⟩, c2, c3⟩ := HL.out w hSw; go_simp⟩) (by assumption) ?_
  try simp only [Act.put, List.setIfInBounds_toArray, List.set_cons_zero, List.set_cons_succ]
  refine wpAnyH_ready (rs := [6]) (by kernel_rfl) (by simp) ?_
  refine AllReadyH.cons rfl (fun K hK => ?_) AllReadyH.nil
  go_simp
  go_at_call 41
  refine (within_sy _ _ _ _).mono ?_
  rintro e w' ⟨rfl, rfl⟩
  rw [H2.out]
  try simp only []
  refine hK.out _ _ (below_drewN (Below.refl _ _) 1) (fun hHeld => ?_)
  clear hK K
  try simp only [Act.put, List.setIfInBounds_toArray, List.set_cons_zero, List.set_cons_succ]
  refine take_at (i := 7) 15 (v := .bool true) rfl rfl (by kernel_rfl) (by kernel_rfl) (by kernel_rfl) (fun _ _ _ h => h) (Or.inl ⟨by rfl, by intro w hSw; go_simp⟩) (by assumption) ?_
  try simp only [Act.put, List.setIfInBounds_toArray, List.set_cons_zero, List.set_cons_succ]
  refine take_at (i := 8) 16 (v := .bool true) rfl rfl (by kernel_rfl) (by kernel_rfl) (by kernel_rfl) (fun _ _ _ h => h) (Or.inl ⟨by rfl, by intro w hSw; go_simp⟩) (by assumption) ?_
  try simp only [Act.put, List.setIfInBounds_toArray, List.set_cons_zero, List.set_cons_succ]
  refine take_at (i := 9) 17 (v := .pointer (some ⟨w.heap.size, 2, none⟩)) rfl rfl (by kernel_rfl) (by kernel_rfl) (by kernel_rfl) (fun _ _ _ h => h) (Or.inl ⟨by rfl, by intro w hSw; go_simp⟩) (by assumption) ?_
  try simp only [Act.put, List.setIfInBounds_toArray, List.set_cons_zero, List.set_cons_succ]
  refine take_at (i := 10) 18 (v := .int .i64 P) rfl rfl (by kernel_rfl) (by kernel_rfl) (by kernel_rfl) (fun _ _ _ h => h) (Or.inl ⟨by rfl, by intro w hSw; obtain ⟨⟨c0, c1⟩, c2, c3⟩ := HL.out w hSw; go_simp⟩) (by assumption) ?_
  try simp only [Act.put, List.setIfInBounds_toArray, List.set_cons_zero, List.set_cons_succ]
  refine wpAnyH_ready (rs := [11]) (by kernel_rfl) (by simp) ?_
  refine AllReadyH.cons rfl (fun K hK => ?_) AllReadyH.nil
  go_simp
  go_at_call 41
  refine (within_sy _ _ _ _).mono ?_
  rintro e w' ⟨rfl, rfl⟩
  rw [H3.out]
  try simp only []
  refine hK.out _ _ (below_drewN (Below.refl _ _) 1) (fun hHeld => ?_)
  clear hK K
  try simp only [Act.put, List.setIfInBounds_toArray, List.set_cons_zero, List.set_cons_succ]
  refine take_at (i := 12) 20 (v := .bool true) rfl rfl (by kernel_rfl) (by kernel_rfl) (by kernel_rfl) (fun _ _ _ h => h) (Or.inl ⟨by rfl, by intro w hSw; go_simp⟩) (by assumption) ?_
  try simp only [Act.put, List.setIfInBounds_toArray, List.set_cons_zero, List.set_cons_succ]
  refine wpAnyH_ready (rs := [13]) (by kernel_rfl) (by simp) ?_
  refine AllReadyH.cons rfl (fun K hK => ?_) AllReadyH.nil
  go_simp
  go_at_call 28
  refine (unless_any _ _ _).mono ?_
  rintro e w' ⟨rfl, rfl⟩
  rw [show unlessE true 2 = 0 from rfl]
  try simp only []
  refine hK.out _ _ (below_drewN (Below.refl _ _) 1) (fun hHeld => ?_)
  clear hK K
  try simp only [Act.put, List.setIfInBounds_toArray, List.set_cons_zero, List.set_cons_succ]
  refine wpAnyH_ready (rs := [18]) (by kernel_rfl) (by simp) ?_
  refine AllReadyH.cons rfl (fun K hK => ?_) AllReadyH.nil
  go_simp
  go_at_call 28
  refine (unless_any _ _ _).mono ?_
  rintro e w' ⟨rfl, rfl⟩
  rw [show unlessE true 10 = 0 from rfl]
  try simp only []
  refine hK.out _ _ (below_drewN (Below.refl _ _) 1) (fun hHeld => ?_)
  clear hK K
  try simp only [Act.put, List.setIfInBounds_toArray, List.set_cons_zero, List.set_cons_succ]
  refine wpAnyH_ready (rs := [23]) (by kernel_rfl) (by simp) ?_
  refine AllReadyH.cons rfl (fun K hK => ?_) AllReadyH.nil
  go_simp
  go_at_call 28
  refine (unless_any _ _ _).mono ?_
  rintro e w' ⟨rfl, rfl⟩
  rw [show unlessE true 8 = 0 from rfl]
  try simp only []
  refine hK.out _ _ (below_drewN (Below.refl _ _) 1) (fun hHeld => ?_)
  clear hK K
  try simp only [Act.put, List.setIfInBounds_toArray, List.set_cons_zero, List.set_cons_succ]
  refine wpAnyH_ready (rs := [24]) (by kernel_rfl) (by simp) ?_
  refine AllReadyH.cons rfl (fun K hK => ?_) AllReadyH.nil
  go_simp
  refine hK.out _ _ (below_drewN ((Below.refl _ _).alloc (Nat.le_refl _) _) 1) (fun hHeld => ?_)
  clear hK K
  try simp only [Act.put, List.setIfInBounds_toArray, List.set_cons_zero, List.set_cons_succ]
  refine wpAnyH_ready (rs := [25]) (by kernel_rfl) (by simp) ?_
  refine AllReadyH.cons rfl (fun K hK => ?_) AllReadyH.nil
  go_simp
  go_at_call 26
  refine (first3d _ _ _ _ _ (by first | rfl | simp)).mono ?_
  rintro e w' ⟨rfl, rfl⟩
  rw [show firstOf [0, 0, 0] = 0 from rfl]
  try simp only []
  refine hK.out _ _ (below_drewN ((Below.refl _ _).alloc (Nat.le_refl _) _) 1) (fun hHeld => ?_)
  clear hK K
  try simp only [Act.put, List.setIfInBounds_toArray, List.set_cons_zero, List.set_cons_succ]
  refine take_at (i := 26) 3 (v := .int .i64 0) rfl rfl (by kernel_rfl) (by kernel_rfl) (by kernel_rfl) (fun _ _ _ h => h) (Or.inl ⟨by rfl, by intro w hSw; go_simp⟩) (by assumption) ?_
  try simp only [Act.put, List.setIfInBounds_toArray, List.set_cons_zero, List.set_cons_succ]
  refine wpAnyH_done (by kernel_rfl) ?_ _
  have HB5 := hide (show Below w.heap.size w ((W0.alloc (.cells #[.int .i64 0, .int .i64 0, .int .i64 0] 36)).drew) from Below.step HB.out (below_drewN ((Below.refl _ _).alloc (Nat.le_refl _) _) 1))
  obtain ⟨W5, hW5⟩ : ∃ W5, (W0.alloc (.cells #[.int .i64 0, .int .i64 0, .int .i64 0] 36)).drew = W5 := ⟨_, rfl⟩
  have HX5 := hide (show Blk ((W0.alloc (.cells #[.int .i64 0, .int .i64 0, .int .i64 0] 36)).drew) w.heap.size 24 #[.int .i64 B, .int .i64 C, .int .i64 P, .slice A n c] from HX.out.below (below_drewN ((Below.refl _ _).alloc (Nat.le_refl _) _) 1) HX.out.lt)
  rw [hW5] at HB5 HX5 ⊢
  clear hW5 hHeld HL HB
  have q3 : W5.cell? ⟨w.heap.size, 3, none⟩ = some (.slice A n c) := HX5.out.cell 3
  go_wp2
  go_loopw [4, 40] (fun b i wr => ∃ (k : Nat) (y : Int), k ≤ n ∧ i = .int .i64 k ∧ b = .int .i64 y ∧ (∀ (h : k < T.length), y ≤ T[k]) ∧ Below w.heap.size w wr) (fun _ i _ => n - (intOf i).toNat)
  case atStart => exact ⟨0, 0, Nat.zero_le _, rfl, rfl, fun h => (HO.out.in_ 0 h).1, HB5.out⟩
  case round =>
    obtain ⟨k, y, hk, rfl, rfl, hy, hbel⟩ := hrel
    have HBE := hide hbel
    have HY := hide hy
    clear hbel hy q3
    by_cases hlt : k < n
    · have hkT : k < T.length := by rw [HN.out]; exact hlt
      obtain ⟨b, off, rfl, d0⟩ := HS.out.int hkT
      have d1 : wr.cell? ⟨b, off + k, none⟩ = some (.int .i64 T[k]) := (HBE.out.cell (lt_of_cell d0)).trans d0
      have hki : (k : Int) < (n : Int) := by omega
      have hin := HO.out.in_ k hkT
      have hyx := HY.out hkT
      obtain ⟨x, hx⟩ : ∃ x, T[k] = x := ⟨_, rfl⟩
      have HNX := hide (show ∀ h : k + 1 < T.length, x ≤ T[k + 1] from fun h => by rw [← hx]; exact HO.out.asc k h)
      rw [hx] at d1 hin hyx
      have H4 := hide (show withinB x 0 1000 = true by simp [withinB]; omega)
      have hd : decide (y ≤ x) = true := decide_eq_true hyx
      clear d0 hx hin
      go_wp2_with (first
        | (go_at_call 41; go_must (refine (within_sy _ _ _ _).mono ?_; rintro e w' ⟨rfl, rfl⟩; rw [H4.out]; simp only []))
        | (go_at_call 28; go_must (refine (unless_any _ _ _).mono ?_; rintro e w' ⟨rfl, rfl⟩; (try rw [show unlessE true 2 = 0 from rfl]); (try rw [show unlessE true 9 = 0 from rfl]); (try simp only [])))
        | (go_at_call 26; go_must (refine (first2 _ _ _ _ (by first | rfl | simp)).mono ?_; rintro e w' ⟨rfl, rfl⟩; rw [show firstOf [0, 0] = 0 from rfl]; simp only [])))
      go_roundw
      case rel => exact ⟨k + 1, x, by omega, by go_num, rfl, HNX.out, HBE.out.alloc HBE.out.size _⟩
      case measure => simp [intOf]; omega
    · go_wp2
      go_ret
      exact ⟨rfl, HBE.out⟩
end Go.Proofs.Ytppkibgemacdbaa
