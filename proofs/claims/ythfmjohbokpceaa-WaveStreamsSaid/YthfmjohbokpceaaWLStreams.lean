import Derived.Test.YthfmjohbokpceaaWvFG
namespace Go.Proofs.Ythfmjohbokpceaa
open Go.RowKit Go.WideShapes Go.ChangeShapes

/-! the statement WaveStreams -/
theorem Blk.two {w : World} {g t : Nat} {n s : Int} (h : Blk w g t #[.int .i64 n, .int .i64 s]) : w.cell? ⟨g, 0, none⟩ = some (.int .i64 n) ∧ w.cell? ⟨g, 1, none⟩ = some (.int .i64 s) := ⟨h.cell 0, h.cell 1⟩
set_option maxRecDepth 100000 in
set_option maxHeartbeats 20000000 in
theorem WaveStreams_law (A : Option Addr) (c : Nat) (l : List (List (Int × Int))) (B : Option Addr) (d : Nat) (x : List Nm) (n s : Int) (w : World) (h8 : ∀ s ∈ l, s.length = 8) (hs0 : Sl w A (svs l)) (hs1 : Sl w B (nvs x)) :
    Calls Try.prog 13 #[.slice A l.length c, .slice B x.length d, .agg #[.int .i64 n, .int .i64 s]] w fun e w' => e = .returned (.bool true) ∧ Below w.heap.size w w' := by
  have HT0 := hide ((((stay_sl (hs0.alloc (.cells #[.int .i64 n, .int .i64 s] 84))).and (stay_sl (hs1.alloc (.cells #[.int .i64 n, .int .i64 s] 84)))).and (stay_blk (Blk.new w 84 #[.int .i64 n, .int .i64 s]))).and (stay_below (show Below w.heap.size w (w.alloc (.cells #[.int .i64 n, .int .i64 s] 84)) from (Below.refl _ _).alloc (Nat.le_refl _) _)))
  by_cases hl0 : 8 < l.length
  · clear hs0 hs1 h8
    go_enter Try.func13, Try.ntmps13
    go_wp2_with (go_at_call 20; go_must (refine (awake_ok _).mono ?_; rintro e w1 ⟨rfl, hb1⟩; simp only []))
    go_ret
    exact ⟨rfl, (HT0.out.step hb1).now.2⟩
  have hl0' : l.length ≤ 8 := by omega
  by_cases hl1 : 122 < x.length
  · clear hs0 hs1 h8
    go_enter Try.func13, Try.ntmps13
    go_wp2_with (go_at_call 20; go_must (refine (awake_ok _).mono ?_; rintro e w1 ⟨rfl, hb1⟩; simp only []))
    go_ret
    exact ⟨rfl, (HT0.out.step hb1).now.2⟩
  have hl1' : x.length ≤ 122 := by omega
  have HCS := hide (fun W (h : Sl W A (svs l)) => copySym A c l W h8 h (by omega))
  have HCN := hide (fun W (h : Sl W B (nvs x)) => copyNum B d x W h (by omega))
  obtain ⟨E, N, L, hLN, hN, HSTR, HSE, k1⟩ := sy_key1 l h8 n
  obtain ⟨E2, BB, hb1, hb2, hqB, HSY, V, HSM, k2⟩ := sy_key2 x hl1' n s
  have HSAME := hide (fun G G' q q' W (h : Sl W G (nvs L)) (h' : Sl W G' (nvs L)) => by have := sameNum G G' q q' L L W h h' (by omega) (by omega); rw [hLN, decide_eq_true rfl] at this; exact this)
  have HBZ := hide hb1
  clear hl0 hl1 hs0 hs1 h8 hb1 hLN hN
  rcases k1 with ⟨rfl, HRS⟩ | ⟨hE, rfl, rfl⟩ <;> rcases k2 with ⟨hV, rfl, rfl⟩ | ⟨rfl, G, HGD, ⟨hG, rfl, rfl⟩ | ⟨rfl, HSYR⟩⟩
  · go_enter Try.func13, Try.ntmps13
    go_wp2_with (go_at_call 20; go_must (refine (awake_ok _).mono ?_; rintro e w1 ⟨rfl, hb⟩; have HT := hide (HT0.out.step hb); clear hb; simp only []))
    have HH0 := hide (show (fun w' => Blk w' w.heap.size 84 #[.int .i64 n, .int .i64 s] ∧ Below w1.heap.size w1 w') w1.drew from ⟨HT.out.now.1.2, below_drewN (Below.refl _ _) 1⟩)
    refine wp_region_held_drew (S := fun w' => Blk w' w.heap.size 84 #[.int .i64 n, .int .i64 s] ∧ Below w1.heap.size w1 w') (by kernel_rfl) HH0.out (fun hHeld => ?_)
    refine take_at (i := 0) 25 (v := .slice A l.length c) rfl rfl (by kernel_rfl) (by kernel_rfl) (by kernel_rfl) (fun _ _ _ h => h) (Or.inl ⟨by rfl, by intro w hSw; go_simp⟩) (by assumption) ?_
    try simp only [Act.put, List.setIfInBounds_toArray, List.set_cons_zero, List.set_cons_succ]
    refine take_at (i := 2) 27 (v := .pointer (some ⟨w.heap.size, 0, none⟩)) rfl rfl (by kernel_rfl) (by kernel_rfl) (by kernel_rfl) (fun _ _ _ h => h) (Or.inl ⟨by rfl, by intro w hSw; go_simp⟩) (by assumption) ?_
    try simp only [Act.put, List.setIfInBounds_toArray, List.set_cons_zero, List.set_cons_succ]
    refine take_at (i := 3) 28 (v := .int .i64 n) rfl rfl (by kernel_rfl) (by kernel_rfl) (by kernel_rfl) (fun _ _ _ h => h) (Or.inl ⟨by rfl, by intro w hSw; obtain ⟨q0, q1⟩ := hSw.1.two; go_simp⟩) (by assumption) ?_
    try simp only [Act.put, List.setIfInBounds_toArray, List.set_cons_zero, List.set_cons_succ]
    refine wpAnyH_ready (rs := [1]) (by kernel_rfl) (by simp) ?_
    refine AllReadyH.cons rfl (fun K hK => ?_) AllReadyH.nil
    go_simp
    refine (HCS.out _ (HT.out.drew.now.1.1.1)).mono ?_
    rintro e v1 ⟨D, kd, rfl, ho, hb⟩
    have HD := hide (Sl.of_ownN ho)
    have HH1 := hide (show (fun w' => Blk w' w.heap.size 84 #[.int .i64 n, .int .i64 s] ∧ Below w1.heap.size w1 w') v1 from ⟨HH0.out.1.below hb HH0.out.1.lt, Below.step HH0.out.2 hb⟩)
    clear ho
    clear hb
    simp only []
    refine hK.out _ _ HH1.out (fun hHeld => ?_)
    clear hK K
    try simp only [Act.put, List.setIfInBounds_toArray, List.set_cons_zero, List.set_cons_succ]
    refine wpAnyH_ready (rs := [4]) (by kernel_rfl) (by simp) ?_
    refine AllReadyH.cons rfl (fun K hK => ?_) AllReadyH.nil
    go_simp
    refine (HSTR.out _ _ _ HD.out).mono ?_
    rintro e v2 ⟨C, q, rfl, hc, hb⟩
    have HH2 := hide (show (fun w' => Blk w' w.heap.size 84 #[.int .i64 n, .int .i64 s] ∧ Below w1.heap.size w1 w') v2 from ⟨HH1.out.1.below hb HH1.out.1.lt, Below.step HH1.out.2 hb⟩)
    have HSL := hide (stay_sl hc)
    clear hc HD
    clear hb
    simp only []
    refine hK.out _ _ HH2.out (fun hHeld => ?_)
    clear hK K
    try simp only [Act.put, List.setIfInBounds_toArray, List.set_cons_zero, List.set_cons_succ]
    refine take_at (i := 5) 24 (v := .tuple #[.slice C N q, .int .i64 0]) rfl rfl (by kernel_rfl) (by kernel_rfl) (by kernel_rfl) (fun _ _ _ h => h) (Or.inl ⟨by rfl, by intro w hSw; go_simp⟩) (by assumption) ?_
    try simp only [Act.put, List.setIfInBounds_toArray, List.set_cons_zero, List.set_cons_succ]
    refine take_at (i := 6) 30 (v := .slice C N q) rfl rfl (by kernel_rfl) (by kernel_rfl) (by kernel_rfl) (fun _ _ _ h => h) (Or.inl ⟨by rfl, by intro w hSw; go_simp⟩) (by assumption) ?_
    try simp only [Act.put, List.setIfInBounds_toArray, List.set_cons_zero, List.set_cons_succ]
    refine take_at (i := 7) 31 (v := .int .i64 0) rfl rfl (by kernel_rfl) (by kernel_rfl) (by kernel_rfl) (fun _ _ _ h => h) (Or.inl ⟨by rfl, by intro w hSw; go_simp⟩) (by assumption) ?_
    try simp only [Act.put, List.setIfInBounds_toArray, List.set_cons_zero, List.set_cons_succ]
    refine take_at (i := 8) 7 (v := .slice C N q) rfl rfl (by kernel_rfl) (by kernel_rfl) (by kernel_rfl) (fun _ _ _ h => h) (Or.inl ⟨by rfl, by intro w hSw; go_simp⟩) (by assumption) ?_
    try simp only [Act.put, List.setIfInBounds_toArray, List.set_cons_zero, List.set_cons_succ]
    refine take_at (i := 9) 8 (v := .int .i64 0) rfl rfl (by kernel_rfl) (by kernel_rfl) (by kernel_rfl) (fun _ _ _ h => h) (Or.inl ⟨by rfl, by intro w hSw; go_simp⟩) (by assumption) ?_
    try simp only [Act.put, List.setIfInBounds_toArray, List.set_cons_zero, List.set_cons_succ]
    refine wpAnyH_done (by kernel_rfl) ?_ _
    replace HT := hide (HT.out.step HH2.out.2)
    go_wp2
    have HI0 := hide (show (fun w' => Blk w' w.heap.size 84 #[.int .i64 n, .int .i64 s] ∧ Below v2.heap.size v2 w') v2.drew from ⟨HT.out.now.1.2, below_drewN (Below.refl _ _) 1⟩)
    refine wp_region_held_drew (S := fun w' => Blk w' w.heap.size 84 #[.int .i64 n, .int .i64 s] ∧ Below v2.heap.size v2 w') (by kernel_rfl) HI0.out (fun hHeld => ?_)
    refine take_at (i := 0) 33 (v := .slice B x.length d) rfl rfl (by kernel_rfl) (by kernel_rfl) (by kernel_rfl) (fun _ _ _ h => h) (Or.inl ⟨by rfl, by intro w hSw; go_simp⟩) (by assumption) ?_
    try simp only [Act.put, List.setIfInBounds_toArray, List.set_cons_zero, List.set_cons_succ]
    refine take_at (i := 2) 35 (v := .pointer (some ⟨w.heap.size, 0, none⟩)) rfl rfl (by kernel_rfl) (by kernel_rfl) (by kernel_rfl) (fun _ _ _ h => h) (Or.inl ⟨by rfl, by intro w hSw; go_simp⟩) (by assumption) ?_
    try simp only [Act.put, List.setIfInBounds_toArray, List.set_cons_zero, List.set_cons_succ]
    refine take_at (i := 3) 36 (v := .int .i64 n) rfl rfl (by kernel_rfl) (by kernel_rfl) (by kernel_rfl) (fun _ _ _ h => h) (Or.inl ⟨by rfl, by intro w hSw; obtain ⟨q0, q1⟩ := hSw.1.two; go_simp⟩) (by assumption) ?_
    try simp only [Act.put, List.setIfInBounds_toArray, List.set_cons_zero, List.set_cons_succ]
    refine take_at (i := 4) 37 (v := .pointer (some ⟨w.heap.size, 1, none⟩)) rfl rfl (by kernel_rfl) (by kernel_rfl) (by kernel_rfl) (fun _ _ _ h => h) (Or.inl ⟨by rfl, by intro w hSw; go_simp⟩) (by assumption) ?_
    try simp only [Act.put, List.setIfInBounds_toArray, List.set_cons_zero, List.set_cons_succ]
    refine take_at (i := 5) 38 (v := .int .i64 s) rfl rfl (by kernel_rfl) (by kernel_rfl) (by kernel_rfl) (fun _ _ _ h => h) (Or.inl ⟨by rfl, by intro w hSw; obtain ⟨q0, q1⟩ := hSw.1.two; go_simp⟩) (by assumption) ?_
    try simp only [Act.put, List.setIfInBounds_toArray, List.set_cons_zero, List.set_cons_succ]
    refine wpAnyH_ready (rs := [1, 10]) (by kernel_rfl) (by simp) ?_
    refine AllReadyH.cons rfl (fun K hK => ?_) (AllReadyH.cons rfl (fun K hK => ?_) AllReadyH.nil)
    go_simp
    refine (HCN.out _ (HT.out.drew.now.1.1.2)).mono ?_
    rintro e v3 ⟨D, kd, rfl, ho, hb⟩
    have HD := hide (Sl.of_ownN ho)
    have HCAP := hide (own_cap ho)
    have HI1 := hide (show (fun w' => Blk w' w.heap.size 84 #[.int .i64 n, .int .i64 s] ∧ Below v2.heap.size v2 w') v3 from ⟨HI0.out.1.below hb HI0.out.1.lt, Below.step HI0.out.2 hb⟩)
    clear ho
    clear hb
    simp only []
    refine hK.out _ _ HI1.out (fun hHeld => ?_)
    clear hK K
    try simp only [Act.put, List.setIfInBounds_toArray, List.set_cons_zero, List.set_cons_succ]
    refine wpAnyH_ready (rs := [6, 10]) (by kernel_rfl) (by simp) ?_
    refine AllReadyH.cons rfl (fun K hK => ?_) (AllReadyH.cons rfl (fun K hK => ?_) AllReadyH.nil)
    go_simp
    refine (HSY.out _ _ _ HCAP.out (HD.out)).mono ?_
    rintro e v4 ⟨rfl, hb⟩
    have HI2 := hide (show (fun w' => Blk w' w.heap.size 84 #[.int .i64 n, .int .i64 s] ∧ Below v2.heap.size v2 w') v4 from ⟨HI1.out.1.below hb HI1.out.1.lt, Below.step HI1.out.2 hb⟩)
    clear HD HCAP
    clear hb
    simp only []
    refine hK.out _ _ HI2.out (fun hHeld => ?_)
    clear hK K
    try simp only [Act.put, List.setIfInBounds_toArray, List.set_cons_zero, List.set_cons_succ]
    refine take_at (i := 7) 32 (v := .tuple #[.agg (numArr [] 8), .int .i64 E2]) rfl rfl (by kernel_rfl) (by kernel_rfl) (by kernel_rfl) (fun _ _ _ h => h) (Or.inl ⟨by rfl, by intro w hSw; go_simp⟩) (by assumption) ?_
    try simp only [Act.put, List.setIfInBounds_toArray, List.set_cons_zero, List.set_cons_succ]
    refine take_at (i := 8) 40 (v := .agg (numArr [] 8)) rfl rfl (by kernel_rfl) (by kernel_rfl) (by kernel_rfl) (fun _ _ _ h => h) (Or.inl ⟨by rfl, by intro w hSw; go_simp⟩) (by assumption) ?_
    try simp only [Act.put, List.setIfInBounds_toArray, List.set_cons_zero, List.set_cons_succ]
    refine take_at (i := 9) 41 (v := .int .i64 E2) rfl rfl (by kernel_rfl) (by kernel_rfl) (by kernel_rfl) (fun _ _ _ h => h) (Or.inl ⟨by rfl, by intro w hSw; go_simp⟩) (by assumption) ?_
    try simp only [Act.put, List.setIfInBounds_toArray, List.set_cons_zero, List.set_cons_succ]
    refine wpAnyH_ready (rs := [10]) (by kernel_rfl) (by simp) ?_
    refine AllReadyH.cons rfl (fun K hK => ?_) AllReadyH.nil
    go_simp
    have HI3 := hide (show (fun w' => Blk w' w.heap.size 84 #[.int .i64 n, .int .i64 s] ∧ Below v2.heap.size v2 w') (v4.alloc (.cells (numArr [] 8) 96)) from ⟨HI2.out.1.alloc _, HI2.out.2.alloc HI2.out.2.size _⟩)
    have HBX := hide (show Stay (v4.alloc (.cells (numArr [] 8) 96)) (fun W => Blk W v4.heap.size 96 (numArr [] 8)) from stay_new v4 96 (numArr [] 8))
    refine hK.out _ _ HI3.out (fun hHeld => ?_)
    clear hK K
    try simp only [Act.put, List.setIfInBounds_toArray, List.set_cons_zero, List.set_cons_succ]
    have HLE := hide HI2.out.2.size
    refine wpAnyH_ready (rs := [11]) (by kernel_rfl) (by simp) ?_
    refine AllReadyH.cons rfl (fun K hK => ?_) AllReadyH.nil
    refine step_store_row rfl 96 (.tmp 9) (.tmp 40) rfl v4.heap.size (numArr [] 8) rfl rfl 96 (numArr [] 8) HBX.out.now (by rw [HBZ.out]; kernel_rfl) (by first | (rw [HBZ.out]; rfl) | rw [HBZ.out]) hb2 ?_
    have HI4 := hide (show (fun w' => Blk w' w.heap.size 84 #[.int .i64 n, .int .i64 s] ∧ Below v2.heap.size v2 w') ((v4.alloc (.cells (numArr [] 8) 96)).setRow v4.heap.size (numArr [] 8)) from ⟨HI3.out.1.rowFar (by have := HI0.out.1.lt; have := HI0.out.2.size; have := HLE.out; have e0 : v2.drew.heap.size = v2.heap.size := rfl; omega) _, Below.row HI3.out.2 (by have := HLE.out; have e0 : v2.drew.heap.size = v2.heap.size := rfl; omega) _⟩)
    replace HBX := hide (stay_blk (HBX.out.now.row (numArr [] 8)))
    refine hK.out _ _ HI4.out (fun hHeld => ?_)
    clear hK K
    try simp only [Act.put, List.setIfInBounds_toArray]
    refine take_at (i := 12) 10 (v := .int .i64 E2) rfl rfl (by kernel_rfl) (by kernel_rfl) (by kernel_rfl) (fun _ _ _ h => h) (Or.inl ⟨by rfl, by intro w hSw; go_simp⟩) (by assumption) ?_
    try simp only [Act.put]
    refine wpAnyH_done (by kernel_rfl) ?_ _
    replace HT := hide (HT.out.step HI4.out.2)
    replace HSL := hide (HSL.out.step HI4.out.2)
    obtain ⟨v5, hv5⟩ : ∃ v5, (v4.alloc (.cells (numArr [] 8) 96)).setRow v4.heap.size (numArr [] 8) = v5 := ⟨_, rfl⟩
    rw [hv5] at HT HSL HBX
    rw [show (v4.alloc (.cells #[.int .i64 0, .int .i64 0, .int .i64 0, .int .i64 0, .int .i64 0, .int .i64 0, .int .i64 0, .int .i64 0, .int .i64 0, .int .i64 0, .int .i64 0, .int .i64 0, .int .i64 0, .int .i64 0, .int .i64 0, .int .i64 0, .int .i64 0, .int .i64 0, .int .i64 0, .int .i64 0, .int .i64 0, .int .i64 0, .int .i64 0, .int .i64 0, .int .i64 0, .int .i64 0, .int .i64 0, .int .i64 0, .int .i64 0, .int .i64 0, .int .i64 0, .int .i64 0] 96)).setRow v4.heap.size (numArr [] 8) = v5 from hv5]
    clear hv5
    obtain ⟨g, hg⟩ : ∃ g, v4.heap.size = g := ⟨_, rfl⟩
    rw [hg] at HBX ⊢
    clear hg
    have hv4 := HBX.out.now.lt
    clear HI0 HI1 HI2 HI3 HI4 HLE
    rotate_left
    go_simp
    have HI3 := hide (show (fun w' => Blk w' w.heap.size 84 #[.int .i64 n, .int .i64 s] ∧ Below v2.heap.size v2 w') (v3.alloc (.cells (numArr [] 8) 96)) from ⟨HI1.out.1.alloc _, HI1.out.2.alloc HI1.out.2.size _⟩)
    have HBX := hide (show Stay (v3.alloc (.cells (numArr [] 8) 96)) (fun W => Blk W v3.heap.size 96 (numArr [] 8)) from stay_new v3 96 (numArr [] 8))
    refine hK.out _ _ HI3.out (fun hHeld => ?_)
    clear hK K
    try simp only [Act.put, List.setIfInBounds_toArray, List.set_cons_zero, List.set_cons_succ]
    have HLE := hide HI1.out.2.size
    refine wpAnyH_ready (rs := [6]) (by kernel_rfl) (by simp) ?_
    refine AllReadyH.cons rfl (fun K hK => ?_) AllReadyH.nil
    go_simp
    refine (HSY.out _ _ _ HCAP.out (HD.out.alloc _)).mono ?_
    rintro e v4 ⟨rfl, hb⟩
    have HI2 := hide (show (fun w' => Blk w' w.heap.size 84 #[.int .i64 n, .int .i64 s] ∧ Below v2.heap.size v2 w') v4 from ⟨HI3.out.1.below hb HI3.out.1.lt, Below.step HI3.out.2 hb⟩)
    clear HD HCAP
    replace HBX := hide (HBX.out.step hb)
    clear hb
    simp only []
    refine hK.out _ _ HI2.out (fun hHeld => ?_)
    clear hK K
    try simp only [Act.put, List.setIfInBounds_toArray, List.set_cons_zero, List.set_cons_succ]
    refine take_at (i := 7) 32 (v := .tuple #[.agg (numArr [] 8), .int .i64 E2]) rfl rfl (by kernel_rfl) (by kernel_rfl) (by kernel_rfl) (fun _ _ _ h => h) (Or.inl ⟨by rfl, by intro w hSw; go_simp⟩) (by assumption) ?_
    try simp only [Act.put, List.setIfInBounds_toArray, List.set_cons_zero, List.set_cons_succ]
    refine take_at (i := 8) 40 (v := .agg (numArr [] 8)) rfl rfl (by kernel_rfl) (by kernel_rfl) (by kernel_rfl) (fun _ _ _ h => h) (Or.inl ⟨by rfl, by intro w hSw; go_simp⟩) (by assumption) ?_
    try simp only [Act.put, List.setIfInBounds_toArray, List.set_cons_zero, List.set_cons_succ]
    refine take_at (i := 9) 41 (v := .int .i64 E2) rfl rfl (by kernel_rfl) (by kernel_rfl) (by kernel_rfl) (fun _ _ _ h => h) (Or.inl ⟨by rfl, by intro w hSw; go_simp⟩) (by assumption) ?_
    try simp only [Act.put, List.setIfInBounds_toArray, List.set_cons_zero, List.set_cons_succ]
    refine wpAnyH_ready (rs := [11]) (by kernel_rfl) (by simp) ?_
    refine AllReadyH.cons rfl (fun K hK => ?_) AllReadyH.nil
    refine step_store_row rfl 96 (.tmp 9) (.tmp 40) rfl v3.heap.size (numArr [] 8) rfl rfl 96 (numArr [] 8) HBX.out.now (by rw [HBZ.out]; kernel_rfl) (by first | (rw [HBZ.out]; rfl) | rw [HBZ.out]) hb2 ?_
    have HI4 := hide (show (fun w' => Blk w' w.heap.size 84 #[.int .i64 n, .int .i64 s] ∧ Below v2.heap.size v2 w') (v4.setRow v3.heap.size (numArr [] 8)) from ⟨HI2.out.1.rowFar (by have := HI0.out.1.lt; have := HI0.out.2.size; have := HLE.out; have e0 : v2.drew.heap.size = v2.heap.size := rfl; omega) _, Below.row HI2.out.2 (by have := HLE.out; have e0 : v2.drew.heap.size = v2.heap.size := rfl; omega) _⟩)
    replace HBX := hide (stay_blk (HBX.out.now.row (numArr [] 8)))
    refine hK.out _ _ HI4.out (fun hHeld => ?_)
    clear hK K
    try simp only [Act.put, List.setIfInBounds_toArray]
    refine take_at (i := 12) 10 (v := .int .i64 E2) rfl rfl (by kernel_rfl) (by kernel_rfl) (by kernel_rfl) (fun _ _ _ h => h) (Or.inl ⟨by rfl, by intro w hSw; go_simp⟩) (by assumption) ?_
    try simp only [Act.put]
    refine wpAnyH_done (by kernel_rfl) ?_ _
    replace HT := hide (HT.out.step HI4.out.2)
    replace HSL := hide (HSL.out.step HI4.out.2)
    obtain ⟨v5, hv5⟩ : ∃ v5, v4.setRow v3.heap.size (numArr [] 8) = v5 := ⟨_, rfl⟩
    rw [hv5] at HT HSL HBX
    rw [show v4.setRow v3.heap.size (numArr [] 8) = v5 from hv5]
    clear hv5
    obtain ⟨g, hg⟩ : ∃ g, v3.heap.size = g := ⟨_, rfl⟩
    rw [hg] at HBX ⊢
    clear hg
    have hv4 := HBX.out.now.lt
    clear HI0 HI1 HI2 HI3 HI4 HLE
    rotate_left
    go_simp
    have HI3 := hide (show (fun w' => Blk w' w.heap.size 84 #[.int .i64 n, .int .i64 s] ∧ Below v2.heap.size v2 w') (v2.drew.alloc (.cells (numArr [] 8) 96)) from ⟨HI0.out.1.alloc _, HI0.out.2.alloc HI0.out.2.size _⟩)
    have HBX := hide (show Stay (v2.drew.alloc (.cells (numArr [] 8) 96)) (fun W => Blk W v2.heap.size 96 (numArr [] 8)) from stay_new v2.drew 96 (numArr [] 8))
    refine hK.out _ _ HI3.out (fun hHeld => ?_)
    clear hK K
    try simp only [Act.put, List.setIfInBounds_toArray, List.set_cons_zero, List.set_cons_succ]
    have HLE := hide HI0.out.2.size
    refine wpAnyH_ready (rs := [1]) (by kernel_rfl) (by simp) ?_
    refine AllReadyH.cons rfl (fun K hK => ?_) AllReadyH.nil
    go_simp
    refine (HCN.out _ ((HT.out.drew.alloc _).now.1.1.2)).mono ?_
    rintro e v3 ⟨D, kd, rfl, ho, hb⟩
    have HD := hide (Sl.of_ownN ho)
    have HCAP := hide (own_cap ho)
    have HI1 := hide (show (fun w' => Blk w' w.heap.size 84 #[.int .i64 n, .int .i64 s] ∧ Below v2.heap.size v2 w') v3 from ⟨HI3.out.1.below hb HI3.out.1.lt, Below.step HI3.out.2 hb⟩)
    clear ho
    replace HBX := hide (HBX.out.step hb)
    clear hb
    simp only []
    refine hK.out _ _ HI1.out (fun hHeld => ?_)
    clear hK K
    try simp only [Act.put, List.setIfInBounds_toArray, List.set_cons_zero, List.set_cons_succ]
    refine wpAnyH_ready (rs := [6]) (by kernel_rfl) (by simp) ?_
    refine AllReadyH.cons rfl (fun K hK => ?_) AllReadyH.nil
    go_simp
    refine (HSY.out _ _ _ HCAP.out (HD.out)).mono ?_
    rintro e v4 ⟨rfl, hb⟩
    have HI2 := hide (show (fun w' => Blk w' w.heap.size 84 #[.int .i64 n, .int .i64 s] ∧ Below v2.heap.size v2 w') v4 from ⟨HI1.out.1.below hb HI1.out.1.lt, Below.step HI1.out.2 hb⟩)
    clear HD HCAP
    replace HBX := hide (HBX.out.step hb)
    clear hb
    simp only []
    refine hK.out _ _ HI2.out (fun hHeld => ?_)
    clear hK K
    try simp only [Act.put, List.setIfInBounds_toArray, List.set_cons_zero, List.set_cons_succ]
    refine take_at (i := 7) 32 (v := .tuple #[.agg (numArr [] 8), .int .i64 E2]) rfl rfl (by kernel_rfl) (by kernel_rfl) (by kernel_rfl) (fun _ _ _ h => h) (Or.inl ⟨by rfl, by intro w hSw; go_simp⟩) (by assumption) ?_
    try simp only [Act.put, List.setIfInBounds_toArray, List.set_cons_zero, List.set_cons_succ]
    refine take_at (i := 8) 40 (v := .agg (numArr [] 8)) rfl rfl (by kernel_rfl) (by kernel_rfl) (by kernel_rfl) (fun _ _ _ h => h) (Or.inl ⟨by rfl, by intro w hSw; go_simp⟩) (by assumption) ?_
    try simp only [Act.put, List.setIfInBounds_toArray, List.set_cons_zero, List.set_cons_succ]
    refine take_at (i := 9) 41 (v := .int .i64 E2) rfl rfl (by kernel_rfl) (by kernel_rfl) (by kernel_rfl) (fun _ _ _ h => h) (Or.inl ⟨by rfl, by intro w hSw; go_simp⟩) (by assumption) ?_
    try simp only [Act.put, List.setIfInBounds_toArray, List.set_cons_zero, List.set_cons_succ]
    refine wpAnyH_ready (rs := [11]) (by kernel_rfl) (by simp) ?_
    refine AllReadyH.cons rfl (fun K hK => ?_) AllReadyH.nil
    refine step_store_row rfl 96 (.tmp 9) (.tmp 40) rfl v2.heap.size (numArr [] 8) rfl rfl 96 (numArr [] 8) HBX.out.now (by rw [HBZ.out]; kernel_rfl) (by first | (rw [HBZ.out]; rfl) | rw [HBZ.out]) hb2 ?_
    have HI4 := hide (show (fun w' => Blk w' w.heap.size 84 #[.int .i64 n, .int .i64 s] ∧ Below v2.heap.size v2 w') (v4.setRow v2.heap.size (numArr [] 8)) from ⟨HI2.out.1.rowFar (by have := HI0.out.1.lt; have := HI0.out.2.size; have := HLE.out; have e0 : v2.drew.heap.size = v2.heap.size := rfl; omega) _, Below.row HI2.out.2 (by have := HLE.out; have e0 : v2.drew.heap.size = v2.heap.size := rfl; omega) _⟩)
    replace HBX := hide (stay_blk (HBX.out.now.row (numArr [] 8)))
    refine hK.out _ _ HI4.out (fun hHeld => ?_)
    clear hK K
    try simp only [Act.put, List.setIfInBounds_toArray]
    refine take_at (i := 12) 10 (v := .int .i64 E2) rfl rfl (by kernel_rfl) (by kernel_rfl) (by kernel_rfl) (fun _ _ _ h => h) (Or.inl ⟨by rfl, by intro w hSw; go_simp⟩) (by assumption) ?_
    try simp only [Act.put]
    refine wpAnyH_done (by kernel_rfl) ?_ _
    replace HT := hide (HT.out.step HI4.out.2)
    replace HSL := hide (HSL.out.step HI4.out.2)
    obtain ⟨v5, hv5⟩ : ∃ v5, v4.setRow v2.heap.size (numArr [] 8) = v5 := ⟨_, rfl⟩
    rw [hv5] at HT HSL HBX
    rw [show v4.setRow v2.heap.size (numArr [] 8) = v5 from hv5]
    clear hv5
    obtain ⟨g, hg⟩ : ∃ g, v2.heap.size = g := ⟨_, rfl⟩
    rw [hg] at HBX ⊢
    clear hg
    have hv4 := HBX.out.now.lt
    clear HI0 HI1 HI2 HI3 HI4 HLE
    all_goals
      obtain ⟨c0, c1⟩ := HT.out.now.1.2.two
      go_wp2_with (first
        | (go_at_call 81; go_must (refine (HSE.out _ _ _ HT.out.now.1.1.1).mono ?_; rintro e w3 ⟨rfl, hb⟩; replace HT := hide (HT.out.step hb); (try replace HSL := hide (HSL.out.step hb)); (try replace HSL2 := hide (HSL2.out.step hb)); replace HBX := hide (HBX.out.step hb); clear c0 c1; obtain ⟨c0, c1⟩ := HT.out.now.1.2.two; clear hb; simp only []))
        | (go_at_call 82; go_must (refine (HRS.out _ _ _ HT.out.now.1.1.1).mono ?_; rintro e w4 ⟨C2, q2, rfl, hc, hb⟩; have HSL2 := hide (stay_sl hc); clear hc; replace HT := hide (HT.out.step hb); (try replace HSL := hide (HSL.out.step hb)); (try replace HSL2 := hide (HSL2.out.step hb)); replace HBX := hide (HBX.out.step hb); clear c0 c1; obtain ⟨c0, c1⟩ := HT.out.now.1.2.two; clear hb; simp only []))
        | (go_at_call 52; go_must (refine (HSAME.out _ _ _ _ _ HSL.out.now HSL2.out.now).mono ?_; rintro e w5 ⟨rfl, q9, rfl⟩; replace HT := hide (HT.out.drewN q9); replace HBX := hide (HBX.out.drewN q9); clear c0 c1; obtain ⟨c0, c1⟩ := HT.out.now.1.2.two; simp only []))
        | (go_at_call 51; go_must (refine (HSM.out _ _ _ HT.out.now.1.1.2).mono ?_; rintro e w6 ⟨rfl, hb⟩; replace HT := hide (HT.out.step hb); (try replace HSL := hide (HSL.out.step hb)); (try replace HSL2 := hide (HSL2.out.step hb)); replace HBX := hide (HBX.out.step hb); clear c0 c1; obtain ⟨c0, c1⟩ := HT.out.now.1.2.two; clear hb; simp only []; have hz6 := (HT.out.now.2).size; have c2 := fun o => ((HT.out.alloc o).now.1.2.two).1; have c3 := fun o => ((HT.out.alloc o).now.1.2.two).2))
        | (go_at_call 83; go_must (refine (HGD.out _).mono ?_; rintro e w7 ⟨rfl, rfl⟩; simp only []))
        | (go_at_call 84; go_must (refine (HSYR.out _ _ _ (HT.out.alloc _).now.1.1.2).mono ?_; rintro e w8 ⟨rfl, hb⟩; have HZ := hide ((Blk.new _ 96 (numArr [] 8)).below hb (by simp)); replace HT := hide ((HT.out.alloc _).step hb); have hv6 := HBX.out.now.lt; replace HBX := hide ((HBX.out.alloc _).step hb); clear hb; simp only []))
        | (refine wpList_store_row rfl 96 (.tmp 13) (.tmp 77) rfl w6.heap.size (numArr [] 8) rfl rfl 96 (numArr [] 8) HZ.out (by rw [HBZ.out]; kernel_rfl) (by first | (rw [HBZ.out]; rfl) | rw [HBZ.out]) hb2 ?_; have HZ2 := hide (HZ.out.row (numArr [] 8)); have HBY := hide (HBX.out.now.rowFar (show g ≠ w6.heap.size by omega) (numArr [] 8)))
        | (refine wpList_load_rowG 96 (.tmp 9) rfl (by rfl) (g) rfl 96 (numArr [] 8) _ (HBY.out) Try.underlying96 rfl (by rw [HBZ.out]; kernel_rfl) ?_)
        | (refine wpList_load_rowG 96 (.tmp 13) rfl (by rfl) (w6.heap.size) rfl 96 (numArr [] 8) _ (HZ2.out) Try.underlying96 rfl (by rw [HBZ.out]; kernel_rfl) ?_)
        | (refine wpList_load_rowG 96 (.tmp 9) rfl (by rfl) (g) rfl 96 (numArr [] 8) _ (HBX.out.now.alloc _) Try.underlying96 rfl (by rw [HBZ.out]; kernel_rfl) ?_)
        | (refine wpList_load_rowG 96 (.tmp 13) rfl (by rfl) (w6.heap.size) rfl 96 (numArr [] 8) _ (Blk.new _ _ _) Try.underlying96 rfl (by rw [HBZ.out]; kernel_rfl) ?_))
      go_ret
      exact ⟨rfl, HT.out.now.2.alloc (HT.out.now.2).size _⟩
  · go_enter Try.func13, Try.ntmps13
    go_wp2_with (go_at_call 20; go_must (refine (awake_ok _).mono ?_; rintro e w1 ⟨rfl, hb⟩; have HT := hide (HT0.out.step hb); clear hb; simp only []))
    have HH0 := hide (show (fun w' => Blk w' w.heap.size 84 #[.int .i64 n, .int .i64 s] ∧ Below w1.heap.size w1 w') w1.drew from ⟨HT.out.now.1.2, below_drewN (Below.refl _ _) 1⟩)
    refine wp_region_held_drew (S := fun w' => Blk w' w.heap.size 84 #[.int .i64 n, .int .i64 s] ∧ Below w1.heap.size w1 w') (by kernel_rfl) HH0.out (fun hHeld => ?_)
    refine take_at (i := 0) 25 (v := .slice A l.length c) rfl rfl (by kernel_rfl) (by kernel_rfl) (by kernel_rfl) (fun _ _ _ h => h) (Or.inl ⟨by rfl, by intro w hSw; go_simp⟩) (by assumption) ?_
    try simp only [Act.put, List.setIfInBounds_toArray, List.set_cons_zero, List.set_cons_succ]
    refine take_at (i := 2) 27 (v := .pointer (some ⟨w.heap.size, 0, none⟩)) rfl rfl (by kernel_rfl) (by kernel_rfl) (by kernel_rfl) (fun _ _ _ h => h) (Or.inl ⟨by rfl, by intro w hSw; go_simp⟩) (by assumption) ?_
    try simp only [Act.put, List.setIfInBounds_toArray, List.set_cons_zero, List.set_cons_succ]
    refine take_at (i := 3) 28 (v := .int .i64 n) rfl rfl (by kernel_rfl) (by kernel_rfl) (by kernel_rfl) (fun _ _ _ h => h) (Or.inl ⟨by rfl, by intro w hSw; obtain ⟨q0, q1⟩ := hSw.1.two; go_simp⟩) (by assumption) ?_
    try simp only [Act.put, List.setIfInBounds_toArray, List.set_cons_zero, List.set_cons_succ]
    refine wpAnyH_ready (rs := [1]) (by kernel_rfl) (by simp) ?_
    refine AllReadyH.cons rfl (fun K hK => ?_) AllReadyH.nil
    go_simp
    refine (HCS.out _ (HT.out.drew.now.1.1.1)).mono ?_
    rintro e v1 ⟨D, kd, rfl, ho, hb⟩
    have HD := hide (Sl.of_ownN ho)
    have HH1 := hide (show (fun w' => Blk w' w.heap.size 84 #[.int .i64 n, .int .i64 s] ∧ Below w1.heap.size w1 w') v1 from ⟨HH0.out.1.below hb HH0.out.1.lt, Below.step HH0.out.2 hb⟩)
    clear ho
    clear hb
    simp only []
    refine hK.out _ _ HH1.out (fun hHeld => ?_)
    clear hK K
    try simp only [Act.put, List.setIfInBounds_toArray, List.set_cons_zero, List.set_cons_succ]
    refine wpAnyH_ready (rs := [4]) (by kernel_rfl) (by simp) ?_
    refine AllReadyH.cons rfl (fun K hK => ?_) AllReadyH.nil
    go_simp
    refine (HSTR.out _ _ _ HD.out).mono ?_
    rintro e v2 ⟨C, q, rfl, hc, hb⟩
    have HH2 := hide (show (fun w' => Blk w' w.heap.size 84 #[.int .i64 n, .int .i64 s] ∧ Below w1.heap.size w1 w') v2 from ⟨HH1.out.1.below hb HH1.out.1.lt, Below.step HH1.out.2 hb⟩)
    have HSL := hide (stay_sl hc)
    clear hc HD
    clear hb
    simp only []
    refine hK.out _ _ HH2.out (fun hHeld => ?_)
    clear hK K
    try simp only [Act.put, List.setIfInBounds_toArray, List.set_cons_zero, List.set_cons_succ]
    refine take_at (i := 5) 24 (v := .tuple #[.slice C N q, .int .i64 0]) rfl rfl (by kernel_rfl) (by kernel_rfl) (by kernel_rfl) (fun _ _ _ h => h) (Or.inl ⟨by rfl, by intro w hSw; go_simp⟩) (by assumption) ?_
    try simp only [Act.put, List.setIfInBounds_toArray, List.set_cons_zero, List.set_cons_succ]
    refine take_at (i := 6) 30 (v := .slice C N q) rfl rfl (by kernel_rfl) (by kernel_rfl) (by kernel_rfl) (fun _ _ _ h => h) (Or.inl ⟨by rfl, by intro w hSw; go_simp⟩) (by assumption) ?_
    try simp only [Act.put, List.setIfInBounds_toArray, List.set_cons_zero, List.set_cons_succ]
    refine take_at (i := 7) 31 (v := .int .i64 0) rfl rfl (by kernel_rfl) (by kernel_rfl) (by kernel_rfl) (fun _ _ _ h => h) (Or.inl ⟨by rfl, by intro w hSw; go_simp⟩) (by assumption) ?_
    try simp only [Act.put, List.setIfInBounds_toArray, List.set_cons_zero, List.set_cons_succ]
    refine take_at (i := 8) 7 (v := .slice C N q) rfl rfl (by kernel_rfl) (by kernel_rfl) (by kernel_rfl) (fun _ _ _ h => h) (Or.inl ⟨by rfl, by intro w hSw; go_simp⟩) (by assumption) ?_
    try simp only [Act.put, List.setIfInBounds_toArray, List.set_cons_zero, List.set_cons_succ]
    refine take_at (i := 9) 8 (v := .int .i64 0) rfl rfl (by kernel_rfl) (by kernel_rfl) (by kernel_rfl) (fun _ _ _ h => h) (Or.inl ⟨by rfl, by intro w hSw; go_simp⟩) (by assumption) ?_
    try simp only [Act.put, List.setIfInBounds_toArray, List.set_cons_zero, List.set_cons_succ]
    refine wpAnyH_done (by kernel_rfl) ?_ _
    replace HT := hide (HT.out.step HH2.out.2)
    go_wp2
    have HI0 := hide (show (fun w' => Blk w' w.heap.size 84 #[.int .i64 n, .int .i64 s] ∧ Below v2.heap.size v2 w') v2.drew from ⟨HT.out.now.1.2, below_drewN (Below.refl _ _) 1⟩)
    refine wp_region_held_drew (S := fun w' => Blk w' w.heap.size 84 #[.int .i64 n, .int .i64 s] ∧ Below v2.heap.size v2 w') (by kernel_rfl) HI0.out (fun hHeld => ?_)
    refine take_at (i := 0) 33 (v := .slice B x.length d) rfl rfl (by kernel_rfl) (by kernel_rfl) (by kernel_rfl) (fun _ _ _ h => h) (Or.inl ⟨by rfl, by intro w hSw; go_simp⟩) (by assumption) ?_
    try simp only [Act.put, List.setIfInBounds_toArray, List.set_cons_zero, List.set_cons_succ]
    refine take_at (i := 2) 35 (v := .pointer (some ⟨w.heap.size, 0, none⟩)) rfl rfl (by kernel_rfl) (by kernel_rfl) (by kernel_rfl) (fun _ _ _ h => h) (Or.inl ⟨by rfl, by intro w hSw; go_simp⟩) (by assumption) ?_
    try simp only [Act.put, List.setIfInBounds_toArray, List.set_cons_zero, List.set_cons_succ]
    refine take_at (i := 3) 36 (v := .int .i64 n) rfl rfl (by kernel_rfl) (by kernel_rfl) (by kernel_rfl) (fun _ _ _ h => h) (Or.inl ⟨by rfl, by intro w hSw; obtain ⟨q0, q1⟩ := hSw.1.two; go_simp⟩) (by assumption) ?_
    try simp only [Act.put, List.setIfInBounds_toArray, List.set_cons_zero, List.set_cons_succ]
    refine take_at (i := 4) 37 (v := .pointer (some ⟨w.heap.size, 1, none⟩)) rfl rfl (by kernel_rfl) (by kernel_rfl) (by kernel_rfl) (fun _ _ _ h => h) (Or.inl ⟨by rfl, by intro w hSw; go_simp⟩) (by assumption) ?_
    try simp only [Act.put, List.setIfInBounds_toArray, List.set_cons_zero, List.set_cons_succ]
    refine take_at (i := 5) 38 (v := .int .i64 s) rfl rfl (by kernel_rfl) (by kernel_rfl) (by kernel_rfl) (fun _ _ _ h => h) (Or.inl ⟨by rfl, by intro w hSw; obtain ⟨q0, q1⟩ := hSw.1.two; go_simp⟩) (by assumption) ?_
    try simp only [Act.put, List.setIfInBounds_toArray, List.set_cons_zero, List.set_cons_succ]
    refine wpAnyH_ready (rs := [1, 10]) (by kernel_rfl) (by simp) ?_
    refine AllReadyH.cons rfl (fun K hK => ?_) (AllReadyH.cons rfl (fun K hK => ?_) AllReadyH.nil)
    go_simp
    refine (HCN.out _ (HT.out.drew.now.1.1.2)).mono ?_
    rintro e v3 ⟨D, kd, rfl, ho, hb⟩
    have HD := hide (Sl.of_ownN ho)
    have HCAP := hide (own_cap ho)
    have HI1 := hide (show (fun w' => Blk w' w.heap.size 84 #[.int .i64 n, .int .i64 s] ∧ Below v2.heap.size v2 w') v3 from ⟨HI0.out.1.below hb HI0.out.1.lt, Below.step HI0.out.2 hb⟩)
    clear ho
    clear hb
    simp only []
    refine hK.out _ _ HI1.out (fun hHeld => ?_)
    clear hK K
    try simp only [Act.put, List.setIfInBounds_toArray, List.set_cons_zero, List.set_cons_succ]
    refine wpAnyH_ready (rs := [6, 10]) (by kernel_rfl) (by simp) ?_
    refine AllReadyH.cons rfl (fun K hK => ?_) (AllReadyH.cons rfl (fun K hK => ?_) AllReadyH.nil)
    go_simp
    refine (HSY.out _ _ _ HCAP.out (HD.out)).mono ?_
    rintro e v4 ⟨rfl, hb⟩
    have HI2 := hide (show (fun w' => Blk w' w.heap.size 84 #[.int .i64 n, .int .i64 s] ∧ Below v2.heap.size v2 w') v4 from ⟨HI1.out.1.below hb HI1.out.1.lt, Below.step HI1.out.2 hb⟩)
    clear HD HCAP
    clear hb
    simp only []
    refine hK.out _ _ HI2.out (fun hHeld => ?_)
    clear hK K
    try simp only [Act.put, List.setIfInBounds_toArray, List.set_cons_zero, List.set_cons_succ]
    refine take_at (i := 7) 32 (v := .tuple #[.agg (numArr [] 8), .int .i64 E2]) rfl rfl (by kernel_rfl) (by kernel_rfl) (by kernel_rfl) (fun _ _ _ h => h) (Or.inl ⟨by rfl, by intro w hSw; go_simp⟩) (by assumption) ?_
    try simp only [Act.put, List.setIfInBounds_toArray, List.set_cons_zero, List.set_cons_succ]
    refine take_at (i := 8) 40 (v := .agg (numArr [] 8)) rfl rfl (by kernel_rfl) (by kernel_rfl) (by kernel_rfl) (fun _ _ _ h => h) (Or.inl ⟨by rfl, by intro w hSw; go_simp⟩) (by assumption) ?_
    try simp only [Act.put, List.setIfInBounds_toArray, List.set_cons_zero, List.set_cons_succ]
    refine take_at (i := 9) 41 (v := .int .i64 E2) rfl rfl (by kernel_rfl) (by kernel_rfl) (by kernel_rfl) (fun _ _ _ h => h) (Or.inl ⟨by rfl, by intro w hSw; go_simp⟩) (by assumption) ?_
    try simp only [Act.put, List.setIfInBounds_toArray, List.set_cons_zero, List.set_cons_succ]
    refine wpAnyH_ready (rs := [10]) (by kernel_rfl) (by simp) ?_
    refine AllReadyH.cons rfl (fun K hK => ?_) AllReadyH.nil
    go_simp
    have HI3 := hide (show (fun w' => Blk w' w.heap.size 84 #[.int .i64 n, .int .i64 s] ∧ Below v2.heap.size v2 w') (v4.alloc (.cells (numArr [] 8) 96)) from ⟨HI2.out.1.alloc _, HI2.out.2.alloc HI2.out.2.size _⟩)
    have HBX := hide (show Stay (v4.alloc (.cells (numArr [] 8) 96)) (fun W => Blk W v4.heap.size 96 (numArr [] 8)) from stay_new v4 96 (numArr [] 8))
    refine hK.out _ _ HI3.out (fun hHeld => ?_)
    clear hK K
    try simp only [Act.put, List.setIfInBounds_toArray, List.set_cons_zero, List.set_cons_succ]
    have HLE := hide HI2.out.2.size
    refine wpAnyH_ready (rs := [11]) (by kernel_rfl) (by simp) ?_
    refine AllReadyH.cons rfl (fun K hK => ?_) AllReadyH.nil
    refine step_store_row rfl 96 (.tmp 9) (.tmp 40) rfl v4.heap.size (numArr [] 8) rfl rfl 96 (numArr [] 8) HBX.out.now (by rw [HBZ.out]; kernel_rfl) (by first | (rw [HBZ.out]; rfl) | rw [HBZ.out]) hb2 ?_
    have HI4 := hide (show (fun w' => Blk w' w.heap.size 84 #[.int .i64 n, .int .i64 s] ∧ Below v2.heap.size v2 w') ((v4.alloc (.cells (numArr [] 8) 96)).setRow v4.heap.size (numArr [] 8)) from ⟨HI3.out.1.rowFar (by have := HI0.out.1.lt; have := HI0.out.2.size; have := HLE.out; have e0 : v2.drew.heap.size = v2.heap.size := rfl; omega) _, Below.row HI3.out.2 (by have := HLE.out; have e0 : v2.drew.heap.size = v2.heap.size := rfl; omega) _⟩)
    replace HBX := hide (stay_blk (HBX.out.now.row (numArr [] 8)))
    refine hK.out _ _ HI4.out (fun hHeld => ?_)
    clear hK K
    try simp only [Act.put, List.setIfInBounds_toArray]
    refine take_at (i := 12) 10 (v := .int .i64 E2) rfl rfl (by kernel_rfl) (by kernel_rfl) (by kernel_rfl) (fun _ _ _ h => h) (Or.inl ⟨by rfl, by intro w hSw; go_simp⟩) (by assumption) ?_
    try simp only [Act.put]
    refine wpAnyH_done (by kernel_rfl) ?_ _
    replace HT := hide (HT.out.step HI4.out.2)
    replace HSL := hide (HSL.out.step HI4.out.2)
    obtain ⟨v5, hv5⟩ : ∃ v5, (v4.alloc (.cells (numArr [] 8) 96)).setRow v4.heap.size (numArr [] 8) = v5 := ⟨_, rfl⟩
    rw [hv5] at HT HSL HBX
    rw [show (v4.alloc (.cells #[.int .i64 0, .int .i64 0, .int .i64 0, .int .i64 0, .int .i64 0, .int .i64 0, .int .i64 0, .int .i64 0, .int .i64 0, .int .i64 0, .int .i64 0, .int .i64 0, .int .i64 0, .int .i64 0, .int .i64 0, .int .i64 0, .int .i64 0, .int .i64 0, .int .i64 0, .int .i64 0, .int .i64 0, .int .i64 0, .int .i64 0, .int .i64 0, .int .i64 0, .int .i64 0, .int .i64 0, .int .i64 0, .int .i64 0, .int .i64 0, .int .i64 0, .int .i64 0] 96)).setRow v4.heap.size (numArr [] 8) = v5 from hv5]
    clear hv5
    obtain ⟨g, hg⟩ : ∃ g, v4.heap.size = g := ⟨_, rfl⟩
    rw [hg] at HBX ⊢
    clear hg
    have hv4 := HBX.out.now.lt
    clear HI0 HI1 HI2 HI3 HI4 HLE
    rotate_left
    go_simp
    have HI3 := hide (show (fun w' => Blk w' w.heap.size 84 #[.int .i64 n, .int .i64 s] ∧ Below v2.heap.size v2 w') (v3.alloc (.cells (numArr [] 8) 96)) from ⟨HI1.out.1.alloc _, HI1.out.2.alloc HI1.out.2.size _⟩)
    have HBX := hide (show Stay (v3.alloc (.cells (numArr [] 8) 96)) (fun W => Blk W v3.heap.size 96 (numArr [] 8)) from stay_new v3 96 (numArr [] 8))
    refine hK.out _ _ HI3.out (fun hHeld => ?_)
    clear hK K
    try simp only [Act.put, List.setIfInBounds_toArray, List.set_cons_zero, List.set_cons_succ]
    have HLE := hide HI1.out.2.size
    refine wpAnyH_ready (rs := [6]) (by kernel_rfl) (by simp) ?_
    refine AllReadyH.cons rfl (fun K hK => ?_) AllReadyH.nil
    go_simp
    refine (HSY.out _ _ _ HCAP.out (HD.out.alloc _)).mono ?_
    rintro e v4 ⟨rfl, hb⟩
    have HI2 := hide (show (fun w' => Blk w' w.heap.size 84 #[.int .i64 n, .int .i64 s] ∧ Below v2.heap.size v2 w') v4 from ⟨HI3.out.1.below hb HI3.out.1.lt, Below.step HI3.out.2 hb⟩)
    clear HD HCAP
    replace HBX := hide (HBX.out.step hb)
    clear hb
    simp only []
    refine hK.out _ _ HI2.out (fun hHeld => ?_)
    clear hK K
    try simp only [Act.put, List.setIfInBounds_toArray, List.set_cons_zero, List.set_cons_succ]
    refine take_at (i := 7) 32 (v := .tuple #[.agg (numArr [] 8), .int .i64 E2]) rfl rfl (by kernel_rfl) (by kernel_rfl) (by kernel_rfl) (fun _ _ _ h => h) (Or.inl ⟨by rfl, by intro w hSw; go_simp⟩) (by assumption) ?_
    try simp only [Act.put, List.setIfInBounds_toArray, List.set_cons_zero, List.set_cons_succ]
    refine take_at (i := 8) 40 (v := .agg (numArr [] 8)) rfl rfl (by kernel_rfl) (by kernel_rfl) (by kernel_rfl) (fun _ _ _ h => h) (Or.inl ⟨by rfl, by intro w hSw; go_simp⟩) (by assumption) ?_
    try simp only [Act.put, List.setIfInBounds_toArray, List.set_cons_zero, List.set_cons_succ]
    refine take_at (i := 9) 41 (v := .int .i64 E2) rfl rfl (by kernel_rfl) (by kernel_rfl) (by kernel_rfl) (fun _ _ _ h => h) (Or.inl ⟨by rfl, by intro w hSw; go_simp⟩) (by assumption) ?_
    try simp only [Act.put, List.setIfInBounds_toArray, List.set_cons_zero, List.set_cons_succ]
    refine wpAnyH_ready (rs := [11]) (by kernel_rfl) (by simp) ?_
    refine AllReadyH.cons rfl (fun K hK => ?_) AllReadyH.nil
    refine step_store_row rfl 96 (.tmp 9) (.tmp 40) rfl v3.heap.size (numArr [] 8) rfl rfl 96 (numArr [] 8) HBX.out.now (by rw [HBZ.out]; kernel_rfl) (by first | (rw [HBZ.out]; rfl) | rw [HBZ.out]) hb2 ?_
    have HI4 := hide (show (fun w' => Blk w' w.heap.size 84 #[.int .i64 n, .int .i64 s] ∧ Below v2.heap.size v2 w') (v4.setRow v3.heap.size (numArr [] 8)) from ⟨HI2.out.1.rowFar (by have := HI0.out.1.lt; have := HI0.out.2.size; have := HLE.out; have e0 : v2.drew.heap.size = v2.heap.size := rfl; omega) _, Below.row HI2.out.2 (by have := HLE.out; have e0 : v2.drew.heap.size = v2.heap.size := rfl; omega) _⟩)
    replace HBX := hide (stay_blk (HBX.out.now.row (numArr [] 8)))
    refine hK.out _ _ HI4.out (fun hHeld => ?_)
    clear hK K
    try simp only [Act.put, List.setIfInBounds_toArray]
    refine take_at (i := 12) 10 (v := .int .i64 E2) rfl rfl (by kernel_rfl) (by kernel_rfl) (by kernel_rfl) (fun _ _ _ h => h) (Or.inl ⟨by rfl, by intro w hSw; go_simp⟩) (by assumption) ?_
    try simp only [Act.put]
    refine wpAnyH_done (by kernel_rfl) ?_ _
    replace HT := hide (HT.out.step HI4.out.2)
    replace HSL := hide (HSL.out.step HI4.out.2)
    obtain ⟨v5, hv5⟩ : ∃ v5, v4.setRow v3.heap.size (numArr [] 8) = v5 := ⟨_, rfl⟩
    rw [hv5] at HT HSL HBX
    rw [show v4.setRow v3.heap.size (numArr [] 8) = v5 from hv5]
    clear hv5
    obtain ⟨g, hg⟩ : ∃ g, v3.heap.size = g := ⟨_, rfl⟩
    rw [hg] at HBX ⊢
    clear hg
    have hv4 := HBX.out.now.lt
    clear HI0 HI1 HI2 HI3 HI4 HLE
    rotate_left
    go_simp
    have HI3 := hide (show (fun w' => Blk w' w.heap.size 84 #[.int .i64 n, .int .i64 s] ∧ Below v2.heap.size v2 w') (v2.drew.alloc (.cells (numArr [] 8) 96)) from ⟨HI0.out.1.alloc _, HI0.out.2.alloc HI0.out.2.size _⟩)
    have HBX := hide (show Stay (v2.drew.alloc (.cells (numArr [] 8) 96)) (fun W => Blk W v2.heap.size 96 (numArr [] 8)) from stay_new v2.drew 96 (numArr [] 8))
    refine hK.out _ _ HI3.out (fun hHeld => ?_)
    clear hK K
    try simp only [Act.put, List.setIfInBounds_toArray, List.set_cons_zero, List.set_cons_succ]
    have HLE := hide HI0.out.2.size
    refine wpAnyH_ready (rs := [1]) (by kernel_rfl) (by simp) ?_
    refine AllReadyH.cons rfl (fun K hK => ?_) AllReadyH.nil
    go_simp
    refine (HCN.out _ ((HT.out.drew.alloc _).now.1.1.2)).mono ?_
    rintro e v3 ⟨D, kd, rfl, ho, hb⟩
    have HD := hide (Sl.of_ownN ho)
    have HCAP := hide (own_cap ho)
    have HI1 := hide (show (fun w' => Blk w' w.heap.size 84 #[.int .i64 n, .int .i64 s] ∧ Below v2.heap.size v2 w') v3 from ⟨HI3.out.1.below hb HI3.out.1.lt, Below.step HI3.out.2 hb⟩)
    clear ho
    replace HBX := hide (HBX.out.step hb)
    clear hb
    simp only []
    refine hK.out _ _ HI1.out (fun hHeld => ?_)
    clear hK K
    try simp only [Act.put, List.setIfInBounds_toArray, List.set_cons_zero, List.set_cons_succ]
    refine wpAnyH_ready (rs := [6]) (by kernel_rfl) (by simp) ?_
    refine AllReadyH.cons rfl (fun K hK => ?_) AllReadyH.nil
    go_simp
    refine (HSY.out _ _ _ HCAP.out (HD.out)).mono ?_
    rintro e v4 ⟨rfl, hb⟩
    have HI2 := hide (show (fun w' => Blk w' w.heap.size 84 #[.int .i64 n, .int .i64 s] ∧ Below v2.heap.size v2 w') v4 from ⟨HI1.out.1.below hb HI1.out.1.lt, Below.step HI1.out.2 hb⟩)
    clear HD HCAP
    replace HBX := hide (HBX.out.step hb)
    clear hb
    simp only []
    refine hK.out _ _ HI2.out (fun hHeld => ?_)
    clear hK K
    try simp only [Act.put, List.setIfInBounds_toArray, List.set_cons_zero, List.set_cons_succ]
    refine take_at (i := 7) 32 (v := .tuple #[.agg (numArr [] 8), .int .i64 E2]) rfl rfl (by kernel_rfl) (by kernel_rfl) (by kernel_rfl) (fun _ _ _ h => h) (Or.inl ⟨by rfl, by intro w hSw; go_simp⟩) (by assumption) ?_
    try simp only [Act.put, List.setIfInBounds_toArray, List.set_cons_zero, List.set_cons_succ]
    refine take_at (i := 8) 40 (v := .agg (numArr [] 8)) rfl rfl (by kernel_rfl) (by kernel_rfl) (by kernel_rfl) (fun _ _ _ h => h) (Or.inl ⟨by rfl, by intro w hSw; go_simp⟩) (by assumption) ?_
    try simp only [Act.put, List.setIfInBounds_toArray, List.set_cons_zero, List.set_cons_succ]
    refine take_at (i := 9) 41 (v := .int .i64 E2) rfl rfl (by kernel_rfl) (by kernel_rfl) (by kernel_rfl) (fun _ _ _ h => h) (Or.inl ⟨by rfl, by intro w hSw; go_simp⟩) (by assumption) ?_
    try simp only [Act.put, List.setIfInBounds_toArray, List.set_cons_zero, List.set_cons_succ]
    refine wpAnyH_ready (rs := [11]) (by kernel_rfl) (by simp) ?_
    refine AllReadyH.cons rfl (fun K hK => ?_) AllReadyH.nil
    refine step_store_row rfl 96 (.tmp 9) (.tmp 40) rfl v2.heap.size (numArr [] 8) rfl rfl 96 (numArr [] 8) HBX.out.now (by rw [HBZ.out]; kernel_rfl) (by first | (rw [HBZ.out]; rfl) | rw [HBZ.out]) hb2 ?_
    have HI4 := hide (show (fun w' => Blk w' w.heap.size 84 #[.int .i64 n, .int .i64 s] ∧ Below v2.heap.size v2 w') (v4.setRow v2.heap.size (numArr [] 8)) from ⟨HI2.out.1.rowFar (by have := HI0.out.1.lt; have := HI0.out.2.size; have := HLE.out; have e0 : v2.drew.heap.size = v2.heap.size := rfl; omega) _, Below.row HI2.out.2 (by have := HLE.out; have e0 : v2.drew.heap.size = v2.heap.size := rfl; omega) _⟩)
    replace HBX := hide (stay_blk (HBX.out.now.row (numArr [] 8)))
    refine hK.out _ _ HI4.out (fun hHeld => ?_)
    clear hK K
    try simp only [Act.put, List.setIfInBounds_toArray]
    refine take_at (i := 12) 10 (v := .int .i64 E2) rfl rfl (by kernel_rfl) (by kernel_rfl) (by kernel_rfl) (fun _ _ _ h => h) (Or.inl ⟨by rfl, by intro w hSw; go_simp⟩) (by assumption) ?_
    try simp only [Act.put]
    refine wpAnyH_done (by kernel_rfl) ?_ _
    replace HT := hide (HT.out.step HI4.out.2)
    replace HSL := hide (HSL.out.step HI4.out.2)
    obtain ⟨v5, hv5⟩ : ∃ v5, v4.setRow v2.heap.size (numArr [] 8) = v5 := ⟨_, rfl⟩
    rw [hv5] at HT HSL HBX
    rw [show v4.setRow v2.heap.size (numArr [] 8) = v5 from hv5]
    clear hv5
    obtain ⟨g, hg⟩ : ∃ g, v2.heap.size = g := ⟨_, rfl⟩
    rw [hg] at HBX ⊢
    clear hg
    have hv4 := HBX.out.now.lt
    clear HI0 HI1 HI2 HI3 HI4 HLE
    all_goals
      obtain ⟨c0, c1⟩ := HT.out.now.1.2.two
      go_wp2_with (first
        | (go_at_call 81; go_must (refine (HSE.out _ _ _ HT.out.now.1.1.1).mono ?_; rintro e w3 ⟨rfl, hb⟩; replace HT := hide (HT.out.step hb); (try replace HSL := hide (HSL.out.step hb)); (try replace HSL2 := hide (HSL2.out.step hb)); replace HBX := hide (HBX.out.step hb); clear c0 c1; obtain ⟨c0, c1⟩ := HT.out.now.1.2.two; clear hb; simp only []))
        | (go_at_call 82; go_must (refine (HRS.out _ _ _ HT.out.now.1.1.1).mono ?_; rintro e w4 ⟨C2, q2, rfl, hc, hb⟩; have HSL2 := hide (stay_sl hc); clear hc; replace HT := hide (HT.out.step hb); (try replace HSL := hide (HSL.out.step hb)); (try replace HSL2 := hide (HSL2.out.step hb)); replace HBX := hide (HBX.out.step hb); clear c0 c1; obtain ⟨c0, c1⟩ := HT.out.now.1.2.two; clear hb; simp only []))
        | (go_at_call 52; go_must (refine (HSAME.out _ _ _ _ _ HSL.out.now HSL2.out.now).mono ?_; rintro e w5 ⟨rfl, q9, rfl⟩; replace HT := hide (HT.out.drewN q9); replace HBX := hide (HBX.out.drewN q9); clear c0 c1; obtain ⟨c0, c1⟩ := HT.out.now.1.2.two; simp only []))
        | (go_at_call 51; go_must (refine (HSM.out _ _ _ HT.out.now.1.1.2).mono ?_; rintro e w6 ⟨rfl, hb⟩; replace HT := hide (HT.out.step hb); (try replace HSL := hide (HSL.out.step hb)); (try replace HSL2 := hide (HSL2.out.step hb)); replace HBX := hide (HBX.out.step hb); clear c0 c1; obtain ⟨c0, c1⟩ := HT.out.now.1.2.two; clear hb; simp only []; have hz6 := (HT.out.now.2).size; have c2 := fun o => ((HT.out.alloc o).now.1.2.two).1; have c3 := fun o => ((HT.out.alloc o).now.1.2.two).2))
        | (go_at_call 83; go_must (refine (HGD.out _).mono ?_; rintro e w7 ⟨rfl, rfl⟩; simp only []))
        | (go_at_call 84; go_must (refine (HSYR.out _ _ _ (HT.out.alloc _).now.1.1.2).mono ?_; rintro e w8 ⟨rfl, hb⟩; have HZ := hide ((Blk.new _ 96 (numArr [] 8)).below hb (by simp)); replace HT := hide ((HT.out.alloc _).step hb); have hv6 := HBX.out.now.lt; replace HBX := hide ((HBX.out.alloc _).step hb); clear hb; simp only []))
        | (refine wpList_store_row rfl 96 (.tmp 13) (.tmp 77) rfl w6.heap.size (numArr [] 8) rfl rfl 96 (numArr [] 8) HZ.out (by rw [HBZ.out]; kernel_rfl) (by first | (rw [HBZ.out]; rfl) | rw [HBZ.out]) hb2 ?_; have HZ2 := hide (HZ.out.row (numArr [] 8)); have HBY := hide (HBX.out.now.rowFar (show g ≠ w6.heap.size by omega) (numArr [] 8)))
        | (refine wpList_load_rowG 96 (.tmp 9) rfl (by rfl) (g) rfl 96 (numArr [] 8) _ (HBY.out) Try.underlying96 rfl (by rw [HBZ.out]; kernel_rfl) ?_)
        | (refine wpList_load_rowG 96 (.tmp 13) rfl (by rfl) (w6.heap.size) rfl 96 (numArr [] 8) _ (HZ2.out) Try.underlying96 rfl (by rw [HBZ.out]; kernel_rfl) ?_)
        | (refine wpList_load_rowG 96 (.tmp 9) rfl (by rfl) (g) rfl 96 (numArr [] 8) _ (HBX.out.now.alloc _) Try.underlying96 rfl (by rw [HBZ.out]; kernel_rfl) ?_)
        | (refine wpList_load_rowG 96 (.tmp 13) rfl (by rfl) (w6.heap.size) rfl 96 (numArr [] 8) _ (Blk.new _ _ _) Try.underlying96 rfl (by rw [HBZ.out]; kernel_rfl) ?_))
      go_ret
      exact ⟨rfl, HT.out.now.2.alloc (HT.out.now.2).size _⟩
  · go_enter Try.func13, Try.ntmps13
    go_wp2_with (go_at_call 20; go_must (refine (awake_ok _).mono ?_; rintro e w1 ⟨rfl, hb⟩; have HT := hide (HT0.out.step hb); clear hb; simp only []))
    have HH0 := hide (show (fun w' => Blk w' w.heap.size 84 #[.int .i64 n, .int .i64 s] ∧ Below w1.heap.size w1 w') w1.drew from ⟨HT.out.now.1.2, below_drewN (Below.refl _ _) 1⟩)
    refine wp_region_held_drew (S := fun w' => Blk w' w.heap.size 84 #[.int .i64 n, .int .i64 s] ∧ Below w1.heap.size w1 w') (by kernel_rfl) HH0.out (fun hHeld => ?_)
    refine take_at (i := 0) 25 (v := .slice A l.length c) rfl rfl (by kernel_rfl) (by kernel_rfl) (by kernel_rfl) (fun _ _ _ h => h) (Or.inl ⟨by rfl, by intro w hSw; go_simp⟩) (by assumption) ?_
    try simp only [Act.put, List.setIfInBounds_toArray, List.set_cons_zero, List.set_cons_succ]
    refine take_at (i := 2) 27 (v := .pointer (some ⟨w.heap.size, 0, none⟩)) rfl rfl (by kernel_rfl) (by kernel_rfl) (by kernel_rfl) (fun _ _ _ h => h) (Or.inl ⟨by rfl, by intro w hSw; go_simp⟩) (by assumption) ?_
    try simp only [Act.put, List.setIfInBounds_toArray, List.set_cons_zero, List.set_cons_succ]
    refine take_at (i := 3) 28 (v := .int .i64 n) rfl rfl (by kernel_rfl) (by kernel_rfl) (by kernel_rfl) (fun _ _ _ h => h) (Or.inl ⟨by rfl, by intro w hSw; obtain ⟨q0, q1⟩ := hSw.1.two; go_simp⟩) (by assumption) ?_
    try simp only [Act.put, List.setIfInBounds_toArray, List.set_cons_zero, List.set_cons_succ]
    refine wpAnyH_ready (rs := [1]) (by kernel_rfl) (by simp) ?_
    refine AllReadyH.cons rfl (fun K hK => ?_) AllReadyH.nil
    go_simp
    refine (HCS.out _ (HT.out.drew.now.1.1.1)).mono ?_
    rintro e v1 ⟨D, kd, rfl, ho, hb⟩
    have HD := hide (Sl.of_ownN ho)
    have HH1 := hide (show (fun w' => Blk w' w.heap.size 84 #[.int .i64 n, .int .i64 s] ∧ Below w1.heap.size w1 w') v1 from ⟨HH0.out.1.below hb HH0.out.1.lt, Below.step HH0.out.2 hb⟩)
    clear ho
    clear hb
    simp only []
    refine hK.out _ _ HH1.out (fun hHeld => ?_)
    clear hK K
    try simp only [Act.put, List.setIfInBounds_toArray, List.set_cons_zero, List.set_cons_succ]
    refine wpAnyH_ready (rs := [4]) (by kernel_rfl) (by simp) ?_
    refine AllReadyH.cons rfl (fun K hK => ?_) AllReadyH.nil
    go_simp
    refine (HSTR.out _ _ _ HD.out).mono ?_
    rintro e v2 ⟨C, q, rfl, hc, hb⟩
    have HH2 := hide (show (fun w' => Blk w' w.heap.size 84 #[.int .i64 n, .int .i64 s] ∧ Below w1.heap.size w1 w') v2 from ⟨HH1.out.1.below hb HH1.out.1.lt, Below.step HH1.out.2 hb⟩)
    have HSL := hide (stay_sl hc)
    clear hc HD
    clear hb
    simp only []
    refine hK.out _ _ HH2.out (fun hHeld => ?_)
    clear hK K
    try simp only [Act.put, List.setIfInBounds_toArray, List.set_cons_zero, List.set_cons_succ]
    refine take_at (i := 5) 24 (v := .tuple #[.slice C N q, .int .i64 0]) rfl rfl (by kernel_rfl) (by kernel_rfl) (by kernel_rfl) (fun _ _ _ h => h) (Or.inl ⟨by rfl, by intro w hSw; go_simp⟩) (by assumption) ?_
    try simp only [Act.put, List.setIfInBounds_toArray, List.set_cons_zero, List.set_cons_succ]
    refine take_at (i := 6) 30 (v := .slice C N q) rfl rfl (by kernel_rfl) (by kernel_rfl) (by kernel_rfl) (fun _ _ _ h => h) (Or.inl ⟨by rfl, by intro w hSw; go_simp⟩) (by assumption) ?_
    try simp only [Act.put, List.setIfInBounds_toArray, List.set_cons_zero, List.set_cons_succ]
    refine take_at (i := 7) 31 (v := .int .i64 0) rfl rfl (by kernel_rfl) (by kernel_rfl) (by kernel_rfl) (fun _ _ _ h => h) (Or.inl ⟨by rfl, by intro w hSw; go_simp⟩) (by assumption) ?_
    try simp only [Act.put, List.setIfInBounds_toArray, List.set_cons_zero, List.set_cons_succ]
    refine take_at (i := 8) 7 (v := .slice C N q) rfl rfl (by kernel_rfl) (by kernel_rfl) (by kernel_rfl) (fun _ _ _ h => h) (Or.inl ⟨by rfl, by intro w hSw; go_simp⟩) (by assumption) ?_
    try simp only [Act.put, List.setIfInBounds_toArray, List.set_cons_zero, List.set_cons_succ]
    refine take_at (i := 9) 8 (v := .int .i64 0) rfl rfl (by kernel_rfl) (by kernel_rfl) (by kernel_rfl) (fun _ _ _ h => h) (Or.inl ⟨by rfl, by intro w hSw; go_simp⟩) (by assumption) ?_
    try simp only [Act.put, List.setIfInBounds_toArray, List.set_cons_zero, List.set_cons_succ]
    refine wpAnyH_done (by kernel_rfl) ?_ _
    replace HT := hide (HT.out.step HH2.out.2)
    go_wp2
    have HI0 := hide (show (fun w' => Blk w' w.heap.size 84 #[.int .i64 n, .int .i64 s] ∧ Below v2.heap.size v2 w') v2.drew from ⟨HT.out.now.1.2, below_drewN (Below.refl _ _) 1⟩)
    refine wp_region_held_drew (S := fun w' => Blk w' w.heap.size 84 #[.int .i64 n, .int .i64 s] ∧ Below v2.heap.size v2 w') (by kernel_rfl) HI0.out (fun hHeld => ?_)
    refine take_at (i := 0) 33 (v := .slice B x.length d) rfl rfl (by kernel_rfl) (by kernel_rfl) (by kernel_rfl) (fun _ _ _ h => h) (Or.inl ⟨by rfl, by intro w hSw; go_simp⟩) (by assumption) ?_
    try simp only [Act.put, List.setIfInBounds_toArray, List.set_cons_zero, List.set_cons_succ]
    refine take_at (i := 2) 35 (v := .pointer (some ⟨w.heap.size, 0, none⟩)) rfl rfl (by kernel_rfl) (by kernel_rfl) (by kernel_rfl) (fun _ _ _ h => h) (Or.inl ⟨by rfl, by intro w hSw; go_simp⟩) (by assumption) ?_
    try simp only [Act.put, List.setIfInBounds_toArray, List.set_cons_zero, List.set_cons_succ]
    refine take_at (i := 3) 36 (v := .int .i64 n) rfl rfl (by kernel_rfl) (by kernel_rfl) (by kernel_rfl) (fun _ _ _ h => h) (Or.inl ⟨by rfl, by intro w hSw; obtain ⟨q0, q1⟩ := hSw.1.two; go_simp⟩) (by assumption) ?_
    try simp only [Act.put, List.setIfInBounds_toArray, List.set_cons_zero, List.set_cons_succ]
    refine take_at (i := 4) 37 (v := .pointer (some ⟨w.heap.size, 1, none⟩)) rfl rfl (by kernel_rfl) (by kernel_rfl) (by kernel_rfl) (fun _ _ _ h => h) (Or.inl ⟨by rfl, by intro w hSw; go_simp⟩) (by assumption) ?_
    try simp only [Act.put, List.setIfInBounds_toArray, List.set_cons_zero, List.set_cons_succ]
    refine take_at (i := 5) 38 (v := .int .i64 s) rfl rfl (by kernel_rfl) (by kernel_rfl) (by kernel_rfl) (fun _ _ _ h => h) (Or.inl ⟨by rfl, by intro w hSw; obtain ⟨q0, q1⟩ := hSw.1.two; go_simp⟩) (by assumption) ?_
    try simp only [Act.put, List.setIfInBounds_toArray, List.set_cons_zero, List.set_cons_succ]
    refine wpAnyH_ready (rs := [1, 10]) (by kernel_rfl) (by simp) ?_
    refine AllReadyH.cons rfl (fun K hK => ?_) (AllReadyH.cons rfl (fun K hK => ?_) AllReadyH.nil)
    go_simp
    refine (HCN.out _ (HT.out.drew.now.1.1.2)).mono ?_
    rintro e v3 ⟨D, kd, rfl, ho, hb⟩
    have HD := hide (Sl.of_ownN ho)
    have HCAP := hide (own_cap ho)
    have HI1 := hide (show (fun w' => Blk w' w.heap.size 84 #[.int .i64 n, .int .i64 s] ∧ Below v2.heap.size v2 w') v3 from ⟨HI0.out.1.below hb HI0.out.1.lt, Below.step HI0.out.2 hb⟩)
    clear ho
    clear hb
    simp only []
    refine hK.out _ _ HI1.out (fun hHeld => ?_)
    clear hK K
    try simp only [Act.put, List.setIfInBounds_toArray, List.set_cons_zero, List.set_cons_succ]
    refine wpAnyH_ready (rs := [6, 10]) (by kernel_rfl) (by simp) ?_
    refine AllReadyH.cons rfl (fun K hK => ?_) (AllReadyH.cons rfl (fun K hK => ?_) AllReadyH.nil)
    go_simp
    refine (HSY.out _ _ _ HCAP.out (HD.out)).mono ?_
    rintro e v4 ⟨rfl, hb⟩
    have HI2 := hide (show (fun w' => Blk w' w.heap.size 84 #[.int .i64 n, .int .i64 s] ∧ Below v2.heap.size v2 w') v4 from ⟨HI1.out.1.below hb HI1.out.1.lt, Below.step HI1.out.2 hb⟩)
    clear HD HCAP
    clear hb
    simp only []
    refine hK.out _ _ HI2.out (fun hHeld => ?_)
    clear hK K
    try simp only [Act.put, List.setIfInBounds_toArray, List.set_cons_zero, List.set_cons_succ]
    refine take_at (i := 7) 32 (v := .tuple #[.agg BB, .int .i64 E2]) rfl rfl (by kernel_rfl) (by kernel_rfl) (by kernel_rfl) (fun _ _ _ h => h) (Or.inl ⟨by rfl, by intro w hSw; go_simp⟩) (by assumption) ?_
    try simp only [Act.put, List.setIfInBounds_toArray, List.set_cons_zero, List.set_cons_succ]
    refine take_at (i := 8) 40 (v := .agg BB) rfl rfl (by kernel_rfl) (by kernel_rfl) (by kernel_rfl) (fun _ _ _ h => h) (Or.inl ⟨by rfl, by intro w hSw; go_simp⟩) (by assumption) ?_
    try simp only [Act.put, List.setIfInBounds_toArray, List.set_cons_zero, List.set_cons_succ]
    refine take_at (i := 9) 41 (v := .int .i64 E2) rfl rfl (by kernel_rfl) (by kernel_rfl) (by kernel_rfl) (fun _ _ _ h => h) (Or.inl ⟨by rfl, by intro w hSw; go_simp⟩) (by assumption) ?_
    try simp only [Act.put, List.setIfInBounds_toArray, List.set_cons_zero, List.set_cons_succ]
    refine wpAnyH_ready (rs := [10]) (by kernel_rfl) (by simp) ?_
    refine AllReadyH.cons rfl (fun K hK => ?_) AllReadyH.nil
    go_simp
    have HI3 := hide (show (fun w' => Blk w' w.heap.size 84 #[.int .i64 n, .int .i64 s] ∧ Below v2.heap.size v2 w') (v4.alloc (.cells (numArr [] 8) 96)) from ⟨HI2.out.1.alloc _, HI2.out.2.alloc HI2.out.2.size _⟩)
    have HBX := hide (show Stay (v4.alloc (.cells (numArr [] 8) 96)) (fun W => Blk W v4.heap.size 96 (numArr [] 8)) from stay_new v4 96 (numArr [] 8))
    refine hK.out _ _ HI3.out (fun hHeld => ?_)
    clear hK K
    try simp only [Act.put, List.setIfInBounds_toArray, List.set_cons_zero, List.set_cons_succ]
    have HLE := hide HI2.out.2.size
    refine wpAnyH_ready (rs := [11]) (by kernel_rfl) (by simp) ?_
    refine AllReadyH.cons rfl (fun K hK => ?_) AllReadyH.nil
    refine step_store_row rfl 96 (.tmp 9) (.tmp 40) rfl v4.heap.size BB rfl rfl 96 (numArr [] 8) HBX.out.now (by rw [HBZ.out]; kernel_rfl) (by first | (rw [HBZ.out]; rfl) | rw [HBZ.out]) hb2 ?_
    have HI4 := hide (show (fun w' => Blk w' w.heap.size 84 #[.int .i64 n, .int .i64 s] ∧ Below v2.heap.size v2 w') ((v4.alloc (.cells (numArr [] 8) 96)).setRow v4.heap.size BB) from ⟨HI3.out.1.rowFar (by have := HI0.out.1.lt; have := HI0.out.2.size; have := HLE.out; have e0 : v2.drew.heap.size = v2.heap.size := rfl; omega) _, Below.row HI3.out.2 (by have := HLE.out; have e0 : v2.drew.heap.size = v2.heap.size := rfl; omega) _⟩)
    replace HBX := hide (stay_blk (HBX.out.now.row BB))
    refine hK.out _ _ HI4.out (fun hHeld => ?_)
    clear hK K
    try simp only [Act.put, List.setIfInBounds_toArray]
    refine take_at (i := 12) 10 (v := .int .i64 E2) rfl rfl (by kernel_rfl) (by kernel_rfl) (by kernel_rfl) (fun _ _ _ h => h) (Or.inl ⟨by rfl, by intro w hSw; go_simp⟩) (by assumption) ?_
    try simp only [Act.put]
    refine wpAnyH_done (by kernel_rfl) ?_ _
    replace HT := hide (HT.out.step HI4.out.2)
    replace HSL := hide (HSL.out.step HI4.out.2)
    obtain ⟨v5, hv5⟩ : ∃ v5, (v4.alloc (.cells (numArr [] 8) 96)).setRow v4.heap.size BB = v5 := ⟨_, rfl⟩
    rw [hv5] at HT HSL HBX
    rw [show (v4.alloc (.cells #[.int .i64 0, .int .i64 0, .int .i64 0, .int .i64 0, .int .i64 0, .int .i64 0, .int .i64 0, .int .i64 0, .int .i64 0, .int .i64 0, .int .i64 0, .int .i64 0, .int .i64 0, .int .i64 0, .int .i64 0, .int .i64 0, .int .i64 0, .int .i64 0, .int .i64 0, .int .i64 0, .int .i64 0, .int .i64 0, .int .i64 0, .int .i64 0, .int .i64 0, .int .i64 0, .int .i64 0, .int .i64 0, .int .i64 0, .int .i64 0, .int .i64 0, .int .i64 0] 96)).setRow v4.heap.size BB = v5 from hv5]
    clear hv5
    obtain ⟨g, hg⟩ : ∃ g, v4.heap.size = g := ⟨_, rfl⟩
    rw [hg] at HBX ⊢
    clear hg
    have hv4 := HBX.out.now.lt
    clear HI0 HI1 HI2 HI3 HI4 HLE
    rotate_left
    go_simp
    have HI3 := hide (show (fun w' => Blk w' w.heap.size 84 #[.int .i64 n, .int .i64 s] ∧ Below v2.heap.size v2 w') (v3.alloc (.cells (numArr [] 8) 96)) from ⟨HI1.out.1.alloc _, HI1.out.2.alloc HI1.out.2.size _⟩)
    have HBX := hide (show Stay (v3.alloc (.cells (numArr [] 8) 96)) (fun W => Blk W v3.heap.size 96 (numArr [] 8)) from stay_new v3 96 (numArr [] 8))
    refine hK.out _ _ HI3.out (fun hHeld => ?_)
    clear hK K
    try simp only [Act.put, List.setIfInBounds_toArray, List.set_cons_zero, List.set_cons_succ]
    have HLE := hide HI1.out.2.size
    refine wpAnyH_ready (rs := [6]) (by kernel_rfl) (by simp) ?_
    refine AllReadyH.cons rfl (fun K hK => ?_) AllReadyH.nil
    go_simp
    refine (HSY.out _ _ _ HCAP.out (HD.out.alloc _)).mono ?_
    rintro e v4 ⟨rfl, hb⟩
    have HI2 := hide (show (fun w' => Blk w' w.heap.size 84 #[.int .i64 n, .int .i64 s] ∧ Below v2.heap.size v2 w') v4 from ⟨HI3.out.1.below hb HI3.out.1.lt, Below.step HI3.out.2 hb⟩)
    clear HD HCAP
    replace HBX := hide (HBX.out.step hb)
    clear hb
    simp only []
    refine hK.out _ _ HI2.out (fun hHeld => ?_)
    clear hK K
    try simp only [Act.put, List.setIfInBounds_toArray, List.set_cons_zero, List.set_cons_succ]
    refine take_at (i := 7) 32 (v := .tuple #[.agg BB, .int .i64 E2]) rfl rfl (by kernel_rfl) (by kernel_rfl) (by kernel_rfl) (fun _ _ _ h => h) (Or.inl ⟨by rfl, by intro w hSw; go_simp⟩) (by assumption) ?_
    try simp only [Act.put, List.setIfInBounds_toArray, List.set_cons_zero, List.set_cons_succ]
    refine take_at (i := 8) 40 (v := .agg BB) rfl rfl (by kernel_rfl) (by kernel_rfl) (by kernel_rfl) (fun _ _ _ h => h) (Or.inl ⟨by rfl, by intro w hSw; go_simp⟩) (by assumption) ?_
    try simp only [Act.put, List.setIfInBounds_toArray, List.set_cons_zero, List.set_cons_succ]
    refine take_at (i := 9) 41 (v := .int .i64 E2) rfl rfl (by kernel_rfl) (by kernel_rfl) (by kernel_rfl) (fun _ _ _ h => h) (Or.inl ⟨by rfl, by intro w hSw; go_simp⟩) (by assumption) ?_
    try simp only [Act.put, List.setIfInBounds_toArray, List.set_cons_zero, List.set_cons_succ]
    refine wpAnyH_ready (rs := [11]) (by kernel_rfl) (by simp) ?_
    refine AllReadyH.cons rfl (fun K hK => ?_) AllReadyH.nil
    refine step_store_row rfl 96 (.tmp 9) (.tmp 40) rfl v3.heap.size BB rfl rfl 96 (numArr [] 8) HBX.out.now (by rw [HBZ.out]; kernel_rfl) (by first | (rw [HBZ.out]; rfl) | rw [HBZ.out]) hb2 ?_
    have HI4 := hide (show (fun w' => Blk w' w.heap.size 84 #[.int .i64 n, .int .i64 s] ∧ Below v2.heap.size v2 w') (v4.setRow v3.heap.size BB) from ⟨HI2.out.1.rowFar (by have := HI0.out.1.lt; have := HI0.out.2.size; have := HLE.out; have e0 : v2.drew.heap.size = v2.heap.size := rfl; omega) _, Below.row HI2.out.2 (by have := HLE.out; have e0 : v2.drew.heap.size = v2.heap.size := rfl; omega) _⟩)
    replace HBX := hide (stay_blk (HBX.out.now.row BB))
    refine hK.out _ _ HI4.out (fun hHeld => ?_)
    clear hK K
    try simp only [Act.put, List.setIfInBounds_toArray]
    refine take_at (i := 12) 10 (v := .int .i64 E2) rfl rfl (by kernel_rfl) (by kernel_rfl) (by kernel_rfl) (fun _ _ _ h => h) (Or.inl ⟨by rfl, by intro w hSw; go_simp⟩) (by assumption) ?_
    try simp only [Act.put]
    refine wpAnyH_done (by kernel_rfl) ?_ _
    replace HT := hide (HT.out.step HI4.out.2)
    replace HSL := hide (HSL.out.step HI4.out.2)
    obtain ⟨v5, hv5⟩ : ∃ v5, v4.setRow v3.heap.size BB = v5 := ⟨_, rfl⟩
    rw [hv5] at HT HSL HBX
    rw [show v4.setRow v3.heap.size BB = v5 from hv5]
    clear hv5
    obtain ⟨g, hg⟩ : ∃ g, v3.heap.size = g := ⟨_, rfl⟩
    rw [hg] at HBX ⊢
    clear hg
    have hv4 := HBX.out.now.lt
    clear HI0 HI1 HI2 HI3 HI4 HLE
    rotate_left
    go_simp
    have HI3 := hide (show (fun w' => Blk w' w.heap.size 84 #[.int .i64 n, .int .i64 s] ∧ Below v2.heap.size v2 w') (v2.drew.alloc (.cells (numArr [] 8) 96)) from ⟨HI0.out.1.alloc _, HI0.out.2.alloc HI0.out.2.size _⟩)
    have HBX := hide (show Stay (v2.drew.alloc (.cells (numArr [] 8) 96)) (fun W => Blk W v2.heap.size 96 (numArr [] 8)) from stay_new v2.drew 96 (numArr [] 8))
    refine hK.out _ _ HI3.out (fun hHeld => ?_)
    clear hK K
    try simp only [Act.put, List.setIfInBounds_toArray, List.set_cons_zero, List.set_cons_succ]
    have HLE := hide HI0.out.2.size
    refine wpAnyH_ready (rs := [1]) (by kernel_rfl) (by simp) ?_
    refine AllReadyH.cons rfl (fun K hK => ?_) AllReadyH.nil
    go_simp
    refine (HCN.out _ ((HT.out.drew.alloc _).now.1.1.2)).mono ?_
    rintro e v3 ⟨D, kd, rfl, ho, hb⟩
    have HD := hide (Sl.of_ownN ho)
    have HCAP := hide (own_cap ho)
    have HI1 := hide (show (fun w' => Blk w' w.heap.size 84 #[.int .i64 n, .int .i64 s] ∧ Below v2.heap.size v2 w') v3 from ⟨HI3.out.1.below hb HI3.out.1.lt, Below.step HI3.out.2 hb⟩)
    clear ho
    replace HBX := hide (HBX.out.step hb)
    clear hb
    simp only []
    refine hK.out _ _ HI1.out (fun hHeld => ?_)
    clear hK K
    try simp only [Act.put, List.setIfInBounds_toArray, List.set_cons_zero, List.set_cons_succ]
    refine wpAnyH_ready (rs := [6]) (by kernel_rfl) (by simp) ?_
    refine AllReadyH.cons rfl (fun K hK => ?_) AllReadyH.nil
    go_simp
    refine (HSY.out _ _ _ HCAP.out (HD.out)).mono ?_
    rintro e v4 ⟨rfl, hb⟩
    have HI2 := hide (show (fun w' => Blk w' w.heap.size 84 #[.int .i64 n, .int .i64 s] ∧ Below v2.heap.size v2 w') v4 from ⟨HI1.out.1.below hb HI1.out.1.lt, Below.step HI1.out.2 hb⟩)
    clear HD HCAP
    replace HBX := hide (HBX.out.step hb)
    clear hb
    simp only []
    refine hK.out _ _ HI2.out (fun hHeld => ?_)
    clear hK K
    try simp only [Act.put, List.setIfInBounds_toArray, List.set_cons_zero, List.set_cons_succ]
    refine take_at (i := 7) 32 (v := .tuple #[.agg BB, .int .i64 E2]) rfl rfl (by kernel_rfl) (by kernel_rfl) (by kernel_rfl) (fun _ _ _ h => h) (Or.inl ⟨by rfl, by intro w hSw; go_simp⟩) (by assumption) ?_
    try simp only [Act.put, List.setIfInBounds_toArray, List.set_cons_zero, List.set_cons_succ]
    refine take_at (i := 8) 40 (v := .agg BB) rfl rfl (by kernel_rfl) (by kernel_rfl) (by kernel_rfl) (fun _ _ _ h => h) (Or.inl ⟨by rfl, by intro w hSw; go_simp⟩) (by assumption) ?_
    try simp only [Act.put, List.setIfInBounds_toArray, List.set_cons_zero, List.set_cons_succ]
    refine take_at (i := 9) 41 (v := .int .i64 E2) rfl rfl (by kernel_rfl) (by kernel_rfl) (by kernel_rfl) (fun _ _ _ h => h) (Or.inl ⟨by rfl, by intro w hSw; go_simp⟩) (by assumption) ?_
    try simp only [Act.put, List.setIfInBounds_toArray, List.set_cons_zero, List.set_cons_succ]
    refine wpAnyH_ready (rs := [11]) (by kernel_rfl) (by simp) ?_
    refine AllReadyH.cons rfl (fun K hK => ?_) AllReadyH.nil
    refine step_store_row rfl 96 (.tmp 9) (.tmp 40) rfl v2.heap.size BB rfl rfl 96 (numArr [] 8) HBX.out.now (by rw [HBZ.out]; kernel_rfl) (by first | (rw [HBZ.out]; rfl) | rw [HBZ.out]) hb2 ?_
    have HI4 := hide (show (fun w' => Blk w' w.heap.size 84 #[.int .i64 n, .int .i64 s] ∧ Below v2.heap.size v2 w') (v4.setRow v2.heap.size BB) from ⟨HI2.out.1.rowFar (by have := HI0.out.1.lt; have := HI0.out.2.size; have := HLE.out; have e0 : v2.drew.heap.size = v2.heap.size := rfl; omega) _, Below.row HI2.out.2 (by have := HLE.out; have e0 : v2.drew.heap.size = v2.heap.size := rfl; omega) _⟩)
    replace HBX := hide (stay_blk (HBX.out.now.row BB))
    refine hK.out _ _ HI4.out (fun hHeld => ?_)
    clear hK K
    try simp only [Act.put, List.setIfInBounds_toArray]
    refine take_at (i := 12) 10 (v := .int .i64 E2) rfl rfl (by kernel_rfl) (by kernel_rfl) (by kernel_rfl) (fun _ _ _ h => h) (Or.inl ⟨by rfl, by intro w hSw; go_simp⟩) (by assumption) ?_
    try simp only [Act.put]
    refine wpAnyH_done (by kernel_rfl) ?_ _
    replace HT := hide (HT.out.step HI4.out.2)
    replace HSL := hide (HSL.out.step HI4.out.2)
    obtain ⟨v5, hv5⟩ : ∃ v5, v4.setRow v2.heap.size BB = v5 := ⟨_, rfl⟩
    rw [hv5] at HT HSL HBX
    rw [show v4.setRow v2.heap.size BB = v5 from hv5]
    clear hv5
    obtain ⟨g, hg⟩ : ∃ g, v2.heap.size = g := ⟨_, rfl⟩
    rw [hg] at HBX ⊢
    clear hg
    have hv4 := HBX.out.now.lt
    clear HI0 HI1 HI2 HI3 HI4 HLE
    all_goals
      obtain ⟨c0, c1⟩ := HT.out.now.1.2.two
      go_wp2_with (first
        | (go_at_call 81; go_must (refine (HSE.out _ _ _ HT.out.now.1.1.1).mono ?_; rintro e w3 ⟨rfl, hb⟩; replace HT := hide (HT.out.step hb); (try replace HSL := hide (HSL.out.step hb)); (try replace HSL2 := hide (HSL2.out.step hb)); replace HBX := hide (HBX.out.step hb); clear c0 c1; obtain ⟨c0, c1⟩ := HT.out.now.1.2.two; clear hb; simp only []))
        | (go_at_call 82; go_must (refine (HRS.out _ _ _ HT.out.now.1.1.1).mono ?_; rintro e w4 ⟨C2, q2, rfl, hc, hb⟩; have HSL2 := hide (stay_sl hc); clear hc; replace HT := hide (HT.out.step hb); (try replace HSL := hide (HSL.out.step hb)); (try replace HSL2 := hide (HSL2.out.step hb)); replace HBX := hide (HBX.out.step hb); clear c0 c1; obtain ⟨c0, c1⟩ := HT.out.now.1.2.two; clear hb; simp only []))
        | (go_at_call 52; go_must (refine (HSAME.out _ _ _ _ _ HSL.out.now HSL2.out.now).mono ?_; rintro e w5 ⟨rfl, q9, rfl⟩; replace HT := hide (HT.out.drewN q9); replace HBX := hide (HBX.out.drewN q9); clear c0 c1; obtain ⟨c0, c1⟩ := HT.out.now.1.2.two; simp only []))
        | (go_at_call 51; go_must (refine (HSM.out _ _ _ HT.out.now.1.1.2).mono ?_; rintro e w6 ⟨rfl, hb⟩; replace HT := hide (HT.out.step hb); (try replace HSL := hide (HSL.out.step hb)); (try replace HSL2 := hide (HSL2.out.step hb)); replace HBX := hide (HBX.out.step hb); clear c0 c1; obtain ⟨c0, c1⟩ := HT.out.now.1.2.two; clear hb; simp only []; have hz6 := (HT.out.now.2).size; have c2 := fun o => ((HT.out.alloc o).now.1.2.two).1; have c3 := fun o => ((HT.out.alloc o).now.1.2.two).2))
        | (go_at_call 83; go_must (refine (HGD.out _).mono ?_; rintro e w7 ⟨rfl, rfl⟩; simp only []))
        | (go_at_call 84; go_must (refine (HSYR.out _ _ _ (HT.out.alloc _).now.1.1.2).mono ?_; rintro e w8 ⟨rfl, hb⟩; have HZ := hide ((Blk.new _ 96 (numArr [] 8)).below hb (by simp)); replace HT := hide ((HT.out.alloc _).step hb); have hv6 := HBX.out.now.lt; replace HBX := hide ((HBX.out.alloc _).step hb); clear hb; simp only []))
        | (refine wpList_store_row rfl 96 (.tmp 13) (.tmp 77) rfl w6.heap.size BB rfl rfl 96 (numArr [] 8) HZ.out (by rw [HBZ.out]; kernel_rfl) (by first | (rw [HBZ.out]; rfl) | rw [HBZ.out]) hb2 ?_; have HZ2 := hide (HZ.out.row BB); have HBY := hide (HBX.out.now.rowFar (show g ≠ w6.heap.size by omega) BB))
        | (refine wpList_load_rowG 96 (.tmp 9) rfl (by rfl) (g) rfl 96 BB _ (HBY.out) Try.underlying96 rfl (by rw [HBZ.out]; kernel_rfl) ?_)
        | (refine wpList_load_rowG 96 (.tmp 13) rfl (by rfl) (w6.heap.size) rfl 96 BB _ (HZ2.out) Try.underlying96 rfl (by rw [HBZ.out]; kernel_rfl) ?_)
        | (refine wpList_load_rowG 96 (.tmp 9) rfl (by rfl) (g) rfl 96 BB _ (HBX.out.now.alloc _) Try.underlying96 rfl (by rw [HBZ.out]; kernel_rfl) ?_)
        | (refine wpList_load_rowG 96 (.tmp 13) rfl (by rfl) (w6.heap.size) rfl 96 BB _ (Blk.new _ _ _) Try.underlying96 rfl (by rw [HBZ.out]; kernel_rfl) ?_))
      go_ret
      exact ⟨rfl, Below.row HT.out.now.2 (by have := (HT.out.now.2).size; omega) _⟩
  · go_enter Try.func13, Try.ntmps13
    go_wp2_with (go_at_call 20; go_must (refine (awake_ok _).mono ?_; rintro e w1 ⟨rfl, hb⟩; have HT := hide (HT0.out.step hb); clear hb; simp only []))
    have HH0 := hide (show (fun w' => Blk w' w.heap.size 84 #[.int .i64 n, .int .i64 s] ∧ Below w1.heap.size w1 w') w1.drew from ⟨HT.out.now.1.2, below_drewN (Below.refl _ _) 1⟩)
    refine wp_region_held_drew (S := fun w' => Blk w' w.heap.size 84 #[.int .i64 n, .int .i64 s] ∧ Below w1.heap.size w1 w') (by kernel_rfl) HH0.out (fun hHeld => ?_)
    refine take_at (i := 0) 25 (v := .slice A l.length c) rfl rfl (by kernel_rfl) (by kernel_rfl) (by kernel_rfl) (fun _ _ _ h => h) (Or.inl ⟨by rfl, by intro w hSw; go_simp⟩) (by assumption) ?_
    try simp only [Act.put, List.setIfInBounds_toArray, List.set_cons_zero, List.set_cons_succ]
    refine take_at (i := 2) 27 (v := .pointer (some ⟨w.heap.size, 0, none⟩)) rfl rfl (by kernel_rfl) (by kernel_rfl) (by kernel_rfl) (fun _ _ _ h => h) (Or.inl ⟨by rfl, by intro w hSw; go_simp⟩) (by assumption) ?_
    try simp only [Act.put, List.setIfInBounds_toArray, List.set_cons_zero, List.set_cons_succ]
    refine take_at (i := 3) 28 (v := .int .i64 n) rfl rfl (by kernel_rfl) (by kernel_rfl) (by kernel_rfl) (fun _ _ _ h => h) (Or.inl ⟨by rfl, by intro w hSw; obtain ⟨q0, q1⟩ := hSw.1.two; go_simp⟩) (by assumption) ?_
    try simp only [Act.put, List.setIfInBounds_toArray, List.set_cons_zero, List.set_cons_succ]
    refine wpAnyH_ready (rs := [1]) (by kernel_rfl) (by simp) ?_
    refine AllReadyH.cons rfl (fun K hK => ?_) AllReadyH.nil
    go_simp
    refine (HCS.out _ (HT.out.drew.now.1.1.1)).mono ?_
    rintro e v1 ⟨D, kd, rfl, ho, hb⟩
    have HD := hide (Sl.of_ownN ho)
    have HH1 := hide (show (fun w' => Blk w' w.heap.size 84 #[.int .i64 n, .int .i64 s] ∧ Below w1.heap.size w1 w') v1 from ⟨HH0.out.1.below hb HH0.out.1.lt, Below.step HH0.out.2 hb⟩)
    clear ho
    clear hb
    simp only []
    refine hK.out _ _ HH1.out (fun hHeld => ?_)
    clear hK K
    try simp only [Act.put, List.setIfInBounds_toArray, List.set_cons_zero, List.set_cons_succ]
    refine wpAnyH_ready (rs := [4]) (by kernel_rfl) (by simp) ?_
    refine AllReadyH.cons rfl (fun K hK => ?_) AllReadyH.nil
    go_simp
    refine (HSTR.out _ _ _ HD.out).mono ?_
    rintro e v2 ⟨C, q, rfl, hc, hb⟩
    have HH2 := hide (show (fun w' => Blk w' w.heap.size 84 #[.int .i64 n, .int .i64 s] ∧ Below w1.heap.size w1 w') v2 from ⟨HH1.out.1.below hb HH1.out.1.lt, Below.step HH1.out.2 hb⟩)
    have HSL := hide (stay_sl hc)
    clear hc HD
    clear hb
    simp only []
    refine hK.out _ _ HH2.out (fun hHeld => ?_)
    clear hK K
    try simp only [Act.put, List.setIfInBounds_toArray, List.set_cons_zero, List.set_cons_succ]
    refine take_at (i := 5) 24 (v := .tuple #[.slice C 0 q, .int .i64 E]) rfl rfl (by kernel_rfl) (by kernel_rfl) (by kernel_rfl) (fun _ _ _ h => h) (Or.inl ⟨by rfl, by intro w hSw; go_simp⟩) (by assumption) ?_
    try simp only [Act.put, List.setIfInBounds_toArray, List.set_cons_zero, List.set_cons_succ]
    refine take_at (i := 6) 30 (v := .slice C 0 q) rfl rfl (by kernel_rfl) (by kernel_rfl) (by kernel_rfl) (fun _ _ _ h => h) (Or.inl ⟨by rfl, by intro w hSw; go_simp⟩) (by assumption) ?_
    try simp only [Act.put, List.setIfInBounds_toArray, List.set_cons_zero, List.set_cons_succ]
    refine take_at (i := 7) 31 (v := .int .i64 E) rfl rfl (by kernel_rfl) (by kernel_rfl) (by kernel_rfl) (fun _ _ _ h => h) (Or.inl ⟨by rfl, by intro w hSw; go_simp⟩) (by assumption) ?_
    try simp only [Act.put, List.setIfInBounds_toArray, List.set_cons_zero, List.set_cons_succ]
    refine take_at (i := 8) 7 (v := .slice C 0 q) rfl rfl (by kernel_rfl) (by kernel_rfl) (by kernel_rfl) (fun _ _ _ h => h) (Or.inl ⟨by rfl, by intro w hSw; go_simp⟩) (by assumption) ?_
    try simp only [Act.put, List.setIfInBounds_toArray, List.set_cons_zero, List.set_cons_succ]
    refine take_at (i := 9) 8 (v := .int .i64 E) rfl rfl (by kernel_rfl) (by kernel_rfl) (by kernel_rfl) (fun _ _ _ h => h) (Or.inl ⟨by rfl, by intro w hSw; go_simp⟩) (by assumption) ?_
    try simp only [Act.put, List.setIfInBounds_toArray, List.set_cons_zero, List.set_cons_succ]
    refine wpAnyH_done (by kernel_rfl) ?_ _
    replace HT := hide (HT.out.step HH2.out.2)
    go_wp2
    have HI0 := hide (show (fun w' => Blk w' w.heap.size 84 #[.int .i64 n, .int .i64 s] ∧ Below v2.heap.size v2 w') v2.drew from ⟨HT.out.now.1.2, below_drewN (Below.refl _ _) 1⟩)
    refine wp_region_held_drew (S := fun w' => Blk w' w.heap.size 84 #[.int .i64 n, .int .i64 s] ∧ Below v2.heap.size v2 w') (by kernel_rfl) HI0.out (fun hHeld => ?_)
    refine take_at (i := 0) 33 (v := .slice B x.length d) rfl rfl (by kernel_rfl) (by kernel_rfl) (by kernel_rfl) (fun _ _ _ h => h) (Or.inl ⟨by rfl, by intro w hSw; go_simp⟩) (by assumption) ?_
    try simp only [Act.put, List.setIfInBounds_toArray, List.set_cons_zero, List.set_cons_succ]
    refine take_at (i := 2) 35 (v := .pointer (some ⟨w.heap.size, 0, none⟩)) rfl rfl (by kernel_rfl) (by kernel_rfl) (by kernel_rfl) (fun _ _ _ h => h) (Or.inl ⟨by rfl, by intro w hSw; go_simp⟩) (by assumption) ?_
    try simp only [Act.put, List.setIfInBounds_toArray, List.set_cons_zero, List.set_cons_succ]
    refine take_at (i := 3) 36 (v := .int .i64 n) rfl rfl (by kernel_rfl) (by kernel_rfl) (by kernel_rfl) (fun _ _ _ h => h) (Or.inl ⟨by rfl, by intro w hSw; obtain ⟨q0, q1⟩ := hSw.1.two; go_simp⟩) (by assumption) ?_
    try simp only [Act.put, List.setIfInBounds_toArray, List.set_cons_zero, List.set_cons_succ]
    refine take_at (i := 4) 37 (v := .pointer (some ⟨w.heap.size, 1, none⟩)) rfl rfl (by kernel_rfl) (by kernel_rfl) (by kernel_rfl) (fun _ _ _ h => h) (Or.inl ⟨by rfl, by intro w hSw; go_simp⟩) (by assumption) ?_
    try simp only [Act.put, List.setIfInBounds_toArray, List.set_cons_zero, List.set_cons_succ]
    refine take_at (i := 5) 38 (v := .int .i64 s) rfl rfl (by kernel_rfl) (by kernel_rfl) (by kernel_rfl) (fun _ _ _ h => h) (Or.inl ⟨by rfl, by intro w hSw; obtain ⟨q0, q1⟩ := hSw.1.two; go_simp⟩) (by assumption) ?_
    try simp only [Act.put, List.setIfInBounds_toArray, List.set_cons_zero, List.set_cons_succ]
    refine wpAnyH_ready (rs := [1, 10]) (by kernel_rfl) (by simp) ?_
    refine AllReadyH.cons rfl (fun K hK => ?_) (AllReadyH.cons rfl (fun K hK => ?_) AllReadyH.nil)
    go_simp
    refine (HCN.out _ (HT.out.drew.now.1.1.2)).mono ?_
    rintro e v3 ⟨D, kd, rfl, ho, hb⟩
    have HD := hide (Sl.of_ownN ho)
    have HCAP := hide (own_cap ho)
    have HI1 := hide (show (fun w' => Blk w' w.heap.size 84 #[.int .i64 n, .int .i64 s] ∧ Below v2.heap.size v2 w') v3 from ⟨HI0.out.1.below hb HI0.out.1.lt, Below.step HI0.out.2 hb⟩)
    clear ho
    clear hb
    simp only []
    refine hK.out _ _ HI1.out (fun hHeld => ?_)
    clear hK K
    try simp only [Act.put, List.setIfInBounds_toArray, List.set_cons_zero, List.set_cons_succ]
    refine wpAnyH_ready (rs := [6, 10]) (by kernel_rfl) (by simp) ?_
    refine AllReadyH.cons rfl (fun K hK => ?_) (AllReadyH.cons rfl (fun K hK => ?_) AllReadyH.nil)
    go_simp
    refine (HSY.out _ _ _ HCAP.out (HD.out)).mono ?_
    rintro e v4 ⟨rfl, hb⟩
    have HI2 := hide (show (fun w' => Blk w' w.heap.size 84 #[.int .i64 n, .int .i64 s] ∧ Below v2.heap.size v2 w') v4 from ⟨HI1.out.1.below hb HI1.out.1.lt, Below.step HI1.out.2 hb⟩)
    clear HD HCAP
    clear hb
    simp only []
    refine hK.out _ _ HI2.out (fun hHeld => ?_)
    clear hK K
    try simp only [Act.put, List.setIfInBounds_toArray, List.set_cons_zero, List.set_cons_succ]
    refine take_at (i := 7) 32 (v := .tuple #[.agg (numArr [] 8), .int .i64 E2]) rfl rfl (by kernel_rfl) (by kernel_rfl) (by kernel_rfl) (fun _ _ _ h => h) (Or.inl ⟨by rfl, by intro w hSw; go_simp⟩) (by assumption) ?_
    try simp only [Act.put, List.setIfInBounds_toArray, List.set_cons_zero, List.set_cons_succ]
    refine take_at (i := 8) 40 (v := .agg (numArr [] 8)) rfl rfl (by kernel_rfl) (by kernel_rfl) (by kernel_rfl) (fun _ _ _ h => h) (Or.inl ⟨by rfl, by intro w hSw; go_simp⟩) (by assumption) ?_
    try simp only [Act.put, List.setIfInBounds_toArray, List.set_cons_zero, List.set_cons_succ]
    refine take_at (i := 9) 41 (v := .int .i64 E2) rfl rfl (by kernel_rfl) (by kernel_rfl) (by kernel_rfl) (fun _ _ _ h => h) (Or.inl ⟨by rfl, by intro w hSw; go_simp⟩) (by assumption) ?_
    try simp only [Act.put, List.setIfInBounds_toArray, List.set_cons_zero, List.set_cons_succ]
    refine wpAnyH_ready (rs := [10]) (by kernel_rfl) (by simp) ?_
    refine AllReadyH.cons rfl (fun K hK => ?_) AllReadyH.nil
    go_simp
    have HI3 := hide (show (fun w' => Blk w' w.heap.size 84 #[.int .i64 n, .int .i64 s] ∧ Below v2.heap.size v2 w') (v4.alloc (.cells (numArr [] 8) 96)) from ⟨HI2.out.1.alloc _, HI2.out.2.alloc HI2.out.2.size _⟩)
    have HBX := hide (show Stay (v4.alloc (.cells (numArr [] 8) 96)) (fun W => Blk W v4.heap.size 96 (numArr [] 8)) from stay_new v4 96 (numArr [] 8))
    refine hK.out _ _ HI3.out (fun hHeld => ?_)
    clear hK K
    try simp only [Act.put, List.setIfInBounds_toArray, List.set_cons_zero, List.set_cons_succ]
    have HLE := hide HI2.out.2.size
    refine wpAnyH_ready (rs := [11]) (by kernel_rfl) (by simp) ?_
    refine AllReadyH.cons rfl (fun K hK => ?_) AllReadyH.nil
    refine step_store_row rfl 96 (.tmp 9) (.tmp 40) rfl v4.heap.size (numArr [] 8) rfl rfl 96 (numArr [] 8) HBX.out.now (by rw [HBZ.out]; kernel_rfl) (by first | (rw [HBZ.out]; rfl) | rw [HBZ.out]) hb2 ?_
    have HI4 := hide (show (fun w' => Blk w' w.heap.size 84 #[.int .i64 n, .int .i64 s] ∧ Below v2.heap.size v2 w') ((v4.alloc (.cells (numArr [] 8) 96)).setRow v4.heap.size (numArr [] 8)) from ⟨HI3.out.1.rowFar (by have := HI0.out.1.lt; have := HI0.out.2.size; have := HLE.out; have e0 : v2.drew.heap.size = v2.heap.size := rfl; omega) _, Below.row HI3.out.2 (by have := HLE.out; have e0 : v2.drew.heap.size = v2.heap.size := rfl; omega) _⟩)
    replace HBX := hide (stay_blk (HBX.out.now.row (numArr [] 8)))
    refine hK.out _ _ HI4.out (fun hHeld => ?_)
    clear hK K
    try simp only [Act.put, List.setIfInBounds_toArray]
    refine take_at (i := 12) 10 (v := .int .i64 E2) rfl rfl (by kernel_rfl) (by kernel_rfl) (by kernel_rfl) (fun _ _ _ h => h) (Or.inl ⟨by rfl, by intro w hSw; go_simp⟩) (by assumption) ?_
    try simp only [Act.put]
    refine wpAnyH_done (by kernel_rfl) ?_ _
    replace HT := hide (HT.out.step HI4.out.2)
    replace HSL := hide (HSL.out.step HI4.out.2)
    obtain ⟨v5, hv5⟩ : ∃ v5, (v4.alloc (.cells (numArr [] 8) 96)).setRow v4.heap.size (numArr [] 8) = v5 := ⟨_, rfl⟩
    rw [hv5] at HT HSL HBX
    rw [show (v4.alloc (.cells #[.int .i64 0, .int .i64 0, .int .i64 0, .int .i64 0, .int .i64 0, .int .i64 0, .int .i64 0, .int .i64 0, .int .i64 0, .int .i64 0, .int .i64 0, .int .i64 0, .int .i64 0, .int .i64 0, .int .i64 0, .int .i64 0, .int .i64 0, .int .i64 0, .int .i64 0, .int .i64 0, .int .i64 0, .int .i64 0, .int .i64 0, .int .i64 0, .int .i64 0, .int .i64 0, .int .i64 0, .int .i64 0, .int .i64 0, .int .i64 0, .int .i64 0, .int .i64 0] 96)).setRow v4.heap.size (numArr [] 8) = v5 from hv5]
    clear hv5
    obtain ⟨g, hg⟩ : ∃ g, v4.heap.size = g := ⟨_, rfl⟩
    rw [hg] at HBX ⊢
    clear hg
    have hv4 := HBX.out.now.lt
    clear HI0 HI1 HI2 HI3 HI4 HLE
    rotate_left
    go_simp
    have HI3 := hide (show (fun w' => Blk w' w.heap.size 84 #[.int .i64 n, .int .i64 s] ∧ Below v2.heap.size v2 w') (v3.alloc (.cells (numArr [] 8) 96)) from ⟨HI1.out.1.alloc _, HI1.out.2.alloc HI1.out.2.size _⟩)
    have HBX := hide (show Stay (v3.alloc (.cells (numArr [] 8) 96)) (fun W => Blk W v3.heap.size 96 (numArr [] 8)) from stay_new v3 96 (numArr [] 8))
    refine hK.out _ _ HI3.out (fun hHeld => ?_)
    clear hK K
    try simp only [Act.put, List.setIfInBounds_toArray, List.set_cons_zero, List.set_cons_succ]
    have HLE := hide HI1.out.2.size
    refine wpAnyH_ready (rs := [6]) (by kernel_rfl) (by simp) ?_
    refine AllReadyH.cons rfl (fun K hK => ?_) AllReadyH.nil
    go_simp
    refine (HSY.out _ _ _ HCAP.out (HD.out.alloc _)).mono ?_
    rintro e v4 ⟨rfl, hb⟩
    have HI2 := hide (show (fun w' => Blk w' w.heap.size 84 #[.int .i64 n, .int .i64 s] ∧ Below v2.heap.size v2 w') v4 from ⟨HI3.out.1.below hb HI3.out.1.lt, Below.step HI3.out.2 hb⟩)
    clear HD HCAP
    replace HBX := hide (HBX.out.step hb)
    clear hb
    simp only []
    refine hK.out _ _ HI2.out (fun hHeld => ?_)
    clear hK K
    try simp only [Act.put, List.setIfInBounds_toArray, List.set_cons_zero, List.set_cons_succ]
    refine take_at (i := 7) 32 (v := .tuple #[.agg (numArr [] 8), .int .i64 E2]) rfl rfl (by kernel_rfl) (by kernel_rfl) (by kernel_rfl) (fun _ _ _ h => h) (Or.inl ⟨by rfl, by intro w hSw; go_simp⟩) (by assumption) ?_
    try simp only [Act.put, List.setIfInBounds_toArray, List.set_cons_zero, List.set_cons_succ]
    refine take_at (i := 8) 40 (v := .agg (numArr [] 8)) rfl rfl (by kernel_rfl) (by kernel_rfl) (by kernel_rfl) (fun _ _ _ h => h) (Or.inl ⟨by rfl, by intro w hSw; go_simp⟩) (by assumption) ?_
    try simp only [Act.put, List.setIfInBounds_toArray, List.set_cons_zero, List.set_cons_succ]
    refine take_at (i := 9) 41 (v := .int .i64 E2) rfl rfl (by kernel_rfl) (by kernel_rfl) (by kernel_rfl) (fun _ _ _ h => h) (Or.inl ⟨by rfl, by intro w hSw; go_simp⟩) (by assumption) ?_
    try simp only [Act.put, List.setIfInBounds_toArray, List.set_cons_zero, List.set_cons_succ]
    refine wpAnyH_ready (rs := [11]) (by kernel_rfl) (by simp) ?_
    refine AllReadyH.cons rfl (fun K hK => ?_) AllReadyH.nil
    refine step_store_row rfl 96 (.tmp 9) (.tmp 40) rfl v3.heap.size (numArr [] 8) rfl rfl 96 (numArr [] 8) HBX.out.now (by rw [HBZ.out]; kernel_rfl) (by first | (rw [HBZ.out]; rfl) | rw [HBZ.out]) hb2 ?_
    have HI4 := hide (show (fun w' => Blk w' w.heap.size 84 #[.int .i64 n, .int .i64 s] ∧ Below v2.heap.size v2 w') (v4.setRow v3.heap.size (numArr [] 8)) from ⟨HI2.out.1.rowFar (by have := HI0.out.1.lt; have := HI0.out.2.size; have := HLE.out; have e0 : v2.drew.heap.size = v2.heap.size := rfl; omega) _, Below.row HI2.out.2 (by have := HLE.out; have e0 : v2.drew.heap.size = v2.heap.size := rfl; omega) _⟩)
    replace HBX := hide (stay_blk (HBX.out.now.row (numArr [] 8)))
    refine hK.out _ _ HI4.out (fun hHeld => ?_)
    clear hK K
    try simp only [Act.put, List.setIfInBounds_toArray]
    refine take_at (i := 12) 10 (v := .int .i64 E2) rfl rfl (by kernel_rfl) (by kernel_rfl) (by kernel_rfl) (fun _ _ _ h => h) (Or.inl ⟨by rfl, by intro w hSw; go_simp⟩) (by assumption) ?_
    try simp only [Act.put]
    refine wpAnyH_done (by kernel_rfl) ?_ _
    replace HT := hide (HT.out.step HI4.out.2)
    replace HSL := hide (HSL.out.step HI4.out.2)
    obtain ⟨v5, hv5⟩ : ∃ v5, v4.setRow v3.heap.size (numArr [] 8) = v5 := ⟨_, rfl⟩
    rw [hv5] at HT HSL HBX
    rw [show v4.setRow v3.heap.size (numArr [] 8) = v5 from hv5]
    clear hv5
    obtain ⟨g, hg⟩ : ∃ g, v3.heap.size = g := ⟨_, rfl⟩
    rw [hg] at HBX ⊢
    clear hg
    have hv4 := HBX.out.now.lt
    clear HI0 HI1 HI2 HI3 HI4 HLE
    rotate_left
    go_simp
    have HI3 := hide (show (fun w' => Blk w' w.heap.size 84 #[.int .i64 n, .int .i64 s] ∧ Below v2.heap.size v2 w') (v2.drew.alloc (.cells (numArr [] 8) 96)) from ⟨HI0.out.1.alloc _, HI0.out.2.alloc HI0.out.2.size _⟩)
    have HBX := hide (show Stay (v2.drew.alloc (.cells (numArr [] 8) 96)) (fun W => Blk W v2.heap.size 96 (numArr [] 8)) from stay_new v2.drew 96 (numArr [] 8))
    refine hK.out _ _ HI3.out (fun hHeld => ?_)
    clear hK K
    try simp only [Act.put, List.setIfInBounds_toArray, List.set_cons_zero, List.set_cons_succ]
    have HLE := hide HI0.out.2.size
    refine wpAnyH_ready (rs := [1]) (by kernel_rfl) (by simp) ?_
    refine AllReadyH.cons rfl (fun K hK => ?_) AllReadyH.nil
    go_simp
    refine (HCN.out _ ((HT.out.drew.alloc _).now.1.1.2)).mono ?_
    rintro e v3 ⟨D, kd, rfl, ho, hb⟩
    have HD := hide (Sl.of_ownN ho)
    have HCAP := hide (own_cap ho)
    have HI1 := hide (show (fun w' => Blk w' w.heap.size 84 #[.int .i64 n, .int .i64 s] ∧ Below v2.heap.size v2 w') v3 from ⟨HI3.out.1.below hb HI3.out.1.lt, Below.step HI3.out.2 hb⟩)
    clear ho
    replace HBX := hide (HBX.out.step hb)
    clear hb
    simp only []
    refine hK.out _ _ HI1.out (fun hHeld => ?_)
    clear hK K
    try simp only [Act.put, List.setIfInBounds_toArray, List.set_cons_zero, List.set_cons_succ]
    refine wpAnyH_ready (rs := [6]) (by kernel_rfl) (by simp) ?_
    refine AllReadyH.cons rfl (fun K hK => ?_) AllReadyH.nil
    go_simp
    refine (HSY.out _ _ _ HCAP.out (HD.out)).mono ?_
    rintro e v4 ⟨rfl, hb⟩
    have HI2 := hide (show (fun w' => Blk w' w.heap.size 84 #[.int .i64 n, .int .i64 s] ∧ Below v2.heap.size v2 w') v4 from ⟨HI1.out.1.below hb HI1.out.1.lt, Below.step HI1.out.2 hb⟩)
    clear HD HCAP
    replace HBX := hide (HBX.out.step hb)
    clear hb
    simp only []
    refine hK.out _ _ HI2.out (fun hHeld => ?_)
    clear hK K
    try simp only [Act.put, List.setIfInBounds_toArray, List.set_cons_zero, List.set_cons_succ]
    refine take_at (i := 7) 32 (v := .tuple #[.agg (numArr [] 8), .int .i64 E2]) rfl rfl (by kernel_rfl) (by kernel_rfl) (by kernel_rfl) (fun _ _ _ h => h) (Or.inl ⟨by rfl, by intro w hSw; go_simp⟩) (by assumption) ?_
    try simp only [Act.put, List.setIfInBounds_toArray, List.set_cons_zero, List.set_cons_succ]
    refine take_at (i := 8) 40 (v := .agg (numArr [] 8)) rfl rfl (by kernel_rfl) (by kernel_rfl) (by kernel_rfl) (fun _ _ _ h => h) (Or.inl ⟨by rfl, by intro w hSw; go_simp⟩) (by assumption) ?_
    try simp only [Act.put, List.setIfInBounds_toArray, List.set_cons_zero, List.set_cons_succ]
    refine take_at (i := 9) 41 (v := .int .i64 E2) rfl rfl (by kernel_rfl) (by kernel_rfl) (by kernel_rfl) (fun _ _ _ h => h) (Or.inl ⟨by rfl, by intro w hSw; go_simp⟩) (by assumption) ?_
    try simp only [Act.put, List.setIfInBounds_toArray, List.set_cons_zero, List.set_cons_succ]
    refine wpAnyH_ready (rs := [11]) (by kernel_rfl) (by simp) ?_
    refine AllReadyH.cons rfl (fun K hK => ?_) AllReadyH.nil
    refine step_store_row rfl 96 (.tmp 9) (.tmp 40) rfl v2.heap.size (numArr [] 8) rfl rfl 96 (numArr [] 8) HBX.out.now (by rw [HBZ.out]; kernel_rfl) (by first | (rw [HBZ.out]; rfl) | rw [HBZ.out]) hb2 ?_
    have HI4 := hide (show (fun w' => Blk w' w.heap.size 84 #[.int .i64 n, .int .i64 s] ∧ Below v2.heap.size v2 w') (v4.setRow v2.heap.size (numArr [] 8)) from ⟨HI2.out.1.rowFar (by have := HI0.out.1.lt; have := HI0.out.2.size; have := HLE.out; have e0 : v2.drew.heap.size = v2.heap.size := rfl; omega) _, Below.row HI2.out.2 (by have := HLE.out; have e0 : v2.drew.heap.size = v2.heap.size := rfl; omega) _⟩)
    replace HBX := hide (stay_blk (HBX.out.now.row (numArr [] 8)))
    refine hK.out _ _ HI4.out (fun hHeld => ?_)
    clear hK K
    try simp only [Act.put, List.setIfInBounds_toArray]
    refine take_at (i := 12) 10 (v := .int .i64 E2) rfl rfl (by kernel_rfl) (by kernel_rfl) (by kernel_rfl) (fun _ _ _ h => h) (Or.inl ⟨by rfl, by intro w hSw; go_simp⟩) (by assumption) ?_
    try simp only [Act.put]
    refine wpAnyH_done (by kernel_rfl) ?_ _
    replace HT := hide (HT.out.step HI4.out.2)
    replace HSL := hide (HSL.out.step HI4.out.2)
    obtain ⟨v5, hv5⟩ : ∃ v5, v4.setRow v2.heap.size (numArr [] 8) = v5 := ⟨_, rfl⟩
    rw [hv5] at HT HSL HBX
    rw [show v4.setRow v2.heap.size (numArr [] 8) = v5 from hv5]
    clear hv5
    obtain ⟨g, hg⟩ : ∃ g, v2.heap.size = g := ⟨_, rfl⟩
    rw [hg] at HBX ⊢
    clear hg
    have hv4 := HBX.out.now.lt
    clear HI0 HI1 HI2 HI3 HI4 HLE
    all_goals
      obtain ⟨c0, c1⟩ := HT.out.now.1.2.two
      go_wp2_with (first
        | (go_at_call 81; go_must (refine (HSE.out _ _ _ HT.out.now.1.1.1).mono ?_; rintro e w3 ⟨rfl, hb⟩; replace HT := hide (HT.out.step hb); (try replace HSL := hide (HSL.out.step hb)); (try replace HSL2 := hide (HSL2.out.step hb)); replace HBX := hide (HBX.out.step hb); clear c0 c1; obtain ⟨c0, c1⟩ := HT.out.now.1.2.two; clear hb; simp only []))
        | (go_at_call 82; go_must (refine (HRS.out _ _ _ HT.out.now.1.1.1).mono ?_; rintro e w4 ⟨C2, q2, rfl, hc, hb⟩; have HSL2 := hide (stay_sl hc); clear hc; replace HT := hide (HT.out.step hb); (try replace HSL := hide (HSL.out.step hb)); (try replace HSL2 := hide (HSL2.out.step hb)); replace HBX := hide (HBX.out.step hb); clear c0 c1; obtain ⟨c0, c1⟩ := HT.out.now.1.2.two; clear hb; simp only []))
        | (go_at_call 52; go_must (refine (HSAME.out _ _ _ _ _ HSL.out.now (fun k hk => absurd hk (by simp [nvs]))).mono ?_; rintro e w5 ⟨rfl, q9, rfl⟩; replace HT := hide (HT.out.drewN q9); replace HBX := hide (HBX.out.drewN q9); clear c0 c1; obtain ⟨c0, c1⟩ := HT.out.now.1.2.two; simp only []))
        | (go_at_call 51; go_must (refine (HSM.out _ _ _ HT.out.now.1.1.2).mono ?_; rintro e w6 ⟨rfl, hb⟩; replace HT := hide (HT.out.step hb); (try replace HSL := hide (HSL.out.step hb)); (try replace HSL2 := hide (HSL2.out.step hb)); replace HBX := hide (HBX.out.step hb); clear c0 c1; obtain ⟨c0, c1⟩ := HT.out.now.1.2.two; clear hb; simp only []; have hz6 := (HT.out.now.2).size; have c2 := fun o => ((HT.out.alloc o).now.1.2.two).1; have c3 := fun o => ((HT.out.alloc o).now.1.2.two).2))
        | (go_at_call 83; go_must (refine (HGD.out _).mono ?_; rintro e w7 ⟨rfl, rfl⟩; simp only []))
        | (go_at_call 84; go_must (refine (HSYR.out _ _ _ (HT.out.alloc _).now.1.1.2).mono ?_; rintro e w8 ⟨rfl, hb⟩; have HZ := hide ((Blk.new _ 96 (numArr [] 8)).below hb (by simp)); replace HT := hide ((HT.out.alloc _).step hb); have hv6 := HBX.out.now.lt; replace HBX := hide ((HBX.out.alloc _).step hb); clear hb; simp only []))
        | (refine wpList_store_row rfl 96 (.tmp 13) (.tmp 77) rfl w6.heap.size (numArr [] 8) rfl rfl 96 (numArr [] 8) HZ.out (by rw [HBZ.out]; kernel_rfl) (by first | (rw [HBZ.out]; rfl) | rw [HBZ.out]) hb2 ?_; have HZ2 := hide (HZ.out.row (numArr [] 8)); have HBY := hide (HBX.out.now.rowFar (show g ≠ w6.heap.size by omega) (numArr [] 8)))
        | (refine wpList_load_rowG 96 (.tmp 9) rfl (by rfl) (g) rfl 96 (numArr [] 8) _ (HBY.out) Try.underlying96 rfl (by rw [HBZ.out]; kernel_rfl) ?_)
        | (refine wpList_load_rowG 96 (.tmp 13) rfl (by rfl) (w6.heap.size) rfl 96 (numArr [] 8) _ (HZ2.out) Try.underlying96 rfl (by rw [HBZ.out]; kernel_rfl) ?_)
        | (refine wpList_load_rowG 96 (.tmp 9) rfl (by rfl) (g) rfl 96 (numArr [] 8) _ (HBX.out.now.alloc _) Try.underlying96 rfl (by rw [HBZ.out]; kernel_rfl) ?_)
        | (refine wpList_load_rowG 96 (.tmp 13) rfl (by rfl) (w6.heap.size) rfl 96 (numArr [] 8) _ (Blk.new _ _ _) Try.underlying96 rfl (by rw [HBZ.out]; kernel_rfl) ?_))
      go_ret
      exact ⟨rfl, HT.out.now.2.alloc (HT.out.now.2).size _⟩
  · go_enter Try.func13, Try.ntmps13
    go_wp2_with (go_at_call 20; go_must (refine (awake_ok _).mono ?_; rintro e w1 ⟨rfl, hb⟩; have HT := hide (HT0.out.step hb); clear hb; simp only []))
    have HH0 := hide (show (fun w' => Blk w' w.heap.size 84 #[.int .i64 n, .int .i64 s] ∧ Below w1.heap.size w1 w') w1.drew from ⟨HT.out.now.1.2, below_drewN (Below.refl _ _) 1⟩)
    refine wp_region_held_drew (S := fun w' => Blk w' w.heap.size 84 #[.int .i64 n, .int .i64 s] ∧ Below w1.heap.size w1 w') (by kernel_rfl) HH0.out (fun hHeld => ?_)
    refine take_at (i := 0) 25 (v := .slice A l.length c) rfl rfl (by kernel_rfl) (by kernel_rfl) (by kernel_rfl) (fun _ _ _ h => h) (Or.inl ⟨by rfl, by intro w hSw; go_simp⟩) (by assumption) ?_
    try simp only [Act.put, List.setIfInBounds_toArray, List.set_cons_zero, List.set_cons_succ]
    refine take_at (i := 2) 27 (v := .pointer (some ⟨w.heap.size, 0, none⟩)) rfl rfl (by kernel_rfl) (by kernel_rfl) (by kernel_rfl) (fun _ _ _ h => h) (Or.inl ⟨by rfl, by intro w hSw; go_simp⟩) (by assumption) ?_
    try simp only [Act.put, List.setIfInBounds_toArray, List.set_cons_zero, List.set_cons_succ]
    refine take_at (i := 3) 28 (v := .int .i64 n) rfl rfl (by kernel_rfl) (by kernel_rfl) (by kernel_rfl) (fun _ _ _ h => h) (Or.inl ⟨by rfl, by intro w hSw; obtain ⟨q0, q1⟩ := hSw.1.two; go_simp⟩) (by assumption) ?_
    try simp only [Act.put, List.setIfInBounds_toArray, List.set_cons_zero, List.set_cons_succ]
    refine wpAnyH_ready (rs := [1]) (by kernel_rfl) (by simp) ?_
    refine AllReadyH.cons rfl (fun K hK => ?_) AllReadyH.nil
    go_simp
    refine (HCS.out _ (HT.out.drew.now.1.1.1)).mono ?_
    rintro e v1 ⟨D, kd, rfl, ho, hb⟩
    have HD := hide (Sl.of_ownN ho)
    have HH1 := hide (show (fun w' => Blk w' w.heap.size 84 #[.int .i64 n, .int .i64 s] ∧ Below w1.heap.size w1 w') v1 from ⟨HH0.out.1.below hb HH0.out.1.lt, Below.step HH0.out.2 hb⟩)
    clear ho
    clear hb
    simp only []
    refine hK.out _ _ HH1.out (fun hHeld => ?_)
    clear hK K
    try simp only [Act.put, List.setIfInBounds_toArray, List.set_cons_zero, List.set_cons_succ]
    refine wpAnyH_ready (rs := [4]) (by kernel_rfl) (by simp) ?_
    refine AllReadyH.cons rfl (fun K hK => ?_) AllReadyH.nil
    go_simp
    refine (HSTR.out _ _ _ HD.out).mono ?_
    rintro e v2 ⟨C, q, rfl, hc, hb⟩
    have HH2 := hide (show (fun w' => Blk w' w.heap.size 84 #[.int .i64 n, .int .i64 s] ∧ Below w1.heap.size w1 w') v2 from ⟨HH1.out.1.below hb HH1.out.1.lt, Below.step HH1.out.2 hb⟩)
    have HSL := hide (stay_sl hc)
    clear hc HD
    clear hb
    simp only []
    refine hK.out _ _ HH2.out (fun hHeld => ?_)
    clear hK K
    try simp only [Act.put, List.setIfInBounds_toArray, List.set_cons_zero, List.set_cons_succ]
    refine take_at (i := 5) 24 (v := .tuple #[.slice C 0 q, .int .i64 E]) rfl rfl (by kernel_rfl) (by kernel_rfl) (by kernel_rfl) (fun _ _ _ h => h) (Or.inl ⟨by rfl, by intro w hSw; go_simp⟩) (by assumption) ?_
    try simp only [Act.put, List.setIfInBounds_toArray, List.set_cons_zero, List.set_cons_succ]
    refine take_at (i := 6) 30 (v := .slice C 0 q) rfl rfl (by kernel_rfl) (by kernel_rfl) (by kernel_rfl) (fun _ _ _ h => h) (Or.inl ⟨by rfl, by intro w hSw; go_simp⟩) (by assumption) ?_
    try simp only [Act.put, List.setIfInBounds_toArray, List.set_cons_zero, List.set_cons_succ]
    refine take_at (i := 7) 31 (v := .int .i64 E) rfl rfl (by kernel_rfl) (by kernel_rfl) (by kernel_rfl) (fun _ _ _ h => h) (Or.inl ⟨by rfl, by intro w hSw; go_simp⟩) (by assumption) ?_
    try simp only [Act.put, List.setIfInBounds_toArray, List.set_cons_zero, List.set_cons_succ]
    refine take_at (i := 8) 7 (v := .slice C 0 q) rfl rfl (by kernel_rfl) (by kernel_rfl) (by kernel_rfl) (fun _ _ _ h => h) (Or.inl ⟨by rfl, by intro w hSw; go_simp⟩) (by assumption) ?_
    try simp only [Act.put, List.setIfInBounds_toArray, List.set_cons_zero, List.set_cons_succ]
    refine take_at (i := 9) 8 (v := .int .i64 E) rfl rfl (by kernel_rfl) (by kernel_rfl) (by kernel_rfl) (fun _ _ _ h => h) (Or.inl ⟨by rfl, by intro w hSw; go_simp⟩) (by assumption) ?_
    try simp only [Act.put, List.setIfInBounds_toArray, List.set_cons_zero, List.set_cons_succ]
    refine wpAnyH_done (by kernel_rfl) ?_ _
    replace HT := hide (HT.out.step HH2.out.2)
    go_wp2
    have HI0 := hide (show (fun w' => Blk w' w.heap.size 84 #[.int .i64 n, .int .i64 s] ∧ Below v2.heap.size v2 w') v2.drew from ⟨HT.out.now.1.2, below_drewN (Below.refl _ _) 1⟩)
    refine wp_region_held_drew (S := fun w' => Blk w' w.heap.size 84 #[.int .i64 n, .int .i64 s] ∧ Below v2.heap.size v2 w') (by kernel_rfl) HI0.out (fun hHeld => ?_)
    refine take_at (i := 0) 33 (v := .slice B x.length d) rfl rfl (by kernel_rfl) (by kernel_rfl) (by kernel_rfl) (fun _ _ _ h => h) (Or.inl ⟨by rfl, by intro w hSw; go_simp⟩) (by assumption) ?_
    try simp only [Act.put, List.setIfInBounds_toArray, List.set_cons_zero, List.set_cons_succ]
    refine take_at (i := 2) 35 (v := .pointer (some ⟨w.heap.size, 0, none⟩)) rfl rfl (by kernel_rfl) (by kernel_rfl) (by kernel_rfl) (fun _ _ _ h => h) (Or.inl ⟨by rfl, by intro w hSw; go_simp⟩) (by assumption) ?_
    try simp only [Act.put, List.setIfInBounds_toArray, List.set_cons_zero, List.set_cons_succ]
    refine take_at (i := 3) 36 (v := .int .i64 n) rfl rfl (by kernel_rfl) (by kernel_rfl) (by kernel_rfl) (fun _ _ _ h => h) (Or.inl ⟨by rfl, by intro w hSw; obtain ⟨q0, q1⟩ := hSw.1.two; go_simp⟩) (by assumption) ?_
    try simp only [Act.put, List.setIfInBounds_toArray, List.set_cons_zero, List.set_cons_succ]
    refine take_at (i := 4) 37 (v := .pointer (some ⟨w.heap.size, 1, none⟩)) rfl rfl (by kernel_rfl) (by kernel_rfl) (by kernel_rfl) (fun _ _ _ h => h) (Or.inl ⟨by rfl, by intro w hSw; go_simp⟩) (by assumption) ?_
    try simp only [Act.put, List.setIfInBounds_toArray, List.set_cons_zero, List.set_cons_succ]
    refine take_at (i := 5) 38 (v := .int .i64 s) rfl rfl (by kernel_rfl) (by kernel_rfl) (by kernel_rfl) (fun _ _ _ h => h) (Or.inl ⟨by rfl, by intro w hSw; obtain ⟨q0, q1⟩ := hSw.1.two; go_simp⟩) (by assumption) ?_
    try simp only [Act.put, List.setIfInBounds_toArray, List.set_cons_zero, List.set_cons_succ]
    refine wpAnyH_ready (rs := [1, 10]) (by kernel_rfl) (by simp) ?_
    refine AllReadyH.cons rfl (fun K hK => ?_) (AllReadyH.cons rfl (fun K hK => ?_) AllReadyH.nil)
    go_simp
    refine (HCN.out _ (HT.out.drew.now.1.1.2)).mono ?_
    rintro e v3 ⟨D, kd, rfl, ho, hb⟩
    have HD := hide (Sl.of_ownN ho)
    have HCAP := hide (own_cap ho)
    have HI1 := hide (show (fun w' => Blk w' w.heap.size 84 #[.int .i64 n, .int .i64 s] ∧ Below v2.heap.size v2 w') v3 from ⟨HI0.out.1.below hb HI0.out.1.lt, Below.step HI0.out.2 hb⟩)
    clear ho
    clear hb
    simp only []
    refine hK.out _ _ HI1.out (fun hHeld => ?_)
    clear hK K
    try simp only [Act.put, List.setIfInBounds_toArray, List.set_cons_zero, List.set_cons_succ]
    refine wpAnyH_ready (rs := [6, 10]) (by kernel_rfl) (by simp) ?_
    refine AllReadyH.cons rfl (fun K hK => ?_) (AllReadyH.cons rfl (fun K hK => ?_) AllReadyH.nil)
    go_simp
    refine (HSY.out _ _ _ HCAP.out (HD.out)).mono ?_
    rintro e v4 ⟨rfl, hb⟩
    have HI2 := hide (show (fun w' => Blk w' w.heap.size 84 #[.int .i64 n, .int .i64 s] ∧ Below v2.heap.size v2 w') v4 from ⟨HI1.out.1.below hb HI1.out.1.lt, Below.step HI1.out.2 hb⟩)
    clear HD HCAP
    clear hb
    simp only []
    refine hK.out _ _ HI2.out (fun hHeld => ?_)
    clear hK K
    try simp only [Act.put, List.setIfInBounds_toArray, List.set_cons_zero, List.set_cons_succ]
    refine take_at (i := 7) 32 (v := .tuple #[.agg (numArr [] 8), .int .i64 E2]) rfl rfl (by kernel_rfl) (by kernel_rfl) (by kernel_rfl) (fun _ _ _ h => h) (Or.inl ⟨by rfl, by intro w hSw; go_simp⟩) (by assumption) ?_
    try simp only [Act.put, List.setIfInBounds_toArray, List.set_cons_zero, List.set_cons_succ]
    refine take_at (i := 8) 40 (v := .agg (numArr [] 8)) rfl rfl (by kernel_rfl) (by kernel_rfl) (by kernel_rfl) (fun _ _ _ h => h) (Or.inl ⟨by rfl, by intro w hSw; go_simp⟩) (by assumption) ?_
    try simp only [Act.put, List.setIfInBounds_toArray, List.set_cons_zero, List.set_cons_succ]
    refine take_at (i := 9) 41 (v := .int .i64 E2) rfl rfl (by kernel_rfl) (by kernel_rfl) (by kernel_rfl) (fun _ _ _ h => h) (Or.inl ⟨by rfl, by intro w hSw; go_simp⟩) (by assumption) ?_
    try simp only [Act.put, List.setIfInBounds_toArray, List.set_cons_zero, List.set_cons_succ]
    refine wpAnyH_ready (rs := [10]) (by kernel_rfl) (by simp) ?_
    refine AllReadyH.cons rfl (fun K hK => ?_) AllReadyH.nil
    go_simp
    have HI3 := hide (show (fun w' => Blk w' w.heap.size 84 #[.int .i64 n, .int .i64 s] ∧ Below v2.heap.size v2 w') (v4.alloc (.cells (numArr [] 8) 96)) from ⟨HI2.out.1.alloc _, HI2.out.2.alloc HI2.out.2.size _⟩)
    have HBX := hide (show Stay (v4.alloc (.cells (numArr [] 8) 96)) (fun W => Blk W v4.heap.size 96 (numArr [] 8)) from stay_new v4 96 (numArr [] 8))
    refine hK.out _ _ HI3.out (fun hHeld => ?_)
    clear hK K
    try simp only [Act.put, List.setIfInBounds_toArray, List.set_cons_zero, List.set_cons_succ]
    have HLE := hide HI2.out.2.size
    refine wpAnyH_ready (rs := [11]) (by kernel_rfl) (by simp) ?_
    refine AllReadyH.cons rfl (fun K hK => ?_) AllReadyH.nil
    refine step_store_row rfl 96 (.tmp 9) (.tmp 40) rfl v4.heap.size (numArr [] 8) rfl rfl 96 (numArr [] 8) HBX.out.now (by rw [HBZ.out]; kernel_rfl) (by first | (rw [HBZ.out]; rfl) | rw [HBZ.out]) hb2 ?_
    have HI4 := hide (show (fun w' => Blk w' w.heap.size 84 #[.int .i64 n, .int .i64 s] ∧ Below v2.heap.size v2 w') ((v4.alloc (.cells (numArr [] 8) 96)).setRow v4.heap.size (numArr [] 8)) from ⟨HI3.out.1.rowFar (by have := HI0.out.1.lt; have := HI0.out.2.size; have := HLE.out; have e0 : v2.drew.heap.size = v2.heap.size := rfl; omega) _, Below.row HI3.out.2 (by have := HLE.out; have e0 : v2.drew.heap.size = v2.heap.size := rfl; omega) _⟩)
    replace HBX := hide (stay_blk (HBX.out.now.row (numArr [] 8)))
    refine hK.out _ _ HI4.out (fun hHeld => ?_)
    clear hK K
    try simp only [Act.put, List.setIfInBounds_toArray]
    refine take_at (i := 12) 10 (v := .int .i64 E2) rfl rfl (by kernel_rfl) (by kernel_rfl) (by kernel_rfl) (fun _ _ _ h => h) (Or.inl ⟨by rfl, by intro w hSw; go_simp⟩) (by assumption) ?_
    try simp only [Act.put]
    refine wpAnyH_done (by kernel_rfl) ?_ _
    replace HT := hide (HT.out.step HI4.out.2)
    replace HSL := hide (HSL.out.step HI4.out.2)
    obtain ⟨v5, hv5⟩ : ∃ v5, (v4.alloc (.cells (numArr [] 8) 96)).setRow v4.heap.size (numArr [] 8) = v5 := ⟨_, rfl⟩
    rw [hv5] at HT HSL HBX
    rw [show (v4.alloc (.cells #[.int .i64 0, .int .i64 0, .int .i64 0, .int .i64 0, .int .i64 0, .int .i64 0, .int .i64 0, .int .i64 0, .int .i64 0, .int .i64 0, .int .i64 0, .int .i64 0, .int .i64 0, .int .i64 0, .int .i64 0, .int .i64 0, .int .i64 0, .int .i64 0, .int .i64 0, .int .i64 0, .int .i64 0, .int .i64 0, .int .i64 0, .int .i64 0, .int .i64 0, .int .i64 0, .int .i64 0, .int .i64 0, .int .i64 0, .int .i64 0, .int .i64 0, .int .i64 0] 96)).setRow v4.heap.size (numArr [] 8) = v5 from hv5]
    clear hv5
    obtain ⟨g, hg⟩ : ∃ g, v4.heap.size = g := ⟨_, rfl⟩
    rw [hg] at HBX ⊢
    clear hg
    have hv4 := HBX.out.now.lt
    clear HI0 HI1 HI2 HI3 HI4 HLE
    rotate_left
    go_simp
    have HI3 := hide (show (fun w' => Blk w' w.heap.size 84 #[.int .i64 n, .int .i64 s] ∧ Below v2.heap.size v2 w') (v3.alloc (.cells (numArr [] 8) 96)) from ⟨HI1.out.1.alloc _, HI1.out.2.alloc HI1.out.2.size _⟩)
    have HBX := hide (show Stay (v3.alloc (.cells (numArr [] 8) 96)) (fun W => Blk W v3.heap.size 96 (numArr [] 8)) from stay_new v3 96 (numArr [] 8))
    refine hK.out _ _ HI3.out (fun hHeld => ?_)
    clear hK K
    try simp only [Act.put, List.setIfInBounds_toArray, List.set_cons_zero, List.set_cons_succ]
    have HLE := hide HI1.out.2.size
    refine wpAnyH_ready (rs := [6]) (by kernel_rfl) (by simp) ?_
    refine AllReadyH.cons rfl (fun K hK => ?_) AllReadyH.nil
    go_simp
    refine (HSY.out _ _ _ HCAP.out (HD.out.alloc _)).mono ?_
    rintro e v4 ⟨rfl, hb⟩
    have HI2 := hide (show (fun w' => Blk w' w.heap.size 84 #[.int .i64 n, .int .i64 s] ∧ Below v2.heap.size v2 w') v4 from ⟨HI3.out.1.below hb HI3.out.1.lt, Below.step HI3.out.2 hb⟩)
    clear HD HCAP
    replace HBX := hide (HBX.out.step hb)
    clear hb
    simp only []
    refine hK.out _ _ HI2.out (fun hHeld => ?_)
    clear hK K
    try simp only [Act.put, List.setIfInBounds_toArray, List.set_cons_zero, List.set_cons_succ]
    refine take_at (i := 7) 32 (v := .tuple #[.agg (numArr [] 8), .int .i64 E2]) rfl rfl (by kernel_rfl) (by kernel_rfl) (by kernel_rfl) (fun _ _ _ h => h) (Or.inl ⟨by rfl, by intro w hSw; go_simp⟩) (by assumption) ?_
    try simp only [Act.put, List.setIfInBounds_toArray, List.set_cons_zero, List.set_cons_succ]
    refine take_at (i := 8) 40 (v := .agg (numArr [] 8)) rfl rfl (by kernel_rfl) (by kernel_rfl) (by kernel_rfl) (fun _ _ _ h => h) (Or.inl ⟨by rfl, by intro w hSw; go_simp⟩) (by assumption) ?_
    try simp only [Act.put, List.setIfInBounds_toArray, List.set_cons_zero, List.set_cons_succ]
    refine take_at (i := 9) 41 (v := .int .i64 E2) rfl rfl (by kernel_rfl) (by kernel_rfl) (by kernel_rfl) (fun _ _ _ h => h) (Or.inl ⟨by rfl, by intro w hSw; go_simp⟩) (by assumption) ?_
    try simp only [Act.put, List.setIfInBounds_toArray, List.set_cons_zero, List.set_cons_succ]
    refine wpAnyH_ready (rs := [11]) (by kernel_rfl) (by simp) ?_
    refine AllReadyH.cons rfl (fun K hK => ?_) AllReadyH.nil
    refine step_store_row rfl 96 (.tmp 9) (.tmp 40) rfl v3.heap.size (numArr [] 8) rfl rfl 96 (numArr [] 8) HBX.out.now (by rw [HBZ.out]; kernel_rfl) (by first | (rw [HBZ.out]; rfl) | rw [HBZ.out]) hb2 ?_
    have HI4 := hide (show (fun w' => Blk w' w.heap.size 84 #[.int .i64 n, .int .i64 s] ∧ Below v2.heap.size v2 w') (v4.setRow v3.heap.size (numArr [] 8)) from ⟨HI2.out.1.rowFar (by have := HI0.out.1.lt; have := HI0.out.2.size; have := HLE.out; have e0 : v2.drew.heap.size = v2.heap.size := rfl; omega) _, Below.row HI2.out.2 (by have := HLE.out; have e0 : v2.drew.heap.size = v2.heap.size := rfl; omega) _⟩)
    replace HBX := hide (stay_blk (HBX.out.now.row (numArr [] 8)))
    refine hK.out _ _ HI4.out (fun hHeld => ?_)
    clear hK K
    try simp only [Act.put, List.setIfInBounds_toArray]
    refine take_at (i := 12) 10 (v := .int .i64 E2) rfl rfl (by kernel_rfl) (by kernel_rfl) (by kernel_rfl) (fun _ _ _ h => h) (Or.inl ⟨by rfl, by intro w hSw; go_simp⟩) (by assumption) ?_
    try simp only [Act.put]
    refine wpAnyH_done (by kernel_rfl) ?_ _
    replace HT := hide (HT.out.step HI4.out.2)
    replace HSL := hide (HSL.out.step HI4.out.2)
    obtain ⟨v5, hv5⟩ : ∃ v5, v4.setRow v3.heap.size (numArr [] 8) = v5 := ⟨_, rfl⟩
    rw [hv5] at HT HSL HBX
    rw [show v4.setRow v3.heap.size (numArr [] 8) = v5 from hv5]
    clear hv5
    obtain ⟨g, hg⟩ : ∃ g, v3.heap.size = g := ⟨_, rfl⟩
    rw [hg] at HBX ⊢
    clear hg
    have hv4 := HBX.out.now.lt
    clear HI0 HI1 HI2 HI3 HI4 HLE
    rotate_left
    go_simp
    have HI3 := hide (show (fun w' => Blk w' w.heap.size 84 #[.int .i64 n, .int .i64 s] ∧ Below v2.heap.size v2 w') (v2.drew.alloc (.cells (numArr [] 8) 96)) from ⟨HI0.out.1.alloc _, HI0.out.2.alloc HI0.out.2.size _⟩)
    have HBX := hide (show Stay (v2.drew.alloc (.cells (numArr [] 8) 96)) (fun W => Blk W v2.heap.size 96 (numArr [] 8)) from stay_new v2.drew 96 (numArr [] 8))
    refine hK.out _ _ HI3.out (fun hHeld => ?_)
    clear hK K
    try simp only [Act.put, List.setIfInBounds_toArray, List.set_cons_zero, List.set_cons_succ]
    have HLE := hide HI0.out.2.size
    refine wpAnyH_ready (rs := [1]) (by kernel_rfl) (by simp) ?_
    refine AllReadyH.cons rfl (fun K hK => ?_) AllReadyH.nil
    go_simp
    refine (HCN.out _ ((HT.out.drew.alloc _).now.1.1.2)).mono ?_
    rintro e v3 ⟨D, kd, rfl, ho, hb⟩
    have HD := hide (Sl.of_ownN ho)
    have HCAP := hide (own_cap ho)
    have HI1 := hide (show (fun w' => Blk w' w.heap.size 84 #[.int .i64 n, .int .i64 s] ∧ Below v2.heap.size v2 w') v3 from ⟨HI3.out.1.below hb HI3.out.1.lt, Below.step HI3.out.2 hb⟩)
    clear ho
    replace HBX := hide (HBX.out.step hb)
    clear hb
    simp only []
    refine hK.out _ _ HI1.out (fun hHeld => ?_)
    clear hK K
    try simp only [Act.put, List.setIfInBounds_toArray, List.set_cons_zero, List.set_cons_succ]
    refine wpAnyH_ready (rs := [6]) (by kernel_rfl) (by simp) ?_
    refine AllReadyH.cons rfl (fun K hK => ?_) AllReadyH.nil
    go_simp
    refine (HSY.out _ _ _ HCAP.out (HD.out)).mono ?_
    rintro e v4 ⟨rfl, hb⟩
    have HI2 := hide (show (fun w' => Blk w' w.heap.size 84 #[.int .i64 n, .int .i64 s] ∧ Below v2.heap.size v2 w') v4 from ⟨HI1.out.1.below hb HI1.out.1.lt, Below.step HI1.out.2 hb⟩)
    clear HD HCAP
    replace HBX := hide (HBX.out.step hb)
    clear hb
    simp only []
    refine hK.out _ _ HI2.out (fun hHeld => ?_)
    clear hK K
    try simp only [Act.put, List.setIfInBounds_toArray, List.set_cons_zero, List.set_cons_succ]
    refine take_at (i := 7) 32 (v := .tuple #[.agg (numArr [] 8), .int .i64 E2]) rfl rfl (by kernel_rfl) (by kernel_rfl) (by kernel_rfl) (fun _ _ _ h => h) (Or.inl ⟨by rfl, by intro w hSw; go_simp⟩) (by assumption) ?_
    try simp only [Act.put, List.setIfInBounds_toArray, List.set_cons_zero, List.set_cons_succ]
    refine take_at (i := 8) 40 (v := .agg (numArr [] 8)) rfl rfl (by kernel_rfl) (by kernel_rfl) (by kernel_rfl) (fun _ _ _ h => h) (Or.inl ⟨by rfl, by intro w hSw; go_simp⟩) (by assumption) ?_
    try simp only [Act.put, List.setIfInBounds_toArray, List.set_cons_zero, List.set_cons_succ]
    refine take_at (i := 9) 41 (v := .int .i64 E2) rfl rfl (by kernel_rfl) (by kernel_rfl) (by kernel_rfl) (fun _ _ _ h => h) (Or.inl ⟨by rfl, by intro w hSw; go_simp⟩) (by assumption) ?_
    try simp only [Act.put, List.setIfInBounds_toArray, List.set_cons_zero, List.set_cons_succ]
    refine wpAnyH_ready (rs := [11]) (by kernel_rfl) (by simp) ?_
    refine AllReadyH.cons rfl (fun K hK => ?_) AllReadyH.nil
    refine step_store_row rfl 96 (.tmp 9) (.tmp 40) rfl v2.heap.size (numArr [] 8) rfl rfl 96 (numArr [] 8) HBX.out.now (by rw [HBZ.out]; kernel_rfl) (by first | (rw [HBZ.out]; rfl) | rw [HBZ.out]) hb2 ?_
    have HI4 := hide (show (fun w' => Blk w' w.heap.size 84 #[.int .i64 n, .int .i64 s] ∧ Below v2.heap.size v2 w') (v4.setRow v2.heap.size (numArr [] 8)) from ⟨HI2.out.1.rowFar (by have := HI0.out.1.lt; have := HI0.out.2.size; have := HLE.out; have e0 : v2.drew.heap.size = v2.heap.size := rfl; omega) _, Below.row HI2.out.2 (by have := HLE.out; have e0 : v2.drew.heap.size = v2.heap.size := rfl; omega) _⟩)
    replace HBX := hide (stay_blk (HBX.out.now.row (numArr [] 8)))
    refine hK.out _ _ HI4.out (fun hHeld => ?_)
    clear hK K
    try simp only [Act.put, List.setIfInBounds_toArray]
    refine take_at (i := 12) 10 (v := .int .i64 E2) rfl rfl (by kernel_rfl) (by kernel_rfl) (by kernel_rfl) (fun _ _ _ h => h) (Or.inl ⟨by rfl, by intro w hSw; go_simp⟩) (by assumption) ?_
    try simp only [Act.put]
    refine wpAnyH_done (by kernel_rfl) ?_ _
    replace HT := hide (HT.out.step HI4.out.2)
    replace HSL := hide (HSL.out.step HI4.out.2)
    obtain ⟨v5, hv5⟩ : ∃ v5, v4.setRow v2.heap.size (numArr [] 8) = v5 := ⟨_, rfl⟩
    rw [hv5] at HT HSL HBX
    rw [show v4.setRow v2.heap.size (numArr [] 8) = v5 from hv5]
    clear hv5
    obtain ⟨g, hg⟩ : ∃ g, v2.heap.size = g := ⟨_, rfl⟩
    rw [hg] at HBX ⊢
    clear hg
    have hv4 := HBX.out.now.lt
    clear HI0 HI1 HI2 HI3 HI4 HLE
    all_goals
      obtain ⟨c0, c1⟩ := HT.out.now.1.2.two
      go_wp2_with (first
        | (go_at_call 81; go_must (refine (HSE.out _ _ _ HT.out.now.1.1.1).mono ?_; rintro e w3 ⟨rfl, hb⟩; replace HT := hide (HT.out.step hb); (try replace HSL := hide (HSL.out.step hb)); (try replace HSL2 := hide (HSL2.out.step hb)); replace HBX := hide (HBX.out.step hb); clear c0 c1; obtain ⟨c0, c1⟩ := HT.out.now.1.2.two; clear hb; simp only []))
        | (go_at_call 82; go_must (refine (HRS.out _ _ _ HT.out.now.1.1.1).mono ?_; rintro e w4 ⟨C2, q2, rfl, hc, hb⟩; have HSL2 := hide (stay_sl hc); clear hc; replace HT := hide (HT.out.step hb); (try replace HSL := hide (HSL.out.step hb)); (try replace HSL2 := hide (HSL2.out.step hb)); replace HBX := hide (HBX.out.step hb); clear c0 c1; obtain ⟨c0, c1⟩ := HT.out.now.1.2.two; clear hb; simp only []))
        | (go_at_call 52; go_must (refine (HSAME.out _ _ _ _ _ HSL.out.now (fun k hk => absurd hk (by simp [nvs]))).mono ?_; rintro e w5 ⟨rfl, q9, rfl⟩; replace HT := hide (HT.out.drewN q9); replace HBX := hide (HBX.out.drewN q9); clear c0 c1; obtain ⟨c0, c1⟩ := HT.out.now.1.2.two; simp only []))
        | (go_at_call 51; go_must (refine (HSM.out _ _ _ HT.out.now.1.1.2).mono ?_; rintro e w6 ⟨rfl, hb⟩; replace HT := hide (HT.out.step hb); (try replace HSL := hide (HSL.out.step hb)); (try replace HSL2 := hide (HSL2.out.step hb)); replace HBX := hide (HBX.out.step hb); clear c0 c1; obtain ⟨c0, c1⟩ := HT.out.now.1.2.two; clear hb; simp only []; have hz6 := (HT.out.now.2).size; have c2 := fun o => ((HT.out.alloc o).now.1.2.two).1; have c3 := fun o => ((HT.out.alloc o).now.1.2.two).2))
        | (go_at_call 83; go_must (refine (HGD.out _).mono ?_; rintro e w7 ⟨rfl, rfl⟩; simp only []))
        | (go_at_call 84; go_must (refine (HSYR.out _ _ _ (HT.out.alloc _).now.1.1.2).mono ?_; rintro e w8 ⟨rfl, hb⟩; have HZ := hide ((Blk.new _ 96 (numArr [] 8)).below hb (by simp)); replace HT := hide ((HT.out.alloc _).step hb); have hv6 := HBX.out.now.lt; replace HBX := hide ((HBX.out.alloc _).step hb); clear hb; simp only []))
        | (refine wpList_store_row rfl 96 (.tmp 13) (.tmp 77) rfl w6.heap.size (numArr [] 8) rfl rfl 96 (numArr [] 8) HZ.out (by rw [HBZ.out]; kernel_rfl) (by first | (rw [HBZ.out]; rfl) | rw [HBZ.out]) hb2 ?_; have HZ2 := hide (HZ.out.row (numArr [] 8)); have HBY := hide (HBX.out.now.rowFar (show g ≠ w6.heap.size by omega) (numArr [] 8)))
        | (refine wpList_load_rowG 96 (.tmp 9) rfl (by rfl) (g) rfl 96 (numArr [] 8) _ (HBY.out) Try.underlying96 rfl (by rw [HBZ.out]; kernel_rfl) ?_)
        | (refine wpList_load_rowG 96 (.tmp 13) rfl (by rfl) (w6.heap.size) rfl 96 (numArr [] 8) _ (HZ2.out) Try.underlying96 rfl (by rw [HBZ.out]; kernel_rfl) ?_)
        | (refine wpList_load_rowG 96 (.tmp 9) rfl (by rfl) (g) rfl 96 (numArr [] 8) _ (HBX.out.now.alloc _) Try.underlying96 rfl (by rw [HBZ.out]; kernel_rfl) ?_)
        | (refine wpList_load_rowG 96 (.tmp 13) rfl (by rfl) (w6.heap.size) rfl 96 (numArr [] 8) _ (Blk.new _ _ _) Try.underlying96 rfl (by rw [HBZ.out]; kernel_rfl) ?_))
      go_ret
      exact ⟨rfl, HT.out.now.2.alloc (HT.out.now.2).size _⟩
  · go_enter Try.func13, Try.ntmps13
    go_wp2_with (go_at_call 20; go_must (refine (awake_ok _).mono ?_; rintro e w1 ⟨rfl, hb⟩; have HT := hide (HT0.out.step hb); clear hb; simp only []))
    have HH0 := hide (show (fun w' => Blk w' w.heap.size 84 #[.int .i64 n, .int .i64 s] ∧ Below w1.heap.size w1 w') w1.drew from ⟨HT.out.now.1.2, below_drewN (Below.refl _ _) 1⟩)
    refine wp_region_held_drew (S := fun w' => Blk w' w.heap.size 84 #[.int .i64 n, .int .i64 s] ∧ Below w1.heap.size w1 w') (by kernel_rfl) HH0.out (fun hHeld => ?_)
    refine take_at (i := 0) 25 (v := .slice A l.length c) rfl rfl (by kernel_rfl) (by kernel_rfl) (by kernel_rfl) (fun _ _ _ h => h) (Or.inl ⟨by rfl, by intro w hSw; go_simp⟩) (by assumption) ?_
    try simp only [Act.put, List.setIfInBounds_toArray, List.set_cons_zero, List.set_cons_succ]
    refine take_at (i := 2) 27 (v := .pointer (some ⟨w.heap.size, 0, none⟩)) rfl rfl (by kernel_rfl) (by kernel_rfl) (by kernel_rfl) (fun _ _ _ h => h) (Or.inl ⟨by rfl, by intro w hSw; go_simp⟩) (by assumption) ?_
    try simp only [Act.put, List.setIfInBounds_toArray, List.set_cons_zero, List.set_cons_succ]
    refine take_at (i := 3) 28 (v := .int .i64 n) rfl rfl (by kernel_rfl) (by kernel_rfl) (by kernel_rfl) (fun _ _ _ h => h) (Or.inl ⟨by rfl, by intro w hSw; obtain ⟨q0, q1⟩ := hSw.1.two; go_simp⟩) (by assumption) ?_
    try simp only [Act.put, List.setIfInBounds_toArray, List.set_cons_zero, List.set_cons_succ]
    refine wpAnyH_ready (rs := [1]) (by kernel_rfl) (by simp) ?_
    refine AllReadyH.cons rfl (fun K hK => ?_) AllReadyH.nil
    go_simp
    refine (HCS.out _ (HT.out.drew.now.1.1.1)).mono ?_
    rintro e v1 ⟨D, kd, rfl, ho, hb⟩
    have HD := hide (Sl.of_ownN ho)
    have HH1 := hide (show (fun w' => Blk w' w.heap.size 84 #[.int .i64 n, .int .i64 s] ∧ Below w1.heap.size w1 w') v1 from ⟨HH0.out.1.below hb HH0.out.1.lt, Below.step HH0.out.2 hb⟩)
    clear ho
    clear hb
    simp only []
    refine hK.out _ _ HH1.out (fun hHeld => ?_)
    clear hK K
    try simp only [Act.put, List.setIfInBounds_toArray, List.set_cons_zero, List.set_cons_succ]
    refine wpAnyH_ready (rs := [4]) (by kernel_rfl) (by simp) ?_
    refine AllReadyH.cons rfl (fun K hK => ?_) AllReadyH.nil
    go_simp
    refine (HSTR.out _ _ _ HD.out).mono ?_
    rintro e v2 ⟨C, q, rfl, hc, hb⟩
    have HH2 := hide (show (fun w' => Blk w' w.heap.size 84 #[.int .i64 n, .int .i64 s] ∧ Below w1.heap.size w1 w') v2 from ⟨HH1.out.1.below hb HH1.out.1.lt, Below.step HH1.out.2 hb⟩)
    have HSL := hide (stay_sl hc)
    clear hc HD
    clear hb
    simp only []
    refine hK.out _ _ HH2.out (fun hHeld => ?_)
    clear hK K
    try simp only [Act.put, List.setIfInBounds_toArray, List.set_cons_zero, List.set_cons_succ]
    refine take_at (i := 5) 24 (v := .tuple #[.slice C 0 q, .int .i64 E]) rfl rfl (by kernel_rfl) (by kernel_rfl) (by kernel_rfl) (fun _ _ _ h => h) (Or.inl ⟨by rfl, by intro w hSw; go_simp⟩) (by assumption) ?_
    try simp only [Act.put, List.setIfInBounds_toArray, List.set_cons_zero, List.set_cons_succ]
    refine take_at (i := 6) 30 (v := .slice C 0 q) rfl rfl (by kernel_rfl) (by kernel_rfl) (by kernel_rfl) (fun _ _ _ h => h) (Or.inl ⟨by rfl, by intro w hSw; go_simp⟩) (by assumption) ?_
    try simp only [Act.put, List.setIfInBounds_toArray, List.set_cons_zero, List.set_cons_succ]
    refine take_at (i := 7) 31 (v := .int .i64 E) rfl rfl (by kernel_rfl) (by kernel_rfl) (by kernel_rfl) (fun _ _ _ h => h) (Or.inl ⟨by rfl, by intro w hSw; go_simp⟩) (by assumption) ?_
    try simp only [Act.put, List.setIfInBounds_toArray, List.set_cons_zero, List.set_cons_succ]
    refine take_at (i := 8) 7 (v := .slice C 0 q) rfl rfl (by kernel_rfl) (by kernel_rfl) (by kernel_rfl) (fun _ _ _ h => h) (Or.inl ⟨by rfl, by intro w hSw; go_simp⟩) (by assumption) ?_
    try simp only [Act.put, List.setIfInBounds_toArray, List.set_cons_zero, List.set_cons_succ]
    refine take_at (i := 9) 8 (v := .int .i64 E) rfl rfl (by kernel_rfl) (by kernel_rfl) (by kernel_rfl) (fun _ _ _ h => h) (Or.inl ⟨by rfl, by intro w hSw; go_simp⟩) (by assumption) ?_
    try simp only [Act.put, List.setIfInBounds_toArray, List.set_cons_zero, List.set_cons_succ]
    refine wpAnyH_done (by kernel_rfl) ?_ _
    replace HT := hide (HT.out.step HH2.out.2)
    go_wp2
    have HI0 := hide (show (fun w' => Blk w' w.heap.size 84 #[.int .i64 n, .int .i64 s] ∧ Below v2.heap.size v2 w') v2.drew from ⟨HT.out.now.1.2, below_drewN (Below.refl _ _) 1⟩)
    refine wp_region_held_drew (S := fun w' => Blk w' w.heap.size 84 #[.int .i64 n, .int .i64 s] ∧ Below v2.heap.size v2 w') (by kernel_rfl) HI0.out (fun hHeld => ?_)
    refine take_at (i := 0) 33 (v := .slice B x.length d) rfl rfl (by kernel_rfl) (by kernel_rfl) (by kernel_rfl) (fun _ _ _ h => h) (Or.inl ⟨by rfl, by intro w hSw; go_simp⟩) (by assumption) ?_
    try simp only [Act.put, List.setIfInBounds_toArray, List.set_cons_zero, List.set_cons_succ]
    refine take_at (i := 2) 35 (v := .pointer (some ⟨w.heap.size, 0, none⟩)) rfl rfl (by kernel_rfl) (by kernel_rfl) (by kernel_rfl) (fun _ _ _ h => h) (Or.inl ⟨by rfl, by intro w hSw; go_simp⟩) (by assumption) ?_
    try simp only [Act.put, List.setIfInBounds_toArray, List.set_cons_zero, List.set_cons_succ]
    refine take_at (i := 3) 36 (v := .int .i64 n) rfl rfl (by kernel_rfl) (by kernel_rfl) (by kernel_rfl) (fun _ _ _ h => h) (Or.inl ⟨by rfl, by intro w hSw; obtain ⟨q0, q1⟩ := hSw.1.two; go_simp⟩) (by assumption) ?_
    try simp only [Act.put, List.setIfInBounds_toArray, List.set_cons_zero, List.set_cons_succ]
    refine take_at (i := 4) 37 (v := .pointer (some ⟨w.heap.size, 1, none⟩)) rfl rfl (by kernel_rfl) (by kernel_rfl) (by kernel_rfl) (fun _ _ _ h => h) (Or.inl ⟨by rfl, by intro w hSw; go_simp⟩) (by assumption) ?_
    try simp only [Act.put, List.setIfInBounds_toArray, List.set_cons_zero, List.set_cons_succ]
    refine take_at (i := 5) 38 (v := .int .i64 s) rfl rfl (by kernel_rfl) (by kernel_rfl) (by kernel_rfl) (fun _ _ _ h => h) (Or.inl ⟨by rfl, by intro w hSw; obtain ⟨q0, q1⟩ := hSw.1.two; go_simp⟩) (by assumption) ?_
    try simp only [Act.put, List.setIfInBounds_toArray, List.set_cons_zero, List.set_cons_succ]
    refine wpAnyH_ready (rs := [1, 10]) (by kernel_rfl) (by simp) ?_
    refine AllReadyH.cons rfl (fun K hK => ?_) (AllReadyH.cons rfl (fun K hK => ?_) AllReadyH.nil)
    go_simp
    refine (HCN.out _ (HT.out.drew.now.1.1.2)).mono ?_
    rintro e v3 ⟨D, kd, rfl, ho, hb⟩
    have HD := hide (Sl.of_ownN ho)
    have HCAP := hide (own_cap ho)
    have HI1 := hide (show (fun w' => Blk w' w.heap.size 84 #[.int .i64 n, .int .i64 s] ∧ Below v2.heap.size v2 w') v3 from ⟨HI0.out.1.below hb HI0.out.1.lt, Below.step HI0.out.2 hb⟩)
    clear ho
    clear hb
    simp only []
    refine hK.out _ _ HI1.out (fun hHeld => ?_)
    clear hK K
    try simp only [Act.put, List.setIfInBounds_toArray, List.set_cons_zero, List.set_cons_succ]
    refine wpAnyH_ready (rs := [6, 10]) (by kernel_rfl) (by simp) ?_
    refine AllReadyH.cons rfl (fun K hK => ?_) (AllReadyH.cons rfl (fun K hK => ?_) AllReadyH.nil)
    go_simp
    refine (HSY.out _ _ _ HCAP.out (HD.out)).mono ?_
    rintro e v4 ⟨rfl, hb⟩
    have HI2 := hide (show (fun w' => Blk w' w.heap.size 84 #[.int .i64 n, .int .i64 s] ∧ Below v2.heap.size v2 w') v4 from ⟨HI1.out.1.below hb HI1.out.1.lt, Below.step HI1.out.2 hb⟩)
    clear HD HCAP
    clear hb
    simp only []
    refine hK.out _ _ HI2.out (fun hHeld => ?_)
    clear hK K
    try simp only [Act.put, List.setIfInBounds_toArray, List.set_cons_zero, List.set_cons_succ]
    refine take_at (i := 7) 32 (v := .tuple #[.agg BB, .int .i64 E2]) rfl rfl (by kernel_rfl) (by kernel_rfl) (by kernel_rfl) (fun _ _ _ h => h) (Or.inl ⟨by rfl, by intro w hSw; go_simp⟩) (by assumption) ?_
    try simp only [Act.put, List.setIfInBounds_toArray, List.set_cons_zero, List.set_cons_succ]
    refine take_at (i := 8) 40 (v := .agg BB) rfl rfl (by kernel_rfl) (by kernel_rfl) (by kernel_rfl) (fun _ _ _ h => h) (Or.inl ⟨by rfl, by intro w hSw; go_simp⟩) (by assumption) ?_
    try simp only [Act.put, List.setIfInBounds_toArray, List.set_cons_zero, List.set_cons_succ]
    refine take_at (i := 9) 41 (v := .int .i64 E2) rfl rfl (by kernel_rfl) (by kernel_rfl) (by kernel_rfl) (fun _ _ _ h => h) (Or.inl ⟨by rfl, by intro w hSw; go_simp⟩) (by assumption) ?_
    try simp only [Act.put, List.setIfInBounds_toArray, List.set_cons_zero, List.set_cons_succ]
    refine wpAnyH_ready (rs := [10]) (by kernel_rfl) (by simp) ?_
    refine AllReadyH.cons rfl (fun K hK => ?_) AllReadyH.nil
    go_simp
    have HI3 := hide (show (fun w' => Blk w' w.heap.size 84 #[.int .i64 n, .int .i64 s] ∧ Below v2.heap.size v2 w') (v4.alloc (.cells (numArr [] 8) 96)) from ⟨HI2.out.1.alloc _, HI2.out.2.alloc HI2.out.2.size _⟩)
    have HBX := hide (show Stay (v4.alloc (.cells (numArr [] 8) 96)) (fun W => Blk W v4.heap.size 96 (numArr [] 8)) from stay_new v4 96 (numArr [] 8))
    refine hK.out _ _ HI3.out (fun hHeld => ?_)
    clear hK K
    try simp only [Act.put, List.setIfInBounds_toArray, List.set_cons_zero, List.set_cons_succ]
    have HLE := hide HI2.out.2.size
    refine wpAnyH_ready (rs := [11]) (by kernel_rfl) (by simp) ?_
    refine AllReadyH.cons rfl (fun K hK => ?_) AllReadyH.nil
    refine step_store_row rfl 96 (.tmp 9) (.tmp 40) rfl v4.heap.size BB rfl rfl 96 (numArr [] 8) HBX.out.now (by rw [HBZ.out]; kernel_rfl) (by first | (rw [HBZ.out]; rfl) | rw [HBZ.out]) hb2 ?_
    have HI4 := hide (show (fun w' => Blk w' w.heap.size 84 #[.int .i64 n, .int .i64 s] ∧ Below v2.heap.size v2 w') ((v4.alloc (.cells (numArr [] 8) 96)).setRow v4.heap.size BB) from ⟨HI3.out.1.rowFar (by have := HI0.out.1.lt; have := HI0.out.2.size; have := HLE.out; have e0 : v2.drew.heap.size = v2.heap.size := rfl; omega) _, Below.row HI3.out.2 (by have := HLE.out; have e0 : v2.drew.heap.size = v2.heap.size := rfl; omega) _⟩)
    replace HBX := hide (stay_blk (HBX.out.now.row BB))
    refine hK.out _ _ HI4.out (fun hHeld => ?_)
    clear hK K
    try simp only [Act.put, List.setIfInBounds_toArray]
    refine take_at (i := 12) 10 (v := .int .i64 E2) rfl rfl (by kernel_rfl) (by kernel_rfl) (by kernel_rfl) (fun _ _ _ h => h) (Or.inl ⟨by rfl, by intro w hSw; go_simp⟩) (by assumption) ?_
    try simp only [Act.put]
    refine wpAnyH_done (by kernel_rfl) ?_ _
    replace HT := hide (HT.out.step HI4.out.2)
    replace HSL := hide (HSL.out.step HI4.out.2)
    obtain ⟨v5, hv5⟩ : ∃ v5, (v4.alloc (.cells (numArr [] 8) 96)).setRow v4.heap.size BB = v5 := ⟨_, rfl⟩
    rw [hv5] at HT HSL HBX
    rw [show (v4.alloc (.cells #[.int .i64 0, .int .i64 0, .int .i64 0, .int .i64 0, .int .i64 0, .int .i64 0, .int .i64 0, .int .i64 0, .int .i64 0, .int .i64 0, .int .i64 0, .int .i64 0, .int .i64 0, .int .i64 0, .int .i64 0, .int .i64 0, .int .i64 0, .int .i64 0, .int .i64 0, .int .i64 0, .int .i64 0, .int .i64 0, .int .i64 0, .int .i64 0, .int .i64 0, .int .i64 0, .int .i64 0, .int .i64 0, .int .i64 0, .int .i64 0, .int .i64 0, .int .i64 0] 96)).setRow v4.heap.size BB = v5 from hv5]
    clear hv5
    obtain ⟨g, hg⟩ : ∃ g, v4.heap.size = g := ⟨_, rfl⟩
    rw [hg] at HBX ⊢
    clear hg
    have hv4 := HBX.out.now.lt
    clear HI0 HI1 HI2 HI3 HI4 HLE
    rotate_left
    go_simp
    have HI3 := hide (show (fun w' => Blk w' w.heap.size 84 #[.int .i64 n, .int .i64 s] ∧ Below v2.heap.size v2 w') (v3.alloc (.cells (numArr [] 8) 96)) from ⟨HI1.out.1.alloc _, HI1.out.2.alloc HI1.out.2.size _⟩)
    have HBX := hide (show Stay (v3.alloc (.cells (numArr [] 8) 96)) (fun W => Blk W v3.heap.size 96 (numArr [] 8)) from stay_new v3 96 (numArr [] 8))
    refine hK.out _ _ HI3.out (fun hHeld => ?_)
    clear hK K
    try simp only [Act.put, List.setIfInBounds_toArray, List.set_cons_zero, List.set_cons_succ]
    have HLE := hide HI1.out.2.size
    refine wpAnyH_ready (rs := [6]) (by kernel_rfl) (by simp) ?_
    refine AllReadyH.cons rfl (fun K hK => ?_) AllReadyH.nil
    go_simp
    refine (HSY.out _ _ _ HCAP.out (HD.out.alloc _)).mono ?_
    rintro e v4 ⟨rfl, hb⟩
    have HI2 := hide (show (fun w' => Blk w' w.heap.size 84 #[.int .i64 n, .int .i64 s] ∧ Below v2.heap.size v2 w') v4 from ⟨HI3.out.1.below hb HI3.out.1.lt, Below.step HI3.out.2 hb⟩)
    clear HD HCAP
    replace HBX := hide (HBX.out.step hb)
    clear hb
    simp only []
    refine hK.out _ _ HI2.out (fun hHeld => ?_)
    clear hK K
    try simp only [Act.put, List.setIfInBounds_toArray, List.set_cons_zero, List.set_cons_succ]
    refine take_at (i := 7) 32 (v := .tuple #[.agg BB, .int .i64 E2]) rfl rfl (by kernel_rfl) (by kernel_rfl) (by kernel_rfl) (fun _ _ _ h => h) (Or.inl ⟨by rfl, by intro w hSw; go_simp⟩) (by assumption) ?_
    try simp only [Act.put, List.setIfInBounds_toArray, List.set_cons_zero, List.set_cons_succ]
    refine take_at (i := 8) 40 (v := .agg BB) rfl rfl (by kernel_rfl) (by kernel_rfl) (by kernel_rfl) (fun _ _ _ h => h) (Or.inl ⟨by rfl, by intro w hSw; go_simp⟩) (by assumption) ?_
    try simp only [Act.put, List.setIfInBounds_toArray, List.set_cons_zero, List.set_cons_succ]
    refine take_at (i := 9) 41 (v := .int .i64 E2) rfl rfl (by kernel_rfl) (by kernel_rfl) (by kernel_rfl) (fun _ _ _ h => h) (Or.inl ⟨by rfl, by intro w hSw; go_simp⟩) (by assumption) ?_
    try simp only [Act.put, List.setIfInBounds_toArray, List.set_cons_zero, List.set_cons_succ]
    refine wpAnyH_ready (rs := [11]) (by kernel_rfl) (by simp) ?_
    refine AllReadyH.cons rfl (fun K hK => ?_) AllReadyH.nil
    refine step_store_row rfl 96 (.tmp 9) (.tmp 40) rfl v3.heap.size BB rfl rfl 96 (numArr [] 8) HBX.out.now (by rw [HBZ.out]; kernel_rfl) (by first | (rw [HBZ.out]; rfl) | rw [HBZ.out]) hb2 ?_
    have HI4 := hide (show (fun w' => Blk w' w.heap.size 84 #[.int .i64 n, .int .i64 s] ∧ Below v2.heap.size v2 w') (v4.setRow v3.heap.size BB) from ⟨HI2.out.1.rowFar (by have := HI0.out.1.lt; have := HI0.out.2.size; have := HLE.out; have e0 : v2.drew.heap.size = v2.heap.size := rfl; omega) _, Below.row HI2.out.2 (by have := HLE.out; have e0 : v2.drew.heap.size = v2.heap.size := rfl; omega) _⟩)
    replace HBX := hide (stay_blk (HBX.out.now.row BB))
    refine hK.out _ _ HI4.out (fun hHeld => ?_)
    clear hK K
    try simp only [Act.put, List.setIfInBounds_toArray]
    refine take_at (i := 12) 10 (v := .int .i64 E2) rfl rfl (by kernel_rfl) (by kernel_rfl) (by kernel_rfl) (fun _ _ _ h => h) (Or.inl ⟨by rfl, by intro w hSw; go_simp⟩) (by assumption) ?_
    try simp only [Act.put]
    refine wpAnyH_done (by kernel_rfl) ?_ _
    replace HT := hide (HT.out.step HI4.out.2)
    replace HSL := hide (HSL.out.step HI4.out.2)
    obtain ⟨v5, hv5⟩ : ∃ v5, v4.setRow v3.heap.size BB = v5 := ⟨_, rfl⟩
    rw [hv5] at HT HSL HBX
    rw [show v4.setRow v3.heap.size BB = v5 from hv5]
    clear hv5
    obtain ⟨g, hg⟩ : ∃ g, v3.heap.size = g := ⟨_, rfl⟩
    rw [hg] at HBX ⊢
    clear hg
    have hv4 := HBX.out.now.lt
    clear HI0 HI1 HI2 HI3 HI4 HLE
    rotate_left
    go_simp
    have HI3 := hide (show (fun w' => Blk w' w.heap.size 84 #[.int .i64 n, .int .i64 s] ∧ Below v2.heap.size v2 w') (v2.drew.alloc (.cells (numArr [] 8) 96)) from ⟨HI0.out.1.alloc _, HI0.out.2.alloc HI0.out.2.size _⟩)
    have HBX := hide (show Stay (v2.drew.alloc (.cells (numArr [] 8) 96)) (fun W => Blk W v2.heap.size 96 (numArr [] 8)) from stay_new v2.drew 96 (numArr [] 8))
    refine hK.out _ _ HI3.out (fun hHeld => ?_)
    clear hK K
    try simp only [Act.put, List.setIfInBounds_toArray, List.set_cons_zero, List.set_cons_succ]
    have HLE := hide HI0.out.2.size
    refine wpAnyH_ready (rs := [1]) (by kernel_rfl) (by simp) ?_
    refine AllReadyH.cons rfl (fun K hK => ?_) AllReadyH.nil
    go_simp
    refine (HCN.out _ ((HT.out.drew.alloc _).now.1.1.2)).mono ?_
    rintro e v3 ⟨D, kd, rfl, ho, hb⟩
    have HD := hide (Sl.of_ownN ho)
    have HCAP := hide (own_cap ho)
    have HI1 := hide (show (fun w' => Blk w' w.heap.size 84 #[.int .i64 n, .int .i64 s] ∧ Below v2.heap.size v2 w') v3 from ⟨HI3.out.1.below hb HI3.out.1.lt, Below.step HI3.out.2 hb⟩)
    clear ho
    replace HBX := hide (HBX.out.step hb)
    clear hb
    simp only []
    refine hK.out _ _ HI1.out (fun hHeld => ?_)
    clear hK K
    try simp only [Act.put, List.setIfInBounds_toArray, List.set_cons_zero, List.set_cons_succ]
    refine wpAnyH_ready (rs := [6]) (by kernel_rfl) (by simp) ?_
    refine AllReadyH.cons rfl (fun K hK => ?_) AllReadyH.nil
    go_simp
    refine (HSY.out _ _ _ HCAP.out (HD.out)).mono ?_
    rintro e v4 ⟨rfl, hb⟩
    have HI2 := hide (show (fun w' => Blk w' w.heap.size 84 #[.int .i64 n, .int .i64 s] ∧ Below v2.heap.size v2 w') v4 from ⟨HI1.out.1.below hb HI1.out.1.lt, Below.step HI1.out.2 hb⟩)
    clear HD HCAP
    replace HBX := hide (HBX.out.step hb)
    clear hb
    simp only []
    refine hK.out _ _ HI2.out (fun hHeld => ?_)
    clear hK K
    try simp only [Act.put, List.setIfInBounds_toArray, List.set_cons_zero, List.set_cons_succ]
    refine take_at (i := 7) 32 (v := .tuple #[.agg BB, .int .i64 E2]) rfl rfl (by kernel_rfl) (by kernel_rfl) (by kernel_rfl) (fun _ _ _ h => h) (Or.inl ⟨by rfl, by intro w hSw; go_simp⟩) (by assumption) ?_
    try simp only [Act.put, List.setIfInBounds_toArray, List.set_cons_zero, List.set_cons_succ]
    refine take_at (i := 8) 40 (v := .agg BB) rfl rfl (by kernel_rfl) (by kernel_rfl) (by kernel_rfl) (fun _ _ _ h => h) (Or.inl ⟨by rfl, by intro w hSw; go_simp⟩) (by assumption) ?_
    try simp only [Act.put, List.setIfInBounds_toArray, List.set_cons_zero, List.set_cons_succ]
    refine take_at (i := 9) 41 (v := .int .i64 E2) rfl rfl (by kernel_rfl) (by kernel_rfl) (by kernel_rfl) (fun _ _ _ h => h) (Or.inl ⟨by rfl, by intro w hSw; go_simp⟩) (by assumption) ?_
    try simp only [Act.put, List.setIfInBounds_toArray, List.set_cons_zero, List.set_cons_succ]
    refine wpAnyH_ready (rs := [11]) (by kernel_rfl) (by simp) ?_
    refine AllReadyH.cons rfl (fun K hK => ?_) AllReadyH.nil
    refine step_store_row rfl 96 (.tmp 9) (.tmp 40) rfl v2.heap.size BB rfl rfl 96 (numArr [] 8) HBX.out.now (by rw [HBZ.out]; kernel_rfl) (by first | (rw [HBZ.out]; rfl) | rw [HBZ.out]) hb2 ?_
    have HI4 := hide (show (fun w' => Blk w' w.heap.size 84 #[.int .i64 n, .int .i64 s] ∧ Below v2.heap.size v2 w') (v4.setRow v2.heap.size BB) from ⟨HI2.out.1.rowFar (by have := HI0.out.1.lt; have := HI0.out.2.size; have := HLE.out; have e0 : v2.drew.heap.size = v2.heap.size := rfl; omega) _, Below.row HI2.out.2 (by have := HLE.out; have e0 : v2.drew.heap.size = v2.heap.size := rfl; omega) _⟩)
    replace HBX := hide (stay_blk (HBX.out.now.row BB))
    refine hK.out _ _ HI4.out (fun hHeld => ?_)
    clear hK K
    try simp only [Act.put, List.setIfInBounds_toArray]
    refine take_at (i := 12) 10 (v := .int .i64 E2) rfl rfl (by kernel_rfl) (by kernel_rfl) (by kernel_rfl) (fun _ _ _ h => h) (Or.inl ⟨by rfl, by intro w hSw; go_simp⟩) (by assumption) ?_
    try simp only [Act.put]
    refine wpAnyH_done (by kernel_rfl) ?_ _
    replace HT := hide (HT.out.step HI4.out.2)
    replace HSL := hide (HSL.out.step HI4.out.2)
    obtain ⟨v5, hv5⟩ : ∃ v5, v4.setRow v2.heap.size BB = v5 := ⟨_, rfl⟩
    rw [hv5] at HT HSL HBX
    rw [show v4.setRow v2.heap.size BB = v5 from hv5]
    clear hv5
    obtain ⟨g, hg⟩ : ∃ g, v2.heap.size = g := ⟨_, rfl⟩
    rw [hg] at HBX ⊢
    clear hg
    have hv4 := HBX.out.now.lt
    clear HI0 HI1 HI2 HI3 HI4 HLE
    all_goals
      obtain ⟨c0, c1⟩ := HT.out.now.1.2.two
      go_wp2_with (first
        | (go_at_call 81; go_must (refine (HSE.out _ _ _ HT.out.now.1.1.1).mono ?_; rintro e w3 ⟨rfl, hb⟩; replace HT := hide (HT.out.step hb); (try replace HSL := hide (HSL.out.step hb)); (try replace HSL2 := hide (HSL2.out.step hb)); replace HBX := hide (HBX.out.step hb); clear c0 c1; obtain ⟨c0, c1⟩ := HT.out.now.1.2.two; clear hb; simp only []))
        | (go_at_call 82; go_must (refine (HRS.out _ _ _ HT.out.now.1.1.1).mono ?_; rintro e w4 ⟨C2, q2, rfl, hc, hb⟩; have HSL2 := hide (stay_sl hc); clear hc; replace HT := hide (HT.out.step hb); (try replace HSL := hide (HSL.out.step hb)); (try replace HSL2 := hide (HSL2.out.step hb)); replace HBX := hide (HBX.out.step hb); clear c0 c1; obtain ⟨c0, c1⟩ := HT.out.now.1.2.two; clear hb; simp only []))
        | (go_at_call 52; go_must (refine (HSAME.out _ _ _ _ _ HSL.out.now (fun k hk => absurd hk (by simp [nvs]))).mono ?_; rintro e w5 ⟨rfl, q9, rfl⟩; replace HT := hide (HT.out.drewN q9); replace HBX := hide (HBX.out.drewN q9); clear c0 c1; obtain ⟨c0, c1⟩ := HT.out.now.1.2.two; simp only []))
        | (go_at_call 51; go_must (refine (HSM.out _ _ _ HT.out.now.1.1.2).mono ?_; rintro e w6 ⟨rfl, hb⟩; replace HT := hide (HT.out.step hb); (try replace HSL := hide (HSL.out.step hb)); (try replace HSL2 := hide (HSL2.out.step hb)); replace HBX := hide (HBX.out.step hb); clear c0 c1; obtain ⟨c0, c1⟩ := HT.out.now.1.2.two; clear hb; simp only []; have hz6 := (HT.out.now.2).size; have c2 := fun o => ((HT.out.alloc o).now.1.2.two).1; have c3 := fun o => ((HT.out.alloc o).now.1.2.two).2))
        | (go_at_call 83; go_must (refine (HGD.out _).mono ?_; rintro e w7 ⟨rfl, rfl⟩; simp only []))
        | (go_at_call 84; go_must (refine (HSYR.out _ _ _ (HT.out.alloc _).now.1.1.2).mono ?_; rintro e w8 ⟨rfl, hb⟩; have HZ := hide ((Blk.new _ 96 (numArr [] 8)).below hb (by simp)); replace HT := hide ((HT.out.alloc _).step hb); have hv6 := HBX.out.now.lt; replace HBX := hide ((HBX.out.alloc _).step hb); clear hb; simp only []))
        | (refine wpList_store_row rfl 96 (.tmp 13) (.tmp 77) rfl w6.heap.size BB rfl rfl 96 (numArr [] 8) HZ.out (by rw [HBZ.out]; kernel_rfl) (by first | (rw [HBZ.out]; rfl) | rw [HBZ.out]) hb2 ?_; have HZ2 := hide (HZ.out.row BB); have HBY := hide (HBX.out.now.rowFar (show g ≠ w6.heap.size by omega) BB))
        | (refine wpList_load_rowG 96 (.tmp 9) rfl (by rfl) (g) rfl 96 BB _ (HBY.out) Try.underlying96 rfl (by rw [HBZ.out]; kernel_rfl) ?_)
        | (refine wpList_load_rowG 96 (.tmp 13) rfl (by rfl) (w6.heap.size) rfl 96 BB _ (HZ2.out) Try.underlying96 rfl (by rw [HBZ.out]; kernel_rfl) ?_)
        | (refine wpList_load_rowG 96 (.tmp 9) rfl (by rfl) (g) rfl 96 BB _ (HBX.out.now.alloc _) Try.underlying96 rfl (by rw [HBZ.out]; kernel_rfl) ?_)
        | (refine wpList_load_rowG 96 (.tmp 13) rfl (by rfl) (w6.heap.size) rfl 96 BB _ (Blk.new _ _ _) Try.underlying96 rfl (by rw [HBZ.out]; kernel_rfl) ?_))
      go_ret
      exact ⟨rfl, Below.row HT.out.now.2 (by have := (HT.out.now.2).size; omega) _⟩
end Go.Proofs.Ythfmjohbokpceaa
