import Derived.Test.YtppkibgemacdbaaSdJ
namespace Go.Proofs.Ytppkibgemacdbaa
open Go.RowKit Go.WideShapes Go.ChangeShapes

/-! what a guaranteed bearer needs -/
/-- the bits of the bearer's least report -/
def tbO (T : List Int) (le : Int) : Int := T[le.toNat]?.getD 0
theorem tb_ok {B C P : Int} {T : List Int} {nm : Bs} {kd pr wt pw le bu ra de : Int} (hs2 : OkS B C P T) (ho : OkB T nm kd pr wt pw le bu ra de) (hk : kd ≠ 0) : 0 < tbO T le ∧ tbO T le ≤ 1000 := by
  obtain ⟨⟨l0, l1⟩, -, -, -, hT⟩ := ho.sure hk
  obtain ⟨t, rfl⟩ := Int.eq_ofNat_of_zero_le l0
  have htT : t < T.length := by omega
  unfold tbO
  rw [Int.toNat_natCast, List.getElem?_eq_getElem htT] at hT ⊢
  have := hs2.in_ t htT
  simp at hT ⊢
  omega
theorem need_bd {B C P : Int} {T : List Int} {nm : Bs} {kd pr wt pw le bu ra de : Int} (hs2 : OkS B C P T) (ho : OkB T nm kd pr wt pw le bu ra de) (hk : kd ≠ 0) : 1 ≤ needB ra bu de (tbO T le) ∧ needB ra bu de (tbO T le) ≤ 1000000 := by
  obtain ⟨t0, t1⟩ := tb_ok hs2 ho hk
  obtain ⟨-, hbu, hra, hde, -⟩ := ho.sure hk
  refine ⟨need_pos t0 (by omega) (by omega), ?_⟩
  unfold needB
  have h1 := ceil_bd (n := bu) (b := de) (by omega) (by omega)
  have h2 := ceil_nn (n := bu) (b := de) (by omega) (by omega)
  have h3 := ceil_bd (n := max ra (ceilI bu de)) (b := tbO T le) t0 (by omega)
  omega
set_option maxRecDepth 100000 in
set_option maxHeartbeats 8000000 in
theorem need_ok (B C P : Int) (A : Option Addr) (c n : Nat) (T : List Int) (nm : Bs) (kd pr wt pw le bu ra de : Int) (w : World) (hn : T.length = n) (hs : Sl w A (iv T)) (hs2 : OkS B C P T) (ho : OkB T nm kd pr wt pw le bu ra de) (hk : kd ≠ 0) :
    Calls Try.prog 40 #[.agg #[.int .i64 B, .int .i64 C, .int .i64 P, .slice A n c], .agg #[strV nm, .int .i64 kd, .int .i64 pr, .int .i64 wt, .int .i64 pw, .int .i64 le, .int .i64 bu, .int .i64 ra, .int .i64 de]] w fun e w' => e = .returned (.agg #[.int .i64 (needB ra bu de (tbO T le)), .int .i64 1, .int .i64 (needB ra bu de (tbO T le) * pw)]) ∧ Below w.heap.size w w' := by
  obtain ⟨t0, t1⟩ := tb_ok hs2 ho hk
  obtain ⟨n0, n1⟩ := need_bd hs2 ho hk
  obtain ⟨⟨l0, l1⟩, hbu, hra, hde, -⟩ := ho.sure hk
  have hpw := ho.pw_
  have hkd : (kd == 0) = false := by rw [beq_eq_false_iff_ne]; exact hk
  have q1 := ceil_bd (n := bu) (b := de) (by omega) (by omega)
  have q0 := ceil_nn (n := bu) (b := de) (by omega) (by omega)
  have HC1 := hide (fun W => ceil_sched bu de W (by omega) (by omega) (by omega) (by omega))
  have HC2 := hide (fun W => ceil_sched (max ra (ceilI bu de)) (tbO T le) W (by omega) (by omega) (by omega) (by omega))
  have hnb : ceilI (max ra (ceilI bu de)) (tbO T le) = needB ra bu de (tbO T le) := rfl
  rw [hnb] at HC2
  obtain ⟨NB, hNB⟩ : ∃ z, needB ra bu de (tbO T le) = z := ⟨_, rfl⟩
  rw [hNB] at HC2 n0 n1 ⊢
  obtain ⟨Q, hQ⟩ : ∃ z, ceilI bu de = z := ⟨_, rfl⟩
  rw [hQ] at HC1 HC2 q0 q1
  obtain ⟨t, ht⟩ := Int.eq_ofNat_of_zero_le l0
  have htT : t < T.length := by omega
  have htn : t < n := by omega
  obtain ⟨b, off, rfl, hd0⟩ := hs.int htT
  clear hd0
  have HTB := hide (fun W (h : Sl W (some ⟨b, off, none⟩) (iv T)) => show W.cell? ⟨b, off + t, none⟩ = some (.int .i64 T[t]) from by
    obtain ⟨b', off', e, d⟩ := h.int htT
    injection e with e
    injection e with e1 e2
    subst e1 e2
    exact d)
  have hx : T[t] = tbO T le := by unfold tbO; rw [ht, Int.toNat_natCast, List.getElem?_eq_getElem htT]; rfl
  rw [hx] at HTB
  obtain ⟨x, hx2⟩ : ∃ z, tbO T le = z := ⟨_, rfl⟩
  rw [hx2] at HTB HC2
  have g1 : (t : Int) < (n : Int) := by omega
  have hpp : 0 ≤ NB * pw ∧ NB * pw ≤ 1000000 * 100000 := ⟨Int.mul_nonneg (by omega) hpw.1, Int.mul_le_mul n1 hpw.2 hpw.1 (by omega)⟩
  have w1 : IntKind.i64.wrap (NB * pw) = NB * pw := IntWalk.i64_in _ (by omega)
  have HT := hide (((((stay_blk ((Blk.new w 74 #[.int .i64 B, .int .i64 C, .int .i64 P, .slice (some ⟨b, off, none⟩) n c]).alloc (.cells #[strV nm, .int .i64 kd, .int .i64 pr, .int .i64 wt, .int .i64 pw, .int .i64 le, .int .i64 bu, .int .i64 ra, .int .i64 de] 32))).alloc (.cells #[.int .i64 0, .int .i64 0, .int .i64 0] 51)).and ((stay_blk (blk_up w 74 32 #[.int .i64 B, .int .i64 C, .int .i64 P, .slice (some ⟨b, off, none⟩) n c] #[strV nm, .int .i64 kd, .int .i64 pr, .int .i64 wt, .int .i64 pw, .int .i64 le, .int .i64 bu, .int .i64 ra, .int .i64 de])).alloc (.cells #[.int .i64 0, .int .i64 0, .int .i64 0] 51))).and (stay_blk (blk_up2 w 74 32 51 #[.int .i64 B, .int .i64 C, .int .i64 P, .slice (some ⟨b, off, none⟩) n c] #[strV nm, .int .i64 kd, .int .i64 pr, .int .i64 wt, .int .i64 pw, .int .i64 le, .int .i64 bu, .int .i64 ra, .int .i64 de] #[.int .i64 0, .int .i64 0, .int .i64 0]))).and (((stay_sl (hs.alloc (.cells #[.int .i64 B, .int .i64 C, .int .i64 P, .slice (some ⟨b, off, none⟩) n c] 74))).alloc (.cells #[strV nm, .int .i64 kd, .int .i64 pr, .int .i64 wt, .int .i64 pw, .int .i64 le, .int .i64 bu, .int .i64 ra, .int .i64 de] 32)).alloc (.cells #[.int .i64 0, .int .i64 0, .int .i64 0] 51)) |>.and (stay_below ((((Below.refl _ w).alloc (Nat.le_refl _) (.cells #[.int .i64 B, .int .i64 C, .int .i64 P, .slice (some ⟨b, off, none⟩) n c] 74)).alloc (by simp) (.cells #[strV nm, .int .i64 kd, .int .i64 pr, .int .i64 wt, .int .i64 pw, .int .i64 le, .int .i64 bu, .int .i64 ra, .int .i64 de] 32)).alloc (by simp; omega) (.cells #[.int .i64 0, .int .i64 0, .int .i64 0] 51))))
  have HK := hide hk
  subst ht
  clear hs hs2 ho hk hn hnb hNB hQ htT hx hx2 t0 t1 n0 n1 l0 l1 hbu hde hpw hpp q1
  have HG := hide (fun W => guaranteed_sched nm kd pr wt pw (t : Int) bu ra de W)
  rcases (by omega : ra ≤ Q ∨ Q < ra) with hm | hm
  · have hmx : max ra Q = Q := by omega
    have hm2 : ¬ Q < ra := by omega
    go_enter Try.func40, Try.ntmps40
    have z0 : (((w.alloc (.cells #[.int .i64 B, .int .i64 C, .int .i64 P, .slice (some ⟨b, off, none⟩) n c] 74)).alloc (.cells #[strV nm, .int .i64 kd, .int .i64 pr, .int .i64 wt, .int .i64 pw, .int .i64 (t : Int), .int .i64 bu, .int .i64 ra, .int .i64 de] 32)).alloc (.cells #[.int .i64 0, .int .i64 0, .int .i64 0] 51)).cell? ⟨w.heap.size + 1, 0, none⟩ = some (strV nm) := HT.out.now.1.1.1.2.cell 0
    have z1 : (((w.alloc (.cells #[.int .i64 B, .int .i64 C, .int .i64 P, .slice (some ⟨b, off, none⟩) n c] 74)).alloc (.cells #[strV nm, .int .i64 kd, .int .i64 pr, .int .i64 wt, .int .i64 pw, .int .i64 (t : Int), .int .i64 bu, .int .i64 ra, .int .i64 de] 32)).alloc (.cells #[.int .i64 0, .int .i64 0, .int .i64 0] 51)).cell? ⟨w.heap.size + 1, 1, none⟩ = some (.int .i64 kd) := HT.out.now.1.1.1.2.cell 1
    have z2 : (((w.alloc (.cells #[.int .i64 B, .int .i64 C, .int .i64 P, .slice (some ⟨b, off, none⟩) n c] 74)).alloc (.cells #[strV nm, .int .i64 kd, .int .i64 pr, .int .i64 wt, .int .i64 pw, .int .i64 (t : Int), .int .i64 bu, .int .i64 ra, .int .i64 de] 32)).alloc (.cells #[.int .i64 0, .int .i64 0, .int .i64 0] 51)).cell? ⟨w.heap.size + 1, 2, none⟩ = some (.int .i64 pr) := HT.out.now.1.1.1.2.cell 2
    have z3 : (((w.alloc (.cells #[.int .i64 B, .int .i64 C, .int .i64 P, .slice (some ⟨b, off, none⟩) n c] 74)).alloc (.cells #[strV nm, .int .i64 kd, .int .i64 pr, .int .i64 wt, .int .i64 pw, .int .i64 (t : Int), .int .i64 bu, .int .i64 ra, .int .i64 de] 32)).alloc (.cells #[.int .i64 0, .int .i64 0, .int .i64 0] 51)).cell? ⟨w.heap.size + 1, 3, none⟩ = some (.int .i64 wt) := HT.out.now.1.1.1.2.cell 3
    have z4 : (((w.alloc (.cells #[.int .i64 B, .int .i64 C, .int .i64 P, .slice (some ⟨b, off, none⟩) n c] 74)).alloc (.cells #[strV nm, .int .i64 kd, .int .i64 pr, .int .i64 wt, .int .i64 pw, .int .i64 (t : Int), .int .i64 bu, .int .i64 ra, .int .i64 de] 32)).alloc (.cells #[.int .i64 0, .int .i64 0, .int .i64 0] 51)).cell? ⟨w.heap.size + 1, 4, none⟩ = some (.int .i64 pw) := HT.out.now.1.1.1.2.cell 4
    have z5 : (((w.alloc (.cells #[.int .i64 B, .int .i64 C, .int .i64 P, .slice (some ⟨b, off, none⟩) n c] 74)).alloc (.cells #[strV nm, .int .i64 kd, .int .i64 pr, .int .i64 wt, .int .i64 pw, .int .i64 (t : Int), .int .i64 bu, .int .i64 ra, .int .i64 de] 32)).alloc (.cells #[.int .i64 0, .int .i64 0, .int .i64 0] 51)).cell? ⟨w.heap.size + 1, 5, none⟩ = some (.int .i64 (t : Int)) := HT.out.now.1.1.1.2.cell 5
    have z6 : (((w.alloc (.cells #[.int .i64 B, .int .i64 C, .int .i64 P, .slice (some ⟨b, off, none⟩) n c] 74)).alloc (.cells #[strV nm, .int .i64 kd, .int .i64 pr, .int .i64 wt, .int .i64 pw, .int .i64 (t : Int), .int .i64 bu, .int .i64 ra, .int .i64 de] 32)).alloc (.cells #[.int .i64 0, .int .i64 0, .int .i64 0] 51)).cell? ⟨w.heap.size + 1, 6, none⟩ = some (.int .i64 bu) := HT.out.now.1.1.1.2.cell 6
    have z7 : (((w.alloc (.cells #[.int .i64 B, .int .i64 C, .int .i64 P, .slice (some ⟨b, off, none⟩) n c] 74)).alloc (.cells #[strV nm, .int .i64 kd, .int .i64 pr, .int .i64 wt, .int .i64 pw, .int .i64 (t : Int), .int .i64 bu, .int .i64 ra, .int .i64 de] 32)).alloc (.cells #[.int .i64 0, .int .i64 0, .int .i64 0] 51)).cell? ⟨w.heap.size + 1, 7, none⟩ = some (.int .i64 ra) := HT.out.now.1.1.1.2.cell 7
    have z8 : (((w.alloc (.cells #[.int .i64 B, .int .i64 C, .int .i64 P, .slice (some ⟨b, off, none⟩) n c] 74)).alloc (.cells #[strV nm, .int .i64 kd, .int .i64 pr, .int .i64 wt, .int .i64 pw, .int .i64 (t : Int), .int .i64 bu, .int .i64 ra, .int .i64 de] 32)).alloc (.cells #[.int .i64 0, .int .i64 0, .int .i64 0] 51)).cell? ⟨w.heap.size + 1, 8, none⟩ = some (.int .i64 de) := HT.out.now.1.1.1.2.cell 8
    go_wp2_with fail
    go_at_call 38
    refine (HG.out _).mono ?_
    rintro e w1 ⟨rfl, hb⟩
    rw [hkd]
    replace HT := hide (HT.out.step hb)
    clear hb z0 z1 z2 z3 z4 z5 z6 z7 z8
    simp only []
    go_wp2_with fail
    have HL := hide (fun W (h : Below w1.heap.size w1 W) => And.intro (HT.out W h).1.1.1 (HTB.out W (HT.out W h).1.2))
    refine wp_region_held_drew (S := fun w' => Below w1.heap.size w1 w') (by kernel_rfl) (below_drewN (Below.refl _ _) 1) (fun hHeld => ?_)
    refine take_at (i := 0) 10 (v := .pointer (some ⟨w.heap.size + 1, 7, none⟩)) rfl rfl (by kernel_rfl) (by kernel_rfl) (by kernel_rfl) (fun _ _ _ h => h) (Or.inl ⟨by rfl, by intro w hSw; go_simp⟩) (by assumption) ?_
    try simp only [Act.put, List.setIfInBounds_toArray, List.set_cons_zero, List.set_cons_succ]
    refine take_at (i := 1) 11 (v := .int .i64 ra) rfl rfl (by kernel_rfl) (by kernel_rfl) (by kernel_rfl) (fun _ _ _ h => h) (Or.inl ⟨by rfl, by intro w_ hSw; have hb := HL.out w_ hSw; have c3 : w_.cell? ⟨w.heap.size, 3, none⟩ = some (.slice (some ⟨b, off, none⟩) n c) := hb.1.1.cell 3; have d5 : w_.cell? ⟨w.heap.size + 1, 5, none⟩ = some (.int .i64 (t : Int)) := hb.1.2.cell 5; have d6 : w_.cell? ⟨w.heap.size + 1, 6, none⟩ = some (.int .i64 bu) := hb.1.2.cell 6; have d7 : w_.cell? ⟨w.heap.size + 1, 7, none⟩ = some (.int .i64 ra) := hb.1.2.cell 7; have d8 : w_.cell? ⟨w.heap.size + 1, 8, none⟩ = some (.int .i64 de) := hb.1.2.cell 8; have ct : w_.cell? ⟨b, off + t, none⟩ = some (.int .i64 x) := hb.2; go_simp⟩) (by assumption) ?_
    try simp only [Act.put, List.setIfInBounds_toArray, List.set_cons_zero, List.set_cons_succ]
    refine take_at (i := 2) 12 (v := .pointer (some ⟨w.heap.size + 1, 6, none⟩)) rfl rfl (by kernel_rfl) (by kernel_rfl) (by kernel_rfl) (fun _ _ _ h => h) (Or.inl ⟨by rfl, by intro w hSw; go_simp⟩) (by assumption) ?_
    try simp only [Act.put, List.setIfInBounds_toArray, List.set_cons_zero, List.set_cons_succ]
    refine take_at (i := 3) 13 (v := .int .i64 bu) rfl rfl (by kernel_rfl) (by kernel_rfl) (by kernel_rfl) (fun _ _ _ h => h) (Or.inl ⟨by rfl, by intro w_ hSw; have hb := HL.out w_ hSw; have c3 : w_.cell? ⟨w.heap.size, 3, none⟩ = some (.slice (some ⟨b, off, none⟩) n c) := hb.1.1.cell 3; have d5 : w_.cell? ⟨w.heap.size + 1, 5, none⟩ = some (.int .i64 (t : Int)) := hb.1.2.cell 5; have d6 : w_.cell? ⟨w.heap.size + 1, 6, none⟩ = some (.int .i64 bu) := hb.1.2.cell 6; have d7 : w_.cell? ⟨w.heap.size + 1, 7, none⟩ = some (.int .i64 ra) := hb.1.2.cell 7; have d8 : w_.cell? ⟨w.heap.size + 1, 8, none⟩ = some (.int .i64 de) := hb.1.2.cell 8; have ct : w_.cell? ⟨b, off + t, none⟩ = some (.int .i64 x) := hb.2; go_simp⟩) (by assumption) ?_
    try simp only [Act.put, List.setIfInBounds_toArray, List.set_cons_zero, List.set_cons_succ]
    refine take_at (i := 4) 14 (v := .pointer (some ⟨w.heap.size + 1, 8, none⟩)) rfl rfl (by kernel_rfl) (by kernel_rfl) (by kernel_rfl) (fun _ _ _ h => h) (Or.inl ⟨by rfl, by intro w hSw; go_simp⟩) (by assumption) ?_
    try simp only [Act.put, List.setIfInBounds_toArray, List.set_cons_zero, List.set_cons_succ]
    refine take_at (i := 5) 15 (v := .int .i64 de) rfl rfl (by kernel_rfl) (by kernel_rfl) (by kernel_rfl) (fun _ _ _ h => h) (Or.inl ⟨by rfl, by intro w_ hSw; have hb := HL.out w_ hSw; have c3 : w_.cell? ⟨w.heap.size, 3, none⟩ = some (.slice (some ⟨b, off, none⟩) n c) := hb.1.1.cell 3; have d5 : w_.cell? ⟨w.heap.size + 1, 5, none⟩ = some (.int .i64 (t : Int)) := hb.1.2.cell 5; have d6 : w_.cell? ⟨w.heap.size + 1, 6, none⟩ = some (.int .i64 bu) := hb.1.2.cell 6; have d7 : w_.cell? ⟨w.heap.size + 1, 7, none⟩ = some (.int .i64 ra) := hb.1.2.cell 7; have d8 : w_.cell? ⟨w.heap.size + 1, 8, none⟩ = some (.int .i64 de) := hb.1.2.cell 8; have ct : w_.cell? ⟨b, off + t, none⟩ = some (.int .i64 x) := hb.2; go_simp⟩) (by assumption) ?_
    try simp only [Act.put, List.setIfInBounds_toArray, List.set_cons_zero, List.set_cons_succ]
    refine take_at (i := 8) 18 (v := .pointer (some ⟨w.heap.size, 0, none⟩)) rfl rfl (by kernel_rfl) (by kernel_rfl) (by kernel_rfl) (fun _ _ _ h => h) (Or.inl ⟨by rfl, by intro w hSw; go_simp⟩) (by assumption) ?_
    try simp only [Act.put, List.setIfInBounds_toArray, List.set_cons_zero, List.set_cons_succ]
    refine take_at (i := 9) 19 (v := .pointer (some ⟨w.heap.size, 3, none⟩)) rfl rfl (by kernel_rfl) (by kernel_rfl) (by kernel_rfl) (fun _ _ _ h => h) (Or.inl ⟨by rfl, by intro w hSw; go_simp⟩) (by assumption) ?_
    try simp only [Act.put, List.setIfInBounds_toArray, List.set_cons_zero, List.set_cons_succ]
    refine take_at (i := 10) 20 (v := .slice (some ⟨b, off, none⟩) n c) rfl rfl (by kernel_rfl) (by kernel_rfl) (by kernel_rfl) (fun _ _ _ h => h) (Or.inl ⟨by rfl, by intro w_ hSw; have hb := HL.out w_ hSw; have c3 : w_.cell? ⟨w.heap.size, 3, none⟩ = some (.slice (some ⟨b, off, none⟩) n c) := hb.1.1.cell 3; have d5 : w_.cell? ⟨w.heap.size + 1, 5, none⟩ = some (.int .i64 (t : Int)) := hb.1.2.cell 5; have d6 : w_.cell? ⟨w.heap.size + 1, 6, none⟩ = some (.int .i64 bu) := hb.1.2.cell 6; have d7 : w_.cell? ⟨w.heap.size + 1, 7, none⟩ = some (.int .i64 ra) := hb.1.2.cell 7; have d8 : w_.cell? ⟨w.heap.size + 1, 8, none⟩ = some (.int .i64 de) := hb.1.2.cell 8; have ct : w_.cell? ⟨b, off + t, none⟩ = some (.int .i64 x) := hb.2; go_simp⟩) (by assumption) ?_
    try simp only [Act.put, List.setIfInBounds_toArray, List.set_cons_zero, List.set_cons_succ]
    refine take_at (i := 11) 21 (v := .pointer (some ⟨w.heap.size + 1, 5, none⟩)) rfl rfl (by kernel_rfl) (by kernel_rfl) (by kernel_rfl) (fun _ _ _ h => h) (Or.inl ⟨by rfl, by intro w hSw; go_simp⟩) (by assumption) ?_
    try simp only [Act.put, List.setIfInBounds_toArray, List.set_cons_zero, List.set_cons_succ]
    refine take_at (i := 12) 22 (v := .int .i64 (t : Int)) rfl rfl (by kernel_rfl) (by kernel_rfl) (by kernel_rfl) (fun _ _ _ h => h) (Or.inl ⟨by rfl, by intro w_ hSw; have hb := HL.out w_ hSw; have c3 : w_.cell? ⟨w.heap.size, 3, none⟩ = some (.slice (some ⟨b, off, none⟩) n c) := hb.1.1.cell 3; have d5 : w_.cell? ⟨w.heap.size + 1, 5, none⟩ = some (.int .i64 (t : Int)) := hb.1.2.cell 5; have d6 : w_.cell? ⟨w.heap.size + 1, 6, none⟩ = some (.int .i64 bu) := hb.1.2.cell 6; have d7 : w_.cell? ⟨w.heap.size + 1, 7, none⟩ = some (.int .i64 ra) := hb.1.2.cell 7; have d8 : w_.cell? ⟨w.heap.size + 1, 8, none⟩ = some (.int .i64 de) := hb.1.2.cell 8; have ct : w_.cell? ⟨b, off + t, none⟩ = some (.int .i64 x) := hb.2; go_simp⟩) (by assumption) ?_
    try simp only [Act.put, List.setIfInBounds_toArray, List.set_cons_zero, List.set_cons_succ]
    refine take_at (i := 13) 23 (v := .pointer (some ⟨b, off + t, none⟩)) rfl rfl (by kernel_rfl) (by kernel_rfl) (by kernel_rfl) (fun _ _ _ h => h) (Or.inl ⟨by rfl, by intro w hSw; go_simp⟩) (by assumption) ?_
    try simp only [Act.put, List.setIfInBounds_toArray, List.set_cons_zero, List.set_cons_succ]
    refine take_at (i := 14) 24 (v := .int .i64 x) rfl rfl (by kernel_rfl) (by kernel_rfl) (by kernel_rfl) (fun _ _ _ h => h) (Or.inl ⟨by rfl, by intro w_ hSw; have hb := HL.out w_ hSw; have c3 : w_.cell? ⟨w.heap.size, 3, none⟩ = some (.slice (some ⟨b, off, none⟩) n c) := hb.1.1.cell 3; have d5 : w_.cell? ⟨w.heap.size + 1, 5, none⟩ = some (.int .i64 (t : Int)) := hb.1.2.cell 5; have d6 : w_.cell? ⟨w.heap.size + 1, 6, none⟩ = some (.int .i64 bu) := hb.1.2.cell 6; have d7 : w_.cell? ⟨w.heap.size + 1, 7, none⟩ = some (.int .i64 ra) := hb.1.2.cell 7; have d8 : w_.cell? ⟨w.heap.size + 1, 8, none⟩ = some (.int .i64 de) := hb.1.2.cell 8; have ct : w_.cell? ⟨b, off + t, none⟩ = some (.int .i64 x) := hb.2; go_simp⟩) (by assumption) ?_
    try simp only [Act.put, List.setIfInBounds_toArray, List.set_cons_zero, List.set_cons_succ]
    refine wpAnyH_ready (rs := [6]) (by kernel_rfl) (by simp) ?_
    refine AllReadyH.cons rfl (fun K hK => ?_) AllReadyH.nil
    go_simp
    go_at_call 42
    refine (HC1.out _).mono ?_
    rintro e w' ⟨rfl, rfl⟩
    try simp only []
    refine hK.out _ _ (below_drewN (Below.refl _ _) 1) (fun hHeld => ?_)
    clear hK K
    try simp only [Act.put, List.setIfInBounds_toArray, List.set_cons_zero, List.set_cons_succ]
    refine take_at (i := 7) 17 (v := .int .i64 Q) rfl rfl (by kernel_rfl) (by kernel_rfl) (by kernel_rfl) (fun _ _ _ h => h) (Or.inl ⟨by rfl, by intro w hSw; go_simp; all_goals omega⟩) (by assumption) ?_
    try simp only [Act.put, List.setIfInBounds_toArray, List.set_cons_zero, List.set_cons_succ]
    refine wpAnyH_ready (rs := [15]) (by kernel_rfl) (by simp) ?_
    refine AllReadyH.cons rfl (fun K hK => ?_) AllReadyH.nil
    go_simp
    go_at_call 42
    rw [hmx] at HC2
    refine (HC2.out _).mono ?_
    rintro e w' ⟨rfl, rfl⟩
    try simp only []
    refine hK.out _ _ (below_drewN (Below.refl _ _) 1) (fun hHeld => ?_)
    clear hK K
    try simp only [Act.put, List.setIfInBounds_toArray, List.set_cons_zero, List.set_cons_succ]
    refine take_at (i := 16) 5 (v := .int .i64 NB) rfl rfl (by kernel_rfl) (by kernel_rfl) (by kernel_rfl) (fun _ _ _ h => h) (Or.inl ⟨by rfl, by intro w hSw; go_simp⟩) (by assumption) ?_
    try simp only [Act.put, List.setIfInBounds_toArray, List.set_cons_zero, List.set_cons_succ]
    refine wpAnyH_done (by kernel_rfl) ?_ _
    replace HT := hide (HT.out.drewN 1)
    clear HL hHeld
    have y4 : w1.drew.cell? ⟨w.heap.size + 1, 4, none⟩ = some (.int .i64 pw) := HT.out.now.1.1.1.2.cell 4
    go_wp2_with (refine wpList_store_row rfl 51 (.tmp 4) (.tmp 31) rfl (w.heap.size + 2) #[.int .i64 NB, .int .i64 1, .int .i64 (NB * pw)] rfl rfl 51 #[.int .i64 0, .int .i64 0, .int .i64 0] HT.out.now.1.1.2 (by kernel_rfl) rfl (by simp [Value.oneCell']) ?_)
    have HX := hide (HT.out.now.1.1.2.row #[.int .i64 NB, .int .i64 1, .int .i64 (NB * pw)])
    have HB := hide (Below.row (g := w.heap.size + 2) HT.out.now.2 (by omega) #[.int .i64 NB, .int .i64 1, .int .i64 (NB * pw)])
    obtain ⟨W5, hW5⟩ : ∃ W5, (w1.drewN 1).setRow (w.heap.size + 2) #[.int .i64 NB, .int .i64 1, .int .i64 (NB * pw)] = W5 := ⟨_, rfl⟩
    rw [hW5] at HX HB
    refine bodyPost_ret (v := .agg #[.int .i64 NB, .int .i64 1, .int .i64 (NB * pw)]) ?_ rfl ⟨rfl, by rw [← hW5] at HB; exact HB.out⟩
    have y0 : W5.cell? ⟨w.heap.size + 2, 0, none⟩ = some (.int .i64 NB) := HX.out.cell 0
    have y1 : W5.cell? ⟨w.heap.size + 2, 1, none⟩ = some (.int .i64 1) := HX.out.cell 1
    have y2 : W5.cell? ⟨w.heap.size + 2, 2, none⟩ = some (.int .i64 (NB * pw)) := HX.out.cell 2
    change (results Try.f40 _).run Try.prog ((w1.drewN 1).setRow (w.heap.size + 2) #[.int .i64 NB, .int .i64 1, .int .i64 (NB * pw)]) = .ok _ ((w1.drewN 1).setRow (w.heap.size + 2) #[.int .i64 NB, .int .i64 1, .int .i64 (NB * pw)])
    rw [hW5]
    simp [results, Try.results40, go_sem, y0, y1, y2]
  · have hmx : max ra Q = ra := by omega
    have hm2 : ¬ ra ≤ Q := by omega
    have hm3 : Q ≤ ra := by omega
    go_enter Try.func40, Try.ntmps40
    have z0 : (((w.alloc (.cells #[.int .i64 B, .int .i64 C, .int .i64 P, .slice (some ⟨b, off, none⟩) n c] 74)).alloc (.cells #[strV nm, .int .i64 kd, .int .i64 pr, .int .i64 wt, .int .i64 pw, .int .i64 (t : Int), .int .i64 bu, .int .i64 ra, .int .i64 de] 32)).alloc (.cells #[.int .i64 0, .int .i64 0, .int .i64 0] 51)).cell? ⟨w.heap.size + 1, 0, none⟩ = some (strV nm) := HT.out.now.1.1.1.2.cell 0
    have z1 : (((w.alloc (.cells #[.int .i64 B, .int .i64 C, .int .i64 P, .slice (some ⟨b, off, none⟩) n c] 74)).alloc (.cells #[strV nm, .int .i64 kd, .int .i64 pr, .int .i64 wt, .int .i64 pw, .int .i64 (t : Int), .int .i64 bu, .int .i64 ra, .int .i64 de] 32)).alloc (.cells #[.int .i64 0, .int .i64 0, .int .i64 0] 51)).cell? ⟨w.heap.size + 1, 1, none⟩ = some (.int .i64 kd) := HT.out.now.1.1.1.2.cell 1
    have z2 : (((w.alloc (.cells #[.int .i64 B, .int .i64 C, .int .i64 P, .slice (some ⟨b, off, none⟩) n c] 74)).alloc (.cells #[strV nm, .int .i64 kd, .int .i64 pr, .int .i64 wt, .int .i64 pw, .int .i64 (t : Int), .int .i64 bu, .int .i64 ra, .int .i64 de] 32)).alloc (.cells #[.int .i64 0, .int .i64 0, .int .i64 0] 51)).cell? ⟨w.heap.size + 1, 2, none⟩ = some (.int .i64 pr) := HT.out.now.1.1.1.2.cell 2
    have z3 : (((w.alloc (.cells #[.int .i64 B, .int .i64 C, .int .i64 P, .slice (some ⟨b, off, none⟩) n c] 74)).alloc (.cells #[strV nm, .int .i64 kd, .int .i64 pr, .int .i64 wt, .int .i64 pw, .int .i64 (t : Int), .int .i64 bu, .int .i64 ra, .int .i64 de] 32)).alloc (.cells #[.int .i64 0, .int .i64 0, .int .i64 0] 51)).cell? ⟨w.heap.size + 1, 3, none⟩ = some (.int .i64 wt) := HT.out.now.1.1.1.2.cell 3
    have z4 : (((w.alloc (.cells #[.int .i64 B, .int .i64 C, .int .i64 P, .slice (some ⟨b, off, none⟩) n c] 74)).alloc (.cells #[strV nm, .int .i64 kd, .int .i64 pr, .int .i64 wt, .int .i64 pw, .int .i64 (t : Int), .int .i64 bu, .int .i64 ra, .int .i64 de] 32)).alloc (.cells #[.int .i64 0, .int .i64 0, .int .i64 0] 51)).cell? ⟨w.heap.size + 1, 4, none⟩ = some (.int .i64 pw) := HT.out.now.1.1.1.2.cell 4
    have z5 : (((w.alloc (.cells #[.int .i64 B, .int .i64 C, .int .i64 P, .slice (some ⟨b, off, none⟩) n c] 74)).alloc (.cells #[strV nm, .int .i64 kd, .int .i64 pr, .int .i64 wt, .int .i64 pw, .int .i64 (t : Int), .int .i64 bu, .int .i64 ra, .int .i64 de] 32)).alloc (.cells #[.int .i64 0, .int .i64 0, .int .i64 0] 51)).cell? ⟨w.heap.size + 1, 5, none⟩ = some (.int .i64 (t : Int)) := HT.out.now.1.1.1.2.cell 5
    have z6 : (((w.alloc (.cells #[.int .i64 B, .int .i64 C, .int .i64 P, .slice (some ⟨b, off, none⟩) n c] 74)).alloc (.cells #[strV nm, .int .i64 kd, .int .i64 pr, .int .i64 wt, .int .i64 pw, .int .i64 (t : Int), .int .i64 bu, .int .i64 ra, .int .i64 de] 32)).alloc (.cells #[.int .i64 0, .int .i64 0, .int .i64 0] 51)).cell? ⟨w.heap.size + 1, 6, none⟩ = some (.int .i64 bu) := HT.out.now.1.1.1.2.cell 6
    have z7 : (((w.alloc (.cells #[.int .i64 B, .int .i64 C, .int .i64 P, .slice (some ⟨b, off, none⟩) n c] 74)).alloc (.cells #[strV nm, .int .i64 kd, .int .i64 pr, .int .i64 wt, .int .i64 pw, .int .i64 (t : Int), .int .i64 bu, .int .i64 ra, .int .i64 de] 32)).alloc (.cells #[.int .i64 0, .int .i64 0, .int .i64 0] 51)).cell? ⟨w.heap.size + 1, 7, none⟩ = some (.int .i64 ra) := HT.out.now.1.1.1.2.cell 7
    have z8 : (((w.alloc (.cells #[.int .i64 B, .int .i64 C, .int .i64 P, .slice (some ⟨b, off, none⟩) n c] 74)).alloc (.cells #[strV nm, .int .i64 kd, .int .i64 pr, .int .i64 wt, .int .i64 pw, .int .i64 (t : Int), .int .i64 bu, .int .i64 ra, .int .i64 de] 32)).alloc (.cells #[.int .i64 0, .int .i64 0, .int .i64 0] 51)).cell? ⟨w.heap.size + 1, 8, none⟩ = some (.int .i64 de) := HT.out.now.1.1.1.2.cell 8
    go_wp2_with fail
    go_at_call 38
    refine (HG.out _).mono ?_
    rintro e w1 ⟨rfl, hb⟩
    rw [hkd]
    replace HT := hide (HT.out.step hb)
    clear hb z0 z1 z2 z3 z4 z5 z6 z7 z8
    simp only []
    go_wp2_with fail
    have HL := hide (fun W (h : Below w1.heap.size w1 W) => And.intro (HT.out W h).1.1.1 (HTB.out W (HT.out W h).1.2))
    refine wp_region_held_drew (S := fun w' => Below w1.heap.size w1 w') (by kernel_rfl) (below_drewN (Below.refl _ _) 1) (fun hHeld => ?_)
    refine take_at (i := 0) 10 (v := .pointer (some ⟨w.heap.size + 1, 7, none⟩)) rfl rfl (by kernel_rfl) (by kernel_rfl) (by kernel_rfl) (fun _ _ _ h => h) (Or.inl ⟨by rfl, by intro w hSw; go_simp⟩) (by assumption) ?_
    try simp only [Act.put, List.setIfInBounds_toArray, List.set_cons_zero, List.set_cons_succ]
    refine take_at (i := 1) 11 (v := .int .i64 ra) rfl rfl (by kernel_rfl) (by kernel_rfl) (by kernel_rfl) (fun _ _ _ h => h) (Or.inl ⟨by rfl, by intro w_ hSw; have hb := HL.out w_ hSw; have c3 : w_.cell? ⟨w.heap.size, 3, none⟩ = some (.slice (some ⟨b, off, none⟩) n c) := hb.1.1.cell 3; have d5 : w_.cell? ⟨w.heap.size + 1, 5, none⟩ = some (.int .i64 (t : Int)) := hb.1.2.cell 5; have d6 : w_.cell? ⟨w.heap.size + 1, 6, none⟩ = some (.int .i64 bu) := hb.1.2.cell 6; have d7 : w_.cell? ⟨w.heap.size + 1, 7, none⟩ = some (.int .i64 ra) := hb.1.2.cell 7; have d8 : w_.cell? ⟨w.heap.size + 1, 8, none⟩ = some (.int .i64 de) := hb.1.2.cell 8; have ct : w_.cell? ⟨b, off + t, none⟩ = some (.int .i64 x) := hb.2; go_simp⟩) (by assumption) ?_
    try simp only [Act.put, List.setIfInBounds_toArray, List.set_cons_zero, List.set_cons_succ]
    refine take_at (i := 2) 12 (v := .pointer (some ⟨w.heap.size + 1, 6, none⟩)) rfl rfl (by kernel_rfl) (by kernel_rfl) (by kernel_rfl) (fun _ _ _ h => h) (Or.inl ⟨by rfl, by intro w hSw; go_simp⟩) (by assumption) ?_
    try simp only [Act.put, List.setIfInBounds_toArray, List.set_cons_zero, List.set_cons_succ]
    refine take_at (i := 3) 13 (v := .int .i64 bu) rfl rfl (by kernel_rfl) (by kernel_rfl) (by kernel_rfl) (fun _ _ _ h => h) (Or.inl ⟨by rfl, by intro w_ hSw; have hb := HL.out w_ hSw; have c3 : w_.cell? ⟨w.heap.size, 3, none⟩ = some (.slice (some ⟨b, off, none⟩) n c) := hb.1.1.cell 3; have d5 : w_.cell? ⟨w.heap.size + 1, 5, none⟩ = some (.int .i64 (t : Int)) := hb.1.2.cell 5; have d6 : w_.cell? ⟨w.heap.size + 1, 6, none⟩ = some (.int .i64 bu) := hb.1.2.cell 6; have d7 : w_.cell? ⟨w.heap.size + 1, 7, none⟩ = some (.int .i64 ra) := hb.1.2.cell 7; have d8 : w_.cell? ⟨w.heap.size + 1, 8, none⟩ = some (.int .i64 de) := hb.1.2.cell 8; have ct : w_.cell? ⟨b, off + t, none⟩ = some (.int .i64 x) := hb.2; go_simp⟩) (by assumption) ?_
    try simp only [Act.put, List.setIfInBounds_toArray, List.set_cons_zero, List.set_cons_succ]
    refine take_at (i := 4) 14 (v := .pointer (some ⟨w.heap.size + 1, 8, none⟩)) rfl rfl (by kernel_rfl) (by kernel_rfl) (by kernel_rfl) (fun _ _ _ h => h) (Or.inl ⟨by rfl, by intro w hSw; go_simp⟩) (by assumption) ?_
    try simp only [Act.put, List.setIfInBounds_toArray, List.set_cons_zero, List.set_cons_succ]
    refine take_at (i := 5) 15 (v := .int .i64 de) rfl rfl (by kernel_rfl) (by kernel_rfl) (by kernel_rfl) (fun _ _ _ h => h) (Or.inl ⟨by rfl, by intro w_ hSw; have hb := HL.out w_ hSw; have c3 : w_.cell? ⟨w.heap.size, 3, none⟩ = some (.slice (some ⟨b, off, none⟩) n c) := hb.1.1.cell 3; have d5 : w_.cell? ⟨w.heap.size + 1, 5, none⟩ = some (.int .i64 (t : Int)) := hb.1.2.cell 5; have d6 : w_.cell? ⟨w.heap.size + 1, 6, none⟩ = some (.int .i64 bu) := hb.1.2.cell 6; have d7 : w_.cell? ⟨w.heap.size + 1, 7, none⟩ = some (.int .i64 ra) := hb.1.2.cell 7; have d8 : w_.cell? ⟨w.heap.size + 1, 8, none⟩ = some (.int .i64 de) := hb.1.2.cell 8; have ct : w_.cell? ⟨b, off + t, none⟩ = some (.int .i64 x) := hb.2; go_simp⟩) (by assumption) ?_
    try simp only [Act.put, List.setIfInBounds_toArray, List.set_cons_zero, List.set_cons_succ]
    refine take_at (i := 8) 18 (v := .pointer (some ⟨w.heap.size, 0, none⟩)) rfl rfl (by kernel_rfl) (by kernel_rfl) (by kernel_rfl) (fun _ _ _ h => h) (Or.inl ⟨by rfl, by intro w hSw; go_simp⟩) (by assumption) ?_
    try simp only [Act.put, List.setIfInBounds_toArray, List.set_cons_zero, List.set_cons_succ]
    refine take_at (i := 9) 19 (v := .pointer (some ⟨w.heap.size, 3, none⟩)) rfl rfl (by kernel_rfl) (by kernel_rfl) (by kernel_rfl) (fun _ _ _ h => h) (Or.inl ⟨by rfl, by intro w hSw; go_simp⟩) (by assumption) ?_
    try simp only [Act.put, List.setIfInBounds_toArray, List.set_cons_zero, List.set_cons_succ]
    refine take_at (i := 10) 20 (v := .slice (some ⟨b, off, none⟩) n c) rfl rfl (by kernel_rfl) (by kernel_rfl) (by kernel_rfl) (fun _ _ _ h => h) (Or.inl ⟨by rfl, by intro w_ hSw; have hb := HL.out w_ hSw; have c3 : w_.cell? ⟨w.heap.size, 3, none⟩ = some (.slice (some ⟨b, off, none⟩) n c) := hb.1.1.cell 3; have d5 : w_.cell? ⟨w.heap.size + 1, 5, none⟩ = some (.int .i64 (t : Int)) := hb.1.2.cell 5; have d6 : w_.cell? ⟨w.heap.size + 1, 6, none⟩ = some (.int .i64 bu) := hb.1.2.cell 6; have d7 : w_.cell? ⟨w.heap.size + 1, 7, none⟩ = some (.int .i64 ra) := hb.1.2.cell 7; have d8 : w_.cell? ⟨w.heap.size + 1, 8, none⟩ = some (.int .i64 de) := hb.1.2.cell 8; have ct : w_.cell? ⟨b, off + t, none⟩ = some (.int .i64 x) := hb.2; go_simp⟩) (by assumption) ?_
    try simp only [Act.put, List.setIfInBounds_toArray, List.set_cons_zero, List.set_cons_succ]
    refine take_at (i := 11) 21 (v := .pointer (some ⟨w.heap.size + 1, 5, none⟩)) rfl rfl (by kernel_rfl) (by kernel_rfl) (by kernel_rfl) (fun _ _ _ h => h) (Or.inl ⟨by rfl, by intro w hSw; go_simp⟩) (by assumption) ?_
    try simp only [Act.put, List.setIfInBounds_toArray, List.set_cons_zero, List.set_cons_succ]
    refine take_at (i := 12) 22 (v := .int .i64 (t : Int)) rfl rfl (by kernel_rfl) (by kernel_rfl) (by kernel_rfl) (fun _ _ _ h => h) (Or.inl ⟨by rfl, by intro w_ hSw; have hb := HL.out w_ hSw; have c3 : w_.cell? ⟨w.heap.size, 3, none⟩ = some (.slice (some ⟨b, off, none⟩) n c) := hb.1.1.cell 3; have d5 : w_.cell? ⟨w.heap.size + 1, 5, none⟩ = some (.int .i64 (t : Int)) := hb.1.2.cell 5; have d6 : w_.cell? ⟨w.heap.size + 1, 6, none⟩ = some (.int .i64 bu) := hb.1.2.cell 6; have d7 : w_.cell? ⟨w.heap.size + 1, 7, none⟩ = some (.int .i64 ra) := hb.1.2.cell 7; have d8 : w_.cell? ⟨w.heap.size + 1, 8, none⟩ = some (.int .i64 de) := hb.1.2.cell 8; have ct : w_.cell? ⟨b, off + t, none⟩ = some (.int .i64 x) := hb.2; go_simp⟩) (by assumption) ?_
    try simp only [Act.put, List.setIfInBounds_toArray, List.set_cons_zero, List.set_cons_succ]
    refine take_at (i := 13) 23 (v := .pointer (some ⟨b, off + t, none⟩)) rfl rfl (by kernel_rfl) (by kernel_rfl) (by kernel_rfl) (fun _ _ _ h => h) (Or.inl ⟨by rfl, by intro w hSw; go_simp⟩) (by assumption) ?_
    try simp only [Act.put, List.setIfInBounds_toArray, List.set_cons_zero, List.set_cons_succ]
    refine take_at (i := 14) 24 (v := .int .i64 x) rfl rfl (by kernel_rfl) (by kernel_rfl) (by kernel_rfl) (fun _ _ _ h => h) (Or.inl ⟨by rfl, by intro w_ hSw; have hb := HL.out w_ hSw; have c3 : w_.cell? ⟨w.heap.size, 3, none⟩ = some (.slice (some ⟨b, off, none⟩) n c) := hb.1.1.cell 3; have d5 : w_.cell? ⟨w.heap.size + 1, 5, none⟩ = some (.int .i64 (t : Int)) := hb.1.2.cell 5; have d6 : w_.cell? ⟨w.heap.size + 1, 6, none⟩ = some (.int .i64 bu) := hb.1.2.cell 6; have d7 : w_.cell? ⟨w.heap.size + 1, 7, none⟩ = some (.int .i64 ra) := hb.1.2.cell 7; have d8 : w_.cell? ⟨w.heap.size + 1, 8, none⟩ = some (.int .i64 de) := hb.1.2.cell 8; have ct : w_.cell? ⟨b, off + t, none⟩ = some (.int .i64 x) := hb.2; go_simp⟩) (by assumption) ?_
    try simp only [Act.put, List.setIfInBounds_toArray, List.set_cons_zero, List.set_cons_succ]
    refine wpAnyH_ready (rs := [6]) (by kernel_rfl) (by simp) ?_
    refine AllReadyH.cons rfl (fun K hK => ?_) AllReadyH.nil
    go_simp
    go_at_call 42
    refine (HC1.out _).mono ?_
    rintro e w' ⟨rfl, rfl⟩
    try simp only []
    refine hK.out _ _ (below_drewN (Below.refl _ _) 1) (fun hHeld => ?_)
    clear hK K
    try simp only [Act.put, List.setIfInBounds_toArray, List.set_cons_zero, List.set_cons_succ]
    refine take_at (i := 7) 17 (v := .int .i64 ra) rfl rfl (by kernel_rfl) (by kernel_rfl) (by kernel_rfl) (fun _ _ _ h => h) (Or.inl ⟨by rfl, by intro w hSw; go_simp; all_goals omega⟩) (by assumption) ?_
    try simp only [Act.put, List.setIfInBounds_toArray, List.set_cons_zero, List.set_cons_succ]
    refine wpAnyH_ready (rs := [15]) (by kernel_rfl) (by simp) ?_
    refine AllReadyH.cons rfl (fun K hK => ?_) AllReadyH.nil
    go_simp
    go_at_call 42
    rw [hmx] at HC2
    refine (HC2.out _).mono ?_
    rintro e w' ⟨rfl, rfl⟩
    try simp only []
    refine hK.out _ _ (below_drewN (Below.refl _ _) 1) (fun hHeld => ?_)
    clear hK K
    try simp only [Act.put, List.setIfInBounds_toArray, List.set_cons_zero, List.set_cons_succ]
    refine take_at (i := 16) 5 (v := .int .i64 NB) rfl rfl (by kernel_rfl) (by kernel_rfl) (by kernel_rfl) (fun _ _ _ h => h) (Or.inl ⟨by rfl, by intro w hSw; go_simp⟩) (by assumption) ?_
    try simp only [Act.put, List.setIfInBounds_toArray, List.set_cons_zero, List.set_cons_succ]
    refine wpAnyH_done (by kernel_rfl) ?_ _
    replace HT := hide (HT.out.drewN 1)
    clear HL hHeld
    have y4 : w1.drew.cell? ⟨w.heap.size + 1, 4, none⟩ = some (.int .i64 pw) := HT.out.now.1.1.1.2.cell 4
    go_wp2_with (refine wpList_store_row rfl 51 (.tmp 4) (.tmp 31) rfl (w.heap.size + 2) #[.int .i64 NB, .int .i64 1, .int .i64 (NB * pw)] rfl rfl 51 #[.int .i64 0, .int .i64 0, .int .i64 0] HT.out.now.1.1.2 (by kernel_rfl) rfl (by simp [Value.oneCell']) ?_)
    have HX := hide (HT.out.now.1.1.2.row #[.int .i64 NB, .int .i64 1, .int .i64 (NB * pw)])
    have HB := hide (Below.row (g := w.heap.size + 2) HT.out.now.2 (by omega) #[.int .i64 NB, .int .i64 1, .int .i64 (NB * pw)])
    obtain ⟨W5, hW5⟩ : ∃ W5, (w1.drewN 1).setRow (w.heap.size + 2) #[.int .i64 NB, .int .i64 1, .int .i64 (NB * pw)] = W5 := ⟨_, rfl⟩
    rw [hW5] at HX HB
    refine bodyPost_ret (v := .agg #[.int .i64 NB, .int .i64 1, .int .i64 (NB * pw)]) ?_ rfl ⟨rfl, by rw [← hW5] at HB; exact HB.out⟩
    have y0 : W5.cell? ⟨w.heap.size + 2, 0, none⟩ = some (.int .i64 NB) := HX.out.cell 0
    have y1 : W5.cell? ⟨w.heap.size + 2, 1, none⟩ = some (.int .i64 1) := HX.out.cell 1
    have y2 : W5.cell? ⟨w.heap.size + 2, 2, none⟩ = some (.int .i64 (NB * pw)) := HX.out.cell 2
    change (results Try.f40 _).run Try.prog ((w1.drewN 1).setRow (w.heap.size + 2) #[.int .i64 NB, .int .i64 1, .int .i64 (NB * pw)]) = .ok _ ((w1.drewN 1).setRow (w.heap.size + 2) #[.int .i64 NB, .int .i64 1, .int .i64 (NB * pw)])
    rw [hW5]
    simp [results, Try.results40, go_sem, y0, y1, y2]
theorem NeedOf_ok (B C P : Int) (A : Option Addr) (c n : Nat) (T : List Int) (nm : Bs) (kd pr wt pw le bu ra de : Int) (w : World) (hn : T.length = n) (hs : Sl w A (iv T)) (hs2 : OkS B C P T) (ho : OkB T nm kd pr wt pw le bu ra de) (hk : kd ≠ 0) :
    Calls Try.prog 16 #[.agg #[.int .i64 B, .int .i64 C, .int .i64 P, .slice A n c], .agg #[strV nm, .int .i64 kd, .int .i64 pr, .int .i64 wt, .int .i64 pw, .int .i64 le, .int .i64 bu, .int .i64 ra, .int .i64 de]] w fun e w' => e = .returned (.tuple #[.agg #[.int .i64 (needB ra bu de (tbO T le)), .int .i64 1, .int .i64 (needB ra bu de (tbO T le) * pw)], .int .i64 0]) ∧ Below w.heap.size w w' := by
  have HOB := hide (fun W k => openBearer_ok B C P A c n T nm kd pr wt pw le bu ra de W hn k hs2 ho hk)
  have HNE := hide (fun W k => need_ok B C P A c n T nm kd pr wt pw le bu ra de W hn k hs2 ho hk)
  have HT := hide (((((stay_blk ((Blk.new w 24 #[.int .i64 B, .int .i64 C, .int .i64 P, .slice A n c]).alloc (.cells #[strV nm, .int .i64 kd, .int .i64 pr, .int .i64 wt, .int .i64 pw, .int .i64 le, .int .i64 bu, .int .i64 ra, .int .i64 de] 32))).alloc (.cells #[.int .i64 0, .int .i64 0, .int .i64 0] 51)).and ((stay_blk (blk_up w 24 32 #[.int .i64 B, .int .i64 C, .int .i64 P, .slice A n c] #[strV nm, .int .i64 kd, .int .i64 pr, .int .i64 wt, .int .i64 pw, .int .i64 le, .int .i64 bu, .int .i64 ra, .int .i64 de])).alloc (.cells #[.int .i64 0, .int .i64 0, .int .i64 0] 51))).and (stay_blk (blk_up2 w 24 32 51 #[.int .i64 B, .int .i64 C, .int .i64 P, .slice A n c] #[strV nm, .int .i64 kd, .int .i64 pr, .int .i64 wt, .int .i64 pw, .int .i64 le, .int .i64 bu, .int .i64 ra, .int .i64 de] #[.int .i64 0, .int .i64 0, .int .i64 0]))).and (((stay_sl (hs.alloc (.cells #[.int .i64 B, .int .i64 C, .int .i64 P, .slice A n c] 24))).alloc (.cells #[strV nm, .int .i64 kd, .int .i64 pr, .int .i64 wt, .int .i64 pw, .int .i64 le, .int .i64 bu, .int .i64 ra, .int .i64 de] 32)).alloc (.cells #[.int .i64 0, .int .i64 0, .int .i64 0] 51)) |>.and (stay_below ((((Below.refl _ w).alloc (Nat.le_refl _) (.cells #[.int .i64 B, .int .i64 C, .int .i64 P, .slice A n c] 24)).alloc (by simp) (.cells #[strV nm, .int .i64 kd, .int .i64 pr, .int .i64 wt, .int .i64 pw, .int .i64 le, .int .i64 bu, .int .i64 ra, .int .i64 de] 32)).alloc (by simp; omega) (.cells #[.int .i64 0, .int .i64 0, .int .i64 0] 51))))
  obtain ⟨NB, hNB⟩ : ∃ z, needB ra bu de (tbO T le) = z := ⟨_, rfl⟩
  rw [hNB] at HNE ⊢
  clear hs hs2 ho hk hn hNB
  go_enter Try.func16, Try.ntmps16
  go_wp2_with fail
  go_at_call 39
  refine (HOB.out _ HT.out.now.1.2).mono ?_
  rintro e w1 ⟨rfl, hb⟩
  replace HT := hide ((HT.out.step hb).alloc (.cells #[.int .i64 B, .int .i64 C, .int .i64 P, .slice A n c] 74) |>.and (stay_blk (Blk.new w1 74 #[.int .i64 B, .int .i64 C, .int .i64 P, .slice A n c])))
  clear hb
  simp only []
  have z0 : (w1.alloc (.cells #[.int .i64 B, .int .i64 C, .int .i64 P, .slice A n c] 74)).cell? ⟨w1.heap.size, 0, none⟩ = some (.int .i64 B) := HT.out.now.2.cell 0
  have z1 : (w1.alloc (.cells #[.int .i64 B, .int .i64 C, .int .i64 P, .slice A n c] 74)).cell? ⟨w1.heap.size, 1, none⟩ = some (.int .i64 C) := HT.out.now.2.cell 1
  have z2 : (w1.alloc (.cells #[.int .i64 B, .int .i64 C, .int .i64 P, .slice A n c] 74)).cell? ⟨w1.heap.size, 2, none⟩ = some (.int .i64 P) := HT.out.now.2.cell 2
  have z3 : (w1.alloc (.cells #[.int .i64 B, .int .i64 C, .int .i64 P, .slice A n c] 74)).cell? ⟨w1.heap.size, 3, none⟩ = some (.slice A n c) := HT.out.now.2.cell 3
  have y0 : (w1.alloc (.cells #[.int .i64 B, .int .i64 C, .int .i64 P, .slice A n c] 74)).cell? ⟨w.heap.size + 1, 0, none⟩ = some (strV nm) := HT.out.now.1.1.1.1.2.cell 0
  have y1 : (w1.alloc (.cells #[.int .i64 B, .int .i64 C, .int .i64 P, .slice A n c] 74)).cell? ⟨w.heap.size + 1, 1, none⟩ = some (.int .i64 kd) := HT.out.now.1.1.1.1.2.cell 1
  have y2 : (w1.alloc (.cells #[.int .i64 B, .int .i64 C, .int .i64 P, .slice A n c] 74)).cell? ⟨w.heap.size + 1, 2, none⟩ = some (.int .i64 pr) := HT.out.now.1.1.1.1.2.cell 2
  have y3 : (w1.alloc (.cells #[.int .i64 B, .int .i64 C, .int .i64 P, .slice A n c] 74)).cell? ⟨w.heap.size + 1, 3, none⟩ = some (.int .i64 wt) := HT.out.now.1.1.1.1.2.cell 3
  have y4 : (w1.alloc (.cells #[.int .i64 B, .int .i64 C, .int .i64 P, .slice A n c] 74)).cell? ⟨w.heap.size + 1, 4, none⟩ = some (.int .i64 pw) := HT.out.now.1.1.1.1.2.cell 4
  have y5 : (w1.alloc (.cells #[.int .i64 B, .int .i64 C, .int .i64 P, .slice A n c] 74)).cell? ⟨w.heap.size + 1, 5, none⟩ = some (.int .i64 le) := HT.out.now.1.1.1.1.2.cell 5
  have y6 : (w1.alloc (.cells #[.int .i64 B, .int .i64 C, .int .i64 P, .slice A n c] 74)).cell? ⟨w.heap.size + 1, 6, none⟩ = some (.int .i64 bu) := HT.out.now.1.1.1.1.2.cell 6
  have y7 : (w1.alloc (.cells #[.int .i64 B, .int .i64 C, .int .i64 P, .slice A n c] 74)).cell? ⟨w.heap.size + 1, 7, none⟩ = some (.int .i64 ra) := HT.out.now.1.1.1.1.2.cell 7
  have y8 : (w1.alloc (.cells #[.int .i64 B, .int .i64 C, .int .i64 P, .slice A n c] 74)).cell? ⟨w.heap.size + 1, 8, none⟩ = some (.int .i64 de) := HT.out.now.1.1.1.1.2.cell 8
  go_wp2_with fail
  go_at_call 40
  refine (HNE.out _ HT.out.now.1.1.2).mono ?_
  rintro e w2 ⟨rfl, hb⟩
  replace HT := hide (HT.out.step hb)
  clear hb
  simp only []
  go_wp2_with (refine wpList_store_row rfl 51 (.tmp 4) (.tmp 20) rfl (w.heap.size + 2) #[.int .i64 NB, .int .i64 1, .int .i64 (NB * pw)] rfl rfl 51 #[.int .i64 0, .int .i64 0, .int .i64 0] HT.out.now.1.1.1.2 (by kernel_rfl) rfl (by simp [Value.oneCell']) ?_)
  exact bodyPost_ret (results_row_tmp rfl _ _ (w.heap.size + 2) 51 #[.int .i64 NB, .int .i64 1, .int .i64 (NB * pw)] _ (.int .i64 0) rfl rfl (HT.out.now.1.1.1.2.row _) Try.underlying51 rfl (by kernel_rfl)) rfl ⟨rfl, Below.row HT.out.now.1.2 (by omega) _⟩
end Go.Proofs.Ytppkibgemacdbaa
