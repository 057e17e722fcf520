import Derived.Test.YtppkibgemacdbaaSbE
namespace Go.Proofs.Ytppkibgemacdbaa
open Go.RowKit Go.WideShapes Go.ChangeShapes

/-! the reference: Floor, Ceil, NeedOf -/
theorem floor_base (n by_ : Int) (h : 0 < by_) (hb : by_ ≤ 4000000000000000000) (hn : -4000000000000000000 ≤ n) (hn' : n ≤ 4000000000000000000) (w : World) :
    Calls Try.prog 67 #[.int .i64 n, .int .i64 by_] w fun x w' => x = .returned (.int .i64 (n / by_)) ∧ w = w' := by
  have hz : by_ ≠ 0 := by omega
  have t0 : (n.tdiv by_).natAbs ≤ n.natAbs := by rw [Int.natAbs_tdiv]; exact Nat.div_le_self _ _
  have t1 : (n.tmod by_).natAbs < by_.natAbs := by rw [Int.natAbs_tmod]; exact Nat.mod_lt _ (by omega)
  have e1 := Int.mul_tdiv_add_tmod n by_
  have e2 := Int.mul_ediv_add_emod n by_
  have e3 := Int.emod_nonneg n hz
  have e4 := Int.emod_lt_of_pos n h
  by_cases h0 : n.tmod by_ < 0
  · have e : n / by_ = n.tdiv by_ - 1 := by
      have h1 : by_ * (n / by_ - n.tdiv by_ + 1) = n.tmod by_ + by_ - n % by_ := by grind
      have h2 : n / by_ - n.tdiv by_ + 1 = 0 := by
        rcases Int.lt_trichotomy (n / by_ - n.tdiv by_ + 1) 0 with q | q | q
        · have := Int.mul_le_mul_of_nonneg_left (show n / by_ - n.tdiv by_ + 1 ≤ -1 by omega) (show 0 ≤ by_ by omega); omega
        · exact q
        · have := Int.mul_le_mul_of_nonneg_left (show 1 ≤ n / by_ - n.tdiv by_ + 1 by omega) (show 0 ≤ by_ by omega); omega
      omega
    have HE := hide e
    have h3 : -9223372036854775808 ≤ n.tdiv by_ - 1 := by omega
    have h4 : n.tdiv by_ - 1 ≤ 9223372036854775807 := by omega
    have h5 : -9223372036854775808 ≤ n.tdiv by_ := by omega
    have h6 : n.tdiv by_ ≤ 9223372036854775807 := by omega
    have h7 : -9223372036854775808 ≤ n.tmod by_ := by omega
    have h8 : n.tmod by_ ≤ 9223372036854775807 := by omega
    clear e e1 e2 e3 e4 t0 t1
    go_enter Try.func67, Try.ntmps67
    go_wp2
    go_ret
    exact ⟨by rw [HE.out]; rfl, rfl⟩
  · have e : n / by_ = n.tdiv by_ := by
      have h1 : by_ * (n / by_ - n.tdiv by_) = n.tmod by_ - n % by_ := by grind
      have h2 : n / by_ - n.tdiv by_ = 0 := by
        rcases Int.lt_trichotomy (n / by_ - n.tdiv by_) 0 with q | q | q
        · have := Int.mul_le_mul_of_nonneg_left (show n / by_ - n.tdiv by_ ≤ -1 by omega) (show 0 ≤ by_ by omega); omega
        · exact q
        · have := Int.mul_le_mul_of_nonneg_left (show 1 ≤ n / by_ - n.tdiv by_ by omega) (show 0 ≤ by_ by omega); omega
      omega
    have HE := hide e
    have h5 : -9223372036854775808 ≤ n.tdiv by_ := by omega
    have h6 : n.tdiv by_ ≤ 9223372036854775807 := by omega
    have h7 : -9223372036854775808 ≤ n.tmod by_ := by omega
    have h8 : n.tmod by_ ≤ 9223372036854775807 := by omega
    clear e e1 e2 e3 e4 t0 t1
    go_enter Try.func67, Try.ntmps67
    go_wp2
    go_ret
    exact ⟨by rw [HE.out]; rfl, rfl⟩

theorem neg_ceil {n b : Int} (hb : 0 < b) : -((-n) / b) = ceilI n b := by
  unfold ceilI
  have e1 := Int.mul_ediv_add_emod (-n) b
  have e2 := Int.emod_nonneg (-n) (show b ≠ 0 by omega)
  have e3 := Int.emod_lt_of_pos (-n) hb
  have e4 := Int.mul_ediv_add_emod (n + b - 1) b
  have e5 := Int.emod_nonneg (n + b - 1) (show b ≠ 0 by omega)
  have e6 := Int.emod_lt_of_pos (n + b - 1) hb
  have h : b * ((n + b - 1) / b + (-n) / b) = b * ((n + b - 1) / b) + b * ((-n) / b) := Int.mul_add _ _ _
  rcases Int.lt_trichotomy ((n + b - 1) / b + (-n) / b) 0 with q | q | q
  · have := Int.mul_le_mul_of_nonneg_left (show (n + b - 1) / b + (-n) / b ≤ -1 by omega) (show 0 ≤ b by omega); omega
  · omega
  · have := Int.mul_le_mul_of_nonneg_left (show 1 ≤ (n + b - 1) / b + (-n) / b by omega) (show 0 ≤ b by omega); omega
theorem ceil_base (n b : Int) (w : World) (hb : 0 < b) (hb' : b ≤ 1000000) (hn : 0 ≤ n) (hn' : n ≤ 1000000) :
    Calls Try.prog 66 #[.int .i64 n, .int .i64 b] w fun e w' => e = .returned (.int .i64 (ceilI n b)) ∧ w = w' := by
  have HF := hide (fun W => floor_base (-n) b hb (by omega) (by omega) (by omega) W)
  have h1 := neg_ceil (n := n) hb
  have q0 := ceil_nn (n := n) hb hn
  have q1 := ceil_bd (n := n) hb hn
  obtain ⟨z, hz⟩ : ∃ z, (-n) / b = z := ⟨_, rfl⟩
  rw [hz] at HF h1
  rw [← h1] at q0 q1 ⊢
  have hw1 : IntKind.i64.wrap (-n) = -n := IntWalk.i64_in _ (by omega)
  have hw2 : IntKind.i64.wrap (-z) = -z := IntWalk.i64_in _ (by omega)
  clear h1 hz
  go_enter Try.func66, Try.ntmps66
  go_wp2_with (go_at_call 67; go_must (refine (HF.out _).mono ?_; rintro e w' ⟨rfl, rfl⟩; simp only []))
  go_ret
  exact ⟨rfl, rfl⟩
set_option maxRecDepth 100000 in
set_option maxHeartbeats 4000000 in
theorem needR_zero (B C P : Int) (A : Option Addr) (c n : Nat) (x : Ber) (w : World) (hk : x.kd = 0) :
    Calls Try.prog 65 #[.agg #[.int .i64 B, .int .i64 C, .int .i64 P, .slice A n c], .agg #[strV x.nm, .int .i64 x.kd, .int .i64 x.pr, .int .i64 x.wt, .int .i64 x.pw, .int .i64 x.le, .int .i64 x.bu, .int .i64 x.ra, .int .i64 x.de]] w fun e w' => e = .returned (.agg #[.int .i64 0, .int .i64 0, .int .i64 0]) ∧ Below w.heap.size w w' := by
  rw [hk]
  have HT : Hid (Stay (((w.alloc (.cells #[.int .i64 B, .int .i64 C, .int .i64 P, .slice A n c] 24)).alloc (.cells #[strV x.nm, .int .i64 0, .int .i64 x.pr, .int .i64 x.wt, .int .i64 x.pw, .int .i64 x.le, .int .i64 x.bu, .int .i64 x.ra, .int .i64 x.de] 32)).alloc (.cells #[.int .i64 0, .int .i64 0, .int .i64 0] 51)) (fun W => (Blk W (w.heap.size + 1) 32 #[strV x.nm, .int .i64 0, .int .i64 x.pr, .int .i64 x.wt, .int .i64 x.pw, .int .i64 x.le, .int .i64 x.bu, .int .i64 x.ra, .int .i64 x.de] ∧ Blk W (w.heap.size + 2) 51 #[.int .i64 0, .int .i64 0, .int .i64 0]) ∧ Below w.heap.size w W)) := hide
    ((((stay_blk (blk_up w 24 32 #[.int .i64 B, .int .i64 C, .int .i64 P, .slice A n c] #[strV x.nm, .int .i64 0, .int .i64 x.pr, .int .i64 x.wt, .int .i64 x.pw, .int .i64 x.le, .int .i64 x.bu, .int .i64 x.ra, .int .i64 x.de])).alloc (.cells #[.int .i64 0, .int .i64 0, .int .i64 0] 51)).and (stay_blk (blk_up2 w 24 32 51 #[.int .i64 B, .int .i64 C, .int .i64 P, .slice A n c] #[strV x.nm, .int .i64 0, .int .i64 x.pr, .int .i64 x.wt, .int .i64 x.pw, .int .i64 x.le, .int .i64 x.bu, .int .i64 x.ra, .int .i64 x.de] #[.int .i64 0, .int .i64 0, .int .i64 0]))).and (stay_below ((((Below.refl _ w).alloc (Nat.le_refl _) (.cells #[.int .i64 B, .int .i64 C, .int .i64 P, .slice A n c] 24)).alloc (by simp) (.cells #[strV x.nm, .int .i64 0, .int .i64 x.pr, .int .i64 x.wt, .int .i64 x.pw, .int .i64 x.le, .int .i64 x.bu, .int .i64 x.ra, .int .i64 x.de] 32)).alloc (by simp; omega) (.cells #[.int .i64 0, .int .i64 0, .int .i64 0] 51))))
  clear hk
  go_enter Try.func65, Try.ntmps65
  obtain ⟨W0, hW0⟩ : ∃ W0, ((w.alloc (.cells #[.int .i64 B, .int .i64 C, .int .i64 P, .slice A n c] 24)).alloc (.cells #[strV x.nm, .int .i64 0, .int .i64 x.pr, .int .i64 x.wt, .int .i64 x.pw, .int .i64 x.le, .int .i64 x.bu, .int .i64 x.ra, .int .i64 x.de] 32)).alloc (.cells #[.int .i64 0, .int .i64 0, .int .i64 0] 51) = W0 := ⟨_, rfl⟩
  rw [hW0] at HT
  have z1 : W0.cell? ⟨w.heap.size + 1, 1, none⟩ = some (.int .i64 0) := HT.out.now.1.1.cell 1
  go_wp2_with (refine wpList_store_row rfl 51 (.tmp 4) (.tmp 10) rfl (w.heap.size + 2) #[.int .i64 0, .int .i64 0, .int .i64 0] rfl rfl 51 #[.int .i64 0, .int .i64 0, .int .i64 0] HT.out.now.1.2 (by kernel_rfl) rfl (by simp [Value.oneCell']) ?_)
  refine bodyPost_ret (v := .agg #[.int .i64 0, .int .i64 0, .int .i64 0]) ?_ rfl ⟨rfl, Below.row HT.out.now.2 (by omega) _⟩
  have HZ := HT.out.now.1.2.row #[.int .i64 0, .int .i64 0, .int .i64 0]
  have y0 := HZ.cell 0
  have y1 := HZ.cell 1
  have y2 := HZ.cell 2
  simp [results, Try.results65, go_sem, y0, y1, y2]
set_option maxRecDepth 100000 in
set_option maxHeartbeats 8000000 in
theorem needR_ok (B C P : Int) (A : Option Addr) (c n : Nat) (T : List Int) (x : Ber) (w : World) (hn : T.length = n) (hs : Sl w A (iv T)) (hs2 : OkS B C P T) (ho : OkR T x) (hk : x.kd ≠ 0) :
    Calls Try.prog 65 #[.agg #[.int .i64 B, .int .i64 C, .int .i64 P, .slice A n c], .agg #[strV x.nm, .int .i64 x.kd, .int .i64 x.pr, .int .i64 x.wt, .int .i64 x.pw, .int .i64 x.le, .int .i64 x.bu, .int .i64 x.ra, .int .i64 x.de]] w fun e w' => e = .returned (.agg #[.int .i64 (needB x.ra x.bu x.de (tbO T x.le)), .int .i64 1, .int .i64 (needB x.ra x.bu x.de (tbO T x.le) * x.pw)]) ∧ Below w.heap.size w w' := by
  obtain ⟨t0, t1⟩ := tb_ok hs2 ho hk
  obtain ⟨n0, n1⟩ := need_bd hs2 ho hk
  obtain ⟨⟨l0, l1⟩, hbu, hra, hde, -⟩ := OkB.sure ho hk
  have hpw := OkB.pw_ ho
  have q1 := ceil_bd (n := x.bu) (b := x.de) (by omega) (by omega)
  have q0 := ceil_nn (n := x.bu) (b := x.de) (by omega) (by omega)
  have HC1 := hide (fun W => ceil_base x.bu x.de W (by omega) (by omega) (by omega) (by omega))
  have HC2 := hide (fun W => ceil_base (max x.ra (ceilI x.bu x.de)) (tbO T x.le) W (by omega) (by omega) (by omega) (by omega))
  have hnb : ceilI (max x.ra (ceilI x.bu x.de)) (tbO T x.le) = needB x.ra x.bu x.de (tbO T x.le) := rfl
  rw [hnb] at HC2
  obtain ⟨NB, hNB⟩ : ∃ z, needB x.ra x.bu x.de (tbO T x.le) = z := ⟨_, rfl⟩
  rw [hNB] at HC2 n0 n1 ⊢
  obtain ⟨Q, hQ⟩ : ∃ z, ceilI x.bu x.de = z := ⟨_, rfl⟩
  rw [hQ] at HC1 HC2 q0 q1
  obtain ⟨t, ht⟩ := Int.eq_ofNat_of_zero_le l0
  have htT : t < T.length := by omega
  have htn : t < n := by omega
  obtain ⟨b, off, rfl, hd0⟩ := hs.int htT
  clear hd0
  have HTB := hide (fun W (h : Sl W (some ⟨b, off, none⟩) (iv T)) => show W.cell? ⟨b, off + t, none⟩ = some (.int .i64 T[t]) from by
    obtain ⟨b', off', e, d⟩ := h.int htT
    injection e with e
    injection e with e1 e2
    subst e1 e2
    exact d)
  have hx : T[t] = tbO T x.le := by unfold tbO; rw [ht, Int.toNat_natCast, List.getElem?_eq_getElem htT]; rfl
  rw [hx] at HTB
  obtain ⟨tb, hx2⟩ : ∃ z, tbO T x.le = z := ⟨_, rfl⟩
  rw [hx2] at HTB HC2
  rw [ht]
  have g1 : (t : Int) < (n : Int) := by omega
  have hpp : 0 ≤ NB * x.pw ∧ NB * x.pw ≤ 1000000 * 100000 := ⟨Int.mul_nonneg (by omega) hpw.1, Int.mul_le_mul n1 hpw.2 hpw.1 (by omega)⟩
  have w1 : IntKind.i64.wrap (NB * x.pw) = NB * x.pw := IntWalk.i64_in _ (by omega)
  have HT := hide (((((stay_blk ((Blk.new w 24 #[.int .i64 B, .int .i64 C, .int .i64 P, .slice (some ⟨b, off, none⟩) n c]).alloc (.cells #[strV x.nm, .int .i64 x.kd, .int .i64 x.pr, .int .i64 x.wt, .int .i64 x.pw, .int .i64 (t : Int), .int .i64 x.bu, .int .i64 x.ra, .int .i64 x.de] 32))).alloc (.cells #[.int .i64 0, .int .i64 0, .int .i64 0] 51)).and ((stay_blk (blk_up w 24 32 #[.int .i64 B, .int .i64 C, .int .i64 P, .slice (some ⟨b, off, none⟩) n c] #[strV x.nm, .int .i64 x.kd, .int .i64 x.pr, .int .i64 x.wt, .int .i64 x.pw, .int .i64 (t : Int), .int .i64 x.bu, .int .i64 x.ra, .int .i64 x.de])).alloc (.cells #[.int .i64 0, .int .i64 0, .int .i64 0] 51))).and (stay_blk (blk_up2 w 24 32 51 #[.int .i64 B, .int .i64 C, .int .i64 P, .slice (some ⟨b, off, none⟩) n c] #[strV x.nm, .int .i64 x.kd, .int .i64 x.pr, .int .i64 x.wt, .int .i64 x.pw, .int .i64 (t : Int), .int .i64 x.bu, .int .i64 x.ra, .int .i64 x.de] #[.int .i64 0, .int .i64 0, .int .i64 0]))).and (((stay_sl (hs.alloc (.cells #[.int .i64 B, .int .i64 C, .int .i64 P, .slice (some ⟨b, off, none⟩) n c] 24))).alloc (.cells #[strV x.nm, .int .i64 x.kd, .int .i64 x.pr, .int .i64 x.wt, .int .i64 x.pw, .int .i64 (t : Int), .int .i64 x.bu, .int .i64 x.ra, .int .i64 x.de] 32)).alloc (.cells #[.int .i64 0, .int .i64 0, .int .i64 0] 51)) |>.and (stay_below ((((Below.refl _ w).alloc (Nat.le_refl _) (.cells #[.int .i64 B, .int .i64 C, .int .i64 P, .slice (some ⟨b, off, none⟩) n c] 24)).alloc (by simp) (.cells #[strV x.nm, .int .i64 x.kd, .int .i64 x.pr, .int .i64 x.wt, .int .i64 x.pw, .int .i64 (t : Int), .int .i64 x.bu, .int .i64 x.ra, .int .i64 x.de] 32)).alloc (by simp; omega) (.cells #[.int .i64 0, .int .i64 0, .int .i64 0] 51))))
  have HXX := hide ht
  clear hs hs2 ho hn hnb hNB hQ htT hx hx2 t0 t1 n0 n1 l0 l1 hbu hde hpw hpp q1
  rcases (by omega : x.ra ≤ Q ∨ Q < x.ra) with hm | hm
  · have hmx : max x.ra Q = Q := by omega
    have hm2 : ¬ Q < x.ra := by omega
    rw [hmx] at HC2
    go_enter Try.func65, Try.ntmps65
    obtain ⟨W0, hW0⟩ : ∃ W0, ((w.alloc (.cells #[.int .i64 B, .int .i64 C, .int .i64 P, .slice (some ⟨b, off, none⟩) n c] 24)).alloc (.cells #[strV x.nm, .int .i64 x.kd, .int .i64 x.pr, .int .i64 x.wt, .int .i64 x.pw, .int .i64 (t : Int), .int .i64 x.bu, .int .i64 x.ra, .int .i64 x.de] 32)).alloc (.cells #[.int .i64 0, .int .i64 0, .int .i64 0] 51) = W0 := ⟨_, rfl⟩
    rw [hW0] at HT
    have z1 : W0.cell? ⟨w.heap.size + 1, 1, none⟩ = some (.int .i64 x.kd) := HT.out.now.1.1.1.2.cell 1
    go_wp2_with fail
    clear z1
    have HL := hide (fun W (h : Below W0.heap.size W0 W) => (HT.out W h).1.1.1.2)
    refine wp_region_held_drew (S := fun w' => Below W0.heap.size W0 w') (by kernel_rfl) (below_drewN (Below.refl _ _) 1) (fun hHeld => ?_)
    refine take_at (i := 0) 11 (v := .pointer (some ⟨w.heap.size + 1, 7, none⟩)) rfl rfl (by kernel_rfl) (by kernel_rfl) (by kernel_rfl) (fun _ _ _ h => h) (Or.inl ⟨by rfl, by intro w hSw; go_simp⟩) (by assumption) ?_
    try simp only [Act.put, List.setIfInBounds_toArray, List.set_cons_zero, List.set_cons_succ]
    refine take_at (i := 1) 12 (v := .int .i64 x.ra) rfl rfl (by kernel_rfl) (by kernel_rfl) (by kernel_rfl) (fun _ _ _ h => h) (Or.inl ⟨by rfl, by intro w_ hSw; have hb := HL.out w_ hSw; have d6 : w_.cell? ⟨w.heap.size + 1, 6, none⟩ = some (.int .i64 x.bu) := hb.cell 6; have d7 : w_.cell? ⟨w.heap.size + 1, 7, none⟩ = some (.int .i64 x.ra) := hb.cell 7; have d8 : w_.cell? ⟨w.heap.size + 1, 8, none⟩ = some (.int .i64 x.de) := hb.cell 8; go_simp⟩) (by assumption) ?_
    try simp only [Act.put, List.setIfInBounds_toArray, List.set_cons_zero, List.set_cons_succ]
    refine take_at (i := 2) 13 (v := .pointer (some ⟨w.heap.size + 1, 6, none⟩)) rfl rfl (by kernel_rfl) (by kernel_rfl) (by kernel_rfl) (fun _ _ _ h => h) (Or.inl ⟨by rfl, by intro w hSw; go_simp⟩) (by assumption) ?_
    try simp only [Act.put, List.setIfInBounds_toArray, List.set_cons_zero, List.set_cons_succ]
    refine take_at (i := 3) 14 (v := .int .i64 x.bu) rfl rfl (by kernel_rfl) (by kernel_rfl) (by kernel_rfl) (fun _ _ _ h => h) (Or.inl ⟨by rfl, by intro w_ hSw; have hb := HL.out w_ hSw; have d6 : w_.cell? ⟨w.heap.size + 1, 6, none⟩ = some (.int .i64 x.bu) := hb.cell 6; have d7 : w_.cell? ⟨w.heap.size + 1, 7, none⟩ = some (.int .i64 x.ra) := hb.cell 7; have d8 : w_.cell? ⟨w.heap.size + 1, 8, none⟩ = some (.int .i64 x.de) := hb.cell 8; go_simp⟩) (by assumption) ?_
    try simp only [Act.put, List.setIfInBounds_toArray, List.set_cons_zero, List.set_cons_succ]
    refine take_at (i := 4) 15 (v := .pointer (some ⟨w.heap.size + 1, 8, none⟩)) rfl rfl (by kernel_rfl) (by kernel_rfl) (by kernel_rfl) (fun _ _ _ h => h) (Or.inl ⟨by rfl, by intro w hSw; go_simp⟩) (by assumption) ?_
    try simp only [Act.put, List.setIfInBounds_toArray, List.set_cons_zero, List.set_cons_succ]
    refine take_at (i := 5) 16 (v := .int .i64 x.de) rfl rfl (by kernel_rfl) (by kernel_rfl) (by kernel_rfl) (fun _ _ _ h => h) (Or.inl ⟨by rfl, by intro w_ hSw; have hb := HL.out w_ hSw; have d6 : w_.cell? ⟨w.heap.size + 1, 6, none⟩ = some (.int .i64 x.bu) := hb.cell 6; have d7 : w_.cell? ⟨w.heap.size + 1, 7, none⟩ = some (.int .i64 x.ra) := hb.cell 7; have d8 : w_.cell? ⟨w.heap.size + 1, 8, none⟩ = some (.int .i64 x.de) := hb.cell 8; go_simp⟩) (by assumption) ?_
    try simp only [Act.put, List.setIfInBounds_toArray, List.set_cons_zero, List.set_cons_succ]
    refine wpAnyH_ready (rs := [6]) (by kernel_rfl) (by simp) ?_
    refine AllReadyH.cons rfl (fun K hK => ?_) AllReadyH.nil
    go_simp
    go_at_call 66
    refine (HC1.out _).mono ?_
    rintro e w' ⟨rfl, rfl⟩
    try simp only []
    refine hK.out _ _ (below_drewN (Below.refl _ _) 1) (fun hHeld => ?_)
    clear hK K
    try simp only [Act.put, List.setIfInBounds_toArray, List.set_cons_zero, List.set_cons_succ]
    refine take_at (i := 7) 18 (v := .int .i64 Q) rfl rfl (by kernel_rfl) (by kernel_rfl) (by kernel_rfl) (fun _ _ _ h => h) (Or.inl ⟨by rfl, by intro w hSw; go_simp; all_goals omega⟩) (by assumption) ?_
    try simp only [Act.put, List.setIfInBounds_toArray, List.set_cons_zero, List.set_cons_succ]
    refine take_at (i := 8) 5 (v := .int .i64 Q) rfl rfl (by kernel_rfl) (by kernel_rfl) (by kernel_rfl) (fun _ _ _ h => h) (Or.inl ⟨by rfl, by intro w hSw; go_simp⟩) (by assumption) ?_
    try simp only [Act.put, List.setIfInBounds_toArray, List.set_cons_zero, List.set_cons_succ]
    refine wpAnyH_done (by kernel_rfl) ?_ _
    replace HT := hide (HT.out.drewN 1)
    clear HL hHeld
    have y3 : W0.drew.cell? ⟨w.heap.size, 3, none⟩ = some (.slice (some ⟨b, off, none⟩) n c) := HT.out.now.1.1.1.1.cell 3
    have y5 : W0.drew.cell? ⟨w.heap.size + 1, 5, none⟩ = some (.int .i64 (t : Int)) := HT.out.now.1.1.1.2.cell 5
    have yt := HTB.out _ HT.out.now.1.2
    have y4 : W0.drew.cell? ⟨w.heap.size + 1, 4, none⟩ = some (.int .i64 x.pw) := HT.out.now.1.1.1.2.cell 4
    change W0.drew.cell? _ = _ at yt
    go_wp2_with (first | (go_at_call 66; go_must (refine (HC2.out _).mono ?_; rintro e w' ⟨rfl, rfl⟩; simp only [])) | (refine wpList_store_row rfl 51 (.tmp 4) (.tmp 32) rfl (w.heap.size + 2) #[.int .i64 NB, .int .i64 1, .int .i64 (NB * x.pw)] rfl rfl 51 #[.int .i64 0, .int .i64 0, .int .i64 0] HT.out.now.1.1.2 (by kernel_rfl) rfl (by simp [Value.oneCell']) ?_))
    have HX := hide (HT.out.now.1.1.2.row #[.int .i64 NB, .int .i64 1, .int .i64 (NB * x.pw)])
    have HB := hide (Below.row (g := w.heap.size + 2) HT.out.now.2 (by omega) #[.int .i64 NB, .int .i64 1, .int .i64 (NB * x.pw)])
    obtain ⟨W5, hW5⟩ : ∃ W5, (W0.drewN 1).setRow (w.heap.size + 2) #[.int .i64 NB, .int .i64 1, .int .i64 (NB * x.pw)] = W5 := ⟨_, rfl⟩
    rw [hW5] at HX HB
    refine bodyPost_ret (v := .agg #[.int .i64 NB, .int .i64 1, .int .i64 (NB * x.pw)]) ?_ rfl ⟨rfl, by rw [← hW5] at HB; exact HB.out⟩
    have y0 : W5.cell? ⟨w.heap.size + 2, 0, none⟩ = some (.int .i64 NB) := HX.out.cell 0
    have y1 : W5.cell? ⟨w.heap.size + 2, 1, none⟩ = some (.int .i64 1) := HX.out.cell 1
    have y2 : W5.cell? ⟨w.heap.size + 2, 2, none⟩ = some (.int .i64 (NB * x.pw)) := HX.out.cell 2
    change (results Try.f65 _).run Try.prog ((W0.drewN 1).setRow (w.heap.size + 2) #[.int .i64 NB, .int .i64 1, .int .i64 (NB * x.pw)]) = .ok _ ((W0.drewN 1).setRow (w.heap.size + 2) #[.int .i64 NB, .int .i64 1, .int .i64 (NB * x.pw)])
    rw [hW5]
    simp [results, Try.results65, go_sem, y0, y1, y2]
  · have hmx : max x.ra Q = x.ra := by omega
    have hm2 : ¬ x.ra ≤ Q := by omega
    have hm3 : Q ≤ x.ra := by omega
    rw [hmx] at HC2
    go_enter Try.func65, Try.ntmps65
    obtain ⟨W0, hW0⟩ : ∃ W0, ((w.alloc (.cells #[.int .i64 B, .int .i64 C, .int .i64 P, .slice (some ⟨b, off, none⟩) n c] 24)).alloc (.cells #[strV x.nm, .int .i64 x.kd, .int .i64 x.pr, .int .i64 x.wt, .int .i64 x.pw, .int .i64 (t : Int), .int .i64 x.bu, .int .i64 x.ra, .int .i64 x.de] 32)).alloc (.cells #[.int .i64 0, .int .i64 0, .int .i64 0] 51) = W0 := ⟨_, rfl⟩
    rw [hW0] at HT
    have z1 : W0.cell? ⟨w.heap.size + 1, 1, none⟩ = some (.int .i64 x.kd) := HT.out.now.1.1.1.2.cell 1
    go_wp2_with fail
    clear z1
    have HL := hide (fun W (h : Below W0.heap.size W0 W) => (HT.out W h).1.1.1.2)
    refine wp_region_held_drew (S := fun w' => Below W0.heap.size W0 w') (by kernel_rfl) (below_drewN (Below.refl _ _) 1) (fun hHeld => ?_)
    refine take_at (i := 0) 11 (v := .pointer (some ⟨w.heap.size + 1, 7, none⟩)) rfl rfl (by kernel_rfl) (by kernel_rfl) (by kernel_rfl) (fun _ _ _ h => h) (Or.inl ⟨by rfl, by intro w hSw; go_simp⟩) (by assumption) ?_
    try simp only [Act.put, List.setIfInBounds_toArray, List.set_cons_zero, List.set_cons_succ]
    refine take_at (i := 1) 12 (v := .int .i64 x.ra) rfl rfl (by kernel_rfl) (by kernel_rfl) (by kernel_rfl) (fun _ _ _ h => h) (Or.inl ⟨by rfl, by intro w_ hSw; have hb := HL.out w_ hSw; have d6 : w_.cell? ⟨w.heap.size + 1, 6, none⟩ = some (.int .i64 x.bu) := hb.cell 6; have d7 : w_.cell? ⟨w.heap.size + 1, 7, none⟩ = some (.int .i64 x.ra) := hb.cell 7; have d8 : w_.cell? ⟨w.heap.size + 1, 8, none⟩ = some (.int .i64 x.de) := hb.cell 8; go_simp⟩) (by assumption) ?_
    try simp only [Act.put, List.setIfInBounds_toArray, List.set_cons_zero, List.set_cons_succ]
    refine take_at (i := 2) 13 (v := .pointer (some ⟨w.heap.size + 1, 6, none⟩)) rfl rfl (by kernel_rfl) (by kernel_rfl) (by kernel_rfl) (fun _ _ _ h => h) (Or.inl ⟨by rfl, by intro w hSw; go_simp⟩) (by assumption) ?_
    try simp only [Act.put, List.setIfInBounds_toArray, List.set_cons_zero, List.set_cons_succ]
    refine take_at (i := 3) 14 (v := .int .i64 x.bu) rfl rfl (by kernel_rfl) (by kernel_rfl) (by kernel_rfl) (fun _ _ _ h => h) (Or.inl ⟨by rfl, by intro w_ hSw; have hb := HL.out w_ hSw; have d6 : w_.cell? ⟨w.heap.size + 1, 6, none⟩ = some (.int .i64 x.bu) := hb.cell 6; have d7 : w_.cell? ⟨w.heap.size + 1, 7, none⟩ = some (.int .i64 x.ra) := hb.cell 7; have d8 : w_.cell? ⟨w.heap.size + 1, 8, none⟩ = some (.int .i64 x.de) := hb.cell 8; go_simp⟩) (by assumption) ?_
    try simp only [Act.put, List.setIfInBounds_toArray, List.set_cons_zero, List.set_cons_succ]
    refine take_at (i := 4) 15 (v := .pointer (some ⟨w.heap.size + 1, 8, none⟩)) rfl rfl (by kernel_rfl) (by kernel_rfl) (by kernel_rfl) (fun _ _ _ h => h) (Or.inl ⟨by rfl, by intro w hSw; go_simp⟩) (by assumption) ?_
    try simp only [Act.put, List.setIfInBounds_toArray, List.set_cons_zero, List.set_cons_succ]
    refine take_at (i := 5) 16 (v := .int .i64 x.de) rfl rfl (by kernel_rfl) (by kernel_rfl) (by kernel_rfl) (fun _ _ _ h => h) (Or.inl ⟨by rfl, by intro w_ hSw; have hb := HL.out w_ hSw; have d6 : w_.cell? ⟨w.heap.size + 1, 6, none⟩ = some (.int .i64 x.bu) := hb.cell 6; have d7 : w_.cell? ⟨w.heap.size + 1, 7, none⟩ = some (.int .i64 x.ra) := hb.cell 7; have d8 : w_.cell? ⟨w.heap.size + 1, 8, none⟩ = some (.int .i64 x.de) := hb.cell 8; go_simp⟩) (by assumption) ?_
    try simp only [Act.put, List.setIfInBounds_toArray, List.set_cons_zero, List.set_cons_succ]
    refine wpAnyH_ready (rs := [6]) (by kernel_rfl) (by simp) ?_
    refine AllReadyH.cons rfl (fun K hK => ?_) AllReadyH.nil
    go_simp
    go_at_call 66
    refine (HC1.out _).mono ?_
    rintro e w' ⟨rfl, rfl⟩
    try simp only []
    refine hK.out _ _ (below_drewN (Below.refl _ _) 1) (fun hHeld => ?_)
    clear hK K
    try simp only [Act.put, List.setIfInBounds_toArray, List.set_cons_zero, List.set_cons_succ]
    refine take_at (i := 7) 18 (v := .int .i64 x.ra) rfl rfl (by kernel_rfl) (by kernel_rfl) (by kernel_rfl) (fun _ _ _ h => h) (Or.inl ⟨by rfl, by intro w hSw; go_simp; all_goals omega⟩) (by assumption) ?_
    try simp only [Act.put, List.setIfInBounds_toArray, List.set_cons_zero, List.set_cons_succ]
    refine take_at (i := 8) 5 (v := .int .i64 x.ra) rfl rfl (by kernel_rfl) (by kernel_rfl) (by kernel_rfl) (fun _ _ _ h => h) (Or.inl ⟨by rfl, by intro w hSw; go_simp⟩) (by assumption) ?_
    try simp only [Act.put, List.setIfInBounds_toArray, List.set_cons_zero, List.set_cons_succ]
    refine wpAnyH_done (by kernel_rfl) ?_ _
    replace HT := hide (HT.out.drewN 1)
    clear HL hHeld
    have y3 : W0.drew.cell? ⟨w.heap.size, 3, none⟩ = some (.slice (some ⟨b, off, none⟩) n c) := HT.out.now.1.1.1.1.cell 3
    have y5 : W0.drew.cell? ⟨w.heap.size + 1, 5, none⟩ = some (.int .i64 (t : Int)) := HT.out.now.1.1.1.2.cell 5
    have yt := HTB.out _ HT.out.now.1.2
    have y4 : W0.drew.cell? ⟨w.heap.size + 1, 4, none⟩ = some (.int .i64 x.pw) := HT.out.now.1.1.1.2.cell 4
    change W0.drew.cell? _ = _ at yt
    go_wp2_with (first | (go_at_call 66; go_must (refine (HC2.out _).mono ?_; rintro e w' ⟨rfl, rfl⟩; simp only [])) | (refine wpList_store_row rfl 51 (.tmp 4) (.tmp 32) rfl (w.heap.size + 2) #[.int .i64 NB, .int .i64 1, .int .i64 (NB * x.pw)] rfl rfl 51 #[.int .i64 0, .int .i64 0, .int .i64 0] HT.out.now.1.1.2 (by kernel_rfl) rfl (by simp [Value.oneCell']) ?_))
    have HX := hide (HT.out.now.1.1.2.row #[.int .i64 NB, .int .i64 1, .int .i64 (NB * x.pw)])
    have HB := hide (Below.row (g := w.heap.size + 2) HT.out.now.2 (by omega) #[.int .i64 NB, .int .i64 1, .int .i64 (NB * x.pw)])
    obtain ⟨W5, hW5⟩ : ∃ W5, (W0.drewN 1).setRow (w.heap.size + 2) #[.int .i64 NB, .int .i64 1, .int .i64 (NB * x.pw)] = W5 := ⟨_, rfl⟩
    rw [hW5] at HX HB
    refine bodyPost_ret (v := .agg #[.int .i64 NB, .int .i64 1, .int .i64 (NB * x.pw)]) ?_ rfl ⟨rfl, by rw [← hW5] at HB; exact HB.out⟩
    have y0 : W5.cell? ⟨w.heap.size + 2, 0, none⟩ = some (.int .i64 NB) := HX.out.cell 0
    have y1 : W5.cell? ⟨w.heap.size + 2, 1, none⟩ = some (.int .i64 1) := HX.out.cell 1
    have y2 : W5.cell? ⟨w.heap.size + 2, 2, none⟩ = some (.int .i64 (NB * x.pw)) := HX.out.cell 2
    change (results Try.f65 _).run Try.prog ((W0.drewN 1).setRow (w.heap.size + 2) #[.int .i64 NB, .int .i64 1, .int .i64 (NB * x.pw)]) = .ok _ ((W0.drewN 1).setRow (w.heap.size + 2) #[.int .i64 NB, .int .i64 1, .int .i64 (NB * x.pw)])
    rw [hW5]
    simp [results, Try.results65, go_sem, y0, y1, y2]
theorem needR_all (B C P : Int) (A : Option Addr) (c n : Nat) (T : List Int) (x : Ber) (w : World) (hn : T.length = n) (hs : Sl w A (iv T)) (hs2 : OkS B C P T) (ho : OkR T x) :
    Calls Try.prog 65 #[.agg #[.int .i64 B, .int .i64 C, .int .i64 P, .slice A n c], .agg #[strV x.nm, .int .i64 x.kd, .int .i64 x.pr, .int .i64 x.wt, .int .i64 x.pw, .int .i64 x.le, .int .i64 x.bu, .int .i64 x.ra, .int .i64 x.de]] w fun e w' => e = .returned (.agg #[.int .i64 (ndB T x), .int .i64 (ndC x), .int .i64 (ndP T x)]) ∧ Below w.heap.size w w' := by
  unfold ndP ndB ndC
  by_cases h : x.kd = 0
  · rw [if_pos h, if_pos h, Int.zero_mul]
    exact needR_zero B C P A c n x w h
  · rw [if_neg h, if_neg h]
    exact needR_ok B C P A c n T x w hn hs hs2 ho h
end Go.Proofs.Ytppkibgemacdbaa
