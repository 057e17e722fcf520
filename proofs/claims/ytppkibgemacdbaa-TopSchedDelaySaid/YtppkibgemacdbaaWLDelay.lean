import Derived.Test.YtppkibgemacdbaaWLRuns
import Derived.Deep.CutRange
namespace Go.Proofs.Ytppkibgemacdbaa
open Go.RowKit Go.WideShapes Go.ChangeShapes

/-! the law TopSchedDelay -/
theorem run_le (B C P : Int) (A : Option Addr) (c n : Nat) (T : List Int) (nm : Bs) (kd pr wt pw le bu ra de : Int) (w : World) (hn : T.length = n) (hs : Sl w A (iv T)) (hs2 : OkS B C P T) (ho : OkB T nm kd pr wt pw le bu ra de) (hk : kd ≠ 0) (hBN : B = needB ra bu de (tbO T le))
    (hf : fitB B P pw ra bu de (tbO T le) = true) (g d : Nat) (hg : Blk w g 32 #[strV nm, .int .i64 kd, .int .i64 pr, .int .i64 wt, .int .i64 pw, .int .i64 le, .int .i64 bu, .int .i64 ra, .int .i64 de]) (D : Option Addr) (dd m : Nat) (hsl : SlotsAt w D m le (arrT bu)) (hm : m ≤ 60) :
    Calls Try.prog 18 #[.agg #[.int .i64 B, .int .i64 C, .int .i64 P, .slice A n c], .slice (some ⟨g, 0, none⟩) 1 d, .slice D m dd] w (RunR (wtT bu (needB ra bu de (tbO T le) * tbO T le) m) w) := by
  obtain ⟨ab, ao, rfl, _⟩ := hs 0 (by have := hs2.pos; simpa [iv] using this)
  obtain ⟨kk, rfl⟩ := Int.eq_ofNat_of_zero_le (ho.sure hk).1.1
  exact run_one B C P ab ao c n T nm kd pr wt pw bu ra de kk w hn hs hs2 ho hk hBN hf g d hg D dd m hsl hm
theorem slots_u : Try.prog.underlying 42 = some (.slice (Try.prog.elem 42)) := by kernel_rfl
theorem size_slot (w : World) : (sizeOf 44).run Try.prog w = .ok 2 w := by kernel_rfl
theorem slice_front (b off len c k : Nat) (hk : k ≤ c) (hc : 0 < c) (w : World) : (Instr.sliceAt 42 (.slice (some ⟨b, off, none⟩) len c) none (some (.int .i64 (k : Int))) none).run Try.prog w = .ok (.slice (some ⟨b, off, none⟩) k c) w := by
  rw [run_sliceAt_slice w _ _ _ _ _ slots_u, run_slice_h w _ _ _ _ slots_u .i64 (k : Int) (by omega) (by omega), show Try.prog.elem 42 = 44 by kernel_rfl, size_slot]
  simp only [Result.andThen_ok, sliced, if_neg (show ¬ c = 0 by omega), Option.map_some, add_lit, Nat.zero_mul, Nat.add_zero, Nat.sub_zero, Int.toNat_natCast]
set_option maxRecDepth 100000 in
set_option maxHeartbeats 16000000 in
theorem TopSchedDelay_law (B C P : Int) (A : Option Addr) (c n : Nat) (T : List Int) (nm : Bs) (kd pr wt pw le bu ra de : Int) (w : World) (hn : T.length = n) (hs : Sl w A (iv T)) :
    Calls Try.prog 4 #[.agg #[.int .i64 B, .int .i64 C, .int .i64 P, .slice A n c], .agg #[strV nm, .int .i64 kd, .int .i64 pr, .int .i64 wt, .int .i64 pw, .int .i64 le, .int .i64 bu, .int .i64 ra, .int .i64 de]] w fun e w' => e = .returned (.bool true) ∧ Below w.heap.size w w' := by
  have HT : Hid (Stay ((w.alloc (.cells #[.int .i64 B, .int .i64 C, .int .i64 P, .slice A n c] 24)).alloc (.cells #[strV nm, .int .i64 kd, .int .i64 pr, .int .i64 wt, .int .i64 pw, .int .i64 le, .int .i64 bu, .int .i64 ra, .int .i64 de] 32)) (fun W => (((Blk W w.heap.size 24 #[.int .i64 B, .int .i64 C, .int .i64 P, .slice A n c] ∧ Blk W (w.heap.size + 1) 32 #[strV nm, .int .i64 kd, .int .i64 pr, .int .i64 wt, .int .i64 pw, .int .i64 le, .int .i64 bu, .int .i64 ra, .int .i64 de]) ∧ Sl W A (iv T)) ∧ Below w.heap.size w W))) := hide
    ((((stay_blk (Blk.new w 24 #[.int .i64 B, .int .i64 C, .int .i64 P, .slice A n c])).alloc (.cells #[strV nm, .int .i64 kd, .int .i64 pr, .int .i64 wt, .int .i64 pw, .int .i64 le, .int .i64 bu, .int .i64 ra, .int .i64 de] 32)).and (stay_blk (blk_up w 24 32 #[.int .i64 B, .int .i64 C, .int .i64 P, .slice A n c] #[strV nm, .int .i64 kd, .int .i64 pr, .int .i64 wt, .int .i64 pw, .int .i64 le, .int .i64 bu, .int .i64 ra, .int .i64 de]))).and (((stay_sl (hs.alloc (.cells #[.int .i64 B, .int .i64 C, .int .i64 P, .slice A n c] 24))).alloc (.cells #[strV nm, .int .i64 kd, .int .i64 pr, .int .i64 wt, .int .i64 pw, .int .i64 le, .int .i64 bu, .int .i64 ra, .int .i64 de] 32))) |>.and (stay_below (((Below.refl _ w).alloc (Nat.le_refl _) (.cells #[.int .i64 B, .int .i64 C, .int .i64 P, .slice A n c] 24)).alloc (by simp) (.cells #[strV nm, .int .i64 kd, .int .i64 pr, .int .i64 wt, .int .i64 pw, .int .i64 le, .int .i64 bu, .int .i64 ra, .int .i64 de] 32))))
  clear hs
  go_enter Try.func4, Try.ntmps4
  go_wp2_with fail
  go_at_call 5
  refine (scheduled_ok _).mono ?_
  rintro e w1 ⟨rfl, hb⟩
  replace HT := hide (HT.out.step hb)
  clear hb
  simp only []
  have s0 : w1.cell? ⟨w.heap.size, 0, none⟩ = some (.int .i64 B) := HT.out.now.1.1.1.cell 0
  have s1 : w1.cell? ⟨w.heap.size, 1, none⟩ = some (.int .i64 C) := HT.out.now.1.1.1.cell 1
  have s2 : w1.cell? ⟨w.heap.size, 2, none⟩ = some (.int .i64 P) := HT.out.now.1.1.1.cell 2
  have s3 : w1.cell? ⟨w.heap.size, 3, none⟩ = some (.slice A n c) := HT.out.now.1.1.1.cell 3
  have b0 : w1.cell? ⟨w.heap.size + 1, 0, none⟩ = some (strV nm) := HT.out.now.1.1.2.cell 0
  have b1 : w1.cell? ⟨w.heap.size + 1, 1, none⟩ = some (.int .i64 kd) := HT.out.now.1.1.2.cell 1
  have b2 : w1.cell? ⟨w.heap.size + 1, 2, none⟩ = some (.int .i64 pr) := HT.out.now.1.1.2.cell 2
  have b3 : w1.cell? ⟨w.heap.size + 1, 3, none⟩ = some (.int .i64 wt) := HT.out.now.1.1.2.cell 3
  have b4 : w1.cell? ⟨w.heap.size + 1, 4, none⟩ = some (.int .i64 pw) := HT.out.now.1.1.2.cell 4
  have b5 : w1.cell? ⟨w.heap.size + 1, 5, none⟩ = some (.int .i64 le) := HT.out.now.1.1.2.cell 5
  have b6 : w1.cell? ⟨w.heap.size + 1, 6, none⟩ = some (.int .i64 bu) := HT.out.now.1.1.2.cell 6
  have b7 : w1.cell? ⟨w.heap.size + 1, 7, none⟩ = some (.int .i64 ra) := HT.out.now.1.1.2.cell 7
  have b8 : w1.cell? ⟨w.heap.size + 1, 8, none⟩ = some (.int .i64 de) := HT.out.now.1.1.2.cell 8
  go_wp2_with fail
  clear s0 s1 s2 s3 b0 b1 b2 b3 b4 b5 b6 b7 b8
  go_at_call 6
  refine (fewOne B C P A c n nm kd pr wt pw le bu ra de _ w1.heap.size 1 (Blk.new w1 32 #[strV nm, .int .i64 kd, .int .i64 pr, .int .i64 wt, .int .i64 pw, .int .i64 le, .int .i64 bu, .int .i64 ra, .int .i64 de])).mono ?_
  rintro e w2 ⟨rfl, hb⟩
  replace HT := hide ((HT.out.alloc (.cells #[strV nm, .int .i64 kd, .int .i64 pr, .int .i64 wt, .int .i64 pw, .int .i64 le, .int .i64 bu, .int .i64 ra, .int .i64 de] 32)).step hb)
  clear hb
  by_cases hF : n ≤ 18 ∧ nm.length ≤ 20
  rotate_left
  · rw [show (decide (n ≤ 18) && decide (nm.length ≤ 20)) = false by simp only [Bool.and_eq_false_imp, decide_eq_true_eq, decide_eq_false_iff_not]; intro h1 h2; exact hF ⟨h1, h2⟩]
    clear hF
    simp only []
    go_wp2
    go_ret
    exact ⟨rfl, HT.out.now.2⟩
  rw [show (decide (n ≤ 18) && decide (nm.length ≤ 20)) = true by simp [hF.1, hF.2]]
  simp only []
  have s0 : w2.cell? ⟨w.heap.size, 0, none⟩ = some (.int .i64 B) := HT.out.now.1.1.1.cell 0
  have s1 : w2.cell? ⟨w.heap.size, 1, none⟩ = some (.int .i64 C) := HT.out.now.1.1.1.cell 1
  have s2 : w2.cell? ⟨w.heap.size, 2, none⟩ = some (.int .i64 P) := HT.out.now.1.1.1.cell 2
  have s3 : w2.cell? ⟨w.heap.size, 3, none⟩ = some (.slice A n c) := HT.out.now.1.1.1.cell 3
  have b0 : w2.cell? ⟨w.heap.size + 1, 0, none⟩ = some (strV nm) := HT.out.now.1.1.2.cell 0
  have b1 : w2.cell? ⟨w.heap.size + 1, 1, none⟩ = some (.int .i64 kd) := HT.out.now.1.1.2.cell 1
  have b2 : w2.cell? ⟨w.heap.size + 1, 2, none⟩ = some (.int .i64 pr) := HT.out.now.1.1.2.cell 2
  have b3 : w2.cell? ⟨w.heap.size + 1, 3, none⟩ = some (.int .i64 wt) := HT.out.now.1.1.2.cell 3
  have b4 : w2.cell? ⟨w.heap.size + 1, 4, none⟩ = some (.int .i64 pw) := HT.out.now.1.1.2.cell 4
  have b5 : w2.cell? ⟨w.heap.size + 1, 5, none⟩ = some (.int .i64 le) := HT.out.now.1.1.2.cell 5
  have b6 : w2.cell? ⟨w.heap.size + 1, 6, none⟩ = some (.int .i64 bu) := HT.out.now.1.1.2.cell 6
  have b7 : w2.cell? ⟨w.heap.size + 1, 7, none⟩ = some (.int .i64 ra) := HT.out.now.1.1.2.cell 7
  have b8 : w2.cell? ⟨w.heap.size + 1, 8, none⟩ = some (.int .i64 de) := HT.out.now.1.1.2.cell 8
  go_wp2_with fail
  clear s0 s1 s2 s3 b0 b1 b2 b3 b4 b5 b6 b7 b8
  go_at_call 7
  refine (siteErr_ref B C P A c n T _ hn HT.out.now.1.2 (by omega)).mono ?_
  rintro e w3 ⟨v, rfl, hv, hb⟩
  replace HT := hide (HT.out.step hb)
  clear hb
  by_cases h0 : v = 0
  rotate_left
  · have hv0 : (v != 0) = true := by simpa using h0
    clear h0 hv hF
    simp only []
    go_wp2
    go_ret
    exact ⟨rfl, HT.out.now.2⟩
  subst h0
  have hs2 := hv rfl
  clear hv
  simp only []
  have s0 : w3.cell? ⟨w.heap.size, 0, none⟩ = some (.int .i64 B) := HT.out.now.1.1.1.cell 0
  have s1 : w3.cell? ⟨w.heap.size, 1, none⟩ = some (.int .i64 C) := HT.out.now.1.1.1.cell 1
  have s2 : w3.cell? ⟨w.heap.size, 2, none⟩ = some (.int .i64 P) := HT.out.now.1.1.1.cell 2
  have s3 : w3.cell? ⟨w.heap.size, 3, none⟩ = some (.slice A n c) := HT.out.now.1.1.1.cell 3
  have b0 : w3.cell? ⟨w.heap.size + 1, 0, none⟩ = some (strV nm) := HT.out.now.1.1.2.cell 0
  have b1 : w3.cell? ⟨w.heap.size + 1, 1, none⟩ = some (.int .i64 kd) := HT.out.now.1.1.2.cell 1
  have b2 : w3.cell? ⟨w.heap.size + 1, 2, none⟩ = some (.int .i64 pr) := HT.out.now.1.1.2.cell 2
  have b3 : w3.cell? ⟨w.heap.size + 1, 3, none⟩ = some (.int .i64 wt) := HT.out.now.1.1.2.cell 3
  have b4 : w3.cell? ⟨w.heap.size + 1, 4, none⟩ = some (.int .i64 pw) := HT.out.now.1.1.2.cell 4
  have b5 : w3.cell? ⟨w.heap.size + 1, 5, none⟩ = some (.int .i64 le) := HT.out.now.1.1.2.cell 5
  have b6 : w3.cell? ⟨w.heap.size + 1, 6, none⟩ = some (.int .i64 bu) := HT.out.now.1.1.2.cell 6
  have b7 : w3.cell? ⟨w.heap.size + 1, 7, none⟩ = some (.int .i64 ra) := HT.out.now.1.1.2.cell 7
  have b8 : w3.cell? ⟨w.heap.size + 1, 8, none⟩ = some (.int .i64 de) := HT.out.now.1.1.2.cell 8
  go_wp2_with fail
  clear s0 s1 s2 s3 b0 b1 b2 b3 b4 b5 b6 b7 b8
  go_at_call 9
  refine (bearerErr_ref B C P A c n T nm kd pr wt pw le bu ra de _ hn HT.out.now.1.2 (by have := hs2.pos; omega) (by omega) (by omega)).mono ?_
  rintro e w4 ⟨v, rfl, hv, hb⟩
  replace HT := hide (HT.out.step hb)
  clear hb
  by_cases h0 : v = 0
  rotate_left
  · have hv0 : (v != 0) = true := by simpa using h0
    clear h0 hv hF hs2
    simp only []
    go_wp2
    go_ret
    exact ⟨rfl, HT.out.now.2⟩
  subst h0
  have ho := hv rfl
  clear hv
  replace hs2 := hide hs2
  replace ho := hide ho
  simp only []
  have s0 : w4.cell? ⟨w.heap.size, 0, none⟩ = some (.int .i64 B) := HT.out.now.1.1.1.cell 0
  have s1 : w4.cell? ⟨w.heap.size, 1, none⟩ = some (.int .i64 C) := HT.out.now.1.1.1.cell 1
  have s2 : w4.cell? ⟨w.heap.size, 2, none⟩ = some (.int .i64 P) := HT.out.now.1.1.1.cell 2
  have s3 : w4.cell? ⟨w.heap.size, 3, none⟩ = some (.slice A n c) := HT.out.now.1.1.1.cell 3
  have b0 : w4.cell? ⟨w.heap.size + 1, 0, none⟩ = some (strV nm) := HT.out.now.1.1.2.cell 0
  have b1 : w4.cell? ⟨w.heap.size + 1, 1, none⟩ = some (.int .i64 kd) := HT.out.now.1.1.2.cell 1
  have b2 : w4.cell? ⟨w.heap.size + 1, 2, none⟩ = some (.int .i64 pr) := HT.out.now.1.1.2.cell 2
  have b3 : w4.cell? ⟨w.heap.size + 1, 3, none⟩ = some (.int .i64 wt) := HT.out.now.1.1.2.cell 3
  have b4 : w4.cell? ⟨w.heap.size + 1, 4, none⟩ = some (.int .i64 pw) := HT.out.now.1.1.2.cell 4
  have b5 : w4.cell? ⟨w.heap.size + 1, 5, none⟩ = some (.int .i64 le) := HT.out.now.1.1.2.cell 5
  have b6 : w4.cell? ⟨w.heap.size + 1, 6, none⟩ = some (.int .i64 bu) := HT.out.now.1.1.2.cell 6
  have b7 : w4.cell? ⟨w.heap.size + 1, 7, none⟩ = some (.int .i64 ra) := HT.out.now.1.1.2.cell 7
  have b8 : w4.cell? ⟨w.heap.size + 1, 8, none⟩ = some (.int .i64 de) := HT.out.now.1.1.2.cell 8
  by_cases hk : kd = 0
  · have hk0 : (kd == 0) = true := by simpa using hk
    clear hk hF
    go_wp2
    go_ret
    exact ⟨rfl, HT.out.now.2⟩
  have hk0 : (kd == 0) = false := by simpa using hk
  replace hk := hide hk
  by_cases hd : 20 < de
  · clear hF
    go_wp2
    go_ret
    exact ⟨rfl, HT.out.now.2⟩
  clear hF
  go_wp2_with fail
  clear s0 s1 s2 s3 b0 b1 b2 b3 b4 b5 b6 b7 b8
  have hn16 := hs2.out.few
  obtain ⟨n0, n1⟩ := need_bd hs2.out ho.out hk.out
  obtain ⟨NB, hNB⟩ : ∃ z, needB ra bu de (tbO T le) = z := ⟨_, rfl⟩
  have HNE := hide (fun W A c k => NeedOf_ok B C P A c n T nm kd pr wt pw le bu ra de W hn k hs2.out ho.out hk.out)
  have HCP := hide (fun W k => copyS B C P A c n T W hn k (by omega))
  rw [hNB] at HNE n0 n1
  replace hNB := hide hNB
  go_cut [5, 6] from 19 (fun s5 s6 wx => ∃ g, s5 = .pointer (some ⟨g, 0, none⟩) ∧ s6 = .int .i64 0 ∧ Blk wx g 51 #[.int .i64 NB, .int .i64 1, .int .i64 (NB * pw)] ∧ w4.heap.size ≤ g ∧ Below w4.heap.size w4 wx)
  case first =>
    refine wp_region_held_drew (S := fun w_ => Below w4.heap.size w4 w_) (by kernel_rfl) (below_drewN (Below.refl w4.heap.size w4) 1) (fun hHeld => ?_)
    obtain ⟨v0, hv0⟩ : ∃ v0, w4.drew = v0 := ⟨_, rfl⟩
    replace hHeld : Below w4.heap.size w4 w4.drew := hHeld
    rw [hv0] at hHeld
    first | rw [hv0] | (change wpAnyH _ _ _ _ _ _ _ _ w4.drew; rw [hv0])
    clear hv0
    refine take_at (i := 0) 48 (v := .agg #[.int .i64 B, .int .i64 C, .int .i64 P, .slice A n c]) rfl rfl (by kernel_rfl) (by kernel_rfl) (by kernel_rfl) (fun _ _ _ h => h) (Or.inl ⟨by rfl, by intro w_ hSw; have c0 : w_.cell? ⟨w.heap.size, 0, none⟩ = some (.int .i64 B) := (HT.out _ hSw).1.1.1.cell 0; have c1 : w_.cell? ⟨w.heap.size, 1, none⟩ = some (.int .i64 C) := (HT.out _ hSw).1.1.1.cell 1; have c2 : w_.cell? ⟨w.heap.size, 2, none⟩ = some (.int .i64 P) := (HT.out _ hSw).1.1.1.cell 2; have c3 : w_.cell? ⟨w.heap.size, 3, none⟩ = some (.slice A n c) := (HT.out _ hSw).1.1.1.cell 3; go_simp⟩) (by assumption) ?_
    try simp only [Act.put, List.setIfInBounds_toArray, List.set_cons_zero, List.set_cons_succ]
    refine take_at (i := 2) 50 (v := .agg #[strV nm, .int .i64 kd, .int .i64 pr, .int .i64 wt, .int .i64 pw, .int .i64 le, .int .i64 bu, .int .i64 ra, .int .i64 de]) rfl rfl (by kernel_rfl) (by kernel_rfl) (by kernel_rfl) (fun _ _ _ h => h) (Or.inl ⟨by rfl, by intro w_ hSw; have c0 : w_.cell? ⟨w.heap.size + 1, 0, none⟩ = some (strV nm) := (HT.out _ hSw).1.1.2.cell 0; have c1 : w_.cell? ⟨w.heap.size + 1, 1, none⟩ = some (.int .i64 kd) := (HT.out _ hSw).1.1.2.cell 1; have c2 : w_.cell? ⟨w.heap.size + 1, 2, none⟩ = some (.int .i64 pr) := (HT.out _ hSw).1.1.2.cell 2; have c3 : w_.cell? ⟨w.heap.size + 1, 3, none⟩ = some (.int .i64 wt) := (HT.out _ hSw).1.1.2.cell 3; have c4 : w_.cell? ⟨w.heap.size + 1, 4, none⟩ = some (.int .i64 pw) := (HT.out _ hSw).1.1.2.cell 4; have c5 : w_.cell? ⟨w.heap.size + 1, 5, none⟩ = some (.int .i64 le) := (HT.out _ hSw).1.1.2.cell 5; have c6 : w_.cell? ⟨w.heap.size + 1, 6, none⟩ = some (.int .i64 bu) := (HT.out _ hSw).1.1.2.cell 6; have c7 : w_.cell? ⟨w.heap.size + 1, 7, none⟩ = some (.int .i64 ra) := (HT.out _ hSw).1.1.2.cell 7; have c8 : w_.cell? ⟨w.heap.size + 1, 8, none⟩ = some (.int .i64 de) := (HT.out _ hSw).1.1.2.cell 8; go_simp⟩) (by assumption) ?_
    try simp only [Act.put, List.setIfInBounds_toArray, List.set_cons_zero, List.set_cons_succ]
    obtain ⟨g5, hg5⟩ : ∃ g, v0.heap.size = g := ⟨_, rfl⟩
    refine wpAnyH_ready (rs := [1, 7]) (by kernel_rfl) (by simp) ?_
    refine AllReadyH.cons rfl (fun K hK => ?_) (AllReadyH.cons rfl (fun K hK => ?_) AllReadyH.nil)
    · clear hg5
      go_simp
      go_at_call 11
      refine (HCP.out _ (HT.out _ hHeld).1.2).mono ?_
      rintro e v1 ⟨A1, c1, rfl, hcs, hb⟩
      replace hHeld := Below.step hHeld hb
      have HCS := hide (stay_sl hcs)
      clear hcs
      clear hb
      simp only []
      refine hK.out _ _ hHeld (fun hHeld => ?_)
      clear hK K
      try simp only [Act.put, List.setIfInBounds_toArray, List.set_cons_zero, List.set_cons_succ]
      obtain ⟨g5, hg5⟩ : ∃ g, v1.heap.size = g := ⟨_, rfl⟩
      refine wpAnyH_ready (rs := [3, 7]) (by kernel_rfl) (by simp) ?_
      refine AllReadyH.cons rfl (fun K hK => ?_) (AllReadyH.cons rfl (fun K hK => ?_) AllReadyH.nil)
      · clear hg5
        go_simp
        go_at_call 16
        refine (HNE.out _ A1 c1 HCS.out.now).mono ?_
        rintro e v2 ⟨rfl, hb⟩
        replace HCS := hide (HCS.out.step hb)
        replace hHeld := Below.step hHeld hb
        clear hb
        simp only []
        refine hK.out _ _ hHeld (fun hHeld => ?_)
        clear hK K
        try simp only [Act.put, List.setIfInBounds_toArray, List.set_cons_zero, List.set_cons_succ]
        refine take_at (i := 4) 47 (v := .tuple #[.agg #[.int .i64 NB, .int .i64 1, .int .i64 (NB * pw)], .int .i64 0]) rfl rfl (by kernel_rfl) (by kernel_rfl) (by kernel_rfl) (fun _ _ _ h => h) (Or.inl ⟨by rfl, by intro w_ hSw; go_simp⟩) (by assumption) ?_
        try simp only [Act.put, List.setIfInBounds_toArray, List.set_cons_zero, List.set_cons_succ]
        refine take_at (i := 5) 52 (v := .agg #[.int .i64 NB, .int .i64 1, .int .i64 (NB * pw)]) rfl rfl (by kernel_rfl) (by kernel_rfl) (by kernel_rfl) (fun _ _ _ h => h) (Or.inl ⟨by rfl, by intro w_ hSw; go_simp⟩) (by assumption) ?_
        try simp only [Act.put, List.setIfInBounds_toArray, List.set_cons_zero, List.set_cons_succ]
        refine take_at (i := 6) 53 (v := .int .i64 0) rfl rfl (by kernel_rfl) (by kernel_rfl) (by kernel_rfl) (fun _ _ _ h => h) (Or.inl ⟨by rfl, by intro w_ hSw; go_simp⟩) (by assumption) ?_
        try simp only [Act.put, List.setIfInBounds_toArray, List.set_cons_zero, List.set_cons_succ]
        obtain ⟨g5, hg5⟩ : ∃ g, v2.heap.size = g := ⟨_, rfl⟩
        refine wpAnyH_ready (rs := [7]) (by kernel_rfl) (by simp) ?_
        refine AllReadyH.cons rfl (fun K hK => ?_) AllReadyH.nil
        go_simp
        have hb := (Below.refl v2.heap.size v2).alloc (Nat.le_refl _) (.cells #[.int .i64 0, .int .i64 0, .int .i64 0] 51)
        replace HCS := hide (HCS.out.step hb)
        have g5ge := Nat.le_trans hHeld.size (Nat.le_of_eq hg5)
        replace hHeld := Below.step hHeld hb
        have Hg5 := hide (stay_blk (Blk.newN v2 51 #[.int .i64 0, .int .i64 0, .int .i64 0] hg5))
        obtain ⟨v3, hwn⟩ : ∃ w9, v2.alloc (.cells #[.int .i64 0, .int .i64 0, .int .i64 0] 51) = w9 := ⟨_, rfl⟩
        rw [hwn] at hHeld HCS Hg5 ⊢
        clear hb hwn hg5
        refine hK.out _ _ hHeld (fun hHeld => ?_)
        clear hK K
        try simp only [Act.put, List.setIfInBounds_toArray, List.set_cons_zero, List.set_cons_succ]
        refine wpAnyH_ready (rs := [8]) (by kernel_rfl) (by simp) ?_
        refine AllReadyH.cons rfl (fun K hK => ?_) AllReadyH.nil
        refine step_store_rowF rfl 51 _ _ rfl g5 #[.int .i64 NB, .int .i64 1, .int .i64 (NB * pw)] rfl rfl 51 #[.int .i64 0, .int .i64 0, .int .i64 0] Hg5.out.now (by kernel_rfl) rfl (by simp [Value.oneCell']) ?_
        replace hHeld := Below.row (g := g5) hHeld g5ge #[.int .i64 NB, .int .i64 1, .int .i64 (NB * pw)]
        have HSg5 := hide (Hg5.out.now.row #[.int .i64 NB, .int .i64 1, .int .i64 (NB * pw)])
        obtain ⟨v4, hwn⟩ : ∃ w9, v3.setRow g5 #[.int .i64 NB, .int .i64 1, .int .i64 (NB * pw)] = w9 := ⟨_, rfl⟩
        rw [hwn] at hHeld HSg5  ⊢
        clear hwn HCS Hg5
        refine hK.out _ _ hHeld (fun hHeld => ?_)
        clear hK K
        try simp only [Act.put, List.setIfInBounds_toArray]
        refine take_at (i := 9) 6 (v := .int .i64 0) rfl rfl (by kernel_rfl) (by kernel_rfl) (by kernel_rfl) (fun _ _ _ h => h) (Or.inl ⟨by rfl, by intro w_ hSw; go_simp⟩) (by assumption) ?_
        try simp only [Act.put]
        refine wpAnyH_done (by kernel_rfl) ?_ _
        go_wp2_with fail
        go_meet
        exact ⟨g5, rfl, rfl, HSg5.out, g5ge, hHeld⟩
      · go_simp
        have hb := (Below.refl v1.heap.size v1).alloc (Nat.le_refl _) (.cells #[.int .i64 0, .int .i64 0, .int .i64 0] 51)
        replace HCS := hide (HCS.out.step hb)
        have g5ge := Nat.le_trans hHeld.size (Nat.le_of_eq hg5)
        replace hHeld := Below.step hHeld hb
        have Hg5 := hide (stay_blk (Blk.newN v1 51 #[.int .i64 0, .int .i64 0, .int .i64 0] hg5))
        obtain ⟨v2, hwn⟩ : ∃ w9, v1.alloc (.cells #[.int .i64 0, .int .i64 0, .int .i64 0] 51) = w9 := ⟨_, rfl⟩
        rw [hwn] at hHeld HCS Hg5 ⊢
        clear hb hwn hg5
        refine hK.out _ _ hHeld (fun hHeld => ?_)
        clear hK K
        try simp only [Act.put, List.setIfInBounds_toArray, List.set_cons_zero, List.set_cons_succ]
        refine wpAnyH_ready (rs := [3]) (by kernel_rfl) (by simp) ?_
        refine AllReadyH.cons rfl (fun K hK => ?_) AllReadyH.nil
        go_simp
        go_at_call 16
        refine (HNE.out _ A1 c1 HCS.out.now).mono ?_
        rintro e v3 ⟨rfl, hb⟩
        replace HCS := hide (HCS.out.step hb)
        replace Hg5 := hide (Hg5.out.step hb)
        replace hHeld := Below.step hHeld hb
        clear hb
        simp only []
        refine hK.out _ _ hHeld (fun hHeld => ?_)
        clear hK K
        try simp only [Act.put, List.setIfInBounds_toArray, List.set_cons_zero, List.set_cons_succ]
        refine take_at (i := 4) 47 (v := .tuple #[.agg #[.int .i64 NB, .int .i64 1, .int .i64 (NB * pw)], .int .i64 0]) rfl rfl (by kernel_rfl) (by kernel_rfl) (by kernel_rfl) (fun _ _ _ h => h) (Or.inl ⟨by rfl, by intro w_ hSw; go_simp⟩) (by assumption) ?_
        try simp only [Act.put, List.setIfInBounds_toArray, List.set_cons_zero, List.set_cons_succ]
        refine take_at (i := 5) 52 (v := .agg #[.int .i64 NB, .int .i64 1, .int .i64 (NB * pw)]) rfl rfl (by kernel_rfl) (by kernel_rfl) (by kernel_rfl) (fun _ _ _ h => h) (Or.inl ⟨by rfl, by intro w_ hSw; go_simp⟩) (by assumption) ?_
        try simp only [Act.put, List.setIfInBounds_toArray, List.set_cons_zero, List.set_cons_succ]
        refine take_at (i := 6) 53 (v := .int .i64 0) rfl rfl (by kernel_rfl) (by kernel_rfl) (by kernel_rfl) (fun _ _ _ h => h) (Or.inl ⟨by rfl, by intro w_ hSw; go_simp⟩) (by assumption) ?_
        try simp only [Act.put, List.setIfInBounds_toArray, List.set_cons_zero, List.set_cons_succ]
        refine wpAnyH_ready (rs := [8]) (by kernel_rfl) (by simp) ?_
        refine AllReadyH.cons rfl (fun K hK => ?_) AllReadyH.nil
        refine step_store_rowF rfl 51 _ _ rfl g5 #[.int .i64 NB, .int .i64 1, .int .i64 (NB * pw)] rfl rfl 51 #[.int .i64 0, .int .i64 0, .int .i64 0] Hg5.out.now (by kernel_rfl) rfl (by simp [Value.oneCell']) ?_
        replace hHeld := Below.row (g := g5) hHeld g5ge #[.int .i64 NB, .int .i64 1, .int .i64 (NB * pw)]
        have HSg5 := hide (Hg5.out.now.row #[.int .i64 NB, .int .i64 1, .int .i64 (NB * pw)])
        obtain ⟨v4, hwn⟩ : ∃ w9, v3.setRow g5 #[.int .i64 NB, .int .i64 1, .int .i64 (NB * pw)] = w9 := ⟨_, rfl⟩
        rw [hwn] at hHeld HSg5  ⊢
        clear hwn HCS Hg5
        refine hK.out _ _ hHeld (fun hHeld => ?_)
        clear hK K
        try simp only [Act.put, List.setIfInBounds_toArray]
        refine take_at (i := 9) 6 (v := .int .i64 0) rfl rfl (by kernel_rfl) (by kernel_rfl) (by kernel_rfl) (fun _ _ _ h => h) (Or.inl ⟨by rfl, by intro w_ hSw; go_simp⟩) (by assumption) ?_
        try simp only [Act.put]
        refine wpAnyH_done (by kernel_rfl) ?_ _
        go_wp2_with fail
        go_meet
        exact ⟨g5, rfl, rfl, HSg5.out, g5ge, hHeld⟩
    · go_simp
      have hb := (Below.refl v0.heap.size v0).alloc (Nat.le_refl _) (.cells #[.int .i64 0, .int .i64 0, .int .i64 0] 51)
      have g5ge := Nat.le_trans hHeld.size (Nat.le_of_eq hg5)
      replace hHeld := Below.step hHeld hb
      have Hg5 := hide (stay_blk (Blk.newN v0 51 #[.int .i64 0, .int .i64 0, .int .i64 0] hg5))
      obtain ⟨v1, hwn⟩ : ∃ w9, v0.alloc (.cells #[.int .i64 0, .int .i64 0, .int .i64 0] 51) = w9 := ⟨_, rfl⟩
      rw [hwn] at hHeld Hg5 ⊢
      clear hb hwn hg5
      refine hK.out _ _ hHeld (fun hHeld => ?_)
      clear hK K
      try simp only [Act.put, List.setIfInBounds_toArray, List.set_cons_zero, List.set_cons_succ]
      refine wpAnyH_ready (rs := [1]) (by kernel_rfl) (by simp) ?_
      refine AllReadyH.cons rfl (fun K hK => ?_) AllReadyH.nil
      go_simp
      go_at_call 11
      refine (HCP.out _ (HT.out _ hHeld).1.2).mono ?_
      rintro e v2 ⟨A1, c1, rfl, hcs, hb⟩
      replace Hg5 := hide (Hg5.out.step hb)
      replace hHeld := Below.step hHeld hb
      have HCS := hide (stay_sl hcs)
      clear hcs
      clear hb
      simp only []
      refine hK.out _ _ hHeld (fun hHeld => ?_)
      clear hK K
      try simp only [Act.put, List.setIfInBounds_toArray, List.set_cons_zero, List.set_cons_succ]
      refine wpAnyH_ready (rs := [3]) (by kernel_rfl) (by simp) ?_
      refine AllReadyH.cons rfl (fun K hK => ?_) AllReadyH.nil
      go_simp
      go_at_call 16
      refine (HNE.out _ A1 c1 HCS.out.now).mono ?_
      rintro e v3 ⟨rfl, hb⟩
      replace Hg5 := hide (Hg5.out.step hb)
      replace HCS := hide (HCS.out.step hb)
      replace hHeld := Below.step hHeld hb
      clear hb
      simp only []
      refine hK.out _ _ hHeld (fun hHeld => ?_)
      clear hK K
      try simp only [Act.put, List.setIfInBounds_toArray, List.set_cons_zero, List.set_cons_succ]
      refine take_at (i := 4) 47 (v := .tuple #[.agg #[.int .i64 NB, .int .i64 1, .int .i64 (NB * pw)], .int .i64 0]) rfl rfl (by kernel_rfl) (by kernel_rfl) (by kernel_rfl) (fun _ _ _ h => h) (Or.inl ⟨by rfl, by intro w_ hSw; go_simp⟩) (by assumption) ?_
      try simp only [Act.put, List.setIfInBounds_toArray, List.set_cons_zero, List.set_cons_succ]
      refine take_at (i := 5) 52 (v := .agg #[.int .i64 NB, .int .i64 1, .int .i64 (NB * pw)]) rfl rfl (by kernel_rfl) (by kernel_rfl) (by kernel_rfl) (fun _ _ _ h => h) (Or.inl ⟨by rfl, by intro w_ hSw; go_simp⟩) (by assumption) ?_
      try simp only [Act.put, List.setIfInBounds_toArray, List.set_cons_zero, List.set_cons_succ]
      refine take_at (i := 6) 53 (v := .int .i64 0) rfl rfl (by kernel_rfl) (by kernel_rfl) (by kernel_rfl) (fun _ _ _ h => h) (Or.inl ⟨by rfl, by intro w_ hSw; go_simp⟩) (by assumption) ?_
      try simp only [Act.put, List.setIfInBounds_toArray, List.set_cons_zero, List.set_cons_succ]
      refine wpAnyH_ready (rs := [8]) (by kernel_rfl) (by simp) ?_
      refine AllReadyH.cons rfl (fun K hK => ?_) AllReadyH.nil
      refine step_store_rowF rfl 51 _ _ rfl g5 #[.int .i64 NB, .int .i64 1, .int .i64 (NB * pw)] rfl rfl 51 #[.int .i64 0, .int .i64 0, .int .i64 0] Hg5.out.now (by kernel_rfl) rfl (by simp [Value.oneCell']) ?_
      replace hHeld := Below.row (g := g5) hHeld g5ge #[.int .i64 NB, .int .i64 1, .int .i64 (NB * pw)]
      have HSg5 := hide (Hg5.out.now.row #[.int .i64 NB, .int .i64 1, .int .i64 (NB * pw)])
      obtain ⟨v4, hwn⟩ : ∃ w9, v3.setRow g5 #[.int .i64 NB, .int .i64 1, .int .i64 (NB * pw)] = w9 := ⟨_, rfl⟩
      rw [hwn] at hHeld HSg5  ⊢
      clear hwn Hg5 HCS
      refine hK.out _ _ hHeld (fun hHeld => ?_)
      clear hK K
      try simp only [Act.put, List.setIfInBounds_toArray]
      refine take_at (i := 9) 6 (v := .int .i64 0) rfl rfl (by kernel_rfl) (by kernel_rfl) (by kernel_rfl) (fun _ _ _ h => h) (Or.inl ⟨by rfl, by intro w_ hSw; go_simp⟩) (by assumption) ?_
      try simp only [Act.put]
      refine wpAnyH_done (by kernel_rfl) ?_ _
      go_wp2_with fail
      go_meet
      exact ⟨g5, rfl, rfl, HSg5.out, g5ge, hHeld⟩
  case rest =>
    obtain ⟨g5, rfl, rfl, hB5, hg5, hb⟩ := hcut
    replace HT := hide ((HT.out.step hb).and (stay_blk hB5))
    clear hb hB5
    have m0 : wc.cell? ⟨g5, 0, none⟩ = some (.int .i64 NB) := HT.out.now.2.cell 0
    have m2 : wc.cell? ⟨g5, 2, none⟩ = some (.int .i64 (NB * pw)) := HT.out.now.2.cell 2
    have s0 : wc.cell? ⟨w.heap.size, 0, none⟩ = some (.int .i64 B) := HT.out.now.1.1.1.1.cell 0
    have s1 : wc.cell? ⟨w.heap.size, 1, none⟩ = some (.int .i64 C) := HT.out.now.1.1.1.1.cell 1
    have s2 : wc.cell? ⟨w.heap.size, 2, none⟩ = some (.int .i64 P) := HT.out.now.1.1.1.1.cell 2
    have s3 : wc.cell? ⟨w.heap.size, 3, none⟩ = some (.slice A n c) := HT.out.now.1.1.1.1.cell 3
    have b0 : wc.cell? ⟨w.heap.size + 1, 0, none⟩ = some (strV nm) := HT.out.now.1.1.1.2.cell 0
    have b1 : wc.cell? ⟨w.heap.size + 1, 1, none⟩ = some (.int .i64 kd) := HT.out.now.1.1.1.2.cell 1
    have b2 : wc.cell? ⟨w.heap.size + 1, 2, none⟩ = some (.int .i64 pr) := HT.out.now.1.1.1.2.cell 2
    have b3 : wc.cell? ⟨w.heap.size + 1, 3, none⟩ = some (.int .i64 wt) := HT.out.now.1.1.1.2.cell 3
    have b4 : wc.cell? ⟨w.heap.size + 1, 4, none⟩ = some (.int .i64 pw) := HT.out.now.1.1.1.2.cell 4
    have b5 : wc.cell? ⟨w.heap.size + 1, 5, none⟩ = some (.int .i64 le) := HT.out.now.1.1.1.2.cell 5
    have b6 : wc.cell? ⟨w.heap.size + 1, 6, none⟩ = some (.int .i64 bu) := HT.out.now.1.1.1.2.cell 6
    have b7 : wc.cell? ⟨w.heap.size + 1, 7, none⟩ = some (.int .i64 ra) := HT.out.now.1.1.1.2.cell 7
    have b8 : wc.cell? ⟨w.heap.size + 1, 8, none⟩ = some (.int .i64 de) := HT.out.now.1.1.1.2.cell 8
    have hnb : ¬ NB < 1 := by omega
    obtain ⟨Q, hQ⟩ : ∃ z, NB * pw = z := ⟨_, rfl⟩
    have hcase : (fitB B P pw ra bu de (tbO T le) = false ∧ (B < NB ∨ ¬ B < NB ∧ P < Q)) ∨ (fitB B P pw ra bu de (tbO T le) = true ∧ ¬ B < NB ∧ ¬ P < Q) := by
      unfold fitB
      rw [hNB.out, hQ]
      by_cases h1 : B < NB
      · left; exact ⟨by simp; intro h; omega, .inl h1⟩
      · by_cases h2 : P < Q
        · left; exact ⟨by simp; intro _; omega, .inr ⟨h1, h2⟩⟩
        · right; exact ⟨by simp; omega, h1, h2⟩
    rcases hcase with ⟨hf, hc⟩ | ⟨hf, h1, h2⟩
    · have HAD := hide (fun W A c k => admit_large B C P A c n T nm kd pr wt pw le bu ra de W hn k hs2.out ho.out hk.out hf)
      rw [hQ] at m2
      clear hf
      rcases hc with h1 | ⟨h1, h2⟩
      all_goals
        go_wp2_with fail
        clear s0 s1 s2 s3 b0 b1 b2 b3 b4 b5 b6 b7 b8 m0 m2
        refine wp_region_held_drew (S := fun w_ => Below wc.heap.size wc w_) (by kernel_rfl) (below_drewN (Below.refl wc.heap.size wc) 1) (fun hHeld => ?_)
        obtain ⟨v0, hv0⟩ : ∃ v0, wc.drew = v0 := ⟨_, rfl⟩
        replace hHeld : Below wc.heap.size wc wc.drew := hHeld
        rw [hv0] at hHeld
        first | rw [hv0] | (change wpAnyH _ _ _ _ _ _ _ _ wc.drew; rw [hv0])
        clear hv0
        refine take_at (i := 0) 74 (v := .agg #[.int .i64 B, .int .i64 C, .int .i64 P, .slice A n c]) rfl rfl (by kernel_rfl) (by kernel_rfl) (by kernel_rfl) (fun _ _ _ h => h) (Or.inl ⟨by rfl, by intro w_ hSw; have c0 : w_.cell? ⟨w.heap.size, 0, none⟩ = some (.int .i64 B) := (HT.out _ hSw).1.1.1.1.cell 0; have c1 : w_.cell? ⟨w.heap.size, 1, none⟩ = some (.int .i64 C) := (HT.out _ hSw).1.1.1.1.cell 1; have c2 : w_.cell? ⟨w.heap.size, 2, none⟩ = some (.int .i64 P) := (HT.out _ hSw).1.1.1.1.cell 2; have c3 : w_.cell? ⟨w.heap.size, 3, none⟩ = some (.slice A n c) := (HT.out _ hSw).1.1.1.1.cell 3; go_simp⟩) (by assumption) ?_
        try simp only [Act.put, List.setIfInBounds_toArray, List.set_cons_zero, List.set_cons_succ]
        refine take_at (i := 2) 76 (v := .agg #[strV nm, .int .i64 kd, .int .i64 pr, .int .i64 wt, .int .i64 pw, .int .i64 le, .int .i64 bu, .int .i64 ra, .int .i64 de]) rfl rfl (by kernel_rfl) (by kernel_rfl) (by kernel_rfl) (fun _ _ _ h => h) (Or.inl ⟨by rfl, by intro w_ hSw; have c0 : w_.cell? ⟨w.heap.size + 1, 0, none⟩ = some (strV nm) := (HT.out _ hSw).1.1.1.2.cell 0; have c1 : w_.cell? ⟨w.heap.size + 1, 1, none⟩ = some (.int .i64 kd) := (HT.out _ hSw).1.1.1.2.cell 1; have c2 : w_.cell? ⟨w.heap.size + 1, 2, none⟩ = some (.int .i64 pr) := (HT.out _ hSw).1.1.1.2.cell 2; have c3 : w_.cell? ⟨w.heap.size + 1, 3, none⟩ = some (.int .i64 wt) := (HT.out _ hSw).1.1.1.2.cell 3; have c4 : w_.cell? ⟨w.heap.size + 1, 4, none⟩ = some (.int .i64 pw) := (HT.out _ hSw).1.1.1.2.cell 4; have c5 : w_.cell? ⟨w.heap.size + 1, 5, none⟩ = some (.int .i64 le) := (HT.out _ hSw).1.1.1.2.cell 5; have c6 : w_.cell? ⟨w.heap.size + 1, 6, none⟩ = some (.int .i64 bu) := (HT.out _ hSw).1.1.1.2.cell 6; have c7 : w_.cell? ⟨w.heap.size + 1, 7, none⟩ = some (.int .i64 ra) := (HT.out _ hSw).1.1.1.2.cell 7; have c8 : w_.cell? ⟨w.heap.size + 1, 8, none⟩ = some (.int .i64 de) := (HT.out _ hSw).1.1.1.2.cell 8; go_simp⟩) (by assumption) ?_
        try simp only [Act.put, List.setIfInBounds_toArray, List.set_cons_zero, List.set_cons_succ]
        obtain ⟨g7, hg7⟩ : ∃ g, v0.heap.size = g := ⟨_, rfl⟩
        refine wpAnyH_ready (rs := [1, 7]) (by kernel_rfl) (by simp) ?_
        refine AllReadyH.cons rfl (fun K hK => ?_) (AllReadyH.cons rfl (fun K hK => ?_) AllReadyH.nil)
        · clear hg7
          go_simp
          go_at_call 11
          refine (HCP.out _ (HT.out _ hHeld).1.1.2).mono ?_
          rintro e v1 ⟨A1, c1, rfl, hcs, hb⟩
          replace hHeld := Below.step hHeld hb
          have HCS := hide (stay_sl hcs)
          clear hcs
          clear hb
          simp only []
          refine hK.out _ _ hHeld (fun hHeld => ?_)
          clear hK K
          try simp only [Act.put, List.setIfInBounds_toArray, List.set_cons_zero, List.set_cons_succ]
          obtain ⟨g7, hg7⟩ : ∃ g, v1.heap.size = g := ⟨_, rfl⟩
          refine wpAnyH_ready (rs := [3, 7]) (by kernel_rfl) (by simp) ?_
          refine AllReadyH.cons rfl (fun K hK => ?_) (AllReadyH.cons rfl (fun K hK => ?_) AllReadyH.nil)
          · clear hg7
            go_simp
            go_at_call 10
            refine (HAD.out _ A1 c1 HCS.out.now).mono ?_
            rintro e v2 ⟨rfl, hb⟩
            replace HCS := hide (HCS.out.step hb)
            replace hHeld := Below.step hHeld hb
            clear hb
            simp only []
            refine hK.out _ _ hHeld (fun hHeld => ?_)
            clear hK K
            try simp only [Act.put, List.setIfInBounds_toArray, List.set_cons_zero, List.set_cons_succ]
            refine take_at (i := 4) 73 (v := .tuple #[.agg #[.slice none 0 0, .slice none 0 0], .int .i64 8]) rfl rfl (by kernel_rfl) (by kernel_rfl) (by kernel_rfl) (fun _ _ _ h => h) (Or.inl ⟨by rfl, by intro w_ hSw; go_simp⟩) (by assumption) ?_
            try simp only [Act.put, List.setIfInBounds_toArray, List.set_cons_zero, List.set_cons_succ]
            refine take_at (i := 5) 78 (v := .agg #[.slice none 0 0, .slice none 0 0]) rfl rfl (by kernel_rfl) (by kernel_rfl) (by kernel_rfl) (fun _ _ _ h => h) (Or.inl ⟨by rfl, by intro w_ hSw; go_simp⟩) (by assumption) ?_
            try simp only [Act.put, List.setIfInBounds_toArray, List.set_cons_zero, List.set_cons_succ]
            refine take_at (i := 6) 79 (v := .int .i64 8) rfl rfl (by kernel_rfl) (by kernel_rfl) (by kernel_rfl) (fun _ _ _ h => h) (Or.inl ⟨by rfl, by intro w_ hSw; go_simp⟩) (by assumption) ?_
            try simp only [Act.put, List.setIfInBounds_toArray, List.set_cons_zero, List.set_cons_succ]
            obtain ⟨g7, hg7⟩ : ∃ g, v2.heap.size = g := ⟨_, rfl⟩
            refine wpAnyH_ready (rs := [7]) (by kernel_rfl) (by simp) ?_
            refine AllReadyH.cons rfl (fun K hK => ?_) AllReadyH.nil
            go_simp
            have hb := (Below.refl v2.heap.size v2).alloc (Nat.le_refl _) (.cells #[.slice none 0 0, .slice none 0 0] 35)
            replace HCS := hide (HCS.out.step hb)
            have g7ge := Nat.le_trans hHeld.size (Nat.le_of_eq hg7)
            replace hHeld := Below.step hHeld hb
            have Hg7 := hide (stay_blk (Blk.newN v2 35 #[.slice none 0 0, .slice none 0 0] hg7))
            obtain ⟨v3, hwn⟩ : ∃ w9, v2.alloc (.cells #[.slice none 0 0, .slice none 0 0] 35) = w9 := ⟨_, rfl⟩
            rw [hwn] at hHeld HCS Hg7 ⊢
            clear hb hwn hg7
            refine hK.out _ _ hHeld (fun hHeld => ?_)
            clear hK K
            try simp only [Act.put, List.setIfInBounds_toArray, List.set_cons_zero, List.set_cons_succ]
            refine wpAnyH_ready (rs := [8]) (by kernel_rfl) (by simp) ?_
            refine AllReadyH.cons rfl (fun K hK => ?_) AllReadyH.nil
            refine step_store_rowF rfl 35 _ _ rfl g7 #[.slice none 0 0, .slice none 0 0] rfl rfl 35 #[.slice none 0 0, .slice none 0 0] Hg7.out.now (by kernel_rfl) rfl (by simp [Value.oneCell']) ?_
            replace hHeld := Below.row (g := g7) hHeld g7ge #[.slice none 0 0, .slice none 0 0]
            have HSg7 := hide (Hg7.out.now.row #[.slice none 0 0, .slice none 0 0])
            obtain ⟨v4, hwn⟩ : ∃ w9, v3.setRow g7 #[.slice none 0 0, .slice none 0 0] = w9 := ⟨_, rfl⟩
            rw [hwn] at hHeld HSg7  ⊢
            clear hwn HCS Hg7
            refine hK.out _ _ hHeld (fun hHeld => ?_)
            clear hK K
            try simp only [Act.put, List.setIfInBounds_toArray]
            refine take_at (i := 9) 8 (v := .int .i64 8) rfl rfl (by kernel_rfl) (by kernel_rfl) (by kernel_rfl) (fun _ _ _ h => h) (Or.inl ⟨by rfl, by intro w_ hSw; go_simp⟩) (by assumption) ?_
            try simp only [Act.put]
            refine wpAnyH_done (by kernel_rfl) ?_ _
            go_wp2
            go_ret
            exact ⟨rfl, Below.step HT.out.now.1.2 hHeld⟩
          · go_simp
            have hb := (Below.refl v1.heap.size v1).alloc (Nat.le_refl _) (.cells #[.slice none 0 0, .slice none 0 0] 35)
            replace HCS := hide (HCS.out.step hb)
            have g7ge := Nat.le_trans hHeld.size (Nat.le_of_eq hg7)
            replace hHeld := Below.step hHeld hb
            have Hg7 := hide (stay_blk (Blk.newN v1 35 #[.slice none 0 0, .slice none 0 0] hg7))
            obtain ⟨v2, hwn⟩ : ∃ w9, v1.alloc (.cells #[.slice none 0 0, .slice none 0 0] 35) = w9 := ⟨_, rfl⟩
            rw [hwn] at hHeld HCS Hg7 ⊢
            clear hb hwn hg7
            refine hK.out _ _ hHeld (fun hHeld => ?_)
            clear hK K
            try simp only [Act.put, List.setIfInBounds_toArray, List.set_cons_zero, List.set_cons_succ]
            refine wpAnyH_ready (rs := [3]) (by kernel_rfl) (by simp) ?_
            refine AllReadyH.cons rfl (fun K hK => ?_) AllReadyH.nil
            go_simp
            go_at_call 10
            refine (HAD.out _ A1 c1 HCS.out.now).mono ?_
            rintro e v3 ⟨rfl, hb⟩
            replace HCS := hide (HCS.out.step hb)
            replace Hg7 := hide (Hg7.out.step hb)
            replace hHeld := Below.step hHeld hb
            clear hb
            simp only []
            refine hK.out _ _ hHeld (fun hHeld => ?_)
            clear hK K
            try simp only [Act.put, List.setIfInBounds_toArray, List.set_cons_zero, List.set_cons_succ]
            refine take_at (i := 4) 73 (v := .tuple #[.agg #[.slice none 0 0, .slice none 0 0], .int .i64 8]) rfl rfl (by kernel_rfl) (by kernel_rfl) (by kernel_rfl) (fun _ _ _ h => h) (Or.inl ⟨by rfl, by intro w_ hSw; go_simp⟩) (by assumption) ?_
            try simp only [Act.put, List.setIfInBounds_toArray, List.set_cons_zero, List.set_cons_succ]
            refine take_at (i := 5) 78 (v := .agg #[.slice none 0 0, .slice none 0 0]) rfl rfl (by kernel_rfl) (by kernel_rfl) (by kernel_rfl) (fun _ _ _ h => h) (Or.inl ⟨by rfl, by intro w_ hSw; go_simp⟩) (by assumption) ?_
            try simp only [Act.put, List.setIfInBounds_toArray, List.set_cons_zero, List.set_cons_succ]
            refine take_at (i := 6) 79 (v := .int .i64 8) rfl rfl (by kernel_rfl) (by kernel_rfl) (by kernel_rfl) (fun _ _ _ h => h) (Or.inl ⟨by rfl, by intro w_ hSw; go_simp⟩) (by assumption) ?_
            try simp only [Act.put, List.setIfInBounds_toArray, List.set_cons_zero, List.set_cons_succ]
            refine wpAnyH_ready (rs := [8]) (by kernel_rfl) (by simp) ?_
            refine AllReadyH.cons rfl (fun K hK => ?_) AllReadyH.nil
            refine step_store_rowF rfl 35 _ _ rfl g7 #[.slice none 0 0, .slice none 0 0] rfl rfl 35 #[.slice none 0 0, .slice none 0 0] Hg7.out.now (by kernel_rfl) rfl (by simp [Value.oneCell']) ?_
            replace hHeld := Below.row (g := g7) hHeld g7ge #[.slice none 0 0, .slice none 0 0]
            have HSg7 := hide (Hg7.out.now.row #[.slice none 0 0, .slice none 0 0])
            obtain ⟨v4, hwn⟩ : ∃ w9, v3.setRow g7 #[.slice none 0 0, .slice none 0 0] = w9 := ⟨_, rfl⟩
            rw [hwn] at hHeld HSg7  ⊢
            clear hwn HCS Hg7
            refine hK.out _ _ hHeld (fun hHeld => ?_)
            clear hK K
            try simp only [Act.put, List.setIfInBounds_toArray]
            refine take_at (i := 9) 8 (v := .int .i64 8) rfl rfl (by kernel_rfl) (by kernel_rfl) (by kernel_rfl) (fun _ _ _ h => h) (Or.inl ⟨by rfl, by intro w_ hSw; go_simp⟩) (by assumption) ?_
            try simp only [Act.put]
            refine wpAnyH_done (by kernel_rfl) ?_ _
            go_wp2
            go_ret
            exact ⟨rfl, Below.step HT.out.now.1.2 hHeld⟩
        · go_simp
          have hb := (Below.refl v0.heap.size v0).alloc (Nat.le_refl _) (.cells #[.slice none 0 0, .slice none 0 0] 35)
          have g7ge := Nat.le_trans hHeld.size (Nat.le_of_eq hg7)
          replace hHeld := Below.step hHeld hb
          have Hg7 := hide (stay_blk (Blk.newN v0 35 #[.slice none 0 0, .slice none 0 0] hg7))
          obtain ⟨v1, hwn⟩ : ∃ w9, v0.alloc (.cells #[.slice none 0 0, .slice none 0 0] 35) = w9 := ⟨_, rfl⟩
          rw [hwn] at hHeld Hg7 ⊢
          clear hb hwn hg7
          refine hK.out _ _ hHeld (fun hHeld => ?_)
          clear hK K
          try simp only [Act.put, List.setIfInBounds_toArray, List.set_cons_zero, List.set_cons_succ]
          refine wpAnyH_ready (rs := [1]) (by kernel_rfl) (by simp) ?_
          refine AllReadyH.cons rfl (fun K hK => ?_) AllReadyH.nil
          go_simp
          go_at_call 11
          refine (HCP.out _ (HT.out _ hHeld).1.1.2).mono ?_
          rintro e v2 ⟨A1, c1, rfl, hcs, hb⟩
          replace Hg7 := hide (Hg7.out.step hb)
          replace hHeld := Below.step hHeld hb
          have HCS := hide (stay_sl hcs)
          clear hcs
          clear hb
          simp only []
          refine hK.out _ _ hHeld (fun hHeld => ?_)
          clear hK K
          try simp only [Act.put, List.setIfInBounds_toArray, List.set_cons_zero, List.set_cons_succ]
          refine wpAnyH_ready (rs := [3]) (by kernel_rfl) (by simp) ?_
          refine AllReadyH.cons rfl (fun K hK => ?_) AllReadyH.nil
          go_simp
          go_at_call 10
          refine (HAD.out _ A1 c1 HCS.out.now).mono ?_
          rintro e v3 ⟨rfl, hb⟩
          replace Hg7 := hide (Hg7.out.step hb)
          replace HCS := hide (HCS.out.step hb)
          replace hHeld := Below.step hHeld hb
          clear hb
          simp only []
          refine hK.out _ _ hHeld (fun hHeld => ?_)
          clear hK K
          try simp only [Act.put, List.setIfInBounds_toArray, List.set_cons_zero, List.set_cons_succ]
          refine take_at (i := 4) 73 (v := .tuple #[.agg #[.slice none 0 0, .slice none 0 0], .int .i64 8]) rfl rfl (by kernel_rfl) (by kernel_rfl) (by kernel_rfl) (fun _ _ _ h => h) (Or.inl ⟨by rfl, by intro w_ hSw; go_simp⟩) (by assumption) ?_
          try simp only [Act.put, List.setIfInBounds_toArray, List.set_cons_zero, List.set_cons_succ]
          refine take_at (i := 5) 78 (v := .agg #[.slice none 0 0, .slice none 0 0]) rfl rfl (by kernel_rfl) (by kernel_rfl) (by kernel_rfl) (fun _ _ _ h => h) (Or.inl ⟨by rfl, by intro w_ hSw; go_simp⟩) (by assumption) ?_
          try simp only [Act.put, List.setIfInBounds_toArray, List.set_cons_zero, List.set_cons_succ]
          refine take_at (i := 6) 79 (v := .int .i64 8) rfl rfl (by kernel_rfl) (by kernel_rfl) (by kernel_rfl) (fun _ _ _ h => h) (Or.inl ⟨by rfl, by intro w_ hSw; go_simp⟩) (by assumption) ?_
          try simp only [Act.put, List.setIfInBounds_toArray, List.set_cons_zero, List.set_cons_succ]
          refine wpAnyH_ready (rs := [8]) (by kernel_rfl) (by simp) ?_
          refine AllReadyH.cons rfl (fun K hK => ?_) AllReadyH.nil
          refine step_store_rowF rfl 35 _ _ rfl g7 #[.slice none 0 0, .slice none 0 0] rfl rfl 35 #[.slice none 0 0, .slice none 0 0] Hg7.out.now (by kernel_rfl) rfl (by simp [Value.oneCell']) ?_
          replace hHeld := Below.row (g := g7) hHeld g7ge #[.slice none 0 0, .slice none 0 0]
          have HSg7 := hide (Hg7.out.now.row #[.slice none 0 0, .slice none 0 0])
          obtain ⟨v4, hwn⟩ : ∃ w9, v3.setRow g7 #[.slice none 0 0, .slice none 0 0] = w9 := ⟨_, rfl⟩
          rw [hwn] at hHeld HSg7  ⊢
          clear hwn Hg7 HCS
          refine hK.out _ _ hHeld (fun hHeld => ?_)
          clear hK K
          try simp only [Act.put, List.setIfInBounds_toArray]
          refine take_at (i := 9) 8 (v := .int .i64 8) rfl rfl (by kernel_rfl) (by kernel_rfl) (by kernel_rfl) (fun _ _ _ h => h) (Or.inl ⟨by rfl, by intro w_ hSw; go_simp⟩) (by assumption) ?_
          try simp only [Act.put]
          refine wpAnyH_done (by kernel_rfl) ?_ _
          go_wp2
          go_ret
          exact ⟨rfl, Below.step HT.out.now.1.2 hHeld⟩
    · replace hf := hide hf
      rw [hQ] at m2
      go_wp2_with fail
      clear s0 s1 s2 s3 b0 b1 b2 b3 b4 b5 b6 b7 b8 m0 m2
      obtain ⟨t0, t1⟩ := tb_ok hs2.out ho.out hk.out
      obtain ⟨-, hbu, -, hde, -⟩ := ho.out.sure hk.out
      have hdl := delay_in (ra := ra) (bu := bu) (de := de) t0 (by omega) (by omega)
      have hrr := need_rate (ra := ra) (bu := bu) (de := de) t0
      have hDL : ceilI bu (NB * tbO T le) = delayD ra bu de (tbO T le) := by rw [← hNB.out]; rfl
      have HDE := hide (fun W A c k => DelayOf_ok B C P A c n T nm kd pr wt pw le bu ra de W hn k hs2.out ho.out hk.out NB n0 (by omega) (by rw [← hNB.out]; exact hrr))
      rw [hDL] at HDE
      obtain ⟨m, hm⟩ : ∃ m : Nat, (m : Int) = delayD ra bu de (tbO T le) := ⟨(delayD ra bu de (tbO T le)).toNat, by omega⟩
      rw [← hm] at HDE hdl
      replace hm := hide hm
      clear hrr hDL
      refine wp_region_held_drew (S := fun w_ => Below wc.heap.size wc w_) (by kernel_rfl) (below_drewN (Below.refl wc.heap.size wc) 1) (fun hHeld => ?_)
      obtain ⟨v0, hv0⟩ : ∃ v0, wc.drew = v0 := ⟨_, rfl⟩
      replace hHeld : Below wc.heap.size wc wc.drew := hHeld
      rw [hv0] at hHeld
      first | rw [hv0] | (change wpAnyH _ _ _ _ _ _ _ _ wc.drew; rw [hv0])
      clear hv0
      refine take_at (i := 0) 83 (v := .agg #[.int .i64 B, .int .i64 C, .int .i64 P, .slice A n c]) rfl rfl (by kernel_rfl) (by kernel_rfl) (by kernel_rfl) (fun _ _ _ h => h) (Or.inl ⟨by rfl, by intro w_ hSw; have c0 : w_.cell? ⟨w.heap.size, 0, none⟩ = some (.int .i64 B) := (HT.out _ hSw).1.1.1.1.cell 0; have c1 : w_.cell? ⟨w.heap.size, 1, none⟩ = some (.int .i64 C) := (HT.out _ hSw).1.1.1.1.cell 1; have c2 : w_.cell? ⟨w.heap.size, 2, none⟩ = some (.int .i64 P) := (HT.out _ hSw).1.1.1.1.cell 2; have c3 : w_.cell? ⟨w.heap.size, 3, none⟩ = some (.slice A n c) := (HT.out _ hSw).1.1.1.1.cell 3; go_simp⟩) (by assumption) ?_
      try simp only [Act.put, List.setIfInBounds_toArray, List.set_cons_zero, List.set_cons_succ]
      refine take_at (i := 2) 85 (v := .agg #[strV nm, .int .i64 kd, .int .i64 pr, .int .i64 wt, .int .i64 pw, .int .i64 le, .int .i64 bu, .int .i64 ra, .int .i64 de]) rfl rfl (by kernel_rfl) (by kernel_rfl) (by kernel_rfl) (fun _ _ _ h => h) (Or.inl ⟨by rfl, by intro w_ hSw; have c0 : w_.cell? ⟨w.heap.size + 1, 0, none⟩ = some (strV nm) := (HT.out _ hSw).1.1.1.2.cell 0; have c1 : w_.cell? ⟨w.heap.size + 1, 1, none⟩ = some (.int .i64 kd) := (HT.out _ hSw).1.1.1.2.cell 1; have c2 : w_.cell? ⟨w.heap.size + 1, 2, none⟩ = some (.int .i64 pr) := (HT.out _ hSw).1.1.1.2.cell 2; have c3 : w_.cell? ⟨w.heap.size + 1, 3, none⟩ = some (.int .i64 wt) := (HT.out _ hSw).1.1.1.2.cell 3; have c4 : w_.cell? ⟨w.heap.size + 1, 4, none⟩ = some (.int .i64 pw) := (HT.out _ hSw).1.1.1.2.cell 4; have c5 : w_.cell? ⟨w.heap.size + 1, 5, none⟩ = some (.int .i64 le) := (HT.out _ hSw).1.1.1.2.cell 5; have c6 : w_.cell? ⟨w.heap.size + 1, 6, none⟩ = some (.int .i64 bu) := (HT.out _ hSw).1.1.1.2.cell 6; have c7 : w_.cell? ⟨w.heap.size + 1, 7, none⟩ = some (.int .i64 ra) := (HT.out _ hSw).1.1.1.2.cell 7; have c8 : w_.cell? ⟨w.heap.size + 1, 8, none⟩ = some (.int .i64 de) := (HT.out _ hSw).1.1.1.2.cell 8; go_simp⟩) (by assumption) ?_
      try simp only [Act.put, List.setIfInBounds_toArray, List.set_cons_zero, List.set_cons_succ]
      refine take_at (i := 3) 86 (v := .pointer (some ⟨g5, 0, none⟩)) rfl rfl (by kernel_rfl) (by kernel_rfl) (by kernel_rfl) (fun _ _ _ h => h) (Or.inl ⟨by rfl, by intro w_ hSw; go_simp⟩) (by assumption) ?_
      try simp only [Act.put, List.setIfInBounds_toArray, List.set_cons_zero, List.set_cons_succ]
      refine take_at (i := 4) 87 (v := .int .i64 NB) rfl rfl (by kernel_rfl) (by kernel_rfl) (by kernel_rfl) (fun _ _ _ h => h) (Or.inl ⟨by rfl, by intro w_ hSw; have c0 : w_.cell? ⟨g5, 0, none⟩ = some (.int .i64 NB) := (HT.out _ hSw).2.cell 0; go_simp⟩) (by assumption) ?_
      try simp only [Act.put, List.setIfInBounds_toArray, List.set_cons_zero, List.set_cons_succ]
      refine wpAnyH_ready (rs := [1]) (by kernel_rfl) (by simp) ?_
      refine AllReadyH.cons rfl (fun K hK => ?_) AllReadyH.nil
      go_simp
      go_at_call 11
      refine (HCP.out _ (HT.out _ hHeld).1.1.2).mono ?_
      rintro e v1 ⟨A1, c1, rfl, hcs, hb⟩
      replace hHeld := Below.step hHeld hb
      have HCS := hide (stay_sl hcs)
      clear hcs
      clear hb
      simp only []
      refine hK.out _ _ hHeld (fun hHeld => ?_)
      clear hK K
      try simp only [Act.put, List.setIfInBounds_toArray, List.set_cons_zero, List.set_cons_succ]
      refine wpAnyH_ready (rs := [5]) (by kernel_rfl) (by simp) ?_
      refine AllReadyH.cons rfl (fun K hK => ?_) AllReadyH.nil
      go_simp
      go_at_call 17
      refine (HDE.out _ A1 c1 HCS.out.now).mono ?_
      rintro e v2 ⟨rfl, hb⟩
      replace HCS := hide (HCS.out.step hb)
      replace hHeld := Below.step hHeld hb
      clear hb
      simp only []
      refine hK.out _ _ hHeld (fun hHeld => ?_)
      clear hK K
      try simp only [Act.put, List.setIfInBounds_toArray, List.set_cons_zero, List.set_cons_succ]
      refine take_at (i := 6) 82 (v := .tuple #[.int .i64 (m : Int), .int .i64 0]) rfl rfl (by kernel_rfl) (by kernel_rfl) (by kernel_rfl) (fun _ _ _ h => h) (Or.inl ⟨by rfl, by intro w_ hSw; go_simp⟩) (by assumption) ?_
      try simp only [Act.put, List.setIfInBounds_toArray, List.set_cons_zero, List.set_cons_succ]
      refine take_at (i := 7) 89 (v := .int .i64 (m : Int)) rfl rfl (by kernel_rfl) (by kernel_rfl) (by kernel_rfl) (fun _ _ _ h => h) (Or.inl ⟨by rfl, by intro w_ hSw; go_simp⟩) (by assumption) ?_
      try simp only [Act.put, List.setIfInBounds_toArray, List.set_cons_zero, List.set_cons_succ]
      refine take_at (i := 8) 90 (v := .int .i64 0) rfl rfl (by kernel_rfl) (by kernel_rfl) (by kernel_rfl) (fun _ _ _ h => h) (Or.inl ⟨by rfl, by intro w_ hSw; go_simp⟩) (by assumption) ?_
      try simp only [Act.put, List.setIfInBounds_toArray, List.set_cons_zero, List.set_cons_succ]
      refine take_at (i := 9) 9 (v := .int .i64 (m : Int)) rfl rfl (by kernel_rfl) (by kernel_rfl) (by kernel_rfl) (fun _ _ _ h => h) (Or.inl ⟨by rfl, by intro w_ hSw; go_simp⟩) (by assumption) ?_
      try simp only [Act.put, List.setIfInBounds_toArray, List.set_cons_zero, List.set_cons_succ]
      refine take_at (i := 10) 10 (v := .int .i64 0) rfl rfl (by kernel_rfl) (by kernel_rfl) (by kernel_rfl) (fun _ _ _ h => h) (Or.inl ⟨by rfl, by intro w_ hSw; go_simp⟩) (by assumption) ?_
      try simp only [Act.put, List.setIfInBounds_toArray, List.set_cons_zero, List.set_cons_succ]
      refine wpAnyH_done (by kernel_rfl) ?_ _
      clear HCS
      replace HT := hide (HT.out.step hHeld)
      clear hHeld HNE HDE
      have hm60 : m ≤ 60 := by omega
      have HWI := hide (show withinB (m : Int) 1 de = true by simp [withinB]; omega)
      have s0 : v2.cell? ⟨w.heap.size, 0, none⟩ = some (.int .i64 B) := HT.out.now.1.1.1.1.cell 0
      have s1 : v2.cell? ⟨w.heap.size, 1, none⟩ = some (.int .i64 C) := HT.out.now.1.1.1.1.cell 1
      have s2 : v2.cell? ⟨w.heap.size, 2, none⟩ = some (.int .i64 P) := HT.out.now.1.1.1.1.cell 2
      have s3 : v2.cell? ⟨w.heap.size, 3, none⟩ = some (.slice A n c) := HT.out.now.1.1.1.1.cell 3
      have b0 : v2.cell? ⟨w.heap.size + 1, 0, none⟩ = some (strV nm) := HT.out.now.1.1.1.2.cell 0
      have b1 : v2.cell? ⟨w.heap.size + 1, 1, none⟩ = some (.int .i64 kd) := HT.out.now.1.1.1.2.cell 1
      have b2 : v2.cell? ⟨w.heap.size + 1, 2, none⟩ = some (.int .i64 pr) := HT.out.now.1.1.1.2.cell 2
      have b3 : v2.cell? ⟨w.heap.size + 1, 3, none⟩ = some (.int .i64 wt) := HT.out.now.1.1.1.2.cell 3
      have b4 : v2.cell? ⟨w.heap.size + 1, 4, none⟩ = some (.int .i64 pw) := HT.out.now.1.1.1.2.cell 4
      have b5 : v2.cell? ⟨w.heap.size + 1, 5, none⟩ = some (.int .i64 le) := HT.out.now.1.1.1.2.cell 5
      have b6 : v2.cell? ⟨w.heap.size + 1, 6, none⟩ = some (.int .i64 bu) := HT.out.now.1.1.1.2.cell 6
      have b7 : v2.cell? ⟨w.heap.size + 1, 7, none⟩ = some (.int .i64 ra) := HT.out.now.1.1.1.2.cell 7
      have b8 : v2.cell? ⟨w.heap.size + 1, 8, none⟩ = some (.int .i64 de) := HT.out.now.1.1.1.2.cell 8
      have m0 : v2.cell? ⟨g5, 0, none⟩ = some (.int .i64 NB) := HT.out.now.2.cell 0
      go_wp2_with (go_at_call 8; go_must (refine (within_base _ _ _ _).mono ?_; rintro e w5 ⟨rfl, rfl⟩; rw [HWI.out]; simp only []))
      clear s0 s1 s2 s3 b0 b1 b2 b3 b4 b5 b6 b7 b8 m0
      go_at_call 11
      refine (HCP.out _ HT.out.now.1.1.2).mono ?_
      rintro e w5 ⟨A2, c2, rfl, hcs, hb⟩
      replace HT := hide (HT.out.step hb)
      have HSA := hide (stay_sl hcs)
      clear hb hcs
      simp only []
      have m0 : w5.cell? ⟨g5, 0, none⟩ = some (.int .i64 NB) := HT.out.now.2.cell 0
      have m1 := HT.out.now.2.lt
      go_wp2_with fail
      clear m0 m1
      have HG0 := hide (stay_blk (Blk.new w5 24 #[.int .i64 NB, .int .i64 C, .int .i64 P, .slice A2 n c2]))
      replace HT := hide (HT.out.alloc (.cells #[.int .i64 NB, .int .i64 C, .int .i64 P, .slice A2 n c2] 24))
      replace HSA := hide (HSA.out.alloc (.cells #[.int .i64 NB, .int .i64 C, .int .i64 P, .slice A2 n c2] 24))
      obtain ⟨W6, hW6⟩ : ∃ W6, w5.alloc (.cells #[.int .i64 NB, .int .i64 C, .int .i64 P, .slice A2 n c2] 24) = W6 := ⟨_, rfl⟩
      obtain ⟨g11, hg11⟩ : ∃ g, w5.heap.size = g := ⟨_, rfl⟩
      rw [hW6] at HT HSA HG0 ⊢
      rw [hg11] at HG0 ⊢
      replace HT := hide (((HT.out.and HSA.out).and HG0.out))
      clear hW6 hg11 HSA HG0
      obtain ⟨i1, hi0, hz0, hz1, hz2⟩ := info_parts slot_info
      go_loopw [12, 13, 14] (fun vo i _ wr => ∃ t : Nat, ∃ A' c' xs, t ≤ m ∧ vo = .slice A' t c' ∧ i = .int .i64 t ∧ wr.ownsRow W6.heap.size 44 2 (.slice A' t c') t xs ∧ Rows wr (.slice A' t c') xs t le (arrT bu) ∧ Below W6.heap.size W6 wr) (fun _ i _ _ => m - (intOf i).toNat)
      case atStart => exact ⟨0, none, 0, [], Nat.zero_le _, rfl, rfl, ⟨rfl, .inl ⟨rfl, rfl⟩⟩, fun j hj => absurd hj (by omega), Below.refl _ _⟩
      case round =>
        obtain ⟨t, A', c', xs, htm, rfl, rfl, hown, hrows, hbel⟩ := hrel
        have HOW := hide hown
        have HRO := hide hrows
        have HBE := hide hbel
        clear hown hrows hbel
        by_cases hlt : t < m
        · have hki : (t : Int) < (m : Int) := by omega
          have b5 : wr.cell? ⟨w.heap.size + 1, 5, none⟩ = some (.int .i64 le) := (HT.out _ HBE.out).1.1.1.1.1.2.cell 5
          have b6 : wr.cell? ⟨w.heap.size + 1, 6, none⟩ = some (.int .i64 bu) := (HT.out _ HBE.out).1.1.1.1.1.2.cell 6
          have hbl : w.heap.size + 1 < wr.heap.size := lt_of_cell b5
          by_cases ht0 : t = 0
          · subst ht0
            have hb2 : Below wr.heap.size wr ((wr.alloc (.cells #[.int .i64 le] 3)).alloc (.cells #[.int .i64 bu] 3)) := ((Below.refl _ wr).alloc (Nat.le_refl _) (.cells #[.int .i64 le] 3)).alloc (by simp) (.cells #[.int .i64 bu] 3)
            have hb3 : Below wr.heap.size wr (((wr.alloc (.cells #[.int .i64 le] 3)).alloc (.cells #[.int .i64 bu] 3)).alloc (.cells #[.slice (some ⟨wr.heap.size, 0, none⟩) 1 1, .slice (some ⟨wr.heap.size + 1, 0, none⟩) 1 1] 44)) := hb2.alloc (by simp; omega) (.cells #[.slice (some ⟨wr.heap.size, 0, none⟩) 1 1, .slice (some ⟨wr.heap.size + 1, 0, none⟩) 1 1] 44)
            have hc1 : (((wr.alloc (.cells #[.int .i64 le] 3)).alloc (.cells #[.int .i64 bu] 3)).alloc (.cells #[.slice (some ⟨wr.heap.size, 0, none⟩) 1 1, .slice (some ⟨wr.heap.size + 1, 0, none⟩) 1 1] 44)).cell? ⟨wr.heap.size, 0, none⟩ = some (.int .i64 le) := (((Blk.new wr 3 #[.int .i64 le]).alloc (.cells #[.int .i64 bu] 3)).alloc (.cells #[.slice (some ⟨wr.heap.size, 0, none⟩) 1 1, .slice (some ⟨wr.heap.size + 1, 0, none⟩) 1 1] 44)).cell 0
            have hc2 : (((wr.alloc (.cells #[.int .i64 le] 3)).alloc (.cells #[.int .i64 bu] 3)).alloc (.cells #[.slice (some ⟨wr.heap.size, 0, none⟩) 1 1, .slice (some ⟨wr.heap.size + 1, 0, none⟩) 1 1] 44)).cell? ⟨wr.heap.size + 1, 0, none⟩ = some (.int .i64 bu) := ((blk_up wr 3 3 #[.int .i64 le] #[.int .i64 bu]).alloc (.cells #[.slice (some ⟨wr.heap.size, 0, none⟩) 1 1, .slice (some ⟨wr.heap.size + 1, 0, none⟩) 1 1] 44)).cell 0
            have har : arrT bu 0 = bu := rfl
            have HH := hide (And.intro hb3 (And.intro hc1 hc2))
            have HAR := hide har
            clear hb2 hb3 hc1 hc2 har
            go_wp2_with (at_builtin; refine wpList_append_any _ rfl (.tmp 114) (.tmp 121) _ rfl W6.heap.size 44 i1 _ 2 48 Try.underlying42 hi0 hz0 hz1 hz2 rfl (by omega) (.slice A' 0 c') 0 xs rfl (HOW.out.kept (row := none) ⟨HH.out.1.os, HH.out.1.tape, HH.out.1.output, HH.out.1.size, fun k hk _ => HH.out.1.block k hk⟩ (by cases hv : Value.ownBlock (.slice A' 0 c') <;> simp)) (wr.heap.size + 1 + 1 + 1) (some ⟨wr.heap.size + 1 + 1, 0, none⟩) 1 1 [.slice (some ⟨wr.heap.size, 0, none⟩) 1 1, .slice (some ⟨wr.heap.size + 1, 0, none⟩) 1 1] rfl (reads_two ((wr.alloc (.cells #[.int .i64 le] 3)).alloc (.cells #[.int .i64 bu] 3)) _ _ _ (by simp)) (by simp [Value.oneCell']) (by simp only [maxLen]; omega) (by omega) (Nat.le_trans HBE.out.size HH.out.1.size) ?_; intro v9 w9 hown9 hgrow hat)
            replace hgrow : (((wr.alloc (.cells #[.int .i64 le] 3)).alloc (.cells #[.int .i64 bu] 3)).alloc (.cells #[.slice (some ⟨wr.heap.size, 0, none⟩) 1 1, .slice (some ⟨wr.heap.size + 1, 0, none⟩) 1 1] 44)).grownBy w9 (Value.ownBlock (.slice A' 0 c')) := hgrow
            obtain ⟨A9, c9, rfl⟩ := own_form hown9
            have HO9 := hide hown9
            have HR9 := hide (rows_snoc (r := 1) (q := 1) (rows_bel HRO.out HH.out.1) HOW.out.1 HH.out.2.1 (by rw [HAR.out]; exact HH.out.2.2) (fun e => by have := (HOW.out.lt _ e).2; omega) (fun e => by have := (HOW.out.lt _ e).2; omega) hgrow hat)
            have HB9 := hide ((Below.step HBE.out HH.out.1).grown hgrow (Nat.le_trans HBE.out.size HH.out.1.size) (fun k hk => (HOW.out.lt k hk).1))
            clear hown9 hgrow hat HH b5 b6 hbl
            go_wp2_with fail
            go_roundw
            case rel => exact ⟨0 + 1, A9, c9, _, by omega, rfl, by go_num, HO9.out, HR9.out, HB9.out⟩
            case measure => simp [intOf]; omega
          · have ht1 : ((t : Int) == 0) = false := by simp; omega
            have hb2 : Below wr.heap.size wr ((wr.alloc (.cells #[.int .i64 le] 3)).alloc (.cells #[.int .i64 0] 3)) := ((Below.refl _ wr).alloc (Nat.le_refl _) (.cells #[.int .i64 le] 3)).alloc (by simp) (.cells #[.int .i64 0] 3)
            have hb3 : Below wr.heap.size wr (((wr.alloc (.cells #[.int .i64 le] 3)).alloc (.cells #[.int .i64 0] 3)).alloc (.cells #[.slice (some ⟨wr.heap.size, 0, none⟩) 1 1, .slice (some ⟨wr.heap.size + 1, 0, none⟩) 1 1] 44)) := hb2.alloc (by simp; omega) (.cells #[.slice (some ⟨wr.heap.size, 0, none⟩) 1 1, .slice (some ⟨wr.heap.size + 1, 0, none⟩) 1 1] 44)
            have hc1 : (((wr.alloc (.cells #[.int .i64 le] 3)).alloc (.cells #[.int .i64 0] 3)).alloc (.cells #[.slice (some ⟨wr.heap.size, 0, none⟩) 1 1, .slice (some ⟨wr.heap.size + 1, 0, none⟩) 1 1] 44)).cell? ⟨wr.heap.size, 0, none⟩ = some (.int .i64 le) := (((Blk.new wr 3 #[.int .i64 le]).alloc (.cells #[.int .i64 0] 3)).alloc (.cells #[.slice (some ⟨wr.heap.size, 0, none⟩) 1 1, .slice (some ⟨wr.heap.size + 1, 0, none⟩) 1 1] 44)).cell 0
            have hc2 : (((wr.alloc (.cells #[.int .i64 le] 3)).alloc (.cells #[.int .i64 0] 3)).alloc (.cells #[.slice (some ⟨wr.heap.size, 0, none⟩) 1 1, .slice (some ⟨wr.heap.size + 1, 0, none⟩) 1 1] 44)).cell? ⟨wr.heap.size + 1, 0, none⟩ = some (.int .i64 0) := ((blk_up wr 3 3 #[.int .i64 le] #[.int .i64 0]).alloc (.cells #[.slice (some ⟨wr.heap.size, 0, none⟩) 1 1, .slice (some ⟨wr.heap.size + 1, 0, none⟩) 1 1] 44)).cell 0
            have har : arrT bu t = 0 := if_neg ht0
            have HH := hide (And.intro hb3 (And.intro hc1 hc2))
            have HAR := hide har
            clear hb2 hb3 hc1 hc2 har
            go_wp2_with (at_builtin; refine wpList_append_any _ rfl (.tmp 114) (.tmp 121) _ rfl W6.heap.size 44 i1 _ 2 48 Try.underlying42 hi0 hz0 hz1 hz2 rfl (by omega) (.slice A' t c') t xs rfl (HOW.out.kept (row := none) ⟨HH.out.1.os, HH.out.1.tape, HH.out.1.output, HH.out.1.size, fun k hk _ => HH.out.1.block k hk⟩ (by cases hv : Value.ownBlock (.slice A' t c') <;> simp)) (wr.heap.size + 1 + 1 + 1) (some ⟨wr.heap.size + 1 + 1, 0, none⟩) 1 1 [.slice (some ⟨wr.heap.size, 0, none⟩) 1 1, .slice (some ⟨wr.heap.size + 1, 0, none⟩) 1 1] rfl (reads_two ((wr.alloc (.cells #[.int .i64 le] 3)).alloc (.cells #[.int .i64 0] 3)) _ _ _ (by simp)) (by simp [Value.oneCell']) (by simp only [maxLen]; omega) (by omega) (Nat.le_trans HBE.out.size HH.out.1.size) ?_; intro v9 w9 hown9 hgrow hat)
            replace hgrow : (((wr.alloc (.cells #[.int .i64 le] 3)).alloc (.cells #[.int .i64 0] 3)).alloc (.cells #[.slice (some ⟨wr.heap.size, 0, none⟩) 1 1, .slice (some ⟨wr.heap.size + 1, 0, none⟩) 1 1] 44)).grownBy w9 (Value.ownBlock (.slice A' t c')) := hgrow
            obtain ⟨A9, c9, rfl⟩ := own_form hown9
            have HO9 := hide hown9
            have HR9 := hide (rows_snoc (r := 1) (q := 1) (rows_bel HRO.out HH.out.1) HOW.out.1 HH.out.2.1 (by rw [HAR.out]; exact HH.out.2.2) (fun e => by have := (HOW.out.lt _ e).2; omega) (fun e => by have := (HOW.out.lt _ e).2; omega) hgrow hat)
            have HB9 := hide ((Below.step HBE.out HH.out.1).grown hgrow (Nat.le_trans HBE.out.size HH.out.1.size) (fun k hk => (HOW.out.lt k hk).1))
            clear hown9 hgrow hat HH b5 b6 hbl
            go_wp2_with fail
            go_roundw
            case rel => exact ⟨t + 1, A9, c9, _, by omega, rfl, by go_num, HO9.out, HR9.out, HB9.out⟩
            case measure => simp [intOf]; omega
        · obtain rfl : t = m := by omega
          have hki : ¬ (t : Int) < (t : Int) := by omega
          go_wp2_with fail
          obtain ⟨k, hkt⟩ : ∃ k, t = k + 1 := ⟨t - 1, by omega⟩
          obtain ⟨G, hAG⟩ : ∃ G, A' = some ⟨G, 0, none⟩ := by
            obtain ⟨G, cap, hv, _, _⟩ := HOW.out.form (by omega)
            injection hv with hA
            exact ⟨G, hA⟩
          have hcap : t ≤ c' := by
            rcases HOW.out.2 with ⟨hv, h0⟩ | ⟨g, cap, cur, hv, _, _, hnc, _⟩
            · omega
            · injection hv with _ _ hc
              omega
          subst hAG
          have HU := hide ((HT.out.step HBE.out).and (stay_slots (rows_slots HOW.out HRO.out)))
          have hsT : OkS NB C P T := ⟨⟨n0, by have := hs2.out.b; omega⟩, hs2.out.c, hs2.out.p, hs2.out.pos, hs2.out.few, hs2.out.in_, hs2.out.asc⟩
          have hfT : fitB NB P pw ra bu de (tbO T le) = true := by
            unfold fitB
            rw [hNB.out, hQ]
            simp
            omega
          have HRNt := fun W gb A3 c3 k1 k2 k3 => run_le NB C P A2 c2 n T nm kd pr wt pw le bu ra de W hn k1 hsT ho.out hk.out hNB.out.symm hfT gb 1 k2 A3 c3 t k3 hm60
          have HRNk := fun W gb A3 c3 k1 k2 k3 => run_le NB C P A2 c2 n T nm kd pr wt pw le bu ra de W hn k1 hsT ho.out hk.out hNB.out.symm hfT gb 1 k2 A3 c3 k k3 (by omega)
          have HCSt := hide (fun W k1 => copySlots (some ⟨G, 0, none⟩) c' t le (arrT bu) W k1 hm60)
          have HCSk := hide (fun W k1 => copySlots (some ⟨G, 0, none⟩) c' k le (arrT bu) W k1 (by omega))
          have hE0 : wtT bu (needB ra bu de (tbO T le) * tbO T le) t = 0 := by
            have h := waits_end (ra := ra) (bu := bu) (de := de) t0 (by omega) (by omega) (d := t) hm.out
            unfold wtT
            rw [if_neg (by omega)]
            exact h
          have hEk : k = 0 ∨ 0 < wtT bu (needB ra bu de (tbO T le) * tbO T le) k := by
            by_cases h0 : k = 0
            · exact .inl h0
            · have h := waits_less (ra := ra) (bu := bu) (de := de) t0 (by omega) (by omega) (d := k) (by rw [← hkt]; exact hm.out)
              right
              unfold wtT
              rw [if_neg h0]
              exact h
          have hw1 : IntKind.i64.wrap ((t : Int) - 1) = (k : Int) := by rw [IntWalk.i64_in _ (by omega)]; omega
          have hsf := fun W => slice_front G 0 t c' k (by omega) (by omega) W
          obtain ⟨Z, hZ⟩ : ∃ z, wtT bu (needB ra bu de (tbO T le) * tbO T le) k = z := ⟨_, rfl⟩
          rw [hZ] at hEk HRNk
          rw [hE0] at HRNt
          replace HRNt := hide HRNt
          replace HRNk := hide HRNk
          replace hw1 := hide hw1
          replace hsf := hide hsf
          have hkt2 := hide (show k ≤ t by omega)
          replace hkt := hide hkt
          replace hEk := hide hEk
          clear hE0 hZ HOW HRO hcap hsT hfT HT hki hbu hde t0 t1 h1 h2 n0 n1 hf HWI hd hn16 hnb hlt htm HCP hdl hm60 hk0
          refine r24 _ (fun _ _ d _ _ h => by cases d <;> exact h) NB C P A2 n c2 T nm kd pr wt pw le bu ra de g11 (w.heap.size + 1) G t c' 0 (arrT bu) wr _ _ _ _ _ _ _ _ _ _ _ _ _ _ _ _ _ _ _ _ _ _ _ _ _ _ _ _ _ _ _ _ _ _ _ _ _ _ _ _ _ _ _ _ _ _ _ _ _ _ _ _ _ _ _ _ _ _ _ _ _ _ _ _ _ _ _ _ _ _ _ _ _ _ _ _ _ _ _ _ _ _ _ _ _ _ _ _ _ _ _ _ _ _ _ _ _ _ _ _ _ _ _ _ _ _ _ _ _ _ _ _ _ _ _ _ _ _ _ _ _ _ _ _ _ _ _ _ _ _ _ _ _ _ _ _ _ _ _ _ _ _ _ _ _ _ _ _ _ _ _ _ _ _ _ _ _ _ _ _ _ _ _ _ _ _ _ _ _ _ _ _ _ _ _ (fun W h => ⟨⟨⟨(HU.out W h).1.2, (HU.out W h).1.1.1.1.1.1.2⟩, (HU.out W h).1.1.2⟩, (HU.out W h).2⟩) HCSt.out (fun W gb A3 c3 k1 k2 k3 => HRNt.out W gb A3 c3 k1 k2 k3) (fun g15 gb3 A5 c5 A0 a0 c0 A1 a1 c1 lb lc wc hB15 hlb hb => ?_)
          replace HU := hide (HU.out.step hb)
          have H15 := hide ((stay_blk hB15).and (stay_at hlb))
          clear hb hB15 hlb HBE
          go_wp2_with fail
          refine r25 _ (fun _ _ d _ _ h => by cases d <;> exact h) NB C P A2 n c2 T nm kd pr wt pw le bu ra de g11 (w.heap.size + 1) G t c' k Z (arrT bu) wc _ _ _ _ _ _ _ _ _ _ _ _ _ _ _ _ _ _ _ _ _ _ _ _ _ _ _ _ _ _ _ _ _ _ _ _ _ _ _ _ _ _ _ _ _ _ _ _ _ _ _ _ _ _ _ _ _ _ _ _ _ _ _ _ _ _ _ _ _ _ _ _ _ _ _ _ _ _ _ _ _ _ _ _ _ _ _ _ _ _ _ _ _ _ _ _ _ _ _ _ _ _ _ _ _ _ _ _ _ _ _ _ _ _ _ _ _ _ _ _ _ _ _ _ _ _ _ _ _ _ _ _ _ _ _ _ _ _ _ _ _ _ _ _ _ _ _ _ _ _ _ _ _ _ _ _ _ _ _ _ _ _ _ _ _ _ _ _ _ _ _ _ _ _ (fun W h => ⟨⟨⟨(HU.out W h).1.2, (HU.out W h).1.1.1.1.1.1.2⟩, (HU.out W h).1.1.2⟩, slots_less (HU.out W h).2 hkt2.out⟩) HCSk.out (fun W gb A3 c3 k1 k2 k3 => HRNk.out W gb A3 c3 k1 k2 k3) hw1 hsf (fun g17 gb4 A6 c6 A3 a3 c3 A4 a4 c4 lb2 lc2 wd hB17 hlb2 hb => ?_)
          replace HU := hide (HU.out.step hb)
          replace H15 := hide (H15.out.step hb)
          have e2 : wd.cell? ⟨g15, 2, none⟩ = some (.slice (some ⟨lb, 0, none⟩) 1 lc) := H15.out.now.1.cell 2
          have e0 : wd.cell? ⟨lb, 0, none⟩ = some (.int .i64 0) := H15.out.now.2
          have f2 : wd.cell? ⟨g17, 2, none⟩ = some (.slice (some ⟨lb2, 0, none⟩) 1 lc2) := hB17.cell 2
          clear hB17 hb
          by_cases hk0 : k = 0
          · have ht1 : ((t : Int) == 1) = true := by have := hkt.out; simp; omega
            clear hk0
            go_wp2
            go_ret
            exact ⟨rfl, HU.out.now.1.1.1.1.2⟩
          · have hz : 0 < Z := by
              rcases hEk.out with h | h
              · exact absurd h hk0
              · exact h
            have ht1 : ((t : Int) == 1) = false := by have := hkt.out; simp; omega
            clear hk0
            go_wp2
            go_ret
            exact ⟨rfl, HU.out.now.1.1.1.1.2⟩
end Go.Proofs.Ytppkibgemacdbaa
