import Derived.Test.YtppkibgemacdbaaSdM
namespace Go.Proofs.Ytppkibgemacdbaa
open Go.RowKit Go.WideShapes Go.ChangeShapes

/-! openAll of no bearers; room of one bearer -/
theorem bearersErrNone (B C P : Int) (A : Option Addr) (c n : Nat) (D : Option Addr) (d : Nat) (w : World) (hb : 0 ≤ B) (hc : 0 ≤ C) (hp : 0 ≤ P) :
    Calls Try.prog 60 #[.agg #[.int .i64 B, .int .i64 C, .int .i64 P, .slice A n c], .slice D 0 d] w fun e w' => e = .returned (.tuple #[.int .i64 0, .int .i64 0]) ∧ Below w.heap.size w w' := by
  have HF := hide (fun W => fitNone B C P A c n D d W hb hc hp)
  have HB := hide ((Below.refl _ w).alloc (Nat.le_refl _) (.cells #[.int .i64 B, .int .i64 C, .int .i64 P, .slice A n c] 74))
  go_enter Try.func60, Try.ntmps60
  go_wp2_with fail
  refine wp_loop_rounds 1 ?_
  rw [rounds_succ]
  go_wp2_with (first
    | (go_at_call 30; go_must (refine (HF.out _).mono ?_; rintro e w2 ⟨rfl, hb⟩; replace HB := hide (Below.step HB.out hb); clear hb; simp only []))
    | (go_at_call 28; go_must (refine (unless_any _ _ _).mono ?_; rintro e w' ⟨rfl, rfl⟩; rw [show unlessE true 16 = 0 from rfl]; simp only [])))
  exact bodyPost_ret (v := .tuple #[.int .i64 0, .int .i64 0]) (by simp [results, Try.results60, go_sem]) rfl ⟨rfl, HB.out⟩
theorem checkBearersNone (B C P : Int) (A : Option Addr) (c n : Nat) (T : List Int) (D : Option Addr) (d : Nat) (w : World) (hn : T.length = n) (hs : Sl w A (iv T)) (ho : OkS B C P T) :
    Calls Try.prog 46 #[.agg #[.int .i64 B, .int .i64 C, .int .i64 P, .slice A n c], .slice D 0 d] w fun e w' => e = .returned (.tuple #[.int .i64 0, .int .i64 0]) ∧ Below w.heap.size w w' := by
  have HO := hide (fun W k => open_ok B C P A c n T W hn k ho)
  have HE := hide (fun W => bearersErrNone B C P A c n D d W (by have := ho.b; omega) (by have := ho.c; omega) (by have := ho.p; omega))
  have HB := hide ((Below.refl _ w).alloc (Nat.le_refl _) (.cells #[.int .i64 B, .int .i64 C, .int .i64 P, .slice A n c] 24))
  have HS := hide (hs.alloc (.cells #[.int .i64 B, .int .i64 C, .int .i64 P, .slice A n c] 24))
  clear hs hn ho
  go_enter Try.func46, Try.ntmps46
  go_wp2_with (first
    | (go_at_call 58; go_must (refine (HO.out _ HS.out).mono ?_; rintro e w1 ⟨rfl, hb⟩; replace HB := hide (Below.step HB.out hb); clear hb; simp only []))
    | (go_at_call 60; go_must (refine (HE.out _).mono ?_; rintro e w2 ⟨rfl, hb⟩; replace HB := hide (Below.step (HB.out.alloc HB.out.size _) hb); clear hb; simp only [])))
  exact bodyPost_ret (v := .tuple #[.int .i64 0, .int .i64 0]) (by simp [results, Try.results46, go_sem]) rfl ⟨rfl, HB.out⟩
theorem openAllNone (B C P : Int) (A : Option Addr) (c n : Nat) (T : List Int) (D : Option Addr) (d : Nat) (w : World) (hn : T.length = n) (hs : Sl w A (iv T)) (ho : OkS B C P T) :
    Calls Try.prog 25 #[.agg #[.int .i64 B, .int .i64 C, .int .i64 P, .slice A n c], .slice D 0 d] w fun e w' => e = .returned (.tuple #[.agg #[.int .i64 B, .int .i64 C, .int .i64 P, .slice A n c], .int .i64 0]) ∧ Below w.heap.size w w' := by
  have HE := hide (fun W k => checkBearersNone B C P A c n T D d W hn k ho)
  have HT := hide ((((stay_blk (Blk.new w 24 #[.int .i64 B, .int .i64 C, .int .i64 P, .slice A n c])).alloc (.cells #[.int .i64 0, .int .i64 0, .int .i64 0, .slice none 0 0] 74)).and (stay_blk (blk_up w 24 74 #[.int .i64 B, .int .i64 C, .int .i64 P, .slice A n c] #[.int .i64 0, .int .i64 0, .int .i64 0, .slice none 0 0]))).and ((stay_sl (hs.alloc (.cells #[.int .i64 B, .int .i64 C, .int .i64 P, .slice A n c] 24))).alloc (.cells #[.int .i64 0, .int .i64 0, .int .i64 0, .slice none 0 0] 74)) |>.and (stay_below (((Below.refl _ w).alloc (Nat.le_refl _) (.cells #[.int .i64 B, .int .i64 C, .int .i64 P, .slice A n c] 24)).alloc (by simp) (.cells #[.int .i64 0, .int .i64 0, .int .i64 0, .slice none 0 0] 74))))
  clear hs hn ho
  go_enter Try.func25, Try.ntmps25
  go_wp2_with (first
    | (go_at_call 46; go_must (refine (HE.out _ HT.out.now.1.2).mono ?_; rintro e w1 ⟨rfl, hb⟩; replace HT := hide (HT.out.step hb); clear hb; have z0 : w1.cell? ⟨w.heap.size, 0, none⟩ = some (.int .i64 B) := HT.out.now.1.1.1.cell 0; have z1 : w1.cell? ⟨w.heap.size, 1, none⟩ = some (.int .i64 C) := HT.out.now.1.1.1.cell 1; have z2 : w1.cell? ⟨w.heap.size, 2, none⟩ = some (.int .i64 P) := HT.out.now.1.1.1.cell 2; have z3 : w1.cell? ⟨w.heap.size, 3, none⟩ = some (.slice A n c) := HT.out.now.1.1.1.cell 3; simp only []))
    | (refine wpList_store_row rfl 74 (.tmp 4) (.tmp 15) rfl (w.heap.size + 1) #[.int .i64 B, .int .i64 C, .int .i64 P, .slice A n c] rfl rfl 74 #[.int .i64 0, .int .i64 0, .int .i64 0, .slice none 0 0] HT.out.now.1.1.2 (by kernel_rfl) rfl (by simp [Value.oneCell']) ?_))
  exact bodyPost_ret (results_row_tmp rfl _ _ (w.heap.size + 1) 74 #[.int .i64 B, .int .i64 C, .int .i64 P, .slice A n c] _ (.int .i64 0) rfl rfl (HT.out.now.1.1.2.row _) Try.underlying74 rfl (by kernel_rfl)) rfl ⟨rfl, Below.row HT.out.now.2 (by omega) _⟩
set_option maxRecDepth 100000 in
set_option maxHeartbeats 8000000 in
theorem roomOne (B C P : Int) (A : Option Addr) (c n : Nat) (T : List Int) (nm : Bs) (kd pr wt pw le bu ra de : Int) (w : World) (hn : T.length = n) (hs : Sl w A (iv T)) (hs2 : OkS B C P T) (ho : OkB T nm kd pr wt pw le bu ra de) (hk : kd ≠ 0) (g d : Nat) (hg : Blk w g 32 #[strV nm, .int .i64 kd, .int .i64 pr, .int .i64 wt, .int .i64 pw, .int .i64 le, .int .i64 bu, .int .i64 ra, .int .i64 de]) :
    Calls Try.prog 51 #[.agg #[.int .i64 B, .int .i64 C, .int .i64 P, .slice A n c], .slice (some ⟨g, 0, none⟩) 1 d] w fun e w' => e = .returned (.agg #[.int .i64 (B - needB ra bu de (tbO T le)), .int .i64 (C - 1), .int .i64 (P - needB ra bu de (tbO T le) * pw)]) ∧ Below w.heap.size w w' := by
  have HNE := hide (fun W k => need_ok B C P A c n T nm kd pr wt pw le bu ra de W hn k hs2 ho hk)
  obtain ⟨n0, n1⟩ := need_bd hs2 ho hk
  have hb := hs2.b
  have hc := hs2.c
  have hp := hs2.p
  have hpw := ho.pw_
  obtain ⟨NB, hNB⟩ : ∃ z, needB ra bu de (tbO T le) = z := ⟨_, rfl⟩
  rw [hNB] at HNE n0 n1 ⊢
  have hpp : 0 ≤ NB * pw ∧ NB * pw ≤ 1000000 * 100000 := ⟨Int.mul_nonneg (by omega) hpw.1, Int.mul_le_mul n1 hpw.2 hpw.1 (by omega)⟩
  have w1 : IntKind.i64.wrap (B - NB) = B - NB := IntWalk.i64_in _ (by omega)
  have w2 : IntKind.i64.wrap (C - 1) = C - 1 := IntWalk.i64_in _ (by omega)
  have w3 : IntKind.i64.wrap (P - NB * pw) = P - NB * pw := IntWalk.i64_in _ (by omega)
  have hgl := hg.lt
  have HT := hide (((((((stay_blk (Blk.new w 74 #[.int .i64 B, .int .i64 C, .int .i64 P, .slice A n c])).alloc (.cells #[.int .i64 0, .int .i64 0, .int .i64 0] 51)).alloc (.cells #[.int .i64 B, .int .i64 C, .int .i64 P] 51)).and ((stay_blk (blk_up w 74 51 #[.int .i64 B, .int .i64 C, .int .i64 P, .slice A n c] #[.int .i64 0, .int .i64 0, .int .i64 0])).alloc (.cells #[.int .i64 B, .int .i64 C, .int .i64 P] 51))).and (stay_blk (blk_up2 w 74 51 51 #[.int .i64 B, .int .i64 C, .int .i64 P, .slice A n c] #[.int .i64 0, .int .i64 0, .int .i64 0] #[.int .i64 B, .int .i64 C, .int .i64 P]))).and ((((stay_blk hg).alloc (.cells #[.int .i64 B, .int .i64 C, .int .i64 P, .slice A n c] 74)).alloc (.cells #[.int .i64 0, .int .i64 0, .int .i64 0] 51)).alloc (.cells #[.int .i64 B, .int .i64 C, .int .i64 P] 51))).and ((((stay_sl hs).alloc (.cells #[.int .i64 B, .int .i64 C, .int .i64 P, .slice A n c] 74)).alloc (.cells #[.int .i64 0, .int .i64 0, .int .i64 0] 51)).alloc (.cells #[.int .i64 B, .int .i64 C, .int .i64 P] 51)) |>.and (stay_below ((((Below.refl _ w).alloc (Nat.le_refl _) (.cells #[.int .i64 B, .int .i64 C, .int .i64 P, .slice A n c] 74)).alloc (by simp) (.cells #[.int .i64 0, .int .i64 0, .int .i64 0] 51)).alloc (by simp; omega) (.cells #[.int .i64 B, .int .i64 C, .int .i64 P] 51))))
  clear hs hs2 ho hk hn hNB n0 n1 hb hc hp hpw hpp hg
  go_enter Try.func51, Try.ntmps51
  go_wp2_with fail
  obtain ⟨W3, hW3⟩ : ∃ W3, ((w.alloc (.cells #[.int .i64 B, .int .i64 C, .int .i64 P, .slice A n c] 74)).alloc (.cells #[.int .i64 0, .int .i64 0, .int .i64 0] 51)).alloc (.cells #[.int .i64 B, .int .i64 C, .int .i64 P] 51) = W3 := ⟨_, rfl⟩
  rw [hW3] at HT ⊢
  clear hW3
  have z0 : W3.cell? ⟨g, 0, none⟩ = some (strV nm) := HT.out.now.1.1.2.cell 0
  have z1 : W3.cell? ⟨g, 1, none⟩ = some (.int .i64 kd) := HT.out.now.1.1.2.cell 1
  have z2 : W3.cell? ⟨g, 2, none⟩ = some (.int .i64 pr) := HT.out.now.1.1.2.cell 2
  have z3 : W3.cell? ⟨g, 3, none⟩ = some (.int .i64 wt) := HT.out.now.1.1.2.cell 3
  have z4 : W3.cell? ⟨g, 4, none⟩ = some (.int .i64 pw) := HT.out.now.1.1.2.cell 4
  have z5 : W3.cell? ⟨g, 5, none⟩ = some (.int .i64 le) := HT.out.now.1.1.2.cell 5
  have z6 : W3.cell? ⟨g, 6, none⟩ = some (.int .i64 bu) := HT.out.now.1.1.2.cell 6
  have z7 : W3.cell? ⟨g, 7, none⟩ = some (.int .i64 ra) := HT.out.now.1.1.2.cell 7
  have z8 : W3.cell? ⟨g, 8, none⟩ = some (.int .i64 de) := HT.out.now.1.1.2.cell 8
  refine wp_loop_rounds 2 ?_
  rw [rounds_succ]
  go_wp2_with (
    refine wpList_store_row rfl 32 (.tmp 7) (.tmp 24) rfl W3.heap.size #[strV nm, .int .i64 kd, .int .i64 pr, .int .i64 wt, .int .i64 pw, .int .i64 le, .int .i64 bu, .int .i64 ra, .int .i64 de] rfl rfl 32 #[.string ⟨#[]⟩, .int .i64 0, .int .i64 0, .int .i64 0, .int .i64 0, .int .i64 0, .int .i64 0, .int .i64 0, .int .i64 0] (Blk.new W3 32 #[.string ⟨#[]⟩, .int .i64 0, .int .i64 0, .int .i64 0, .int .i64 0, .int .i64 0, .int .i64 0, .int .i64 0, .int .i64 0]) (by kernel_rfl) rfl (by simp [Value.oneCell', strV]) ?_
    have HZ := hide ((Blk.new W3 32 #[.string ⟨#[]⟩, .int .i64 0, .int .i64 0, .int .i64 0, .int .i64 0, .int .i64 0, .int .i64 0, .int .i64 0, .int .i64 0]).row #[strV nm, .int .i64 kd, .int .i64 pr, .int .i64 wt, .int .i64 pw, .int .i64 le, .int .i64 bu, .int .i64 ra, .int .i64 de])
    replace HT := hide (HT.out.step (Below.row (g := W3.heap.size) ((Below.refl W3.heap.size W3).alloc (Nat.le_refl _) (.cells #[.string ⟨#[]⟩, .int .i64 0, .int .i64 0, .int .i64 0, .int .i64 0, .int .i64 0, .int .i64 0, .int .i64 0, .int .i64 0] 32)) (Nat.le_refl _) #[strV nm, .int .i64 kd, .int .i64 pr, .int .i64 wt, .int .i64 pw, .int .i64 le, .int .i64 bu, .int .i64 ra, .int .i64 de]))
    obtain ⟨W4, hW4⟩ : ∃ W4, (W3.alloc (.cells #[.string ⟨#[]⟩, .int .i64 0, .int .i64 0, .int .i64 0, .int .i64 0, .int .i64 0, .int .i64 0, .int .i64 0, .int .i64 0] 32)).setRow W3.heap.size #[strV nm, .int .i64 kd, .int .i64 pr, .int .i64 wt, .int .i64 pw, .int .i64 le, .int .i64 bu, .int .i64 ra, .int .i64 de] = W4 := ⟨_, rfl⟩
    rw [hW4] at HT HZ ⊢
    clear hW4 z0 z1 z2 z3 z4 z5 z6 z7 z8
    have s0 : W4.cell? ⟨w.heap.size, 0, none⟩ = some (.int .i64 B) := HT.out.now.1.1.1.1.1.cell 0
    have s1 : W4.cell? ⟨w.heap.size, 1, none⟩ = some (.int .i64 C) := HT.out.now.1.1.1.1.1.cell 1
    have s2 : W4.cell? ⟨w.heap.size, 2, none⟩ = some (.int .i64 P) := HT.out.now.1.1.1.1.1.cell 2
    have s3 : W4.cell? ⟨w.heap.size, 3, none⟩ = some (.slice A n c) := HT.out.now.1.1.1.1.1.cell 3
    have b0 : W4.cell? ⟨W3.heap.size, 0, none⟩ = some (strV nm) := HZ.out.cell 0
    have b1 : W4.cell? ⟨W3.heap.size, 1, none⟩ = some (.int .i64 kd) := HZ.out.cell 1
    have b2 : W4.cell? ⟨W3.heap.size, 2, none⟩ = some (.int .i64 pr) := HZ.out.cell 2
    have b3 : W4.cell? ⟨W3.heap.size, 3, none⟩ = some (.int .i64 wt) := HZ.out.cell 3
    have b4 : W4.cell? ⟨W3.heap.size, 4, none⟩ = some (.int .i64 pw) := HZ.out.cell 4
    have b5 : W4.cell? ⟨W3.heap.size, 5, none⟩ = some (.int .i64 le) := HZ.out.cell 5
    have b6 : W4.cell? ⟨W3.heap.size, 6, none⟩ = some (.int .i64 bu) := HZ.out.cell 6
    have b7 : W4.cell? ⟨W3.heap.size, 7, none⟩ = some (.int .i64 ra) := HZ.out.cell 7
    have b8 : W4.cell? ⟨W3.heap.size, 8, none⟩ = some (.int .i64 de) := HZ.out.cell 8)
  go_at_call 40
  refine (HNE.out _ HT.out.now.1.2).mono ?_
  rintro e v1 ⟨rfl, hb⟩
  replace HT := hide ((HT.out.step hb).alloc (.cells #[.int .i64 NB, .int .i64 1, .int .i64 (NB * pw)] 51))
  clear hb HZ b0 b1 b2 b3 b4 b5 b6 b7 b8 s0 s1 s2 s3
  have t0 : (v1.alloc (.cells #[.int .i64 NB, .int .i64 1, .int .i64 (NB * pw)] 51)).cell? ⟨w.heap.size + 2, 0, none⟩ = some (.int .i64 B) := HT.out.now.1.1.1.2.cell 0
  have t1 : (v1.alloc (.cells #[.int .i64 NB, .int .i64 1, .int .i64 (NB * pw)] 51)).cell? ⟨w.heap.size + 2, 1, none⟩ = some (.int .i64 C) := HT.out.now.1.1.1.2.cell 1
  have t2 : (v1.alloc (.cells #[.int .i64 NB, .int .i64 1, .int .i64 (NB * pw)] 51)).cell? ⟨w.heap.size + 2, 2, none⟩ = some (.int .i64 P) := HT.out.now.1.1.1.2.cell 2
  simp only []
  go_wp2_with (refine wpList_store_row rfl 51 (.tmp 5) (.tmp 43) rfl (w.heap.size + 2) #[.int .i64 (B - NB), .int .i64 (C - 1), .int .i64 (P - NB * pw)] rfl rfl 51 #[.int .i64 B, .int .i64 C, .int .i64 P] HT.out.now.1.1.1.2 (by kernel_rfl) rfl (by simp [Value.oneCell']) ?_)
  have HX := hide (HT.out.now.1.1.1.2.row #[.int .i64 (B - NB), .int .i64 (C - 1), .int .i64 (P - NB * pw)])
  have HY := hide (HT.out.now.1.1.1.1.2.rowFar (k := w.heap.size + 2) (by omega) #[.int .i64 (B - NB), .int .i64 (C - 1), .int .i64 (P - NB * pw)])
  have HB := hide (Below.row (g := w.heap.size + 2) HT.out.now.2 (by omega) #[.int .i64 (B - NB), .int .i64 (C - 1), .int .i64 (P - NB * pw)])
  obtain ⟨W7, hW7⟩ : ∃ W7, (v1.alloc (.cells #[.int .i64 NB, .int .i64 1, .int .i64 (NB * pw)] 51)).setRow (w.heap.size + 2) #[.int .i64 (B - NB), .int .i64 (C - 1), .int .i64 (P - NB * pw)] = W7 := ⟨_, rfl⟩
  rw [hW7] at HX HY HB ⊢
  clear hW7 HT HNE t0 t1 t2
  have x0 : W7.cell? ⟨w.heap.size + 2, 0, none⟩ = some (.int .i64 (B - NB)) := HX.out.cell 0
  have x1 : W7.cell? ⟨w.heap.size + 2, 1, none⟩ = some (.int .i64 (C - 1)) := HX.out.cell 1
  have x2 : W7.cell? ⟨w.heap.size + 2, 2, none⟩ = some (.int .i64 (P - NB * pw)) := HX.out.cell 2
  go_wp2_with fail
  rw [rounds_succ]
  go_wp2_with (refine wpList_store_row rfl 51 (.tmp 4) (.tmp 45) rfl (w.heap.size + 1) #[.int .i64 (B - NB), .int .i64 (C - 1), .int .i64 (P - NB * pw)] rfl rfl 51 #[.int .i64 0, .int .i64 0, .int .i64 0] HY.out (by kernel_rfl) rfl (by simp [Value.oneCell']) ?_)
  have HX2 := hide (HY.out.row #[.int .i64 (B - NB), .int .i64 (C - 1), .int .i64 (P - NB * pw)])
  have HB2 := hide (Below.row (g := w.heap.size + 1) HB.out (by omega) #[.int .i64 (B - NB), .int .i64 (C - 1), .int .i64 (P - NB * pw)])
  obtain ⟨W5, hW5⟩ : ∃ W5, W7.setRow (w.heap.size + 1) #[.int .i64 (B - NB), .int .i64 (C - 1), .int .i64 (P - NB * pw)] = W5 := ⟨_, rfl⟩
  rw [hW5] at HX2 HB2 ⊢
  refine bodyPost_ret (v := .agg #[.int .i64 (B - NB), .int .i64 (C - 1), .int .i64 (P - NB * pw)]) ?_ rfl ⟨rfl, HB2.out⟩
  have y0 : W5.cell? ⟨w.heap.size + 1, 0, none⟩ = some (.int .i64 (B - NB)) := HX2.out.cell 0
  have y1 : W5.cell? ⟨w.heap.size + 1, 1, none⟩ = some (.int .i64 (C - 1)) := HX2.out.cell 1
  have y2 : W5.cell? ⟨w.heap.size + 1, 2, none⟩ = some (.int .i64 (P - NB * pw)) := HX2.out.cell 2
  simp [results, Try.results51, go_sem, y0, y1, y2]
end Go.Proofs.Ytppkibgemacdbaa
