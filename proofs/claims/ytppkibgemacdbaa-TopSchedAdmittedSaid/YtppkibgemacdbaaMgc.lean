import Derived.Test.YtppkibgemacdbaaSdL
namespace Go.Proofs.Ytppkibgemacdbaa
open Go.RowKit Go.WideShapes Go.ChangeShapes

/-! no bearers, one bearer -/
theorem indexNone (A : Option Addr) (c : Nat) (f : Value) (w : World) :
    Calls Try.prog 61 #[.slice A 0 c, f] w fun e w' => e = .returned (.int .i64 (-1)) ∧ w = w' := by
  go_enter Try.func61, Try.ntmps61
  go_wp2_with fail
  refine wp_loop_rounds 1 ?_
  rw [rounds_succ]
  go_wp2
  go_ret
  exact ⟨rfl, rfl⟩
theorem containsNone (A : Option Addr) (c : Nat) (f : Value) (w : World) :
    Calls Try.prog 49 #[.slice A 0 c, f] w fun e w' => e = .returned (.bool false) ∧ w = w' := by
  go_enter Try.func49, Try.ntmps49
  go_wp2_with (go_at_call 61; go_must (refine (indexNone _ _ _ _).mono ?_; rintro e w' ⟨rfl, rfl⟩; simp only []))
  go_ret
  exact ⟨rfl, rfl⟩
theorem namedNone (A : Option Addr) (c : Nat) (nm : Bs) (w : World) :
    Calls Try.prog 29 #[.slice A 0 c, strV nm] w fun e w' => e = .returned (.bool false) ∧ Below w.heap.size w w' := by
  go_enter Try.func29, Try.ntmps29
  go_wp2_with (go_at_call 49; go_must (refine (containsNone _ _ _ _).mono ?_; rintro e w' ⟨rfl, rfl⟩; simp only []))
  go_ret
  exact ⟨rfl, (Below.refl _ _).alloc (Nat.le_refl _) _⟩
set_option maxRecDepth 100000 in
set_option maxHeartbeats 4000000 in
theorem roomNone (B C P : Int) (A : Option Addr) (c n : Nat) (D : Option Addr) (d : Nat) (w : World) :
    Calls Try.prog 51 #[.agg #[.int .i64 B, .int .i64 C, .int .i64 P, .slice A n c], .slice D 0 d] w fun e w' => e = .returned (.agg #[.int .i64 B, .int .i64 C, .int .i64 P]) ∧ Below w.heap.size w w' := by
  have HX1 := hide ((blk_up w 74 51 #[.int .i64 B, .int .i64 C, .int .i64 P, .slice A n c] #[.int .i64 0, .int .i64 0, .int .i64 0]).alloc (.cells #[.int .i64 B, .int .i64 C, .int .i64 P] 51))
  have HB := hide ((((Below.refl _ w).alloc (Nat.le_refl _) (.cells #[.int .i64 B, .int .i64 C, .int .i64 P, .slice A n c] 74)).alloc (by simp) (.cells #[.int .i64 0, .int .i64 0, .int .i64 0] 51)).alloc (by simp; omega) (.cells #[.int .i64 B, .int .i64 C, .int .i64 P] 51))
  go_enter Try.func51, Try.ntmps51
  go_wp2_with fail
  refine wp_loop_rounds 1 ?_
  rw [rounds_succ]
  go_wp2_with (refine wpList_store_row rfl 51 (.tmp 4) (.tmp 45) rfl (w.heap.size + 1) #[.int .i64 B, .int .i64 C, .int .i64 P] rfl rfl 51 #[.int .i64 0, .int .i64 0, .int .i64 0] HX1.out (by kernel_rfl) rfl (by simp [Value.oneCell']) ?_)
  have HX := hide (HX1.out.row #[.int .i64 B, .int .i64 C, .int .i64 P])
  have HB2 := hide (Below.row (g := w.heap.size + 1) HB.out (by omega) #[.int .i64 B, .int .i64 C, .int .i64 P])
  obtain ⟨W5, hW5⟩ : ∃ W5, (((w.alloc (.cells #[.int .i64 B, .int .i64 C, .int .i64 P, .slice A n c] 74)).alloc (.cells #[.int .i64 0, .int .i64 0, .int .i64 0] 51)).alloc (.cells #[.int .i64 B, .int .i64 C, .int .i64 P] 51)).setRow (w.heap.size + 1) #[.int .i64 B, .int .i64 C, .int .i64 P] = W5 := ⟨_, rfl⟩
  rw [hW5] at HX HB2 ⊢
  refine bodyPost_ret (v := .agg #[.int .i64 B, .int .i64 C, .int .i64 P]) ?_ rfl ⟨rfl, HB2.out⟩
  have y0 : W5.cell? ⟨w.heap.size + 1, 0, none⟩ = some (.int .i64 B) := HX.out.cell 0
  have y1 : W5.cell? ⟨w.heap.size + 1, 1, none⟩ = some (.int .i64 C) := HX.out.cell 1
  have y2 : W5.cell? ⟨w.heap.size + 1, 2, none⟩ = some (.int .i64 P) := HX.out.cell 2
  simp [results, Try.results51, go_sem, y0, y1, y2]
theorem fitNone (B C P : Int) (A : Option Addr) (c n : Nat) (D : Option Addr) (d : Nat) (w : World) (hb : 0 ≤ B) (hc : 0 ≤ C) (hp : 0 ≤ P) :
    Calls Try.prog 30 #[.agg #[.int .i64 B, .int .i64 C, .int .i64 P, .slice A n c], .slice D 0 d] w fun e w' => e = .returned (.bool true) ∧ Below w.heap.size w w' := by
  have HR := hide (fun W => roomNone B C P A c n D d W)
  have HB := hide ((Below.refl _ w).alloc (Nat.le_refl _) (.cells #[.int .i64 B, .int .i64 C, .int .i64 P, .slice A n c] 74))
  go_enter Try.func30, Try.ntmps30
  go_wp2_with (go_at_call 51; go_must (refine (HR.out _).mono ?_; rintro e w2 ⟨rfl, hb⟩; replace HB := hide (Below.step HB.out hb); clear hb; simp only []))
  all_goals first
    | (go_ret
       refine ⟨?_, HB.out.alloc HB.out.size _⟩
       first
         | rfl
         | (simp; omega)
         | (simp only [decide_eq_true_eq, decide_eq_true, *]))
end Go.Proofs.Ytppkibgemacdbaa

namespace Go.Proofs.Ytppkibgemacdbaa
open Go.RowKit Go.WideShapes Go.ChangeShapes

/-! openAll of no bearers; room of one bearer -/
theorem bearersErrNone (B C P : Int) (A : Option Addr) (c n : Nat) (D : Option Addr) (d : Nat) (w : World) (hb : 0 ≤ B) (hc : 0 ≤ C) (hp : 0 ≤ P) :
    Calls Try.prog 60 #[.agg #[.int .i64 B, .int .i64 C, .int .i64 P, .slice A n c], .slice D 0 d] w fun e w' => e = .returned (.tuple #[.int .i64 0, .int .i64 0]) ∧ Below w.heap.size w w' := by
  have HF := hide (fun W => fitNone B C P A c n D d W hb hc hp)
  have HB := hide ((Below.refl _ w).alloc (Nat.le_refl _) (.cells #[.int .i64 B, .int .i64 C, .int .i64 P, .slice A n c] 74))
  go_enter Try.func60, Try.ntmps60
  go_wp2_with fail
  refine wp_loop_rounds 1 ?_
  rw [rounds_succ]
  go_wp2_with (first
    | (go_at_call 30; go_must (refine (HF.out _).mono ?_; rintro e w2 ⟨rfl, hb⟩; replace HB := hide (Below.step HB.out hb); clear hb; simp only []))
    | (go_at_call 28; go_must (refine (unless_any _ _ _).mono ?_; rintro e w' ⟨rfl, rfl⟩; rw [show unlessE true 16 = 0 from rfl]; simp only [])))
  exact bodyPost_ret (v := .tuple #[.int .i64 0, .int .i64 0]) (by simp [results, Try.results60, go_sem]) rfl ⟨rfl, HB.out⟩
theorem checkBearersNone (B C P : Int) (A : Option Addr) (c n : Nat) (T : List Int) (D : Option Addr) (d : Nat) (w : World) (hn : T.length = n) (hs : Sl w A (iv T)) (ho : OkS B C P T) :
    Calls Try.prog 46 #[.agg #[.int .i64 B, .int .i64 C, .int .i64 P, .slice A n c], .slice D 0 d] w fun e w' => e = .returned (.tuple #[.int .i64 0, .int .i64 0]) ∧ Below w.heap.size w w' := by
  have HO := hide (fun W k => open_ok B C P A c n T W hn k ho)
  have HE := hide (fun W => bearersErrNone B C P A c n D d W (by have := ho.b; omega) (by have := ho.c; omega) (by have := ho.p; omega))
  have HB := hide ((Below.refl _ w).alloc (Nat.le_refl _) (.cells #[.int .i64 B, .int .i64 C, .int .i64 P, .slice A n c] 24))
  have HS := hide (hs.alloc (.cells #[.int .i64 B, .int .i64 C, .int .i64 P, .slice A n c] 24))
  clear hs hn ho
  go_enter Try.func46, Try.ntmps46
  go_wp2_with (first
    | (go_at_call 58; go_must (refine (HO.out _ HS.out).mono ?_; rintro e w1 ⟨rfl, hb⟩; replace HB := hide (Below.step HB.out hb); clear hb; simp only []))
    | (go_at_call 60; go_must (refine (HE.out _).mono ?_; rintro e w2 ⟨rfl, hb⟩; replace HB := hide (Below.step (HB.out.alloc HB.out.size _) hb); clear hb; simp only [])))
  exact bodyPost_ret (v := .tuple #[.int .i64 0, .int .i64 0]) (by simp [results, Try.results46, go_sem]) rfl ⟨rfl, HB.out⟩
theorem openAllNone (B C P : Int) (A : Option Addr) (c n : Nat) (T : List Int) (D : Option Addr) (d : Nat) (w : World) (hn : T.length = n) (hs : Sl w A (iv T)) (ho : OkS B C P T) :
    Calls Try.prog 25 #[.agg #[.int .i64 B, .int .i64 C, .int .i64 P, .slice A n c], .slice D 0 d] w fun e w' => e = .returned (.tuple #[.agg #[.int .i64 B, .int .i64 C, .int .i64 P, .slice A n c], .int .i64 0]) ∧ Below w.heap.size w w' := by
  have HE := hide (fun W k => checkBearersNone B C P A c n T D d W hn k ho)
  have HT := hide ((((stay_blk (Blk.new w 24 #[.int .i64 B, .int .i64 C, .int .i64 P, .slice A n c])).alloc (.cells #[.int .i64 0, .int .i64 0, .int .i64 0, .slice none 0 0] 74)).and (stay_blk (blk_up w 24 74 #[.int .i64 B, .int .i64 C, .int .i64 P, .slice A n c] #[.int .i64 0, .int .i64 0, .int .i64 0, .slice none 0 0]))).and ((stay_sl (hs.alloc (.cells #[.int .i64 B, .int .i64 C, .int .i64 P, .slice A n c] 24))).alloc (.cells #[.int .i64 0, .int .i64 0, .int .i64 0, .slice none 0 0] 74)) |>.and (stay_below (((Below.refl _ w).alloc (Nat.le_refl _) (.cells #[.int .i64 B, .int .i64 C, .int .i64 P, .slice A n c] 24)).alloc (by simp) (.cells #[.int .i64 0, .int .i64 0, .int .i64 0, .slice none 0 0] 74))))
  clear hs hn ho
  go_enter Try.func25, Try.ntmps25
  go_wp2_with (first
    | (go_at_call 46; go_must (refine (HE.out _ HT.out.now.1.2).mono ?_; rintro e w1 ⟨rfl, hb⟩; replace HT := hide (HT.out.step hb); clear hb; have z0 : w1.cell? ⟨w.heap.size, 0, none⟩ = some (.int .i64 B) := HT.out.now.1.1.1.cell 0; have z1 : w1.cell? ⟨w.heap.size, 1, none⟩ = some (.int .i64 C) := HT.out.now.1.1.1.cell 1; have z2 : w1.cell? ⟨w.heap.size, 2, none⟩ = some (.int .i64 P) := HT.out.now.1.1.1.cell 2; have z3 : w1.cell? ⟨w.heap.size, 3, none⟩ = some (.slice A n c) := HT.out.now.1.1.1.cell 3; simp only []))
    | (refine wpList_store_row rfl 74 (.tmp 4) (.tmp 15) rfl (w.heap.size + 1) #[.int .i64 B, .int .i64 C, .int .i64 P, .slice A n c] rfl rfl 74 #[.int .i64 0, .int .i64 0, .int .i64 0, .slice none 0 0] HT.out.now.1.1.2 (by kernel_rfl) rfl (by simp [Value.oneCell']) ?_))
  exact bodyPost_ret (results_row_tmp rfl _ _ (w.heap.size + 1) 74 #[.int .i64 B, .int .i64 C, .int .i64 P, .slice A n c] _ (.int .i64 0) rfl rfl (HT.out.now.1.1.2.row _) Try.underlying74 rfl (by kernel_rfl)) rfl ⟨rfl, Below.row HT.out.now.2 (by omega) _⟩
set_option maxRecDepth 100000 in
set_option maxHeartbeats 8000000 in
theorem roomOne (B C P : Int) (A : Option Addr) (c n : Nat) (T : List Int) (nm : Bs) (kd pr wt pw le bu ra de : Int) (w : World) (hn : T.length = n) (hs : Sl w A (iv T)) (hs2 : OkS B C P T) (ho : OkB T nm kd pr wt pw le bu ra de) (hk : kd ≠ 0) (g d : Nat) (hg : Blk w g 32 #[strV nm, .int .i64 kd, .int .i64 pr, .int .i64 wt, .int .i64 pw, .int .i64 le, .int .i64 bu, .int .i64 ra, .int .i64 de]) :
    Calls Try.prog 51 #[.agg #[.int .i64 B, .int .i64 C, .int .i64 P, .slice A n c], .slice (some ⟨g, 0, none⟩) 1 d] w fun e w' => e = .returned (.agg #[.int .i64 (B - needB ra bu de (tbO T le)), .int .i64 (C - 1), .int .i64 (P - needB ra bu de (tbO T le) * pw)]) ∧ Below w.heap.size w w' := by
  have HNE := hide (fun W k => need_ok B C P A c n T nm kd pr wt pw le bu ra de W hn k hs2 ho hk)
  obtain ⟨n0, n1⟩ := need_bd hs2 ho hk
  have hb := hs2.b
  have hc := hs2.c
  have hp := hs2.p
  have hpw := ho.pw_
  obtain ⟨NB, hNB⟩ : ∃ z, needB ra bu de (tbO T le) = z := ⟨_, rfl⟩
  rw [hNB] at HNE n0 n1 ⊢
  have hpp : 0 ≤ NB * pw ∧ NB * pw ≤ 1000000 * 100000 := ⟨Int.mul_nonneg (by omega) hpw.1, Int.mul_le_mul n1 hpw.2 hpw.1 (by omega)⟩
  have w1 : IntKind.i64.wrap (B - NB) = B - NB := IntWalk.i64_in _ (by omega)
  have w2 : IntKind.i64.wrap (C - 1) = C - 1 := IntWalk.i64_in _ (by omega)
  have w3 : IntKind.i64.wrap (P - NB * pw) = P - NB * pw := IntWalk.i64_in _ (by omega)
  have hgl := hg.lt
  have HT := hide (((((((stay_blk (Blk.new w 74 #[.int .i64 B, .int .i64 C, .int .i64 P, .slice A n c])).alloc (.cells #[.int .i64 0, .int .i64 0, .int .i64 0] 51)).alloc (.cells #[.int .i64 B, .int .i64 C, .int .i64 P] 51)).and ((stay_blk (blk_up w 74 51 #[.int .i64 B, .int .i64 C, .int .i64 P, .slice A n c] #[.int .i64 0, .int .i64 0, .int .i64 0])).alloc (.cells #[.int .i64 B, .int .i64 C, .int .i64 P] 51))).and (stay_blk (blk_up2 w 74 51 51 #[.int .i64 B, .int .i64 C, .int .i64 P, .slice A n c] #[.int .i64 0, .int .i64 0, .int .i64 0] #[.int .i64 B, .int .i64 C, .int .i64 P]))).and ((((stay_blk hg).alloc (.cells #[.int .i64 B, .int .i64 C, .int .i64 P, .slice A n c] 74)).alloc (.cells #[.int .i64 0, .int .i64 0, .int .i64 0] 51)).alloc (.cells #[.int .i64 B, .int .i64 C, .int .i64 P] 51))).and ((((stay_sl hs).alloc (.cells #[.int .i64 B, .int .i64 C, .int .i64 P, .slice A n c] 74)).alloc (.cells #[.int .i64 0, .int .i64 0, .int .i64 0] 51)).alloc (.cells #[.int .i64 B, .int .i64 C, .int .i64 P] 51)) |>.and (stay_below ((((Below.refl _ w).alloc (Nat.le_refl _) (.cells #[.int .i64 B, .int .i64 C, .int .i64 P, .slice A n c] 74)).alloc (by simp) (.cells #[.int .i64 0, .int .i64 0, .int .i64 0] 51)).alloc (by simp; omega) (.cells #[.int .i64 B, .int .i64 C, .int .i64 P] 51))))
  clear hs hs2 ho hk hn hNB n0 n1 hb hc hp hpw hpp hg
  go_enter Try.func51, Try.ntmps51
  go_wp2_with fail
  obtain ⟨W3, hW3⟩ : ∃ W3, ((w.alloc (.cells #[.int .i64 B, .int .i64 C, .int .i64 P, .slice A n c] 74)).alloc (.cells #[.int .i64 0, .int .i64 0, .int .i64 0] 51)).alloc (.cells #[.int .i64 B, .int .i64 C, .int .i64 P] 51) = W3 := ⟨_, rfl⟩
  rw [hW3] at HT ⊢
  clear hW3
  have z0 : W3.cell? ⟨g, 0, none⟩ = some (strV nm) := HT.out.now.1.1.2.cell 0
  have z1 : W3.cell? ⟨g, 1, none⟩ = some (.int .i64 kd) := HT.out.now.1.1.2.cell 1
  have z2 : W3.cell? ⟨g, 2, none⟩ = some (.int .i64 pr) := HT.out.now.1.1.2.cell 2
  have z3 : W3.cell? ⟨g, 3, none⟩ = some (.int .i64 wt) := HT.out.now.1.1.2.cell 3
  have z4 : W3.cell? ⟨g, 4, none⟩ = some (.int .i64 pw) := HT.out.now.1.1.2.cell 4
  have z5 : W3.cell? ⟨g, 5, none⟩ = some (.int .i64 le) := HT.out.now.1.1.2.cell 5
  have z6 : W3.cell? ⟨g, 6, none⟩ = some (.int .i64 bu) := HT.out.now.1.1.2.cell 6
  have z7 : W3.cell? ⟨g, 7, none⟩ = some (.int .i64 ra) := HT.out.now.1.1.2.cell 7
  have z8 : W3.cell? ⟨g, 8, none⟩ = some (.int .i64 de) := HT.out.now.1.1.2.cell 8
  refine wp_loop_rounds 2 ?_
  rw [rounds_succ]
  go_wp2_with (
    refine wpList_store_row rfl 32 (.tmp 7) (.tmp 24) rfl W3.heap.size #[strV nm, .int .i64 kd, .int .i64 pr, .int .i64 wt, .int .i64 pw, .int .i64 le, .int .i64 bu, .int .i64 ra, .int .i64 de] rfl rfl 32 #[.string ⟨#[]⟩, .int .i64 0, .int .i64 0, .int .i64 0, .int .i64 0, .int .i64 0, .int .i64 0, .int .i64 0, .int .i64 0] (Blk.new W3 32 #[.string ⟨#[]⟩, .int .i64 0, .int .i64 0, .int .i64 0, .int .i64 0, .int .i64 0, .int .i64 0, .int .i64 0, .int .i64 0]) (by kernel_rfl) rfl (by simp [Value.oneCell', strV]) ?_
    have HZ := hide ((Blk.new W3 32 #[.string ⟨#[]⟩, .int .i64 0, .int .i64 0, .int .i64 0, .int .i64 0, .int .i64 0, .int .i64 0, .int .i64 0, .int .i64 0]).row #[strV nm, .int .i64 kd, .int .i64 pr, .int .i64 wt, .int .i64 pw, .int .i64 le, .int .i64 bu, .int .i64 ra, .int .i64 de])
    replace HT := hide (HT.out.step (Below.row (g := W3.heap.size) ((Below.refl W3.heap.size W3).alloc (Nat.le_refl _) (.cells #[.string ⟨#[]⟩, .int .i64 0, .int .i64 0, .int .i64 0, .int .i64 0, .int .i64 0, .int .i64 0, .int .i64 0, .int .i64 0] 32)) (Nat.le_refl _) #[strV nm, .int .i64 kd, .int .i64 pr, .int .i64 wt, .int .i64 pw, .int .i64 le, .int .i64 bu, .int .i64 ra, .int .i64 de]))
    obtain ⟨W4, hW4⟩ : ∃ W4, (W3.alloc (.cells #[.string ⟨#[]⟩, .int .i64 0, .int .i64 0, .int .i64 0, .int .i64 0, .int .i64 0, .int .i64 0, .int .i64 0, .int .i64 0] 32)).setRow W3.heap.size #[strV nm, .int .i64 kd, .int .i64 pr, .int .i64 wt, .int .i64 pw, .int .i64 le, .int .i64 bu, .int .i64 ra, .int .i64 de] = W4 := ⟨_, rfl⟩
    rw [hW4] at HT HZ ⊢
    clear hW4 z0 z1 z2 z3 z4 z5 z6 z7 z8
    have s0 : W4.cell? ⟨w.heap.size, 0, none⟩ = some (.int .i64 B) := HT.out.now.1.1.1.1.1.cell 0
    have s1 : W4.cell? ⟨w.heap.size, 1, none⟩ = some (.int .i64 C) := HT.out.now.1.1.1.1.1.cell 1
    have s2 : W4.cell? ⟨w.heap.size, 2, none⟩ = some (.int .i64 P) := HT.out.now.1.1.1.1.1.cell 2
    have s3 : W4.cell? ⟨w.heap.size, 3, none⟩ = some (.slice A n c) := HT.out.now.1.1.1.1.1.cell 3
    have b0 : W4.cell? ⟨W3.heap.size, 0, none⟩ = some (strV nm) := HZ.out.cell 0
    have b1 : W4.cell? ⟨W3.heap.size, 1, none⟩ = some (.int .i64 kd) := HZ.out.cell 1
    have b2 : W4.cell? ⟨W3.heap.size, 2, none⟩ = some (.int .i64 pr) := HZ.out.cell 2
    have b3 : W4.cell? ⟨W3.heap.size, 3, none⟩ = some (.int .i64 wt) := HZ.out.cell 3
    have b4 : W4.cell? ⟨W3.heap.size, 4, none⟩ = some (.int .i64 pw) := HZ.out.cell 4
    have b5 : W4.cell? ⟨W3.heap.size, 5, none⟩ = some (.int .i64 le) := HZ.out.cell 5
    have b6 : W4.cell? ⟨W3.heap.size, 6, none⟩ = some (.int .i64 bu) := HZ.out.cell 6
    have b7 : W4.cell? ⟨W3.heap.size, 7, none⟩ = some (.int .i64 ra) := HZ.out.cell 7
    have b8 : W4.cell? ⟨W3.heap.size, 8, none⟩ = some (.int .i64 de) := HZ.out.cell 8)
  go_at_call 40
  refine (HNE.out _ HT.out.now.1.2).mono ?_
  rintro e v1 ⟨rfl, hb⟩
  replace HT := hide ((HT.out.step hb).alloc (.cells #[.int .i64 NB, .int .i64 1, .int .i64 (NB * pw)] 51))
  clear hb HZ b0 b1 b2 b3 b4 b5 b6 b7 b8 s0 s1 s2 s3
  have t0 : (v1.alloc (.cells #[.int .i64 NB, .int .i64 1, .int .i64 (NB * pw)] 51)).cell? ⟨w.heap.size + 2, 0, none⟩ = some (.int .i64 B) := HT.out.now.1.1.1.2.cell 0
  have t1 : (v1.alloc (.cells #[.int .i64 NB, .int .i64 1, .int .i64 (NB * pw)] 51)).cell? ⟨w.heap.size + 2, 1, none⟩ = some (.int .i64 C) := HT.out.now.1.1.1.2.cell 1
  have t2 : (v1.alloc (.cells #[.int .i64 NB, .int .i64 1, .int .i64 (NB * pw)] 51)).cell? ⟨w.heap.size + 2, 2, none⟩ = some (.int .i64 P) := HT.out.now.1.1.1.2.cell 2
  simp only []
  go_wp2_with (refine wpList_store_row rfl 51 (.tmp 5) (.tmp 43) rfl (w.heap.size + 2) #[.int .i64 (B - NB), .int .i64 (C - 1), .int .i64 (P - NB * pw)] rfl rfl 51 #[.int .i64 B, .int .i64 C, .int .i64 P] HT.out.now.1.1.1.2 (by kernel_rfl) rfl (by simp [Value.oneCell']) ?_)
  have HX := hide (HT.out.now.1.1.1.2.row #[.int .i64 (B - NB), .int .i64 (C - 1), .int .i64 (P - NB * pw)])
  have HY := hide (HT.out.now.1.1.1.1.2.rowFar (k := w.heap.size + 2) (by omega) #[.int .i64 (B - NB), .int .i64 (C - 1), .int .i64 (P - NB * pw)])
  have HB := hide (Below.row (g := w.heap.size + 2) HT.out.now.2 (by omega) #[.int .i64 (B - NB), .int .i64 (C - 1), .int .i64 (P - NB * pw)])
  obtain ⟨W7, hW7⟩ : ∃ W7, (v1.alloc (.cells #[.int .i64 NB, .int .i64 1, .int .i64 (NB * pw)] 51)).setRow (w.heap.size + 2) #[.int .i64 (B - NB), .int .i64 (C - 1), .int .i64 (P - NB * pw)] = W7 := ⟨_, rfl⟩
  rw [hW7] at HX HY HB ⊢
  clear hW7 HT HNE t0 t1 t2
  have x0 : W7.cell? ⟨w.heap.size + 2, 0, none⟩ = some (.int .i64 (B - NB)) := HX.out.cell 0
  have x1 : W7.cell? ⟨w.heap.size + 2, 1, none⟩ = some (.int .i64 (C - 1)) := HX.out.cell 1
  have x2 : W7.cell? ⟨w.heap.size + 2, 2, none⟩ = some (.int .i64 (P - NB * pw)) := HX.out.cell 2
  go_wp2_with fail
  rw [rounds_succ]
  go_wp2_with (refine wpList_store_row rfl 51 (.tmp 4) (.tmp 45) rfl (w.heap.size + 1) #[.int .i64 (B - NB), .int .i64 (C - 1), .int .i64 (P - NB * pw)] rfl rfl 51 #[.int .i64 0, .int .i64 0, .int .i64 0] HY.out (by kernel_rfl) rfl (by simp [Value.oneCell']) ?_)
  have HX2 := hide (HY.out.row #[.int .i64 (B - NB), .int .i64 (C - 1), .int .i64 (P - NB * pw)])
  have HB2 := hide (Below.row (g := w.heap.size + 1) HB.out (by omega) #[.int .i64 (B - NB), .int .i64 (C - 1), .int .i64 (P - NB * pw)])
  obtain ⟨W5, hW5⟩ : ∃ W5, W7.setRow (w.heap.size + 1) #[.int .i64 (B - NB), .int .i64 (C - 1), .int .i64 (P - NB * pw)] = W5 := ⟨_, rfl⟩
  rw [hW5] at HX2 HB2 ⊢
  refine bodyPost_ret (v := .agg #[.int .i64 (B - NB), .int .i64 (C - 1), .int .i64 (P - NB * pw)]) ?_ rfl ⟨rfl, HB2.out⟩
  have y0 : W5.cell? ⟨w.heap.size + 1, 0, none⟩ = some (.int .i64 (B - NB)) := HX2.out.cell 0
  have y1 : W5.cell? ⟨w.heap.size + 1, 1, none⟩ = some (.int .i64 (C - 1)) := HX2.out.cell 1
  have y2 : W5.cell? ⟨w.heap.size + 1, 2, none⟩ = some (.int .i64 (P - NB * pw)) := HX2.out.cell 2
  simp [results, Try.results51, go_sem, y0, y1, y2]
end Go.Proofs.Ytppkibgemacdbaa

namespace Go.Proofs.Ytppkibgemacdbaa
open Go.RowKit Go.WideShapes Go.ChangeShapes

/-! fit of one bearer -/
/-- whether a bearer's need fits a site that is empty -/
def fitB (B P : Int) (pw ra bu de tb : Int) : Bool := decide (needB ra bu de tb ≤ B) && decide (needB ra bu de tb * pw ≤ P)
set_option maxRecDepth 100000 in
set_option maxHeartbeats 4000000 in
theorem fitOne (B C P : Int) (A : Option Addr) (c n : Nat) (T : List Int) (nm : Bs) (kd pr wt pw le bu ra de : Int) (w : World) (hn : T.length = n) (hs : Sl w A (iv T)) (hs2 : OkS B C P T) (ho : OkB T nm kd pr wt pw le bu ra de) (hk : kd ≠ 0) (g d : Nat) (hg : Blk w g 32 #[strV nm, .int .i64 kd, .int .i64 pr, .int .i64 wt, .int .i64 pw, .int .i64 le, .int .i64 bu, .int .i64 ra, .int .i64 de]) :
    Calls Try.prog 30 #[.agg #[.int .i64 B, .int .i64 C, .int .i64 P, .slice A n c], .slice (some ⟨g, 0, none⟩) 1 d] w fun e w' => e = .returned (.bool (fitB B P pw ra bu de (tbO T le))) ∧ Below w.heap.size w w' := by
  have HR := hide (fun W k k2 => roomOne B C P A c n T nm kd pr wt pw le bu ra de W hn k hs2 ho hk g d k2)
  have hc := hs2.c
  have hv : fitB B P pw ra bu de (tbO T le) = true ∧ 0 ≤ B - needB ra bu de (tbO T le) ∧ 0 ≤ P - needB ra bu de (tbO T le) * pw ∨ fitB B P pw ra bu de (tbO T le) = false ∧ B - needB ra bu de (tbO T le) < 0 ∨ fitB B P pw ra bu de (tbO T le) = false ∧ P - needB ra bu de (tbO T le) * pw < 0 := by
    unfold fitB
    generalize needB ra bu de (tbO T le) * pw = u
    generalize needB ra bu de (tbO T le) = v
    by_cases h1 : v ≤ B
    · by_cases h2 : u ≤ P
      · exact .inl ⟨by simp [h1, h2], by omega, by omega⟩
      · exact .inr (.inr ⟨by simp [h2], by omega⟩)
    · exact .inr (.inl ⟨by simp [h1], by omega⟩)
  have HT := hide (((stay_blk hg).alloc (.cells #[.int .i64 B, .int .i64 C, .int .i64 P, .slice A n c] 74)).and ((stay_sl hs).alloc (.cells #[.int .i64 B, .int .i64 C, .int .i64 P, .slice A n c] 74)) |>.and (stay_below ((Below.refl _ w).alloc (Nat.le_refl _) (.cells #[.int .i64 B, .int .i64 C, .int .i64 P, .slice A n c] 74))))
  obtain ⟨V, hV⟩ : ∃ z, fitB B P pw ra bu de (tbO T le) = z := ⟨_, rfl⟩
  obtain ⟨X, hX⟩ : ∃ z, B - needB ra bu de (tbO T le) = z := ⟨_, rfl⟩
  obtain ⟨Z, hZ⟩ : ∃ z, P - needB ra bu de (tbO T le) * pw = z := ⟨_, rfl⟩
  obtain ⟨Y, hY⟩ : ∃ z, C - 1 = z := ⟨_, rfl⟩
  have hy0 : 0 ≤ Y := by omega
  rw [hV, hX, hZ] at hv
  rw [hX, hY, hZ] at HR
  rw [hV]
  clear hs hs2 ho hk hn hg hc hV hX hY hZ
  rcases hv with ⟨rfl, h1, h2⟩ | ⟨rfl, h1⟩ | ⟨rfl, h1⟩
  all_goals
    go_enter Try.func30, Try.ntmps30
    go_wp2_with (go_at_call 51; go_must (refine (HR.out _ HT.out.now.1.2 HT.out.now.1.1).mono ?_; rintro e w2 ⟨rfl, hb⟩; replace HT := hide (HT.out.step hb); clear hb; simp only []))
    all_goals first
      | (go_ret
         refine ⟨?_, HT.out.now.2.alloc HT.out.now.2.size _⟩
         first
           | rfl
           | (simp; omega)
           | (simp; (repeat' split) <;> omega)
           | (congr 2; simp; omega))
end Go.Proofs.Ytppkibgemacdbaa

namespace Go.Proofs.Ytppkibgemacdbaa
open Go.RowKit Go.WideShapes Go.ChangeShapes

/-! openAll of one bearer -/
set_option maxRecDepth 100000 in
set_option maxHeartbeats 8000000 in
theorem bearersErrOne (B C P : Int) (A : Option Addr) (c n : Nat) (T : List Int) (nm : Bs) (kd pr wt pw le bu ra de : Int) (w : World) (hn : T.length = n) (hs : Sl w A (iv T)) (hs2 : OkS B C P T) (ho : OkB T nm kd pr wt pw le bu ra de) (hk : kd ≠ 0) (hf : fitB B P pw ra bu de (tbO T le) = true) (g d : Nat) (hg : Blk w g 32 #[strV nm, .int .i64 kd, .int .i64 pr, .int .i64 wt, .int .i64 pw, .int .i64 le, .int .i64 bu, .int .i64 ra, .int .i64 de]) :
    Calls Try.prog 60 #[.agg #[.int .i64 B, .int .i64 C, .int .i64 P, .slice A n c], .slice (some ⟨g, 0, none⟩) 1 d] w fun e w' => e = .returned (.tuple #[.int .i64 0, .int .i64 0]) ∧ Below w.heap.size w w' := by
  have HF := hide (fun W k k2 => fitOne B C P A c n T nm kd pr wt pw le bu ra de W hn k hs2 ho hk g d k2)
  rw [hf] at HF
  have HBE := hide (fun W k => bearerErr_ok B C P A c n T nm kd pr wt pw le bu ra de W hn k (by have := hs2.few; omega) ho (fun i h => (hs2.in_ i h).1) hk)
  have HT := hide ((((stay_blk (Blk.new w 74 #[.int .i64 B, .int .i64 C, .int .i64 P, .slice A n c])).and ((stay_blk hg).alloc (.cells #[.int .i64 B, .int .i64 C, .int .i64 P, .slice A n c] 74))).and ((stay_sl hs).alloc (.cells #[.int .i64 B, .int .i64 C, .int .i64 P, .slice A n c] 74))).and (stay_below ((Below.refl _ w).alloc (Nat.le_refl _) (.cells #[.int .i64 B, .int .i64 C, .int .i64 P, .slice A n c] 74))))
  clear hs hs2 ho hk hn hf hg
  go_enter Try.func60, Try.ntmps60
  go_wp2_with fail
  obtain ⟨W0, hW0⟩ : ∃ W0, w.alloc (.cells #[.int .i64 B, .int .i64 C, .int .i64 P, .slice A n c] 74) = W0 := ⟨_, rfl⟩
  rw [hW0] at HT ⊢
  clear hW0
  have z0 : W0.cell? ⟨g, 0, none⟩ = some (strV nm) := HT.out.now.1.1.2.cell 0
  have z1 : W0.cell? ⟨g, 1, none⟩ = some (.int .i64 kd) := HT.out.now.1.1.2.cell 1
  have z2 : W0.cell? ⟨g, 2, none⟩ = some (.int .i64 pr) := HT.out.now.1.1.2.cell 2
  have z3 : W0.cell? ⟨g, 3, none⟩ = some (.int .i64 wt) := HT.out.now.1.1.2.cell 3
  have z4 : W0.cell? ⟨g, 4, none⟩ = some (.int .i64 pw) := HT.out.now.1.1.2.cell 4
  have z5 : W0.cell? ⟨g, 5, none⟩ = some (.int .i64 le) := HT.out.now.1.1.2.cell 5
  have z6 : W0.cell? ⟨g, 6, none⟩ = some (.int .i64 bu) := HT.out.now.1.1.2.cell 6
  have z7 : W0.cell? ⟨g, 7, none⟩ = some (.int .i64 ra) := HT.out.now.1.1.2.cell 7
  have z8 : W0.cell? ⟨g, 8, none⟩ = some (.int .i64 de) := HT.out.now.1.1.2.cell 8
  refine wp_loop_rounds 2 ?_
  rw [rounds_succ]
  go_wp2_with (
    refine wpList_store_row rfl 32 (.tmp 7) (.tmp 18) rfl W0.heap.size #[strV nm, .int .i64 kd, .int .i64 pr, .int .i64 wt, .int .i64 pw, .int .i64 le, .int .i64 bu, .int .i64 ra, .int .i64 de] rfl rfl 32 #[.string ⟨#[]⟩, .int .i64 0, .int .i64 0, .int .i64 0, .int .i64 0, .int .i64 0, .int .i64 0, .int .i64 0, .int .i64 0] (Blk.new W0 32 #[.string ⟨#[]⟩, .int .i64 0, .int .i64 0, .int .i64 0, .int .i64 0, .int .i64 0, .int .i64 0, .int .i64 0, .int .i64 0]) (by kernel_rfl) rfl (by simp [Value.oneCell', strV]) ?_
    have HZ := hide ((Blk.new W0 32 #[.string ⟨#[]⟩, .int .i64 0, .int .i64 0, .int .i64 0, .int .i64 0, .int .i64 0, .int .i64 0, .int .i64 0, .int .i64 0]).row #[strV nm, .int .i64 kd, .int .i64 pr, .int .i64 wt, .int .i64 pw, .int .i64 le, .int .i64 bu, .int .i64 ra, .int .i64 de])
    replace HT := hide ((HT.out.step (Below.row (g := W0.heap.size) ((Below.refl W0.heap.size W0).alloc (Nat.le_refl _) (.cells #[.string ⟨#[]⟩, .int .i64 0, .int .i64 0, .int .i64 0, .int .i64 0, .int .i64 0, .int .i64 0, .int .i64 0, .int .i64 0] 32)) (Nat.le_refl _) #[strV nm, .int .i64 kd, .int .i64 pr, .int .i64 wt, .int .i64 pw, .int .i64 le, .int .i64 bu, .int .i64 ra, .int .i64 de])).and (stay_blk HZ.out))
    obtain ⟨W4, hW4⟩ : ∃ W4, (W0.alloc (.cells #[.string ⟨#[]⟩, .int .i64 0, .int .i64 0, .int .i64 0, .int .i64 0, .int .i64 0, .int .i64 0, .int .i64 0, .int .i64 0] 32)).setRow W0.heap.size #[strV nm, .int .i64 kd, .int .i64 pr, .int .i64 wt, .int .i64 pw, .int .i64 le, .int .i64 bu, .int .i64 ra, .int .i64 de] = W4 := ⟨_, rfl⟩
    rw [hW4] at HT ⊢
    clear hW4 HZ z0 z1 z2 z3 z4 z5 z6 z7 z8)
  refine wp_region_held_drew (S := fun w' => Below W4.heap.size W4 w') (by kernel_rfl) (below_drewN (Below.refl _ _) 1) (fun hHeld => ?_)
  refine take_at (i := 0) 19 (v := .agg #[.int .i64 B, .int .i64 C, .int .i64 P, .slice A n c]) rfl rfl (by kernel_rfl) (by kernel_rfl) (by kernel_rfl) (fun _ _ _ h => h) (Or.inl ⟨by rfl, by intro w_ hSw; have hb := HT.out w_ hSw; have s0 : w_.cell? ⟨w.heap.size, 0, none⟩ = some (.int .i64 B) := hb.1.1.1.1.cell 0; have s1 : w_.cell? ⟨w.heap.size, 1, none⟩ = some (.int .i64 C) := hb.1.1.1.1.cell 1; have s2 : w_.cell? ⟨w.heap.size, 2, none⟩ = some (.int .i64 P) := hb.1.1.1.1.cell 2; have s3 : w_.cell? ⟨w.heap.size, 3, none⟩ = some (.slice A n c) := hb.1.1.1.1.cell 3; have d0 : w_.cell? ⟨W0.heap.size, 0, none⟩ = some (strV nm) := hb.2.cell 0; have d1 : w_.cell? ⟨W0.heap.size, 1, none⟩ = some (.int .i64 kd) := hb.2.cell 1; have d2 : w_.cell? ⟨W0.heap.size, 2, none⟩ = some (.int .i64 pr) := hb.2.cell 2; have d3 : w_.cell? ⟨W0.heap.size, 3, none⟩ = some (.int .i64 wt) := hb.2.cell 3; have d4 : w_.cell? ⟨W0.heap.size, 4, none⟩ = some (.int .i64 pw) := hb.2.cell 4; have d5 : w_.cell? ⟨W0.heap.size, 5, none⟩ = some (.int .i64 le) := hb.2.cell 5; have d6 : w_.cell? ⟨W0.heap.size, 6, none⟩ = some (.int .i64 bu) := hb.2.cell 6; have d7 : w_.cell? ⟨W0.heap.size, 7, none⟩ = some (.int .i64 ra) := hb.2.cell 7; have d8 : w_.cell? ⟨W0.heap.size, 8, none⟩ = some (.int .i64 de) := hb.2.cell 8; go_simp⟩) (by assumption) ?_
  try simp only [Act.put, List.setIfInBounds_toArray, List.set_cons_zero, List.set_cons_succ]
  refine take_at (i := 1) 20 (v := .agg #[strV nm, .int .i64 kd, .int .i64 pr, .int .i64 wt, .int .i64 pw, .int .i64 le, .int .i64 bu, .int .i64 ra, .int .i64 de]) rfl rfl (by kernel_rfl) (by kernel_rfl) (by kernel_rfl) (fun _ _ _ h => h) (Or.inl ⟨by rfl, by intro w_ hSw; have hb := HT.out w_ hSw; have s0 : w_.cell? ⟨w.heap.size, 0, none⟩ = some (.int .i64 B) := hb.1.1.1.1.cell 0; have s1 : w_.cell? ⟨w.heap.size, 1, none⟩ = some (.int .i64 C) := hb.1.1.1.1.cell 1; have s2 : w_.cell? ⟨w.heap.size, 2, none⟩ = some (.int .i64 P) := hb.1.1.1.1.cell 2; have s3 : w_.cell? ⟨w.heap.size, 3, none⟩ = some (.slice A n c) := hb.1.1.1.1.cell 3; have d0 : w_.cell? ⟨W0.heap.size, 0, none⟩ = some (strV nm) := hb.2.cell 0; have d1 : w_.cell? ⟨W0.heap.size, 1, none⟩ = some (.int .i64 kd) := hb.2.cell 1; have d2 : w_.cell? ⟨W0.heap.size, 2, none⟩ = some (.int .i64 pr) := hb.2.cell 2; have d3 : w_.cell? ⟨W0.heap.size, 3, none⟩ = some (.int .i64 wt) := hb.2.cell 3; have d4 : w_.cell? ⟨W0.heap.size, 4, none⟩ = some (.int .i64 pw) := hb.2.cell 4; have d5 : w_.cell? ⟨W0.heap.size, 5, none⟩ = some (.int .i64 le) := hb.2.cell 5; have d6 : w_.cell? ⟨W0.heap.size, 6, none⟩ = some (.int .i64 bu) := hb.2.cell 6; have d7 : w_.cell? ⟨W0.heap.size, 7, none⟩ = some (.int .i64 ra) := hb.2.cell 7; have d8 : w_.cell? ⟨W0.heap.size, 8, none⟩ = some (.int .i64 de) := hb.2.cell 8; go_simp⟩) (by assumption) ?_
  try simp only [Act.put, List.setIfInBounds_toArray, List.set_cons_zero, List.set_cons_succ]
  refine take_at (i := 3) 22 (v := .slice (some ⟨g, 0, none⟩) 1 d) rfl rfl (by kernel_rfl) (by kernel_rfl) (by kernel_rfl) (fun _ _ _ h => h) (Or.inl ⟨by rfl, by intro w hSw; go_simp⟩) (by assumption) ?_
  try simp only [Act.put, List.setIfInBounds_toArray, List.set_cons_zero, List.set_cons_succ]
  refine take_at (i := 4) 23 (v := .int .i64 0) rfl rfl (by kernel_rfl) (by kernel_rfl) (by kernel_rfl) (fun _ _ _ h => h) (Or.inl ⟨by rfl, by intro w hSw; go_simp⟩) (by assumption) ?_
  try simp only [Act.put, List.setIfInBounds_toArray, List.set_cons_zero, List.set_cons_succ]
  refine take_at (i := 5) 24 (v := .slice (some ⟨g, 0, none⟩) 0 d) rfl rfl (by kernel_rfl) (by kernel_rfl) (by kernel_rfl) (fun _ _ _ h => h) (Or.inl ⟨by rfl, by intro w hSw; go_simp⟩) (by assumption) ?_
  try simp only [Act.put, List.setIfInBounds_toArray, List.set_cons_zero, List.set_cons_succ]
  refine take_at (i := 6) 25 (v := .pointer (some ⟨W0.heap.size, 0, none⟩)) rfl rfl (by kernel_rfl) (by kernel_rfl) (by kernel_rfl) (fun _ _ _ h => h) (Or.inl ⟨by rfl, by intro w hSw; go_simp⟩) (by assumption) ?_
  try simp only [Act.put, List.setIfInBounds_toArray, List.set_cons_zero, List.set_cons_succ]
  refine take_at (i := 7) 26 (v := strV nm) rfl rfl (by kernel_rfl) (by kernel_rfl) (by kernel_rfl) (fun _ _ _ h => h) (Or.inl ⟨by rfl, by intro w_ hSw; have hb := HT.out w_ hSw; have s0 : w_.cell? ⟨w.heap.size, 0, none⟩ = some (.int .i64 B) := hb.1.1.1.1.cell 0; have s1 : w_.cell? ⟨w.heap.size, 1, none⟩ = some (.int .i64 C) := hb.1.1.1.1.cell 1; have s2 : w_.cell? ⟨w.heap.size, 2, none⟩ = some (.int .i64 P) := hb.1.1.1.1.cell 2; have s3 : w_.cell? ⟨w.heap.size, 3, none⟩ = some (.slice A n c) := hb.1.1.1.1.cell 3; have d0 : w_.cell? ⟨W0.heap.size, 0, none⟩ = some (strV nm) := hb.2.cell 0; have d1 : w_.cell? ⟨W0.heap.size, 1, none⟩ = some (.int .i64 kd) := hb.2.cell 1; have d2 : w_.cell? ⟨W0.heap.size, 2, none⟩ = some (.int .i64 pr) := hb.2.cell 2; have d3 : w_.cell? ⟨W0.heap.size, 3, none⟩ = some (.int .i64 wt) := hb.2.cell 3; have d4 : w_.cell? ⟨W0.heap.size, 4, none⟩ = some (.int .i64 pw) := hb.2.cell 4; have d5 : w_.cell? ⟨W0.heap.size, 5, none⟩ = some (.int .i64 le) := hb.2.cell 5; have d6 : w_.cell? ⟨W0.heap.size, 6, none⟩ = some (.int .i64 bu) := hb.2.cell 6; have d7 : w_.cell? ⟨W0.heap.size, 7, none⟩ = some (.int .i64 ra) := hb.2.cell 7; have d8 : w_.cell? ⟨W0.heap.size, 8, none⟩ = some (.int .i64 de) := hb.2.cell 8; go_simp⟩) (by assumption) ?_
  try simp only [Act.put, List.setIfInBounds_toArray, List.set_cons_zero, List.set_cons_succ]
  refine wpAnyH_ready (rs := [2]) (by kernel_rfl) (by simp) ?_
  refine AllReadyH.cons rfl (fun K hK => ?_) AllReadyH.nil
  go_simp
  go_at_call 27
  refine (HBE.out _ (HT.out _ (below_drewN (Below.refl _ _) 1)).1.1.2).mono ?_
  rintro e v1 ⟨rfl, hb⟩
  have B2 := hide (Below.step (below_drewN (Below.refl W4.heap.size W4) 1) hb)
  clear hb
  try simp only []
  refine hK.out _ _ B2.out (fun hHeld => ?_)
  clear hK K
  try simp only [Act.put, List.setIfInBounds_toArray, List.set_cons_zero, List.set_cons_succ]
  refine wpAnyH_ready (rs := [8]) (by kernel_rfl) (by simp) ?_
  refine AllReadyH.cons rfl (fun K hK => ?_) AllReadyH.nil
  go_simp
  go_at_call 29
  refine (namedNone _ _ _ _).mono ?_
  rintro e v2 ⟨rfl, hb⟩
  have B3 := hide (Below.step B2.out hb)
  clear hb
  try simp only []
  refine hK.out _ _ B3.out (fun hHeld => ?_)
  clear hK K
  try simp only [Act.put, List.setIfInBounds_toArray, List.set_cons_zero, List.set_cons_succ]
  refine take_at (i := 9) 28 (v := .bool true) rfl rfl (by kernel_rfl) (by kernel_rfl) (by kernel_rfl) (fun _ _ _ h => h) (Or.inl ⟨by rfl, by intro w hSw; go_simp⟩) (by assumption) ?_
  try simp only [Act.put, List.setIfInBounds_toArray, List.set_cons_zero, List.set_cons_succ]
  refine wpAnyH_ready (rs := [10]) (by kernel_rfl) (by simp) ?_
  refine AllReadyH.cons rfl (fun K hK => ?_) AllReadyH.nil
  go_simp
  go_at_call 28
  refine (unless_any _ _ _).mono ?_
  rintro e w' ⟨rfl, rfl⟩
  rw [show unlessE true 5 = 0 from rfl]
  try simp only []
  refine hK.out _ _ B3.out (fun hHeld => ?_)
  clear hK K
  try simp only [Act.put, List.setIfInBounds_toArray, List.set_cons_zero, List.set_cons_succ]
  refine wpAnyH_ready (rs := [11]) (by kernel_rfl) (by simp) ?_
  refine AllReadyH.cons rfl (fun K hK => ?_) AllReadyH.nil
  go_simp
  refine hK.out _ _ (B3.out.alloc B3.out.size _) (fun hHeld => ?_)
  clear hK K
  try simp only [Act.put, List.setIfInBounds_toArray, List.set_cons_zero, List.set_cons_succ]
  refine wpAnyH_ready (rs := [12]) (by kernel_rfl) (by simp) ?_
  refine AllReadyH.cons rfl (fun K hK => ?_) AllReadyH.nil
  go_simp
  go_at_call 26
  refine (first2 _ _ _ _ (by first | rfl | simp)).mono ?_
  rintro e w' ⟨rfl, rfl⟩
  rw [show firstOf [0, 0] = 0 from rfl]
  try simp only []
  refine hK.out _ _ (B3.out.alloc B3.out.size _) (fun hHeld => ?_)
  clear hK K
  try simp only [Act.put, List.setIfInBounds_toArray, List.set_cons_zero, List.set_cons_succ]
  refine take_at (i := 13) 8 (v := .int .i64 0) rfl rfl (by kernel_rfl) (by kernel_rfl) (by kernel_rfl) (fun _ _ _ h => h) (Or.inl ⟨by rfl, by intro w hSw; go_simp⟩) (by assumption) ?_
  try simp only [Act.put, List.setIfInBounds_toArray, List.set_cons_zero, List.set_cons_succ]
  refine wpAnyH_done (by kernel_rfl) ?_ _
  replace HT := hide (HT.out.step (B3.out.alloc B3.out.size (.cells #[.int .i64 0, .int .i64 0] 36)))
  clear B2 B3 hHeld HBE
  obtain ⟨W5, hW5⟩ : ∃ W5, v2.alloc (.cells #[.int .i64 0, .int .i64 0] 36) = W5 := ⟨_, rfl⟩
  rw [hW5] at HT ⊢
  clear hW5
  have s0 : W5.cell? ⟨w.heap.size, 0, none⟩ = some (.int .i64 B) := HT.out.now.1.1.1.1.cell 0
  have s1 : W5.cell? ⟨w.heap.size, 1, none⟩ = some (.int .i64 C) := HT.out.now.1.1.1.1.cell 1
  have s2 : W5.cell? ⟨w.heap.size, 2, none⟩ = some (.int .i64 P) := HT.out.now.1.1.1.1.cell 2
  have s3 : W5.cell? ⟨w.heap.size, 3, none⟩ = some (.slice A n c) := HT.out.now.1.1.1.1.cell 3
  go_wp2_with fail
  rw [rounds_succ]
  go_wp2_with (first
    | (go_at_call 30; go_must (refine (HF.out _ HT.out.now.1.1.2 HT.out.now.1.1.1.2).mono ?_; rintro e w9 ⟨rfl, hb⟩; replace HT := hide (HT.out.step hb); clear hb; simp only []))
    | (go_at_call 28; go_must (refine (unless_any _ _ _).mono ?_; rintro e w' ⟨rfl, rfl⟩; rw [show unlessE true 16 = 0 from rfl]; simp only [])))
  exact bodyPost_ret (v := .tuple #[.int .i64 0, .int .i64 0]) (by simp [results, Try.results60, go_sem]) rfl ⟨rfl, HT.out.now.1.2⟩
theorem checkBearersOne (B C P : Int) (A : Option Addr) (c n : Nat) (T : List Int) (nm : Bs) (kd pr wt pw le bu ra de : Int) (w : World) (hn : T.length = n) (hs : Sl w A (iv T)) (hs2 : OkS B C P T) (ho : OkB T nm kd pr wt pw le bu ra de) (hk : kd ≠ 0) (hf : fitB B P pw ra bu de (tbO T le) = true) (g d : Nat) (hg : Blk w g 32 #[strV nm, .int .i64 kd, .int .i64 pr, .int .i64 wt, .int .i64 pw, .int .i64 le, .int .i64 bu, .int .i64 ra, .int .i64 de]) :
    Calls Try.prog 46 #[.agg #[.int .i64 B, .int .i64 C, .int .i64 P, .slice A n c], .slice (some ⟨g, 0, none⟩) 1 d] w fun e w' => e = .returned (.tuple #[.int .i64 0, .int .i64 0]) ∧ Below w.heap.size w w' := by
  have HO := hide (fun W k => open_ok B C P A c n T W hn k hs2)
  have HE := hide (fun W k k2 => bearersErrOne B C P A c n T nm kd pr wt pw le bu ra de W hn k hs2 ho hk hf g d k2)
  have HT := hide (((stay_blk hg).alloc (.cells #[.int .i64 B, .int .i64 C, .int .i64 P, .slice A n c] 24)).and ((stay_sl hs).alloc (.cells #[.int .i64 B, .int .i64 C, .int .i64 P, .slice A n c] 24)) |>.and (stay_below ((Below.refl _ w).alloc (Nat.le_refl _) (.cells #[.int .i64 B, .int .i64 C, .int .i64 P, .slice A n c] 24))))
  clear hs hs2 ho hk hn hf hg
  go_enter Try.func46, Try.ntmps46
  go_wp2_with (first
    | (go_at_call 58; go_must (refine (HO.out _ HT.out.now.1.2).mono ?_; rintro e w1 ⟨rfl, hb⟩; replace HT := hide ((HT.out.step hb).alloc (.cells #[.int .i64 B, .int .i64 C, .int .i64 P, .slice A n c] 74)); clear hb; simp only []))
    | (go_at_call 60; go_must (refine (HE.out _ HT.out.now.1.2 HT.out.now.1.1).mono ?_; rintro e w2 ⟨rfl, hb⟩; replace HT := hide (HT.out.step hb); clear hb; simp only [])))
  exact bodyPost_ret (v := .tuple #[.int .i64 0, .int .i64 0]) (by simp [results, Try.results46, go_sem]) rfl ⟨rfl, HT.out.now.2⟩
theorem openAllOne (B C P : Int) (A : Option Addr) (c n : Nat) (T : List Int) (nm : Bs) (kd pr wt pw le bu ra de : Int) (w : World) (hn : T.length = n) (hs : Sl w A (iv T)) (hs2 : OkS B C P T) (ho : OkB T nm kd pr wt pw le bu ra de) (hk : kd ≠ 0) (hf : fitB B P pw ra bu de (tbO T le) = true) (g d : Nat) (hg : Blk w g 32 #[strV nm, .int .i64 kd, .int .i64 pr, .int .i64 wt, .int .i64 pw, .int .i64 le, .int .i64 bu, .int .i64 ra, .int .i64 de]) :
    Calls Try.prog 25 #[.agg #[.int .i64 B, .int .i64 C, .int .i64 P, .slice A n c], .slice (some ⟨g, 0, none⟩) 1 d] w fun e w' => e = .returned (.tuple #[.agg #[.int .i64 B, .int .i64 C, .int .i64 P, .slice A n c], .int .i64 0]) ∧ Below w.heap.size w w' := by
  have HE := hide (fun W k k2 => checkBearersOne B C P A c n T nm kd pr wt pw le bu ra de W hn k hs2 ho hk hf g d k2)
  have HT := hide ((((stay_blk (Blk.new w 24 #[.int .i64 B, .int .i64 C, .int .i64 P, .slice A n c])).alloc (.cells #[.int .i64 0, .int .i64 0, .int .i64 0, .slice none 0 0] 74)).and (stay_blk (blk_up w 24 74 #[.int .i64 B, .int .i64 C, .int .i64 P, .slice A n c] #[.int .i64 0, .int .i64 0, .int .i64 0, .slice none 0 0]))).and (((stay_sl (hs.alloc (.cells #[.int .i64 B, .int .i64 C, .int .i64 P, .slice A n c] 24))).alloc (.cells #[.int .i64 0, .int .i64 0, .int .i64 0, .slice none 0 0] 74)).and (((stay_blk hg).alloc (.cells #[.int .i64 B, .int .i64 C, .int .i64 P, .slice A n c] 24)).alloc (.cells #[.int .i64 0, .int .i64 0, .int .i64 0, .slice none 0 0] 74))) |>.and (stay_below (((Below.refl _ w).alloc (Nat.le_refl _) (.cells #[.int .i64 B, .int .i64 C, .int .i64 P, .slice A n c] 24)).alloc (by simp) (.cells #[.int .i64 0, .int .i64 0, .int .i64 0, .slice none 0 0] 74))))
  clear hs hs2 ho hk hn hf hg
  go_enter Try.func25, Try.ntmps25
  go_wp2_with (first
    | (go_at_call 46; go_must (refine (HE.out _ HT.out.now.1.2.1 HT.out.now.1.2.2).mono ?_; rintro e w1 ⟨rfl, hb⟩; replace HT := hide (HT.out.step hb); clear hb; have z0 : w1.cell? ⟨w.heap.size, 0, none⟩ = some (.int .i64 B) := HT.out.now.1.1.1.cell 0; have z1 : w1.cell? ⟨w.heap.size, 1, none⟩ = some (.int .i64 C) := HT.out.now.1.1.1.cell 1; have z2 : w1.cell? ⟨w.heap.size, 2, none⟩ = some (.int .i64 P) := HT.out.now.1.1.1.cell 2; have z3 : w1.cell? ⟨w.heap.size, 3, none⟩ = some (.slice A n c) := HT.out.now.1.1.1.cell 3; simp only []))
    | (refine wpList_store_row rfl 74 (.tmp 4) (.tmp 15) rfl (w.heap.size + 1) #[.int .i64 B, .int .i64 C, .int .i64 P, .slice A n c] rfl rfl 74 #[.int .i64 0, .int .i64 0, .int .i64 0, .slice none 0 0] HT.out.now.1.1.2 (by kernel_rfl) rfl (by simp [Value.oneCell']) ?_))
  exact bodyPost_ret (results_row_tmp rfl _ _ (w.heap.size + 1) 74 #[.int .i64 B, .int .i64 C, .int .i64 P, .slice A n c] _ (.int .i64 0) rfl rfl (HT.out.now.1.1.2.row _) Try.underlying74 rfl (by kernel_rfl)) rfl ⟨rfl, Below.row HT.out.now.2 (by omega) _⟩
end Go.Proofs.Ytppkibgemacdbaa

namespace Go.Proofs.Ytppkibgemacdbaa
open Go.RowKit Go.WideShapes Go.ChangeShapes

/-! Copy of a site -/
theorem own_base {w : World} {base e size n c b off : Nat} {A : Option Addr} {xs : List Value} (h : w.ownsRow base e size (.slice A n c) n xs) (hA : A = some ⟨b, off, none⟩) : base ≤ b := by
  subst hA
  exact (h.lt _ rfl).1
theorem sl_row {w : World} {A : Option Addr} {xs : List Value} (h : Sl w A xs) {g : Nat} (hg : ∀ b off, A = some ⟨b, off, none⟩ → b ≠ g) (cs : Array Value) : Sl (w.setRow g cs) A xs := fun k hk => by
  obtain ⟨b, off, e, h1⟩ := h k hk
  refine ⟨b, off, e, ?_⟩
  rw [← h1]
  unfold World.cell?
  rw [setRow_other w g b cs (hg b off e)]
set_option maxRecDepth 100000 in
theorem copyS (B C P : Int) (A : Option Addr) (c n : Nat) (T : List Int) (w : World) (hn : T.length = n) (hs : Sl w A (iv T)) (hl : n ≤ 1000000) :
    Calls Try.prog 11 #[.agg #[.int .i64 B, .int .i64 C, .int .i64 P, .slice A n c]] w fun e w' => ∃ A1 c1, e = .returned (.agg #[.int .i64 B, .int .i64 C, .int .i64 P, .slice A1 n c1]) ∧ Sl w' A1 (iv T) ∧ Below w.heap.size w w' := by
  have HCI := hide (fun W k => (by have h := copyInts A c T W k (by omega); unfold RetI OwnI at h; rw [hn] at h; exact h : Calls Try.prog 34 #[.slice A n c] W fun e w' => ∃ A' c', e = .returned (.slice A' n c') ∧ w'.ownsRow W.heap.size 3 1 (.slice A' n c') n (iv T) ∧ Below W.heap.size W w'))
  have HT := hide ((((stay_blk (Blk.new w 24 #[.int .i64 B, .int .i64 C, .int .i64 P, .slice A n c])).alloc (.cells #[.int .i64 0, .int .i64 0, .int .i64 0, .slice none 0 0] 24)).and (stay_blk (blk_up w 24 24 #[.int .i64 B, .int .i64 C, .int .i64 P, .slice A n c] #[.int .i64 0, .int .i64 0, .int .i64 0, .slice none 0 0]))).and ((stay_sl (hs.alloc (.cells #[.int .i64 B, .int .i64 C, .int .i64 P, .slice A n c] 24))).alloc (.cells #[.int .i64 0, .int .i64 0, .int .i64 0, .slice none 0 0] 24)) |>.and (stay_below (((Below.refl _ w).alloc (Nat.le_refl _) (.cells #[.int .i64 B, .int .i64 C, .int .i64 P, .slice A n c] 24)).alloc (by simp) (.cells #[.int .i64 0, .int .i64 0, .int .i64 0, .slice none 0 0] 24))))
  clear hs hn
  go_enter Try.func11, Try.ntmps11
  go_wp2_with fail
  go_at_call 34
  refine (HCI.out _ HT.out.now.1.2).mono ?_
  rintro e w1 ⟨A1, c1, rfl, ho, hb⟩
  replace HT := hide (HT.out.step hb)
  have HB1 := hide (show ∀ b off, A1 = some ⟨b, off, none⟩ → w.heap.size + 2 ≤ b from fun b off e => by have h := own_base ho e; simp at h; omega)
  have HS1 := hide (Sl.of_ownN ho)
  clear hb ho
  have z0 : w1.cell? ⟨w.heap.size, 0, none⟩ = some (.int .i64 B) := HT.out.now.1.1.1.cell 0
  have z1 : w1.cell? ⟨w.heap.size, 1, none⟩ = some (.int .i64 C) := HT.out.now.1.1.1.cell 1
  have z2 : w1.cell? ⟨w.heap.size, 2, none⟩ = some (.int .i64 P) := HT.out.now.1.1.1.cell 2
  have z3 : w1.cell? ⟨w.heap.size, 3, none⟩ = some (.slice A n c) := HT.out.now.1.1.1.cell 3
  have f3 := HT.out.now.1.1.1.frozen 3
  have yl := HT.out.now.1.1.1.lt
  have HX := hide (HT.out.now.1.1.1.set_ 3 (.slice A1 n c1))
  have HY := hide (HT.out.now.1.1.2.far (p := ⟨w.heap.size, 3, none⟩) (by show w.heap.size + 1 ≠ w.heap.size; omega) (.slice A1 n c1))
  have HB := hide (HT.out.now.2.setCell (p := ⟨w.heap.size, 3, none⟩) (Nat.le_refl _) (.slice A1 n c1))
  have HS2 := hide (HS1.out.setCell (g := w.heap.size) (i := 3) (fun b off e => by have := HB1.out b off e; omega) (.slice A1 n c1))
  have x0 : (w1.setCell ⟨w.heap.size, 3, none⟩ (.slice A1 n c1)).cell? ⟨w.heap.size, 0, none⟩ = some (.int .i64 B) := HX.out.cell 0
  have x1 : (w1.setCell ⟨w.heap.size, 3, none⟩ (.slice A1 n c1)).cell? ⟨w.heap.size, 1, none⟩ = some (.int .i64 C) := HX.out.cell 1
  have x2 : (w1.setCell ⟨w.heap.size, 3, none⟩ (.slice A1 n c1)).cell? ⟨w.heap.size, 2, none⟩ = some (.int .i64 P) := HX.out.cell 2
  have x3 : (w1.setCell ⟨w.heap.size, 3, none⟩ (.slice A1 n c1)).cell? ⟨w.heap.size, 3, none⟩ = some (.slice A1 n c1) := HX.out.cell 3
  simp only []
  go_wp2_with (refine wpList_store_row rfl 24 (.tmp 2) (.tmp 7) rfl (w.heap.size + 1) #[.int .i64 B, .int .i64 C, .int .i64 P, .slice A1 n c1] rfl rfl 24 #[.int .i64 0, .int .i64 0, .int .i64 0, .slice none 0 0] HY.out (by kernel_rfl) rfl (by simp [Value.oneCell']) ?_)
  have HZ := hide (HY.out.row #[.int .i64 B, .int .i64 C, .int .i64 P, .slice A1 n c1])
  have HB2 := hide (Below.row (g := w.heap.size + 1) HB.out (by omega) #[.int .i64 B, .int .i64 C, .int .i64 P, .slice A1 n c1])
  have HS3 := hide (sl_row (g := w.heap.size + 1) HS2.out (fun b off e => by have := HB1.out b off e; omega) #[.int .i64 B, .int .i64 C, .int .i64 P, .slice A1 n c1])
  obtain ⟨W5, hW5⟩ : ∃ W5, (w1.setCell ⟨w.heap.size, 3, none⟩ (.slice A1 n c1)).setRow (w.heap.size + 1) #[.int .i64 B, .int .i64 C, .int .i64 P, .slice A1 n c1] = W5 := ⟨_, rfl⟩
  rw [hW5] at HZ HB2 HS3 ⊢
  refine bodyPost_ret (v := .agg #[.int .i64 B, .int .i64 C, .int .i64 P, .slice A1 n c1]) ?_ rfl ⟨A1, c1, rfl, HS3.out, HB2.out⟩
  have y0 : W5.cell? ⟨w.heap.size + 1, 0, none⟩ = some (.int .i64 B) := HZ.out.cell 0
  have y1 : W5.cell? ⟨w.heap.size + 1, 1, none⟩ = some (.int .i64 C) := HZ.out.cell 1
  have y2 : W5.cell? ⟨w.heap.size + 1, 2, none⟩ = some (.int .i64 P) := HZ.out.cell 2
  have y3 : W5.cell? ⟨w.heap.size + 1, 3, none⟩ = some (.slice A1 n c1) := HZ.out.cell 3
  simp [results, Try.results11, go_sem, y0, y1, y2, y3]
end Go.Proofs.Ytppkibgemacdbaa

namespace Go.Proofs.Ytppkibgemacdbaa
open Go.RowKit Go.WideShapes Go.ChangeShapes

/-! Few of one bearer -/
set_option maxRecDepth 100000 in
set_option maxHeartbeats 4000000 in
theorem fewOne (B C P : Int) (A : Option Addr) (c n : Nat) (nm : Bs) (kd pr wt pw le bu ra de : Int) (w : World) (g d : Nat) (hg : Blk w g 32 #[strV nm, .int .i64 kd, .int .i64 pr, .int .i64 wt, .int .i64 pw, .int .i64 le, .int .i64 bu, .int .i64 ra, .int .i64 de]) :
    Calls Try.prog 6 #[.agg #[.int .i64 B, .int .i64 C, .int .i64 P, .slice A n c], .slice (some ⟨g, 0, none⟩) 1 d] w fun e w' => e = .returned (.bool (decide (n ≤ 18) && decide (nm.length ≤ 20))) ∧ Below w.heap.size w w' := by
  have hlen := fun t W => len_str nm t W
  have HB := hide ((Below.refl _ w).alloc (Nat.le_refl _) (.cells #[.int .i64 B, .int .i64 C, .int .i64 P, .slice A n c] 24))
  have z0 : (w.alloc (.cells #[.int .i64 B, .int .i64 C, .int .i64 P, .slice A n c] 24)).cell? ⟨g, 0, none⟩ = some (strV nm) := (hg.alloc _).cell 0
  clear hg
  by_cases h1 : n ≤ 18
  · have g1 : ¬ (18 : Int) < (n : Int) := by omega
    by_cases h2 : nm.length ≤ 20
    · have g2 : ¬ (20 : Int) < (nm.length : Int) := by omega
      have HV := hide (show (decide (n ≤ 18) && decide (nm.length ≤ 20)) = true by simp [h1, h2])
      clear h1 h2
      go_enter Try.func6, Try.ntmps6
      go_wp2_with fail
      refine wp_loop_rounds 2 ?_
      rw [rounds_succ]
      go_wp2_with fail
      rw [rounds_succ]
      go_wp2
      go_ret
      exact ⟨by rw [HV.out]; rfl, HB.out⟩
    · have g2 : (20 : Int) < (nm.length : Int) := by omega
      have HV := hide (show (decide (n ≤ 18) && decide (nm.length ≤ 20)) = false by simp [h2])
      clear h1 h2
      go_enter Try.func6, Try.ntmps6
      go_wp2_with fail
      refine wp_loop_rounds 2 ?_
      rw [rounds_succ]
      go_wp2
      go_ret
      exact ⟨by rw [HV.out]; rfl, HB.out⟩
  · have g1 : (18 : Int) < (n : Int) := by omega
    have HV := hide (show (decide (n ≤ 18) && decide (nm.length ≤ 20)) = false by simp [h1])
    clear h1
    go_enter Try.func6, Try.ntmps6
    go_wp2
    go_ret
    exact ⟨by rw [HV.out]; rfl, HB.out⟩
end Go.Proofs.Ytppkibgemacdbaa

namespace Go.Proofs.Ytppkibgemacdbaa
open Go.RowKit Go.WideShapes Go.ChangeShapes

/-! a user of a run -/
set_option maxRecDepth 100000 in
set_option maxHeartbeats 4000000 in
theorem taken_run (u : Nat) (nm : Bs) (kd pr wt pw le bu ra de ne wa se rt bl : Int) (w : World) (hu : Blk w u 97 #[strV nm, .int .i64 kd, .int .i64 pr, .int .i64 wt, .int .i64 pw, .int .i64 le, .int .i64 bu, .int .i64 ra, .int .i64 de, .int .i64 ne, .int .i64 wa, .int .i64 se, .int .i64 rt, .int .i64 bl]) (h0 : 0 ≤ bl ∧ bl ≤ 1000000) (h1 : 0 ≤ rt ∧ rt ≤ 1000) :
    Calls Try.prog 57 #[.pointer (some ⟨u, 0, none⟩)] w fun e w' => e = .returned (.int .i64 (min wa (bl * rt))) ∧ Below w.heap.size w w' := by
  have hm : 0 ≤ bl * rt ∧ bl * rt ≤ 1000000 * 1000 := ⟨Int.mul_nonneg h0.1 h1.1, Int.mul_le_mul h0.2 h1.2 h1.1 (by omega)⟩
  have ww : IntKind.i64.wrap (bl * rt) = bl * rt := IntWalk.i64_in _ (by omega)
  obtain ⟨Z, hZ⟩ : ∃ z, bl * rt = z := ⟨_, rfl⟩
  rw [hZ] at hm ⊢
  replace ww := ww.trans hZ
  have HL := hide (fun W (h : Below w.heap.size w W) => hu.below h hu.lt)
  clear hZ h0 h1 hu
  rcases (by omega : wa ≤ Z ∨ Z < wa) with hq | hq
  · have hmx : min wa Z = wa := by omega
    rw [hmx]
    have hm2 : ¬ Z < wa := by omega
    go_enter Try.func57, Try.ntmps57
    go_wp2_with fail
    refine wp_region_held_drew (S := fun w' => Below w.heap.size w w') (by kernel_rfl) (below_drewN (Below.refl _ _) 1) (fun hHeld => ?_)
    refine take_at (i := 0) 3 (v := .pointer (some ⟨u, 0, none⟩)) rfl rfl (by kernel_rfl) (by kernel_rfl) (by kernel_rfl) (fun _ _ _ h => h) (Or.inl ⟨by rfl, by intro w hSw; go_simp⟩) (by assumption) ?_
    try simp only [Act.put, List.setIfInBounds_toArray, List.set_cons_zero, List.set_cons_succ]
    refine take_at (i := 1) 4 (v := .pointer (some ⟨u, 0, none⟩)) rfl rfl (by kernel_rfl) (by kernel_rfl) (by kernel_rfl) (fun _ _ _ h => h) (Or.inl ⟨by rfl, by intro w hSw; go_simp⟩) (by assumption) ?_
    try simp only [Act.put, List.setIfInBounds_toArray, List.set_cons_zero, List.set_cons_succ]
    refine take_at (i := 2) 5 (v := .pointer (some ⟨u, 10, none⟩)) rfl rfl (by kernel_rfl) (by kernel_rfl) (by kernel_rfl) (fun _ _ _ h => h) (Or.inl ⟨by rfl, by intro w hSw; go_simp⟩) (by assumption) ?_
    try simp only [Act.put, List.setIfInBounds_toArray, List.set_cons_zero, List.set_cons_succ]
    refine take_at (i := 3) 6 (v := .int .i64 wa) rfl rfl (by kernel_rfl) (by kernel_rfl) (by kernel_rfl) (fun _ _ _ h => h) (Or.inl ⟨by rfl, by intro w_ hSw; have hb := HL.out w_ hSw; have c10 : w_.cell? ⟨u, 10, none⟩ = some (.int .i64 wa) := hb.cell 10; have c12 : w_.cell? ⟨u, 12, none⟩ = some (.int .i64 rt) := hb.cell 12; have c13 : w_.cell? ⟨u, 13, none⟩ = some (.int .i64 bl) := hb.cell 13; go_simp⟩) (by assumption) ?_
    try simp only [Act.put, List.setIfInBounds_toArray, List.set_cons_zero, List.set_cons_succ]
    refine take_at (i := 4) 7 (v := .pointer (some ⟨u, 0, none⟩)) rfl rfl (by kernel_rfl) (by kernel_rfl) (by kernel_rfl) (fun _ _ _ h => h) (Or.inl ⟨by rfl, by intro w hSw; go_simp⟩) (by assumption) ?_
    try simp only [Act.put, List.setIfInBounds_toArray, List.set_cons_zero, List.set_cons_succ]
    refine take_at (i := 5) 8 (v := .pointer (some ⟨u, 0, none⟩)) rfl rfl (by kernel_rfl) (by kernel_rfl) (by kernel_rfl) (fun _ _ _ h => h) (Or.inl ⟨by rfl, by intro w hSw; go_simp⟩) (by assumption) ?_
    try simp only [Act.put, List.setIfInBounds_toArray, List.set_cons_zero, List.set_cons_succ]
    refine take_at (i := 6) 9 (v := .pointer (some ⟨u, 13, none⟩)) rfl rfl (by kernel_rfl) (by kernel_rfl) (by kernel_rfl) (fun _ _ _ h => h) (Or.inl ⟨by rfl, by intro w hSw; go_simp⟩) (by assumption) ?_
    try simp only [Act.put, List.setIfInBounds_toArray, List.set_cons_zero, List.set_cons_succ]
    refine take_at (i := 7) 10 (v := .int .i64 bl) rfl rfl (by kernel_rfl) (by kernel_rfl) (by kernel_rfl) (fun _ _ _ h => h) (Or.inl ⟨by rfl, by intro w_ hSw; have hb := HL.out w_ hSw; have c10 : w_.cell? ⟨u, 10, none⟩ = some (.int .i64 wa) := hb.cell 10; have c12 : w_.cell? ⟨u, 12, none⟩ = some (.int .i64 rt) := hb.cell 12; have c13 : w_.cell? ⟨u, 13, none⟩ = some (.int .i64 bl) := hb.cell 13; go_simp⟩) (by assumption) ?_
    try simp only [Act.put, List.setIfInBounds_toArray, List.set_cons_zero, List.set_cons_succ]
    refine take_at (i := 8) 11 (v := .pointer (some ⟨u, 0, none⟩)) rfl rfl (by kernel_rfl) (by kernel_rfl) (by kernel_rfl) (fun _ _ _ h => h) (Or.inl ⟨by rfl, by intro w hSw; go_simp⟩) (by assumption) ?_
    try simp only [Act.put, List.setIfInBounds_toArray, List.set_cons_zero, List.set_cons_succ]
    refine take_at (i := 9) 12 (v := .pointer (some ⟨u, 0, none⟩)) rfl rfl (by kernel_rfl) (by kernel_rfl) (by kernel_rfl) (fun _ _ _ h => h) (Or.inl ⟨by rfl, by intro w hSw; go_simp⟩) (by assumption) ?_
    try simp only [Act.put, List.setIfInBounds_toArray, List.set_cons_zero, List.set_cons_succ]
    refine take_at (i := 10) 13 (v := .pointer (some ⟨u, 12, none⟩)) rfl rfl (by kernel_rfl) (by kernel_rfl) (by kernel_rfl) (fun _ _ _ h => h) (Or.inl ⟨by rfl, by intro w hSw; go_simp⟩) (by assumption) ?_
    try simp only [Act.put, List.setIfInBounds_toArray, List.set_cons_zero, List.set_cons_succ]
    refine take_at (i := 11) 14 (v := .int .i64 rt) rfl rfl (by kernel_rfl) (by kernel_rfl) (by kernel_rfl) (fun _ _ _ h => h) (Or.inl ⟨by rfl, by intro w_ hSw; have hb := HL.out w_ hSw; have c10 : w_.cell? ⟨u, 10, none⟩ = some (.int .i64 wa) := hb.cell 10; have c12 : w_.cell? ⟨u, 12, none⟩ = some (.int .i64 rt) := hb.cell 12; have c13 : w_.cell? ⟨u, 13, none⟩ = some (.int .i64 bl) := hb.cell 13; go_simp⟩) (by assumption) ?_
    try simp only [Act.put, List.setIfInBounds_toArray, List.set_cons_zero, List.set_cons_succ]
    refine take_at (i := 12) 15 (v := .int .i64 Z) rfl rfl (by kernel_rfl) (by kernel_rfl) (by kernel_rfl) (fun _ _ _ h => h) (Or.inl ⟨by rfl, by intro w hSw; go_simp⟩) (by assumption) ?_
    try simp only [Act.put, List.setIfInBounds_toArray, List.set_cons_zero, List.set_cons_succ]
    refine take_at (i := 13) 16 (v := .int .i64 wa) rfl rfl (by kernel_rfl) (by kernel_rfl) (by kernel_rfl) (fun _ _ _ h => h) (Or.inl ⟨by rfl, by intro w hSw; go_simp; all_goals omega⟩) (by assumption) ?_
    try simp only [Act.put, List.setIfInBounds_toArray, List.set_cons_zero, List.set_cons_succ]
    refine take_at (i := 14) 2 (v := .int .i64 wa) rfl rfl (by kernel_rfl) (by kernel_rfl) (by kernel_rfl) (fun _ _ _ h => h) (Or.inl ⟨by rfl, by intro w hSw; go_simp⟩) (by assumption) ?_
    try simp only [Act.put, List.setIfInBounds_toArray, List.set_cons_zero, List.set_cons_succ]
    refine wpAnyH_done (by kernel_rfl) ?_ _
    clear hHeld
    go_wp2
    go_ret
    exact ⟨rfl, below_drewN (Below.refl _ _) _⟩
  · have hmx : min wa Z = Z := by omega
    rw [hmx]
    have hm2 : ¬ wa ≤ Z := by omega
    have hm3 : ¬ wa < Z := by omega
    go_enter Try.func57, Try.ntmps57
    go_wp2_with fail
    refine wp_region_held_drew (S := fun w' => Below w.heap.size w w') (by kernel_rfl) (below_drewN (Below.refl _ _) 1) (fun hHeld => ?_)
    refine take_at (i := 0) 3 (v := .pointer (some ⟨u, 0, none⟩)) rfl rfl (by kernel_rfl) (by kernel_rfl) (by kernel_rfl) (fun _ _ _ h => h) (Or.inl ⟨by rfl, by intro w hSw; go_simp⟩) (by assumption) ?_
    try simp only [Act.put, List.setIfInBounds_toArray, List.set_cons_zero, List.set_cons_succ]
    refine take_at (i := 1) 4 (v := .pointer (some ⟨u, 0, none⟩)) rfl rfl (by kernel_rfl) (by kernel_rfl) (by kernel_rfl) (fun _ _ _ h => h) (Or.inl ⟨by rfl, by intro w hSw; go_simp⟩) (by assumption) ?_
    try simp only [Act.put, List.setIfInBounds_toArray, List.set_cons_zero, List.set_cons_succ]
    refine take_at (i := 2) 5 (v := .pointer (some ⟨u, 10, none⟩)) rfl rfl (by kernel_rfl) (by kernel_rfl) (by kernel_rfl) (fun _ _ _ h => h) (Or.inl ⟨by rfl, by intro w hSw; go_simp⟩) (by assumption) ?_
    try simp only [Act.put, List.setIfInBounds_toArray, List.set_cons_zero, List.set_cons_succ]
    refine take_at (i := 3) 6 (v := .int .i64 wa) rfl rfl (by kernel_rfl) (by kernel_rfl) (by kernel_rfl) (fun _ _ _ h => h) (Or.inl ⟨by rfl, by intro w_ hSw; have hb := HL.out w_ hSw; have c10 : w_.cell? ⟨u, 10, none⟩ = some (.int .i64 wa) := hb.cell 10; have c12 : w_.cell? ⟨u, 12, none⟩ = some (.int .i64 rt) := hb.cell 12; have c13 : w_.cell? ⟨u, 13, none⟩ = some (.int .i64 bl) := hb.cell 13; go_simp⟩) (by assumption) ?_
    try simp only [Act.put, List.setIfInBounds_toArray, List.set_cons_zero, List.set_cons_succ]
    refine take_at (i := 4) 7 (v := .pointer (some ⟨u, 0, none⟩)) rfl rfl (by kernel_rfl) (by kernel_rfl) (by kernel_rfl) (fun _ _ _ h => h) (Or.inl ⟨by rfl, by intro w hSw; go_simp⟩) (by assumption) ?_
    try simp only [Act.put, List.setIfInBounds_toArray, List.set_cons_zero, List.set_cons_succ]
    refine take_at (i := 5) 8 (v := .pointer (some ⟨u, 0, none⟩)) rfl rfl (by kernel_rfl) (by kernel_rfl) (by kernel_rfl) (fun _ _ _ h => h) (Or.inl ⟨by rfl, by intro w hSw; go_simp⟩) (by assumption) ?_
    try simp only [Act.put, List.setIfInBounds_toArray, List.set_cons_zero, List.set_cons_succ]
    refine take_at (i := 6) 9 (v := .pointer (some ⟨u, 13, none⟩)) rfl rfl (by kernel_rfl) (by kernel_rfl) (by kernel_rfl) (fun _ _ _ h => h) (Or.inl ⟨by rfl, by intro w hSw; go_simp⟩) (by assumption) ?_
    try simp only [Act.put, List.setIfInBounds_toArray, List.set_cons_zero, List.set_cons_succ]
    refine take_at (i := 7) 10 (v := .int .i64 bl) rfl rfl (by kernel_rfl) (by kernel_rfl) (by kernel_rfl) (fun _ _ _ h => h) (Or.inl ⟨by rfl, by intro w_ hSw; have hb := HL.out w_ hSw; have c10 : w_.cell? ⟨u, 10, none⟩ = some (.int .i64 wa) := hb.cell 10; have c12 : w_.cell? ⟨u, 12, none⟩ = some (.int .i64 rt) := hb.cell 12; have c13 : w_.cell? ⟨u, 13, none⟩ = some (.int .i64 bl) := hb.cell 13; go_simp⟩) (by assumption) ?_
    try simp only [Act.put, List.setIfInBounds_toArray, List.set_cons_zero, List.set_cons_succ]
    refine take_at (i := 8) 11 (v := .pointer (some ⟨u, 0, none⟩)) rfl rfl (by kernel_rfl) (by kernel_rfl) (by kernel_rfl) (fun _ _ _ h => h) (Or.inl ⟨by rfl, by intro w hSw; go_simp⟩) (by assumption) ?_
    try simp only [Act.put, List.setIfInBounds_toArray, List.set_cons_zero, List.set_cons_succ]
    refine take_at (i := 9) 12 (v := .pointer (some ⟨u, 0, none⟩)) rfl rfl (by kernel_rfl) (by kernel_rfl) (by kernel_rfl) (fun _ _ _ h => h) (Or.inl ⟨by rfl, by intro w hSw; go_simp⟩) (by assumption) ?_
    try simp only [Act.put, List.setIfInBounds_toArray, List.set_cons_zero, List.set_cons_succ]
    refine take_at (i := 10) 13 (v := .pointer (some ⟨u, 12, none⟩)) rfl rfl (by kernel_rfl) (by kernel_rfl) (by kernel_rfl) (fun _ _ _ h => h) (Or.inl ⟨by rfl, by intro w hSw; go_simp⟩) (by assumption) ?_
    try simp only [Act.put, List.setIfInBounds_toArray, List.set_cons_zero, List.set_cons_succ]
    refine take_at (i := 11) 14 (v := .int .i64 rt) rfl rfl (by kernel_rfl) (by kernel_rfl) (by kernel_rfl) (fun _ _ _ h => h) (Or.inl ⟨by rfl, by intro w_ hSw; have hb := HL.out w_ hSw; have c10 : w_.cell? ⟨u, 10, none⟩ = some (.int .i64 wa) := hb.cell 10; have c12 : w_.cell? ⟨u, 12, none⟩ = some (.int .i64 rt) := hb.cell 12; have c13 : w_.cell? ⟨u, 13, none⟩ = some (.int .i64 bl) := hb.cell 13; go_simp⟩) (by assumption) ?_
    try simp only [Act.put, List.setIfInBounds_toArray, List.set_cons_zero, List.set_cons_succ]
    refine take_at (i := 12) 15 (v := .int .i64 Z) rfl rfl (by kernel_rfl) (by kernel_rfl) (by kernel_rfl) (fun _ _ _ h => h) (Or.inl ⟨by rfl, by intro w hSw; go_simp⟩) (by assumption) ?_
    try simp only [Act.put, List.setIfInBounds_toArray, List.set_cons_zero, List.set_cons_succ]
    refine take_at (i := 13) 16 (v := .int .i64 Z) rfl rfl (by kernel_rfl) (by kernel_rfl) (by kernel_rfl) (fun _ _ _ h => h) (Or.inl ⟨by rfl, by intro w hSw; go_simp; all_goals omega⟩) (by assumption) ?_
    try simp only [Act.put, List.setIfInBounds_toArray, List.set_cons_zero, List.set_cons_succ]
    refine take_at (i := 14) 2 (v := .int .i64 Z) rfl rfl (by kernel_rfl) (by kernel_rfl) (by kernel_rfl) (fun _ _ _ h => h) (Or.inl ⟨by rfl, by intro w hSw; go_simp⟩) (by assumption) ?_
    try simp only [Act.put, List.setIfInBounds_toArray, List.set_cons_zero, List.set_cons_succ]
    refine wpAnyH_done (by kernel_rfl) ?_ _
    clear hHeld
    go_wp2
    go_ret
    exact ⟨rfl, below_drewN (Below.refl _ _) _⟩
end Go.Proofs.Ytppkibgemacdbaa

namespace Go.Proofs.Ytppkibgemacdbaa
open Go.RowKit Go.WideShapes Go.ChangeShapes

/-! slots of one bearer -/
def SlotsAt (W : World) (D : Option Addr) (m : Nat) (le : Int) (ar : Nat → Int) : Prop := ∀ k, k < m → ∃ b o rb ro r qb qo q, D = some ⟨b, o, none⟩ ∧ W.cell? ⟨b, o + k * 2, none⟩ = some (.slice (some ⟨rb, ro, none⟩) 1 r) ∧ W.cell? ⟨b, o + k * 2 + 1, none⟩ = some (.slice (some ⟨qb, qo, none⟩) 1 q) ∧ W.cell? ⟨rb, ro, none⟩ = some (.int .i64 le) ∧ W.cell? ⟨qb, qo, none⟩ = some (.int .i64 (ar k))
theorem SlotsAt.bel {W W' : World} {D : Option Addr} {m : Nat} {le : Int} {ar : Nat → Int} (h : SlotsAt W D m le ar) (hb : Below W.heap.size W W') : SlotsAt W' D m le ar := fun k hk => by
  obtain ⟨b, o, rb, ro, r, qb, qo, q, h1, h2, h3, h4, h5⟩ := h k hk
  exact ⟨b, o, rb, ro, r, qb, qo, q, h1, (hb.cell (lt_of_cell h2)).trans h2, (hb.cell (lt_of_cell h3)).trans h3, (hb.cell (lt_of_cell h4)).trans h4, (hb.cell (lt_of_cell h5)).trans h5⟩
set_option maxRecDepth 100000 in
set_option maxHeartbeats 4000000 in
theorem slotsErr_ok (B C P : Int) (A : Option Addr) (c n : Nat) (D : Option Addr) (d m : Nat) (le : Int) (ar : Nat → Int) (w : World) (hs : SlotsAt w D m le ar) (hm : m ≤ 60) (hn : n ≤ 1000) (hle : 0 ≤ le ∧ le < (n : Int)) (har : ∀ k, k < m → 0 ≤ ar k ∧ ar k ≤ 1000000) :
    Calls Try.prog 55 #[.agg #[.int .i64 B, .int .i64 C, .int .i64 P, .slice A n c], .int .i64 1, .slice D m d] w fun e w' => e = .returned (.int .i64 0) ∧ Below w.heap.size w w' := by
  have HIR := hide (fun W => isReport_sched B C P A c n le W (by omega) (by omega))
  have H5 := hide (show withinB le 0 ((n : Int) - 1) = true by simp [withinB]; omega)
  have HAR := hide (fun k (hk : k < m) => show withinB (ar k) 0 1000000 = true by have := har k hk; simp [withinB]; omega)
  have HT := hide ((stay_blk (Blk.new w 74 #[.int .i64 B, .int .i64 C, .int .i64 P, .slice A n c])).and (show Stay (w.alloc (.cells #[.int .i64 B, .int .i64 C, .int .i64 P, .slice A n c] 74)) (fun W => SlotsAt W D m le ar) from fun W hW => (hs.bel ((Below.refl _ w).alloc (Nat.le_refl _) _)).bel hW) |>.and (stay_below ((Below.refl _ w).alloc (Nat.le_refl _) (.cells #[.int .i64 B, .int .i64 C, .int .i64 P, .slice A n c] 74))))
  have hm60 : ¬ (60 : Int) < (m : Int) := by omega
  clear hs hle har
  go_enter Try.func55, Try.ntmps55
  go_wp2_with fail
  obtain ⟨W0, hW0⟩ : ∃ W0, w.alloc (.cells #[.int .i64 B, .int .i64 C, .int .i64 P, .slice A n c] 74) = W0 := ⟨_, rfl⟩
  rw [hW0] at HT ⊢
  clear hW0
  go_loopw [16] (fun i wr => ∃ k : Nat, k ≤ m ∧ i = .int .i64 k ∧ Below W0.heap.size W0 wr) (fun i _ => m - (intOf i).toNat)
  case atStart => exact ⟨0, Nat.zero_le _, rfl, Below.refl _ _⟩
  case round =>
    obtain ⟨k, hk, rfl, hbel⟩ := hrel
    have HX := hide ((HT.out.step hbel).and (stay_below hbel))
    clear hbel
    by_cases hlt : k < m
    · obtain ⟨b, o, rb, ro, r, qb, qo, q, rfl, h2, h3, h4, h5⟩ := HX.out.now.1.1.2 k hlt
      have hki : (k : Int) < (m : Int) := by omega
      have H6 := hide (HAR.out k hlt)
      obtain ⟨y, hy⟩ : ∃ y, ar k = y := ⟨_, rfl⟩
      rw [hy] at h5 H6
      replace HX := hide (HX.out.and ((stay_at h4).and (stay_at h5)))
      clear hy h4 h5
      go_wp2_with fail
      refine wp_loop_rounds 2 ?_
      rw [rounds_succ]
      replace HX := hide ((HX.out.alloc (.cells #[.slice (some ⟨rb, ro, none⟩) 1 r, .slice (some ⟨qb, qo, none⟩) 1 q] 44)).and (stay_blk (Blk.new wr 44 #[.slice (some ⟨rb, ro, none⟩) 1 r, .slice (some ⟨qb, qo, none⟩) 1 q])))
      obtain ⟨W6, hW6⟩ : ∃ W6, wr.alloc (.cells #[.slice (some ⟨rb, ro, none⟩) 1 r, .slice (some ⟨qb, qo, none⟩) 1 q] 44) = W6 := ⟨_, rfl⟩
      rw [hW6] at HX ⊢
      clear hW6 h2 h3
      have d1 : W6.cell? ⟨rb, ro, none⟩ = some (.int .i64 le) := HX.out.now.1.2.1
      have s0 : W6.cell? ⟨w.heap.size, 0, none⟩ = some (.int .i64 B) := HX.out.now.1.1.1.1.1.cell 0
      have s1 : W6.cell? ⟨w.heap.size, 1, none⟩ = some (.int .i64 C) := HX.out.now.1.1.1.1.1.cell 1
      have s2 : W6.cell? ⟨w.heap.size, 2, none⟩ = some (.int .i64 P) := HX.out.now.1.1.1.1.1.cell 2
      have s3 : W6.cell? ⟨w.heap.size, 3, none⟩ = some (.slice A n c) := HX.out.now.1.1.1.1.1.cell 3
      go_wp2_with (first
        | (go_at_call 48; go_must (refine (HIR.out _).mono ?_; rintro e w7 ⟨rfl, hb⟩; rw [H5.out]; replace HX := hide (HX.out.step hb); clear hb d1 s0 s1 s2 s3; have d2 : w7.cell? ⟨qb, qo, none⟩ = some (.int .i64 y) := HX.out.now.1.2.2; have t1 : w7.cell? ⟨wr.heap.size, 1, none⟩ = some (.slice (some ⟨qb, qo, none⟩) 1 q) := HX.out.now.2.cell 1; simp only []))
        | (go_at_call 41; go_must (refine (within_sy _ _ _ _).mono ?_; rintro e w' ⟨rfl, rfl⟩; rw [H6.out]; simp only [])))
      rw [rounds_succ]
      go_wp2
      go_roundw
      case rel => exact ⟨k + 1, by omega, by go_num, HX.out.now.1.1.2⟩
      case measure => simp [intOf]; omega
    · go_wp2
      go_ret
      exact ⟨rfl, HX.out.now.1.2⟩
end Go.Proofs.Ytppkibgemacdbaa

