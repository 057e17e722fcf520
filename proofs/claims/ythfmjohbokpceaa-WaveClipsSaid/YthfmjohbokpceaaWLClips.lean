import Derived.Test.YthfmjohbokpceaaWvCC
import Derived.Test.YthfmjohbokpceaaWvQ
namespace Go.Proofs.Ythfmjohbokpceaa
open Go.RowKit Go.WideShapes Go.ChangeShapes

/-! the statement WaveClips -/
theorem Sl.none_gv (w : World) : Sl w none (gv []) := fun k h => absurd h (by simp [gv])
theorem clL_len (x : List (Int × Int)) (m : Int) (n : Nat) : (clL x m n).length = n := tab_len _ _
theorem kg_clL (x : List (Int × Int)) (m : Int) {n k : Nat} (h : k < n) : kg (clL x m n) k = (clp m (kg x k).1, clp m (kg x k).2) := by
  unfold kg clL
  rw [tab_at _ h]; rfl
theorem clL_twice (x : List (Int × Int)) {m : Int} (hm : 0 ≤ m) (n : Nat) : clL (clL x m n) m n = clL x m n := by
  unfold clL
  refine tab_congr fun k hk => ?_
  have := kg_clL x m hk
  unfold clL at this
  rw [this]
  have h1 := clp_bd hm (kg x k).1
  have h2 := clp_bd hm (kg x k).2
  dsimp only
  rw [clp_in h1.1 h1.2, clp_in h2.1 h2.2]
theorem entE_zero {z : Int × Int} (h : -10000 ≤ z.1 ∧ z.1 ≤ 10000 ∧ -10000 ≤ z.2 ∧ z.2 ≤ 10000) : entE z = 0 := by
  unfold entE unlessE
  rw [(entB_iff _ _).2 h]; rfl
theorem clL_ent {x : List (Int × Int)} {m : Int} (hm : 0 ≤ m) (hm' : m ≤ 10000) (n : Nat) : ∀ z ∈ clL x m n, entE z = 0 := by
  intro z hz
  obtain ⟨k, _, rfl⟩ := mem_tab hz
  have h1 := clp_bd hm (kg x k).1
  have h2 := clp_bd hm (kg x k).2
  exact entE_zero (by dsimp only; omega)
theorem clp_sq {m m' z : Int} (h : 0 ≤ m) (h' : m ≤ m') : (z - clp m' z) * (z - clp m' z) ≤ (z - clp m z) * (z - clp m z) := by
  have hs : ∀ a b : Int, 0 ≤ a → a ≤ b → a * a ≤ b * b := fun a b h1 h2 => Int.mul_le_mul h2 h2 h1 (by omega)
  unfold clp
  (repeat' split) <;> first
    | exact hs _ _ (by omega) (by omega)
    | (rw [← Int.neg_mul_neg (z - _) (z - _), ← Int.neg_mul_neg (z - m) (z - m)]; exact hs _ _ (by omega) (by omega))
    | (rw [← Int.neg_mul_neg (z - _) (z - _), ← Int.neg_mul_neg (z - -m) (z - -m)]; exact hs _ _ (by omega) (by omega))
    | (exfalso; omega)
theorem esum_mono {x : List (Int × Int)} {m m' : Int} (h : 0 ≤ m) (h' : m ≤ m') (n : Nat) : ∀ k, k ≤ n → esum x (clL x m' n) k ≤ esum x (clL x m n) k
  | 0, _ => Int.le_refl _
  | k + 1, hk => by
    have ih := esum_mono (x := x) h h' n k (by omega)
    unfold esum
    rw [kg_clL x m' (by omega : k < n), kg_clL x m (by omega : k < n)]
    dsimp only
    have h1 := clp_sq (z := (kg x k).1) h h'
    have h2 := clp_sq (z := (kg x k).2) h h'
    omega
theorem entries_cases (x : List (Int × Int)) : eachE entE x = 0 ∨ ((eachE entE x != 0) = true ∧ (eachE entE x == 0) = false ∧ eachE entE x ≠ 0) := by
  by_cases h : eachE entE x = 0
  · exact .inl h
  · exact .inr ⟨by rw [bne_iff_ne]; exact h, by rw [beq_eq_false_iff_ne]; exact h, h⟩
theorem lim_cases (m : Int) : (withinB m 0 10000 = true ∧ 0 ≤ m ∧ m ≤ 10000 ∧ unlessE (withinB m 0 10000) 2 = 0) ∨ (withinB m 0 10000 = false ∧ unlessE (withinB m 0 10000) 2 = 2) := by
  unfold unlessE withinB
  by_cases h1 : 0 ≤ m
  · by_cases h2 : m ≤ 10000
    · rw [decide_eq_true h1, decide_eq_true h2]; exact .inl ⟨rfl, h1, h2, rfl⟩
    · rw [decide_eq_true h1, decide_eq_false h2]; exact .inr ⟨rfl, rfl⟩
  · rw [decide_eq_false h1]; exact .inr ⟨rfl, rfl⟩
set_option maxRecDepth 100000 in
set_option maxHeartbeats 20000000 in
theorem WaveClips_long (A B : Option Addr) (c d : Nat) (x y : List (Int × Int)) (n0 n1 : Int) (w : World) (h : (20 < x.length ∧ x.length ≤ 120) ∨ 122 < x.length ∨ 122 < y.length) :
    Calls Try.prog 9 #[.slice A x.length c, .slice B y.length d, .agg #[.int .i64 n0, .int .i64 n1]] w fun e w' => e = .returned (.bool true) ∧ Below w.heap.size w w' := by
  have fin : ∀ w1 : World, Below (w.alloc (.cells #[.int .i64 n0, .int .i64 n1] 84)).heap.size (w.alloc (.cells #[.int .i64 n0, .int .i64 n1] 84)) w1 → Below w.heap.size w w1 := fun w1 hb => Below.step (by go_grown) hb
  have HF := hide fin
  clear fin
  by_cases h1 : 20 < x.length
  · by_cases h2 : x.length ≤ 120
    · clear h
      go_enter Try.func9, Try.ntmps9
      go_wp2_with (go_at_call 20; go_must (refine (awake_ok _).mono ?_; rintro e w1 ⟨rfl, hb1⟩; simp only []))
      go_ret
      exact ⟨rfl, HF.out _ hb1⟩
    · by_cases h3 : 122 < x.length
      · clear h
        go_enter Try.func9, Try.ntmps9
        go_wp2_with (go_at_call 20; go_must (refine (awake_ok _).mono ?_; rintro e w1 ⟨rfl, hb1⟩; simp only []))
        go_ret
        exact ⟨rfl, HF.out _ hb1⟩
      · have h4 : 122 < y.length := by omega
        clear h
        go_enter Try.func9, Try.ntmps9
        go_wp2_with (go_at_call 20; go_must (refine (awake_ok _).mono ?_; rintro e w1 ⟨rfl, hb1⟩; simp only []))
        go_ret
        exact ⟨rfl, HF.out _ hb1⟩
  · have h4 : 122 < y.length := by omega
    have h5 : x.length ≤ 20 := by omega
    clear h
    go_enter Try.func9, Try.ntmps9
    go_wp2_with (go_at_call 20; go_must (refine (awake_ok _).mono ?_; rintro e w1 ⟨rfl, hb1⟩; simp only []))
    go_ret
    exact ⟨rfl, HF.out _ hb1⟩
set_option maxRecDepth 100000 in
set_option maxHeartbeats 20000000 in
theorem WaveClips_many (A B : Option Addr) (c d : Nat) (x y : List (Int × Int)) (n0 n1 : Int) (w : World) (hs0 : Sl w A (gv x)) (hs1 : Sl w B (gv y)) (h1 : 120 < x.length) (h2 : x.length ≤ 122) (h3 : y.length ≤ 122) :
    Calls Try.prog 9 #[.slice A x.length c, .slice B y.length d, .agg #[.int .i64 n0, .int .i64 n1]] w fun e w' => e = .returned (.bool true) ∧ Below w.heap.size w w' := by
  have HT0 := hide (((stay_sl hs0).and (stay_sl hs1)).and (stay_below (Below.refl w.heap.size w)))
  have hce : clE x n0 = 8 := by unfold clE firstOf manE; rw [if_pos h1]; rfl
  have hee : erE x y = 8 := if_pos h1
  have HCL := hide (show ∀ D cd W, Sl W D (gv x) → Calls Try.prog 56 #[.slice D x.length cd, .int .i64 n0] W fun e w' => ∃ C k, e = .returned (.tuple #[.slice C 0 k, .int .i64 8]) ∧ Sl w' C (gv []) ∧ Below W.heap.size W w' from fun D cd W h => by
    have := Clipped_err D cd x n0 W h (by omega) (by rw [hce]; decide)
    rw [hce] at this
    exact this.mono fun e w' ⟨h3, h4⟩ => ⟨none, 0, h3, Sl.none_gv _, h4⟩)
  have HER := hide (show ∀ D E cd ce W, Sl W D (gv x) → Sl W E (gv y) → Calls Try.prog 58 #[.slice D x.length cd, .slice E y.length ce] W fun e w' => e = .returned (.tuple #[.int .i64 0, .int .i64 8]) ∧ Below W.heap.size W w' from fun D E cd ce W h h' => by
    have := ErrorOf_err D E cd ce x y W h h' (by omega) (by omega) (by rw [hee]; decide)
    rw [hee] at this
    exact this)
  have hl : x.length ≤ 1000000 := by omega
  have hl' : y.length ≤ 1000000 := by omega
  clear hs0 hs1 hce hee
  go_enter Try.func9, Try.ntmps9
  go_wp2_with (go_at_call 20; go_must (refine (awake_ok _).mono ?_; rintro e w1 ⟨rfl, hb⟩; have HT := hide (((HT0.out.alloc (.cells #[.int .i64 n0, .int .i64 n1] 84)).and (stay_new w 84 #[.int .i64 n0, .int .i64 n1])).step hb); have c0 := HT.out.now.2.cell 0; have c1 := HT.out.now.2.cell 1; clear hb; simp only []))
  replace HT := hide HT.out.drew
  try replace HL := hide HL.out.drew
  go_region_held3 (fun w' => w'.cell? ⟨w.heap.size, 0, none⟩ = some (.int .i64 n0) ∧ w'.cell? ⟨w.heap.size, 1, none⟩ = some (.int .i64 n1)) (first | (simp [go_sem]; done) | (simp [go_sem, *]; done) | go_keep)
    (first
      | (go_at_call 57; go_must (refine (copyGauss _ _ x _ HT.out.now.1.1.1 hl).mono ?_; rintro e w1a ⟨D1, d1, rfl, ho, hb⟩; replace HT := hide (HT.out.step hb); (try replace HL := hide (HL.out.step hb)); have HD := hide (Sl.of_ownN ho); have c0 := HT.out.now.2.cell 0; have c1 := HT.out.now.2.cell 1; clear hb ho))
      | (go_at_call 56; go_must (refine (HCL.out _ _ _ HD.out).mono ?_; rintro e w1b ⟨C1, k1, rfl, hs, hb⟩; replace HT := hide (HT.out.step hb); (try replace HL := hide (HL.out.step hb)); have HL := hide (stay_sl hs); have c0 := HT.out.now.2.cell 0; have c1 := HT.out.now.2.cell 1; clear hb hs)))
  go_wp2_with (first
        | (go_at_call 57; (with_reducible refine (copyGauss _ _ x _ HT.out.now.1.1.1 hl).mono ?_); rintro e w2 ⟨D, kd, rfl, ho, hb⟩; replace HT := hide (HT.out.step hb); (try replace HL := hide (HL.out.step hb)); (try replace HL3 := hide (HL3.out.step hb)); have HDX := hide (Sl.of_ownN ho); have c0 := HT.out.now.2.cell 0; have c1 := HT.out.now.2.cell 1; clear hb ho; simp only [])
        | (go_at_call 57; (with_reducible refine (copyGauss _ _ y _ HT.out.now.1.1.2 hl').mono ?_); rintro e w3 ⟨D', kd', rfl, ho, hb⟩; replace HT := hide (HT.out.step hb); (try replace HL := hide (HL.out.step hb)); replace HDX := hide (HDX.out.bel hb); have HDY := hide (Sl.of_ownN ho); have c0 := HT.out.now.2.cell 0; have c1 := HT.out.now.2.cell 1; clear hb ho; simp only [])
        | (go_at_call 58; (with_reducible refine (HER.out _ _ _ _ _ HDX.out HDY.out).mono ?_); rintro e w4 ⟨rfl, hb⟩; replace HT := hide (HT.out.step hb); (try replace HL := hide (HL.out.step hb)); have c0 := HT.out.now.2.cell 0; have c1 := HT.out.now.2.cell 1; clear hb HDY; simp only [])
        | (go_at_call 59; (with_reducible refine (HEX.out _ HT.out.now.1.1.1).mono ?_); rintro e w5 ⟨rfl, hb⟩; replace HT := hide (HT.out.step hb); (try replace HL := hide (HL.out.step hb)); have c0 := HT.out.now.2.cell 0; have c1 := HT.out.now.2.cell 1; clear hb; simp only [])
        | (go_at_call 59; (with_reducible refine (HEY.out _ HT.out.now.1.1.2).mono ?_); rintro e w6 ⟨rfl, hb⟩; replace HT := hide (HT.out.step hb); (try replace HL := hide (HL.out.step hb)); have c0 := HT.out.now.2.cell 0; have c1 := HT.out.now.2.cell 1; clear hb; simp only [])
        | (go_at_call 60; go_must (refine (HERR.out _ HT.out.now.1.1.1 HT.out.now.1.1.2).mono ?_; rintro e w7 ⟨rfl, hb⟩; replace HT := hide (HT.out.step hb); (try replace HL := hide (HL.out.step hb)); have c0 := HT.out.now.2.cell 0; have c1 := HT.out.now.2.cell 1; clear hb; simp only []))
        | (go_at_call 24; refine (within_base _ _ _ _).mono ?_; rintro e w' ⟨rfl, rfl⟩; first | rw [hb0] | rw [hb1]))
  go_ret
  exact ⟨rfl, HT.out.now.1.2⟩
set_option maxRecDepth 100000 in
set_option maxHeartbeats 20000000 in
theorem WaveClips_bad (A B : Option Addr) (c d : Nat) (x y : List (Int × Int)) (n0 n1 : Int) (w : World) (hs0 : Sl w A (gv x)) (hs1 : Sl w B (gv y)) (h1 : x.length ≤ 20) (h3 : y.length ≤ 122) (hX : eachE entE x ≠ 0) :
    Calls Try.prog 9 #[.slice A x.length c, .slice B y.length d, .agg #[.int .i64 n0, .int .i64 n1]] w fun e w' => e = .returned (.bool true) ∧ Below w.heap.size w w' := by
  have HT0 := hide (((stay_sl hs0).and (stay_sl hs1)).and (stay_below (Below.refl w.heap.size w)))
  obtain ⟨X, hX1, hX2, hXe⟩ : ∃ X, (X != 0) = true ∧ (X == 0) = false ∧ eachE entE x = X := ⟨_, by rw [bne_iff_ne]; exact hX, by rw [beq_eq_false_iff_ne]; exact hX, rfl⟩
  have hmx : manE x = X := by unfold manE; rw [if_neg (by omega), hXe]
  have hce : clE x n0 = X := by unfold clE firstOf; rw [hmx, if_neg (by rw [← hXe]; exact hX)]
  have HCL := hide (show ∀ D cd W, Sl W D (gv x) → Calls Try.prog 56 #[.slice D x.length cd, .int .i64 n0] W fun e w' => ∃ C k, e = .returned (.tuple #[.slice C 0 k, .int .i64 X]) ∧ Sl w' C (gv []) ∧ Below W.heap.size W w' from fun D cd W h => by
    have := Clipped_err D cd x n0 W h (by omega) (by rw [hce, ← hXe]; exact hX)
    rw [hce] at this
    exact this.mono fun e w' ⟨h3, h4⟩ => ⟨none, 0, h3, Sl.none_gv _, h4⟩)
  have HEX := hide (fun W (h : Sl W A (gv x)) => by have := errGauss A c x W h (by omega); rw [hXe] at this; exact this)
  obtain ⟨F, HER, hF⟩ : ∃ F : Int, Hid (∀ D E cd ce W, Sl W D (gv x) → Sl W E (gv y) → Calls Try.prog 58 #[.slice D x.length cd, .slice E y.length ce] W fun e w' => e = .returned (.tuple #[.int .i64 0, .int .i64 F]) ∧ Below W.heap.size W w') ∧ ((((y.length : Int) != (x.length : Int)) = true ∧ F = 10) ∨ (((y.length : Int) != (x.length : Int)) = false ∧ F = X)) := by
    by_cases hlen : y.length = x.length
    · have he : erE x y = X := by unfold erE; rw [if_neg (by omega), if_neg (by omega), eachE_append, if_neg hX, hXe]
      refine ⟨X, hide (fun D E cd ce W h h' => ?_), .inr ⟨by rw [hlen]; simp, rfl⟩⟩
      have := ErrorOf_err D E cd ce x y W h h' (by omega) (by omega) (by rw [he, ← hXe]; exact hX)
      rw [he] at this
      exact this
    · have he : erE x y = 10 := by unfold erE; rw [if_neg (by omega), if_pos hlen]
      refine ⟨10, hide (fun D E cd ce W h h' => ?_), .inl ⟨by rw [bne_iff_ne]; omega, rfl⟩⟩
      have := ErrorOf_err D E cd ce x y W h h' (by omega) (by omega) (by rw [he]; decide)
      rw [he] at this
      exact this
  have hl : x.length ≤ 1000000 := by omega
  have hl' : y.length ≤ 1000000 := by omega
  clear hs0 hs1 hce hmx hXe hX
  rcases hF with ⟨q1, rfl⟩ | ⟨q1, rfl⟩
  all_goals
      go_enter Try.func9, Try.ntmps9
      go_wp2_with (go_at_call 20; go_must (refine (awake_ok _).mono ?_; rintro e w1 ⟨rfl, hb⟩; have HT := hide (((HT0.out.alloc (.cells #[.int .i64 n0, .int .i64 n1] 84)).and (stay_new w 84 #[.int .i64 n0, .int .i64 n1])).step hb); have c0 := HT.out.now.2.cell 0; have c1 := HT.out.now.2.cell 1; clear hb; simp only []))
      replace HT := hide HT.out.drew
      try replace HL := hide HL.out.drew
      go_region_held3 (fun w' => w'.cell? ⟨w.heap.size, 0, none⟩ = some (.int .i64 n0) ∧ w'.cell? ⟨w.heap.size, 1, none⟩ = some (.int .i64 n1)) (first | (simp [go_sem]; done) | (simp [go_sem, *]; done) | go_keep)
        (first
          | (go_at_call 57; go_must (refine (copyGauss _ _ x _ HT.out.now.1.1.1 hl).mono ?_; rintro e w1a ⟨D1, d1, rfl, ho, hb⟩; replace HT := hide (HT.out.step hb); (try replace HL := hide (HL.out.step hb)); have HD := hide (Sl.of_ownN ho); have c0 := HT.out.now.2.cell 0; have c1 := HT.out.now.2.cell 1; clear hb ho))
          | (go_at_call 56; go_must (refine (HCL.out _ _ _ HD.out).mono ?_; rintro e w1b ⟨C1, k1, rfl, hs, hb⟩; replace HT := hide (HT.out.step hb); (try replace HL := hide (HL.out.step hb)); have HL := hide (stay_sl hs); have c0 := HT.out.now.2.cell 0; have c1 := HT.out.now.2.cell 1; clear hb hs)))
      go_wp2_with (first
        | (go_at_call 57; (with_reducible refine (copyGauss _ _ x _ HT.out.now.1.1.1 hl).mono ?_); rintro e w2 ⟨D, kd, rfl, ho, hb⟩; replace HT := hide (HT.out.step hb); (try replace HL := hide (HL.out.step hb)); (try replace HL3 := hide (HL3.out.step hb)); have HDX := hide (Sl.of_ownN ho); have c0 := HT.out.now.2.cell 0; have c1 := HT.out.now.2.cell 1; clear hb ho; simp only [])
        | (go_at_call 57; (with_reducible refine (copyGauss _ _ y _ HT.out.now.1.1.2 hl').mono ?_); rintro e w3 ⟨D', kd', rfl, ho, hb⟩; replace HT := hide (HT.out.step hb); (try replace HL := hide (HL.out.step hb)); replace HDX := hide (HDX.out.bel hb); have HDY := hide (Sl.of_ownN ho); have c0 := HT.out.now.2.cell 0; have c1 := HT.out.now.2.cell 1; clear hb ho; simp only [])
        | (go_at_call 58; (with_reducible refine (HER.out _ _ _ _ _ HDX.out HDY.out).mono ?_); rintro e w4 ⟨rfl, hb⟩; replace HT := hide (HT.out.step hb); (try replace HL := hide (HL.out.step hb)); have c0 := HT.out.now.2.cell 0; have c1 := HT.out.now.2.cell 1; clear hb HDY; simp only [])
        | (go_at_call 59; (with_reducible refine (HEX.out _ HT.out.now.1.1.1).mono ?_); rintro e w5 ⟨rfl, hb⟩; replace HT := hide (HT.out.step hb); (try replace HL := hide (HL.out.step hb)); have c0 := HT.out.now.2.cell 0; have c1 := HT.out.now.2.cell 1; clear hb; simp only [])
        | (go_at_call 59; (with_reducible refine (HEY.out _ HT.out.now.1.1.2).mono ?_); rintro e w6 ⟨rfl, hb⟩; replace HT := hide (HT.out.step hb); (try replace HL := hide (HL.out.step hb)); have c0 := HT.out.now.2.cell 0; have c1 := HT.out.now.2.cell 1; clear hb; simp only [])
        | (go_at_call 60; go_must (refine (HERR.out _ HT.out.now.1.1.1 HT.out.now.1.1.2).mono ?_; rintro e w7 ⟨rfl, hb⟩; replace HT := hide (HT.out.step hb); (try replace HL := hide (HL.out.step hb)); have c0 := HT.out.now.2.cell 0; have c1 := HT.out.now.2.cell 1; clear hb; simp only []))
        | (go_at_call 24; refine (within_base _ _ _ _).mono ?_; rintro e w' ⟨rfl, rfl⟩; first | rw [hb0] | rw [hb1]))
      go_ret
      exact ⟨rfl, HT.out.now.1.2⟩
set_option maxRecDepth 100000 in
set_option maxHeartbeats 20000000 in
theorem WaveClips_ok (A B : Option Addr) (c d : Nat) (x y : List (Int × Int)) (n0 n1 : Int) (w : World) (hs0 : Sl w A (gv x)) (hs1 : Sl w B (gv y)) (h1 : x.length ≤ 20) (h3 : y.length ≤ 122) (hX : eachE entE x = 0) :
    Calls Try.prog 9 #[.slice A x.length c, .slice B y.length d, .agg #[.int .i64 n0, .int .i64 n1]] w fun e w' => e = .returned (.bool true) ∧ Below w.heap.size w w' := by
  have HT0 := hide (((stay_sl hs0).and (stay_sl hs1)).and (stay_below (Below.refl w.heap.size w)))
  have hman : manE x = 0 := by unfold manE; rw [if_neg (by omega)]; exact hX
  have hxe := eachE_ok hX
  have HEX := hide (fun W (h : Sl W A (gv x)) => by have := errGauss A c x W h (by omega); rw [hX] at this; exact this)
  obtain ⟨Y, hYe⟩ : ∃ Y, eachE entE y = Y := ⟨_, rfl⟩
  have HEY := hide (fun W (h : Sl W B (gv y)) => by have := errGauss B d y W h (by omega); rw [hYe] at this; exact this)
  obtain ⟨M, F, HER, hF⟩ : ∃ M F : Int, Hid (∀ D E cd ce W, Sl W D (gv x) → Sl W E (gv y) → Calls Try.prog 58 #[.slice D x.length cd, .slice E y.length ce] W fun e w' => e = .returned (.tuple #[.int .i64 M, .int .i64 F]) ∧ Below W.heap.size W w') ∧ ((((y.length : Int) != (x.length : Int)) = true ∧ F = 10 ∧ M = 0) ∨ (((y.length : Int) != (x.length : Int)) = false ∧ F = Y ∧ M = 0 ∧ (Y != 0) = true ∧ (Y == 0) = false) ∨
      (((y.length : Int) != (x.length : Int)) = false ∧ F = 0 ∧ Y = 0 ∧ Hid (∀ W, Sl W A (gv x) → Sl W B (gv y) → Calls Try.prog 60 #[.slice A x.length c, .slice B y.length d] W fun e w' => e = .returned (.int .i64 M) ∧ Below W.heap.size W w'))) := by
    by_cases hlen : y.length = x.length
    · have he : erE x y = Y := by unfold erE; rw [if_neg (by omega), if_neg (by omega), eachE_append, if_pos hX, hYe]
      by_cases hY : Y = 0
      · have he0 := he.trans hY
        refine ⟨esum x y x.length, 0, hide (fun D E cd ce W h h' => ?_), .inr (.inr ⟨by rw [hlen]; simp, rfl, hY, hide (fun W h h' => ?_)⟩)⟩
        · have := ErrorOf_ok D E cd ce x.length x y W rfl h h' he0
          rw [hlen]; exact this
        · have := ErrorOf_ref A B c d x.length x y W rfl h h' he0
          rw [hlen]; exact this
      · refine ⟨0, Y, hide (fun D E cd ce W h h' => ?_), .inr (.inl ⟨by rw [hlen]; simp, rfl, rfl, by rw [bne_iff_ne]; exact hY, by rw [beq_eq_false_iff_ne]; exact hY⟩)⟩
        have := ErrorOf_err D E cd ce x y W h h' (by omega) (by omega) (by rw [he]; exact hY)
        rw [he] at this
        exact this
    · have he : erE x y = 10 := by unfold erE; rw [if_neg (by omega), if_pos hlen]
      refine ⟨0, 10, hide (fun D E cd ce W h h' => ?_), .inl ⟨by rw [bne_iff_ne]; omega, rfl, rfl⟩⟩
      have := ErrorOf_err D E cd ce x y W h h' (by omega) (by omega) (by rw [he]; decide)
      rw [he] at this
      exact this
  have hl : x.length ≤ 1000000 := by omega
  have hl' : y.length ≤ 1000000 := by omega
  rcases lim_cases n0 with ⟨hb0, m1, m2, hu⟩ | ⟨hb0, hu⟩
  · have hce : clE x n0 = 0 := by unfold clE firstOf; rw [if_pos hman, firstOf, if_pos hu]; rfl
    obtain ⟨L, HCL, HCR, HSM, HC2, hlL, hx3⟩ : ∃ L : List (Int × Int), Hid (∀ D cd W, Sl W D (gv x) → Calls Try.prog 56 #[.slice D x.length cd, .int .i64 n0] W fun e w' => ∃ C k, e = .returned (.tuple #[.slice C x.length k, .int .i64 0]) ∧ Sl w' C (gv L) ∧ Below W.heap.size W w') ∧
        Hid (∀ W, Sl W A (gv x) → Calls Try.prog 62 #[.slice A x.length c, .int .i64 n0] W fun e w' => ∃ C k, e = .returned (.slice C x.length k) ∧ Sl w' C (gv L) ∧ Below W.heap.size W w') ∧
        Hid (∀ D E cd ce W, Sl W D (gv L) → Sl W E (gv L) → Calls Try.prog 61 #[.slice D x.length cd, .slice E x.length ce] W fun e w' => e = .returned (.bool true) ∧ ∃ q, w' = W.drewN q) ∧
        Hid (∀ D cd W, Sl W D (gv L) → Calls Try.prog 56 #[.slice D L.length cd, .int .i64 n0] W fun e w' => ∃ C k, e = .returned (.tuple #[.slice C x.length k, .int .i64 0]) ∧ Sl w' C (gv L) ∧ Below W.heap.size W w') ∧ L.length ≤ 1000000 ∧
        Hid (L.length = x.length ∧ (withinB n1 n0 10000 = false ∨ (withinB n1 n0 10000 = true ∧ ∃ (L3 : List (Int × Int)) (p q : Int), decide (q ≤ p) = true ∧
          Hid (∀ D cd W, Sl W D (gv x) → Calls Try.prog 56 #[.slice D x.length cd, .int .i64 n1] W fun e w' => ∃ C k, e = .returned (.tuple #[.slice C x.length k, .int .i64 0]) ∧ Sl w' C (gv L3) ∧ Below W.heap.size W w') ∧
          Hid (∀ D E cd ce W, Sl W D (gv x) → Sl W E (gv L) → Calls Try.prog 58 #[.slice D x.length cd, .slice E x.length ce] W fun e w' => e = .returned (.tuple #[.int .i64 p, .int .i64 0]) ∧ Below W.heap.size W w') ∧
          Hid (∀ D E cd ce W, Sl W D (gv x) → Sl W E (gv L3) → Calls Try.prog 58 #[.slice D x.length cd, .slice E x.length ce] W fun e w' => e = .returned (.tuple #[.int .i64 q, .int .i64 0]) ∧ Below W.heap.size W w')))) := by
      have hLl := clL_len x n0 x.length
      have hLe := clL_ent (x := x) m1 m2 x.length
      have hmanL : manE (clL x n0 x.length) = 0 := by unfold manE; rw [if_neg (by omega)]; exact eachE_zero hLe
      have hceL : clE (clL x n0 x.length) n0 = 0 := by unfold clE firstOf; rw [if_pos hmanL, firstOf, if_pos hu]; rfl
      refine ⟨clL x n0 x.length, hide (fun D cd W h => (Clipped_ok D cd x.length x n0 W rfl h hce).mono fun e w' ⟨⟨C, k, h3, h4⟩, h5⟩ => ⟨C, k, h3, h4, h5⟩), hide (fun W h => Clipped_ref A c x.length x n0 W rfl h hce), hide (fun D E cd ce W h h' => ?_), hide (fun D cd W h => ?_), by omega, hide ⟨hLl, ?_⟩⟩
      · have := sameGauss D E cd ce _ _ W h h' (by omega) (by omega)
        rw [hLl, decide_eq_true rfl] at this
        exact this
      · have := Clipped_ok D cd x.length (clL x n0 x.length) n0 W hLl h hceL
        rw [clL_twice x m1] at this
        rw [hLl]
        exact this.mono fun e w' ⟨⟨C, k, h3, h4⟩, h5⟩ => ⟨C, k, h3, h4, h5⟩
      · cases hb1 : withinB n1 n0 10000
        · exact .inl rfl
        · have hn : n0 ≤ n1 ∧ n1 ≤ 10000 := by unfold withinB at hb1; simpa using hb1
          have hu1 : unlessE (withinB n1 0 10000) 2 = 0 := by
            unfold unlessE withinB; rw [decide_eq_true (by omega : (0 : Int) ≤ n1), decide_eq_true hn.2]; rfl
          have hce1 : clE x n1 = 0 := by unfold clE firstOf; rw [if_pos hman, firstOf, if_pos hu1]; rfl
          have he : ∀ m, 0 ≤ m → m ≤ 10000 → erE x (clL x m x.length) = 0 := fun m h1' h2' => by
            unfold erE
            rw [if_neg (by omega), if_neg (by rw [clL_len]; omega), eachE_append, if_pos hX]
            exact eachE_zero (clL_ent h1' h2' _)
          refine .inr ⟨rfl, clL x n1 x.length, esum x (clL x n0 x.length) x.length, esum x (clL x n1 x.length) x.length, decide_eq_true (esum_mono m1 hn.1 x.length x.length (Nat.le_refl _)), hide (fun D cd W h => (Clipped_ok D cd x.length x n1 W rfl h hce1).mono fun e w' ⟨⟨C, k, h3, h4⟩, h5⟩ => ⟨C, k, h3, h4, h5⟩), hide (fun D E cd ce W h h' => ErrorOf_ok D E cd ce x.length x _ W rfl h h' (he n0 m1 m2)), hide (fun D E cd ce W h h' => ErrorOf_ok D E cd ce x.length x _ W rfl h h' (he n1 (by omega) hn.2))⟩
    obtain ⟨hLl, hx3⟩ := hx3.out
    rw [hLl] at HC2
    clear hs0 hs1 hce hX hman hxe hYe hu m1 m2
    rcases hF with ⟨q1, rfl, rfl⟩ | ⟨q1, rfl, rfl, hY1, hY2⟩ | ⟨q1, rfl, rfl, HERR⟩
    all_goals rcases hx3 with hb1 | ⟨hb1, L3, p, q, hpq, HC3, HE2, HE3⟩
    all_goals have HLL := hide hLl
    all_goals clear hLl
    · have copyL := hide (show ∀ D cd W, Sl W D (gv L) → Calls Try.prog 57 #[.slice D x.length cd] W fun e w' => ∃ A' c', e = .returned (.slice A' x.length c') ∧ w'.ownsRow W.heap.size 30 2 (.slice A' x.length c') x.length (gv L) ∧ Below W.heap.size W w' from fun D cd W h => by have := copyGauss D cd L W h hlL; rw [HLL.out] at this; exact this)
      go_enter Try.func9, Try.ntmps9
      go_wp2_with (go_at_call 20; go_must (refine (awake_ok _).mono ?_; rintro e w1 ⟨rfl, hb⟩; have HT := hide (((HT0.out.alloc (.cells #[.int .i64 n0, .int .i64 n1] 84)).and (stay_new w 84 #[.int .i64 n0, .int .i64 n1])).step hb); have c0 := HT.out.now.2.cell 0; have c1 := HT.out.now.2.cell 1; clear hb; simp only []))
      replace HT := hide HT.out.drew
      try replace HL := hide HL.out.drew
      go_region_held3 (fun w' => w'.cell? ⟨w.heap.size, 0, none⟩ = some (.int .i64 n0) ∧ w'.cell? ⟨w.heap.size, 1, none⟩ = some (.int .i64 n1)) (first | (simp [go_sem]; done) | (simp [go_sem, *]; done) | go_keep)
        (first
          | (go_at_call 57; go_must (refine (copyGauss _ _ x _ HT.out.now.1.1.1 hl).mono ?_; rintro e w1a ⟨D1, d1, rfl, ho, hb⟩; replace HT := hide (HT.out.step hb); (try replace HL := hide (HL.out.step hb)); have HD := hide (Sl.of_ownN ho); have c0 := HT.out.now.2.cell 0; have c1 := HT.out.now.2.cell 1; clear hb ho))
          | (go_at_call 56; go_must (refine (HCL.out _ _ _ HD.out).mono ?_; rintro e w1b ⟨C1, k1, rfl, hs, hb⟩; replace HT := hide (HT.out.step hb); (try replace HL := hide (HL.out.step hb)); have HL := hide (stay_sl hs); have c0 := HT.out.now.2.cell 0; have c1 := HT.out.now.2.cell 1; clear hb hs)))
      go_wp2_with (first
        | (go_at_call 57; (with_reducible refine (copyGauss _ _ x _ HT.out.now.1.1.1 hl).mono ?_); rintro e w2 ⟨D, kd, rfl, ho, hb⟩; replace HT := hide (HT.out.step hb); (try replace HL := hide (HL.out.step hb)); (try replace HL3 := hide (HL3.out.step hb)); have HDX := hide (Sl.of_ownN ho); have c0 := HT.out.now.2.cell 0; have c1 := HT.out.now.2.cell 1; clear hb ho; simp only [])
        | (go_at_call 57; (with_reducible refine (copyGauss _ _ y _ HT.out.now.1.1.2 hl').mono ?_); rintro e w3 ⟨D', kd', rfl, ho, hb⟩; replace HT := hide (HT.out.step hb); (try replace HL := hide (HL.out.step hb)); replace HDX := hide (HDX.out.bel hb); have HDY := hide (Sl.of_ownN ho); have c0 := HT.out.now.2.cell 0; have c1 := HT.out.now.2.cell 1; clear hb ho; simp only [])
        | (go_at_call 58; (with_reducible refine (HER.out _ _ _ _ _ HDX.out HDY.out).mono ?_); rintro e w4 ⟨rfl, hb⟩; replace HT := hide (HT.out.step hb); (try replace HL := hide (HL.out.step hb)); have c0 := HT.out.now.2.cell 0; have c1 := HT.out.now.2.cell 1; clear hb HDY; simp only [])
        | (go_at_call 59; (with_reducible refine (HEX.out _ HT.out.now.1.1.1).mono ?_); rintro e w5 ⟨rfl, hb⟩; replace HT := hide (HT.out.step hb); (try replace HL := hide (HL.out.step hb)); have c0 := HT.out.now.2.cell 0; have c1 := HT.out.now.2.cell 1; clear hb; simp only [])
        | (go_at_call 59; (with_reducible refine (HEY.out _ HT.out.now.1.1.2).mono ?_); rintro e w6 ⟨rfl, hb⟩; replace HT := hide (HT.out.step hb); (try replace HL := hide (HL.out.step hb)); have c0 := HT.out.now.2.cell 0; have c1 := HT.out.now.2.cell 1; clear hb; simp only [])
        | (go_at_call 60; go_must (refine (HERR.out _ HT.out.now.1.1.1 HT.out.now.1.1.2).mono ?_; rintro e w7 ⟨rfl, hb⟩; replace HT := hide (HT.out.step hb); (try replace HL := hide (HL.out.step hb)); have c0 := HT.out.now.2.cell 0; have c1 := HT.out.now.2.cell 1; clear hb; simp only []))
        | (go_at_call 24; refine (within_base _ _ _ _).mono ?_; rintro e w' ⟨rfl, rfl⟩; first | rw [hb0] | rw [hb1])
        | (go_at_call 62; go_must (refine (HCR.out _ HT.out.now.1.1.1).mono ?_; rintro e w8 ⟨C8, k8, rfl, hs, hb⟩; replace HT := hide (HT.out.step hb); replace HL := hide (HL.out.step hb); have HL8 := hide hs; have c0 := HT.out.now.2.cell 0; have c1 := HT.out.now.2.cell 1; clear hb hs; simp only []))
        | (go_at_call 61; have qq := HL8; go_must (refine (HSM.out _ _ _ _ _ HL.out.now HL8.out).mono ?_; rintro e w9 ⟨rfl, q9, rfl⟩; replace HT := hide (HT.out.drewN q9); replace HL := hide (HL.out.drewN q9); have c0 := HT.out.now.2.cell 0; have c1 := HT.out.now.2.cell 1; clear qq HL8; simp only [])))
      replace HT := hide HT.out.drew
      try replace HL := hide HL.out.drew
      go_region_held3 (fun w' => w'.cell? ⟨w.heap.size, 0, none⟩ = some (.int .i64 n0) ∧ w'.cell? ⟨w.heap.size, 1, none⟩ = some (.int .i64 n1)) (first | (simp [go_sem]; done) | (simp [go_sem, *]; done) | go_keep)
        (first
          | (go_at_call 57; go_must (refine (copyL.out _ _ _ HL.out.now).mono ?_; rintro e w2a ⟨D2, d2, rfl, ho, hb⟩; replace HT := hide (HT.out.step hb); (try replace HL := hide (HL.out.step hb)); have HD := hide (Sl.of_ownN ho); have c0 := HT.out.now.2.cell 0; have c1 := HT.out.now.2.cell 1; clear hb ho))
          | (go_at_call 56; go_must (refine (HC2.out _ _ _ HD.out).mono ?_; rintro e w2b ⟨C2, k2, rfl, hs, hb⟩; replace HT := hide (HT.out.step hb); (try replace HL := hide (HL.out.step hb)); have HL2 := hide (stay_sl hs); have c0 := HT.out.now.2.cell 0; have c1 := HT.out.now.2.cell 1; clear hb hs)))
      go_wp2_with (first
        | (go_at_call 57; (with_reducible refine (copyGauss _ _ x _ HT.out.now.1.1.1 hl).mono ?_); rintro e w2 ⟨D, kd, rfl, ho, hb⟩; replace HT := hide (HT.out.step hb); (try replace HL := hide (HL.out.step hb)); (try replace HL3 := hide (HL3.out.step hb)); have HDX := hide (Sl.of_ownN ho); have c0 := HT.out.now.2.cell 0; have c1 := HT.out.now.2.cell 1; clear hb ho; simp only [])
        | (go_at_call 57; (with_reducible refine (copyGauss _ _ y _ HT.out.now.1.1.2 hl').mono ?_); rintro e w3 ⟨D', kd', rfl, ho, hb⟩; replace HT := hide (HT.out.step hb); (try replace HL := hide (HL.out.step hb)); replace HDX := hide (HDX.out.bel hb); have HDY := hide (Sl.of_ownN ho); have c0 := HT.out.now.2.cell 0; have c1 := HT.out.now.2.cell 1; clear hb ho; simp only [])
        | (go_at_call 58; (with_reducible refine (HER.out _ _ _ _ _ HDX.out HDY.out).mono ?_); rintro e w4 ⟨rfl, hb⟩; replace HT := hide (HT.out.step hb); (try replace HL := hide (HL.out.step hb)); have c0 := HT.out.now.2.cell 0; have c1 := HT.out.now.2.cell 1; clear hb HDY; simp only [])
        | (go_at_call 59; (with_reducible refine (HEX.out _ HT.out.now.1.1.1).mono ?_); rintro e w5 ⟨rfl, hb⟩; replace HT := hide (HT.out.step hb); (try replace HL := hide (HL.out.step hb)); have c0 := HT.out.now.2.cell 0; have c1 := HT.out.now.2.cell 1; clear hb; simp only [])
        | (go_at_call 59; (with_reducible refine (HEY.out _ HT.out.now.1.1.2).mono ?_); rintro e w6 ⟨rfl, hb⟩; replace HT := hide (HT.out.step hb); (try replace HL := hide (HL.out.step hb)); have c0 := HT.out.now.2.cell 0; have c1 := HT.out.now.2.cell 1; clear hb; simp only [])
        | (go_at_call 60; go_must (refine (HERR.out _ HT.out.now.1.1.1 HT.out.now.1.1.2).mono ?_; rintro e w7 ⟨rfl, hb⟩; replace HT := hide (HT.out.step hb); (try replace HL := hide (HL.out.step hb)); have c0 := HT.out.now.2.cell 0; have c1 := HT.out.now.2.cell 1; clear hb; simp only []))
        | (go_at_call 24; refine (within_base _ _ _ _).mono ?_; rintro e w' ⟨rfl, rfl⟩; first | rw [hb0] | rw [hb1])
        | (go_at_call 61; go_must (refine (HSM.out _ _ _ _ _ HL.out.now HL2.out.now).mono ?_; rintro e w9 ⟨rfl, q9, rfl⟩; replace HT := hide (HT.out.drewN q9); replace HL := hide (HL.out.drewN q9); have c0 := HT.out.now.2.cell 0; have c1 := HT.out.now.2.cell 1; clear HL2; simp only [])))
      go_ret
      exact ⟨rfl, HT.out.now.1.2⟩
    · have copyL := hide (show ∀ D cd W, Sl W D (gv L) → Calls Try.prog 57 #[.slice D x.length cd] W fun e w' => ∃ A' c', e = .returned (.slice A' x.length c') ∧ w'.ownsRow W.heap.size 30 2 (.slice A' x.length c') x.length (gv L) ∧ Below W.heap.size W w' from fun D cd W h => by have := copyGauss D cd L W h hlL; rw [HLL.out] at this; exact this)
      go_enter Try.func9, Try.ntmps9
      go_wp2_with (go_at_call 20; go_must (refine (awake_ok _).mono ?_; rintro e w1 ⟨rfl, hb⟩; have HT := hide (((HT0.out.alloc (.cells #[.int .i64 n0, .int .i64 n1] 84)).and (stay_new w 84 #[.int .i64 n0, .int .i64 n1])).step hb); have c0 := HT.out.now.2.cell 0; have c1 := HT.out.now.2.cell 1; clear hb; simp only []))
      replace HT := hide HT.out.drew
      try replace HL := hide HL.out.drew
      go_region_held3 (fun w' => w'.cell? ⟨w.heap.size, 0, none⟩ = some (.int .i64 n0) ∧ w'.cell? ⟨w.heap.size, 1, none⟩ = some (.int .i64 n1)) (first | (simp [go_sem]; done) | (simp [go_sem, *]; done) | go_keep)
        (first
          | (go_at_call 57; go_must (refine (copyGauss _ _ x _ HT.out.now.1.1.1 hl).mono ?_; rintro e w1a ⟨D1, d1, rfl, ho, hb⟩; replace HT := hide (HT.out.step hb); (try replace HL := hide (HL.out.step hb)); have HD := hide (Sl.of_ownN ho); have c0 := HT.out.now.2.cell 0; have c1 := HT.out.now.2.cell 1; clear hb ho))
          | (go_at_call 56; go_must (refine (HCL.out _ _ _ HD.out).mono ?_; rintro e w1b ⟨C1, k1, rfl, hs, hb⟩; replace HT := hide (HT.out.step hb); (try replace HL := hide (HL.out.step hb)); have HL := hide (stay_sl hs); have c0 := HT.out.now.2.cell 0; have c1 := HT.out.now.2.cell 1; clear hb hs)))
      go_wp2_with (first
        | (go_at_call 57; (with_reducible refine (copyGauss _ _ x _ HT.out.now.1.1.1 hl).mono ?_); rintro e w2 ⟨D, kd, rfl, ho, hb⟩; replace HT := hide (HT.out.step hb); (try replace HL := hide (HL.out.step hb)); (try replace HL3 := hide (HL3.out.step hb)); have HDX := hide (Sl.of_ownN ho); have c0 := HT.out.now.2.cell 0; have c1 := HT.out.now.2.cell 1; clear hb ho; simp only [])
        | (go_at_call 57; (with_reducible refine (copyGauss _ _ y _ HT.out.now.1.1.2 hl').mono ?_); rintro e w3 ⟨D', kd', rfl, ho, hb⟩; replace HT := hide (HT.out.step hb); (try replace HL := hide (HL.out.step hb)); replace HDX := hide (HDX.out.bel hb); have HDY := hide (Sl.of_ownN ho); have c0 := HT.out.now.2.cell 0; have c1 := HT.out.now.2.cell 1; clear hb ho; simp only [])
        | (go_at_call 58; (with_reducible refine (HER.out _ _ _ _ _ HDX.out HDY.out).mono ?_); rintro e w4 ⟨rfl, hb⟩; replace HT := hide (HT.out.step hb); (try replace HL := hide (HL.out.step hb)); have c0 := HT.out.now.2.cell 0; have c1 := HT.out.now.2.cell 1; clear hb HDY; simp only [])
        | (go_at_call 59; (with_reducible refine (HEX.out _ HT.out.now.1.1.1).mono ?_); rintro e w5 ⟨rfl, hb⟩; replace HT := hide (HT.out.step hb); (try replace HL := hide (HL.out.step hb)); have c0 := HT.out.now.2.cell 0; have c1 := HT.out.now.2.cell 1; clear hb; simp only [])
        | (go_at_call 59; (with_reducible refine (HEY.out _ HT.out.now.1.1.2).mono ?_); rintro e w6 ⟨rfl, hb⟩; replace HT := hide (HT.out.step hb); (try replace HL := hide (HL.out.step hb)); have c0 := HT.out.now.2.cell 0; have c1 := HT.out.now.2.cell 1; clear hb; simp only [])
        | (go_at_call 60; go_must (refine (HERR.out _ HT.out.now.1.1.1 HT.out.now.1.1.2).mono ?_; rintro e w7 ⟨rfl, hb⟩; replace HT := hide (HT.out.step hb); (try replace HL := hide (HL.out.step hb)); have c0 := HT.out.now.2.cell 0; have c1 := HT.out.now.2.cell 1; clear hb; simp only []))
        | (go_at_call 24; refine (within_base _ _ _ _).mono ?_; rintro e w' ⟨rfl, rfl⟩; first | rw [hb0] | rw [hb1])
        | (go_at_call 62; go_must (refine (HCR.out _ HT.out.now.1.1.1).mono ?_; rintro e w8 ⟨C8, k8, rfl, hs, hb⟩; replace HT := hide (HT.out.step hb); replace HL := hide (HL.out.step hb); have HL8 := hide hs; have c0 := HT.out.now.2.cell 0; have c1 := HT.out.now.2.cell 1; clear hb hs; simp only []))
        | (go_at_call 61; have qq := HL8; go_must (refine (HSM.out _ _ _ _ _ HL.out.now HL8.out).mono ?_; rintro e w9 ⟨rfl, q9, rfl⟩; replace HT := hide (HT.out.drewN q9); replace HL := hide (HL.out.drewN q9); have c0 := HT.out.now.2.cell 0; have c1 := HT.out.now.2.cell 1; clear qq HL8; simp only [])))
      replace HT := hide HT.out.drew
      try replace HL := hide HL.out.drew
      go_region_held3 (fun w' => w'.cell? ⟨w.heap.size, 0, none⟩ = some (.int .i64 n0) ∧ w'.cell? ⟨w.heap.size, 1, none⟩ = some (.int .i64 n1)) (first | (simp [go_sem]; done) | (simp [go_sem, *]; done) | go_keep)
        (first
          | (go_at_call 57; go_must (refine (copyL.out _ _ _ HL.out.now).mono ?_; rintro e w2a ⟨D2, d2, rfl, ho, hb⟩; replace HT := hide (HT.out.step hb); (try replace HL := hide (HL.out.step hb)); have HD := hide (Sl.of_ownN ho); have c0 := HT.out.now.2.cell 0; have c1 := HT.out.now.2.cell 1; clear hb ho))
          | (go_at_call 56; go_must (refine (HC2.out _ _ _ HD.out).mono ?_; rintro e w2b ⟨C2, k2, rfl, hs, hb⟩; replace HT := hide (HT.out.step hb); (try replace HL := hide (HL.out.step hb)); have HL2 := hide (stay_sl hs); have c0 := HT.out.now.2.cell 0; have c1 := HT.out.now.2.cell 1; clear hb hs)))
      go_wp2_with (first
        | (go_at_call 57; (with_reducible refine (copyGauss _ _ x _ HT.out.now.1.1.1 hl).mono ?_); rintro e w2 ⟨D, kd, rfl, ho, hb⟩; replace HT := hide (HT.out.step hb); (try replace HL := hide (HL.out.step hb)); (try replace HL3 := hide (HL3.out.step hb)); have HDX := hide (Sl.of_ownN ho); have c0 := HT.out.now.2.cell 0; have c1 := HT.out.now.2.cell 1; clear hb ho; simp only [])
        | (go_at_call 57; (with_reducible refine (copyGauss _ _ y _ HT.out.now.1.1.2 hl').mono ?_); rintro e w3 ⟨D', kd', rfl, ho, hb⟩; replace HT := hide (HT.out.step hb); (try replace HL := hide (HL.out.step hb)); replace HDX := hide (HDX.out.bel hb); have HDY := hide (Sl.of_ownN ho); have c0 := HT.out.now.2.cell 0; have c1 := HT.out.now.2.cell 1; clear hb ho; simp only [])
        | (go_at_call 58; (with_reducible refine (HER.out _ _ _ _ _ HDX.out HDY.out).mono ?_); rintro e w4 ⟨rfl, hb⟩; replace HT := hide (HT.out.step hb); (try replace HL := hide (HL.out.step hb)); have c0 := HT.out.now.2.cell 0; have c1 := HT.out.now.2.cell 1; clear hb HDY; simp only [])
        | (go_at_call 59; (with_reducible refine (HEX.out _ HT.out.now.1.1.1).mono ?_); rintro e w5 ⟨rfl, hb⟩; replace HT := hide (HT.out.step hb); (try replace HL := hide (HL.out.step hb)); have c0 := HT.out.now.2.cell 0; have c1 := HT.out.now.2.cell 1; clear hb; simp only [])
        | (go_at_call 59; (with_reducible refine (HEY.out _ HT.out.now.1.1.2).mono ?_); rintro e w6 ⟨rfl, hb⟩; replace HT := hide (HT.out.step hb); (try replace HL := hide (HL.out.step hb)); have c0 := HT.out.now.2.cell 0; have c1 := HT.out.now.2.cell 1; clear hb; simp only [])
        | (go_at_call 60; go_must (refine (HERR.out _ HT.out.now.1.1.1 HT.out.now.1.1.2).mono ?_; rintro e w7 ⟨rfl, hb⟩; replace HT := hide (HT.out.step hb); (try replace HL := hide (HL.out.step hb)); have c0 := HT.out.now.2.cell 0; have c1 := HT.out.now.2.cell 1; clear hb; simp only []))
        | (go_at_call 24; refine (within_base _ _ _ _).mono ?_; rintro e w' ⟨rfl, rfl⟩; first | rw [hb0] | rw [hb1])
        | (go_at_call 61; go_must (refine (HSM.out _ _ _ _ _ HL.out.now HL2.out.now).mono ?_; rintro e w9 ⟨rfl, q9, rfl⟩; replace HT := hide (HT.out.drewN q9); replace HL := hide (HL.out.drewN q9); have c0 := HT.out.now.2.cell 0; have c1 := HT.out.now.2.cell 1; clear HL2; simp only [])))
      replace HT := hide HT.out.drew
      try replace HL := hide HL.out.drew
      go_region_held3 (fun w' => w'.cell? ⟨w.heap.size, 0, none⟩ = some (.int .i64 n0) ∧ w'.cell? ⟨w.heap.size, 1, none⟩ = some (.int .i64 n1)) (first | (simp [go_sem]; done) | (simp [go_sem, *]; done) | go_keep)
        (first
          | (go_at_call 57; go_must (refine (copyGauss _ _ x _ HT.out.now.1.1.1 hl).mono ?_; rintro e w3a ⟨D3, d3, rfl, ho, hb⟩; replace HT := hide (HT.out.step hb); (try replace HL := hide (HL.out.step hb)); have HD := hide (Sl.of_ownN ho); have c0 := HT.out.now.2.cell 0; have c1 := HT.out.now.2.cell 1; clear hb ho))
          | (go_at_call 56; go_must (refine (HC3.out _ _ _ HD.out).mono ?_; rintro e w3b ⟨C3, k3, rfl, hs, hb⟩; replace HT := hide (HT.out.step hb); (try replace HL := hide (HL.out.step hb)); have HL3 := hide (stay_sl hs); have c0 := HT.out.now.2.cell 0; have c1 := HT.out.now.2.cell 1; clear hb hs)))
      go_wp2_with (first
        | (go_at_call 57; (with_reducible refine (copyGauss _ _ x _ HT.out.now.1.1.1 hl).mono ?_); rintro e w2 ⟨D, kd, rfl, ho, hb⟩; replace HT := hide (HT.out.step hb); (try replace HL := hide (HL.out.step hb)); (try replace HL3 := hide (HL3.out.step hb)); have HDX := hide (Sl.of_ownN ho); have c0 := HT.out.now.2.cell 0; have c1 := HT.out.now.2.cell 1; clear hb ho; simp only [])
        | (go_at_call 57; (with_reducible refine (copyGauss _ _ y _ HT.out.now.1.1.2 hl').mono ?_); rintro e w3 ⟨D', kd', rfl, ho, hb⟩; replace HT := hide (HT.out.step hb); (try replace HL := hide (HL.out.step hb)); replace HDX := hide (HDX.out.bel hb); have HDY := hide (Sl.of_ownN ho); have c0 := HT.out.now.2.cell 0; have c1 := HT.out.now.2.cell 1; clear hb ho; simp only [])
        | (go_at_call 58; (with_reducible refine (HER.out _ _ _ _ _ HDX.out HDY.out).mono ?_); rintro e w4 ⟨rfl, hb⟩; replace HT := hide (HT.out.step hb); (try replace HL := hide (HL.out.step hb)); have c0 := HT.out.now.2.cell 0; have c1 := HT.out.now.2.cell 1; clear hb HDY; simp only [])
        | (go_at_call 59; (with_reducible refine (HEX.out _ HT.out.now.1.1.1).mono ?_); rintro e w5 ⟨rfl, hb⟩; replace HT := hide (HT.out.step hb); (try replace HL := hide (HL.out.step hb)); have c0 := HT.out.now.2.cell 0; have c1 := HT.out.now.2.cell 1; clear hb; simp only [])
        | (go_at_call 59; (with_reducible refine (HEY.out _ HT.out.now.1.1.2).mono ?_); rintro e w6 ⟨rfl, hb⟩; replace HT := hide (HT.out.step hb); (try replace HL := hide (HL.out.step hb)); have c0 := HT.out.now.2.cell 0; have c1 := HT.out.now.2.cell 1; clear hb; simp only [])
        | (go_at_call 60; go_must (refine (HERR.out _ HT.out.now.1.1.1 HT.out.now.1.1.2).mono ?_; rintro e w7 ⟨rfl, hb⟩; replace HT := hide (HT.out.step hb); (try replace HL := hide (HL.out.step hb)); have c0 := HT.out.now.2.cell 0; have c1 := HT.out.now.2.cell 1; clear hb; simp only []))
        | (go_at_call 24; refine (within_base _ _ _ _).mono ?_; rintro e w' ⟨rfl, rfl⟩; first | rw [hb0] | rw [hb1])
        | (go_at_call 58; have qq := tk5; (with_reducible refine (HE3.out _ _ _ _ _ HDX.out HL3.out.now).mono ?_); rintro e w11 ⟨rfl, hb⟩; replace HT := hide (HT.out.step hb); have c0 := HT.out.now.2.cell 0; have c1 := HT.out.now.2.cell 1; clear hb qq; simp only [])
        | (go_at_call 58; have qq := HL3; (with_reducible refine (HE2.out _ _ _ _ _ HDX.out HL.out.now).mono ?_); rintro e w10 ⟨rfl, hb⟩; replace HT := hide (HT.out.step hb); replace HL3 := hide (HL3.out.step hb); have tk5 := hide trivial; have c0 := HT.out.now.2.cell 0; have c1 := HT.out.now.2.cell 1; clear hb qq; simp only []))
      go_ret
      exact ⟨rfl, HT.out.now.1.2⟩
    · have copyL := hide (show ∀ D cd W, Sl W D (gv L) → Calls Try.prog 57 #[.slice D x.length cd] W fun e w' => ∃ A' c', e = .returned (.slice A' x.length c') ∧ w'.ownsRow W.heap.size 30 2 (.slice A' x.length c') x.length (gv L) ∧ Below W.heap.size W w' from fun D cd W h => by have := copyGauss D cd L W h hlL; rw [HLL.out] at this; exact this)
      go_enter Try.func9, Try.ntmps9
      go_wp2_with (go_at_call 20; go_must (refine (awake_ok _).mono ?_; rintro e w1 ⟨rfl, hb⟩; have HT := hide (((HT0.out.alloc (.cells #[.int .i64 n0, .int .i64 n1] 84)).and (stay_new w 84 #[.int .i64 n0, .int .i64 n1])).step hb); have c0 := HT.out.now.2.cell 0; have c1 := HT.out.now.2.cell 1; clear hb; simp only []))
      replace HT := hide HT.out.drew
      try replace HL := hide HL.out.drew
      go_region_held3 (fun w' => w'.cell? ⟨w.heap.size, 0, none⟩ = some (.int .i64 n0) ∧ w'.cell? ⟨w.heap.size, 1, none⟩ = some (.int .i64 n1)) (first | (simp [go_sem]; done) | (simp [go_sem, *]; done) | go_keep)
        (first
          | (go_at_call 57; go_must (refine (copyGauss _ _ x _ HT.out.now.1.1.1 hl).mono ?_; rintro e w1a ⟨D1, d1, rfl, ho, hb⟩; replace HT := hide (HT.out.step hb); (try replace HL := hide (HL.out.step hb)); have HD := hide (Sl.of_ownN ho); have c0 := HT.out.now.2.cell 0; have c1 := HT.out.now.2.cell 1; clear hb ho))
          | (go_at_call 56; go_must (refine (HCL.out _ _ _ HD.out).mono ?_; rintro e w1b ⟨C1, k1, rfl, hs, hb⟩; replace HT := hide (HT.out.step hb); (try replace HL := hide (HL.out.step hb)); have HL := hide (stay_sl hs); have c0 := HT.out.now.2.cell 0; have c1 := HT.out.now.2.cell 1; clear hb hs)))
      go_wp2_with (first
        | (go_at_call 57; (with_reducible refine (copyGauss _ _ x _ HT.out.now.1.1.1 hl).mono ?_); rintro e w2 ⟨D, kd, rfl, ho, hb⟩; replace HT := hide (HT.out.step hb); (try replace HL := hide (HL.out.step hb)); (try replace HL3 := hide (HL3.out.step hb)); have HDX := hide (Sl.of_ownN ho); have c0 := HT.out.now.2.cell 0; have c1 := HT.out.now.2.cell 1; clear hb ho; simp only [])
        | (go_at_call 57; (with_reducible refine (copyGauss _ _ y _ HT.out.now.1.1.2 hl').mono ?_); rintro e w3 ⟨D', kd', rfl, ho, hb⟩; replace HT := hide (HT.out.step hb); (try replace HL := hide (HL.out.step hb)); replace HDX := hide (HDX.out.bel hb); have HDY := hide (Sl.of_ownN ho); have c0 := HT.out.now.2.cell 0; have c1 := HT.out.now.2.cell 1; clear hb ho; simp only [])
        | (go_at_call 58; (with_reducible refine (HER.out _ _ _ _ _ HDX.out HDY.out).mono ?_); rintro e w4 ⟨rfl, hb⟩; replace HT := hide (HT.out.step hb); (try replace HL := hide (HL.out.step hb)); have c0 := HT.out.now.2.cell 0; have c1 := HT.out.now.2.cell 1; clear hb HDY; simp only [])
        | (go_at_call 59; (with_reducible refine (HEX.out _ HT.out.now.1.1.1).mono ?_); rintro e w5 ⟨rfl, hb⟩; replace HT := hide (HT.out.step hb); (try replace HL := hide (HL.out.step hb)); have c0 := HT.out.now.2.cell 0; have c1 := HT.out.now.2.cell 1; clear hb; simp only [])
        | (go_at_call 59; (with_reducible refine (HEY.out _ HT.out.now.1.1.2).mono ?_); rintro e w6 ⟨rfl, hb⟩; replace HT := hide (HT.out.step hb); (try replace HL := hide (HL.out.step hb)); have c0 := HT.out.now.2.cell 0; have c1 := HT.out.now.2.cell 1; clear hb; simp only [])
        | (go_at_call 60; go_must (refine (HERR.out _ HT.out.now.1.1.1 HT.out.now.1.1.2).mono ?_; rintro e w7 ⟨rfl, hb⟩; replace HT := hide (HT.out.step hb); (try replace HL := hide (HL.out.step hb)); have c0 := HT.out.now.2.cell 0; have c1 := HT.out.now.2.cell 1; clear hb; simp only []))
        | (go_at_call 24; refine (within_base _ _ _ _).mono ?_; rintro e w' ⟨rfl, rfl⟩; first | rw [hb0] | rw [hb1])
        | (go_at_call 62; go_must (refine (HCR.out _ HT.out.now.1.1.1).mono ?_; rintro e w8 ⟨C8, k8, rfl, hs, hb⟩; replace HT := hide (HT.out.step hb); replace HL := hide (HL.out.step hb); have HL8 := hide hs; have c0 := HT.out.now.2.cell 0; have c1 := HT.out.now.2.cell 1; clear hb hs; simp only []))
        | (go_at_call 61; have qq := HL8; go_must (refine (HSM.out _ _ _ _ _ HL.out.now HL8.out).mono ?_; rintro e w9 ⟨rfl, q9, rfl⟩; replace HT := hide (HT.out.drewN q9); replace HL := hide (HL.out.drewN q9); have c0 := HT.out.now.2.cell 0; have c1 := HT.out.now.2.cell 1; clear qq HL8; simp only [])))
      replace HT := hide HT.out.drew
      try replace HL := hide HL.out.drew
      go_region_held3 (fun w' => w'.cell? ⟨w.heap.size, 0, none⟩ = some (.int .i64 n0) ∧ w'.cell? ⟨w.heap.size, 1, none⟩ = some (.int .i64 n1)) (first | (simp [go_sem]; done) | (simp [go_sem, *]; done) | go_keep)
        (first
          | (go_at_call 57; go_must (refine (copyL.out _ _ _ HL.out.now).mono ?_; rintro e w2a ⟨D2, d2, rfl, ho, hb⟩; replace HT := hide (HT.out.step hb); (try replace HL := hide (HL.out.step hb)); have HD := hide (Sl.of_ownN ho); have c0 := HT.out.now.2.cell 0; have c1 := HT.out.now.2.cell 1; clear hb ho))
          | (go_at_call 56; go_must (refine (HC2.out _ _ _ HD.out).mono ?_; rintro e w2b ⟨C2, k2, rfl, hs, hb⟩; replace HT := hide (HT.out.step hb); (try replace HL := hide (HL.out.step hb)); have HL2 := hide (stay_sl hs); have c0 := HT.out.now.2.cell 0; have c1 := HT.out.now.2.cell 1; clear hb hs)))
      go_wp2_with (first
        | (go_at_call 57; (with_reducible refine (copyGauss _ _ x _ HT.out.now.1.1.1 hl).mono ?_); rintro e w2 ⟨D, kd, rfl, ho, hb⟩; replace HT := hide (HT.out.step hb); (try replace HL := hide (HL.out.step hb)); (try replace HL3 := hide (HL3.out.step hb)); have HDX := hide (Sl.of_ownN ho); have c0 := HT.out.now.2.cell 0; have c1 := HT.out.now.2.cell 1; clear hb ho; simp only [])
        | (go_at_call 57; (with_reducible refine (copyGauss _ _ y _ HT.out.now.1.1.2 hl').mono ?_); rintro e w3 ⟨D', kd', rfl, ho, hb⟩; replace HT := hide (HT.out.step hb); (try replace HL := hide (HL.out.step hb)); replace HDX := hide (HDX.out.bel hb); have HDY := hide (Sl.of_ownN ho); have c0 := HT.out.now.2.cell 0; have c1 := HT.out.now.2.cell 1; clear hb ho; simp only [])
        | (go_at_call 58; (with_reducible refine (HER.out _ _ _ _ _ HDX.out HDY.out).mono ?_); rintro e w4 ⟨rfl, hb⟩; replace HT := hide (HT.out.step hb); (try replace HL := hide (HL.out.step hb)); have c0 := HT.out.now.2.cell 0; have c1 := HT.out.now.2.cell 1; clear hb HDY; simp only [])
        | (go_at_call 59; (with_reducible refine (HEX.out _ HT.out.now.1.1.1).mono ?_); rintro e w5 ⟨rfl, hb⟩; replace HT := hide (HT.out.step hb); (try replace HL := hide (HL.out.step hb)); have c0 := HT.out.now.2.cell 0; have c1 := HT.out.now.2.cell 1; clear hb; simp only [])
        | (go_at_call 59; (with_reducible refine (HEY.out _ HT.out.now.1.1.2).mono ?_); rintro e w6 ⟨rfl, hb⟩; replace HT := hide (HT.out.step hb); (try replace HL := hide (HL.out.step hb)); have c0 := HT.out.now.2.cell 0; have c1 := HT.out.now.2.cell 1; clear hb; simp only [])
        | (go_at_call 60; go_must (refine (HERR.out _ HT.out.now.1.1.1 HT.out.now.1.1.2).mono ?_; rintro e w7 ⟨rfl, hb⟩; replace HT := hide (HT.out.step hb); (try replace HL := hide (HL.out.step hb)); have c0 := HT.out.now.2.cell 0; have c1 := HT.out.now.2.cell 1; clear hb; simp only []))
        | (go_at_call 24; refine (within_base _ _ _ _).mono ?_; rintro e w' ⟨rfl, rfl⟩; first | rw [hb0] | rw [hb1])
        | (go_at_call 61; go_must (refine (HSM.out _ _ _ _ _ HL.out.now HL2.out.now).mono ?_; rintro e w9 ⟨rfl, q9, rfl⟩; replace HT := hide (HT.out.drewN q9); replace HL := hide (HL.out.drewN q9); have c0 := HT.out.now.2.cell 0; have c1 := HT.out.now.2.cell 1; clear HL2; simp only [])))
      go_ret
      exact ⟨rfl, HT.out.now.1.2⟩
    · have copyL := hide (show ∀ D cd W, Sl W D (gv L) → Calls Try.prog 57 #[.slice D x.length cd] W fun e w' => ∃ A' c', e = .returned (.slice A' x.length c') ∧ w'.ownsRow W.heap.size 30 2 (.slice A' x.length c') x.length (gv L) ∧ Below W.heap.size W w' from fun D cd W h => by have := copyGauss D cd L W h hlL; rw [HLL.out] at this; exact this)
      go_enter Try.func9, Try.ntmps9
      go_wp2_with (go_at_call 20; go_must (refine (awake_ok _).mono ?_; rintro e w1 ⟨rfl, hb⟩; have HT := hide (((HT0.out.alloc (.cells #[.int .i64 n0, .int .i64 n1] 84)).and (stay_new w 84 #[.int .i64 n0, .int .i64 n1])).step hb); have c0 := HT.out.now.2.cell 0; have c1 := HT.out.now.2.cell 1; clear hb; simp only []))
      replace HT := hide HT.out.drew
      try replace HL := hide HL.out.drew
      go_region_held3 (fun w' => w'.cell? ⟨w.heap.size, 0, none⟩ = some (.int .i64 n0) ∧ w'.cell? ⟨w.heap.size, 1, none⟩ = some (.int .i64 n1)) (first | (simp [go_sem]; done) | (simp [go_sem, *]; done) | go_keep)
        (first
          | (go_at_call 57; go_must (refine (copyGauss _ _ x _ HT.out.now.1.1.1 hl).mono ?_; rintro e w1a ⟨D1, d1, rfl, ho, hb⟩; replace HT := hide (HT.out.step hb); (try replace HL := hide (HL.out.step hb)); have HD := hide (Sl.of_ownN ho); have c0 := HT.out.now.2.cell 0; have c1 := HT.out.now.2.cell 1; clear hb ho))
          | (go_at_call 56; go_must (refine (HCL.out _ _ _ HD.out).mono ?_; rintro e w1b ⟨C1, k1, rfl, hs, hb⟩; replace HT := hide (HT.out.step hb); (try replace HL := hide (HL.out.step hb)); have HL := hide (stay_sl hs); have c0 := HT.out.now.2.cell 0; have c1 := HT.out.now.2.cell 1; clear hb hs)))
      go_wp2_with (first
        | (go_at_call 57; (with_reducible refine (copyGauss _ _ x _ HT.out.now.1.1.1 hl).mono ?_); rintro e w2 ⟨D, kd, rfl, ho, hb⟩; replace HT := hide (HT.out.step hb); (try replace HL := hide (HL.out.step hb)); (try replace HL3 := hide (HL3.out.step hb)); have HDX := hide (Sl.of_ownN ho); have c0 := HT.out.now.2.cell 0; have c1 := HT.out.now.2.cell 1; clear hb ho; simp only [])
        | (go_at_call 57; (with_reducible refine (copyGauss _ _ y _ HT.out.now.1.1.2 hl').mono ?_); rintro e w3 ⟨D', kd', rfl, ho, hb⟩; replace HT := hide (HT.out.step hb); (try replace HL := hide (HL.out.step hb)); replace HDX := hide (HDX.out.bel hb); have HDY := hide (Sl.of_ownN ho); have c0 := HT.out.now.2.cell 0; have c1 := HT.out.now.2.cell 1; clear hb ho; simp only [])
        | (go_at_call 58; (with_reducible refine (HER.out _ _ _ _ _ HDX.out HDY.out).mono ?_); rintro e w4 ⟨rfl, hb⟩; replace HT := hide (HT.out.step hb); (try replace HL := hide (HL.out.step hb)); have c0 := HT.out.now.2.cell 0; have c1 := HT.out.now.2.cell 1; clear hb HDY; simp only [])
        | (go_at_call 59; (with_reducible refine (HEX.out _ HT.out.now.1.1.1).mono ?_); rintro e w5 ⟨rfl, hb⟩; replace HT := hide (HT.out.step hb); (try replace HL := hide (HL.out.step hb)); have c0 := HT.out.now.2.cell 0; have c1 := HT.out.now.2.cell 1; clear hb; simp only [])
        | (go_at_call 59; (with_reducible refine (HEY.out _ HT.out.now.1.1.2).mono ?_); rintro e w6 ⟨rfl, hb⟩; replace HT := hide (HT.out.step hb); (try replace HL := hide (HL.out.step hb)); have c0 := HT.out.now.2.cell 0; have c1 := HT.out.now.2.cell 1; clear hb; simp only [])
        | (go_at_call 60; go_must (refine (HERR.out _ HT.out.now.1.1.1 HT.out.now.1.1.2).mono ?_; rintro e w7 ⟨rfl, hb⟩; replace HT := hide (HT.out.step hb); (try replace HL := hide (HL.out.step hb)); have c0 := HT.out.now.2.cell 0; have c1 := HT.out.now.2.cell 1; clear hb; simp only []))
        | (go_at_call 24; refine (within_base _ _ _ _).mono ?_; rintro e w' ⟨rfl, rfl⟩; first | rw [hb0] | rw [hb1])
        | (go_at_call 62; go_must (refine (HCR.out _ HT.out.now.1.1.1).mono ?_; rintro e w8 ⟨C8, k8, rfl, hs, hb⟩; replace HT := hide (HT.out.step hb); replace HL := hide (HL.out.step hb); have HL8 := hide hs; have c0 := HT.out.now.2.cell 0; have c1 := HT.out.now.2.cell 1; clear hb hs; simp only []))
        | (go_at_call 61; have qq := HL8; go_must (refine (HSM.out _ _ _ _ _ HL.out.now HL8.out).mono ?_; rintro e w9 ⟨rfl, q9, rfl⟩; replace HT := hide (HT.out.drewN q9); replace HL := hide (HL.out.drewN q9); have c0 := HT.out.now.2.cell 0; have c1 := HT.out.now.2.cell 1; clear qq HL8; simp only [])))
      replace HT := hide HT.out.drew
      try replace HL := hide HL.out.drew
      go_region_held3 (fun w' => w'.cell? ⟨w.heap.size, 0, none⟩ = some (.int .i64 n0) ∧ w'.cell? ⟨w.heap.size, 1, none⟩ = some (.int .i64 n1)) (first | (simp [go_sem]; done) | (simp [go_sem, *]; done) | go_keep)
        (first
          | (go_at_call 57; go_must (refine (copyL.out _ _ _ HL.out.now).mono ?_; rintro e w2a ⟨D2, d2, rfl, ho, hb⟩; replace HT := hide (HT.out.step hb); (try replace HL := hide (HL.out.step hb)); have HD := hide (Sl.of_ownN ho); have c0 := HT.out.now.2.cell 0; have c1 := HT.out.now.2.cell 1; clear hb ho))
          | (go_at_call 56; go_must (refine (HC2.out _ _ _ HD.out).mono ?_; rintro e w2b ⟨C2, k2, rfl, hs, hb⟩; replace HT := hide (HT.out.step hb); (try replace HL := hide (HL.out.step hb)); have HL2 := hide (stay_sl hs); have c0 := HT.out.now.2.cell 0; have c1 := HT.out.now.2.cell 1; clear hb hs)))
      go_wp2_with (first
        | (go_at_call 57; (with_reducible refine (copyGauss _ _ x _ HT.out.now.1.1.1 hl).mono ?_); rintro e w2 ⟨D, kd, rfl, ho, hb⟩; replace HT := hide (HT.out.step hb); (try replace HL := hide (HL.out.step hb)); (try replace HL3 := hide (HL3.out.step hb)); have HDX := hide (Sl.of_ownN ho); have c0 := HT.out.now.2.cell 0; have c1 := HT.out.now.2.cell 1; clear hb ho; simp only [])
        | (go_at_call 57; (with_reducible refine (copyGauss _ _ y _ HT.out.now.1.1.2 hl').mono ?_); rintro e w3 ⟨D', kd', rfl, ho, hb⟩; replace HT := hide (HT.out.step hb); (try replace HL := hide (HL.out.step hb)); replace HDX := hide (HDX.out.bel hb); have HDY := hide (Sl.of_ownN ho); have c0 := HT.out.now.2.cell 0; have c1 := HT.out.now.2.cell 1; clear hb ho; simp only [])
        | (go_at_call 58; (with_reducible refine (HER.out _ _ _ _ _ HDX.out HDY.out).mono ?_); rintro e w4 ⟨rfl, hb⟩; replace HT := hide (HT.out.step hb); (try replace HL := hide (HL.out.step hb)); have c0 := HT.out.now.2.cell 0; have c1 := HT.out.now.2.cell 1; clear hb HDY; simp only [])
        | (go_at_call 59; (with_reducible refine (HEX.out _ HT.out.now.1.1.1).mono ?_); rintro e w5 ⟨rfl, hb⟩; replace HT := hide (HT.out.step hb); (try replace HL := hide (HL.out.step hb)); have c0 := HT.out.now.2.cell 0; have c1 := HT.out.now.2.cell 1; clear hb; simp only [])
        | (go_at_call 59; (with_reducible refine (HEY.out _ HT.out.now.1.1.2).mono ?_); rintro e w6 ⟨rfl, hb⟩; replace HT := hide (HT.out.step hb); (try replace HL := hide (HL.out.step hb)); have c0 := HT.out.now.2.cell 0; have c1 := HT.out.now.2.cell 1; clear hb; simp only [])
        | (go_at_call 60; go_must (refine (HERR.out _ HT.out.now.1.1.1 HT.out.now.1.1.2).mono ?_; rintro e w7 ⟨rfl, hb⟩; replace HT := hide (HT.out.step hb); (try replace HL := hide (HL.out.step hb)); have c0 := HT.out.now.2.cell 0; have c1 := HT.out.now.2.cell 1; clear hb; simp only []))
        | (go_at_call 24; refine (within_base _ _ _ _).mono ?_; rintro e w' ⟨rfl, rfl⟩; first | rw [hb0] | rw [hb1])
        | (go_at_call 61; go_must (refine (HSM.out _ _ _ _ _ HL.out.now HL2.out.now).mono ?_; rintro e w9 ⟨rfl, q9, rfl⟩; replace HT := hide (HT.out.drewN q9); replace HL := hide (HL.out.drewN q9); have c0 := HT.out.now.2.cell 0; have c1 := HT.out.now.2.cell 1; clear HL2; simp only [])))
      replace HT := hide HT.out.drew
      try replace HL := hide HL.out.drew
      go_region_held3 (fun w' => w'.cell? ⟨w.heap.size, 0, none⟩ = some (.int .i64 n0) ∧ w'.cell? ⟨w.heap.size, 1, none⟩ = some (.int .i64 n1)) (first | (simp [go_sem]; done) | (simp [go_sem, *]; done) | go_keep)
        (first
          | (go_at_call 57; go_must (refine (copyGauss _ _ x _ HT.out.now.1.1.1 hl).mono ?_; rintro e w3a ⟨D3, d3, rfl, ho, hb⟩; replace HT := hide (HT.out.step hb); (try replace HL := hide (HL.out.step hb)); have HD := hide (Sl.of_ownN ho); have c0 := HT.out.now.2.cell 0; have c1 := HT.out.now.2.cell 1; clear hb ho))
          | (go_at_call 56; go_must (refine (HC3.out _ _ _ HD.out).mono ?_; rintro e w3b ⟨C3, k3, rfl, hs, hb⟩; replace HT := hide (HT.out.step hb); (try replace HL := hide (HL.out.step hb)); have HL3 := hide (stay_sl hs); have c0 := HT.out.now.2.cell 0; have c1 := HT.out.now.2.cell 1; clear hb hs)))
      go_wp2_with (first
        | (go_at_call 57; (with_reducible refine (copyGauss _ _ x _ HT.out.now.1.1.1 hl).mono ?_); rintro e w2 ⟨D, kd, rfl, ho, hb⟩; replace HT := hide (HT.out.step hb); (try replace HL := hide (HL.out.step hb)); (try replace HL3 := hide (HL3.out.step hb)); have HDX := hide (Sl.of_ownN ho); have c0 := HT.out.now.2.cell 0; have c1 := HT.out.now.2.cell 1; clear hb ho; simp only [])
        | (go_at_call 57; (with_reducible refine (copyGauss _ _ y _ HT.out.now.1.1.2 hl').mono ?_); rintro e w3 ⟨D', kd', rfl, ho, hb⟩; replace HT := hide (HT.out.step hb); (try replace HL := hide (HL.out.step hb)); replace HDX := hide (HDX.out.bel hb); have HDY := hide (Sl.of_ownN ho); have c0 := HT.out.now.2.cell 0; have c1 := HT.out.now.2.cell 1; clear hb ho; simp only [])
        | (go_at_call 58; (with_reducible refine (HER.out _ _ _ _ _ HDX.out HDY.out).mono ?_); rintro e w4 ⟨rfl, hb⟩; replace HT := hide (HT.out.step hb); (try replace HL := hide (HL.out.step hb)); have c0 := HT.out.now.2.cell 0; have c1 := HT.out.now.2.cell 1; clear hb HDY; simp only [])
        | (go_at_call 59; (with_reducible refine (HEX.out _ HT.out.now.1.1.1).mono ?_); rintro e w5 ⟨rfl, hb⟩; replace HT := hide (HT.out.step hb); (try replace HL := hide (HL.out.step hb)); have c0 := HT.out.now.2.cell 0; have c1 := HT.out.now.2.cell 1; clear hb; simp only [])
        | (go_at_call 59; (with_reducible refine (HEY.out _ HT.out.now.1.1.2).mono ?_); rintro e w6 ⟨rfl, hb⟩; replace HT := hide (HT.out.step hb); (try replace HL := hide (HL.out.step hb)); have c0 := HT.out.now.2.cell 0; have c1 := HT.out.now.2.cell 1; clear hb; simp only [])
        | (go_at_call 60; go_must (refine (HERR.out _ HT.out.now.1.1.1 HT.out.now.1.1.2).mono ?_; rintro e w7 ⟨rfl, hb⟩; replace HT := hide (HT.out.step hb); (try replace HL := hide (HL.out.step hb)); have c0 := HT.out.now.2.cell 0; have c1 := HT.out.now.2.cell 1; clear hb; simp only []))
        | (go_at_call 24; refine (within_base _ _ _ _).mono ?_; rintro e w' ⟨rfl, rfl⟩; first | rw [hb0] | rw [hb1])
        | (go_at_call 58; have qq := tk5; (with_reducible refine (HE3.out _ _ _ _ _ HDX.out HL3.out.now).mono ?_); rintro e w11 ⟨rfl, hb⟩; replace HT := hide (HT.out.step hb); have c0 := HT.out.now.2.cell 0; have c1 := HT.out.now.2.cell 1; clear hb qq; simp only [])
        | (go_at_call 58; have qq := HL3; (with_reducible refine (HE2.out _ _ _ _ _ HDX.out HL.out.now).mono ?_); rintro e w10 ⟨rfl, hb⟩; replace HT := hide (HT.out.step hb); replace HL3 := hide (HL3.out.step hb); have tk5 := hide trivial; have c0 := HT.out.now.2.cell 0; have c1 := HT.out.now.2.cell 1; clear hb qq; simp only []))
      go_ret
      exact ⟨rfl, HT.out.now.1.2⟩
    · have copyL := hide (show ∀ D cd W, Sl W D (gv L) → Calls Try.prog 57 #[.slice D x.length cd] W fun e w' => ∃ A' c', e = .returned (.slice A' x.length c') ∧ w'.ownsRow W.heap.size 30 2 (.slice A' x.length c') x.length (gv L) ∧ Below W.heap.size W w' from fun D cd W h => by have := copyGauss D cd L W h hlL; rw [HLL.out] at this; exact this)
      go_enter Try.func9, Try.ntmps9
      go_wp2_with (go_at_call 20; go_must (refine (awake_ok _).mono ?_; rintro e w1 ⟨rfl, hb⟩; have HT := hide (((HT0.out.alloc (.cells #[.int .i64 n0, .int .i64 n1] 84)).and (stay_new w 84 #[.int .i64 n0, .int .i64 n1])).step hb); have c0 := HT.out.now.2.cell 0; have c1 := HT.out.now.2.cell 1; clear hb; simp only []))
      replace HT := hide HT.out.drew
      try replace HL := hide HL.out.drew
      go_region_held3 (fun w' => w'.cell? ⟨w.heap.size, 0, none⟩ = some (.int .i64 n0) ∧ w'.cell? ⟨w.heap.size, 1, none⟩ = some (.int .i64 n1)) (first | (simp [go_sem]; done) | (simp [go_sem, *]; done) | go_keep)
        (first
          | (go_at_call 57; go_must (refine (copyGauss _ _ x _ HT.out.now.1.1.1 hl).mono ?_; rintro e w1a ⟨D1, d1, rfl, ho, hb⟩; replace HT := hide (HT.out.step hb); (try replace HL := hide (HL.out.step hb)); have HD := hide (Sl.of_ownN ho); have c0 := HT.out.now.2.cell 0; have c1 := HT.out.now.2.cell 1; clear hb ho))
          | (go_at_call 56; go_must (refine (HCL.out _ _ _ HD.out).mono ?_; rintro e w1b ⟨C1, k1, rfl, hs, hb⟩; replace HT := hide (HT.out.step hb); (try replace HL := hide (HL.out.step hb)); have HL := hide (stay_sl hs); have c0 := HT.out.now.2.cell 0; have c1 := HT.out.now.2.cell 1; clear hb hs)))
      go_wp2_with (first
        | (go_at_call 57; (with_reducible refine (copyGauss _ _ x _ HT.out.now.1.1.1 hl).mono ?_); rintro e w2 ⟨D, kd, rfl, ho, hb⟩; replace HT := hide (HT.out.step hb); (try replace HL := hide (HL.out.step hb)); (try replace HL3 := hide (HL3.out.step hb)); have HDX := hide (Sl.of_ownN ho); have c0 := HT.out.now.2.cell 0; have c1 := HT.out.now.2.cell 1; clear hb ho; simp only [])
        | (go_at_call 57; (with_reducible refine (copyGauss _ _ y _ HT.out.now.1.1.2 hl').mono ?_); rintro e w3 ⟨D', kd', rfl, ho, hb⟩; replace HT := hide (HT.out.step hb); (try replace HL := hide (HL.out.step hb)); replace HDX := hide (HDX.out.bel hb); have HDY := hide (Sl.of_ownN ho); have c0 := HT.out.now.2.cell 0; have c1 := HT.out.now.2.cell 1; clear hb ho; simp only [])
        | (go_at_call 58; (with_reducible refine (HER.out _ _ _ _ _ HDX.out HDY.out).mono ?_); rintro e w4 ⟨rfl, hb⟩; replace HT := hide (HT.out.step hb); (try replace HL := hide (HL.out.step hb)); have c0 := HT.out.now.2.cell 0; have c1 := HT.out.now.2.cell 1; clear hb HDY; simp only [])
        | (go_at_call 59; (with_reducible refine (HEX.out _ HT.out.now.1.1.1).mono ?_); rintro e w5 ⟨rfl, hb⟩; replace HT := hide (HT.out.step hb); (try replace HL := hide (HL.out.step hb)); have c0 := HT.out.now.2.cell 0; have c1 := HT.out.now.2.cell 1; clear hb; simp only [])
        | (go_at_call 59; (with_reducible refine (HEY.out _ HT.out.now.1.1.2).mono ?_); rintro e w6 ⟨rfl, hb⟩; replace HT := hide (HT.out.step hb); (try replace HL := hide (HL.out.step hb)); have c0 := HT.out.now.2.cell 0; have c1 := HT.out.now.2.cell 1; clear hb; simp only [])
        | (go_at_call 60; go_must (refine (HERR.out _ HT.out.now.1.1.1 HT.out.now.1.1.2).mono ?_; rintro e w7 ⟨rfl, hb⟩; replace HT := hide (HT.out.step hb); (try replace HL := hide (HL.out.step hb)); have c0 := HT.out.now.2.cell 0; have c1 := HT.out.now.2.cell 1; clear hb; simp only []))
        | (go_at_call 24; refine (within_base _ _ _ _).mono ?_; rintro e w' ⟨rfl, rfl⟩; first | rw [hb0] | rw [hb1])
        | (go_at_call 62; go_must (refine (HCR.out _ HT.out.now.1.1.1).mono ?_; rintro e w8 ⟨C8, k8, rfl, hs, hb⟩; replace HT := hide (HT.out.step hb); replace HL := hide (HL.out.step hb); have HL8 := hide hs; have c0 := HT.out.now.2.cell 0; have c1 := HT.out.now.2.cell 1; clear hb hs; simp only []))
        | (go_at_call 61; have qq := HL8; go_must (refine (HSM.out _ _ _ _ _ HL.out.now HL8.out).mono ?_; rintro e w9 ⟨rfl, q9, rfl⟩; replace HT := hide (HT.out.drewN q9); replace HL := hide (HL.out.drewN q9); have c0 := HT.out.now.2.cell 0; have c1 := HT.out.now.2.cell 1; clear qq HL8; simp only [])))
      replace HT := hide HT.out.drew
      try replace HL := hide HL.out.drew
      go_region_held3 (fun w' => w'.cell? ⟨w.heap.size, 0, none⟩ = some (.int .i64 n0) ∧ w'.cell? ⟨w.heap.size, 1, none⟩ = some (.int .i64 n1)) (first | (simp [go_sem]; done) | (simp [go_sem, *]; done) | go_keep)
        (first
          | (go_at_call 57; go_must (refine (copyL.out _ _ _ HL.out.now).mono ?_; rintro e w2a ⟨D2, d2, rfl, ho, hb⟩; replace HT := hide (HT.out.step hb); (try replace HL := hide (HL.out.step hb)); have HD := hide (Sl.of_ownN ho); have c0 := HT.out.now.2.cell 0; have c1 := HT.out.now.2.cell 1; clear hb ho))
          | (go_at_call 56; go_must (refine (HC2.out _ _ _ HD.out).mono ?_; rintro e w2b ⟨C2, k2, rfl, hs, hb⟩; replace HT := hide (HT.out.step hb); (try replace HL := hide (HL.out.step hb)); have HL2 := hide (stay_sl hs); have c0 := HT.out.now.2.cell 0; have c1 := HT.out.now.2.cell 1; clear hb hs)))
      go_wp2_with (first
        | (go_at_call 57; (with_reducible refine (copyGauss _ _ x _ HT.out.now.1.1.1 hl).mono ?_); rintro e w2 ⟨D, kd, rfl, ho, hb⟩; replace HT := hide (HT.out.step hb); (try replace HL := hide (HL.out.step hb)); (try replace HL3 := hide (HL3.out.step hb)); have HDX := hide (Sl.of_ownN ho); have c0 := HT.out.now.2.cell 0; have c1 := HT.out.now.2.cell 1; clear hb ho; simp only [])
        | (go_at_call 57; (with_reducible refine (copyGauss _ _ y _ HT.out.now.1.1.2 hl').mono ?_); rintro e w3 ⟨D', kd', rfl, ho, hb⟩; replace HT := hide (HT.out.step hb); (try replace HL := hide (HL.out.step hb)); replace HDX := hide (HDX.out.bel hb); have HDY := hide (Sl.of_ownN ho); have c0 := HT.out.now.2.cell 0; have c1 := HT.out.now.2.cell 1; clear hb ho; simp only [])
        | (go_at_call 58; (with_reducible refine (HER.out _ _ _ _ _ HDX.out HDY.out).mono ?_); rintro e w4 ⟨rfl, hb⟩; replace HT := hide (HT.out.step hb); (try replace HL := hide (HL.out.step hb)); have c0 := HT.out.now.2.cell 0; have c1 := HT.out.now.2.cell 1; clear hb HDY; simp only [])
        | (go_at_call 59; (with_reducible refine (HEX.out _ HT.out.now.1.1.1).mono ?_); rintro e w5 ⟨rfl, hb⟩; replace HT := hide (HT.out.step hb); (try replace HL := hide (HL.out.step hb)); have c0 := HT.out.now.2.cell 0; have c1 := HT.out.now.2.cell 1; clear hb; simp only [])
        | (go_at_call 59; (with_reducible refine (HEY.out _ HT.out.now.1.1.2).mono ?_); rintro e w6 ⟨rfl, hb⟩; replace HT := hide (HT.out.step hb); (try replace HL := hide (HL.out.step hb)); have c0 := HT.out.now.2.cell 0; have c1 := HT.out.now.2.cell 1; clear hb; simp only [])
        | (go_at_call 60; go_must (refine (HERR.out _ HT.out.now.1.1.1 HT.out.now.1.1.2).mono ?_; rintro e w7 ⟨rfl, hb⟩; replace HT := hide (HT.out.step hb); (try replace HL := hide (HL.out.step hb)); have c0 := HT.out.now.2.cell 0; have c1 := HT.out.now.2.cell 1; clear hb; simp only []))
        | (go_at_call 24; refine (within_base _ _ _ _).mono ?_; rintro e w' ⟨rfl, rfl⟩; first | rw [hb0] | rw [hb1])
        | (go_at_call 61; go_must (refine (HSM.out _ _ _ _ _ HL.out.now HL2.out.now).mono ?_; rintro e w9 ⟨rfl, q9, rfl⟩; replace HT := hide (HT.out.drewN q9); replace HL := hide (HL.out.drewN q9); have c0 := HT.out.now.2.cell 0; have c1 := HT.out.now.2.cell 1; clear HL2; simp only [])))
      go_ret
      exact ⟨rfl, HT.out.now.1.2⟩
    · have copyL := hide (show ∀ D cd W, Sl W D (gv L) → Calls Try.prog 57 #[.slice D x.length cd] W fun e w' => ∃ A' c', e = .returned (.slice A' x.length c') ∧ w'.ownsRow W.heap.size 30 2 (.slice A' x.length c') x.length (gv L) ∧ Below W.heap.size W w' from fun D cd W h => by have := copyGauss D cd L W h hlL; rw [HLL.out] at this; exact this)
      go_enter Try.func9, Try.ntmps9
      go_wp2_with (go_at_call 20; go_must (refine (awake_ok _).mono ?_; rintro e w1 ⟨rfl, hb⟩; have HT := hide (((HT0.out.alloc (.cells #[.int .i64 n0, .int .i64 n1] 84)).and (stay_new w 84 #[.int .i64 n0, .int .i64 n1])).step hb); have c0 := HT.out.now.2.cell 0; have c1 := HT.out.now.2.cell 1; clear hb; simp only []))
      replace HT := hide HT.out.drew
      try replace HL := hide HL.out.drew
      go_region_held3 (fun w' => w'.cell? ⟨w.heap.size, 0, none⟩ = some (.int .i64 n0) ∧ w'.cell? ⟨w.heap.size, 1, none⟩ = some (.int .i64 n1)) (first | (simp [go_sem]; done) | (simp [go_sem, *]; done) | go_keep)
        (first
          | (go_at_call 57; go_must (refine (copyGauss _ _ x _ HT.out.now.1.1.1 hl).mono ?_; rintro e w1a ⟨D1, d1, rfl, ho, hb⟩; replace HT := hide (HT.out.step hb); (try replace HL := hide (HL.out.step hb)); have HD := hide (Sl.of_ownN ho); have c0 := HT.out.now.2.cell 0; have c1 := HT.out.now.2.cell 1; clear hb ho))
          | (go_at_call 56; go_must (refine (HCL.out _ _ _ HD.out).mono ?_; rintro e w1b ⟨C1, k1, rfl, hs, hb⟩; replace HT := hide (HT.out.step hb); (try replace HL := hide (HL.out.step hb)); have HL := hide (stay_sl hs); have c0 := HT.out.now.2.cell 0; have c1 := HT.out.now.2.cell 1; clear hb hs)))
      go_wp2_with (first
        | (go_at_call 57; (with_reducible refine (copyGauss _ _ x _ HT.out.now.1.1.1 hl).mono ?_); rintro e w2 ⟨D, kd, rfl, ho, hb⟩; replace HT := hide (HT.out.step hb); (try replace HL := hide (HL.out.step hb)); (try replace HL3 := hide (HL3.out.step hb)); have HDX := hide (Sl.of_ownN ho); have c0 := HT.out.now.2.cell 0; have c1 := HT.out.now.2.cell 1; clear hb ho; simp only [])
        | (go_at_call 57; (with_reducible refine (copyGauss _ _ y _ HT.out.now.1.1.2 hl').mono ?_); rintro e w3 ⟨D', kd', rfl, ho, hb⟩; replace HT := hide (HT.out.step hb); (try replace HL := hide (HL.out.step hb)); replace HDX := hide (HDX.out.bel hb); have HDY := hide (Sl.of_ownN ho); have c0 := HT.out.now.2.cell 0; have c1 := HT.out.now.2.cell 1; clear hb ho; simp only [])
        | (go_at_call 58; (with_reducible refine (HER.out _ _ _ _ _ HDX.out HDY.out).mono ?_); rintro e w4 ⟨rfl, hb⟩; replace HT := hide (HT.out.step hb); (try replace HL := hide (HL.out.step hb)); have c0 := HT.out.now.2.cell 0; have c1 := HT.out.now.2.cell 1; clear hb HDY; simp only [])
        | (go_at_call 59; (with_reducible refine (HEX.out _ HT.out.now.1.1.1).mono ?_); rintro e w5 ⟨rfl, hb⟩; replace HT := hide (HT.out.step hb); (try replace HL := hide (HL.out.step hb)); have c0 := HT.out.now.2.cell 0; have c1 := HT.out.now.2.cell 1; clear hb; simp only [])
        | (go_at_call 59; (with_reducible refine (HEY.out _ HT.out.now.1.1.2).mono ?_); rintro e w6 ⟨rfl, hb⟩; replace HT := hide (HT.out.step hb); (try replace HL := hide (HL.out.step hb)); have c0 := HT.out.now.2.cell 0; have c1 := HT.out.now.2.cell 1; clear hb; simp only [])
        | (go_at_call 60; go_must (refine (HERR.out _ HT.out.now.1.1.1 HT.out.now.1.1.2).mono ?_; rintro e w7 ⟨rfl, hb⟩; replace HT := hide (HT.out.step hb); (try replace HL := hide (HL.out.step hb)); have c0 := HT.out.now.2.cell 0; have c1 := HT.out.now.2.cell 1; clear hb; simp only []))
        | (go_at_call 24; refine (within_base _ _ _ _).mono ?_; rintro e w' ⟨rfl, rfl⟩; first | rw [hb0] | rw [hb1])
        | (go_at_call 62; go_must (refine (HCR.out _ HT.out.now.1.1.1).mono ?_; rintro e w8 ⟨C8, k8, rfl, hs, hb⟩; replace HT := hide (HT.out.step hb); replace HL := hide (HL.out.step hb); have HL8 := hide hs; have c0 := HT.out.now.2.cell 0; have c1 := HT.out.now.2.cell 1; clear hb hs; simp only []))
        | (go_at_call 61; have qq := HL8; go_must (refine (HSM.out _ _ _ _ _ HL.out.now HL8.out).mono ?_; rintro e w9 ⟨rfl, q9, rfl⟩; replace HT := hide (HT.out.drewN q9); replace HL := hide (HL.out.drewN q9); have c0 := HT.out.now.2.cell 0; have c1 := HT.out.now.2.cell 1; clear qq HL8; simp only [])))
      replace HT := hide HT.out.drew
      try replace HL := hide HL.out.drew
      go_region_held3 (fun w' => w'.cell? ⟨w.heap.size, 0, none⟩ = some (.int .i64 n0) ∧ w'.cell? ⟨w.heap.size, 1, none⟩ = some (.int .i64 n1)) (first | (simp [go_sem]; done) | (simp [go_sem, *]; done) | go_keep)
        (first
          | (go_at_call 57; go_must (refine (copyL.out _ _ _ HL.out.now).mono ?_; rintro e w2a ⟨D2, d2, rfl, ho, hb⟩; replace HT := hide (HT.out.step hb); (try replace HL := hide (HL.out.step hb)); have HD := hide (Sl.of_ownN ho); have c0 := HT.out.now.2.cell 0; have c1 := HT.out.now.2.cell 1; clear hb ho))
          | (go_at_call 56; go_must (refine (HC2.out _ _ _ HD.out).mono ?_; rintro e w2b ⟨C2, k2, rfl, hs, hb⟩; replace HT := hide (HT.out.step hb); (try replace HL := hide (HL.out.step hb)); have HL2 := hide (stay_sl hs); have c0 := HT.out.now.2.cell 0; have c1 := HT.out.now.2.cell 1; clear hb hs)))
      go_wp2_with (first
        | (go_at_call 57; (with_reducible refine (copyGauss _ _ x _ HT.out.now.1.1.1 hl).mono ?_); rintro e w2 ⟨D, kd, rfl, ho, hb⟩; replace HT := hide (HT.out.step hb); (try replace HL := hide (HL.out.step hb)); (try replace HL3 := hide (HL3.out.step hb)); have HDX := hide (Sl.of_ownN ho); have c0 := HT.out.now.2.cell 0; have c1 := HT.out.now.2.cell 1; clear hb ho; simp only [])
        | (go_at_call 57; (with_reducible refine (copyGauss _ _ y _ HT.out.now.1.1.2 hl').mono ?_); rintro e w3 ⟨D', kd', rfl, ho, hb⟩; replace HT := hide (HT.out.step hb); (try replace HL := hide (HL.out.step hb)); replace HDX := hide (HDX.out.bel hb); have HDY := hide (Sl.of_ownN ho); have c0 := HT.out.now.2.cell 0; have c1 := HT.out.now.2.cell 1; clear hb ho; simp only [])
        | (go_at_call 58; (with_reducible refine (HER.out _ _ _ _ _ HDX.out HDY.out).mono ?_); rintro e w4 ⟨rfl, hb⟩; replace HT := hide (HT.out.step hb); (try replace HL := hide (HL.out.step hb)); have c0 := HT.out.now.2.cell 0; have c1 := HT.out.now.2.cell 1; clear hb HDY; simp only [])
        | (go_at_call 59; (with_reducible refine (HEX.out _ HT.out.now.1.1.1).mono ?_); rintro e w5 ⟨rfl, hb⟩; replace HT := hide (HT.out.step hb); (try replace HL := hide (HL.out.step hb)); have c0 := HT.out.now.2.cell 0; have c1 := HT.out.now.2.cell 1; clear hb; simp only [])
        | (go_at_call 59; (with_reducible refine (HEY.out _ HT.out.now.1.1.2).mono ?_); rintro e w6 ⟨rfl, hb⟩; replace HT := hide (HT.out.step hb); (try replace HL := hide (HL.out.step hb)); have c0 := HT.out.now.2.cell 0; have c1 := HT.out.now.2.cell 1; clear hb; simp only [])
        | (go_at_call 60; go_must (refine (HERR.out _ HT.out.now.1.1.1 HT.out.now.1.1.2).mono ?_; rintro e w7 ⟨rfl, hb⟩; replace HT := hide (HT.out.step hb); (try replace HL := hide (HL.out.step hb)); have c0 := HT.out.now.2.cell 0; have c1 := HT.out.now.2.cell 1; clear hb; simp only []))
        | (go_at_call 24; refine (within_base _ _ _ _).mono ?_; rintro e w' ⟨rfl, rfl⟩; first | rw [hb0] | rw [hb1])
        | (go_at_call 61; go_must (refine (HSM.out _ _ _ _ _ HL.out.now HL2.out.now).mono ?_; rintro e w9 ⟨rfl, q9, rfl⟩; replace HT := hide (HT.out.drewN q9); replace HL := hide (HL.out.drewN q9); have c0 := HT.out.now.2.cell 0; have c1 := HT.out.now.2.cell 1; clear HL2; simp only [])))
      replace HT := hide HT.out.drew
      try replace HL := hide HL.out.drew
      go_region_held3 (fun w' => w'.cell? ⟨w.heap.size, 0, none⟩ = some (.int .i64 n0) ∧ w'.cell? ⟨w.heap.size, 1, none⟩ = some (.int .i64 n1)) (first | (simp [go_sem]; done) | (simp [go_sem, *]; done) | go_keep)
        (first
          | (go_at_call 57; go_must (refine (copyGauss _ _ x _ HT.out.now.1.1.1 hl).mono ?_; rintro e w3a ⟨D3, d3, rfl, ho, hb⟩; replace HT := hide (HT.out.step hb); (try replace HL := hide (HL.out.step hb)); have HD := hide (Sl.of_ownN ho); have c0 := HT.out.now.2.cell 0; have c1 := HT.out.now.2.cell 1; clear hb ho))
          | (go_at_call 56; go_must (refine (HC3.out _ _ _ HD.out).mono ?_; rintro e w3b ⟨C3, k3, rfl, hs, hb⟩; replace HT := hide (HT.out.step hb); (try replace HL := hide (HL.out.step hb)); have HL3 := hide (stay_sl hs); have c0 := HT.out.now.2.cell 0; have c1 := HT.out.now.2.cell 1; clear hb hs)))
      go_wp2_with (first
        | (go_at_call 57; (with_reducible refine (copyGauss _ _ x _ HT.out.now.1.1.1 hl).mono ?_); rintro e w2 ⟨D, kd, rfl, ho, hb⟩; replace HT := hide (HT.out.step hb); (try replace HL := hide (HL.out.step hb)); (try replace HL3 := hide (HL3.out.step hb)); have HDX := hide (Sl.of_ownN ho); have c0 := HT.out.now.2.cell 0; have c1 := HT.out.now.2.cell 1; clear hb ho; simp only [])
        | (go_at_call 57; (with_reducible refine (copyGauss _ _ y _ HT.out.now.1.1.2 hl').mono ?_); rintro e w3 ⟨D', kd', rfl, ho, hb⟩; replace HT := hide (HT.out.step hb); (try replace HL := hide (HL.out.step hb)); replace HDX := hide (HDX.out.bel hb); have HDY := hide (Sl.of_ownN ho); have c0 := HT.out.now.2.cell 0; have c1 := HT.out.now.2.cell 1; clear hb ho; simp only [])
        | (go_at_call 58; (with_reducible refine (HER.out _ _ _ _ _ HDX.out HDY.out).mono ?_); rintro e w4 ⟨rfl, hb⟩; replace HT := hide (HT.out.step hb); (try replace HL := hide (HL.out.step hb)); have c0 := HT.out.now.2.cell 0; have c1 := HT.out.now.2.cell 1; clear hb HDY; simp only [])
        | (go_at_call 59; (with_reducible refine (HEX.out _ HT.out.now.1.1.1).mono ?_); rintro e w5 ⟨rfl, hb⟩; replace HT := hide (HT.out.step hb); (try replace HL := hide (HL.out.step hb)); have c0 := HT.out.now.2.cell 0; have c1 := HT.out.now.2.cell 1; clear hb; simp only [])
        | (go_at_call 59; (with_reducible refine (HEY.out _ HT.out.now.1.1.2).mono ?_); rintro e w6 ⟨rfl, hb⟩; replace HT := hide (HT.out.step hb); (try replace HL := hide (HL.out.step hb)); have c0 := HT.out.now.2.cell 0; have c1 := HT.out.now.2.cell 1; clear hb; simp only [])
        | (go_at_call 60; go_must (refine (HERR.out _ HT.out.now.1.1.1 HT.out.now.1.1.2).mono ?_; rintro e w7 ⟨rfl, hb⟩; replace HT := hide (HT.out.step hb); (try replace HL := hide (HL.out.step hb)); have c0 := HT.out.now.2.cell 0; have c1 := HT.out.now.2.cell 1; clear hb; simp only []))
        | (go_at_call 24; refine (within_base _ _ _ _).mono ?_; rintro e w' ⟨rfl, rfl⟩; first | rw [hb0] | rw [hb1])
        | (go_at_call 58; have qq := tk5; (with_reducible refine (HE3.out _ _ _ _ _ HDX.out HL3.out.now).mono ?_); rintro e w11 ⟨rfl, hb⟩; replace HT := hide (HT.out.step hb); have c0 := HT.out.now.2.cell 0; have c1 := HT.out.now.2.cell 1; clear hb qq; simp only [])
        | (go_at_call 58; have qq := HL3; (with_reducible refine (HE2.out _ _ _ _ _ HDX.out HL.out.now).mono ?_); rintro e w10 ⟨rfl, hb⟩; replace HT := hide (HT.out.step hb); replace HL3 := hide (HL3.out.step hb); have tk5 := hide trivial; have c0 := HT.out.now.2.cell 0; have c1 := HT.out.now.2.cell 1; clear hb qq; simp only []))
      go_ret
      exact ⟨rfl, HT.out.now.1.2⟩
  · have hce : clE x n0 = 2 := by unfold clE firstOf; rw [if_pos hman, hu]; rfl
    have HCL := hide (show ∀ D cd W, Sl W D (gv x) → Calls Try.prog 56 #[.slice D x.length cd, .int .i64 n0] W fun e w' => ∃ C k, e = .returned (.tuple #[.slice C 0 k, .int .i64 2]) ∧ Sl w' C (gv []) ∧ Below W.heap.size W w' from fun D cd W h => by
      have := Clipped_err D cd x n0 W h (by omega) (by rw [hce]; decide)
      rw [hce] at this
      exact this.mono fun e w' ⟨h3, h4⟩ => ⟨none, 0, h3, Sl.none_gv _, h4⟩)
    clear hs0 hs1 hce hX hman hxe hYe hu
    rcases hF with ⟨q1, rfl, rfl⟩ | ⟨q1, rfl, rfl, hY1, hY2⟩ | ⟨q1, rfl, rfl, HERR⟩
    all_goals
      go_enter Try.func9, Try.ntmps9
      go_wp2_with (go_at_call 20; go_must (refine (awake_ok _).mono ?_; rintro e w1 ⟨rfl, hb⟩; have HT := hide (((HT0.out.alloc (.cells #[.int .i64 n0, .int .i64 n1] 84)).and (stay_new w 84 #[.int .i64 n0, .int .i64 n1])).step hb); have c0 := HT.out.now.2.cell 0; have c1 := HT.out.now.2.cell 1; clear hb; simp only []))
      replace HT := hide HT.out.drew
      try replace HL := hide HL.out.drew
      go_region_held3 (fun w' => w'.cell? ⟨w.heap.size, 0, none⟩ = some (.int .i64 n0) ∧ w'.cell? ⟨w.heap.size, 1, none⟩ = some (.int .i64 n1)) (first | (simp [go_sem]; done) | (simp [go_sem, *]; done) | go_keep)
        (first
          | (go_at_call 57; go_must (refine (copyGauss _ _ x _ HT.out.now.1.1.1 hl).mono ?_; rintro e w1a ⟨D1, d1, rfl, ho, hb⟩; replace HT := hide (HT.out.step hb); (try replace HL := hide (HL.out.step hb)); have HD := hide (Sl.of_ownN ho); have c0 := HT.out.now.2.cell 0; have c1 := HT.out.now.2.cell 1; clear hb ho))
          | (go_at_call 56; go_must (refine (HCL.out _ _ _ HD.out).mono ?_; rintro e w1b ⟨C1, k1, rfl, hs, hb⟩; replace HT := hide (HT.out.step hb); (try replace HL := hide (HL.out.step hb)); have HL := hide (stay_sl hs); have c0 := HT.out.now.2.cell 0; have c1 := HT.out.now.2.cell 1; clear hb hs)))
      go_wp2_with (first
        | (go_at_call 57; (with_reducible refine (copyGauss _ _ x _ HT.out.now.1.1.1 hl).mono ?_); rintro e w2 ⟨D, kd, rfl, ho, hb⟩; replace HT := hide (HT.out.step hb); (try replace HL := hide (HL.out.step hb)); (try replace HL3 := hide (HL3.out.step hb)); have HDX := hide (Sl.of_ownN ho); have c0 := HT.out.now.2.cell 0; have c1 := HT.out.now.2.cell 1; clear hb ho; simp only [])
        | (go_at_call 57; (with_reducible refine (copyGauss _ _ y _ HT.out.now.1.1.2 hl').mono ?_); rintro e w3 ⟨D', kd', rfl, ho, hb⟩; replace HT := hide (HT.out.step hb); (try replace HL := hide (HL.out.step hb)); replace HDX := hide (HDX.out.bel hb); have HDY := hide (Sl.of_ownN ho); have c0 := HT.out.now.2.cell 0; have c1 := HT.out.now.2.cell 1; clear hb ho; simp only [])
        | (go_at_call 58; (with_reducible refine (HER.out _ _ _ _ _ HDX.out HDY.out).mono ?_); rintro e w4 ⟨rfl, hb⟩; replace HT := hide (HT.out.step hb); (try replace HL := hide (HL.out.step hb)); have c0 := HT.out.now.2.cell 0; have c1 := HT.out.now.2.cell 1; clear hb HDY; simp only [])
        | (go_at_call 59; (with_reducible refine (HEX.out _ HT.out.now.1.1.1).mono ?_); rintro e w5 ⟨rfl, hb⟩; replace HT := hide (HT.out.step hb); (try replace HL := hide (HL.out.step hb)); have c0 := HT.out.now.2.cell 0; have c1 := HT.out.now.2.cell 1; clear hb; simp only [])
        | (go_at_call 59; (with_reducible refine (HEY.out _ HT.out.now.1.1.2).mono ?_); rintro e w6 ⟨rfl, hb⟩; replace HT := hide (HT.out.step hb); (try replace HL := hide (HL.out.step hb)); have c0 := HT.out.now.2.cell 0; have c1 := HT.out.now.2.cell 1; clear hb; simp only [])
        | (go_at_call 60; go_must (refine (HERR.out _ HT.out.now.1.1.1 HT.out.now.1.1.2).mono ?_; rintro e w7 ⟨rfl, hb⟩; replace HT := hide (HT.out.step hb); (try replace HL := hide (HL.out.step hb)); have c0 := HT.out.now.2.cell 0; have c1 := HT.out.now.2.cell 1; clear hb; simp only []))
        | (go_at_call 24; refine (within_base _ _ _ _).mono ?_; rintro e w' ⟨rfl, rfl⟩; first | rw [hb0] | rw [hb1]))
      go_ret
      exact ⟨rfl, HT.out.now.1.2⟩
theorem WaveClips_law (A : Option Addr) (c : Nat) (x : List (Int × Int)) (B : Option Addr) (d : Nat) (y : List (Int × Int)) (z : List Int) (w : World) (hs0 : Sl w A (gv x)) (hs1 : Sl w B (gv y)) (hz : z.length = 2 * 1) :
    Calls Try.prog 9 #[.slice A x.length c, .slice B y.length d, .agg (iv z).toArray] w fun e w' => e = .returned (.bool true) ∧ Below w.heap.size w w' := by
  match z, hz with
  | [n0, n1], _ =>
    show Calls Try.prog 9 #[.slice A x.length c, .slice B y.length d, .agg #[.int .i64 n0, .int .i64 n1]] w _
    by_cases h : (20 < x.length ∧ x.length ≤ 120) ∨ 122 < x.length ∨ 122 < y.length
    · exact WaveClips_long A B c d x y n0 n1 w h
    · by_cases h2 : 120 < x.length
      · exact WaveClips_many A B c d x y n0 n1 w hs0 hs1 h2 (by omega) (by omega)
      · by_cases hX : eachE entE x = 0
        · exact WaveClips_ok A B c d x y n0 n1 w hs0 hs1 (by omega) (by omega) hX
        · exact WaveClips_bad A B c d x y n0 n1 w hs0 hs1 (by omega) (by omega) hX
  | [], h => exact absurd h (by simp)
  | [_], h => exact absurd h (by simp)
  | _ :: _ :: _ :: _, h => exact absurd h (by simp)
end Go.Proofs.Ythfmjohbokpceaa
