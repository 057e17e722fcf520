import Derived.Test.YtppkibgemacdbaaSdB
import Derived.Test.YtppkibgemacdbaaSdP
import Derived.BigQuiet
namespace Go.Proofs.Ytppkibgemacdbaa
open Go.RowKit Go.WideShapes Go.ChangeShapes

/-! sites: reference and program -/
/-- a right site -/
structure OkS (B C P : Int) (T : List Int) : Prop where
  b : 1 ≤ B ∧ B ≤ 20
  c : 1 ≤ C ∧ C ≤ 8
  p : 0 ≤ P ∧ P ≤ 100000
  pos : 0 < T.length
  few : T.length ≤ 16
  in_ : ∀ i (h : i < T.length), 0 ≤ T[i] ∧ T[i] ≤ 1000
  asc : ∀ i (h : i + 1 < T.length), T[i] ≤ T[i + 1]

set_option maxRecDepth 100000 in
set_option maxHeartbeats 4000000 in
theorem siteErr_ref (B C P : Int) (A : Option Addr) (c n : Nat) (T : List Int) (w : World) (hn : T.length = n) (hs : Sl w A (iv T)) (hl : n ≤ 1000000) :
    Calls Try.prog 7 #[.agg #[.int .i64 B, .int .i64 C, .int .i64 P, .slice A n c]] w fun e w' => ∃ v : Int, e = .returned (.int .i64 v) ∧ (v = 0 → OkS B C P T) ∧ Below w.heap.size w w' := by
  have HS := hide hs; clear hs
  have HN := hide hn; clear hn
  have HB0 := hide (show Below w.heap.size w (w.alloc (.cells #[.int .i64 B, .int .i64 C, .int .i64 P, .slice A n c] 24)) from (Below.refl _ _).alloc (Nat.le_refl _) _)
  have HX0 := hide (Blk.new w 24 #[.int .i64 B, .int .i64 C, .int .i64 P, .slice A n c])
  cases h1 : withinB B 1 20
  · have H1 := hide h1; clear h1
    go_enter Try.func7, Try.ntmps7
    go_wp2_with (go_at_call 8; go_must (refine (within_base _ _ _ _).mono ?_; rintro e w' ⟨rfl, rfl⟩; rw [H1.out]))
    go_ret
    exact ⟨2, rfl, fun h => absurd h (by decide), HB0.out⟩
  cases h2 : withinB C 1 8
  · have H1 := hide h1; clear h1
    have H2 := hide h2; clear h2
    go_enter Try.func7, Try.ntmps7
    go_wp2_with (go_at_call 8; go_must (refine (within_base _ _ _ _).mono ?_; rintro e w' ⟨rfl, rfl⟩; (first | rw [H1.out] | rw [H2.out])))
    go_ret
    exact ⟨2, rfl, fun h => absurd h (by decide), HB0.out⟩
  cases h3 : withinB P 0 100000
  · have H1 := hide h1; clear h1
    have H2 := hide h2; clear h2
    have H3 := hide h3; clear h3
    go_enter Try.func7, Try.ntmps7
    go_wp2_with (go_at_call 8; go_must (refine (within_base _ _ _ _).mono ?_; rintro e w' ⟨rfl, rfl⟩; (first | rw [H1.out] | rw [H2.out] | rw [H3.out])))
    go_ret
    exact ⟨2, rfl, fun h => absurd h (by decide), HB0.out⟩
  have H1 := hide h1
  have H2 := hide h2
  have H3 := hide h3
  have HO := hide (show (1 ≤ B ∧ B ≤ 20) ∧ (1 ≤ C ∧ C ≤ 8) ∧ (0 ≤ P ∧ P ≤ 100000) by simp [withinB] at h1 h2 h3; exact ⟨h1, h2, h3⟩)
  clear h1 h2 h3
  by_cases hn0 : n = 0
  · have hz : ((n : Int) == 0) = true := by simp [hn0]
    clear hn0
    go_enter Try.func7, Try.ntmps7
    go_wp2_with (go_at_call 8; go_must (refine (within_base _ _ _ _).mono ?_; rintro e w' ⟨rfl, rfl⟩; (first | rw [H1.out] | rw [H2.out] | rw [H3.out])))
    go_ret
    exact ⟨10, rfl, fun h => absurd h (by decide), HB0.out⟩
  have hz : ((n : Int) == 0) = false := by rw [beq_eq_false_iff_ne]; omega
  have HN0 := hide hn0; clear hn0
  by_cases hn16 : 16 < n
  · have hg : (16 : Int) < (n : Int) := by omega
    go_enter Try.func7, Try.ntmps7
    go_wp2_with (go_at_call 8; go_must (refine (within_base _ _ _ _).mono ?_; rintro e w' ⟨rfl, rfl⟩; (first | rw [H1.out] | rw [H2.out] | rw [H3.out])))
    go_ret
    exact ⟨8, rfl, fun h => absurd h (by decide), HB0.out⟩
  have hg : ¬ (16 : Int) < (n : Int) := by omega
  go_enter Try.func7, Try.ntmps7
  go_wp2_with (go_at_call 8; go_must (refine (within_base _ _ _ _).mono ?_; rintro e w' ⟨rfl, rfl⟩; (first | rw [H1.out] | rw [H2.out] | rw [H3.out])))
  go_loopw [3] (fun i wr => ∃ k : Nat, k ≤ n ∧ i = .int .i64 k ∧ (∀ j (h : j < T.length), j < k → (0 ≤ T[j] ∧ T[j] ≤ 1000) ∧ ∀ (h' : 0 < j), T[j - 1] ≤ T[j]) ∧ Blk wr w.heap.size 24 #[.int .i64 B, .int .i64 C, .int .i64 P, .slice A n c] ∧ Below w.heap.size w wr) (fun i _ => n - (intOf i).toNat)
  case atStart => exact ⟨0, Nat.zero_le _, rfl, fun j _ hj => absurd hj (by omega), HX0.out, HB0.out⟩
  case round =>
    obtain ⟨k, hk, rfl, hpre, hbx, hbel⟩ := hrel
    have HPRE := hide hpre
    have HBX := hide hbx
    have HBE := hide hbel
    have z0 : wr.cell? ⟨w.heap.size, 3, none⟩ = some (.slice A n c) := hbx.cell 3
    clear hpre hbx hbel
    by_cases hlt : k < n
    · have hkT : k < T.length := by rw [HN.out]; exact hlt
      obtain ⟨b, off, rfl, d0⟩ := HS.out.int hkT
      have d1 : wr.cell? ⟨b, off + k, none⟩ = some (.int .i64 T[k]) := (HBE.out.cell (lt_of_cell d0)).trans d0
      have hki : (k : Int) < (n : Int) := by omega
      obtain ⟨x, hx⟩ : ∃ x, T[k] = x := ⟨_, rfl⟩
      rw [hx] at d1
      cases h4 : withinB x 0 1000
      · have H4 := hide h4; clear h4 hx d0
        go_wp2_with (go_at_call 8; go_must (refine (within_base _ _ _ _).mono ?_; rintro e w' ⟨rfl, rfl⟩; rw [H4.out]))
        go_ret
        exact ⟨2, rfl, fun h => absurd h (by decide), HBE.out⟩
      · have H4 := hide h4
        have HX := hide hx
        have HR := hide (show 0 ≤ x ∧ x ≤ 1000 by simpa [withinB] using h4)
        clear h4 hx d0
        rcases (by cases k; exact .inl rfl; exact .inr ⟨_, rfl⟩ : k = 0 ∨ ∃ j, k = j + 1) with hk0 | ⟨j, hj⟩
        · have hd : decide (0 < k) = false := decide_eq_false (by omega)
          have HK0 := hide hk0; clear hk0
          go_wp2_with (go_at_call 8; go_must (refine (within_base _ _ _ _).mono ?_; rintro e w' ⟨rfl, rfl⟩; rw [H4.out]))
          go_quiet (fail)
          go_wp2
          go_roundw
          case rel => exact ⟨k + 1, by omega, by go_num, fun j h hj => by
            have hk0 := HK0.out
            obtain rfl : j = k := by omega
            exact ⟨by rw [HX.out]; exact HR.out, fun h' => absurd h' (by omega)⟩, HBX.out.drewN _, below_drewN HBE.out _⟩
          case measure => simp [intOf]; omega
        · have hjT : j < T.length := by rw [HN.out]; omega
          obtain ⟨b', off', e, d2⟩ := HS.out.int hjT
          injection e with e
          injection e with e1 e2
          subst e1 e2
          have d3 : wr.cell? ⟨b, off + j, none⟩ = some (.int .i64 T[j]) := (HBE.out.cell (lt_of_cell d2)).trans d2
          obtain ⟨y, hy⟩ : ∃ y, T[j] = y := ⟨_, rfl⟩
          rw [hy] at d3
          have HY := hide hy
          have HJ := hide hj
          have hd : decide (0 < k) = true := decide_eq_true (by omega)
          have e1 : IntKind.i64.wrap ((k : Int) - 1) = (j : Int) := by rw [IntWalk.i64_in _ (by omega)]; omega
          have hji : (j : Int) < (n : Int) := by omega
          clear hy hj d2
          by_cases hxy : x < y
          · have hd2 : decide (x < y) = true := decide_eq_true hxy
            go_wp2_with (go_at_call 8; go_must (refine (within_base _ _ _ _).mono ?_; rintro e w' ⟨rfl, rfl⟩; rw [H4.out]))
            go_quiet (fail)
            go_wp2
            go_ret
            exact ⟨9, rfl, fun h => absurd h (by decide), below_drewN HBE.out _⟩
          · have hd2 : decide (x < y) = false := decide_eq_false hxy
            go_wp2_with (go_at_call 8; go_must (refine (within_base _ _ _ _).mono ?_; rintro e w' ⟨rfl, rfl⟩; rw [H4.out]))
            go_quiet (fail)
            go_wp2
            go_roundw
            case rel => exact ⟨k + 1, by omega, by go_num, fun i h hi => by
              by_cases q : i < k
              · exact HPRE.out i h q
              · obtain rfl : i = k := by omega
                have hj := HJ.out
                subst hj
                exact ⟨by rw [HX.out]; exact HR.out, fun h' => by
                  show T[j] ≤ T[j + 1]
                  rw [HX.out, HY.out]; omega⟩, HBX.out.drewN _, below_drewN HBE.out _⟩
            case measure => simp [intOf]; omega
    · have HF := hide (show OkS B C P T from ⟨HO.out.1, HO.out.2.1, HO.out.2.2, by have := HN.out; have := HN0.out; omega, by have := HN.out; omega, fun i h => (HPRE.out i h (by have := HN.out; omega)).1, fun i h => (HPRE.out (i + 1) h (by have := HN.out; omega)).2 (by omega)⟩)
      go_wp2
      go_ret
      exact ⟨0, rfl, fun _ => HF.out, HBE.out⟩
end Go.Proofs.Ytppkibgemacdbaa
