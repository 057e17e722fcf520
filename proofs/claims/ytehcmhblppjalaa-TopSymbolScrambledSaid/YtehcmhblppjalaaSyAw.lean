import Derived.Test.YtehcmhblppjalaaSyMod
import Derived.Test.YtehcmhblppjalaaSyP
namespace Go.Proofs.Ytehcmhblppjalaa
open Go.RowKit Go.WideShapes Go.ChangeShapes

/-! chapter 3's examples are as told (symbolAwake) -/
theorem ga_under : Try.prog.underlying 43 = some (.struct (Try.prog.fieldsOf 43)) := by kernel_rfl
theorem ga_held : Try.prog.stoodInHeld 43 = false := by kernel_rfl
theorem ga_beq (x y : Int × Int) : (x.1 == y.1 && x.2 == y.2) = decide (x = y) := by
  obtain ⟨a, b⟩ := x
  obtain ⟨c, d⟩ := y
  by_cases h : a = c <;> by_cases h' : b = d <;> simp [h, h']
set_option maxRecDepth 100000 in
theorem ga_neq (x y : Int × Int) (w : World) : (binOp .neq 43 (.agg #[.int .i64 x.1, .int .i64 x.2]) (.agg #[.int .i64 y.1, .int .i64 y.2])).run Try.prog w = .ok (.bool (!(decide (x = y)))) w := by
  rw [← ga_beq, run_neq_struct, run_equalIn_agg (d := 9999) (ht := ga_under) (hp := ga_held)]
  simp [go_sem]
  (repeat' split) <;> simp_all
set_option maxRecDepth 100000 in
theorem sameGauss (A B : Option Addr) (c d : Nat) (a b : List (Int × Int)) (w : World) (ha : Sl w A (gv a)) (hb : Sl w B (gv b)) (hl : a.length ≤ 1000000) (hl' : b.length ≤ 1000000) :
    Calls Try.prog 15 #[.slice A a.length c, .slice B b.length d] w fun x w' => x = .returned (.bool (decide (a = b))) ∧ ∃ n, w' = w.drewN n := by
  have HA := hide ha; clear ha
  have HB := hide hb; clear hb
  by_cases hlen : a.length = b.length
  · have hL : ((a.length : Int) != (b.length : Int)) = false := by simp [hlen]
    have h1 : b.length ≤ a.length := by omega
    have h2 : a.length ≤ b.length := by omega
    have HL := hide hlen; clear hlen
    go_enter Try.func15, Try.ntmps15
    go_wp2
    go_loopw [5] (fun i wr => ∃ k : Nat, k ≤ a.length ∧ i = .int .i64 k ∧ a.take k = b.take k ∧ ∃ n, wr = w.drewN n) (fun i _ => a.length - (intOf i).toNat)
    case atStart => exact ⟨0, Nat.zero_le _, rfl, by simp, 0, rfl⟩
    case round =>
      obtain ⟨k, hk, rfl, he, n, rfl⟩ := hrel
      have HE := hide he; clear he
      by_cases hlt : k < a.length
      · have hlt' : k < b.length := by omega
        obtain ⟨b1, o1, rfl, c0, c1⟩ := HA.out.at2 hlt
        obtain ⟨b2, o2, rfl, d0, d1⟩ := HB.out.at2 hlt'
        have g1 : (0 : Int) ≤ (k : Int) := by omega
        have g2 : (k : Int) < (a.length : Int) := by omega
        have g3 : (k : Int) < (b.length : Int) := by omega
        have HX := hide (List.take_succ_eq_append_getElem hlt)
        have HY := hide (List.take_succ_eq_append_getElem hlt')
        have HN := hide (show a[k] ≠ b[k] → a ≠ b from fun h h' => h (by subst h'; rfl))
        obtain ⟨x, hx⟩ : ∃ x, a[k] = x := ⟨_, rfl⟩
        obtain ⟨y, hy⟩ : ∃ y, b[k] = y := ⟨_, rfl⟩
        rw [hx] at c0 c1 HX HN
        rw [hy] at d0 d1 HY HN
        have hq : ∀ W, _ := ga_neq x y
        clear hx hy hlt'
        by_cases hxy : x = y
        · subst hxy
          rw [decide_eq_true rfl] at hq
          clear HN
          go_wp2
          go_quiet (fail)
          go_wp2
          go_roundw
          case rel => exact ⟨k + 1, by omega, by go_num, by rw [HX.out, HY.out, HE.out], by first | exact drewN2 _ _ _ | exact ⟨_, rfl⟩⟩
          case measure => simp [intOf]; omega
        · rw [decide_eq_false hxy] at hq
          have HNE := hide (HN.out hxy)
          clear HN hxy
          go_wp2
          go_quiet (fail)
          go_wp2
          go_ret
          exact ⟨by rw [decide_eq_false HNE.out]; rfl, by first | exact drewN2 _ _ _ | exact ⟨_, rfl⟩⟩
      · go_wp2
        go_ret
        obtain rfl : k = a.length := by omega
        have h3 := HE.out
        rw [List.take_length, HL.out, List.take_length] at h3
        exact ⟨by rw [decide_eq_true h3]; rfl, _, rfl⟩
  · have hL : ((a.length : Int) != (b.length : Int)) = true := by simp; omega
    have hne : a ≠ b := by rintro rfl; exact hlen rfl
    have HN := hide hne; clear hne
    have HL := hide hlen; clear hlen
    go_enter Try.func15, Try.ntmps15
    go_wp2
    go_ret
    exact ⟨by rw [decide_eq_false HN.out]; rfl, 0, rfl⟩
set_option maxRecDepth 100000 in
set_option maxHeartbeats 4000000 in
theorem awake_sy (w : World) : Calls Try.prog 4 #[] w fun e w' => e = .returned (.bool true) ∧ Below w.heap.size w w' := by
  go_enter Try.func4, Try.ntmps4
  go_wp2_with (first
    | (go_at_call 13; go_must (refine (modulated_sy w.heap.size 4 (by omega) _ (cells_newS w (iv [0, 1, 1, 0]) _ 0 _ rfl) (cells_newS w (iv [0, 1, 1, 0]) _ 1 _ rfl) (cells_newS w (iv [0, 1, 1, 0]) _ 2 _ rfl) (cells_newS w (iv [0, 1, 1, 0]) _ 3 _ rfl) (Sl.new w (iv [0, 1, 1, 0]) _ _ rfl)).mono ?_; rintro e w1 ⟨C1, q1, rfl, ho1, hb1⟩; have HB1 := hide (show Below w.heap.size w w1 from Below.step (by go_grown) hb1); have HS1 := hide (stay_sl (show Sl w1 C1 (gv [(3, -1)]) from Sl.of_ownN ho1)); clear ho1 hb1; simp only []))
    | (go_at_call 14; go_must (refine (Soft_sy w1.heap.size 1 _ (cells_newS w1 (gv [(5, 1)]) _ 0 _ rfl) (cells_newS w1 (gv [(5, 1)]) _ 1 _ rfl)).mono ?_; rintro e w2 ⟨C2, q2, rfl, ho2, hb2⟩; have HB2 := hide (show Below w1.heap.size w1 w2 from Below.step (by go_grown) hb2); have HS2 := hide (stay_sl (show Sl w2 C2 (iv [48, 8, -8, 24]) from Sl.of_own ho2)); have HA2 := hide (HS1.out _ HB2.out); clear ho2 hb2; simp only []))
    | (go_at_call 15; go_must (refine (sameGauss C1 _ q1 1 [(3, -1)] [(3, -1)] _ (HA2.out.alloc _) (Sl.new w2 (gv [(3, -1)]) _ _ rfl) (by decide) (by decide)).mono ?_; rintro e w3 ⟨rfl, n3, rfl⟩; simp only []))
    | (go_at_call 11; go_must (refine (ints_base C2 _ q2 4 [48, 8, -8, 24] [48, 8, -8, 24] _ ((HS2.out w2 (Below.refl _ _)).alloc _ |>.drewN _ |>.alloc _) (Sl.new _ (iv [48, 8, -8, 24]) _ _ (by simp)) (by decide) (by decide)).mono ?_; rintro e w4 ⟨rfl, n4, rfl⟩; simp only [])))
  go_ret
  exact ⟨rfl, Below.step (Below.step HB1.out HB2.out) (below_drewN (Below.alloc (below_drewN ((Below.refl _ _).alloc (Nat.le_refl _) _) n3) (by simp) _) n4)⟩
end Go.Proofs.Ytehcmhblppjalaa
