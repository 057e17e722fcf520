import Derived.Test.YthfmjohbokpceaaEstG
import Derived.Test.YthfmjohbokpceaaFlat
namespace Go.Proofs.Ythfmjohbokpceaa
open Go.RowKit Go.WideShapes Go.ChangeShapes

/-! the reference: errors of interpolation, equality of lists of phasors, powers of the imaginary unit -/
theorem BetweenErr_ref (A : Option Addr) (c m : Nat) (l : List (Int × Int)) (st : Int) (w : World) (hm : l.length = m) (hs : Sl w A (gv l)) (hl : m ≤ 1000000) :
    Calls Try.prog 98 #[.slice A m c, .int .i64 st] w fun e w' => e = .returned (.int .i64 (btE l st)) ∧ Below w.heap.size w w' := by
  have HE := hide (errGauss A c l w hs (by omega))
  rw [hm] at HE
  unfold btE shE2
  rw [hm]
  clear hs hm
  by_cases h0 : m = 0
  · rw [if_pos h0, show firstOf [10, unlessE (withinB st 1 20) 2] = 10 from rfl]
    subst h0
    clear HE
    go_enter Try.func98, Try.ntmps98
    go_wp2
    go_ret
    exact ⟨rfl, by go_grown⟩
  rw [if_neg h0]
  by_cases h : 40 < m
  · rw [if_pos h, show firstOf [8, unlessE (withinB st 1 20) 2] = 8 from rfl]
    clear HE
    go_enter Try.func98, Try.ntmps98
    go_wp2
    go_ret
    exact ⟨rfl, by go_grown⟩
  rw [if_neg h]
  obtain ⟨V, hV⟩ : ∃ V, eachE entE l = V := ⟨_, rfl⟩
  rw [hV] at HE ⊢
  clear hV
  by_cases hz : V = 0
  · subst hz
    have HW := hide (fun W => within_base st 1 20 W)
    have q0 : ((0 : Int) != 0) = false := rfl
    cases hb : withinB st 1 20
    all_goals
      rw [hb] at HW
      (first | rw [show firstOf [0, unlessE false 2] = 2 from rfl] | rw [show firstOf [0, unlessE true 2] = 0 from rfl])
      clear hb
      go_enter Try.func98, Try.ntmps98
      go_wp2_with (first
        | (go_at_call 59; go_must (refine HE.out.mono ?_; rintro e w1 ⟨rfl, hb⟩; simp only []))
        | (go_at_call 24; go_must (refine (HW.out _).mono ?_; rintro e w2 ⟨rfl, rfl⟩; simp only [])))
      go_ret
      exact ⟨rfl, hb⟩
  · have hq : (V != 0) = true := by rw [bne_iff_ne]; exact hz
    rw [show firstOf [V, unlessE (withinB st 1 20) 2] = V by unfold firstOf; rw [if_neg hz]]
    go_enter Try.func98, Try.ntmps98
    go_wp2_with (go_at_call 59; go_must (refine HE.out.mono ?_; rintro e w1 ⟨rfl, hb⟩; simp only []))
    go_ret
    exact ⟨rfl, hb⟩
theorem ph_under : Try.prog.underlying 118 = some (.struct (Try.prog.fieldsOf 118)) := by kernel_rfl
theorem ph_held : Try.prog.stoodInHeld 118 = false := by kernel_rfl
theorem ph_beq (x y : Pth) : (x.1 == y.1 && (x.2.1 == y.2.1 && x.2.2 == y.2.2)) = decide (x = y) := by
  obtain ⟨a, b, c⟩ := x
  obtain ⟨d, e, f⟩ := y
  by_cases h : a = d <;> by_cases h' : b = e <;> by_cases h'' : c = f <;> simp [h, h', h'']
set_option maxRecDepth 100000 in
theorem ph_neq (x y : Pth) (w : World) : (binOp .neq 118 (.agg #[.int .i64 x.1, .int .i64 x.2.1, .int .i64 x.2.2]) (.agg #[.int .i64 y.1, .int .i64 y.2.1, .int .i64 y.2.2])).run Try.prog w = .ok (.bool (!(decide (x = y)))) w := by
  rw [← ph_beq, run_neq_struct, run_equalIn_agg (d := 9999) (ht := ph_under) (hp := ph_held)]
  simp [go_sem]
  (repeat' split) <;> simp_all
set_option maxRecDepth 100000 in
theorem samePhasor (A B : Option Addr) (c d : Nat) (a b : List (Pth)) (w : World) (ha : Sl w A (pvs a)) (hb : Sl w B (pvs b)) (hl : a.length ≤ 1000000) (hl' : b.length ≤ 1000000) :
    Calls Try.prog 99 #[.slice A a.length c, .slice B b.length d] w fun x w' => x = .returned (.bool (decide (a = b))) ∧ ∃ n, w' = w.drewN n := by
  have HA := hide ha; clear ha
  have HB := hide hb; clear hb
  by_cases hlen : a.length = b.length
  · have hL : ((a.length : Int) != (b.length : Int)) = false := by simp [hlen]
    have h1 : b.length ≤ a.length := by omega
    have h2 : a.length ≤ b.length := by omega
    have HL := hide hlen; clear hlen
    go_enter Try.func99, Try.ntmps99
    go_wp2
    go_loopw [5] (fun i wr => ∃ k : Nat, k ≤ a.length ∧ i = .int .i64 k ∧ a.take k = b.take k ∧ ∃ n, wr = w.drewN n) (fun i _ => a.length - (intOf i).toNat)
    case atStart => exact ⟨0, Nat.zero_le _, rfl, by simp, 0, rfl⟩
    case round =>
      obtain ⟨k, hk, rfl, he, n, rfl⟩ := hrel
      have HE := hide he; clear he
      by_cases hlt : k < a.length
      · have hlt' : k < b.length := by omega
        obtain ⟨b1, o1, rfl, c0, c1, c2⟩ := HA.out.at3 hlt
        obtain ⟨b2, o2, rfl, d0, d1, d2⟩ := HB.out.at3 hlt'
        have g1 : (0 : Int) ≤ (k : Int) := by omega
        have g2 : (k : Int) < (a.length : Int) := by omega
        have g3 : (k : Int) < (b.length : Int) := by omega
        have HX := hide (List.take_succ_eq_append_getElem hlt)
        have HY := hide (List.take_succ_eq_append_getElem hlt')
        have HN := hide (show a[k] ≠ b[k] → a ≠ b from fun h h' => h (by subst h'; rfl))
        obtain ⟨x, hx⟩ : ∃ x, a[k] = x := ⟨_, rfl⟩
        obtain ⟨y, hy⟩ : ∃ y, b[k] = y := ⟨_, rfl⟩
        rw [hx] at c0 c1 c2 HX HN
        rw [hy] at d0 d1 d2 HY HN
        have hq : ∀ W, _ := ph_neq x y
        clear hx hy hlt'
        by_cases hxy : x = y
        · subst hxy
          rw [decide_eq_true rfl] at hq
          clear HN
          go_wp2
          go_quiet (fail)
          go_wp2
          go_roundw
          case rel => exact ⟨k + 1, by omega, by go_num, by rw [HX.out, HY.out, HE.out], by first | exact drewN2 _ _ _ | exact ⟨_, rfl⟩⟩
          case measure => simp [intOf]; omega
        · rw [decide_eq_false hxy] at hq
          have HNE := hide (HN.out hxy)
          clear HN hxy
          go_wp2
          go_quiet (fail)
          go_wp2
          go_ret
          exact ⟨by rw [decide_eq_false HNE.out]; rfl, by first | exact drewN2 _ _ _ | exact ⟨_, rfl⟩⟩
      · go_wp2
        go_ret
        obtain rfl : k = a.length := by omega
        have h3 := HE.out
        rw [List.take_length, HL.out, List.take_length] at h3
        exact ⟨by rw [decide_eq_true h3]; rfl, _, rfl⟩
  · have hL : ((a.length : Int) != (b.length : Int)) = true := by simp; omega
    have hne : a ≠ b := by rintro rfl; exact hlen rfl
    have HN := hide hne; clear hne
    have HL := hide hlen; clear hlen
    go_enter Try.func99, Try.ntmps99
    go_wp2
    go_ret
    exact ⟨by rw [decide_eq_false HN.out]; rfl, 0, rfl⟩
/-- powers of the imaginary unit -/
def pw : Nat → Int × Int
  | 0 => (1, 0)
  | j + 1 => (-(pw j).2, (pw j).1)
theorem pw_bd : ∀ j, -1 ≤ (pw j).1 ∧ (pw j).1 ≤ 1 ∧ -1 ≤ (pw j).2 ∧ (pw j).2 ≤ 1
  | 0 => by decide
  | j + 1 => by have := pw_bd j; unfold pw; dsimp only; omega
set_option maxRecDepth 100000 in
set_option maxHeartbeats 4000000 in
theorem power_ref (k : Nat) (hk : k < 4) (w : World) :
    Calls Try.prog 153 #[.int .i64 (k : Int)] w fun e w' => e = .returned (.agg #[.int .i64 (pw k).1, .int .i64 (pw k).2]) ∧ Below w.heap.size w w' := by
  have HM := hide (fun W => by have := mod_base (k : Int) 4 (by decide) (by decide) (by omega) (by omega) W; rw [show (k : Int) % 4 = (k : Int) by omega] at this; exact this)
  have HG := hide (fun j W => by have b := pw_bd j; have := gmul_one (pw j).1 (pw j).2 0 1 W (by omega) (by decide); rw [show (pw j).1 * 0 - (pw j).2 * 1 = (pw (j + 1)).1 by show _ = -(pw j).2; omega, show (pw j).1 * 1 + (pw j).2 * 0 = (pw (j + 1)).2 by show _ = (pw j).1; omega] at this; exact this)
  go_enter Try.func153, Try.ntmps153
  go_wp2
  go_loopw [4] (fun i wr => ∃ j : Nat, j ≤ k ∧ i = .int .i64 (j : Int) ∧ Blk wr (w.heap.size + 1) 30 #[.int .i64 (pw j).1, .int .i64 (pw j).2] ∧ Blk wr w.heap.size 30 #[.int .i64 0, .int .i64 0] ∧ Below w.heap.size w wr) (fun i _ => k - (intOf i).toNat)
  case atStart => exact ⟨0, Nat.zero_le _, rfl, Blk.newN (w.alloc _) 30 _ (by simp), (Blk.new w 30 _).alloc _, by go_grown⟩
  case round =>
    obtain ⟨j, hj, rfl, hB, hR, hbel⟩ := hrel
    have HB := hide (stay_blk hB)
    have HR := hide (stay_blk hR)
    have HBE := hide hbel
    clear hB hR hbel
    by_cases hlt : j < k
    · have c0 := HB.out.now.cell 0
      have c1 := HB.out.now.cell 1
      have HG1 := hide (HG.out j)
      obtain ⟨N, hN⟩ : ∃ N, pw (j + 1) = N := ⟨_, rfl⟩
      have HN := hide hN
      obtain ⟨M, hM⟩ : ∃ M, pw j = M := ⟨_, rfl⟩
      rw [hN, hM] at HG1
      rw [hM] at HB c0 c1
      clear hN hM HG
      go_wp2_with (first
        | (go_at_call 131; go_must (refine (HM.out _).mono ?_; rintro e w2 ⟨rfl, rfl⟩; simp only []))
        | (go_at_call 152; go_must (refine (HG1.out _).mono ?_; rintro e w3 ⟨rfl, hb⟩; replace HB := hide (HB.out.step hb); replace HR := hide (HR.out.step hb); replace HBE := hide (Below.step HBE.out hb); clear hb c0 c1; simp only []))
        | (refine wpList_store_row rfl 30 (.tmp 3) (.tmp 14) rfl (w.heap.size + 1) #[.int .i64 N.1, .int .i64 N.2] rfl rfl 30 #[.int .i64 M.1, .int .i64 M.2] HB.out.now (by kernel_rfl) rfl (by simp [Value.oneCell']) ?_))
      go_roundw
      case rel => exact ⟨j + 1, by omega, by go_num, by rw [HN.out]; exact HB.out.now.row _, HR.out.now.rowFar (by omega) _, Below.row HBE.out (by omega) _⟩
      case measure => simp [intOf]; omega
    · obtain rfl : j = k := by omega
      have c0 := HB.out.now.cell 0
      have c1 := HB.out.now.cell 1
      obtain ⟨M, hM⟩ : ∃ M, pw j = M := ⟨_, rfl⟩
      rw [hM] at HB c0 c1
      have HMM := hide hM
      clear HG hM
      go_wp2_with (first
        | (go_at_call 131; go_must (refine (HM.out _).mono ?_; rintro e w2 ⟨rfl, rfl⟩; simp only []))
        | (refine wpList_store_row rfl 30 (.tmp 2) (.tmp 15) rfl w.heap.size #[.int .i64 M.1, .int .i64 M.2] rfl rfl 30 #[.int .i64 0, .int .i64 0] HR.out.now (by kernel_rfl) rfl (by simp [Value.oneCell']) ?_))
      exact bodyPost_ret (results_cell_row rfl _ _ w.heap.size 30 #[.int .i64 M.1, .int .i64 M.2] (0, 0) _ rfl (HR.out.now.row _) Try.underlying30 rfl (by kernel_rfl)) rfl ⟨by rw [HMM.out], Below.row HBE.out (Nat.le_refl _) _⟩
end Go.Proofs.Ythfmjohbokpceaa
