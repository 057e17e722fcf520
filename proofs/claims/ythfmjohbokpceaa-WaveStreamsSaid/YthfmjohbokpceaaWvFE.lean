import Derived.Test.YthfmjohbokpceaaWvFD
namespace Go.Proofs.Ythfmjohbokpceaa
open Go.RowKit Go.WideShapes Go.ChangeShapes

/-! the samples of a symbol (reference) -/
def symOk (len : Nat) (n s : Int) : Bool := withinB s 0 ((len : Int).tdiv (8 + n) - 1)
def symX (x : List Nm) (t : Nat) : List Nm := (x.drop t).take 8
def syOut (x : List Nm) (n s : Int) : Value := .tuple (if symOk x.length n s then #[.agg (nvs (symX x (s * (8 + n) + n).toNat)).toArray, .int .i64 0] else #[.agg (numArr [] 8), .int .i64 6])
theorem syOut_bad {x : List Nm} {n s : Int} (h : symOk x.length n s = false) : syOut x n s = .tuple #[.agg (numArr [] 8), .int .i64 6] := by unfold syOut; rw [h]; rfl
theorem syOut_good {x : List Nm} {n s : Int} (h : symOk x.length n s = true) : syOut x n s = .tuple #[.agg (nvs (symX x (s * (8 + n) + n).toNat)).toArray, .int .i64 0] := by unfold syOut; rw [h]; rfl
theorem symOk_le {len : Nat} {n s : Int} (h0 : 0 ≤ n) (h : symOk len n s = true) : 0 ≤ s ∧ s * (8 + n) + n + 8 ≤ len ∧ 0 ≤ s * (8 + n) := by
  unfold symOk withinB at h
  rw [Int.tdiv_eq_ediv_of_nonneg (by omega)] at h
  simp only [Bool.and_eq_true, decide_eq_true_eq] at h
  obtain ⟨h1, h2⟩ := h
  have h3 := Int.ediv_mul_le (len : Int) (show (8 + n : Int) ≠ 0 by omega)
  have h4 := Int.mul_le_mul_of_nonneg_right (show s + 1 ≤ (len : Int) / (8 + n) by omega) (show (0 : Int) ≤ 8 + n by omega)
  rw [Int.add_mul] at h4
  have h5 := Int.mul_nonneg h1 (show (0 : Int) ≤ 8 + n by omega)
  exact ⟨h1, by omega, h5⟩
theorem symX_len {x : List Nm} {t : Nat} (h : t + 8 ≤ x.length) : (symX x t).length = 8 := by simp [symX]; omega
theorem symX_take {x : List Nm} {t k : Nat} (h : t + 8 ≤ x.length) (hk : k < 8) : (symX x t).take (k + 1) = (symX x t).take k ++ [kn x (t + k)] := by
  have hl := symX_len h
  rw [List.take_succ_eq_append_getElem (by omega), kn_at (by omega)]
  simp [symX]
set_option maxRecDepth 100000 in
set_option maxHeartbeats 4000000 in
theorem symbolOf_ref (A : Option Addr) (c : Nat) (x : List Nm) (n s : Int) (w : World) (hs : Sl w A (nvs x)) (hl : x.length ≤ 120) (hn0 : 0 ≤ n) (hn7 : n ≤ 7) :
    Calls Try.prog 84 #[.slice A x.length c, .int .i64 n, .int .i64 s] w fun e w' => e = .returned (syOut x n s) ∧ Below w.heap.size w w' := by
  have HS := hide hs
  have hbad := syOut_bad (x := x) (n := n) (s := s)
  have hgood := syOut_good (x := x) (n := n) (s := s)
  have hle := symOk_le (len := x.length) (n := n) (s := s) hn0
  have hok : symOk x.length n s = withinB s 0 ((x.length : Int).tdiv (8 + n) - 1) := rfl
  have hq0 : 0 ≤ (x.length : Int).tdiv (8 + n) := Int.tdiv_nonneg (by omega) (by omega)
  have hq1 : (x.length : Int).tdiv (8 + n) ≤ 120 := by
    rw [Int.tdiv_eq_ediv_of_nonneg (by omega)]
    exact Int.le_trans (Int.ediv_le_self _ (by omega)) (by omega)
  obtain ⟨Y, hY⟩ : ∃ Y, syOut x n s = Y := ⟨_, rfl⟩
  rw [hY] at hbad hgood ⊢
  obtain ⟨p, hp⟩ : ∃ p, 8 + n = p := ⟨_, rfl⟩
  rw [hp] at hgood hle hok hq0 hq1
  obtain ⟨q, hq⟩ : ∃ q, (x.length : Int).tdiv p = q := ⟨_, rfl⟩
  rw [hq] at hok hq0 hq1
  have hp8 : 8 ≤ p := by omega
  have hp15 : p ≤ 15 := by omega
  have hpne : p ≠ 0 := by omega
  have hpw : IntKind.i64.wrap (8 + n) = p := by rw [hp]; exact IntWalk.i64_in _ (by omega)
  have hqw : IntKind.i64.wrap q = q := IntWalk.i64_in _ (by omega)
  have hqw1 : IntKind.i64.wrap (q - 1) = q - 1 := IntWalk.i64_in _ (by omega)
  obtain ⟨v, hv⟩ : ∃ v, symOk x.length n s = v := ⟨_, rfl⟩
  rw [hv] at hbad hgood hle hok
  have HW := hide hok.symm
  clear hok hv hs hp
  cases v
  · have HY := hide (hbad rfl)
    clear hbad hgood hle hq0 hq1 hY HS
    go_enter Try.func84, Try.ntmps84
    go_wp2_with (first
      | (go_at_call 24; go_must (refine (within_base _ _ _ _).mono ?_; rintro e w1 ⟨rfl, rfl⟩; rw [HW.out]; simp only []))
      | (refine wpList_store_row rfl 96 (.tmp 6) (.tmp 19) rfl w.heap.size (numArr [] 8) rfl rfl 96 (numArr [] 8) (Blk.new w _ _) (by kernel_rfl) (by kernel_rfl) (numArr_one _ _) ?_))
    exact bodyPost_ret (results_row_tmp2 rfl _ _ w.heap.size 96 (numArr [] 8) _ (.int .i64 6) rfl rfl ((Blk.new w 96 (numArr [] 8)).row (numArr [] 8)) Try.underlying96 rfl (by kernel_rfl)) rfl ⟨by rw [HY.out], Below.row (by go_grown) (Nat.le_refl _) _⟩
  · have HY := hide (hgood rfl)
    obtain ⟨hs0, hle1, hm0⟩ := hle rfl
    clear hbad hgood hle hq0 hq1 hY
    obtain ⟨m, hm⟩ : ∃ m, s * p = m := ⟨_, rfl⟩
    rw [hm] at hle1 hm0 HY
    have hmw : IntKind.i64.wrap (s * p) = m := by rw [hm]; exact IntWalk.i64_in _ (by omega)
    obtain ⟨t, ht⟩ : ∃ t : Nat, m + n = (t : Int) := ⟨(m + n).toNat, by omega⟩
    have htw : IntKind.i64.wrap (m + n) = (t : Int) := by rw [ht]; exact IntWalk.i64_in _ (by omega)
    rw [ht] at HY hle1
    have ht8 : t + 8 ≤ x.length := by omega
    have HTK := hide (fun k (hk : k < 8) => symX_take (x := x) (t := t) (k := k) ht8 hk)
    have HXL := hide (symX_len ht8)
    clear hm ht hle1
    go_enter Try.func84, Try.ntmps84
    go_wp2_with (go_at_call 24; go_must (refine (within_base _ _ _ _).mono ?_; rintro e w1 ⟨rfl, rfl⟩; rw [HW.out]; simp only []))
    go_loopw [9] (fun i wr => ∃ k : Nat, k ≤ 8 ∧ i = .int .i64 k ∧ Blk wr w.heap.size 96 (numArr [] 8) ∧ Blk wr (w.heap.size + 1) 96 (numArr ((symX x t).take k) 8) ∧ Below w.heap.size w wr) (fun i _ => 8 - (intOf i).toNat)
    case atStart => exact ⟨0, by omega, rfl, (Blk.new w 96 (numArr [] 8)).alloc _, Blk.newN (w.alloc (.cells (numArr [] 8) 96)) 96 (numArr [] 8) (by simp), by go_grown⟩
    case round =>
      obtain ⟨k, hk, rfl, hR, hO, hbel⟩ := hrel
      have hbz := hbel.size
      have hOl := hO.lt
      by_cases hlt : k < 8
      · have hd : decide ((k : Int) < 8) = true := by rw [decide_eq_true_iff]; omega
        have hst := HTK.out k hlt
        have hlk : ((symX x t).take k).length = k := by rw [List.length_take, HXL.out]; omega
        obtain ⟨j, hj⟩ : ∃ j, t + k = j := ⟨_, rfl⟩
        rw [hj] at hst
        have hjw : IntKind.i64.wrap ((t : Int) + (k : Int)) = (j : Int) := by rw [← hj, Int.natCast_add]; exact IntWalk.i64_in _ (by omega)
        have hjl : j < x.length := by omega
        obtain ⟨b, off, rfl, d0, d1, d2, d3⟩ := (HS.out.bel hbel).atN hjl
        obtain ⟨y, hy⟩ : ∃ y, kn x j = y := ⟨_, rfl⟩
        rw [hy] at d0 d1 d2 d3 hst
        have g3 : (0 : Int) ≤ (j : Int) := by omega
        have g4 : (j : Int) < (x.length : Int) := by omega
        have HOO := hide (show Blk wr (w.heap.size + 1) 96 (numArr ((symX x t).take k ++ [n0]) 8) by rw [numArr_n0 _ _ (by omega)]; exact hO)
        obtain ⟨u0, u1, u2, u3, f0, f1, f2, f3⟩ := HOO.out.num4 hlk
        have HST := hide hst
        have HR := hide hR
        have HLK := hide hlk
        clear hj hy hst hlk hO hR HTK HXL HY HW
        go_wp2
        go_roundw
        case rel =>
          refine ⟨k + 1, by omega, by go_num, (((HR.out.far (by first | omega | (simp; done) | (simp; omega)) _).far (by first | omega | (simp; done) | (simp; omega)) _).far (by first | omega | (simp; done) | (simp; omega)) _).far (by first | omega | (simp; done) | (simp; omega)) _, ?_, by go_grown⟩
          have := (((HOO.out.set_ (k * 4) (.int .i64 y.1)).set_ (k * 4 + 1) (.int .i64 y.2.1)).set_ (k * 4 + 2) (.int .i64 y.2.2.1)).set_ (k * 4 + 3) (.int .i64 y.2.2.2)
          rw [numArr_upd _ 8 k n0 y HLK.out, ← HST.out] at this
          exact this
        case measure => simp [intOf]; omega
      · have hd : decide ((k : Int) < 8) = false := by rw [decide_eq_false_iff_not]; omega
        obtain rfl : k = 8 := by omega
        rw [show (symX x t).take 8 = symX x t from List.take_of_length_le (by rw [HXL.out]; omega), numArr_full _ 8 HXL.out] at hO
        have hsz : (nvs (symX x t)).toArray.size = 32 := by simp [nvs_len, HXL.out]
        have hone : (nvs (symX x t)).toArray.all (·.oneCell') = true := by rw [← numArr_full _ 8 HXL.out]; exact numArr_one _ _
        obtain ⟨cs, hcs⟩ : ∃ cs, (nvs (symX x t)).toArray = cs := ⟨_, rfl⟩
        have HF := hide (show Y = .tuple #[.agg cs, .int .i64 0] by rw [HY.out, ← hcs]; rfl)
        rw [hcs] at hO hsz hone
        have HSZ := hide hsz
        have HO := hide hO
        have HR := hide hR
        clear hcs hsz hO hR HTK HXL HY HW
        go_wp2_with (first
          | (refine wpList_load_row rfl 96 (.tmp 8) rfl (w.heap.size + 1) rfl 96 cs (0, 0) _ HO.out Try.underlying96 rfl (by rw [HSZ.out]; kernel_rfl) ?_)
          | (refine wpList_store_row rfl 96 (.tmp 6) (.tmp 37) rfl w.heap.size cs rfl rfl 96 (numArr [] 8) HR.out (by rw [HSZ.out]; kernel_rfl) (by rw [HSZ.out]; rfl) hone ?_))
        exact bodyPost_ret (results_row_tmp2 rfl _ _ w.heap.size 96 cs _ (.int .i64 0) rfl rfl (HR.out.row cs) Try.underlying96 rfl (by rw [HSZ.out]; kernel_rfl)) rfl ⟨by rw [HF.out], Below.row hbel (Nat.le_refl _) _⟩
end Go.Proofs.Ythfmjohbokpceaa
