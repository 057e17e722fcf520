import Derived.Test.YtamkannjdbodpaaChkP
namespace Go.Proofs.Ytamkannjdbodpaa
open Go.RowKit Go.WideShapes Go.ChangeShapes

theorem copyPairs_ref (A : Option Addr) (c n : Nat) (l : List (Int × Int)) (w : World) (hn : l.length = n) (hs : Sl w A (gv l)) (hl : n ≤ 1000000) :
    Calls Try.prog 73 #[.slice A n c] w fun e w' => ∃ A' c', e = .returned (.slice A' n c') ∧ Sl w' A' (gv l) ∧ Below w.heap.size w w' := by
  subst hn
  obtain ⟨i0, hi0, hz0, hz1, hz2⟩ := info_parts p2_info
  have hr := (hs.alloc (.cells #[] 183)).reads2
  have ho := World.ownsRow_made (e := 183) (size := 2) w #[] 0 (Nat.le_refl _) (by simp [maxLen]) rfl
  go_enter Try.func73, Try.ntmps73
  go_wp2_with (at_builtin
               refine wpList_append_any _ rfl (.tmp 3) (.tmp 4) _ rfl w.heap.size 183 i0 _ 2 16 Try.underlying101 hi0 hz0 hz1 hz2 rfl (by omega) _ 0 [] rfl
                 ho _ A l.length c (gv l) rfl hr (gv_one l) (by simp only [maxLen]; omega) (by omega) (by simp) ?_
               intro v1 w1 hown1 hg1 hat1)
  go_ret
  simp only [Nat.zero_add, List.nil_append] at hown1
  obtain ⟨A', c', rfl⟩ := own_form hown1
  refine ⟨A', c', rfl, Sl.of_ownN hown1, ((Below.refl _ w).alloc (Nat.le_refl _) _).grown hg1 (by simp) (fun k hk => ?_)⟩
  cases hk
  exact Nat.le_refl _
theorem whole_base (n : Int) (w : World) :
    Calls Try.prog 74 #[.int .i64 n] w fun e w' => e = .returned (.agg #[.int .i64 n, .int .i64 1]) ∧ Below w.heap.size w w' := by
  go_enter Try.func74, Try.ntmps74
  go_wp2
  go_returns
  exact ⟨rfl, by go_grown⟩
/-- few users, of few antennas -/
def fewB (us : List (List (Int × Int))) : Bool := !(decide (us.length = 6)) && decide (us.length ≤ 8) && us.all (fun u => decide ((u.length : Int) ≤ 10))
set_option maxRecDepth 100000 in
set_option maxHeartbeats 2000000 in
theorem users_law (A : Option Addr) (c : Nat) (us : List (List (Int × Int))) (w : World) (hs : RowsAt GR w A us) :
    Calls Try.prog 67 #[.slice A us.length c] w fun e w' => e = .returned (.bool (fewB us)) ∧ w = w' := by
  have HS := hide hs; clear hs
  by_cases h6 : us.length = 6
  · have HV := hide (show fewB us = false by unfold fewB; rw [decide_eq_true h6]; rfl)
    have hd : ((us.length : Int) == 6) = true := by rw [beq_iff_eq]; omega
    go_enter Try.func67, Try.ntmps67
    go_wp2
    go_ret
    exact ⟨by rw [HV.out]; rfl, rfl⟩
  · have hd : ((us.length : Int) == 6) = false := by rw [beq_eq_false_iff_ne]; omega
    by_cases h8 : us.length ≤ 8
    · have HV := hide (show fewB us = us.all (fun u => decide ((u.length : Int) ≤ 10)) by unfold fewB; rw [decide_eq_false h6, decide_eq_true h8]; rfl)
      go_enter Try.func67, Try.ntmps67
      go_wp2
      go_loop [3] (fun i => ∃ k : Nat, k ≤ us.length ∧ i = .int .i64 k ∧ (us.take k).all (fun u => decide ((u.length : Int) ≤ 10)) = true) (fun i => us.length - (intOf i).toNat)
      case atStart => exact ⟨0, Nat.zero_le _, rfl, rfl⟩
      case round =>
        obtain ⟨k, hk, rfl, ha⟩ := hrel
        have HA := hide ha; clear ha
        by_cases hlt : k < us.length
        · obtain ⟨b, off, B, ck, rfl, d1, _⟩ := HS.out.at_ hlt
          have htk := hide (show (us.take (k + 1)).all (fun u => decide ((u.length : Int) ≤ 10)) = decide ((us[k].length : Int) ≤ 10) by
            rw [List.take_succ_eq_append_getElem hlt, List.all_append, HA.out]; simp)
          have hmem : us[k] ∈ us := List.getElem_mem hlt
          by_cases hq : (us[k].length : Int) ≤ 10
          · have hq2 : decide ((us[k].length : Int) ≤ 10) = true := decide_eq_true hq
            have HT := hide (htk.out.trans hq2)
            clear hq htk hmem
            go_wp2_with (go_at_call 59; go_must (refine (numbers_law _ _ _ _).mono ?_; rintro e w' ⟨rfl, rfl⟩; simp only []))
            go_round
            case rel => exact ⟨k + 1, by omega, by go_num, HT.out⟩
            case measure => simp [intOf]; omega
          · have hq2 : decide ((us[k].length : Int) ≤ 10) = false := decide_eq_false hq
            have HF := hide (show us.all (fun u => decide ((u.length : Int) ≤ 10)) = false from List.all_eq_false.2 ⟨us[k], hmem, by simpa using hq⟩)
            clear hq htk hmem
            go_wp2_with (go_at_call 59; go_must (refine (numbers_law _ _ _ _).mono ?_; rintro e w' ⟨rfl, rfl⟩; simp only []))
            go_ret
            exact ⟨by rw [HV.out, HF.out]; rfl, rfl⟩
        · have HF := hide (show us.all (fun u => decide ((u.length : Int) ≤ 10)) = true by have := HA.out; rwa [List.take_of_length_le (by omega)] at this)
          go_wp2
          go_ret
          exact ⟨by rw [HV.out, HF.out]; rfl, rfl⟩
    · have HV := hide (show fewB us = false by unfold fewB; rw [decide_eq_false h6, decide_eq_false h8]; rfl)
      go_enter Try.func67, Try.ntmps67
      go_wp2
      go_ret
      exact ⟨by rw [HV.out]; rfl, rfl⟩

/-! what is found is accepted, and no more can be -/
theorem wf_small {z : Int} (h1 : 0 ≤ z) (h2 : z ≤ 100) : (Lit.int .i64 z).wf = true := WalkArith.wf_i64 (by omega)
theorem best_ok (n : Nat) (sh : Nat → Nat → Bool) : chkE n sh [] (bestF sh n 0 0) = 0 := chk_best n sh n 0 0 [] (by omega) (fun j _ => by rw [Nat.zero_testBit]; rfl)
theorem best_wf (n : Nat) (hn : n ≤ 6) (sh : Nat → Nat → Bool) : ∀ p ∈ bestF sh n 0 0, (Lit.int .i64 p.1).wf = true ∧ (Lit.int .i64 p.2).wf = true := fun p hp => by
  obtain ⟨h1, _⟩ := chk_val n sh _ [] (best_ok n sh)
  obtain ⟨a1, a2, a3, _⟩ := h1 p hp
  exact ⟨wf_small (by omega) (by omega), wf_small (by omega) (by omega)⟩
theorem share_one {us : List (List (Int × Int))} (hv : ∀ i j (hi : i < us.length) (hj : j < us.length), twoE us[i] us[j] = 0) (i j : Nat) (hi : i < us.length) (hj : j < us.length) : shU us 1 1 i j = true := by
  unfold shU shB
  rw [List.getElem?_eq_getElem hi, List.getElem?_eq_getElem hj]
  obtain ⟨_, _, _, hl, he, _⟩ := twoE_ok (hv i j hi hj)
  have := cauchy us[i] us[j] hl.symm he
  rw [decide_eq_true_iff]
  simpa using this
theorem one_half {us : List (List (Int × Int))} (hv : ∀ i j (hi : i < us.length) (hj : j < us.length), twoE us[i] us[j] = 0) (h5 : us.length < 6) (sh : Nat → Nat → Bool) :
    (bestF (shU us 1 1) us.length 0 0).length = us.length / 2 ∧ (bestF sh us.length 0 0).length ≤ (bestF (shU us 1 1) us.length 0 0).length := by
  have e : bestF (shU us 1 1) us.length 0 0 = bestF (fun _ _ => true) us.length 0 0 := best_same (n := us.length) (fun a b h1 h2 => share_one hv a b (by omega) h2) us.length 0 0 (by omega)
  rw [e]
  exact ⟨all_half _ h5, chk_max us.length (fun _ _ => true) _ (chk_mono us.length sh (fun _ _ => true) (fun _ _ _ _ _ => rfl) _ _ (best_ok us.length sh))⟩
end Go.Proofs.Ytamkannjdbodpaa
