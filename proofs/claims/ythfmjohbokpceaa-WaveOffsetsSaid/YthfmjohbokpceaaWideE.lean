import Derived.Test.YthfmjohbokpceaaWideD
namespace Go.Proofs.Ythfmjohbokpceaa
open Go.RowKit Go.WideShapes Go.ChangeShapes

/-- 'returns these digits, without noughts at the end, in new memory' -/
def RetD (w : World) (v : Int) (e : Ending) (w' : World) : Prop :=
  ∃ r A c, digOk r ∧ val r = v ∧ r.length ≤ c ∧ r.length ≤ 100 ∧ e = .returned (.slice A (trimL r).length c) ∧ Sl w' A (iv (trimL r)) ∧ Below w.heap.size w w'

set_option maxRecDepth 100000 in
set_option maxHeartbeats 2000000 in
theorem subDigits_base (A B : Option Addr) (c c' : Nat) (a b : List Int) (w : World) (hs : Sl w A (iv a)) (hs' : Sl w B (iv b)) (hl : a.length ≤ 100) (hl' : b.length ≤ a.length) (ha : digOk a) (hb : digOk b) (hab : val b ≤ val a) :
    Calls Try.prog 192 #[.slice A a.length c, .slice B b.length c'] w (RetD w (val a - val b)) := by
  obtain ⟨i0, hi0, hz0, hz1, hz2⟩ := info_parts int_info
  have HS := hide hs; clear hs
  have HS' := hide hs'; clear hs'
  have HA := hide ha; clear ha
  have HB := hide hb; clear hb
  have HAB := hide hab; clear hab
  go_enter Try.func192, Try.ntmps192
  go_wp2
  go_loopw [5, 6, 7] (fun o br i wr => ∃ (k : Nat) (q : Int) (r : List Int) (A' : Option Addr) (c1 : Nat), k ≤ a.length ∧ r.length = k ∧ i = .int .i64 k ∧ br = .int .i64 q ∧ o = .slice A' k c1 ∧ (q = 0 ∨ q = 1) ∧ digOk r ∧ val r - q * 1000000000 ^ k = val (a.take k) - val (b.take k) ∧ wr.ownsRow w.heap.size 3 1 (.slice A' k c1) k (iv r) ∧ Below w.heap.size w wr) (fun _ _ i _ => a.length - (intOf i).toNat)
  case atStart => exact ⟨0, 0, [], none, 0, Nat.zero_le _, rfl, rfl, rfl, rfl, .inl rfl, (fun y hy => absurd hy (by simp)), by simp [val], ⟨by simp [iv], .inl ⟨rfl, by simp⟩⟩, by go_grown⟩
  case round =>
    obtain ⟨k, q, r, A', c1, hk, hr, rfl, rfl, rfl, hq, hrd, hv, hrow, hbel⟩ := hrel
    have HRD := hide hrd; clear hrd
    have HV := hide hv; clear hv
    have hbz := hbel.size
    by_cases hlt : k < a.length
    · obtain ⟨b1, o1, rfl, hc⟩ := HS.out.int hlt
      have hcw : wr.cell? ⟨b1, o1 + k, none⟩ = some (.int .i64 a[k]) := (hbel.cell (p := ⟨b1, o1 + k, none⟩) (lt_of_cell hc)).trans hc
      clear hc
      have hak := HA.out a[k] (List.getElem_mem hlt)
      have hbk : 0 ≤ b[k]?.getD 0 ∧ b[k]?.getD 0 < 1000000000 := by
        by_cases h : k < b.length
        · rw [List.getElem?_eq_getElem h, Option.getD_some]; exact HB.out _ (List.getElem_mem h)
        · rw [List.getElem?_eq_none (by omega), Option.getD_none]; omega
      have hstep := hide (fun s q' h => sub_step a b r k q s q' hlt hr h HV.out)
      obtain ⟨y, hy⟩ : ∃ y, b[k]?.getD 0 = y := ⟨_, rfl⟩
      obtain ⟨x, hx⟩ : ∃ x, a[k] = x := ⟨_, rfl⟩
      rw [hx] at hak hcw hstep
      rw [hy] at hbk hstep
      have HY := hide hy
      clear hx hy
      obtain ⟨a1, a2⟩ := hak
      obtain ⟨a3, a4⟩ := hbk
      by_cases hneg : x - y - q < 0
      · have hq' := hide (hstep.out (x - y - q + 1000000000) 1 (by omega))
        go_wp2
        go_quiet (first | (go_at_call 193; refine Calls.quiet_of_same (digit_is B c' b k HY.out _ ((HS'.out.bel hbel).drewN _))))
        go_wp2_with (at_builtin; go_must (
                     refine wpList_append_own _ rfl _ _ 24 rfl w.heap.size 3 i0 (.int .i64 0) 1 8 Try.underlying24 hi0 hz0 hz1 hz2 rfl (by decide) _ _ _ rfl ((only_own hrow _).alloc _) ⟨wr.heap.size, 0, none⟩ 1 1 [.int .i64 (x - y - q + 1000000000)] rfl rfl (cell_one_new _ _ _) (by simp [Value.oneCell']) (by simp only [maxLen]; omega) (by omega) (by simp; omega) ?_
                     intro v' w1 hown' hgrow _
                     obtain ⟨A2, c2, rfl⟩ := own_form hown'
                     have hbel' := Below.app (below_drewN hbel _) (only_own hrow _) hgrow))
        go_roundw
        case rel => exact ⟨k + 1, 1, r ++ [x - y - q + 1000000000], A2, c2, by omega, by simp [hr], by go_num, rfl, rfl, .inr rfl, digOk_append HRD.out (fun z hz => by simp at hz; omega), hq'.out, by rw [iv_append]; exact hown', hbel'⟩
        case measure => simp [intOf]; omega
      · have hq' := hide (hstep.out (x - y - q) 0 (by omega))
        go_wp2
        go_quiet (first | (go_at_call 193; refine Calls.quiet_of_same (digit_is B c' b k HY.out _ ((HS'.out.bel hbel).drewN _))))
        go_wp2_with (at_builtin; go_must (
                     refine wpList_append_own _ rfl _ _ 24 rfl w.heap.size 3 i0 (.int .i64 0) 1 8 Try.underlying24 hi0 hz0 hz1 hz2 rfl (by decide) _ _ _ rfl ((only_own hrow _).alloc _) ⟨wr.heap.size, 0, none⟩ 1 1 [.int .i64 (x - y - q)] rfl rfl (cell_one_new _ _ _) (by simp [Value.oneCell']) (by simp only [maxLen]; omega) (by omega) (by simp; omega) ?_
                     intro v' w1 hown' hgrow _
                     obtain ⟨A2, c2, rfl⟩ := own_form hown'
                     have hbel' := Below.app (below_drewN hbel _) (only_own hrow _) hgrow))
        go_roundw
        case rel => exact ⟨k + 1, 0, r ++ [x - y - q], A2, c2, by omega, by simp [hr], by go_num, rfl, rfl, .inl rfl, digOk_append HRD.out (fun z hz => by simp at hz; omega), hq'.out, by rw [iv_append]; exact hown', hbel'⟩
        case measure => simp [intOf]; omega
    · obtain rfl : k = a.length := by omega
      have hval := sub_end a b r q hl' hr HRD.out hq HAB.out HV.out
      have HVAL := hide hval; clear hval
      have hcp := own_cap hrow
      have hsl := hide (Sl.of_own hrow)
      rw [← hr] at hcp hrow
      have hr100 : r.length ≤ 100 := by omega
      have HR := hide hr
      go_wp2_with (go_at_call 187; go_must (rw [← HR.out]; refine (trimmed_base A' c1 r _ (hsl.out.bel (by go_grown)) (by omega) hcp).mono ?_; rintro e w' ⟨rfl, rfl⟩; simp only []))
      go_ret
      exact ⟨r, A', c1, HRD.out, HVAL.out, hcp, hr100, rfl, hsl.out.pre _, hbel⟩
end Go.Proofs.Ythfmjohbokpceaa
