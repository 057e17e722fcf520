import Derived.Test.YtamkannjdbodpaaSplitB
namespace Go.Proofs.Ytamkannjdbodpaa
open Go.RowKit Go.WideShapes Go.ChangeShapes

set_option maxRecDepth 100000 in
set_option maxHeartbeats 2000000 in
theorem splitOf_ref (A : Option Addr) (c : Nat) (l : List Int) (p m : Int) (w : World) (hs : Sl w A (iv l)) (h : spE p m l = 0) :
    Calls Try.prog 45 #[.agg #[.int .i64 p, .int .i64 m], .slice A l.length c] w fun e w' => ∃ A' c', e = .returned (.slice A' l.length c') ∧ w'.ownsRow w.heap.size 3 1 (.slice A' l.length c') l.length (iv (splitL p m l)) ∧ Below w.heap.size w w' := by
  obtain ⟨i0, hi0, hz0, hz1, hz2⟩ := info_parts int_info
  obtain ⟨⟨p0, p1, m0, m1, hl12⟩, hpw⟩ := spE_ok h
  clear h
  have HS := hide hs; clear hs
  have HP := hide hpw; clear hpw
  go_enter Try.func45, Try.ntmps45
  have hblk : Blk (w.alloc (.cells #[.int .i64 p, .int .i64 m] 63)) w.heap.size 63 #[.int .i64 p, .int .i64 m] := Blk.new w _ _
  go_wp2
  go_quiet (fail)
  go_wp2
  go_loopw [5, 6] (fun a b wr => ∃ (lo hi : Int) (f : Nat), a = .int .i64 lo ∧ b = .int .i64 hi ∧ 0 ≤ lo ∧ lo < hi ∧ hi ≤ m + 1 ∧ hi - lo ≤ f ∧ bs p l f lo hi = lev p m l ∧ Blk wr w.heap.size 63 #[.int .i64 p, .int .i64 m] ∧ Below w.heap.size w wr) (fun a b _ => (intOf b - intOf a).toNat)
  case atStart => exact ⟨0, m + 1, (m + 1).toNat, rfl, rfl, by omega, by omega, by omega, by omega, rfl, by first | exact hblk.drewN _ | exact hblk, by first | exact below_drewN (by go_grown) _ | go_grown⟩
  case round =>
    obtain ⟨lo, hi, f, rfl, rfl, l0, l1, l2, hf, he, hblk, hbel⟩ := hrel
    have HE := hide he; clear he
    have d0 : wr.cell? ⟨w.heap.size, 0, none⟩ = some (.int .i64 p) := hblk.cell 0
    have d1 : wr.cell? ⟨w.heap.size, 1, none⟩ = some (.int .i64 m) := hblk.cell 1
    have yl := hblk.lt
    by_cases hlt : lo + 1 < hi
    · obtain ⟨f, rfl⟩ : ∃ f', f = f' + 1 := ⟨f - 1, by omega⟩
      obtain ⟨md, hmd⟩ : ∃ md, (lo + hi) / 2 = md := ⟨_, rfl⟩
      have md0 : lo < md := by omega
      have md1 : md < hi := by omega
      have HB : bs p l (f + 1) lo hi = if usedL md l ≤ p then bs p l f md hi else bs p l f lo md := by rw [bs, if_pos hlt, hmd]
      have hHB := hide HB; clear HB
      have hgt : 1 < hi - lo := by omega
      have hub := usedL_bd md l HP.out (by omega)
      by_cases hu : usedL md l ≤ p
      · go_wp2
        go_quiet (first | (go_at_call 120; refine Calls.quiet_of_same (Calls.flip (used_ref A c l md _ ((HS.out.bel hbel).drewN _) (by omega) HP.out (by omega) (by omega)))))
        go_wp2
        go_roundw
        case rel => exact ⟨md, hi, f, by first | rfl | rw [hmd], rfl, by omega, by omega, by omega, by omega, by rw [← HE.out, hHB.out, if_pos hu], by first | exact hblk.drewN _ | exact hblk, by first | exact below_drewN hbel _ | exact hbel⟩
        case measure => simp [intOf]; omega
      · go_wp2
        go_quiet (first | (go_at_call 120; refine Calls.quiet_of_same (Calls.flip (used_ref A c l md _ ((HS.out.bel hbel).drewN _) (by omega) HP.out (by omega) (by omega)))))
        go_wp2
        go_roundw
        case rel => exact ⟨lo, md, f, rfl, by first | rfl | rw [hmd], by omega, by omega, by omega, by omega, by rw [← HE.out, hHB.out, if_neg (by omega)], by first | exact hblk.drewN _ | exact hblk, by first | exact below_drewN hbel _ | exact hbel⟩
        case measure => simp [intOf]; omega
    · have hlev : lev p m l = lo := by
        rw [← HE.out]
        cases f with
        | zero => rfl
        | succ f => rw [bs, if_neg hlt]
      have HL := hide hlev; clear hlev
      have hgt : ¬ 1 < hi - lo := by omega
      have hub := usedL_bd lo l HP.out (by omega)
      go_wp2
      go_quiet (first | (go_at_call 120; refine Calls.quiet_of_same (Calls.flip (used_ref A c l lo _ ((HS.out.bel hbel).drewN _) (by omega) HP.out (by omega) (by omega)))))
      go_wp2
      obtain ⟨S, hS⟩ : ∃ S, splitL p m l = S := ⟨_, rfl⟩
      have hS0 : give lo (decide (lo < m)) l (p - usedL lo l) = S := by rw [← hS, splitL, HL.out]
      have hSl : S.length = l.length := by rw [← hS0, give_len]
      have HSS := hide hS; clear hS
      have HSL := hide hSl; clear hSl
      have HS0 := hide hS0; clear hS0
      go_loopw [8, 9, 10] (fun a o i wr => ∃ (k : Nat) (left : Int) (A' : Option Addr) (c' : Nat), k ≤ l.length ∧ i = .int .i64 k ∧ a = .int .i64 left ∧ o = .slice A' k c' ∧ -100000000 ≤ left ∧ left ≤ 100000000 ∧ give lo (decide (lo < m)) (l.drop k) left = S.drop k ∧ wr.ownsRow w.heap.size 3 1 (.slice A' k c') k (iv (S.take k)) ∧ Blk wr w.heap.size 63 #[.int .i64 p, .int .i64 m] ∧ Below w.heap.size w wr) (fun _ _ i _ => l.length - (intOf i).toNat)
      case atStart => exact ⟨0, _, none, 0, Nat.zero_le _, rfl, rfl, rfl, by omega, by omega, HS0.out, ⟨by simp [iv], .inl ⟨rfl, by simp⟩⟩, by first | exact hblk.drewN _ | exact hblk, by first | exact below_drewN hbel _ | exact hbel⟩
      case round =>
        obtain ⟨k, left, A', c', hk, rfl, rfl, rfl, lf0, lf1, hgv, hrow, hblk3, hbel3⟩ := hrel
        have d0 : wr.cell? ⟨w.heap.size, 0, none⟩ = some (.int .i64 p) := hblk3.cell 0
        have d1 : wr.cell? ⟨w.heap.size, 1, none⟩ = some (.int .i64 m) := hblk3.cell 1
        have yl := hblk3.lt
        by_cases hlt : k < l.length
        · obtain ⟨b, off, rfl, hc⟩ := HS.out.int hlt
          have hcw : wr.cell? ⟨b, off + k, none⟩ = some (.int .i64 l[k]) := (hbel3.cell (p := ⟨b, off + k, none⟩) (lt_of_cell hc)).trans hc
          have hblt := lt_of_cell hc
          have hbz := hbel3.size
          have hx := HP.out l[k] (List.getElem_mem hlt)
          have hstep : give lo (decide (lo < m)) (l.drop k) left = if decide (lo < m) = true ∧ lo < l[k] ∧ 0 < left then (min l[k] lo + 1) :: give lo (decide (lo < m)) (l.drop (k + 1)) (left - 1) else min l[k] lo :: give lo (decide (lo < m)) (l.drop (k + 1)) left := by
            rw [List.drop_eq_getElem_cons hlt]; rfl
          have hSk : k < S.length := by have := HSL.out; omega
          rw [List.drop_eq_getElem_cons hSk] at hgv
          rw [hstep] at hgv
          have htk := List.take_succ_eq_append_getElem hSk
          clear hstep hc
          obtain ⟨x, hxe⟩ : ∃ x, l[k] = x := ⟨_, rfl⟩
          rw [hxe] at hcw hx hgv
          clear hxe
          obtain ⟨hx0, hx1⟩ := hx
          by_cases ht : lo < m ∧ lo < x ∧ 0 < left
          · obtain ⟨t1, t2, t3⟩ := ht
            rw [if_pos ⟨decide_eq_true t1, t2, t3⟩] at hgv
            injection hgv with hv1 hv2
            rw [← hv1] at htk
            have HTK := hide htk; clear htk hv1
            have HV2 := hide hv2; clear hv2
            go_wp2_with (at_builtin; go_must (
                     refine wpList_append_own _ rfl _ _ 22 rfl w.heap.size 3 i0 (.int .i64 0) 1 8 Try.underlying22 hi0 hz0 hz1 hz2 rfl (by decide) _ _ _ rfl (hrow.alloc _) ⟨wr.heap.size, 0, none⟩ 1 1 [.int .i64 (min x lo + 1)] rfl rfl (cell_one_new _ _ _) (by simp [Value.oneCell']) (by simp only [maxLen]; omega) (by omega) (by simp; omega) ?_
                     intro v' w1 hown' hgrow _
                     obtain ⟨g', cap', rfl⟩ := ownsRow_succ hown'
                     have hbel' := Below.app hbel3 hrow hgrow
                     have hblk' := Blk.app hblk3 hrow hgrow (by decide)))
            go_roundw
            case rel => exact ⟨k + 1, left - 1, _, _, by omega, by go_num, rfl, rfl, by omega, by omega, HV2.out, by rw [HTK.out, iv_append]; exact hown', hblk', hbel'⟩
            case measure => simp [intOf]; omega
          · rw [if_neg (by simpa using ht)] at hgv
            injection hgv with hv1 hv2
            have HV2 := hide hv2; clear hv2
            rcases (by omega : (x ≤ lo ∧ ¬ lo < x ∧ min x lo = x ∧ ¬ 0 < left) ∨ (x ≤ lo ∧ ¬ lo < x ∧ min x lo = x ∧ 0 < left) ∨ (lo < x ∧ min x lo = lo ∧ ¬ 0 < left) ∨ (lo < x ∧ min x lo = lo ∧ 0 < left ∧ ¬ lo < m)) with ⟨t1, t2, hmin, t3⟩ | ⟨t1, t2, hmin, t3⟩ | ⟨t1, hmin, t2⟩ | ⟨t1, hmin, t2, t3⟩
            all_goals
              rw [← hv1] at htk
              have HTK := hide htk; clear htk hv1 ht hmin
              go_wp2_with (at_builtin; go_must (
                     refine wpList_append_own _ rfl _ _ 22 rfl w.heap.size 3 i0 (.int .i64 0) 1 8 Try.underlying22 hi0 hz0 hz1 hz2 rfl (by decide) _ _ _ rfl (hrow.alloc _) ⟨wr.heap.size, 0, none⟩ 1 1 [.int .i64 (min x lo)] rfl rfl (cell_one_new _ _ _) (by simp [Value.oneCell']) (by simp only [maxLen]; omega) (by omega) (by simp; omega) ?_
                     intro v' w1 hown' hgrow _
                     obtain ⟨g', cap', rfl⟩ := ownsRow_succ hown'
                     have hbel' := Below.app hbel3 hrow hgrow
                     have hblk' := Blk.app hblk3 hrow hgrow (by decide)))
              go_roundw
              case rel => exact ⟨k + 1, left, _, _, by omega, by go_num, rfl, rfl, by omega, by omega, HV2.out, by rw [HTK.out, iv_append]; exact hown', hblk', hbel'⟩
              case measure => simp [intOf]; omega
        · go_wp2
          obtain rfl : k = l.length := by omega
          go_ret
          refine ⟨A', c', rfl, ?_, hbel3⟩
          rw [HSS.out]
          rwa [List.take_of_length_le (by rw [HSL.out]; exact Nat.le_refl _)] at hrow
end Go.Proofs.Ytamkannjdbodpaa
