import Derived.Test.YtamkannjdbodpaaUsr
namespace Go.Proofs.Ytamkannjdbodpaa
open Go.RowKit Go.WideShapes Go.ChangeShapes

theorem userE_step (n0 : Nat) (u : List (Int × Int)) : userE n0 u = if chE u = 0 then (if u.length = n0 then (if enG u u.length = 0 then 11 else 0) else 13) else chE u := by
  unfold userE firstOf firstOf firstOf firstOf
  by_cases q1 : chE u = 0
  · by_cases q2 : u.length = n0
    · cases q3 : u.any someG
      · simp [q1, q2, unlessE, none_en q3]
      · have := any_en q3
        have h : enG u u.length ≠ 0 := by omega
        rw [q2] at h
        simp [q1, q2, unlessE, h]
    · simp [q1, q2, unlessE]
  · simp [q1]
set_option maxRecDepth 100000 in
set_option maxHeartbeats 4000000 in
theorem usersErr_ref (A : Option Addr) (c : Nat) (us : List (List (Int × Int))) (w : World) (hs : RowsAt GR w A us) :
    Calls Try.prog 68 #[.slice A us.length c] w fun e w' => e = .returned (.int .i64 (usersE us)) ∧ Below w.heap.size w w' := by
  have HS := hide hs; clear hs
  by_cases h6 : 6 < us.length
  · have HV := hide (show usersE us = 8 from if_pos h6)
    go_enter Try.func68, Try.ntmps68
    go_wp2
    go_ret
    exact ⟨by rw [HV.out]; rfl, by go_grown⟩
  · have HV := hide (show usersE us = usE ((us[0]?.getD []).length) us from if_neg h6)
    obtain ⟨n0, hn0⟩ : ∃ n0, (us[0]?.getD []).length = n0 := ⟨_, rfl⟩
    rw [hn0] at HV
    have HN0 := hide hn0; clear hn0
    go_enter Try.func68, Try.ntmps68
    go_wp2
    go_loopw [3] (fun i wr => ∃ k : Nat, k ≤ us.length ∧ i = .int .i64 k ∧ usE n0 us = usE n0 (us.drop k) ∧ Below w.heap.size w wr) (fun i _ => us.length - (intOf i).toNat)
    case atStart => exact ⟨0, Nat.zero_le _, rfl, by simp, Below.refl _ _⟩
    case round =>
      obtain ⟨k, hk, rfl, he, hbel⟩ := hrel
      have HE := hide he; clear he
      by_cases hlt : k < us.length
      · have hs' := HS.out.bel gr_lasts hbel
        obtain ⟨b, off, B, ck, rfl, d1, hr⟩ := hs'.at_ hlt
        obtain ⟨b', off', B0, c0, hA, d0, hr0⟩ := hs'.at_ (by omega : 0 < us.length)
        injection hA with hA
        injection hA with hA1 hA2
        subst hA1 hA2
        have hu0 : (us[0]'(by omega)).length = n0 := by rw [← HN0.out, List.getElem?_eq_getElem (by omega : 0 < us.length)]; rfl
        rw [hu0, Nat.add_zero] at d0
        have hst := userE_step n0 us[k]
        have hskip := hide (usE_skip n0 us k hlt)
        have hhit := hide (usE_hit n0 us k hlt)
        obtain ⟨u, hu⟩ : ∃ u, us[k] = u := ⟨_, rfl⟩
        rw [hu] at d1 hr hst hskip hhit
        have HR := hide hr
        have hlq := lenEq u.length n0
        have h0i : (0 : Int) < (us.length : Int) := by omega
        have h0n : 0 < us.length := by omega
        clear hr hr0 hs' hu0 hu
        by_cases q1 : chE u = 0
        · rw [if_pos q1] at hst
          have hne : (chE u != 0) = false := by rw [bne_eq_false_iff_eq]; exact q1
          obtain ⟨-, s30⟩ := chE_ok q1
          have HEN := hide (fun W hb => energy_ref B ck u.length u W hb rfl s30)
          clear s30
          by_cases q2 : u.length = n0
          · rw [if_pos q2] at hst
            have hne2 : ((u.length : Int) != (n0 : Int)) = false := by rw [bne_eq_false_iff_eq]; omega
            have Q2 := hide q2; clear q2
            by_cases q3 : enG u u.length = 0
            · rw [if_pos q3] at hst
              have hne3 : (enG u u.length == 0) = true := by rw [beq_iff_eq]; exact q3
              have hht := hide (hhit.out (by rw [hst]; decide))
              have HST := hide hst
              clear hst hskip hhit q1 q3
              go_wp2_with (go_at_call 87; refine (channelErr_ref B ck u _ HR.out).mono ?_; rintro e w1 ⟨rfl, hb1⟩; have b1 : Below wr.heap.size wr w1 := hb1; clear hb1; have q1 := b1.keeps d0; have q2 := b1.keeps d1; simp only [])
              go_quiet (fail)
              go_wp2_with (go_at_call 91; refine (HEN.out _ (Sl.bel HR.out (by first | exact below_drewN b1 _ | exact b1))).mono ?_; rintro e w2 ⟨rfl, hb2⟩; have b2 : Below wr.heap.size wr w2 := Below.step (by first | exact below_drewN b1 _ | exact b1) hb2; clear hb2; simp only [])
              go_ret
              exact ⟨by rw [HV.out, HE.out, hht.out, HST.out]; rfl, Below.step hbel b2⟩
            · rw [if_neg q3] at hst
              have hne3 : (enG u u.length == 0) = false := by rw [beq_eq_false_iff_ne]; exact q3
              have hsk := hide (hskip.out hst)
              clear hst hskip hhit q1 q3
              go_wp2_with (go_at_call 87; refine (channelErr_ref B ck u _ HR.out).mono ?_; rintro e w1 ⟨rfl, hb1⟩; have b1 : Below wr.heap.size wr w1 := hb1; clear hb1; have q1 := b1.keeps d0; have q2 := b1.keeps d1; simp only [])
              go_quiet (fail)
              go_wp2_with (go_at_call 91; refine (HEN.out _ (Sl.bel HR.out (by first | exact below_drewN b1 _ | exact b1))).mono ?_; rintro e w2 ⟨rfl, hb2⟩; have b2 : Below wr.heap.size wr w2 := Below.step (by first | exact below_drewN b1 _ | exact b1) hb2; clear hb2; simp only [])
              go_roundw
              case rel => exact ⟨k + 1, by omega, by go_num, by rw [HE.out, hsk.out], Below.step hbel b2⟩
              case measure => simp [intOf]; omega
          · rw [if_neg q2] at hst
            have hne2 : ((u.length : Int) != (n0 : Int)) = true := by rw [bne_iff_ne]; omega
            have hht := hide (hhit.out (by rw [hst]; decide))
            have HST := hide hst
            clear hst hskip hhit q1 q2
            go_wp2_with (go_at_call 87; refine (channelErr_ref B ck u _ HR.out).mono ?_; rintro e w1 ⟨rfl, hb1⟩; have b1 : Below wr.heap.size wr w1 := hb1; clear hb1; have q1 := b1.keeps d0; have q2 := b1.keeps d1; simp only [])
            go_quiet (fail)
            go_wp2
            go_ret
            exact ⟨by rw [HV.out, HE.out, hht.out, HST.out]; rfl, by first | exact below_drewN (Below.step hbel b1) _ | exact Below.step hbel b1⟩
        · rw [if_neg q1] at hst
          have hne : (chE u != 0) = true := by rw [bne_iff_ne]; exact q1
          have hht := hide (hhit.out (by rw [hst]; exact q1))
          have HST := hide hst
          clear hst hskip hhit q1
          go_wp2_with (go_at_call 87; refine (channelErr_ref B ck u _ HR.out).mono ?_; rintro e w1 ⟨rfl, hb1⟩; have b1 : Below wr.heap.size wr w1 := hb1; clear hb1; simp only [])
          go_ret
          exact ⟨by rw [HV.out, HE.out, hht.out, HST.out]; rfl, Below.step hbel b1⟩
      · go_wp2
        go_ret
        exact ⟨by rw [HV.out, HE.out, List.drop_eq_nil_of_le (by omega)]; rfl, hbel⟩

/-! copies of users -/
theorem gsl_info : (Try.prog.info? 80).map (fun i => (i.zero, i.size, i.bytes)) = some (some (.slice none 0 0), 1, 24) := by kernel_rfl
set_option maxRecDepth 100000 in
set_option maxHeartbeats 4000000 in
theorem copyUsers_ref (A : Option Addr) (c : Nat) (us : List (List (Int × Int))) (w : World) (hs : RowsAt GR w A us) (hl : ∀ u ∈ us, u.length ≤ 100) (hn : us.length ≤ 100) :
    Calls Try.prog 71 #[.slice A us.length c] w fun e w' => ∃ C k, e = .returned (.slice C us.length k) ∧ RowsAt GR w' C us ∧ Below w.heap.size w w' := by
  obtain ⟨i0, hi0, hz0, hz1, hz2⟩ := info_parts gsl_info
  have HS := hide hs; clear hs
  have HLN := hide hl; clear hl
  go_enter Try.func71, Try.ntmps71
  go_wp2
  go_loopw [3, 4] (fun o i wr => ∃ (k : Nat) (C : Option Addr) (c1 : Nat) (vs : List Value), k ≤ us.length ∧ i = .int .i64 k ∧ o = .slice C k c1 ∧ vs.length = k ∧ wr.ownsRow w.heap.size 80 1 (.slice C k c1) k vs ∧ (∀ j (hj : j < us.length), j < k → ∃ B n, vs[j]? = some (.slice B us[j].length n) ∧ wr.ownsRow w.heap.size 90 2 (.slice B us[j].length n) us[j].length (gv us[j])) ∧ Below w.heap.size w wr) (fun _ i _ => us.length - (intOf i).toNat)
  case atStart => exact ⟨0, none, 0, [], Nat.zero_le _, rfl, rfl, rfl, World.ownsRow_nil _ _ _ _, fun j _ hj => absurd hj (by omega), Below.refl _ _⟩
  case round =>
    obtain ⟨k, C, c1, vs, hk, rfl, rfl, hvl, hrow, hin, hbel⟩ := hrel
    by_cases hlt : k < us.length
    · obtain ⟨b, off, B, ck, rfl, d1, hr⟩ := (HS.out.bel gr_lasts hbel).at_ hlt
      have hlk : us[k].length ≤ 100 := HLN.out _ (List.getElem_mem hlt)
      have HIN := hide hin
      have HROW := hide hrow
      have hbz := hbel.size
      obtain ⟨u, hu⟩ : ∃ u, us[k] = u := ⟨_, rfl⟩
      rw [hu] at d1 hr hlk
      have HU := hide hu
      have HR := hide hr
      clear hin hr hu hrow
      go_wp2_with (first
        | (go_at_call 53; go_must (refine (copyGausses B ck u _ HR.out (by omega)).mono ?_; rintro e w1 ⟨B1, n1, rfl, ho1, hb1⟩; have b1 : Below wr.heap.size wr w1 := hb1; have HO1 := hide (ho1.weaken (base' := w.heap.size) hbz); have HROW1 := hide (own_bel HROW.out b1); have z1 := b1.size; clear hb1 ho1; simp only []))
        | (at_builtin; go_must (
             refine wpList_append_own _ rfl _ _ 100 rfl w.heap.size 80 i0 (.slice none 0 0) 1 24 Try.underlying100 hi0 hz0 hz1 hz2 rfl (by decide) _ _ _ rfl (HROW1.out.alloc _) ⟨w1.heap.size, 0, none⟩ 1 1 [.slice B1 u.length n1] rfl rfl (cell_one_new _ _ _) (by simp [Value.oneCell']) (by simp only [maxLen]; omega) (by omega) (by simp; omega) ?_
             intro v' w3 hown' hgrow _
             obtain ⟨C2, k2, rfl⟩ := own_form hown'
             have hbel' := Below.app (Below.step hbel b1) HROW1.out hgrow)))
      have hkeep : ∀ (v : Value) (m : Nat) (xs : List Value), w1.ownsRow w.heap.size 90 2 v m xs → w3.ownsRow w.heap.size 90 2 v m xs := fun v m xs h => by
        have h3 := h.alloc (.cells #[.slice B1 u.length n1] 80)
        exact World.ownsRow.kept h3 hgrow (rows_ne h3 (HROW1.out.alloc _) (by decide))
      have hin' : ∀ j (hj : j < us.length), j < k + 1 → ∃ B n, (vs ++ [.slice B1 u.length n1])[j]? = some (.slice B us[j].length n) ∧ w3.ownsRow w.heap.size 90 2 (.slice B us[j].length n) us[j].length (gv us[j]) := fun j hj hjk => by
        by_cases q : j < k
        · obtain ⟨B2, n2, h1, h2⟩ := HIN.out j hj q
          exact ⟨B2, n2, by rw [List.getElem?_append_left (by omega)]; exact h1, hkeep _ _ _ (own_bel h2 b1)⟩
        · obtain rfl : j = k := by omega
          rw [HU.out]
          exact ⟨B1, n1, by rw [List.getElem?_append_right (by omega), hvl, Nat.sub_self]; rfl, hkeep _ _ _ HO1.out⟩
      have HIN' := hide hin'
      have HVL := hide (show (vs ++ [Value.slice B1 u.length n1]).length = k + 1 by simp [hvl])
      clear hin' hkeep
      go_wp2
      go_roundw
      case rel => exact ⟨k + 1, C2, k2, _, by omega, by go_num, rfl, HVL.out, hown', HIN'.out, hbel'⟩
      case measure => simp [intOf]; omega
    · obtain rfl : k = us.length := by omega
      go_wp2
      go_ret
      exact ⟨C, c1, rfl, ⟨vs, Sl.of_own hrow, hvl, fun j hj => by
        obtain ⟨B, n, h1, h2⟩ := hin j hj hj
        exact ⟨B, n, h1, Sl.of_ownN h2⟩⟩, hbel⟩
end Go.Proofs.Ytamkannjdbodpaa
