import Derived.Test.YtamkannjdbodpaaShrR
namespace Go.Proofs.Ytamkannjdbodpaa
open Go.RowKit Go.WideShapes Go.ChangeShapes

/-! users: a slice of channels -/
def RowsAt (R : World → Option Addr → List (Int × Int) → Prop) (w : World) (A : Option Addr) (us : List (List (Int × Int))) : Prop :=
  ∃ vs : List Value, Sl w A vs ∧ vs.length = us.length ∧ ∀ k (hk : k < us.length), ∃ B c, vs[k]? = some (.slice B us[k].length c) ∧ R w B us[k]
def GR (w : World) (B : Option Addr) (l : List (Int × Int)) : Prop := Sl w B (gv l)
def CR (w : World) (B : Option Addr) (l : List (Int × Int)) : Prop := ∃ xs, Sl w B xs ∧ (Small 9000000000000 l → ChIs xs l)
def Lasts (R : World → Option Addr → List (Int × Int) → Prop) : Prop := ∀ w w' B l, R w B l → Below w.heap.size w w' → R w' B l
theorem gr_lasts : Lasts GR := fun _ _ _ _ h hb => Sl.bel h hb
theorem cr_lasts : Lasts CR := fun _ _ _ _ ⟨xs, h, hx⟩ hb => ⟨xs, h.bel hb, hx⟩
theorem RowsAt.bel {R : World → Option Addr → List (Int × Int) → Prop} {w w' : World} {A : Option Addr} {us : List (List (Int × Int))} (hR : Lasts R) (h : RowsAt R w A us) (hb : Below w.heap.size w w') : RowsAt R w' A us := by
  obtain ⟨vs, h1, h2, h3⟩ := h
  refine ⟨vs, h1.bel hb, h2, fun k hk => ?_⟩
  obtain ⟨B, c, h4, h5⟩ := h3 k hk
  exact ⟨B, c, h4, hR _ _ _ _ h5 hb⟩
theorem RowsAt.at_ {R : World → Option Addr → List (Int × Int) → Prop} {w : World} {A : Option Addr} {us : List (List (Int × Int))} (h : RowsAt R w A us) {k : Nat} (hk : k < us.length) :
    ∃ b off B c, A = some ⟨b, off, none⟩ ∧ w.cell? ⟨b, off + k, none⟩ = some (.slice B us[k].length c) ∧ R w B us[k] := by
  obtain ⟨vs, h1, h2, h3⟩ := h
  obtain ⟨B, c, h4, h5⟩ := h3 k hk
  obtain ⟨j, e⟩ := List.getElem?_eq_some_iff.1 h4
  obtain ⟨b, off, e1, e2⟩ := h1 k j
  exact ⟨b, off, B, c, e1, by rw [e2, e], h5⟩

def userE (n0 : Nat) (h : List (Int × Int)) : Int := firstOf [chE h, unlessE (decide (h.length = n0)) 13, unlessE (h.any someG) 11]
def usE (n0 : Nat) : List (List (Int × Int)) → Int
  | [] => 0
  | h :: r => if userE n0 h = 0 then usE n0 r else userE n0 h
def usersE (us : List (List (Int × Int))) : Int := if 6 < us.length then 8 else usE ((us[0]?.getD []).length) us
theorem usE_skip (n0 : Nat) (us : List (List (Int × Int))) (k : Nat) (hk : k < us.length) (h0 : userE n0 us[k] = 0) : usE n0 (us.drop k) = usE n0 (us.drop (k + 1)) := by
  rw [List.drop_eq_getElem_cons hk]; exact if_pos h0
theorem usE_hit (n0 : Nat) (us : List (List (Int × Int))) (k : Nat) (hk : k < us.length) (h0 : userE n0 us[k] ≠ 0) : usE n0 (us.drop k) = userE n0 us[k] := by
  rw [List.drop_eq_getElem_cons hk]; exact if_neg h0

set_option maxRecDepth 100000 in
set_option maxHeartbeats 4000000 in
theorem usersErr_beam (A : Option Addr) (c : Nat) (us : List (List (Int × Int))) (w : World) (hs : RowsAt GR w A us) (hl : ∀ u ∈ us, u.length ≤ 100) (hn : us.length ≤ 100) :
    Calls Try.prog 163 #[.slice A us.length c] w fun e w' => e = .returned (.int .i64 (usersE us)) ∧ Below w.heap.size w w' := by
  have HS := hide hs; clear hs
  have HLN := hide hl; clear hl
  by_cases h6 : 6 < us.length
  · have HV := hide (show usersE us = 8 from if_pos h6)
    go_enter Try.func163, Try.ntmps163
    go_wp2
    go_ret
    exact ⟨by rw [HV.out]; rfl, by go_grown⟩
  · have HV := hide (show usersE us = usE ((us[0]?.getD []).length) us from if_neg h6)
    obtain ⟨n0, hn0⟩ : ∃ n0, (us[0]?.getD []).length = n0 := ⟨_, rfl⟩
    rw [hn0] at HV
    have HN0 := hide hn0; clear hn0
    go_enter Try.func163, Try.ntmps163
    go_wp2
    go_loopw [11] (fun i wr => ∃ k : Nat, k ≤ us.length ∧ i = .int .i64 k ∧ usE n0 us = usE n0 (us.drop k) ∧ Below w.heap.size w wr) (fun i _ => us.length - (intOf i).toNat)
    case atStart => exact ⟨0, Nat.zero_le _, rfl, by simp, Below.refl _ _⟩
    case round =>
      obtain ⟨k, hk, rfl, he, hbel⟩ := hrel
      have HE := hide he; clear he
      by_cases hlt : k < us.length
      · have hs' := HS.out.bel gr_lasts hbel
        obtain ⟨b, off, B, ck, rfl, d1, hr⟩ := hs'.at_ hlt
        obtain ⟨b', off', B0, c0, hA, d0, hr0⟩ := hs'.at_ (by omega : 0 < us.length)
        injection hA with hA
        injection hA with hA1 hA2
        subst hA1 hA2
        have hu0 : (us[0]'(by omega)).length = n0 := by rw [← HN0.out, List.getElem?_eq_getElem (by omega : 0 < us.length)]; rfl
        rw [hu0, Nat.add_zero] at d0
        have hlk : us[k].length ≤ 100 := HLN.out _ (List.getElem_mem hlt)
        have hdef := hide (show userE n0 us[k] = firstOf [chE us[k], unlessE (decide (us[k].length = n0)) 13, unlessE (us[k].any someG) 11] from rfl)
        have hskip := hide (usE_skip n0 us k hlt)
        have hhit := hide (usE_hit n0 us k hlt)
        obtain ⟨u, hu⟩ : ∃ u, us[k] = u := ⟨_, rfl⟩
        rw [hu] at d1 hr hlk hdef hskip hhit
        have HR := hide hr
        have hlq := lenEq u.length n0
        have hb1w := lt_of_cell d1
        clear hr hr0 hs' hu0 hu
        obtain ⟨E, hE⟩ : ∃ E, userE n0 u = E := ⟨_, rfl⟩
        rw [hE] at hdef hskip hhit
        clear hE
        have h0i : (0 : Int) < (us.length : Int) := by omega
        have h0n : 0 < us.length := by omega
        go_wp2
        go_region_held3 (fun w' => w'.cell? ⟨b, off, none⟩ = some (.slice B0 n0 c0)) (first | (simp [go_sem]; done) | (simp [go_sem, *]; done) | go_keep)
          (first
            | (go_at_call 130; go_must (refine (channelErr_beam B ck u _ (Sl.bel HR.out (by go_grown)) (by omega)).mono ?_; rintro e w1 ⟨rfl, hb1⟩; have b1 : Below wr.heap.size wr w1 := Below.step (by go_grown) hb1; clear hb1; have q1 := b1.keeps d0; have z1 := b1.size))
            | (go_at_call 158; go_must (refine (isZero_beam B ck u _ (Sl.bel HR.out b1) (by omega)).mono ?_; rintro e w2 ⟨rfl, hb2⟩; have b2 : Below wr.heap.size wr w2 := Below.step b1 hb2; clear hb2; have q2 := b2.keeps d0; have z2 := b2.size))
            | (go_at_call 94; go_must (refine (unless_any _ _ _).mono ?_; rintro e w' ⟨rfl, rfl⟩))
            | (go_at_call 93; go_must (refine (first3 _ _ _ _ _ (by simp)).mono ?_; rintro e w' ⟨rfl, rfl⟩)))
        clear h0i h0n
        rw [← hdef.out]
        by_cases h0 : E = 0
        · have hne : (E != 0) = false := by rw [bne_eq_false_iff_eq]; exact h0
          have hsk := hide (hskip.out h0)
          go_wp2
          go_roundw
          case rel => exact ⟨k + 1, by omega, by go_num, by rw [HE.out, hsk.out], by first | exact (Below.step hbel b2).alloc (Below.step hbel b2).size _ | go_grown⟩
          case measure => simp [intOf]; omega
        · have hne : (E != 0) = true := by rw [bne_iff_ne]; exact h0
          have hht := hide (hhit.out h0)
          go_wp2
          go_ret
          exact ⟨by rw [HV.out, HE.out, hht.out]; rfl, by first | exact (Below.step hbel b2).alloc (Below.step hbel b2).size _ | go_grown⟩
      · go_wp2
        go_ret
        exact ⟨by rw [HV.out, HE.out, List.drop_eq_nil_of_le (by omega)]; rfl, hbel⟩
end Go.Proofs.Ytamkannjdbodpaa

namespace Go.Proofs.Ytamkannjdbodpaa
open Go.RowKit Go.WideShapes Go.ChangeShapes

theorem userE_step (n0 : Nat) (u : List (Int × Int)) : userE n0 u = if chE u = 0 then (if u.length = n0 then (if enG u u.length = 0 then 11 else 0) else 13) else chE u := by
  unfold userE firstOf firstOf firstOf firstOf
  by_cases q1 : chE u = 0
  · by_cases q2 : u.length = n0
    · cases q3 : u.any someG
      · simp [q1, q2, unlessE, none_en q3]
      · have := any_en q3
        have h : enG u u.length ≠ 0 := by omega
        rw [q2] at h
        simp [q1, q2, unlessE, h]
    · simp [q1, q2, unlessE]
  · simp [q1]
set_option maxRecDepth 100000 in
set_option maxHeartbeats 4000000 in
theorem usersErr_ref (A : Option Addr) (c : Nat) (us : List (List (Int × Int))) (w : World) (hs : RowsAt GR w A us) :
    Calls Try.prog 68 #[.slice A us.length c] w fun e w' => e = .returned (.int .i64 (usersE us)) ∧ Below w.heap.size w w' := by
  have HS := hide hs; clear hs
  by_cases h6 : 6 < us.length
  · have HV := hide (show usersE us = 8 from if_pos h6)
    go_enter Try.func68, Try.ntmps68
    go_wp2
    go_ret
    exact ⟨by rw [HV.out]; rfl, by go_grown⟩
  · have HV := hide (show usersE us = usE ((us[0]?.getD []).length) us from if_neg h6)
    obtain ⟨n0, hn0⟩ : ∃ n0, (us[0]?.getD []).length = n0 := ⟨_, rfl⟩
    rw [hn0] at HV
    have HN0 := hide hn0; clear hn0
    go_enter Try.func68, Try.ntmps68
    go_wp2
    go_loopw [3] (fun i wr => ∃ k : Nat, k ≤ us.length ∧ i = .int .i64 k ∧ usE n0 us = usE n0 (us.drop k) ∧ Below w.heap.size w wr) (fun i _ => us.length - (intOf i).toNat)
    case atStart => exact ⟨0, Nat.zero_le _, rfl, by simp, Below.refl _ _⟩
    case round =>
      obtain ⟨k, hk, rfl, he, hbel⟩ := hrel
      have HE := hide he; clear he
      by_cases hlt : k < us.length
      · have hs' := HS.out.bel gr_lasts hbel
        obtain ⟨b, off, B, ck, rfl, d1, hr⟩ := hs'.at_ hlt
        obtain ⟨b', off', B0, c0, hA, d0, hr0⟩ := hs'.at_ (by omega : 0 < us.length)
        injection hA with hA
        injection hA with hA1 hA2
        subst hA1 hA2
        have hu0 : (us[0]'(by omega)).length = n0 := by rw [← HN0.out, List.getElem?_eq_getElem (by omega : 0 < us.length)]; rfl
        rw [hu0, Nat.add_zero] at d0
        have hst := userE_step n0 us[k]
        have hskip := hide (usE_skip n0 us k hlt)
        have hhit := hide (usE_hit n0 us k hlt)
        obtain ⟨u, hu⟩ : ∃ u, us[k] = u := ⟨_, rfl⟩
        rw [hu] at d1 hr hst hskip hhit
        have HR := hide hr
        have hlq := lenEq u.length n0
        have h0i : (0 : Int) < (us.length : Int) := by omega
        have h0n : 0 < us.length := by omega
        clear hr hr0 hs' hu0 hu
        by_cases q1 : chE u = 0
        · rw [if_pos q1] at hst
          have hne : (chE u != 0) = false := by rw [bne_eq_false_iff_eq]; exact q1
          obtain ⟨-, s30⟩ := chE_ok q1
          have HEN := hide (fun W hb => energy_ref B ck u.length u W hb rfl s30)
          clear s30
          by_cases q2 : u.length = n0
          · rw [if_pos q2] at hst
            have hne2 : ((u.length : Int) != (n0 : Int)) = false := by rw [bne_eq_false_iff_eq]; omega
            have Q2 := hide q2; clear q2
            by_cases q3 : enG u u.length = 0
            · rw [if_pos q3] at hst
              have hne3 : (enG u u.length == 0) = true := by rw [beq_iff_eq]; exact q3
              have hht := hide (hhit.out (by rw [hst]; decide))
              have HST := hide hst
              clear hst hskip hhit q1 q3
              go_wp2_with (go_at_call 87; refine (channelErr_ref B ck u _ HR.out).mono ?_; rintro e w1 ⟨rfl, hb1⟩; have b1 : Below wr.heap.size wr w1 := hb1; clear hb1; have q1 := b1.keeps d0; have q2 := b1.keeps d1; simp only [])
              go_quiet (fail)
              go_wp2_with (go_at_call 91; refine (HEN.out _ (Sl.bel HR.out (by first | exact below_drewN b1 _ | exact b1))).mono ?_; rintro e w2 ⟨rfl, hb2⟩; have b2 : Below wr.heap.size wr w2 := Below.step (by first | exact below_drewN b1 _ | exact b1) hb2; clear hb2; simp only [])
              go_ret
              exact ⟨by rw [HV.out, HE.out, hht.out, HST.out]; rfl, Below.step hbel b2⟩
            · rw [if_neg q3] at hst
              have hne3 : (enG u u.length == 0) = false := by rw [beq_eq_false_iff_ne]; exact q3
              have hsk := hide (hskip.out hst)
              clear hst hskip hhit q1 q3
              go_wp2_with (go_at_call 87; refine (channelErr_ref B ck u _ HR.out).mono ?_; rintro e w1 ⟨rfl, hb1⟩; have b1 : Below wr.heap.size wr w1 := hb1; clear hb1; have q1 := b1.keeps d0; have q2 := b1.keeps d1; simp only [])
              go_quiet (fail)
              go_wp2_with (go_at_call 91; refine (HEN.out _ (Sl.bel HR.out (by first | exact below_drewN b1 _ | exact b1))).mono ?_; rintro e w2 ⟨rfl, hb2⟩; have b2 : Below wr.heap.size wr w2 := Below.step (by first | exact below_drewN b1 _ | exact b1) hb2; clear hb2; simp only [])
              go_roundw
              case rel => exact ⟨k + 1, by omega, by go_num, by rw [HE.out, hsk.out], Below.step hbel b2⟩
              case measure => simp [intOf]; omega
          · rw [if_neg q2] at hst
            have hne2 : ((u.length : Int) != (n0 : Int)) = true := by rw [bne_iff_ne]; omega
            have hht := hide (hhit.out (by rw [hst]; decide))
            have HST := hide hst
            clear hst hskip hhit q1 q2
            go_wp2_with (go_at_call 87; refine (channelErr_ref B ck u _ HR.out).mono ?_; rintro e w1 ⟨rfl, hb1⟩; have b1 : Below wr.heap.size wr w1 := hb1; clear hb1; have q1 := b1.keeps d0; have q2 := b1.keeps d1; simp only [])
            go_quiet (fail)
            go_wp2
            go_ret
            exact ⟨by rw [HV.out, HE.out, hht.out, HST.out]; rfl, by first | exact below_drewN (Below.step hbel b1) _ | exact Below.step hbel b1⟩
        · rw [if_neg q1] at hst
          have hne : (chE u != 0) = true := by rw [bne_iff_ne]; exact q1
          have hht := hide (hhit.out (by rw [hst]; exact q1))
          have HST := hide hst
          clear hst hskip hhit q1
          go_wp2_with (go_at_call 87; refine (channelErr_ref B ck u _ HR.out).mono ?_; rintro e w1 ⟨rfl, hb1⟩; have b1 : Below wr.heap.size wr w1 := hb1; clear hb1; simp only [])
          go_ret
          exact ⟨by rw [HV.out, HE.out, hht.out, HST.out]; rfl, Below.step hbel b1⟩
      · go_wp2
        go_ret
        exact ⟨by rw [HV.out, HE.out, List.drop_eq_nil_of_le (by omega)]; rfl, hbel⟩

/-! copies of users -/
theorem gsl_info : (Try.prog.info? 80).map (fun i => (i.zero, i.size, i.bytes)) = some (some (.slice none 0 0), 1, 24) := by kernel_rfl
set_option maxRecDepth 100000 in
set_option maxHeartbeats 4000000 in
theorem copyUsers_ref (A : Option Addr) (c : Nat) (us : List (List (Int × Int))) (w : World) (hs : RowsAt GR w A us) (hl : ∀ u ∈ us, u.length ≤ 100) (hn : us.length ≤ 100) :
    Calls Try.prog 71 #[.slice A us.length c] w fun e w' => ∃ C k, e = .returned (.slice C us.length k) ∧ RowsAt GR w' C us ∧ Below w.heap.size w w' := by
  obtain ⟨i0, hi0, hz0, hz1, hz2⟩ := info_parts gsl_info
  have HS := hide hs; clear hs
  have HLN := hide hl; clear hl
  go_enter Try.func71, Try.ntmps71
  go_wp2
  go_loopw [3, 4] (fun o i wr => ∃ (k : Nat) (C : Option Addr) (c1 : Nat) (vs : List Value), k ≤ us.length ∧ i = .int .i64 k ∧ o = .slice C k c1 ∧ vs.length = k ∧ wr.ownsRow w.heap.size 80 1 (.slice C k c1) k vs ∧ (∀ j (hj : j < us.length), j < k → ∃ B n, vs[j]? = some (.slice B us[j].length n) ∧ wr.ownsRow w.heap.size 90 2 (.slice B us[j].length n) us[j].length (gv us[j])) ∧ Below w.heap.size w wr) (fun _ i _ => us.length - (intOf i).toNat)
  case atStart => exact ⟨0, none, 0, [], Nat.zero_le _, rfl, rfl, rfl, World.ownsRow_nil _ _ _ _, fun j _ hj => absurd hj (by omega), Below.refl _ _⟩
  case round =>
    obtain ⟨k, C, c1, vs, hk, rfl, rfl, hvl, hrow, hin, hbel⟩ := hrel
    by_cases hlt : k < us.length
    · obtain ⟨b, off, B, ck, rfl, d1, hr⟩ := (HS.out.bel gr_lasts hbel).at_ hlt
      have hlk : us[k].length ≤ 100 := HLN.out _ (List.getElem_mem hlt)
      have HIN := hide hin
      have HROW := hide hrow
      have hbz := hbel.size
      obtain ⟨u, hu⟩ : ∃ u, us[k] = u := ⟨_, rfl⟩
      rw [hu] at d1 hr hlk
      have HU := hide hu
      have HR := hide hr
      clear hin hr hu hrow
      go_wp2_with (first
        | (go_at_call 53; go_must (refine (copyGausses B ck u _ HR.out (by omega)).mono ?_; rintro e w1 ⟨B1, n1, rfl, ho1, hb1⟩; have b1 : Below wr.heap.size wr w1 := hb1; have HO1 := hide (ho1.weaken (base' := w.heap.size) hbz); have HROW1 := hide (own_bel HROW.out b1); have z1 := b1.size; clear hb1 ho1; simp only []))
        | (at_builtin; go_must (
             refine wpList_append_own _ rfl _ _ 100 rfl w.heap.size 80 i0 (.slice none 0 0) 1 24 Try.underlying100 hi0 hz0 hz1 hz2 rfl (by decide) _ _ _ rfl (HROW1.out.alloc _) ⟨w1.heap.size, 0, none⟩ 1 1 [.slice B1 u.length n1] rfl rfl (cell_one_new _ _ _) (by simp [Value.oneCell']) (by simp only [maxLen]; omega) (by omega) (by simp; omega) ?_
             intro v' w3 hown' hgrow _
             obtain ⟨C2, k2, rfl⟩ := own_form hown'
             have hbel' := Below.app (Below.step hbel b1) HROW1.out hgrow)))
      have hkeep : ∀ (v : Value) (m : Nat) (xs : List Value), w1.ownsRow w.heap.size 90 2 v m xs → w3.ownsRow w.heap.size 90 2 v m xs := fun v m xs h => by
        have h3 := h.alloc (.cells #[.slice B1 u.length n1] 80)
        exact World.ownsRow.kept h3 hgrow (rows_ne h3 (HROW1.out.alloc _) (by decide))
      have hin' : ∀ j (hj : j < us.length), j < k + 1 → ∃ B n, (vs ++ [.slice B1 u.length n1])[j]? = some (.slice B us[j].length n) ∧ w3.ownsRow w.heap.size 90 2 (.slice B us[j].length n) us[j].length (gv us[j]) := fun j hj hjk => by
        by_cases q : j < k
        · obtain ⟨B2, n2, h1, h2⟩ := HIN.out j hj q
          exact ⟨B2, n2, by rw [List.getElem?_append_left (by omega)]; exact h1, hkeep _ _ _ (own_bel h2 b1)⟩
        · obtain rfl : j = k := by omega
          rw [HU.out]
          exact ⟨B1, n1, by rw [List.getElem?_append_right (by omega), hvl, Nat.sub_self]; rfl, hkeep _ _ _ HO1.out⟩
      have HIN' := hide hin'
      have HVL := hide (show (vs ++ [Value.slice B1 u.length n1]).length = k + 1 by simp [hvl])
      clear hin' hkeep
      go_wp2
      go_roundw
      case rel => exact ⟨k + 1, C2, k2, _, by omega, by go_num, rfl, HVL.out, hown', HIN'.out, hbel'⟩
      case measure => simp [intOf]; omega
    · obtain rfl : k = us.length := by omega
      go_wp2
      go_ret
      exact ⟨C, c1, rfl, ⟨vs, Sl.of_own hrow, hvl, fun j hj => by
        obtain ⟨B, n, h1, h2⟩ := hin j hj hj
        exact ⟨B, n, h1, Sl.of_ownN h2⟩⟩, hbel⟩
end Go.Proofs.Ytamkannjdbodpaa

namespace Go.Proofs.Ytamkannjdbodpaa
open Go.RowKit Go.WideShapes Go.ChangeShapes

theorem chn_info : (Try.prog.info? 162).map (fun i => (i.zero, i.size, i.bytes)) = some (some (.slice none 0 0), 1, 24) := by kernel_rfl
theorem reads_one (w : World) (a : Value) (t : TypeId) : Reads (w.alloc (.cells #[a] t)) (w.heap.size + 1) 1 (some ⟨w.heap.size, 0, none⟩) 1 [a] :=
  ⟨rfl, fun _ => ⟨_, rfl, by simp, fun j u hu => cell_one_new _ _ _ j u hu⟩⟩
theorem channelOf_own (A : Option Addr) (c n : Nat) (h : List (Int × Int)) (w : World) (hn : h.length = n) (hs : Sl w A (gv h)) (hl : n ≤ 100) :
    Calls Try.prog 131 #[.slice A n c] w fun e w' => ∃ B k xs, e = .returned (.slice B n k) ∧ (Small 9000000000000 h → ChIs xs h) ∧ w'.ownsRow w.heap.size 165 1 (.slice B n k) n xs ∧ Below w.heap.size w w' := by
  subst hn
  exact channelOf_beam A c h w hs hl
set_option maxRecDepth 100000 in
set_option maxHeartbeats 8000000 in
theorem openUsers_beam (A : Option Addr) (c : Nat) (us : List (List (Int × Int))) (a b : Int) (w : World) (hs : RowsAt GR w A us) (hl : ∀ u ∈ us, u.length ≤ 100) (hn : us.length ≤ 100)
    (a1 : -9223372036854775808 ≤ a) (a2 : a ≤ 9223372036854775807) (b2 : b ≤ 9223372036854775807) :
    Calls Try.prog 136 #[.slice A us.length c, .agg #[.int .i64 a, .int .i64 b]] w fun e w' => ∃ C k, e = .returned (.tuple #[.agg #[.slice C us.length k, .int .i64 a, .int .i64 b], .int .i64 (firstOf [usersE us, mostE a b])]) ∧ RowsAt CR w' C us ∧ Below w.heap.size w w' := by
  obtain ⟨i0, hi0, hz0, hz1, hz2⟩ := info_parts chn_info
  have HM := hide (fun W => mostErr_beam a b W a1 a2 b2)
  have HU := hide (fun W hb => usersErr_beam A c us W hb hl hn)
  have HS := hide hs; clear hs
  have HLN := hide hl; clear hl a1 a2 b2
  obtain ⟨M, hM⟩ : ∃ M, mostE a b = M := ⟨_, rfl⟩
  obtain ⟨U, hU⟩ : ∃ U, usersE us = U := ⟨_, rfl⟩
  rw [hM] at HM
  rw [hU] at HU
  rw [hM, hU]
  clear hM hU
  go_enter Try.func136, Try.ntmps136
  go_wp2
  go_loopw [13] (fun i wr => ∃ (k : Nat) (C : Option Addr) (c1 : Nat) (vs : List Value), k ≤ us.length ∧ i = .int .i64 k ∧ vs.length = k ∧ Blk wr w.heap.size 86 #[.int .i64 a, .int .i64 b] ∧ Blk wr (w.heap.size + 1) 177 #[.slice none 0 0, .int .i64 0, .int .i64 0] ∧ Blk wr (w.heap.size + 1 + 1) 177 #[.slice C k c1, .int .i64 a, .int .i64 b] ∧ wr.ownsRow w.heap.size 162 1 (.slice C k c1) k vs ∧ (∀ j (hj : j < us.length), j < k → ∃ B n xs, vs[j]? = some (.slice B us[j].length n) ∧ wr.ownsRow w.heap.size 165 1 (.slice B us[j].length n) us[j].length xs ∧ (Small 9000000000000 us[j] → ChIs xs us[j])) ∧ Below w.heap.size w wr) (fun i _ => us.length - (intOf i).toNat)
  case atStart => exact ⟨0, none, 0, [], Nat.zero_le _, rfl, rfl, ((Blk.new w _ _).alloc _).alloc _, (by have := (Blk.new (w.alloc (.cells #[.int .i64 a, .int .i64 b] 86)) 177 #[.slice none 0 0, .int .i64 0, .int .i64 0]).alloc (.cells #[.slice none 0 0, .int .i64 a, .int .i64 b] 177); rw [World.size_alloc] at this; exact this), (by have := Blk.new ((w.alloc (.cells #[.int .i64 a, .int .i64 b] 86)).alloc (.cells #[.slice none 0 0, .int .i64 0, .int .i64 0] 177)) 177 #[.slice none 0 0, .int .i64 a, .int .i64 b]; rw [World.size_alloc, World.size_alloc] at this; exact this), World.ownsRow_nil _ _ _ _, fun j _ hj => absurd hj (by omega), by go_grown⟩
  case round =>
    obtain ⟨k, C, c1, vs, hk, rfl, hvl, hb0, hb1, hb2, hrow, hin, hbel⟩ := hrel
    have y0 := hb0.lt
    have y1 := hb1.lt
    have y2 := hb2.lt
    by_cases hlt : k < us.length
    · obtain ⟨bb, off, B, ck, rfl, d1, hr⟩ := (HS.out.bel gr_lasts hbel).at_ hlt
      have hlk : us[k].length ≤ 100 := HLN.out _ (List.getElem_mem hlt)
      have c0 : wr.cell? ⟨w.heap.size + 1 + 1, 0, none⟩ = some (.slice C k c1) := hb2.cell 0
      have f0 := hb2.frozen 0
      have HIN := hide hin
      have HROW := hide hrow
      have HVL := hide hvl
      clear hvl
      have hbz := hbel.size
      obtain ⟨u, hu⟩ : ∃ u, us[k] = u := ⟨_, rfl⟩
      rw [hu] at d1 hr hlk
      have HUK := hide hu
      have HR := hide hr
      clear hin hr hu hrow
      go_wp2
      go_region_law
        (first
          | (go_simp; go_at_call 131; refine (channelOf_own B ck u.length u _ rfl (Sl.bel HR.out (by go_grown)) (by omega)).mono ?_; rintro e w1 ⟨B1, n1, xs, rfl, hx1, ho1, hbb⟩; have b1 : Below wr.heap.size wr w1 := Below.step (by go_grown) hbb; have HX1 := hide hx1; have HO1 := hide (ho1.weaken (base' := w.heap.size) (by simp; omega)); have HROW1 := hide (own_bel HROW.out b1); have z1 := b1.size; have c0' := b1.keeps c0; have y2' : w.heap.size + 1 + 1 < w1.heap.size := Nat.lt_of_lt_of_le y2 z1; clear hbb ho1 hx1)
          | (refine step_append_any _ (by rfl) _ _ _ (by rfl) w.heap.size 162 i0 (.slice none 0 0) 1 24 Try.underlying175 hi0 hz0 hz1 hz2 rfl (by omega) (.slice C k c1) k vs (by rfl) (HROW1.out.alloc (.cells #[.slice B1 u.length n1] 162)) (w1.heap.size + 1) (some ⟨w1.heap.size, 0, none⟩) 1 1 [.slice B1 u.length n1] (by rfl) (reads_one w1 _ _) (by simp [Value.oneCell']) (by simp only [maxLen]; omega) (by omega) (by simp; omega) ?_
             intro v' w3 hown' hgrow _
             obtain ⟨C2, k2, rfl⟩ := own_form hown'
             have hbel' := Below.app (Below.step hbel b1) HROW1.out hgrow
             have U0 := (hb0.below b1 y0).app HROW1.out hgrow (by decide)
             have U1 := (hb1.below b1 y1).app HROW1.out hgrow (by decide)
             have U2 := (hb2.below b1 y2).app HROW1.out hgrow (by decide)
             have c2 : w3.cell? ⟨w.heap.size + 1 + 1, 0, none⟩ = some (.slice C k c1) := U2.cell 0
             have f2 := U2.frozen 0))
      all_goals
        clear hb0 hb1 hb2 c0 f0 d1
        have hkeep : ∀ (v : Value) (m : Nat) (ys : List Value), w1.ownsRow w.heap.size 165 1 v m ys → (w3.setCell ⟨w.heap.size + 1 + 1, 0, none⟩ (.slice C2 (k + 1) k2)).ownsRow w.heap.size 165 1 v m ys := fun v m ys h => by
          have h3 := h.alloc (.cells #[.slice B1 u.length n1] 162)
          exact own_far (World.ownsRow.kept h3 hgrow (rows_ne h3 (HROW1.out.alloc _) (by decide))) U2 (by decide)
        have hin' : ∀ j (hj : j < us.length), j < k + 1 → ∃ B n ys, (vs ++ [Value.slice B1 u.length n1])[j]? = some (.slice B us[j].length n) ∧ (w3.setCell ⟨w.heap.size + 1 + 1, 0, none⟩ (.slice C2 (k + 1) k2)).ownsRow w.heap.size 165 1 (.slice B us[j].length n) us[j].length ys ∧ (Small 9000000000000 us[j] → ChIs ys us[j]) := fun j hj hjk => by
          by_cases q : j < k
          · obtain ⟨B2, n2, ys, h1, h2, h3⟩ := HIN.out j hj q
            exact ⟨B2, n2, ys, by rw [List.getElem?_append_left (by have := HVL.out; omega)]; exact h1, hkeep _ _ _ (own_bel h2 b1), h3⟩
          · obtain rfl : j = k := by omega
            rw [HUK.out]
            exact ⟨B1, n1, xs, by rw [List.getElem?_append_right (by have := HVL.out; omega), HVL.out, Nat.sub_self]; rfl, hkeep _ _ _ HO1.out, HX1.out⟩
        have HIN' := hide hin'
        have hrow' := own_far (u := .slice C2 (k + 1) k2) (i := 0) hown' U2 (by decide)
        have V0 := U0.far (p := ⟨w.heap.size + 1 + 1, 0, none⟩) (by simp; omega) (.slice C2 (k + 1) k2)
        have V1 := U1.far (p := ⟨w.heap.size + 1 + 1, 0, none⟩) (by simp) (.slice C2 (k + 1) k2)
        have V2 := U2.set_ 0 (.slice C2 (k + 1) k2)
        have hb4 := hbel'.setCell (p := ⟨w.heap.size + 1 + 1, 0, none⟩) (by simp; omega) (.slice C2 (k + 1) k2)
        clear hin' hkeep U0 U1 U2 c2 f2 hgrow hown'
        revert HIN' hrow' V0 V1 V2 hb4
        generalize World.setCell _ _ _ = W
        intro HIN' hrow' V0 V1 V2 hb4
        go_wp2
        go_roundw
        case rel => exact ⟨k + 1, C2, k2, _, by omega, by go_num, by simp [HVL.out], V0, V1, V2, hrow', HIN'.out, hb4⟩
        case measure => simp [intOf]; omega
    · obtain rfl : k = us.length := by omega
      have c0 : wr.cell? ⟨w.heap.size, 0, none⟩ = some (.int .i64 a) := hb0.cell 0
      have c3 : wr.cell? ⟨w.heap.size, 1, none⟩ = some (.int .i64 b) := hb0.cell 1
      have c4 : wr.cell? ⟨w.heap.size + 1 + 1, 0, none⟩ = some (.slice C us.length c1) := hb2.cell 0
      have c5 : wr.cell? ⟨w.heap.size + 1 + 1, 1, none⟩ = some (.int .i64 a) := hb2.cell 1
      have c6 : wr.cell? ⟨w.heap.size + 1 + 1, 2, none⟩ = some (.int .i64 b) := hb2.cell 2
      have d0 : wr.cell? ⟨w.heap.size + 1, 0, none⟩ = some (.slice none 0 0) := hb1.cell 0
      have d1 : wr.cell? ⟨w.heap.size + 1, 1, none⟩ = some (.int .i64 0) := hb1.cell 1
      have d2 : wr.cell? ⟨w.heap.size + 1, 2, none⟩ = some (.int .i64 0) := hb1.cell 2
      have HIN := hide hin
      have HROW := hide hrow
      have HB1 := hide hb1
      clear hin hrow hb0 hb1 hb2
      go_wp2
      go_region_held3 (fun w' => w'.cell? ⟨w.heap.size, 0, none⟩ = some (.int .i64 a) ∧ w'.cell? ⟨w.heap.size, 1, none⟩ = some (.int .i64 b) ∧ w'.cell? ⟨w.heap.size + 1 + 1, 0, none⟩ = some (.slice C us.length c1) ∧ w'.cell? ⟨w.heap.size + 1 + 1, 1, none⟩ = some (.int .i64 a) ∧ w'.cell? ⟨w.heap.size + 1 + 1, 2, none⟩ = some (.int .i64 b)) (first | (simp [go_sem]; done) | (simp [go_sem, *]; done) | exact ⟨q1, q2, q3, q4, q5⟩ | go_keep)
        (first
          | (go_at_call 163; go_must (refine (HU.out _ (HS.out.bel gr_lasts (below_drew hbel))).mono ?_; rintro e w4 ⟨rfl, hb⟩; have b4 : Below wr.heap.size wr w4 := Below.step (by go_grown) hb; clear hb; have q1 := b4.keeps c0; have q2 := b4.keeps c3; have q3 := b4.keeps c4; have q4 := b4.keeps c5; have q5 := b4.keeps c6; have z4 := b4.size))
          | (go_at_call 140; go_must (refine (HM.out _).mono ?_; rintro e w5 ⟨rfl, hb⟩; have b5 : Below wr.heap.size wr w5 := Below.step b4 hb; clear hb; have q1 := b5.keeps c0; have q2 := b5.keeps c3; have q3 := b5.keeps c4; have q4 := b5.keeps c5; have q5 := b5.keeps c6; have e0 := b5.keeps d0; have e1 := b5.keeps d1; have e2 := b5.keeps d2; have BB := HB1.out.below b5 y1; have f0 := BB.frozen 0; have f1 := BB.frozen 1; have f2 := BB.frozen 2; have z5 := b5.size; have y05 : w.heap.size < w5.heap.size := Nat.lt_of_lt_of_le y0 z5; have y15 : w.heap.size + 1 < w5.heap.size := Nat.lt_of_lt_of_le y1 z5; have y25 : w.heap.size + 1 + 1 < w5.heap.size := Nat.lt_of_lt_of_le y2 z5))
          | (go_at_call 93; go_must (refine (first2 _ _ _ _ (by simp)).mono ?_; rintro e w' ⟨rfl, rfl⟩)))
      have B1 := BB.set_ 0 (.slice C us.length c1)
      have B2 := B1.set_ 1 (.int .i64 a)
      have B3 := (B2.set_ 2 (.int .i64 b)).alloc (.cells #[.int .i64 U, .int .i64 M] 27)
      have hfar : ∀ (e size : Nat) (v : Value) (m : Nat) (ys : List Value), e ≠ 177 → wr.ownsRow w.heap.size e size v m ys → ((((w5.setCell ⟨w.heap.size + 1, 0, none⟩ (.slice C us.length c1)).setCell ⟨w.heap.size + 1, 1, none⟩ (.int .i64 a)).setCell ⟨w.heap.size + 1, 2, none⟩ (.int .i64 b)).alloc (.cells #[.int .i64 U, .int .i64 M] 27)).ownsRow w.heap.size e size v m ys := fun e size v m ys hne h =>
        (own_far (own_far (own_far (own_bel h b5) BB hne) B1 hne) B2 hne).alloc _
      have hrows : RowsAt CR ((((w5.setCell ⟨w.heap.size + 1, 0, none⟩ (.slice C us.length c1)).setCell ⟨w.heap.size + 1, 1, none⟩ (.int .i64 a)).setCell ⟨w.heap.size + 1, 2, none⟩ (.int .i64 b)).alloc (.cells #[.int .i64 U, .int .i64 M] 27)) C us :=
        ⟨vs, Sl.of_own (hfar _ _ _ _ _ (by decide) HROW.out), hvl, fun j hj => by
          obtain ⟨B, n, xs, h1, h2, h3⟩ := HIN.out j hj hj
          exact ⟨B, n, h1, xs, Sl.of_own (hfar _ _ _ _ _ (by decide) h2), h3⟩⟩
      have b5w := Below.step hbel b5
      have hb6 := (((b5w.setCell (p := ⟨w.heap.size + 1, 0, none⟩) (by simp) (.slice C us.length c1)).setCell (p := ⟨w.heap.size + 1, 1, none⟩) (by simp) (.int .i64 a)).setCell (p := ⟨w.heap.size + 1, 2, none⟩) (by simp) (.int .i64 b)).alloc (by have := b5w.size; simpa using this) (.cells #[.int .i64 U, .int .i64 M] 27)
      clear hfar B1 B2 BB b5w q1 q2 q3 q4 q5 e0 e1 e2 f0 f1 f2 c0 c3 c4 c5 c6 d0 d1 d2
      revert B3 hrows hb6
      generalize World.alloc _ _ = W
      intro B3 hrows hb6
      have e0 : W.cell? ⟨w.heap.size + 1, 0, none⟩ = some (.slice C us.length c1) := B3.cell 0
      have e1 : W.cell? ⟨w.heap.size + 1, 1, none⟩ = some (.int .i64 a) := B3.cell 1
      have e2 : W.cell? ⟨w.heap.size + 1, 2, none⟩ = some (.int .i64 b) := B3.cell 2
      go_wp2
      refine bodyPost_ret (v := .tuple #[.agg #[.slice C us.length c1, .int .i64 a, .int .i64 b], .int .i64 (firstOf [U, M])]) (by simp [results, Try.results136, go_sem, e0, e1, e2]) rfl ⟨C, c1, rfl, hrows, hb6⟩

set_option maxRecDepth 100000 in
set_option maxHeartbeats 4000000 in
theorem usMay_beam (C : Option Addr) (c n : Nat) (us : List (List (Int × Int))) (a b : Int) (i j : Nat) (w : World) (hs : RowsAt CR w C us) (hn : us.length = n) (_ : n ≤ 100) (hi : i < us.length) (hj : j < us.length) (h0 : twoE us[i] us[j] = 0) (hm : mostE a b = 0) :
    Calls Try.prog 139 #[.agg #[.slice C n c, .int .i64 a, .int .i64 b], .int .i64 i, .int .i64 j] w fun e w' => e = .returned (.bool (shB us[i] us[j] a b)) ∧ Below w.heap.size w w' := by
  obtain ⟨bb, off, X, cx, rfl, d1, xs, hx1, hx2⟩ := hs.at_ hi
  obtain ⟨bb', off', Y, cy, hA, d2, ys, hy1, hy2⟩ := hs.at_ hj
  injection hA with hA
  injection hA with hA1 hA2
  subst hA1 hA2
  obtain ⟨-, sg, sh, hlen, -, -⟩ := twoE_ok h0
  have hX := hx2 (sg.2.mono (by decide))
  have hY := hy2 (sh.2.mono (by decide))
  obtain ⟨m, hm1⟩ : ∃ m, us[i].length = m := ⟨_, rfl⟩
  have hm2 : us[j].length = m := by omega
  have HC := hide (fun W k1 k2 => chMay_beam X Y cx cy m us[i] us[j] xs ys a b W k1 k2 hX hY h0 hm1 hm2 hm)
  have HXS := hide hx1
  have HYS := hide hy1
  rw [hm1] at d1
  rw [hm2] at d2
  obtain ⟨V, hV⟩ : ∃ V, shB us[i] us[j] a b = V := ⟨_, rfl⟩
  rw [hV] at HC
  rw [hV]
  have hi' : (i : Int) < (n : Int) := by omega
  have hj' : (j : Int) < (n : Int) := by omega
  have hbw := lt_of_cell d1
  clear hs hx1 hx2 hy1 hy2 sg sh hlen hX hY hm1 hm2 hV h0 hm
  go_enter Try.func139, Try.ntmps139
  go_wp2
  go_region_held3 (fun w' => w'.cell? ⟨w.heap.size, 0, none⟩ = some (.slice (some ⟨bb, off, none⟩) n c) ∧ w'.cell? ⟨w.heap.size, 1, none⟩ = some (.int .i64 a) ∧ w'.cell? ⟨w.heap.size, 2, none⟩ = some (.int .i64 b) ∧ w'.cell? ⟨bb, off + i, none⟩ = some (.slice X m cx) ∧ w'.cell? ⟨bb, off + j, none⟩ = some (.slice Y m cy)) (first | (simp [go_sem]; done) | (simp [go_sem, *]; done) | exact ⟨q1, q2, q3, q4, q5⟩ | go_keep)
    (first
      | (go_at_call 141; go_must (refine (HC.out _ (HXS.out.bel (by go_grown)) (HYS.out.bel (by go_grown))).mono ?_; rintro e w1 ⟨rfl, hb1⟩; have b1 : Below w.heap.size w w1 := Below.step (by go_grown) hb1; obtain ⟨hc1, hf1, y10⟩ := bloc1 w hb1 (by first | omega | (simp; done) | (simp; omega)); have q4 := b1.keeps d1; have q5 := b1.keeps d2; have q1 : w1.cell? ⟨w.heap.size, 0, none⟩ = some (.slice (some ⟨bb, off, none⟩) n c) := (hc1 _ _ (by omega)).trans (by first | rfl | simp); have q2 : w1.cell? ⟨w.heap.size, 1, none⟩ = some (.int .i64 a) := (hc1 _ _ (by omega)).trans (by first | rfl | simp); have q3 : w1.cell? ⟨w.heap.size, 2, none⟩ = some (.int .i64 b) := (hc1 _ _ (by omega)).trans (by first | rfl | simp); clear hb1)))
  go_wp2
  go_ret
  exact ⟨rfl, b1⟩
end Go.Proofs.Ytamkannjdbodpaa
