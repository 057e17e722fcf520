import Derived.Test.YtamkannjdbodpaaShrR
namespace Go.Proofs.Ytamkannjdbodpaa
open Go.RowKit Go.WideShapes Go.ChangeShapes

/-! users: a slice of channels -/
def RowsAt (R : World → Option Addr → List (Int × Int) → Prop) (w : World) (A : Option Addr) (us : List (List (Int × Int))) : Prop :=
  ∃ vs : List Value, Sl w A vs ∧ vs.length = us.length ∧ ∀ k (hk : k < us.length), ∃ B c, vs[k]? = some (.slice B us[k].length c) ∧ R w B us[k]
def GR (w : World) (B : Option Addr) (l : List (Int × Int)) : Prop := Sl w B (gv l)
def CR (w : World) (B : Option Addr) (l : List (Int × Int)) : Prop := ∃ xs, Sl w B xs ∧ (Small 9000000000000 l → ChIs xs l)
def Lasts (R : World → Option Addr → List (Int × Int) → Prop) : Prop := ∀ w w' B l, R w B l → Below w.heap.size w w' → R w' B l
theorem gr_lasts : Lasts GR := fun _ _ _ _ h hb => Sl.bel h hb
theorem cr_lasts : Lasts CR := fun _ _ _ _ ⟨xs, h, hx⟩ hb => ⟨xs, h.bel hb, hx⟩
theorem RowsAt.bel {R : World → Option Addr → List (Int × Int) → Prop} {w w' : World} {A : Option Addr} {us : List (List (Int × Int))} (hR : Lasts R) (h : RowsAt R w A us) (hb : Below w.heap.size w w') : RowsAt R w' A us := by
  obtain ⟨vs, h1, h2, h3⟩ := h
  refine ⟨vs, h1.bel hb, h2, fun k hk => ?_⟩
  obtain ⟨B, c, h4, h5⟩ := h3 k hk
  exact ⟨B, c, h4, hR _ _ _ _ h5 hb⟩
theorem RowsAt.at_ {R : World → Option Addr → List (Int × Int) → Prop} {w : World} {A : Option Addr} {us : List (List (Int × Int))} (h : RowsAt R w A us) {k : Nat} (hk : k < us.length) :
    ∃ b off B c, A = some ⟨b, off, none⟩ ∧ w.cell? ⟨b, off + k, none⟩ = some (.slice B us[k].length c) ∧ R w B us[k] := by
  obtain ⟨vs, h1, h2, h3⟩ := h
  obtain ⟨B, c, h4, h5⟩ := h3 k hk
  obtain ⟨j, e⟩ := List.getElem?_eq_some_iff.1 h4
  obtain ⟨b, off, e1, e2⟩ := h1 k j
  exact ⟨b, off, B, c, e1, by rw [e2, e], h5⟩

def userE (n0 : Nat) (h : List (Int × Int)) : Int := firstOf [chE h, unlessE (decide (h.length = n0)) 13, unlessE (h.any someG) 11]
def usE (n0 : Nat) : List (List (Int × Int)) → Int
  | [] => 0
  | h :: r => if userE n0 h = 0 then usE n0 r else userE n0 h
def usersE (us : List (List (Int × Int))) : Int := if 6 < us.length then 8 else usE ((us[0]?.getD []).length) us
theorem usE_skip (n0 : Nat) (us : List (List (Int × Int))) (k : Nat) (hk : k < us.length) (h0 : userE n0 us[k] = 0) : usE n0 (us.drop k) = usE n0 (us.drop (k + 1)) := by
  rw [List.drop_eq_getElem_cons hk]; exact if_pos h0
theorem usE_hit (n0 : Nat) (us : List (List (Int × Int))) (k : Nat) (hk : k < us.length) (h0 : userE n0 us[k] ≠ 0) : usE n0 (us.drop k) = userE n0 us[k] := by
  rw [List.drop_eq_getElem_cons hk]; exact if_neg h0

set_option maxRecDepth 100000 in
set_option maxHeartbeats 4000000 in
theorem usersErr_beam (A : Option Addr) (c : Nat) (us : List (List (Int × Int))) (w : World) (hs : RowsAt GR w A us) (hl : ∀ u ∈ us, u.length ≤ 100) (hn : us.length ≤ 100) :
    Calls Try.prog 163 #[.slice A us.length c] w fun e w' => e = .returned (.int .i64 (usersE us)) ∧ Below w.heap.size w w' := by
  have HS := hide hs; clear hs
  have HLN := hide hl; clear hl
  by_cases h6 : 6 < us.length
  · have HV := hide (show usersE us = 8 from if_pos h6)
    go_enter Try.func163, Try.ntmps163
    go_wp2
    go_ret
    exact ⟨by rw [HV.out]; rfl, by go_grown⟩
  · have HV := hide (show usersE us = usE ((us[0]?.getD []).length) us from if_neg h6)
    obtain ⟨n0, hn0⟩ : ∃ n0, (us[0]?.getD []).length = n0 := ⟨_, rfl⟩
    rw [hn0] at HV
    have HN0 := hide hn0; clear hn0
    go_enter Try.func163, Try.ntmps163
    go_wp2
    go_loopw [11] (fun i wr => ∃ k : Nat, k ≤ us.length ∧ i = .int .i64 k ∧ usE n0 us = usE n0 (us.drop k) ∧ Below w.heap.size w wr) (fun i _ => us.length - (intOf i).toNat)
    case atStart => exact ⟨0, Nat.zero_le _, rfl, by simp, Below.refl _ _⟩
    case round =>
      obtain ⟨k, hk, rfl, he, hbel⟩ := hrel
      have HE := hide he; clear he
      by_cases hlt : k < us.length
      · have hs' := HS.out.bel gr_lasts hbel
        obtain ⟨b, off, B, ck, rfl, d1, hr⟩ := hs'.at_ hlt
        obtain ⟨b', off', B0, c0, hA, d0, hr0⟩ := hs'.at_ (by omega : 0 < us.length)
        injection hA with hA
        injection hA with hA1 hA2
        subst hA1 hA2
        have hu0 : (us[0]'(by omega)).length = n0 := by rw [← HN0.out, List.getElem?_eq_getElem (by omega : 0 < us.length)]; rfl
        rw [hu0, Nat.add_zero] at d0
        have hlk : us[k].length ≤ 100 := HLN.out _ (List.getElem_mem hlt)
        have hdef := hide (show userE n0 us[k] = firstOf [chE us[k], unlessE (decide (us[k].length = n0)) 13, unlessE (us[k].any someG) 11] from rfl)
        have hskip := hide (usE_skip n0 us k hlt)
        have hhit := hide (usE_hit n0 us k hlt)
        obtain ⟨u, hu⟩ : ∃ u, us[k] = u := ⟨_, rfl⟩
        rw [hu] at d1 hr hlk hdef hskip hhit
        have HR := hide hr
        have hlq := lenEq u.length n0
        have hb1w := lt_of_cell d1
        clear hr hr0 hs' hu0 hu
        obtain ⟨E, hE⟩ : ∃ E, userE n0 u = E := ⟨_, rfl⟩
        rw [hE] at hdef hskip hhit
        clear hE
        have h0i : (0 : Int) < (us.length : Int) := by omega
        have h0n : 0 < us.length := by omega
        go_wp2
        go_region_held3 (fun w' => w'.cell? ⟨b, off, none⟩ = some (.slice B0 n0 c0)) (first | (simp [go_sem]; done) | (simp [go_sem, *]; done) | go_keep)
          (first
            | (go_at_call 130; go_must (refine (channelErr_beam B ck u _ (Sl.bel HR.out (by go_grown)) (by omega)).mono ?_; rintro e w1 ⟨rfl, hb1⟩; have b1 : Below wr.heap.size wr w1 := Below.step (by go_grown) hb1; clear hb1; have q1 := b1.keeps d0; have z1 := b1.size))
            | (go_at_call 158; go_must (refine (isZero_beam B ck u _ (Sl.bel HR.out b1) (by omega)).mono ?_; rintro e w2 ⟨rfl, hb2⟩; have b2 : Below wr.heap.size wr w2 := Below.step b1 hb2; clear hb2; have q2 := b2.keeps d0; have z2 := b2.size))
            | (go_at_call 94; go_must (refine (unless_any _ _ _).mono ?_; rintro e w' ⟨rfl, rfl⟩))
            | (go_at_call 93; go_must (refine (first3 _ _ _ _ _ (by simp)).mono ?_; rintro e w' ⟨rfl, rfl⟩)))
        clear h0i h0n
        rw [← hdef.out]
        by_cases h0 : E = 0
        · have hne : (E != 0) = false := by rw [bne_eq_false_iff_eq]; exact h0
          have hsk := hide (hskip.out h0)
          go_wp2
          go_roundw
          case rel => exact ⟨k + 1, by omega, by go_num, by rw [HE.out, hsk.out], by first | exact (Below.step hbel b2).alloc (Below.step hbel b2).size _ | go_grown⟩
          case measure => simp [intOf]; omega
        · have hne : (E != 0) = true := by rw [bne_iff_ne]; exact h0
          have hht := hide (hhit.out h0)
          go_wp2
          go_ret
          exact ⟨by rw [HV.out, HE.out, hht.out]; rfl, by first | exact (Below.step hbel b2).alloc (Below.step hbel b2).size _ | go_grown⟩
      · go_wp2
        go_ret
        exact ⟨by rw [HV.out, HE.out, List.drop_eq_nil_of_le (by omega)]; rfl, hbel⟩
end Go.Proofs.Ytamkannjdbodpaa
