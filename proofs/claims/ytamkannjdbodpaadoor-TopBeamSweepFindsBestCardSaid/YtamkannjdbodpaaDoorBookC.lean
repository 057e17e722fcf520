import Derived.Test.YtamkannjdbodpaaDoorTxS
import Derived.Test.YtamkannjdbodpaaDoorPowD
import Derived.Test.YtamkannjdbodpaaDoorLawA
namespace Go.Proofs.YtamkannjdbodpaaDoor
open Go.RowKit Go.WideShapes Go.ChangeShapes

/-! books: slices of beams -/
def BookAt (w : World) (A : Option Addr) (bs : List (List Int)) : Prop :=
  ∃ vs : List Value, Sl w A vs ∧ vs.length = bs.length ∧ ∀ k (hk : k < bs.length), ∃ B c, vs[k]? = some (.slice B bs[k].length c) ∧ Sl w B (iv bs[k])
theorem BookAt.bel {w w' : World} {A : Option Addr} {bs : List (List Int)} (h : BookAt w A bs) (hb : Below w.heap.size w w') : BookAt w' A bs := by
  obtain ⟨vs, h1, h2, h3⟩ := h
  refine ⟨vs, h1.bel hb, h2, fun k hk => ?_⟩
  obtain ⟨B, c, h4, h5⟩ := h3 k hk
  exact ⟨B, c, h4, h5.bel hb⟩
theorem BookAt.at_ {w : World} {A : Option Addr} {bs : List (List Int)} (h : BookAt w A bs) {k : Nat} (hk : k < bs.length) :
    ∃ b off B c, A = some ⟨b, off, none⟩ ∧ w.cell? ⟨b, off + k, none⟩ = some (.slice B bs[k].length c) ∧ Sl w B (iv bs[k]) := by
  obtain ⟨vs, h1, h2, h3⟩ := h
  obtain ⟨B, c, h4, h5⟩ := h3 k hk
  obtain ⟨j, e⟩ := List.getElem?_eq_some_iff.1 h4
  obtain ⟨b, off, e1, e2⟩ := h1 k j
  exact ⟨b, off, B, c, e1, by rw [e2, e], h5⟩

/-! the errors of a book -/
def bkE : List (List Int) → Int
  | [] => 0
  | b :: r => if (chk b).2 = 0 then bkE r else (chk b).2
def bookE (bs : List (List Int)) : Int := if bs.length = 0 then 10 else if 16 < bs.length then 8 else bkE bs
theorem bkE_skip (bs : List (List Int)) (k : Nat) (hk : k < bs.length) (h0 : (chk bs[k]).2 = 0) : bkE (bs.drop k) = bkE (bs.drop (k + 1)) := by
  rw [List.drop_eq_getElem_cons hk]; exact if_pos h0
theorem bkE_hit (bs : List (List Int)) (k : Nat) (hk : k < bs.length) (h0 : (chk bs[k]).2 ≠ 0) : bkE (bs.drop k) = (chk bs[k]).2 := by
  rw [List.drop_eq_getElem_cons hk]; exact if_neg h0
theorem bkE_ok : ∀ {bs : List (List Int)}, bkE bs = 0 → ∀ b ∈ bs, (chk b).2 = 0
  | [], _, b, hb => absurd hb (by simp)
  | x :: r, e, b, hb => by
    rw [bkE] at e
    split at e
    · rename_i h0
      rcases List.mem_cons.1 hb with rfl | hb
      · exact h0
      · exact bkE_ok e b hb
    · rename_i h0; exact absurd e h0
theorem bookE_ok {bs : List (List Int)} (e : bookE bs = 0) : 0 < bs.length ∧ bs.length ≤ 16 ∧ ∀ b ∈ bs, (chk b).2 = 0 := by
  unfold bookE at e
  split at e
  · simp at e
  · split at e
    · simp at e
    · exact ⟨by omega, by omega, bkE_ok e⟩
def stepE (e x : Int) : Int := if e = 0 then x else e
theorem stepE_first (e x : Int) : firstOf [e, x] = stepE e x := by
  unfold firstOf stepE firstOf firstOf
  by_cases h : e = 0
  · rw [if_pos h, if_pos h]
    by_cases hx : x = 0
    · rw [if_pos hx, hx]
    · rw [if_neg hx]
  · rw [if_neg h, if_neg h]
def foldE (e : Int) (bs : List (List Int)) : Int := bs.foldl (fun e b => stepE e (chk b).2) e
theorem foldE_eq : ∀ (bs : List (List Int)) (e : Int), foldE e bs = stepE e (bkE bs)
  | [], e => by
    unfold foldE stepE bkE
    by_cases h : e = 0
    · rw [if_pos h, h]; rfl
    · rw [if_neg h]; rfl
  | b :: r, e => by
    have ih := foldE_eq r (stepE e (chk b).2)
    unfold foldE at ih ⊢
    rw [List.foldl_cons, ih, bkE]
    unfold stepE
    by_cases h : e = 0
    · rw [if_pos h, if_pos h]
    · rw [if_neg h, if_neg h, if_neg h]
theorem foldE_step (bs : List (List Int)) (e : Int) (k : Nat) (hk : k < bs.length) : foldE e (bs.take (k + 1)) = stepE (foldE e (bs.take k)) (chk bs[k]).2 := by
  unfold foldE
  rw [List.take_succ_eq_append_getElem hk, List.foldl_append]; rfl
theorem bookE_prog (bs : List (List Int)) : foldE (firstOf [unlessE (decide (0 < bs.length)) 10, unlessE (decide ((bs.length : Int) ≤ 16)) 8]) bs = bookE bs := by
  rw [foldE_eq, stepE_first]
  unfold bookE stepE unlessE
  by_cases h0 : bs.length = 0
  · rw [if_pos h0, decide_eq_false (by omega : ¬ 0 < bs.length)]; rfl
  · rw [if_neg h0, decide_eq_true (by omega : 0 < bs.length)]
    by_cases h1 : 16 < bs.length
    · rw [if_pos h1, decide_eq_false (by omega : ¬ (bs.length : Int) ≤ 16)]; rfl
    · rw [if_neg h1, decide_eq_true (by omega : (bs.length : Int) ≤ 16)]; rfl

set_option maxRecDepth 100000 in
set_option maxHeartbeats 4000000 in
theorem bookErr_beam (A : Option Addr) (c : Nat) (bs : List (List Int)) (w : World) (hs : BookAt w A bs) (hl : ∀ b ∈ bs, b.length ≤ 100) (hn : bs.length ≤ 100) :
    Calls Tryd.prog 61 #[.slice A bs.length c] w fun e w' => e = .returned (.int .i64 (bookE bs)) ∧ Below w.heap.size w w' := by
  have HS := hide hs; clear hs
  have HLN := hide hl; clear hl
  obtain ⟨E0, hE0⟩ : ∃ E0, firstOf [unlessE (decide (0 < bs.length)) 10, unlessE (decide ((bs.length : Int) ≤ 16)) 8] = E0 := ⟨_, rfl⟩
  have hV := bookE_prog bs
  rw [hE0] at hV
  have HE0 := hide hE0
  have HV := hide hV
  clear hE0 hV
  go_enter Tryd.func61, Tryd.ntmps61
  go_wp2_with (first
    | (go_at_call 36; refine (unless_any _ _ _).mono ?_; rintro e w' ⟨rfl, rfl⟩; simp only [])
    | (go_at_call 35; go_must (refine (first2 _ _ _ _ (by simp)).mono ?_; rintro e w' ⟨rfl, rfl⟩; rw [HE0.out]; simp only [])))
  go_loopw [3, 18] (fun o i wr => ∃ k : Nat, k ≤ bs.length ∧ i = .int .i64 k ∧ o = .int .i64 (foldE E0 (bs.take k)) ∧ Below w.heap.size w wr) (fun _ i _ => bs.length - (intOf i).toNat)
  case atStart => exact ⟨0, Nat.zero_le _, rfl, rfl, by go_grown⟩
  case round =>
    obtain ⟨k, hk, rfl, rfl, hbel⟩ := hrel
    by_cases hlt : k < bs.length
    · obtain ⟨b, off, B, ck, rfl, d1, hr⟩ := (HS.out.bel hbel).at_ hlt
      have hlk : bs[k].length ≤ 100 := HLN.out _ (List.getElem_mem hlt)
      have HST := hide (foldE_step bs E0 k hlt)
      obtain ⟨u, hu⟩ : ∃ u, bs[k] = u := ⟨_, rfl⟩
      rw [hu] at d1 hr hlk HST
      obtain ⟨O, hO⟩ : ∃ O, foldE E0 (bs.take k) = O := ⟨_, rfl⟩
      rw [hO] at HST
      rw [hO]
      have HR := hide hr
      have y1 := lt_of_cell d1
      have HB := hide ((Below.refl wr.heap.size wr).alloc (Nat.le_refl _) (.cells #[.slice B u.length ck] 24))
      clear hr hu hO
      go_wp2_with (first
        | (go_at_call 31; go_must (refine (beamErr_beam B ck u _ (HR.out.bel HB.out) (by omega)).mono ?_; rintro e w1 ⟨rfl, hb1⟩; replace HB := hide (Below.step HB.out hb1); clear hb1; simp only []))
        | (go_at_call 35; go_must (refine (first2 _ _ _ _ (by simp)).mono ?_; rintro e w' ⟨rfl, rfl⟩; rw [stepE_first, ← HST.out]; simp only [])))
      go_roundw
      case rel => exact ⟨k + 1, by omega, by go_num, rfl, Below.step hbel (HB.out.alloc HB.out.size _)⟩
      case measure => simp [intOf]; omega
    · go_wp2
      go_ret
      exact ⟨by rw [List.take_of_length_le (by omega), HV.out]; rfl, hbel⟩

end Go.Proofs.YtamkannjdbodpaaDoor

namespace Go.Proofs.YtamkannjdbodpaaDoor
open Go.RowKit Go.WideShapes Go.ChangeShapes

theorem bb_info : (Tryd.prog.info? 24).map (fun i => (i.zero, i.size, i.bytes)) = some (some (.agg #[.slice none 0 0]), 1, 24) := by kernel_rfl
set_option maxRecDepth 100000 in
set_option maxHeartbeats 4000000 in
theorem copyBook_ref (A : Option Addr) (c : Nat) (us : List (List Int)) (w : World) (hs : BookAt w A us) (hl : ∀ u ∈ us, u.length ≤ 100) (hn : us.length ≤ 100) :
    Calls Tryd.prog 19 #[.slice A us.length c] w fun e w' => ∃ C k, e = .returned (.slice C us.length k) ∧ BookAt w' C us ∧ Below w.heap.size w w' := by
  obtain ⟨i0, hi0, hz0, hz1, hz2⟩ := info_parts bb_info
  have HS := hide hs; clear hs
  have HLN := hide hl; clear hl
  go_enter Tryd.func19, Tryd.ntmps19
  go_wp2
  go_loopw [3, 4] (fun o i wr => ∃ (k : Nat) (C : Option Addr) (c1 : Nat) (vs : List Value), k ≤ us.length ∧ i = .int .i64 k ∧ o = .slice C k c1 ∧ vs.length = k ∧ wr.ownsRow w.heap.size 24 1 (.slice C k c1) k vs ∧ (∀ j (hj : j < us.length), j < k → ∃ B n, vs[j]? = some (.slice B us[j].length n) ∧ wr.ownsRow w.heap.size 3 1 (.slice B us[j].length n) us[j].length (iv us[j])) ∧ Below w.heap.size w wr) (fun _ i _ => us.length - (intOf i).toNat)
  case atStart => exact ⟨0, none, 0, [], Nat.zero_le _, rfl, rfl, rfl, World.ownsRow_nil _ _ _ _, fun j _ hj => absurd hj (by omega), Below.refl _ _⟩
  case round =>
    obtain ⟨k, C, c1, vs, hk, rfl, rfl, hvl, hrow, hin, hbel⟩ := hrel
    by_cases hlt : k < us.length
    · obtain ⟨b, off, B, ck, rfl, d1, hr⟩ := (HS.out.bel hbel).at_ hlt
      have hlk : us[k].length ≤ 100 := HLN.out _ (List.getElem_mem hlt)
      have HIN := hide hin
      have HROW := hide hrow
      have hbz := hbel.size
      obtain ⟨u, hu⟩ : ∃ u, us[k] = u := ⟨_, rfl⟩
      rw [hu] at d1 hr hlk
      have HU := hide hu
      have HR := hide hr
      clear hin hr hu hrow
      go_wp2_with (first
        | (go_at_call 8; go_must (refine (copy_own B ck u _ HR.out (by omega)).mono ?_; rintro e w1 ⟨B1, n1, rfl, ho1, hb1⟩; have b1 : Below wr.heap.size wr w1 := hb1; have HO1 := hide (ho1.weaken (base' := w.heap.size) hbz); have HROW1 := hide (own_bel HROW.out b1); have z1 := b1.size; clear hb1 ho1; simp only []))
        | (at_builtin; go_must (
             refine wpList_append_own _ rfl _ _ 42 rfl w.heap.size 24 i0 (.agg #[.slice none 0 0]) 1 24 Tryd.underlying42 hi0 hz0 hz1 hz2 rfl (by decide) _ _ _ rfl (HROW1.out.alloc _) ⟨w1.heap.size, 0, none⟩ 1 1 [.slice B1 u.length n1] rfl rfl (cell_one_new _ _ _) (by simp [Value.oneCell']) (by simp only [maxLen]; omega) (by omega) (by simp; omega) ?_
             intro v' w3 hown' hgrow _
             obtain ⟨C2, k2, rfl⟩ := own_form hown'
             have hbel' := Below.app (Below.step hbel b1) HROW1.out hgrow)))
      have hkeep : ∀ (v : Value) (m : Nat) (xs : List Value), w1.ownsRow w.heap.size 3 1 v m xs → w3.ownsRow w.heap.size 3 1 v m xs := fun v m xs h => by
        have h3 := h.alloc (.cells #[.slice B1 u.length n1] 24)
        exact World.ownsRow.kept h3 hgrow (rows_ne h3 (HROW1.out.alloc _) (by decide))
      have hin' : ∀ j (hj : j < us.length), j < k + 1 → ∃ B n, (vs ++ [.slice B1 u.length n1])[j]? = some (.slice B us[j].length n) ∧ w3.ownsRow w.heap.size 3 1 (.slice B us[j].length n) us[j].length (iv us[j]) := fun j hj hjk => by
        by_cases q : j < k
        · obtain ⟨B2, n2, h1, h2⟩ := HIN.out j hj q
          exact ⟨B2, n2, by rw [List.getElem?_append_left (by omega)]; exact h1, hkeep _ _ _ (own_bel h2 b1)⟩
        · obtain rfl : j = k := by omega
          rw [HU.out]
          exact ⟨B1, n1, by rw [List.getElem?_append_right (by omega), hvl, Nat.sub_self]; rfl, hkeep _ _ _ HO1.out⟩
      have HIN' := hide hin'
      have HVL := hide (show (vs ++ [Value.slice B1 u.length n1]).length = k + 1 by simp [hvl])
      clear hin' hkeep
      go_wp2
      go_roundw
      case rel => exact ⟨k + 1, C2, k2, _, by omega, by go_num, rfl, HVL.out, hown', HIN'.out, hbel'⟩
      case measure => simp [intOf]; omega
    · obtain rfl : k = us.length := by omega
      go_wp2
      go_ret
      exact ⟨C, c1, rfl, ⟨vs, Sl.of_own hrow, hvl, fun j hj => by
        obtain ⟨B, n, h1, h2⟩ := hin j hj hj
        exact ⟨B, n, h1, Sl.of_own h2⟩⟩, hbel⟩

/-- few beams or too many, of few antennas -/
def bookB (bs : List (List Int)) : Bool := !((decide (6 < bs.length) && decide (bs.length ≤ 16)) || decide (18 < bs.length)) && bs.all (fun u => decide ((u.length : Int) ≤ 10))
end Go.Proofs.YtamkannjdbodpaaDoor

namespace Go.Proofs.YtamkannjdbodpaaDoor
open Go.RowKit Go.WideShapes Go.ChangeShapes

def neqB (n m : Nat) : Bool := !(decide (n = m))
theorem sweep1_beam (A : Option Addr) (n c g : Nat) (B : Option Addr) (m k : Nat) (w : World) (h : w.cell? ⟨g, 0, none⟩ = some (.slice B m k)) :
    Calls Tryd.prog 60 #[.agg #[.slice A n c], .pointer (some ⟨g, 0, none⟩)] w fun e w' => e = .returned (.bool (neqB n m)) ∧ Below w.heap.size w w' := by
  have y := lt_of_cell h
  by_cases q : n = m
  · subst q
    have e1 : ((n : Int) != (n : Int)) = false := by simp
    go_enter Tryd.func60, Tryd.ntmps60
    go_wp2
    go_ret
    exact ⟨by unfold neqB; rw [decide_eq_true rfl]; first | rfl | simp, by go_grown⟩
  · have e1 : ((n : Int) != (m : Int)) = true := by rw [bne_iff_ne]; omega
    go_enter Tryd.func60, Tryd.ntmps60
    go_wp2
    go_ret
    exact ⟨by unfold neqB; rw [decide_eq_false q]; first | rfl | simp, by go_grown⟩

def idxL (m : Nat) : List (List Int) → Int → Int
  | [], _ => -1
  | x :: r, k => if neqB x.length m then k else idxL m r (k + 1)
theorem idxL_hit (m : Nat) (l : List (List Int)) (k : Nat) (hk : k < l.length) (h0 : neqB l[k].length m = true) (i : Int) : idxL m (l.drop k) i = i := by
  rw [List.drop_eq_getElem_cons hk]; exact if_pos h0
theorem idxL_skip (m : Nat) (l : List (List Int)) (k : Nat) (hk : k < l.length) (h0 : neqB l[k].length m = false) (i : Int) : idxL m (l.drop k) i = idxL m (l.drop (k+1)) (i+1) := by
  rw [List.drop_eq_getElem_cons hk]; exact if_neg (by simp [h0])
def otherB (m : Nat) (l : List (List Int)) : Bool := l.any (fun b => neqB b.length m)
theorem idxL_any (m : Nat) : ∀ (l : List (List Int)) (k : Int), 0 ≤ k → decide (0 ≤ idxL m l k) = otherB m l
  | [], k, _ => by simp [idxL, otherB]
  | x :: r, k, hk => by
    have ih := idxL_any m r (k + 1) (by omega)
    unfold otherB at *
    rw [idxL, List.any_cons]
    cases h : neqB x.length m
    · rw [if_neg (by simp), ih]; rfl
    · rw [if_pos rfl, decide_eq_true hk]; rfl
set_option maxHeartbeats 1000000 in
theorem indexL (A : Option Addr) (c : Nat) (l : List (List Int)) (g : Nat) (B : Option Addr) (m k : Nat) (w : World) (hs : BookAt w A l) (hl : l.length ≤ 1000) (hg : w.cell? ⟨g, 0, none⟩ = some (.slice B m k)) :
    Calls Tryd.prog 82 #[.slice A l.length c, .func (.func 60) #[] #[.pointer (some ⟨g, 0, none⟩)]] w fun x w' => x = .returned (.int .i64 (idxL m l 0)) ∧ Below w.heap.size w w' := by
  have hK := enters Tryd.func60 (by kernel_rfl) rfl
  have HS := Lib.hid hs
  have HP := Lib.hid (fun A n c W hb => sweep1_beam A n c g B m k W (Below.keeps (w := w) (w1 := W) hb hg))
  clear hs hg
  go_enter Tryd.func82, Tryd.ntmps82
  go_wp2
  go_loopw [8] (fun i wr => ∃ k : Nat, k ≤ l.length ∧ i = .int .i64 k ∧ idxL m l 0 = idxL m (l.drop k) k ∧ Below w.heap.size w wr) (fun i _ => l.length - (intOf i).toNat)
  case atStart => exact ⟨0, Nat.zero_le _, rfl, by simp, Below.refl _ _⟩
  case round =>
    obtain ⟨k, hk, rfl, he, hbel⟩ := hrel
    have HE := Lib.hid he
    clear he
    by_cases hlt : k < l.length
    · obtain ⟨b, off, B1, ck, rfl, d1, hr⟩ := (HS.out.bel hbel).at_ hlt
      have hskip := hide (idxL_skip m l k hlt)
      have hhit := hide (idxL_hit m l k hlt)
      obtain ⟨u, hu⟩ : ∃ u, l[k] = u := ⟨_, rfl⟩
      rw [hu] at d1 hskip hhit
      clear hu hr
      cases h0 : neqB u.length m
      · have HH := Lib.hid (hskip.out h0 k)
        have H0 := Lib.hid h0; clear h0 hskip hhit
        go_wp2_with fail
        refine (HP.out _ _ _ _ hbel).mono ?_
        rintro e w1 ⟨rfl, hb1⟩
        rw [H0.out]
        have b1 := Below.step hbel hb1
        clear hb1
        simp only []
        go_wp2
        go_roundw
        case rel => exact ⟨k + 1, by omega, by go_num, by rw [HE.out, HH.out]; simp, b1⟩
        case measure => simp [intOf]; omega
      · have HH := Lib.hid (hhit.out h0 k)
        have H0 := Lib.hid h0; clear h0 hskip hhit
        go_wp2_with fail
        refine (HP.out _ _ _ _ hbel).mono ?_
        rintro e w1 ⟨rfl, hb1⟩
        rw [H0.out]
        have b1 := Below.step hbel hb1
        clear hb1
        simp only []
        go_wp2
        go_ret
        exact ⟨by rw [HE.out, HH.out]; rfl, b1⟩
    · go_wp2
      go_ret
      exact ⟨by rw [HE.out, List.drop_eq_nil_of_le (by omega)]; rfl, hbel⟩
theorem containsL (A : Option Addr) (c : Nat) (l : List (List Int)) (g : Nat) (B : Option Addr) (m k : Nat) (w : World) (hs : BookAt w A l) (hl : l.length ≤ 1000) (hg : w.cell? ⟨g, 0, none⟩ = some (.slice B m k)) :
    Calls Tryd.prog 59 #[.slice A l.length c, .func (.func 60) #[] #[.pointer (some ⟨g, 0, none⟩)]] w fun x w' => x = .returned (.bool (otherB m l)) ∧ Below w.heap.size w w' := by
  have H := Lib.hid (indexL A c l g B m k w hs hl hg)
  have HA := Lib.hid (idxL_any m l 0 (Int.le_refl _))
  clear hs hg
  go_enter Tryd.func59, Tryd.ntmps59
  go_wp2_with fail
  refine H.out.mono ?_
  rintro e w1 ⟨rfl, hb1⟩
  simp only []
  go_wp2
  go_ret
  exact ⟨by rw [← HA.out]; rfl, hb1⟩

/-- the error of a book and a channel -/
def sweepE (bs : List (List Int)) (h : List (Int × Int)) : Int := firstOf [bookE bs, chE h, unlessE (!(otherB h.length bs)) 13]
end Go.Proofs.YtamkannjdbodpaaDoor
