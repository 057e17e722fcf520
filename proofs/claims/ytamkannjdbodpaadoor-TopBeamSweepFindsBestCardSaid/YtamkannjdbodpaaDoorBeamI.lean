import Derived.Test.YtamkannjdbodpaaDoorBeamH
namespace Go.Proofs.YtamkannjdbodpaaDoor
open Go.RowKit Go.WideShapes Go.ChangeShapes

/-- the error of wants -/
def spE (p m : Int) (l : List Int) : Int := firstOf [panE p m l.length, unlessE (!(decide (0 ≤ idxFrom noPow l 0))) 2]
theorem unlessE_zero {b : Bool} {e : Int} (he : e ≠ 0) (h : unlessE b e = 0) : b = true := by
  cases b
  · exact absurd h he
  · rfl
theorem firstOf2 {a b : Int} (h : firstOf [a, b] = 0) : a = 0 ∧ b = 0 := by
  unfold firstOf at h
  split at h
  · rename_i ha
    unfold firstOf at h
    split at h
    · rename_i hb; exact ⟨ha, hb⟩
    · rename_i hb; exact absurd h hb
  · rename_i ha; exact absurd h ha
theorem idx_none (p : Int → Bool) : ∀ (l : List Int) (k : Int), 0 ≤ k → ¬ 0 ≤ idxFrom p l k → ∀ x ∈ l, p x = false := by
  intro l
  induction l with
  | nil => intro k _ _ x hx; simp at hx
  | cons y r ih =>
    intro k hk hn x hx
    rw [idxFrom] at hn
    split at hn
    · exact absurd hk hn
    · rename_i hy
      rcases List.mem_cons.1 hx with rfl | hx
      · simpa using hy
      · exact ih (k + 1) (by omega) hn x hx
theorem panE_ok {p m n : Int} (h : panE p m n = 0) : 0 ≤ p ∧ p ≤ 1000000 ∧ 0 ≤ m ∧ m ≤ 1000000 ∧ n ≤ 12 := by
  obtain ⟨h1, h2⟩ := firstOf2 h
  have h3 := unlessE_zero (by decide) h1
  have h4 := unlessE_zero (by decide) h2
  simp [isPow, withinB] at h3 h4
  omega
theorem spE_ok {p m : Int} {l : List Int} (h : spE p m l = 0) : (0 ≤ p ∧ p ≤ 1000000 ∧ 0 ≤ m ∧ m ≤ 1000000 ∧ l.length ≤ 12) ∧ Pows l := by
  obtain ⟨h1, h2⟩ := firstOf2 h
  have h3 := panE_ok h1
  have h4 := unlessE_zero (by decide) h2
  refine ⟨by omega, fun x hx => ?_⟩
  have := idx_none noPow l 0 (Int.le_refl _) (by simpa using h4) x hx
  simpa [noPow, isPow, withinB] using this

/-- the level, looked for from lo on and below hi -/
def bs (pw : Int) (l : List Int) : Nat → Int → Int → Int
  | 0, lo, _ => lo
  | f + 1, lo, hi => if lo + 1 < hi then (if usedL ((lo + hi) / 2) l ≤ pw then bs pw l f ((lo + hi) / 2) hi else bs pw l f lo ((lo + hi) / 2)) else lo
def lev (pw most : Int) (l : List Int) : Int := bs pw l (most + 1).toNat 0 (most + 1)
/-- what each beam gets, so much being left -/
def give (lv : Int) (b : Bool) : List Int → Int → List Int
  | [], _ => []
  | n :: r, left => if b = true ∧ lv < n ∧ 0 < left then (min n lv + 1) :: give lv b r (left - 1) else min n lv :: give lv b r left
theorem give_len (lv : Int) (b : Bool) : ∀ (l : List Int) (left : Int), (give lv b l left).length = l.length := by
  intro l
  induction l with
  | nil => intro left; rfl
  | cons n r ih =>
    intro left
    rw [give]
    split <;> simp [ih]
def splitL (pw most : Int) (l : List Int) : List Int := give (lev pw most l) (decide (lev pw most l < most)) l (pw - usedL (lev pw most l) l)

theorem give_set (lv : Int) (l S : List Int) (k : Nat) (hk : k < l.length) (hS : S.length = l.length) {u : Int} (hu : S[k]'(by omega) = u) :
    (iv (S.take k ++ (mins lv l).drop k)).set k (.int .i64 u) = iv (S.take (k + 1) ++ (mins lv l).drop (k + 1)) := by
  have hkS : k < S.length := by omega
  have hkm : k < (mins lv l).length := by simp [mins]; omega
  rw [List.take_succ_eq_append_getElem hkS, List.drop_eq_getElem_cons hkm, hu]
  unfold iv
  rw [List.map_append, List.map_append, List.map_append, List.set_append, if_neg (by simp; omega)]
  simp [Nat.min_eq_left (Nat.le_of_lt hkS)]
  rw [List.drop_eq_getElem_cons (by simpa using hkm)]
  rfl
theorem give_same (lv : Int) (l S : List Int) (k : Nat) (hk : k < l.length) (hS : S.length = l.length) (hu : S[k]'(by omega) = min l[k] lv) :
    iv (S.take k ++ (mins lv l).drop k) = iv (S.take (k + 1) ++ (mins lv l).drop (k + 1)) := by
  have hkS : k < S.length := by omega
  have hkm : k < (mins lv l).length := by simp [mins]; omega
  rw [List.take_succ_eq_append_getElem hkS, List.drop_eq_getElem_cons hkm, hu]
  simp [iv, mins]
set_option maxRecDepth 100000 in
set_option maxHeartbeats 1000000 in
theorem splitOf_ok (A : Option Addr) (c : Nat) (l : List Int) (p m : Int) (w : World) (hs : Sl w A (iv l)) (hl : l.length ≤ 1000000) (h : spE p m l = 0) :
    Calls Tryd.prog 25 #[.agg #[.int .i64 p, .int .i64 m], .slice A l.length c] w fun e w' => ∃ A' c', e = .returned (.tuple #[.slice A' l.length c', .int .i64 0]) ∧ w'.ownsRow w.heap.size 3 1 (.slice A' l.length c') l.length (iv (splitL p m l)) ∧ Below w.heap.size w w' := by
  have hK := enters Tryd.func47 (by kernel_rfl) rfl
  have C1 := Lib.hid (fun W hs => containsFunc0 47 noPow A c l W hK (fun x => splitOf1_beam x W) hs hl)
  clear hK
  obtain ⟨⟨p0, p1, m0, m1, hl12⟩, hpw⟩ := spE_ok h
  have hg : (firstOf [panE p m l.length, unlessE (!(decide (0 ≤ idxFrom noPow l 0))) 2] != 0) = false := by rw [bne_eq_false_iff_eq]; exact h
  clear h
  have HS := hide hs; clear hs
  have HP := hide hpw; clear hpw
  go_enter Tryd.func25, Tryd.ntmps25
  go_wp2_with (first
    | (go_at_call 46; refine (C1.out _ (HS.out.bel (by go_grown))).mono ?_; rintro e w' ⟨rfl, rfl⟩)
    | (go_at_call 49; refine (panelErr_beam _ _ _ _).mono ?_; rintro e w1 ⟨rfl, hb1⟩; have b1 : Below w.heap.size w w1 := Below.step (by go_grown) hb1; obtain ⟨hc1, hf1, y10⟩ := bloc1 w hb1 (by first | omega | (simp; done) | (simp; omega)))
    | (go_at_call 36; refine (unless_any _ _ _).mono ?_; rintro e w' ⟨rfl, rfl⟩)
    | (go_at_call 35; refine (first2 _ _ _ _ (by simp)).mono ?_; rintro e w' ⟨rfl, rfl⟩))
  have hblk : Blk w1 w.heap.size 63 #[.int .i64 p, .int .i64 m] := (Blk.new w _ _).below hb1 (by simp)
  go_quiet (fail)
  go_wp2
  go_loopw [8, 9] (fun a b wr => ∃ (lo hi : Int) (f : Nat), a = .int .i64 lo ∧ b = .int .i64 hi ∧ 0 ≤ lo ∧ lo < hi ∧ hi ≤ m + 1 ∧ hi - lo ≤ f ∧ bs p l f lo hi = lev p m l ∧ Blk wr w.heap.size 63 #[.int .i64 p, .int .i64 m] ∧ Below w.heap.size w wr) (fun a b _ => (intOf b - intOf a).toNat)
  case atStart => exact ⟨0, m + 1, (m + 1).toNat, rfl, rfl, by omega, by omega, by omega, by omega, rfl, (hblk.alloc _).drewN _, below_drewN (by go_grown) _⟩
  case round =>
    obtain ⟨lo, hi, f, rfl, rfl, l0, l1, l2, hf, he, hblk, hbel⟩ := hrel
    have HE := hide he; clear he
    have d0 : wr.cell? ⟨w.heap.size, 0, none⟩ = some (.int .i64 p) := hblk.cell 0
    have d1 : wr.cell? ⟨w.heap.size, 1, none⟩ = some (.int .i64 m) := hblk.cell 1
    have yl := hblk.lt
    by_cases hlt : lo + 1 < hi
    · obtain ⟨f, rfl⟩ : ∃ f', f = f' + 1 := ⟨f - 1, by omega⟩
      obtain ⟨md, hmd⟩ : ∃ md, (lo + hi) / 2 = md := ⟨_, rfl⟩
      have md0 : lo < md := by omega
      have md1 : md < hi := by omega
      have HB : bs p l (f + 1) lo hi = if usedL md l ≤ p then bs p l f md hi else bs p l f lo md := by rw [bs, if_pos hlt, hmd]
      have hHB := hide HB; clear HB
      by_cases hu : usedL md l ≤ p
      · go_wp2_with (go_at_call 50; go_must (refine (upTo_beam A c l md _ (HS.out.bel (by go_grown)) (by omega) HP.out (by omega) (by omega)).mono ?_; rintro e w2 ⟨A', c', rfl, hown, hb2⟩; have b2 : Below w.heap.size w w2 := Below.step (by go_grown) hb2; obtain ⟨hc2, hf2, y20⟩ := bloc1 w hb2 (by first | omega | (simp; done) | (simp; omega))))
        go_roundw
        case rel => exact ⟨md, hi, f, rfl, rfl, by omega, by omega, by omega, by omega, by rw [← HE.out, hHB.out, if_pos hu], hblk.below hb2 yl, b2⟩
        case measure => simp [intOf]; omega
      · go_wp2_with (go_at_call 50; go_must (refine (upTo_beam A c l md _ (HS.out.bel (by go_grown)) (by omega) HP.out (by omega) (by omega)).mono ?_; rintro e w2 ⟨A', c', rfl, hown, hb2⟩; have b2 : Below w.heap.size w w2 := Below.step (by go_grown) hb2; obtain ⟨hc2, hf2, y20⟩ := bloc1 w hb2 (by first | omega | (simp; done) | (simp; omega))))
        go_roundw
        case rel => exact ⟨lo, md, f, rfl, rfl, by omega, by omega, by omega, by omega, by rw [← HE.out, hHB.out, if_neg (by omega)], hblk.below hb2 yl, b2⟩
        case measure => simp [intOf]; omega
    · have hlev : lev p m l = lo := by
        rw [← HE.out]
        cases f with
        | zero => rfl
        | succ f => rw [bs, if_neg hlt]
      have HL := hide hlev; clear hlev
      go_wp2_with (go_at_call 50; go_must (refine (upTo_beam A c l lo _ (HS.out.bel (by go_grown)) (by omega) HP.out (by omega) (by omega)).mono ?_; rintro e w2 ⟨A', c', rfl, hown, hb2⟩; have b2 : Below w.heap.size w w2 := Below.step (by go_grown) hb2; obtain ⟨hc2, hf2, y20⟩ := bloc1 w hb2 (by first | omega | (simp; done) | (simp; omega)); have hus := usedL_bd lo l HP.out l0))
      have hblk2 := hblk.below hb2 yl
      have hw2 := hb2.size
      have hsm : lo < 1000001 := by omega
      have hbz := hbel.size
      clear HE hf hbel hblk d0 d1 yl
      obtain ⟨S, hS⟩ : ∃ S, splitL p m l = S := ⟨_, rfl⟩
      have hS0 : give lo (decide (lo < m)) l (p - usedL lo l) = S := by rw [← hS, splitL, HL.out]
      have hSl : S.length = l.length := by rw [← hS0, give_len]
      have HSS := hide hS; clear hS
      have HSL := hide hSl; clear hSl
      have HS0 := hide hS0; clear hS0
      go_loopw [15, 67] (fun a i wr => ∃ (k : Nat) (left : Int), k ≤ l.length ∧ i = .int .i64 k ∧ a = .int .i64 left ∧ -100000000 ≤ left ∧ left ≤ 100000000 ∧ give lo (decide (lo < m)) (l.drop k) left = S.drop k ∧ wr.ownsRow w.heap.size 3 1 (.slice A' l.length c') l.length (iv (S.take k ++ (mins lo l).drop k)) ∧ Blk wr w.heap.size 63 #[.int .i64 p, .int .i64 m] ∧ Below w.heap.size w wr) (fun _ i _ => l.length - (intOf i).toNat)
      case atStart => exact ⟨0, _, Nat.zero_le _, rfl, rfl, by omega, by omega, HS0.out, by simpa using hown.weaken (by first | omega | (simp; done) | (simp; omega)), hblk2, b2⟩
      case round =>
        obtain ⟨k, left, hk, rfl, rfl, lf0, lf1, hgv, hrow, hblk3, hbel3⟩ := hrel
        have d0 : wr.cell? ⟨w.heap.size, 0, none⟩ = some (.int .i64 p) := hblk3.cell 0
        have d1 : wr.cell? ⟨w.heap.size, 1, none⟩ = some (.int .i64 m) := hblk3.cell 1
        have yl := hblk3.lt
        by_cases hlt : k < l.length
        · obtain ⟨b, off, rfl, hc⟩ := HS.out.int hlt
          have hcw : wr.cell? ⟨b, off + k, none⟩ = some (.int .i64 l[k]) := (hbel3.cell (p := ⟨b, off + k, none⟩) (lt_of_cell hc)).trans hc
          have hblt := lt_of_cell hc
          have hx := HP.out l[k] (List.getElem_mem hlt)
          have hSl := HSL.out
          have hmk : (iv (S.take k ++ (mins lo l).drop k))[k]? = some (.int .i64 (min l[k] lo)) := by
            simp [iv, mins, List.getElem?_append_right, hSl, Nat.min_eq_left hk, hlt]
          obtain ⟨g, cap, hv, hgb, hgl⟩ := hrow.form (by omega)
          obtain ⟨rfl, rfl⟩ : A' = some ⟨g, 0, none⟩ ∧ c' = cap := by injection hv with h1 h2 h3; exact ⟨h1, h3⟩
          clear hv
          have e0 : wr.cell? ⟨g, k, none⟩ = some (.int .i64 (min l[k] lo)) := (hrow.cellAt k (by omega)).trans hmk
          have e1 := hrow.frozenAt k
          have hstep : give lo (decide (lo < m)) (l.drop k) left = if decide (lo < m) = true ∧ lo < l[k] ∧ 0 < left then (min l[k] lo + 1) :: give lo (decide (lo < m)) (l.drop (k + 1)) (left - 1) else min l[k] lo :: give lo (decide (lo < m)) (l.drop (k + 1)) left := by
            rw [List.drop_eq_getElem_cons hlt]; rfl
          have hSk : k < S.length := by omega
          rw [List.drop_eq_getElem_cons hSk] at hgv
          rw [hstep] at hgv
          clear hstep hmk hc hSl
          obtain ⟨x, hxe⟩ : ∃ x, l[k] = x := ⟨_, rfl⟩
          rw [hxe] at hcw hx hgv e0
          have HX := hide hxe; clear hxe
          obtain ⟨hx0, hx1⟩ := hx
          have HROW := hide hrow; clear hrow
          by_cases ht : lo < m ∧ lo < x ∧ 0 < left
          · obtain ⟨t1, t2, t3⟩ := ht
            rw [if_pos ⟨decide_eq_true t1, t2, t3⟩] at hgv
            injection hgv with hv1 hv2
            have hmin : min x lo = lo := by omega
            rw [hmin] at e0 hv1
            have HV1 := hide hv1; clear hv1
            have HV2 := hide hv2; clear hv2
            go_wp2
            go_roundw
            case rel => 
              have hst := HROW.out.stored k (.int .i64 (lo + 1))
              refine ⟨k + 1, left - 1, by omega, by go_num, rfl, by omega, by omega, HV2.out, ?_, ?_, ?_⟩
              · rw [← give_set lo l S k hlt HSL.out (HV1.out.symm)]; exact hst.1
              · exact hblk3.grown hst.2 (fun h => own_blk_ne HROW.out hblk3 (by decide) (by simpa [Value.ownBlock] using h.symm))
              · exact hbel3.grown hst.2 hbel3.size (fun j h => by cases h; exact hgb)
            case measure => simp [intOf]; omega
          · have hcase : (¬ lo < m) ∨ (lo < m ∧ ¬ lo < x) ∨ (lo < m ∧ lo < x ∧ ¬ 0 < left) := by omega
            rw [if_neg (by simpa using ht)] at hgv
            injection hgv with hv1 hv2
            have HV1 := hide hv1; clear hv1
            have HV2 := hide hv2; clear hv2
            have HCE := hide e0; clear e0
            rcases hcase with t1 | ⟨t1, t2⟩ | ⟨t1, t2, t3⟩
            all_goals
              go_wp2
              go_roundw
              case rel => exact ⟨k + 1, left, by omega, by go_num, rfl, by omega, by omega, HV2.out, by rw [← give_same lo l S k hlt HSL.out (by rw [HX.out]; exact HV1.out.symm)]; exact HROW.out, hblk3, hbel3⟩
              case measure => simp [intOf]; omega
        · go_wp2
          obtain rfl : k = l.length := by omega
          go_ret2
          refine ⟨A', c', rfl, ?_, hbel3⟩
          have hr := hrow
          rw [List.take_of_length_le (by rw [HSL.out]; exact Nat.le_refl _), List.drop_of_length_le (by simp [mins]), List.append_nil] at hr
          rw [HSS.out]
          exact hr

theorem splitOf_bad (A : Option Addr) (c : Nat) (l : List Int) (p m : Int) (w : World) (hs : Sl w A (iv l)) (hl : l.length ≤ 1000000) (h : spE p m l ≠ 0) :
    Calls Tryd.prog 25 #[.agg #[.int .i64 p, .int .i64 m], .slice A l.length c] w fun e w' => e = .returned (.tuple #[.slice none 0 0, .int .i64 (spE p m l)]) ∧ Below w.heap.size w w' := by
  have hK := enters Tryd.func47 (by kernel_rfl) rfl
  have C1 := Lib.hid (fun W hs => containsFunc0 47 noPow A c l W hK (fun x => splitOf1_beam x W) hs hl)
  clear hK
  have hg : (firstOf [panE p m l.length, unlessE (!(decide (0 ≤ idxFrom noPow l 0))) 2] != 0) = true := by rw [bne_iff_ne]; exact h
  clear h
  have HS := hide hs; clear hs
  go_enter Tryd.func25, Tryd.ntmps25
  go_wp2_with (first
    | (go_at_call 46; refine (C1.out _ (HS.out.bel (by go_grown))).mono ?_; rintro e w' ⟨rfl, rfl⟩)
    | (go_at_call 49; refine (panelErr_beam _ _ _ _).mono ?_; rintro e w1 ⟨rfl, hb1⟩; have b1 : Below w.heap.size w w1 := Below.step (by go_grown) hb1; obtain ⟨hc1, hf1, y10⟩ := bloc1 w hb1 (by first | omega | (simp; done) | (simp; omega)))
    | (go_at_call 36; refine (unless_any _ _ _).mono ?_; rintro e w' ⟨rfl, rfl⟩)
    | (go_at_call 35; refine (first2 _ _ _ _ (by simp)).mono ?_; rintro e w' ⟨rfl, rfl⟩))
  go_ret2
  exact ⟨rfl, by go_grown⟩
end Go.Proofs.YtamkannjdbodpaaDoor
