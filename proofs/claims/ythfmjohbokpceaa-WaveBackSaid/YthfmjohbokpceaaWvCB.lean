import Derived.Test.YthfmjohbokpceaaWvCA
namespace Go.Proofs.Ythfmjohbokpceaa
open Go.RowKit Go.WideShapes Go.ChangeShapes

/-! the error of two lists; clipped numbers in the reference -/
/-- two lists of whole complex numbers put together -/
theorem concat_gauss2 (A B : Option Addr) (n m ca cb : Nat) (xs ys : List (Int × Int)) (w : World) (hx : xs.length = n) (hy : ys.length = m) (h1 : Sl w A (gv xs)) (h2 : Sl w B (gv ys)) (hl : n + m ≤ 1000000) (g : Nat) (hg : w.heap.size = g) :
    Calls Try.prog 144 #[.slice (some ⟨g, 0, none⟩) 2 2] (w.alloc (.cells #[.slice A n ca, .slice B m cb] 83)) fun e w' => ∃ C k, e = .returned (.slice C (n + m) k) ∧ Sl w' C (gv (xs ++ ys)) ∧ Below w.heap.size w w' := by
  subst hx hy
  have hs : Sl (w.alloc (.cells #[.slice A xs.length ca, .slice B ys.length cb] 83)) (some ⟨g, 0, none⟩) [.slice A xs.length ca, .slice B ys.length cb] := Sl.new _ _ _ _ hg
  have := concat_gauss (some ⟨g, 0, none⟩) 2 2 [⟨A, xs.length, ca, gv xs⟩, ⟨B, ys.length, cb, gv ys⟩] _ rfl hs (by
    intro p hp
    simp only [List.mem_cons, List.not_mem_nil, or_false] at hp
    rcases hp with rfl | rfl
    · exact ⟨Sl.reads2 (h1.alloc _), gv_one _⟩
    · exact ⟨Sl.reads2 (h2.alloc _), gv_one _⟩) (by simp [parN]; omega) (by omega)
  rw [show parN [⟨A, xs.length, ca, gv xs⟩, ⟨B, ys.length, cb, gv ys⟩] = xs.length + ys.length by simp [parN], show parX [⟨A, xs.length, ca, gv xs⟩, ⟨B, ys.length, cb, gv ys⟩] = gv (xs ++ ys) by simp [parX, gv_append]] at this
  refine this.mono ?_
  rintro e w' ⟨C, k, rfl, ho, hb⟩
  exact ⟨C, k, rfl, Sl.of_ownN ho, Below.step (by go_grown) hb⟩
def erE (x y : List (Int × Int)) : Int := if 120 < x.length then 8 else if y.length ≠ x.length then 10 else eachE entE (x ++ y)
theorem erE_cases (x y : List (Int × Int)) : (120 < x.length ∧ erE x y = 8) ∨ (x.length ≤ 120 ∧ y.length ≠ x.length ∧ erE x y = 10) ∨ (x.length ≤ 120 ∧ y.length = x.length ∧ erE x y = eachE entE (x ++ y)) := by
  unfold erE
  by_cases h : 120 < x.length
  · exact .inl ⟨h, if_pos h⟩
  · rw [if_neg h]
    by_cases h' : y.length = x.length
    · exact .inr (.inr ⟨by omega, h', if_neg (by omega)⟩)
    · exact .inr (.inl ⟨by omega, h', if_pos h'⟩)
def esum (x y : List (Int × Int)) : Nat → Int
  | 0 => 0
  | k + 1 => esum x y k + (((kg x k).1 - (kg y k).1) * ((kg x k).1 - (kg y k).1) + ((kg x k).2 - (kg y k).2) * ((kg x k).2 - (kg y k).2))
theorem esum_bd {x y : List (Int × Int)} (hx : ∀ z ∈ x, entE z = 0) (hy : ∀ z ∈ y, entE z = 0) : ∀ k : Nat, 0 ≤ esum x y k ∧ esum x y k ≤ k * 800000000
  | 0 => by simp [esum]
  | k + 1 => by
    have h := esum_bd hx hy k
    have a := kg_le hx k
    have b := kg_le hy k
    have q1 := mul_le_size (a := (kg x k).1 - (kg y k).1) (b := (kg x k).1 - (kg y k).1) (m := 20000) (n := 20000) (by omega) (by omega) (by omega) (by omega)
    have q2 := mul_le_size (a := (kg x k).2 - (kg y k).2) (b := (kg x k).2 - (kg y k).2) (m := 20000) (n := 20000) (by omega) (by omega) (by omega) (by omega)
    have p1 : 0 ≤ ((kg x k).1 - (kg y k).1) * ((kg x k).1 - (kg y k).1) := by
      rcases Int.le_total 0 ((kg x k).1 - (kg y k).1) with h | h
      · exact Int.mul_nonneg h h
      · have := Int.mul_nonneg (show 0 ≤ -((kg x k).1 - (kg y k).1) by omega) (show 0 ≤ -((kg x k).1 - (kg y k).1) by omega)
        rwa [Int.neg_mul_neg] at this
    have p2 : 0 ≤ ((kg x k).2 - (kg y k).2) * ((kg x k).2 - (kg y k).2) := by
      rcases Int.le_total 0 ((kg x k).2 - (kg y k).2) with h | h
      · exact Int.mul_nonneg h h
      · have := Int.mul_nonneg (show 0 ≤ -((kg x k).2 - (kg y k).2) by omega) (show 0 ≤ -((kg x k).2 - (kg y k).2) by omega)
        rwa [Int.neg_mul_neg] at this
    unfold esum
    generalize ((kg x k).1 - (kg y k).1) * ((kg x k).1 - (kg y k).1) = U at *
    generalize ((kg x k).2 - (kg y k).2) * ((kg x k).2 - (kg y k).2) = V at *
    push_cast
    omega
set_option maxRecDepth 100000 in
set_option maxHeartbeats 4000000 in
theorem ErrorOf_err (A B : Option Addr) (c d : Nat) (x y : List (Int × Int)) (w : World) (ha : Sl w A (gv x)) (hb : Sl w B (gv y)) (hl : x.length ≤ 1000000) (_hl' : y.length ≤ 1000000) (h : erE x y ≠ 0) :
    Calls Try.prog 58 #[.slice A x.length c, .slice B y.length d] w fun e w' => e = .returned (.tuple #[.int .i64 0, .int .i64 (erE x y)]) ∧ Below w.heap.size w w' := by
  have HA := hide ha
  have HB := hide hb
  clear ha hb
  have u1 : ∀ b, firstOf [unlessE false 8, unlessE b 10] = 8 := fun b => rfl
  have u2 : firstOf [unlessE true 8, unlessE false 10] = 10 := rfl
  have u3 : firstOf [unlessE true 8, unlessE true 10] = 0 := rfl
  rcases erE_cases x y with ⟨h1, he⟩ | ⟨h1, h2, he⟩ | ⟨h1, h2, he⟩
  · have q1 : decide ((x.length : Int) ≤ 120) = false := by rw [decide_eq_false_iff_not]; omega
    obtain ⟨b, hb⟩ : ∃ b, ((y.length : Int) == (x.length : Int)) = b := ⟨_, rfl⟩
    rw [he]
    clear he h h1
    go_enter Try.func58, Try.ntmps58
    go_wp2_with (first
      | (go_at_call 115; refine (unless_any _ _ _).mono ?_; rintro e w' ⟨rfl, rfl⟩; simp only [])
      | (go_at_call 107; go_must (refine (first2 _ _ _ _ (by simp)).mono ?_; rintro e w' ⟨rfl, rfl⟩; rw [u1]; simp only [])))
    go_ret2
    exact ⟨rfl, by go_grown⟩
  · have q1 : decide ((x.length : Int) ≤ 120) = true := by rw [decide_eq_true_iff]; omega
    have q2 : ((y.length : Int) == (x.length : Int)) = false := by rw [beq_eq_false_iff_ne]; omega
    rw [he]
    clear he h h1 h2
    go_enter Try.func58, Try.ntmps58
    go_wp2_with (first
      | (go_at_call 115; refine (unless_any _ _ _).mono ?_; rintro e w' ⟨rfl, rfl⟩; simp only [])
      | (go_at_call 107; go_must (refine (first2 _ _ _ _ (by simp)).mono ?_; rintro e w' ⟨rfl, rfl⟩; rw [u2]; simp only [])))
    go_ret2
    exact ⟨rfl, by go_grown⟩
  · have q1 : decide ((x.length : Int) ≤ 120) = true := by rw [decide_eq_true_iff]; omega
    have q2 : ((y.length : Int) == (x.length : Int)) = true := by rw [h2]; simp
    have hK := hide (enters Try.func141 (by kernel_rfl) rfl)
    obtain ⟨E, hE⟩ : ∃ E, eachE entE (x ++ y) = E := ⟨_, rfl⟩
    rw [he, hE] at h
    have HEACH := hide (fun C k W (hc : Sl W C (gv (x ++ y))) => by
      have := each_gauss 141 entE C k (x ++ y) W hK.out (fun z W => entryErr_wave z W) hc (by simp; omega)
      rw [hE, show (x ++ y).length = x.length + y.length by simp] at this
      exact this)
    have HCON := hide (fun W g (hg : W.heap.size = g) (k1 : Sl W A (gv x)) (k2 : Sl W B (gv y)) => concat_gauss2 A B x.length y.length c d x y W rfl rfl k1 k2 (by omega) g hg)
    have hne : (E != 0) = true := by rw [bne_iff_ne]; exact h
    rw [he, hE]
    clear h1 h2 he hE h
    go_enter Try.func58, Try.ntmps58
    go_wp2_with (first
      | (go_at_call 115; refine (unless_any _ _ _).mono ?_; rintro e w' ⟨rfl, rfl⟩; simp only [])
      | (go_at_call 107; go_must (refine (first2 _ _ _ _ (by simp)).mono ?_; rintro e w' ⟨rfl, rfl⟩; rw [u3]; simp only []))
      | (go_at_call 144; go_must (refine (HCON.out _ _ (by simp) (HA.out.bel (by go_grown)) (HB.out.bel (by go_grown))).mono ?_; rintro e w1 ⟨C, k, rfl, hc, hb1⟩; have b1 : Below w.heap.size w w1 := Below.step (by go_grown) hb1; have HC := hide hc; clear hb1 hc; simp only []))
      | (go_at_call 140; go_must (refine (HEACH.out _ _ _ HC.out).mono ?_; rintro e w2 ⟨rfl, hb2⟩; have b2 : Below w.heap.size w w2 := Below.step b1 hb2; clear hb2; simp only [])))
    go_ret2
    exact ⟨rfl, b2⟩
theorem erE_ok {x y : List (Int × Int)} (h : erE x y = 0) : x.length ≤ 120 ∧ y.length = x.length ∧ (∀ z ∈ x, entE z = 0) ∧ (∀ z ∈ y, entE z = 0) := by
  rcases erE_cases x y with ⟨h1, he⟩ | ⟨h1, h2, he⟩ | ⟨h1, h2, he⟩
  · rw [he] at h; exact absurd h (by decide)
  · rw [he] at h; exact absurd h (by decide)
  · rw [he] at h
    have := eachE_ok h
    exact ⟨h1, h2, fun z hz => this z (by simp [hz]), fun z hz => this z (by simp [hz])⟩
set_option maxRecDepth 100000 in
set_option maxHeartbeats 4000000 in
theorem ErrorOf_ok (A B : Option Addr) (c d n : Nat) (x y : List (Int × Int)) (w : World) (hn : x.length = n) (ha : Sl w A (gv x)) (hb : Sl w B (gv y)) (h : erE x y = 0) :
    Calls Try.prog 58 #[.slice A n c, .slice B n d] w fun e w' => e = .returned (.tuple #[.int .i64 (esum x y n), .int .i64 0]) ∧ Below w.heap.size w w' := by
  obtain ⟨hl, hyn, hx, hy⟩ := erE_ok h
  have HA := hide ha
  have HB := hide hb
  have HXK := hide (fun k (hk : k < n) => ha.atG (k := k) (by omega))
  have HYK := hide (fun k (hk : k < n) => hb.atG (k := k) (by omega))
  have u3 : firstOf [unlessE true 8, unlessE true 10] = 0 := rfl
  have q1 : decide ((n : Int) ≤ 120) = true := by rw [decide_eq_true_iff]; omega
  have hK := hide (enters Try.func141 (by kernel_rfl) rfl)
  have HEACH := hide (fun C k W (hc : Sl W C (gv (x ++ y))) => by
    have := each_gauss 141 entE C k (x ++ y) W hK.out (fun z W => entryErr_wave z W) hc (by simp; omega)
    rw [eachE_zero (fun z hz => by rcases List.mem_append.1 hz with q | q; exact hx z q; exact hy z q), show (x ++ y).length = n + n by simp; omega] at this
    exact this)
  have HCON := hide (fun W g (hg : W.heap.size = g) (k1 : Sl W A (gv x)) (k2 : Sl W B (gv y)) => concat_gauss2 A B n n c d x y W hn (by omega) k1 k2 (by omega) g hg)
  have HX := hide (kg_le hx)
  have HY := hide (kg_le hy)
  have HBD := hide (esum_bd hx hy)
  have HST := hide (show ∀ k, esum x y (k + 1) = esum x y k + (((kg x k).1 - (kg y k).1) * ((kg x k).1 - (kg y k).1) + ((kg x k).2 - (kg y k).2) * ((kg x k).2 - (kg y k).2)) from fun k => rfl)
  rw [hn] at hl
  clear ha hb h hx hy hn hyn
  go_enter Try.func58, Try.ntmps58
  go_wp2_with (first
    | (go_at_call 115; refine (unless_any _ _ _).mono ?_; rintro e w' ⟨rfl, rfl⟩; simp only [])
    | (go_at_call 107; go_must (refine (first2 _ _ _ _ (by simp)).mono ?_; rintro e w' ⟨rfl, rfl⟩; rw [u3]; simp only []))
    | (go_at_call 144; go_must (refine (HCON.out _ _ (by simp) (HA.out.bel (by go_grown)) (HB.out.bel (by go_grown))).mono ?_; rintro e w1 ⟨C, k, rfl, hc, hb1⟩; have b1 : Below w.heap.size w w1 := Below.step (by go_grown) hb1; have HC := hide hc; clear hb1 hc; simp only []))
    | (go_at_call 140; go_must (refine (HEACH.out _ _ _ HC.out).mono ?_; rintro e w2 ⟨rfl, hb2⟩; have b2 : Below w.heap.size w w2 := Below.step b1 hb2; have z2 := b2.size; clear hb2; simp only [])))
  clear HC b1
  go_loopw [7, 36] (fun s i wr => ∃ k : Nat, k ≤ n ∧ i = .int .i64 k ∧ s = .int .i64 (esum x y k) ∧ Below w.heap.size w wr) (fun _ i _ => n - (intOf i).toNat)
  case atStart => exact ⟨0, Nat.zero_le _, rfl, rfl, b2⟩
  case round =>
    clear b2 z2
    obtain ⟨k, hk, rfl, rfl, hbel⟩ := hrel
    have hbz := hbel.size
    by_cases hlt : k < n
    · obtain ⟨b, off, rfl, e0, e1⟩ := HXK.out k hlt
      obtain ⟨b', off', rfl, e2, e3⟩ := HYK.out k hlt
      have d0 := (hbel.cell (p := ⟨b, off + k * 2, none⟩) (lt_of_cell e0)).trans e0
      have d1 := (hbel.cell (p := ⟨b, off + k * 2 + 1, none⟩) (lt_of_cell e1)).trans e1
      have d2 := (hbel.cell (p := ⟨b', off' + k * 2, none⟩) (lt_of_cell e2)).trans e2
      have d3 := (hbel.cell (p := ⟨b', off' + k * 2 + 1, none⟩) (lt_of_cell e3)).trans e3
      have ne1 : b' ≠ wr.heap.size := by have := lt_of_cell d2; omega
      have hst := HST.out k
      obtain ⟨bd1, bd2⟩ := HBD.out k
      have hlx := HX.out k
      have hly := HY.out k
      obtain ⟨⟨x0, x1⟩, hX⟩ : ∃ z, kg x k = z := ⟨_, rfl⟩
      obtain ⟨⟨y0, y1⟩, hY⟩ : ∃ z, kg y k = z := ⟨_, rfl⟩
      rw [hX] at d0 d1 hlx hst
      rw [hY] at d2 d3 hly hst
      dsimp only at d0 d1 d2 d3 hlx hly hst
      obtain ⟨l1, l2, l3, l4⟩ := hlx
      obtain ⟨l5, l6, l7, l8⟩ := hly
      obtain ⟨s, hs⟩ : ∃ s, esum x y k = s := ⟨_, rfl⟩
      rw [hs] at hst bd1 bd2
      rw [hs]
      obtain ⟨p, hp⟩ : ∃ p, x0 - y0 = p := ⟨_, rfl⟩
      obtain ⟨q, hq⟩ : ∃ q, x1 - y1 = q := ⟨_, rfl⟩
      rw [hp, hq] at hst
      have w1' : IntKind.i64.wrap (x0 - y0) = p := by rw [hp]; exact IntWalk.i64_in _ (by omega)
      have w2' : IntKind.i64.wrap (x1 - y1) = q := by rw [hq]; exact IntWalk.i64_in _ (by omega)
      have lp : -20000 ≤ p ∧ p ≤ 20000 := by omega
      have lq : -20000 ≤ q ∧ q ≤ 20000 := by omega
      obtain ⟨m1, m2⟩ := mul_le_size lp.1 lp.2 lp.1 lp.2
      obtain ⟨m3, m4⟩ := mul_le_size lq.1 lq.2 lq.1 lq.2
      have g1 : (0 : Int) ≤ (k : Int) := by omega
      have g2 : (k : Int) < (n : Int) := by omega
      have HSTP := hide hst
      clear hX hY hs hp hq hst lp lq e0 e1 e2 e3 l1 l2 l3 l4 l5 l6 l7 l8
      go_wp2
      have ne2 : ¬ b' = wr.heap.size := ne1
      have d4 := (World.cell?_alloc_lt wr (.cells #[.int .i64 x0, .int .i64 x1] 30) ⟨b', off' + k * 2, none⟩ (lt_of_cell d2)).trans d2
      have d5 := (World.cell?_alloc_lt wr (.cells #[.int .i64 x0, .int .i64 x1] 30) ⟨b', off' + k * 2 + 1, none⟩ (lt_of_cell d3)).trans d3
      go_region_held3 (fun w' => w'.cell? ⟨wr.heap.size, 0, none⟩ = some (.int .i64 x0) ∧ w'.cell? ⟨wr.heap.size, 1, none⟩ = some (.int .i64 x1) ∧ w'.cell? ⟨b', off' + k * 2, none⟩ = some (.int .i64 y0) ∧ w'.cell? ⟨b', off' + k * 2 + 1, none⟩ = some (.int .i64 y1)) (first | (simp [go_sem]; done) | (simp [go_sem, *]; done) | go_keep)
        (fail)
      go_wp2
      go_roundw
      case rel => exact ⟨k + 1, by omega, by go_num, by rw [HSTP.out], by go_grown⟩
      case measure => simp [intOf]; omega
    · obtain rfl : k = n := by omega
      go_wp2
      go_ret2
      exact ⟨rfl, hbel⟩
end Go.Proofs.Ythfmjohbokpceaa
