import Derived.Test.YtppkibgemacdbaaProg
import Derived.Test.YtppkibgemacdbaaMem
import Derived.BigQuiet
import Derived.Deep.QuietTactic
import Derived.Deep.RegionHeld3
import Derived.Test.YtppkibgemacdbaaMem2
import Derived.Laws.IdiomStrings
namespace Go.Proofs.Ytppkibgemacdbaa
open Go.RowKit Go.WideShapes Go.ChangeShapes

theorem int_info : (Try.prog.info? 3).map (fun i => (i.zero, i.size, i.bytes)) = some (some (.int .i64 0), 1, 8) := by kernel_rfl

/-- a fresh row of ints -/
abbrev OwnI (w : World) (base : Nat) (v : Value) (xs : List Int) : Prop := w.ownsRow base 3 1 v xs.length (iv xs)
/-- 'returns this slice of ints, in new memory' -/
def RetI (w : World) (xs : List Int) (e : Ending) (w' : World) : Prop :=
  ∃ A c, e = .returned (.slice A xs.length c) ∧ OwnI w' w.heap.size (.slice A xs.length c) xs ∧ Below w.heap.size w w'

def withinB (n lo hi : Int) : Bool := decide (lo ≤ n) && decide (n ≤ hi)
theorem within_base (n lo hi : Int) (w : World) : Calls Try.prog 8 #[.int .i64 n, .int .i64 lo, .int .i64 hi] w fun x w' => x = .returned (.bool (withinB n lo hi)) ∧ w = w' := by
  unfold withinB
  by_cases h : lo ≤ n
  · go_enter Try.func8, Try.ntmps8; go_wp2; go_ret; exact ⟨by simp [h], rfl⟩
  · go_enter Try.func8, Try.ntmps8; go_wp2; go_ret; exact ⟨by rw [decide_eq_false (by omega : ¬ lo ≤ n)]; rfl, rfl⟩

theorem copyInts (A : Option Addr) (c : Nat) (l : List Int) (w : World) (hs : Sl w A (iv l)) (hl : l.length ≤ 1000000) :
    Calls Try.prog 34 #[.slice A l.length c] w (RetI w l) := by
  obtain ⟨i0, hi0, hz0, hz1, hz2⟩ := info_parts int_info
  have hr := (hs.alloc (.cells #[] 3)).reads
  rw [iv_length] at hr
  have ho := World.ownsRow_made (e := 3) (size := 1) w #[] 0 (Nat.le_refl _) (by simp [maxLen]) rfl
  go_enter Try.func34, Try.ntmps34
  go_wp2_with (at_builtin
               refine wpList_append_any _ rfl (.tmp 3) (.tmp 4) _ rfl w.heap.size 3 i0 _ 1 8 Try.underlying22 hi0 hz0 hz1 hz2 rfl (by omega) _ 0 [] rfl
                 ho _ A l.length c (iv l) rfl hr (iv_one l) (by simp only [maxLen]; omega) (by omega) (by simp) ?_
               intro v1 w1 hown1 hg1 hat1)
  go_ret
  simp only [Nat.zero_add, List.nil_append] at hown1
  obtain ⟨A', c', rfl⟩ := own_form hown1
  refine ⟨A', c', rfl, hown1, ((Below.refl _ w).alloc (Nat.le_refl _) _).grown hg1 (by simp) (fun k hk => ?_)⟩
  cases hk
  exact Nat.le_refl _

def intsEq (a b : List Int) : Bool := decide (a = b)
theorem ints_base (A B : Option Addr) (c d : Nat) (a b : List Int) (w : World) (ha : Sl w A (iv a)) (hb : Sl w B (iv b)) (hl : a.length ≤ 1000000) (hl' : b.length ≤ 1000000) :
    Calls Try.prog 45 #[.slice A a.length c, .slice B b.length d] w fun x w' => x = .returned (.bool (intsEq a b)) ∧ ∃ n, w' = w.drewN n := by
  have HA := hide ha; clear ha
  have HB := hide hb; clear hb
  by_cases hlen : a.length = b.length
  · have hL : ((a.length : Int) != (b.length : Int)) = false := by simp [hlen]
    have h1 : b.length ≤ a.length := by omega
    have h2 : a.length ≤ b.length := by omega
    have HL := hide hlen; clear hlen
    go_enter Try.func45, Try.ntmps45
    go_wp2
    go_loopw [5] (fun i wr => ∃ k : Nat, k ≤ a.length ∧ i = .int .i64 k ∧ a.take k = b.take k ∧ ∃ n, wr = w.drewN n) (fun i _ => a.length - (intOf i).toNat)
    case atStart => exact ⟨0, Nat.zero_le _, rfl, by simp, 0, rfl⟩
    case round =>
      obtain ⟨k, hk, rfl, he, n, rfl⟩ := hrel
      have HE := hide he; clear he
      by_cases hlt : k < a.length
      · obtain ⟨b1, o1, rfl, c1⟩ := HA.out.int hlt
        obtain ⟨b2, o2, rfl, c2⟩ := HB.out.int (by omega : k < b.length)
        have d1 : (w.drewN n).cell? ⟨b1, o1 + k, none⟩ = some (.int .i64 a[k]) := c1
        have d2 : (w.drewN n).cell? ⟨b2, o2 + k, none⟩ = some (.int .i64 (b[k]'(by omega))) := c2
        have g1 : (0 : Int) ≤ (k : Int) := by omega
        have g2 : (k : Int) < (a.length : Int) := by omega
        have g3 : (k : Int) < (b.length : Int) := by omega
        go_wp2
        go_quiet (fail)
        by_cases hx : a[k] = b[k]'(by omega)
        · have hx' : (a[k] != b[k]'(by omega)) = false := by simp [hx]
          have HX := hide hx; clear hx
          go_wp2
          go_roundw
          case rel => exact ⟨k + 1, by omega, by go_num, by rw [List.take_succ_eq_append_getElem hlt, List.take_succ_eq_append_getElem (by omega), HE.out, HX.out], by first | exact drewN2 _ _ _ | exact ⟨_, rfl⟩⟩
          case measure => simp [intOf]; omega
        · have hx' : (a[k] != b[k]'(by omega)) = true := by simp [hx]
          have hne : a ≠ b := by rintro rfl; exact hx rfl
          have HX := hide hx; clear hx
          have HN := hide hne; clear hne
          go_wp2
          go_ret
          exact ⟨by rw [intsEq, decide_eq_false HN.out]; rfl, by first | exact drewN2 _ _ _ | exact ⟨_, rfl⟩⟩
      · go_wp2
        go_ret
        obtain rfl : k = a.length := by omega
        have h3 := HE.out
        rw [List.take_length, HL.out, List.take_length] at h3
        exact ⟨by rw [intsEq, decide_eq_true h3]; rfl, _, rfl⟩
  · have hL : ((a.length : Int) != (b.length : Int)) = true := by simp; omega
    have hne : a ≠ b := by rintro rfl; exact hlen rfl
    have HN := hide hne; clear hne
    have HL := hide hlen; clear hlen
    go_enter Try.func45, Try.ntmps45
    go_wp2
    go_ret
    exact ⟨by rw [intsEq, decide_eq_false HN.out]; rfl, 0, rfl⟩
end Go.Proofs.Ytppkibgemacdbaa

namespace Go.Proofs.Ytppkibgemacdbaa
open Go.RowKit Go.WideShapes Go.ChangeShapes

/-- the first error -/
def firstOf : List Int → Int
  | [] => 0
  | x :: r => if x = 0 then firstOf r else x
theorem firstOf_skip (l : List Int) (k : Nat) (hk : k < l.length) (h0 : l[k] = 0) : firstOf (l.drop k) = firstOf (l.drop (k+1)) := by
  rw [List.drop_eq_getElem_cons hk]; exact if_pos h0
theorem firstOf_hit (l : List Int) (k : Nat) (hk : k < l.length) (h0 : l[k] ≠ 0) : firstOf (l.drop k) = l[k] := by
  rw [List.drop_eq_getElem_cons hk]; exact if_neg h0
theorem firstOf_ok {l : List Int} (h : firstOf l = 0) : ∀ x ∈ l, x = 0 := by
  induction l with
  | nil => simp
  | cons y r ih =>
    rw [firstOf] at h
    by_cases hy : y = 0
    · rw [if_pos hy] at h
      intro x hx
      rcases List.mem_cons.1 hx with rfl | hx
      · exact hy
      · exact ih h x hx
    · rw [if_neg hy] at h
      exact absurd h hy
theorem firstOf_zero {l : List Int} (h : ∀ x ∈ l, x = 0) : firstOf l = 0 := by
  induction l with
  | nil => rfl
  | cons y r ih => rw [firstOf, if_pos (h y (by simp))]; exact ih fun x hx => h x (by simp [hx])
theorem first_any (A : Option Addr) (c : Nat) (l : List Int) (w : World) (hs : Sl w A (iv l)) (hl : l.length ≤ 1000) :
   Calls Try.prog 26 #[.slice A l.length c] w fun x w' => x = .returned (.int .i64 (firstOf l)) ∧ w = w' := by
  have HS := hide hs; clear hs
  go_enter Try.func26, Try.ntmps26
  go_wp2
  go_loop [7] (fun i => ∃ k : Nat, k ≤ l.length ∧ i = .int .i64 k ∧ firstOf l = firstOf (l.drop k)) (fun i => l.length - (intOf i).toNat)
  case atStart => exact ⟨0, Nat.zero_le _, rfl, by simp⟩
  case round =>
    obtain ⟨k, hk, rfl, he⟩ := hrel
    have HE := hide he; clear he
    by_cases hlt : k < l.length
    · obtain ⟨b, off, rfl, hc⟩ := HS.out.int hlt
      by_cases h0 : l[k] = 0
      · have hh := firstOf_skip l k hlt h0
        have HH := hide hh; clear hh
        go_wp2
        go_round
        case rel => exact ⟨k + 1, by omega, by go_num, by rw [HE.out, HH.out]⟩
        case measure => simp [intOf]; omega
      · have hh := firstOf_hit l k hlt h0
        have HH := hide hh; clear hh
        go_wp2
        go_ret
        exact ⟨by rw [HE.out, HH.out]; rfl, rfl⟩
    · go_wp2
      go_ret
      exact ⟨by rw [HE.out, List.drop_eq_nil_of_le (by omega)]; rfl, rfl⟩
section
variable (W : World) (n : Nat)
theorem first2 (e0 e1 : Int) (hn : W.heap.size = n) : Calls Try.prog 26 #[.slice (some ⟨n, 0, none⟩) 2 2] (W.alloc (.cells #[.int .i64 e0, .int .i64 e1] 36)) fun x w' =>
    x = .returned (.int .i64 (firstOf [e0, e1])) ∧ (W.alloc (.cells #[.int .i64 e0, .int .i64 e1] 36)) = w' := first_any _ 2 [e0, e1] _ (Sl.new W (iv [e0, e1]) _ n hn) (by simp)
theorem first2d (e0 e1 : Int) (hn : W.heap.size = n) : Calls Try.prog 26 #[.slice (some ⟨n, 0, none⟩) 2 2] (W.alloc (.cells #[.int .i64 e0, .int .i64 e1] 36)).drew fun x w' =>
    x = .returned (.int .i64 (firstOf [e0, e1])) ∧ (W.alloc (.cells #[.int .i64 e0, .int .i64 e1] 36)).drew = w' := first_any _ 2 [e0, e1] _ (Sl.new W (iv [e0, e1]) _ n hn).drew (by simp)
theorem first3 (e0 e1 e2 : Int) (hn : W.heap.size = n) : Calls Try.prog 26 #[.slice (some ⟨n, 0, none⟩) 3 3] (W.alloc (.cells #[.int .i64 e0, .int .i64 e1, .int .i64 e2] 36)) fun x w' =>
    x = .returned (.int .i64 (firstOf [e0, e1, e2])) ∧ (W.alloc (.cells #[.int .i64 e0, .int .i64 e1, .int .i64 e2] 36)) = w' := first_any _ 3 [e0, e1, e2] _ (Sl.new W (iv [e0, e1, e2]) _ n hn) (by simp)
theorem first3d (e0 e1 e2 : Int) (hn : W.heap.size = n) : Calls Try.prog 26 #[.slice (some ⟨n, 0, none⟩) 3 3] (W.alloc (.cells #[.int .i64 e0, .int .i64 e1, .int .i64 e2] 36)).drew fun x w' =>
    x = .returned (.int .i64 (firstOf [e0, e1, e2])) ∧ (W.alloc (.cells #[.int .i64 e0, .int .i64 e1, .int .i64 e2] 36)).drew = w' := first_any _ 3 [e0, e1, e2] _ (Sl.new W (iv [e0, e1, e2]) _ n hn).drew (by simp)
end

/-- e unless b -/
def unlessE (b : Bool) (e : Int) : Int := if b then 0 else e
theorem unless_any (b : Bool) (e : Int) (w : World) : Calls Try.prog 28 #[.bool b, .int .i64 e] w fun x w' => x = .returned (.int .i64 (unlessE b e)) ∧ w = w' := by
  cases b <;> (go_enter Try.func28, Try.ntmps28; go_wp2; go_ret; exact ⟨rfl, rfl⟩)
theorem within_sy (n lo hi : Int) (w : World) : Calls Try.prog 41 #[.int .i64 n, .int .i64 lo, .int .i64 hi] w fun x w' => x = .returned (.bool (withinB n lo hi)) ∧ w = w' := by
  unfold withinB
  by_cases h : lo ≤ n
  · go_enter Try.func41, Try.ntmps41; go_wp2; go_ret; exact ⟨by simp [h], rfl⟩
  · go_enter Try.func41, Try.ntmps41; go_wp2; go_ret; exact ⟨by rw [decide_eq_false (by omega : ¬ lo ≤ n)]; rfl, rfl⟩
end Go.Proofs.Ytppkibgemacdbaa

namespace Go.Proofs.Ytppkibgemacdbaa

/-! the delay that is proved: the plain law -/
/-- a quotient rounded up -/
def ceilI (n b : Int) : Int := (n + b - 1) / b
theorem ceil_mul {n b : Int} (hb : 0 < b) : n ≤ ceilI n b * b := by
  unfold ceilI
  have h1 := Int.mul_ediv_add_emod (n + b - 1) b
  have h2 := Int.emod_lt_of_pos (n + b - 1) hb
  rw [Int.mul_comm] at h1
  omega
theorem ceil_less {n b : Int} (hb : 0 < b) : (ceilI n b - 1) * b < n := by
  unfold ceilI
  have h1 := Int.mul_ediv_add_emod (n + b - 1) b
  have h2 := Int.emod_nonneg (n + b - 1) (Int.ne_of_gt hb)
  rw [Int.mul_comm] at h1
  rw [Int.sub_mul, Int.one_mul]
  omega
theorem ceil_le {n b m : Int} (hb : 0 < b) (h : n ≤ m * b) : ceilI n b ≤ m := by
  have h1 := ceil_less (n := n) hb
  have h2 : (ceilI n b - 1) * b < m * b := by omega
  have h3 := Int.lt_of_mul_lt_mul_right h2 (by omega)
  omega
theorem ceil_pos {n b : Int} (hb : 0 < b) (hn : 0 < n) : 1 ≤ ceilI n b := by
  have h1 := ceil_mul (n := n) hb
  have h2 : 0 * b < ceilI n b * b := by omega
  have h3 := Int.lt_of_mul_lt_mul_right h2 (by omega)
  omega
theorem ceil_nn {n b : Int} (hb : 0 < b) (hn : 0 ≤ n) : 0 ≤ ceilI n b := by
  unfold ceilI
  exact Int.ediv_nonneg (by omega) (by omega)
theorem ceil_zero {b : Int} (hb : 0 < b) : ceilI 0 b = 0 := by
  have h1 := ceil_le (n := 0) (m := 0) hb (by omega)
  have h2 := ceil_nn (n := 0) hb (by omega)
  omega
theorem ceil_bd {n b : Int} (hb : 0 < b) (hn : 0 ≤ n) : ceilI n b ≤ n := ceil_le hb (by
  have := Int.mul_le_mul_of_nonneg_left (show 1 ≤ b by omega) hn
  omega)
/-- the blocks that a bearer needs -/
def needB (ra bu de tb : Int) : Int := ceilI (max ra (ceilI bu de)) tb
theorem need_rate {ra bu de tb : Int} (ht : 0 < tb) : ra ≤ needB ra bu de tb * tb := by
  have := ceil_mul (n := max ra (ceilI bu de)) ht
  unfold needB
  omega
theorem need_delay {ra bu de tb : Int} (ht : 0 < tb) (hd : 0 < de) : bu ≤ de * (needB ra bu de tb * tb) := by
  have h1 := ceil_mul (n := max ra (ceilI bu de)) ht
  have h2 := ceil_mul (n := bu) hd
  have h3 : ceilI bu de ≤ needB ra bu de tb * tb := by unfold needB; omega
  have h4 := Int.mul_le_mul_of_nonneg_left h3 (show 0 ≤ de by omega)
  rw [Int.mul_comm] at h2
  omega
theorem need_pos {ra bu de tb : Int} (ht : 0 < tb) (hd : 0 < de) (hb : 0 < bu) : 1 ≤ needB ra bu de tb := by
  have := ceil_pos (n := bu) hd hb
  exact ceil_pos ht (by omega)
/-- the delay that the needed blocks prove -/
def delayD (ra bu de tb : Int) : Int := ceilI bu (needB ra bu de tb * tb)
theorem bits_pos {ra bu de tb : Int} (ht : 0 < tb) (hd : 0 < de) (hb : 0 < bu) : 0 < needB ra bu de tb * tb := Int.mul_pos (by have := need_pos (ra := ra) ht hd hb; omega) ht
theorem delay_in {ra bu de tb : Int} (ht : 0 < tb) (hd : 0 < de) (hb : 0 < bu) : 1 ≤ delayD ra bu de tb ∧ delayD ra bu de tb ≤ de :=
  ⟨ceil_pos (bits_pos ht hd hb) hb, ceil_le (bits_pos ht hd hb) (need_delay ht hd)⟩
/-- what waits behind t slots -/
def waitsAt (bu bits : Int) (t : Nat) : Int := max 0 (bu - (t : Int) * bits)
/-- what a slot sends, by the program's reckoning -/
theorem sends {w nb tb : Int} (ht : 0 < tb) (_hw : 0 ≤ w) (_hn : 0 ≤ nb) : min w (min nb (ceilI w tb) * tb) = min w (nb * tb) := by
  have h1 := ceil_mul (n := w) ht
  rcases Int.le_total nb (ceilI w tb) with h | h
  · rw [show min nb (ceilI w tb) = nb by omega]
  · rw [show min nb (ceilI w tb) = ceilI w tb by omega]
    have h2 := Int.mul_le_mul_of_nonneg_right h (show 0 ≤ tb by omega)
    omega
theorem waits_succ {bu bits : Int} (hb : 0 ≤ bits) (t : Nat) : waitsAt bu bits t - min (waitsAt bu bits t) bits = waitsAt bu bits (t + 1) := by
  unfold waitsAt
  have : ((t + 1 : Nat) : Int) * bits = (t : Int) * bits + bits := by rw [Int.natCast_add, Int.add_mul]; simp
  rw [this]
  omega
theorem waits_bd {bu bits : Int} (h0 : 0 ≤ bu) (hb : 0 ≤ bits) (t : Nat) : 0 ≤ waitsAt bu bits t ∧ waitsAt bu bits t ≤ bu := by
  unfold waitsAt
  have := Int.mul_nonneg (show (0 : Int) ≤ (t : Int) by omega) hb
  omega
theorem waits_end {ra bu de tb : Int} (ht : 0 < tb) (hd : 0 < de) (hb : 0 < bu) {d : Nat} (h : (d : Int) = delayD ra bu de tb) : waitsAt bu (needB ra bu de tb * tb) d = 0 := by
  have h1 := ceil_mul (n := bu) (bits_pos (ra := ra) ht hd hb)
  unfold waitsAt
  rw [h]
  unfold delayD
  omega
theorem waits_less {ra bu de tb : Int} (ht : 0 < tb) (hd : 0 < de) (hb : 0 < bu) {d : Nat} (h : ((d + 1 : Nat) : Int) = delayD ra bu de tb) : 0 < waitsAt bu (needB ra bu de tb * tb) d := by
  have h1 := ceil_less (n := bu) (bits_pos (ra := ra) ht hd hb)
  unfold waitsAt
  unfold delayD at h
  rw [show (d : Int) = ceilI bu (needB ra bu de tb * tb) - 1 by omega]
  omega
end Go.Proofs.Ytppkibgemacdbaa

namespace Go.Proofs.Ytppkibgemacdbaa
open Go.RowKit Go.WideShapes Go.ChangeShapes

/-! sites: reference and program -/
/-- a right site -/
structure OkS (B C P : Int) (T : List Int) : Prop where
  b : 1 ≤ B ∧ B ≤ 20
  c : 1 ≤ C ∧ C ≤ 8
  p : 0 ≤ P ∧ P ≤ 100000
  pos : 0 < T.length
  few : T.length ≤ 16
  in_ : ∀ i (h : i < T.length), 0 ≤ T[i] ∧ T[i] ≤ 1000
  asc : ∀ i (h : i + 1 < T.length), T[i] ≤ T[i + 1]

set_option maxRecDepth 100000 in
set_option maxHeartbeats 4000000 in
theorem siteErr_ref (B C P : Int) (A : Option Addr) (c n : Nat) (T : List Int) (w : World) (hn : T.length = n) (hs : Sl w A (iv T)) (hl : n ≤ 1000000) :
    Calls Try.prog 7 #[.agg #[.int .i64 B, .int .i64 C, .int .i64 P, .slice A n c]] w fun e w' => ∃ v : Int, e = .returned (.int .i64 v) ∧ (v = 0 → OkS B C P T) ∧ Below w.heap.size w w' := by
  have HS := hide hs; clear hs
  have HN := hide hn; clear hn
  have HB0 := hide (show Below w.heap.size w (w.alloc (.cells #[.int .i64 B, .int .i64 C, .int .i64 P, .slice A n c] 24)) from (Below.refl _ _).alloc (Nat.le_refl _) _)
  have HX0 := hide (Blk.new w 24 #[.int .i64 B, .int .i64 C, .int .i64 P, .slice A n c])
  cases h1 : withinB B 1 20
  · have H1 := hide h1; clear h1
    go_enter Try.func7, Try.ntmps7
    go_wp2_with (go_at_call 8; go_must (refine (within_base _ _ _ _).mono ?_; rintro e w' ⟨rfl, rfl⟩; rw [H1.out]))
    go_ret
    exact ⟨2, rfl, fun h => absurd h (by decide), HB0.out⟩
  cases h2 : withinB C 1 8
  · have H1 := hide h1; clear h1
    have H2 := hide h2; clear h2
    go_enter Try.func7, Try.ntmps7
    go_wp2_with (go_at_call 8; go_must (refine (within_base _ _ _ _).mono ?_; rintro e w' ⟨rfl, rfl⟩; (first | rw [H1.out] | rw [H2.out])))
    go_ret
    exact ⟨2, rfl, fun h => absurd h (by decide), HB0.out⟩
  cases h3 : withinB P 0 100000
  · have H1 := hide h1; clear h1
    have H2 := hide h2; clear h2
    have H3 := hide h3; clear h3
    go_enter Try.func7, Try.ntmps7
    go_wp2_with (go_at_call 8; go_must (refine (within_base _ _ _ _).mono ?_; rintro e w' ⟨rfl, rfl⟩; (first | rw [H1.out] | rw [H2.out] | rw [H3.out])))
    go_ret
    exact ⟨2, rfl, fun h => absurd h (by decide), HB0.out⟩
  have H1 := hide h1
  have H2 := hide h2
  have H3 := hide h3
  have HO := hide (show (1 ≤ B ∧ B ≤ 20) ∧ (1 ≤ C ∧ C ≤ 8) ∧ (0 ≤ P ∧ P ≤ 100000) by simp [withinB] at h1 h2 h3; exact ⟨h1, h2, h3⟩)
  clear h1 h2 h3
  by_cases hn0 : n = 0
  · have hz : ((n : Int) == 0) = true := by simp [hn0]
    clear hn0
    go_enter Try.func7, Try.ntmps7
    go_wp2_with (go_at_call 8; go_must (refine (within_base _ _ _ _).mono ?_; rintro e w' ⟨rfl, rfl⟩; (first | rw [H1.out] | rw [H2.out] | rw [H3.out])))
    go_ret
    exact ⟨10, rfl, fun h => absurd h (by decide), HB0.out⟩
  have hz : ((n : Int) == 0) = false := by rw [beq_eq_false_iff_ne]; omega
  have HN0 := hide hn0; clear hn0
  by_cases hn16 : 16 < n
  · have hg : (16 : Int) < (n : Int) := by omega
    go_enter Try.func7, Try.ntmps7
    go_wp2_with (go_at_call 8; go_must (refine (within_base _ _ _ _).mono ?_; rintro e w' ⟨rfl, rfl⟩; (first | rw [H1.out] | rw [H2.out] | rw [H3.out])))
    go_ret
    exact ⟨8, rfl, fun h => absurd h (by decide), HB0.out⟩
  have hg : ¬ (16 : Int) < (n : Int) := by omega
  go_enter Try.func7, Try.ntmps7
  go_wp2_with (go_at_call 8; go_must (refine (within_base _ _ _ _).mono ?_; rintro e w' ⟨rfl, rfl⟩; (first | rw [H1.out] | rw [H2.out] | rw [H3.out])))
  go_loopw [3] (fun i wr => ∃ k : Nat, k ≤ n ∧ i = .int .i64 k ∧ (∀ j (h : j < T.length), j < k → (0 ≤ T[j] ∧ T[j] ≤ 1000) ∧ ∀ (h' : 0 < j), T[j - 1] ≤ T[j]) ∧ Blk wr w.heap.size 24 #[.int .i64 B, .int .i64 C, .int .i64 P, .slice A n c] ∧ Below w.heap.size w wr) (fun i _ => n - (intOf i).toNat)
  case atStart => exact ⟨0, Nat.zero_le _, rfl, fun j _ hj => absurd hj (by omega), HX0.out, HB0.out⟩
  case round =>
    obtain ⟨k, hk, rfl, hpre, hbx, hbel⟩ := hrel
    have HPRE := hide hpre
    have HBX := hide hbx
    have HBE := hide hbel
    have z0 : wr.cell? ⟨w.heap.size, 3, none⟩ = some (.slice A n c) := hbx.cell 3
    clear hpre hbx hbel
    by_cases hlt : k < n
    · have hkT : k < T.length := by rw [HN.out]; exact hlt
      obtain ⟨b, off, rfl, d0⟩ := HS.out.int hkT
      have d1 : wr.cell? ⟨b, off + k, none⟩ = some (.int .i64 T[k]) := (HBE.out.cell (lt_of_cell d0)).trans d0
      have hki : (k : Int) < (n : Int) := by omega
      obtain ⟨x, hx⟩ : ∃ x, T[k] = x := ⟨_, rfl⟩
      rw [hx] at d1
      cases h4 : withinB x 0 1000
      · have H4 := hide h4; clear h4 hx d0
        go_wp2_with (go_at_call 8; go_must (refine (within_base _ _ _ _).mono ?_; rintro e w' ⟨rfl, rfl⟩; rw [H4.out]))
        go_ret
        exact ⟨2, rfl, fun h => absurd h (by decide), HBE.out⟩
      · have H4 := hide h4
        have HX := hide hx
        have HR := hide (show 0 ≤ x ∧ x ≤ 1000 by simpa [withinB] using h4)
        clear h4 hx d0
        rcases (by cases k; exact .inl rfl; exact .inr ⟨_, rfl⟩ : k = 0 ∨ ∃ j, k = j + 1) with hk0 | ⟨j, hj⟩
        · have hd : decide (0 < k) = false := decide_eq_false (by omega)
          have HK0 := hide hk0; clear hk0
          go_wp2_with (go_at_call 8; go_must (refine (within_base _ _ _ _).mono ?_; rintro e w' ⟨rfl, rfl⟩; rw [H4.out]))
          go_quiet (fail)
          go_wp2
          go_roundw
          case rel => exact ⟨k + 1, by omega, by go_num, fun j h hj => by
            have hk0 := HK0.out
            obtain rfl : j = k := by omega
            exact ⟨by rw [HX.out]; exact HR.out, fun h' => absurd h' (by omega)⟩, HBX.out.drewN _, below_drewN HBE.out _⟩
          case measure => simp [intOf]; omega
        · have hjT : j < T.length := by rw [HN.out]; omega
          obtain ⟨b', off', e, d2⟩ := HS.out.int hjT
          injection e with e
          injection e with e1 e2
          subst e1 e2
          have d3 : wr.cell? ⟨b, off + j, none⟩ = some (.int .i64 T[j]) := (HBE.out.cell (lt_of_cell d2)).trans d2
          obtain ⟨y, hy⟩ : ∃ y, T[j] = y := ⟨_, rfl⟩
          rw [hy] at d3
          have HY := hide hy
          have HJ := hide hj
          have hd : decide (0 < k) = true := decide_eq_true (by omega)
          have e1 : IntKind.i64.wrap ((k : Int) - 1) = (j : Int) := by rw [IntWalk.i64_in _ (by omega)]; omega
          have hji : (j : Int) < (n : Int) := by omega
          clear hy hj d2
          by_cases hxy : x < y
          · have hd2 : decide (x < y) = true := decide_eq_true hxy
            go_wp2_with (go_at_call 8; go_must (refine (within_base _ _ _ _).mono ?_; rintro e w' ⟨rfl, rfl⟩; rw [H4.out]))
            go_quiet (fail)
            go_wp2
            go_ret
            exact ⟨9, rfl, fun h => absurd h (by decide), below_drewN HBE.out _⟩
          · have hd2 : decide (x < y) = false := decide_eq_false hxy
            go_wp2_with (go_at_call 8; go_must (refine (within_base _ _ _ _).mono ?_; rintro e w' ⟨rfl, rfl⟩; rw [H4.out]))
            go_quiet (fail)
            go_wp2
            go_roundw
            case rel => exact ⟨k + 1, by omega, by go_num, fun i h hi => by
              by_cases q : i < k
              · exact HPRE.out i h q
              · obtain rfl : i = k := by omega
                have hj := HJ.out
                subst hj
                exact ⟨by rw [HX.out]; exact HR.out, fun h' => by
                  show T[j] ≤ T[j + 1]
                  rw [HX.out, HY.out]; omega⟩, HBX.out.drewN _, below_drewN HBE.out _⟩
            case measure => simp [intOf]; omega
    · have HF := hide (show OkS B C P T from ⟨HO.out.1, HO.out.2.1, HO.out.2.2, by have := HN.out; have := HN0.out; omega, by have := HN.out; omega, fun i h => (HPRE.out i h (by have := HN.out; omega)).1, fun i h => (HPRE.out (i + 1) h (by have := HN.out; omega)).2 (by omega)⟩)
      go_wp2
      go_ret
      exact ⟨0, rfl, fun _ => HF.out, HBE.out⟩
end Go.Proofs.Ytppkibgemacdbaa

namespace Go.Proofs.Ytppkibgemacdbaa
open Go.RowKit Go.WideShapes Go.ChangeShapes

/-! names -/
abbrev Bs := List UInt8
def strV (l : Bs) : Value := .string ⟨l.toArray⟩
theorem str_size (l : Bs) : (ByteArray.mk l.toArray).size = l.length := by show l.toArray.size = _; simp
theorem len_str (l : Bs) (t : TypeId) (W : World) : (Builtin.len_ #[9] t #[strV l]).run Try.prog W = .ok (.int .i64 (l.length : Int)) W := by
  unfold strV
  rw [run_len_string _ _ _ _ Try.underlying9, str_size]; rfl
theorem idx_str (l : Bs) (k : Nat) (hk : k < l.length) (W : World) : (Instr.index 9 (strV l) (.int .i64 (k : Int))).run Try.prog W = .ok (.int .u8 (l[k].toNat : Int)) W := by
  unfold strV
  rw [run_index_string _ _ _ _ _ Try.underlying9, dif_pos ⟨by omega, by rw [str_size]; omega⟩]
  rfl
theorem eq_str (l m : Bs) (W : World) : (binOp .eql 9 (strV l) (strV m)).run Try.prog W = .ok (.bool (l == m)) W := by
  unfold strV
  rw [binOp_string_eql, ByteArray.toList_mk, ByteArray.toList_mk]; rfl
theorem ne_str (l m : Bs) (W : World) : (binOp .neq 9 (strV l) (strV m)).run Try.prog W = .ok (.bool (!(l == m))) W := by
  unfold strV
  rw [binOp_string_neq, ByteArray.toList_mk, ByteArray.toList_mk]; rfl
theorem eqG_str (op : BinOp) (x y : Operand) (l : Bs) (v : Value) : eqGuard op 9 x y (strV l) v = pure () := by cases op <;> rfl
/-- a byte that may stand at a place of a name -/
def nmC (i : Nat) (x : Int) : Bool := (decide (97 ≤ x) && decide (x ≤ 122)) || (decide (65 ≤ x) && decide (x ≤ 90)) || (decide (i ≠ 0) && (decide (x = 45) || (decide (48 ≤ x) && decide (x ≤ 57))))
/-- a right name -/
structure OkN (s : Bs) : Prop where
  pos : 0 < s.length
  few : s.length ≤ 12
  in_ : ∀ k (h : k < s.length), nmC k (s[k].toNat : Int) = true
theorem nm_cases (x : Int) : (97 ≤ x ∧ x ≤ 122) ∨ (¬ 97 ≤ x ∧ 65 ≤ x ∧ x ≤ 90) ∨ (¬ 97 ≤ x ∧ ¬ 65 ≤ x ∧ 57 < x ∧ ¬ x < 48 ∧ x ≠ 45) ∨ (¬ 97 ≤ x ∧ ¬ 65 ≤ x ∧ ¬ 57 < x ∧ ¬ x < 48 ∧ x ≠ 45) ∨ (¬ 97 ≤ x ∧ ¬ 65 ≤ x ∧ x < 48 ∧ x ≠ 45) ∨ (¬ 97 ≤ x ∧ ¬ 65 ≤ x ∧ x = 45) ∨ (¬ 97 ≤ x ∧ 65 ≤ x ∧ ¬ x ≤ 90 ∧ 57 < x ∧ ¬ x < 48 ∧ x ≠ 45) ∨ (97 ≤ x ∧ ¬ x ≤ 122 ∧ 65 ≤ x ∧ ¬ x ≤ 90 ∧ 57 < x ∧ ¬ x < 48 ∧ x ≠ 45) := by omega
def NameR (s : Bs) (w : World) (e : Ending) (w' : World) : Prop := ∃ v : Bool, e = .returned (.bool v) ∧ (v = true → OkN s) ∧ w = w'
set_option maxRecDepth 100000 in
set_option maxHeartbeats 4000000 in
theorem isName_base (s : Bs) (w : World) (hl : s.length ≤ 1000000) :
    Calls Try.prog 23 #[strV s] w (NameR s w) := by
  have hlen := fun t W => len_str s t W
  by_cases h0 : s.length < 1
  · have g0 : (s.length : Int) < 1 := by omega
    clear h0
    go_enter Try.func23, Try.ntmps23
    go_wp2
    go_ret
    exact ⟨false, rfl, fun h => absurd h (by decide), rfl⟩
  have g0 : ¬ (s.length : Int) < 1 := by omega
  by_cases h12 : 12 < s.length
  · have g1 : (12 : Int) < (s.length : Int) := by omega
    clear h12 h0
    go_enter Try.func23, Try.ntmps23
    go_wp2
    go_ret
    exact ⟨false, rfl, fun h => absurd h (by decide), rfl⟩
  have g1 : ¬ (12 : Int) < (s.length : Int) := by omega
  have HN := hide (show 0 < s.length ∧ s.length ≤ 12 by omega)
  clear h0 h12
  go_enter Try.func23, Try.ntmps23
  go_wp2
  go_loopw [3] (fun i wr => ∃ k : Nat, k ≤ s.length ∧ i = .int .i64 k ∧ (∀ j (h : j < s.length), j < k → nmC j (s[j].toNat : Int) = true) ∧ w = wr) (fun i _ => s.length - (intOf i).toNat)
  case atStart => exact ⟨0, Nat.zero_le _, rfl, fun j _ hj => absurd hj (by omega), rfl⟩
  case round =>
    obtain ⟨k, hk, rfl, hpre, rfl⟩ := hrel
    have HPRE := hide hpre
    clear hpre
    by_cases hlt : k < s.length
    · have hidx := fun W => idx_str s k hlt W
      obtain ⟨x, hx⟩ : ∃ x : Int, (s[k].toNat : Int) = x := ⟨_, rfl⟩
      rw [hx] at hidx
      have HX := hide hx
      have hki : (k : Int) < (s.length : Int) := by omega
      have hnext := hide (fun (hc : nmC k x = true) j (h : j < s.length) (hj : j < k + 1) => show nmC j (s[j].toNat : Int) = true from by
        by_cases q : j < k
        · exact HPRE.out j h q
        · obtain rfl : j = k := by omega
          rw [hx]; exact hc)
      clear hx
      have hkk : k = 0 ∨ k ≠ 0 := by omega
      rcases hkk with hk0 | hk0
      · have hkz : ((k : Int) == 0) = true := by simp [hk0]
        have HK := hide hk0; clear hk0
        rcases nm_cases x with ⟨c1, c2⟩ | ⟨c1, c2, c3⟩ | ⟨c1, c2, c3, c4, c5⟩ | ⟨c1, c2, c3, c4, c5⟩ | ⟨c1, c2, c3, c4⟩ | ⟨c1, c2, c3⟩ | ⟨c1, c2, c3, c4, c5, c6⟩ | ⟨c1, c2, c3, c4, c5, c6, c7⟩
        all_goals
          go_wp2
          first
            | (go_ret; exact ⟨false, rfl, fun h => absurd h (by decide), rfl⟩)
            | (go_roundw
               case rel => exact ⟨k + 1, by omega, by go_num, hnext.out (by unfold nmC; simp; omega), by first | rfl | trivial⟩
               case measure => simp [intOf]; omega)
      · have hkz : ((k : Int) == 0) = false := by rw [beq_eq_false_iff_ne]; omega
        have HK := hide hk0; clear hk0
        rcases nm_cases x with ⟨c1, c2⟩ | ⟨c1, c2, c3⟩ | ⟨c1, c2, c3, c4, c5⟩ | ⟨c1, c2, c3, c4, c5⟩ | ⟨c1, c2, c3, c4⟩ | ⟨c1, c2, c3⟩ | ⟨c1, c2, c3, c4, c5, c6⟩ | ⟨c1, c2, c3, c4, c5, c6, c7⟩
        all_goals
          go_wp2
          first
            | (go_ret; exact ⟨false, rfl, fun h => absurd h (by decide), rfl⟩)
            | (go_roundw
               case rel => exact ⟨k + 1, by omega, by go_num, hnext.out (by have := HK.out; unfold nmC; simp; omega), by first | rfl | trivial⟩
               case measure => simp [intOf]; omega)
    · have HF := hide (show OkN s from ⟨HN.out.1, HN.out.2, fun j h => HPRE.out j h (by omega)⟩)
      go_wp2
      go_ret
      exact ⟨true, rfl, fun _ => HF.out, rfl⟩
end Go.Proofs.Ytppkibgemacdbaa

