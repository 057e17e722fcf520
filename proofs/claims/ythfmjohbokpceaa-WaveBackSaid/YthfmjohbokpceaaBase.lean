import Derived.Test.YthfmjohbokpceaaProg
import Derived.Test.YthfmjohbokpceaaMem
import Derived.BigQuiet
import Derived.Deep.QuietTactic
import Derived.Deep.RegionHeld3
namespace Go.Proofs.Ythfmjohbokpceaa
open Go.RowKit Go.WideShapes Go.ChangeShapes

theorem int_info : (Try.prog.info? 3).map (fun i => (i.zero, i.size, i.bytes)) = some (some (.int .i64 0), 1, 8) := by kernel_rfl

/-- a fresh row of ints -/
abbrev OwnI (w : World) (base : Nat) (v : Value) (xs : List Int) : Prop := w.ownsRow base 3 1 v xs.length (iv xs)
/-- 'returns this slice of ints, in new memory' -/
def RetI (w : World) (xs : List Int) (e : Ending) (w' : World) : Prop :=
  ∃ A c, e = .returned (.slice A xs.length c) ∧ OwnI w' w.heap.size (.slice A xs.length c) xs ∧ Below w.heap.size w w'

def withinB (n lo hi : Int) : Bool := decide (lo ≤ n) && decide (n ≤ hi)
theorem within_base (n lo hi : Int) (w : World) : Calls Try.prog 24 #[.int .i64 n, .int .i64 lo, .int .i64 hi] w fun x w' => x = .returned (.bool (withinB n lo hi)) ∧ w = w' := by
  unfold withinB
  by_cases h : lo ≤ n
  · go_enter Try.func24, Try.ntmps24; go_wp2; go_ret; exact ⟨by simp [h], rfl⟩
  · go_enter Try.func24, Try.ntmps24; go_wp2; go_ret; exact ⟨by rw [decide_eq_false (by omega : ¬ lo ≤ n)]; rfl, rfl⟩

theorem mod_base (n by_ : Int) (h : 0 < by_) (hb : by_ ≤ 9223372036854775807) (hn : -9223372036854775808 ≤ n) (hn' : n ≤ 9223372036854775807) (w : World) :
    Calls Try.prog 131 #[.int .i64 n, .int .i64 by_] w fun x w' => x = .returned (.int .i64 (n % by_)) ∧ w = w' := by
  have hz : by_ ≠ 0 := by omega
  have h1 := Int.emod_nonneg n hz
  have h2 := Int.emod_lt_of_pos n h
  by_cases h0 : 0 ≤ n
  · have h3 : 0 ≤ n % by_ := h1
    go_enter Try.func131, Try.ntmps131
    go_wp2
    go_ret
    exact ⟨rfl, rfl⟩
  · have hlt : n < 0 := by omega
    have e1 : n.tmod by_ = if n % by_ = 0 then 0 else n % by_ - by_ := by
      rw [Int.tmod_eq_emod]
      have hd : by_ ∣ n ↔ n % by_ = 0 := Int.dvd_iff_emod_eq_zero
      simp only [h0, false_or, hd]
      split
      · rename_i hz'; simp [hz']
      · rw [Int.natAbs_of_nonneg (by omega : 0 ≤ by_)]
    by_cases hz' : n % by_ = 0
    · rw [if_pos hz'] at e1
      have t1 : ¬ n.tmod by_ < 0 := by omega
      have t2 : -9223372036854775808 ≤ n.tmod by_ := by omega
      have t3 : n.tmod by_ ≤ 9223372036854775807 := by omega
      have E1 := Lib.hid e1; clear e1
      have HZ := Lib.hid hz'; clear hz'
      go_enter Try.func131, Try.ntmps131
      go_wp2
      go_ret
      exact ⟨by rw [HZ.out]; show Ending.returned (Value.int _ (n.tmod by_)) = _; rw [E1.out], rfl⟩
    · rw [if_neg hz'] at e1
      have t1 : n.tmod by_ < 0 := by omega
      have t2 : -9223372036854775808 ≤ n.tmod by_ + by_ := by omega
      have t3 : n.tmod by_ + by_ ≤ 9223372036854775807 := by omega
      have E1 := Lib.hid e1; clear e1
      go_enter Try.func131, Try.ntmps131
      go_wp2
      go_ret
      exact ⟨by show Ending.returned (Value.int _ (n.tmod by_ + by_)) = _; rw [E1.out]; congr 2; omega, rfl⟩

theorem size_base (n : Int) (hn : -9223372036854775807 ≤ n) (hn' : n ≤ 9223372036854775807) (w : World) :
    Calls Try.prog 77 #[.int .i64 n] w fun x w' => x = .returned (.int .i64 (n.natAbs : Int)) ∧ w = w' := by
  by_cases h0 : 0 ≤ n
  · have e : (n.natAbs : Int) = n := by omega
    rw [e]
    go_enter Try.func77, Try.ntmps77
    go_wp2
    go_ret
    exact ⟨by first | rfl | (simp; done) | (simp; omega), rfl⟩
  · have e : (n.natAbs : Int) = -n := by omega
    rw [e]
    go_enter Try.func77, Try.ntmps77
    go_wp2
    go_ret
    exact ⟨by first | rfl | (simp; done) | (simp; omega), rfl⟩

theorem copyInts (A : Option Addr) (c : Nat) (l : List Int) (w : World) (hs : Sl w A (iv l)) (hl : l.length ≤ 1000000) :
    Calls Try.prog 42 #[.slice A l.length c] w (RetI w l) := by
  obtain ⟨i0, hi0, hz0, hz1, hz2⟩ := info_parts int_info
  have hr := (hs.alloc (.cells #[] 3)).reads
  rw [iv_length] at hr
  have ho := World.ownsRow_made (e := 3) (size := 1) w #[] 0 (Nat.le_refl _) (by simp [maxLen]) rfl
  go_enter Try.func42, Try.ntmps42
  go_wp2_with (at_builtin
               refine wpList_append_any _ rfl (.tmp 3) (.tmp 4) _ rfl w.heap.size 3 i0 _ 1 8 Try.underlying24 hi0 hz0 hz1 hz2 rfl (by omega) _ 0 [] rfl
                 ho _ A l.length c (iv l) rfl hr (iv_one l) (by simp only [maxLen]; omega) (by omega) (by simp) ?_
               intro v1 w1 hown1 hg1 hat1)
  go_ret
  simp only [Nat.zero_add, List.nil_append] at hown1
  obtain ⟨A', c', rfl⟩ := own_form hown1
  refine ⟨A', c', rfl, hown1, ((Below.refl _ w).alloc (Nat.le_refl _) _).grown hg1 (by simp) (fun k hk => ?_)⟩
  cases hk
  exact Nat.le_refl _

def intsEq (a b : List Int) : Bool := decide (a = b)
theorem ints_base (A B : Option Addr) (c d : Nat) (a b : List Int) (w : World) (ha : Sl w A (iv a)) (hb : Sl w B (iv b)) (hl : a.length ≤ 1000000) (hl' : b.length ≤ 1000000) :
    Calls Try.prog 44 #[.slice A a.length c, .slice B b.length d] w fun x w' => x = .returned (.bool (intsEq a b)) ∧ ∃ n, w' = w.drewN n := by
  have HA := hide ha; clear ha
  have HB := hide hb; clear hb
  by_cases hlen : a.length = b.length
  · have hL : ((a.length : Int) != (b.length : Int)) = false := by simp [hlen]
    have h1 : b.length ≤ a.length := by omega
    have h2 : a.length ≤ b.length := by omega
    have HL := hide hlen; clear hlen
    go_enter Try.func44, Try.ntmps44
    go_wp2
    go_loopw [5] (fun i wr => ∃ k : Nat, k ≤ a.length ∧ i = .int .i64 k ∧ a.take k = b.take k ∧ ∃ n, wr = w.drewN n) (fun i _ => a.length - (intOf i).toNat)
    case atStart => exact ⟨0, Nat.zero_le _, rfl, by simp, 0, rfl⟩
    case round =>
      obtain ⟨k, hk, rfl, he, n, rfl⟩ := hrel
      have HE := hide he; clear he
      by_cases hlt : k < a.length
      · obtain ⟨b1, o1, rfl, c1⟩ := HA.out.int hlt
        obtain ⟨b2, o2, rfl, c2⟩ := HB.out.int (by omega : k < b.length)
        have d1 : (w.drewN n).cell? ⟨b1, o1 + k, none⟩ = some (.int .i64 a[k]) := c1
        have d2 : (w.drewN n).cell? ⟨b2, o2 + k, none⟩ = some (.int .i64 (b[k]'(by omega))) := c2
        have g1 : (0 : Int) ≤ (k : Int) := by omega
        have g2 : (k : Int) < (a.length : Int) := by omega
        have g3 : (k : Int) < (b.length : Int) := by omega
        go_wp2
        go_quiet (fail)
        by_cases hx : a[k] = b[k]'(by omega)
        · have hx' : (a[k] != b[k]'(by omega)) = false := by simp [hx]
          have HX := hide hx; clear hx
          go_wp2
          go_roundw
          case rel => exact ⟨k + 1, by omega, by go_num, by rw [List.take_succ_eq_append_getElem hlt, List.take_succ_eq_append_getElem (by omega), HE.out, HX.out], by first | exact drewN2 _ _ _ | exact ⟨_, rfl⟩⟩
          case measure => simp [intOf]; omega
        · have hx' : (a[k] != b[k]'(by omega)) = true := by simp [hx]
          have hne : a ≠ b := by rintro rfl; exact hx rfl
          have HX := hide hx; clear hx
          have HN := hide hne; clear hne
          go_wp2
          go_ret
          exact ⟨by rw [intsEq, decide_eq_false HN.out]; rfl, by first | exact drewN2 _ _ _ | exact ⟨_, rfl⟩⟩
      · go_wp2
        go_ret
        obtain rfl : k = a.length := by omega
        have h3 := HE.out
        rw [List.take_length, HL.out, List.take_length] at h3
        exact ⟨by rw [intsEq, decide_eq_true h3]; rfl, _, rfl⟩
  · have hL : ((a.length : Int) != (b.length : Int)) = true := by simp; omega
    have hne : a ≠ b := by rintro rfl; exact hlen rfl
    have HN := hide hne; clear hne
    have HL := hide hlen; clear hlen
    go_enter Try.func44, Try.ntmps44
    go_wp2
    go_ret
    exact ⟨by rw [intsEq, decide_eq_false HN.out]; rfl, 0, rfl⟩
end Go.Proofs.Ythfmjohbokpceaa
