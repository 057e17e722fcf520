import Derived.Test.YtppkibgemacdbaaProg
import Derived.Test.YtppkibgemacdbaaMem
import Derived.BigQuiet
import Derived.Deep.QuietTactic
import Derived.Deep.RegionHeld3
namespace Go.Proofs.Ytppkibgemacdbaa
open Go.RowKit Go.WideShapes Go.ChangeShapes

theorem int_info : (Try.prog.info? 3).map (fun i => (i.zero, i.size, i.bytes)) = some (some (.int .i64 0), 1, 8) := by kernel_rfl

/-- a fresh row of ints -/
abbrev OwnI (w : World) (base : Nat) (v : Value) (xs : List Int) : Prop := w.ownsRow base 3 1 v xs.length (iv xs)
/-- 'returns this slice of ints, in new memory' -/
def RetI (w : World) (xs : List Int) (e : Ending) (w' : World) : Prop :=
  ∃ A c, e = .returned (.slice A xs.length c) ∧ OwnI w' w.heap.size (.slice A xs.length c) xs ∧ Below w.heap.size w w'

def withinB (n lo hi : Int) : Bool := decide (lo ≤ n) && decide (n ≤ hi)
theorem within_base (n lo hi : Int) (w : World) : Calls Try.prog 8 #[.int .i64 n, .int .i64 lo, .int .i64 hi] w fun x w' => x = .returned (.bool (withinB n lo hi)) ∧ w = w' := by
  unfold withinB
  by_cases h : lo ≤ n
  · go_enter Try.func8, Try.ntmps8; go_wp2; go_ret; exact ⟨by simp [h], rfl⟩
  · go_enter Try.func8, Try.ntmps8; go_wp2; go_ret; exact ⟨by rw [decide_eq_false (by omega : ¬ lo ≤ n)]; rfl, rfl⟩

theorem copyInts (A : Option Addr) (c : Nat) (l : List Int) (w : World) (hs : Sl w A (iv l)) (hl : l.length ≤ 1000000) :
    Calls Try.prog 34 #[.slice A l.length c] w (RetI w l) := by
  obtain ⟨i0, hi0, hz0, hz1, hz2⟩ := info_parts int_info
  have hr := (hs.alloc (.cells #[] 3)).reads
  rw [iv_length] at hr
  have ho := World.ownsRow_made (e := 3) (size := 1) w #[] 0 (Nat.le_refl _) (by simp [maxLen]) rfl
  go_enter Try.func34, Try.ntmps34
  go_wp2_with (at_builtin
               refine wpList_append_any _ rfl (.tmp 3) (.tmp 4) _ rfl w.heap.size 3 i0 _ 1 8 Try.underlying22 hi0 hz0 hz1 hz2 rfl (by omega) _ 0 [] rfl
                 ho _ A l.length c (iv l) rfl hr (iv_one l) (by simp only [maxLen]; omega) (by omega) (by simp) ?_
               intro v1 w1 hown1 hg1 hat1)
  go_ret
  simp only [Nat.zero_add, List.nil_append] at hown1
  obtain ⟨A', c', rfl⟩ := own_form hown1
  refine ⟨A', c', rfl, hown1, ((Below.refl _ w).alloc (Nat.le_refl _) _).grown hg1 (by simp) (fun k hk => ?_)⟩
  cases hk
  exact Nat.le_refl _

def intsEq (a b : List Int) : Bool := decide (a = b)
theorem ints_base (A B : Option Addr) (c d : Nat) (a b : List Int) (w : World) (ha : Sl w A (iv a)) (hb : Sl w B (iv b)) (hl : a.length ≤ 1000000) (hl' : b.length ≤ 1000000) :
    Calls Try.prog 45 #[.slice A a.length c, .slice B b.length d] w fun x w' => x = .returned (.bool (intsEq a b)) ∧ ∃ n, w' = w.drewN n := by
  have HA := hide ha; clear ha
  have HB := hide hb; clear hb
  by_cases hlen : a.length = b.length
  · have hL : ((a.length : Int) != (b.length : Int)) = false := by simp [hlen]
    have h1 : b.length ≤ a.length := by omega
    have h2 : a.length ≤ b.length := by omega
    have HL := hide hlen; clear hlen
    go_enter Try.func45, Try.ntmps45
    go_wp2
    go_loopw [5] (fun i wr => ∃ k : Nat, k ≤ a.length ∧ i = .int .i64 k ∧ a.take k = b.take k ∧ ∃ n, wr = w.drewN n) (fun i _ => a.length - (intOf i).toNat)
    case atStart => exact ⟨0, Nat.zero_le _, rfl, by simp, 0, rfl⟩
    case round =>
      obtain ⟨k, hk, rfl, he, n, rfl⟩ := hrel
      have HE := hide he; clear he
      by_cases hlt : k < a.length
      · obtain ⟨b1, o1, rfl, c1⟩ := HA.out.int hlt
        obtain ⟨b2, o2, rfl, c2⟩ := HB.out.int (by omega : k < b.length)
        have d1 : (w.drewN n).cell? ⟨b1, o1 + k, none⟩ = some (.int .i64 a[k]) := c1
        have d2 : (w.drewN n).cell? ⟨b2, o2 + k, none⟩ = some (.int .i64 (b[k]'(by omega))) := c2
        have g1 : (0 : Int) ≤ (k : Int) := by omega
        have g2 : (k : Int) < (a.length : Int) := by omega
        have g3 : (k : Int) < (b.length : Int) := by omega
        go_wp2
        go_quiet (fail)
        by_cases hx : a[k] = b[k]'(by omega)
        · have hx' : (a[k] != b[k]'(by omega)) = false := by simp [hx]
          have HX := hide hx; clear hx
          go_wp2
          go_roundw
          case rel => exact ⟨k + 1, by omega, by go_num, by rw [List.take_succ_eq_append_getElem hlt, List.take_succ_eq_append_getElem (by omega), HE.out, HX.out], by first | exact drewN2 _ _ _ | exact ⟨_, rfl⟩⟩
          case measure => simp [intOf]; omega
        · have hx' : (a[k] != b[k]'(by omega)) = true := by simp [hx]
          have hne : a ≠ b := by rintro rfl; exact hx rfl
          have HX := hide hx; clear hx
          have HN := hide hne; clear hne
          go_wp2
          go_ret
          exact ⟨by rw [intsEq, decide_eq_false HN.out]; rfl, by first | exact drewN2 _ _ _ | exact ⟨_, rfl⟩⟩
      · go_wp2
        go_ret
        obtain rfl : k = a.length := by omega
        have h3 := HE.out
        rw [List.take_length, HL.out, List.take_length] at h3
        exact ⟨by rw [intsEq, decide_eq_true h3]; rfl, _, rfl⟩
  · have hL : ((a.length : Int) != (b.length : Int)) = true := by simp; omega
    have hne : a ≠ b := by rintro rfl; exact hlen rfl
    have HN := hide hne; clear hne
    have HL := hide hlen; clear hlen
    go_enter Try.func45, Try.ntmps45
    go_wp2
    go_ret
    exact ⟨by rw [intsEq, decide_eq_false HN.out]; rfl, 0, rfl⟩
end Go.Proofs.Ytppkibgemacdbaa
