import Derived.Test.YthfmjohbokpceaaWideC
import Derived.Deep.QuietTactic
namespace Go.Proofs.Ythfmjohbokpceaa
open Go.RowKit Go.WideShapes Go.ChangeShapes

theorem drop_step {a b : List Int} {j : Nat} (ha : j < a.length) (hb : j < b.length) (h : a.drop (j + 1) = b.drop (j + 1)) (e : a[j] = b[j]) : a.drop j = b.drop j := by
  rw [List.drop_eq_getElem_cons ha, List.drop_eq_getElem_cons hb, h, e]

set_option maxHeartbeats 1000000 in
theorem cmpDigits_base (A B : Option Addr) (c c' : Nat) (a b : List Int) (w : World) (hs : Sl w A (iv a)) (hs' : Sl w B (iv b)) (hl : a.length ≤ 1000) (ha : digOk a) (hb : digOk b) (ta : Top a) (tb : Top b) :
    Calls Try.prog 191 #[.slice A a.length c, .slice B b.length c'] w fun e w' => e = .returned (.int .i64 (cmp3 (val a) (val b))) ∧ ∃ n, w' = w.drewN n := by
  have HS := hide hs; clear hs
  have HS' := hide hs'; clear hs'
  rcases Nat.lt_trichotomy a.length b.length with hlen | hlen | hlen
  · have h := len_lt ha hb tb hlen
    rw [show cmp3 (val a) (val b) = -1 by unfold cmp3; rw [if_pos h]]
    have hn : ((a.length : Int) != b.length) = true := by simp; omega
    clear h
    go_enter Try.func191, Try.ntmps191
    go_wp2
    go_ret
    exact ⟨rfl, 0, rfl⟩
  · have hn : ((a.length : Int) != b.length) = false := by simp [hlen]
    have hl1 : a.length ≤ b.length := by omega
    have hl2 : b.length ≤ a.length := by omega
    have HL := hide hlen; clear hlen
    have HDA := hide ha
    have HDB := hide hb
    clear ha hb ta tb
    go_enter Try.func191, Try.ntmps191
    go_wp2
    go_loopw [5] (fun i wr => ∃ k : Nat, k ≤ a.length ∧ i = .int .i64 ((k : Int) - 1) ∧ a.drop k = b.drop k ∧ ∃ n, wr = w.drewN n) (fun i _ => (intOf i + 1).toNat)
    case atStart => exact ⟨a.length, Nat.le_refl _, rfl, by rw [List.drop_length, HL.out, List.drop_length], 0, rfl⟩
    case round =>
      obtain ⟨k, hk, rfl, he, n, rfl⟩ := hrel
      have HE := hide he; clear he
      rcases k with _ | j
      · have hv := hide (show cmp3 (val a) (val b) = 0 by
          have := HE.out
          simp only [List.drop_zero] at this
          rw [this]; unfold cmp3; simp)
        go_wp2
        go_ret
        exact ⟨by rw [hv.out]; rfl, n, rfl⟩
      · obtain ⟨b1, o1, rfl, c1⟩ := HS.out.int (by omega : j < a.length)
        obtain ⟨b2, o2, rfl, c2⟩ := HS'.out.int (by omega : j < b.length)
        have d1 : w.cell? ⟨b1, o1 + j, none⟩ = some (.int .i64 a[j]) := c1
        have d2 : w.cell? ⟨b2, o2 + j, none⟩ = some (.int .i64 (b[j]'(by omega))) := c2
        clear c1 c2
        have hlt := hide (show a[j] < b[j]'(by omega) → val a < val b from fun h => dig_lt HDA.out HDB.out HL.out _ HE.out h)
        have hgt := hide (show b[j]'(by omega) < a[j] → val b < val a from fun h => dig_lt HDB.out HDA.out HL.out.symm _ HE.out.symm h)
        have heq := hide (show a[j] = b[j]'(by omega) → a.drop j = b.drop j from fun h => drop_step _ _ HE.out h)
        obtain ⟨x, hx⟩ : ∃ x, a[j] = x := ⟨_, rfl⟩
        obtain ⟨y, hy⟩ : ∃ y, b[j]'(by omega) = y := ⟨_, rfl⟩
        rw [hx] at hlt hgt heq d1
        rw [hy] at hlt hgt heq d2
        clear hx hy
        rcases Int.lt_trichotomy x y with h | h | h
        · have hv := hide (show cmp3 (val a) (val b) = -1 by have := hlt.out h; unfold cmp3; rw [if_pos this])
          clear hlt hgt heq
          go_wp2
          go_quiet (fail)
          go_wp2
          go_ret
          exact ⟨by rw [hv.out]; rfl, by first | exact ⟨_, rfl⟩ | exact drewN2 _ _ _⟩
        · subst h
          have hv := hide (heq.out rfl)
          clear hlt hgt heq
          go_wp2
          go_quiet (fail)
          go_wp2
          go_quiet (fail)
          go_wp2
          go_roundw
          case rel => exact ⟨j, by omega, by go_num, hv.out, by first | exact ⟨_, rfl⟩ | exact drewN2 _ _ _ | (rw [World.drewN_drewN, World.drewN_drewN]; exact ⟨_, rfl⟩)⟩
          case measure => simp [intOf]; try omega
        · have hv := hide (show cmp3 (val a) (val b) = 1 by have := hgt.out h; unfold cmp3; rw [if_neg (by omega), if_pos this])
          have hxy : ¬ x < y := by omega
          clear hlt hgt heq
          go_wp2
          go_quiet (fail)
          go_wp2
          go_quiet (fail)
          go_wp2
          go_ret
          exact ⟨by rw [hv.out]; rfl, by first | exact ⟨_, rfl⟩ | exact drewN2 _ _ _ | (rw [World.drewN_drewN, World.drewN_drewN]; exact ⟨_, rfl⟩)⟩
  · have h := len_lt hb ha ta hlen
    rw [show cmp3 (val a) (val b) = 1 by unfold cmp3; rw [if_neg (by omega), if_pos h]]
    have hn : ((a.length : Int) != b.length) = true := by simp; omega
    have hn2 : ¬ (a.length : Int) < b.length := by omega
    clear h
    go_enter Try.func191, Try.ntmps191
    go_wp2
    go_ret
    exact ⟨rfl, 0, rfl⟩

theorem digit_base (A : Option Addr) (c : Nat) (l : List Int) (i : Nat) (w : World) (hs : Sl w A (iv l)) :
    Calls Try.prog 193 #[.slice A l.length c, .int .i64 i] w fun e w' => e = .returned (.int .i64 (l[i]?.getD 0)) ∧ w' = w := by
  by_cases h : i < l.length
  · obtain ⟨b, off, rfl, hc⟩ := hs.int h
    rw [List.getElem?_eq_getElem h, Option.getD_some]
    clear hs
    go_enter Try.func193, Try.ntmps193
    go_wp2
    go_ret
    exact ⟨rfl, rfl⟩
  · rw [List.getElem?_eq_none (by omega), Option.getD_none]
    clear hs
    go_enter Try.func193, Try.ntmps193
    go_wp2
    go_ret
    exact ⟨rfl, rfl⟩

theorem digit_is (A : Option Addr) (c : Nat) (l : List Int) (i : Nat) {y : Int} (hy : l[i]?.getD 0 = y) (w : World) (hs : Sl w A (iv l)) :
    Calls Try.prog 193 #[.slice A l.length c, .int .i64 i] w fun e w' => e = .returned (.int .i64 y) ∧ w' = w := by
  subst hy
  exact digit_base A c l i w hs
theorem val_take' (b : List Int) (k : Nat) : val (b.take (k + 1)) = val (b.take k) + 1000000000 ^ k * b[k]?.getD 0 := by
  by_cases h : k < b.length
  · rw [val_take b k h, List.getElem?_eq_getElem h, Option.getD_some]
  · rw [List.take_of_length_le (by omega), List.take_of_length_le (by omega), List.getElem?_eq_none (by omega), Option.getD_none]; omega
theorem sub_step (a b r : List Int) (k : Nat) (br s br' : Int) (hk : k < a.length) (hr : r.length = k) (hs : s - br' * 1000000000 = a[k] - b[k]?.getD 0 - br) (h : val r - br * 1000000000 ^ k = val (a.take k) - val (b.take k)) :
    val (r ++ [s]) - br' * 1000000000 ^ (k + 1) = val (a.take (k + 1)) - val (b.take (k + 1)) := by
  rw [val_append, val_take a k hk, val_take' b k, hr]
  have e : (1000000000 : Int) ^ (k + 1) = 1000000000 ^ k * 1000000000 := Int.pow_succ _ _
  rw [e]
  simp only [val]
  generalize (1000000000 : Int) ^ k = P at *
  grind
theorem sub_end (a b r : List Int) (br : Int) (hb : b.length ≤ a.length) (hr : r.length = a.length) (hrd : digOk r) (h0 : br = 0 ∨ br = 1) (hab : val b ≤ val a)
    (h : val r - br * 1000000000 ^ a.length = val (a.take a.length) - val (b.take a.length)) : val r = val a - val b := by
  rw [List.take_length, List.take_of_length_le hb] at h
  have := val_lt hrd
  rw [hr] at this
  rcases h0 with rfl | rfl <;> omega
end Go.Proofs.Ythfmjohbokpceaa
