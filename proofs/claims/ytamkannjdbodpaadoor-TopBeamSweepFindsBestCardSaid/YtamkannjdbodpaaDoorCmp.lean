import Derived.Test.YtamkannjdbodpaaDoorBase
import Derived.Test.YtamkannjdbodpaaDoorShelf
namespace Go.Proofs.YtamkannjdbodpaaDoor
open Go.RowKit Go.WideShapes Go.ChangeShapes

/-- -1, 0 or 1: a against b -/
def cmp3 (a b : Int) : Int := if a < b then -1 else if b < a then 1 else 0
theorem isNaN_u64 (a : Int) (w : World) : Calls Tryd.prog 97 #[.int .u64 a] w fun e w' => e = .returned (.bool false) ∧ w = w' := by
  go_enter Tryd.func97, Tryd.ntmps97
  go_wp2
  go_ret
  exact ⟨by simp, rfl⟩
theorem isNaN_int (a : Int) (w : World) : Calls Tryd.prog 85 #[.int .i64 a] w fun e w' => e = .returned (.bool false) ∧ w = w' := by
  go_enter Tryd.func85, Tryd.ntmps85
  go_wp2
  go_ret
  exact ⟨by simp, rfl⟩
theorem compare_u64 (a b : Int) (w : World) : Calls Tryd.prog 88 #[.int .u64 a, .int .u64 b] w fun e w' => e = .returned (.int .i64 (cmp3 a b)) ∧ w = w' := by
  rcases (by omega : (a < b) ∨ (b < a ∧ ¬ a < b) ∨ (¬ a < b ∧ ¬ b < a)) with h | ⟨h, h'⟩ | ⟨h, h'⟩
  all_goals
    go_enter Tryd.func88, Tryd.ntmps88
    go_wp2_with (go_at_call 97; refine (isNaN_u64 _ _).mono ?_; rintro e w' ⟨rfl, rfl⟩)
    go_ret
    exact ⟨ret1 (by unfold cmp3; (repeat' split) <;> first | rfl | omega), rfl⟩
theorem compare_int (a b : Int) (w : World) : Calls Tryd.prog 66 #[.int .i64 a, .int .i64 b] w fun e w' => e = .returned (.int .i64 (cmp3 a b)) ∧ w = w' := by
  rcases (by omega : (a < b) ∨ (b < a ∧ ¬ a < b) ∨ (¬ a < b ∧ ¬ b < a)) with h | ⟨h, h'⟩ | ⟨h, h'⟩
  all_goals
    go_enter Tryd.func66, Tryd.ntmps66
    go_wp2_with (go_at_call 85; refine (isNaN_int _ _).mono ?_; rintro e w' ⟨rfl, rfl⟩)
    go_ret
    exact ⟨ret1 (by unfold cmp3; (repeat' split) <;> first | rfl | omega), rfl⟩
/-- the first of two that is not 0 -/
def or2 (a b : Int) : Int := if a = 0 then b else a
set_option maxHeartbeats 400000 in
theorem or_two (a b : Int) (W : World) (n : Nat) (hn : W.heap.size = n) : Calls Tryd.prog 87 #[.slice (some ⟨n, 0, none⟩) 2 2] (W.alloc (.cells #[.int .i64 a, .int .i64 b] 3)) fun e w' => e = .returned (.int .i64 (or2 a b)) ∧ W.alloc (.cells #[.int .i64 a, .int .i64 b] 3) = w' := by
  subst hn
  rcases (by omega : (a ≠ 0) ∨ (a = 0 ∧ b ≠ 0) ∨ (a = 0 ∧ b = 0)) with h | ⟨rfl, h⟩ | ⟨rfl, rfl⟩
  · go_enter Tryd.func87, Tryd.ntmps87
    go_wp2
    go_rounds 3
    go_ret
    exact ⟨ret1 (by simp [or2, h]), rfl⟩
  · go_enter Tryd.func87, Tryd.ntmps87
    go_wp2
    go_rounds 3
    go_ret
    exact ⟨ret1 (by simp [or2]), rfl⟩
  · go_enter Tryd.func87, Tryd.ntmps87
    go_wp2
    go_rounds 3
    go_ret
    exact ⟨ret1 (by simp [or2]), rfl⟩

theorem mul64 (x y : Int) (hx : 0 ≤ x) (hx' : x < 18446744073709551616) (hy : 0 ≤ y) (hy' : y < 18446744073709551616) (w : World) :
    Calls Tryd.prog 86 #[.int .u64 x, .int .u64 y] w fun e w' => e = .returned (.tuple #[.int .u64 (x * y / 18446744073709551616), .int .u64 (x * y % 18446744073709551616)]) ∧ w = w' := by
  obtain ⟨x, rfl⟩ := Int.eq_ofNat_of_zero_le hx
  obtain ⟨y, rfl⟩ := Int.eq_ofNat_of_zero_le hy
  refine (Tryd.bits_Mul64 x y (by omega) (by omega) w).mono ?_
  rintro e w' ⟨rfl, rfl⟩
  have e0 : ((x * y : Nat) : Int) = (x : Int) * y := Int.natCast_mul x y
  have e1 : ((x * y / 18446744073709551616 : Nat) : Int) = (x : Int) * y / 18446744073709551616 := by rw [← e0]; omega
  have e2 : ((x * y % 18446744073709551616 : Nat) : Int) = (x : Int) * y % 18446744073709551616 := by rw [← e0]; omega
  rw [e1, e2]
  exact ⟨rfl, rfl⟩
/-- squares of two words compare as their words do -/
theorem cmp_words (X Y : Int) : or2 (cmp3 (X / 18446744073709551616) (Y / 18446744073709551616)) (cmp3 (X % 18446744073709551616) (Y % 18446744073709551616)) = cmp3 X Y := by
  unfold or2 cmp3
  (repeat' split) <;> omega

theorem natAbs_sq (a : Int) : ((a.natAbs : Int)) * (a.natAbs : Int) = a * a := by
  have := Int.natAbs_mul_self (a := a)
  rw [← this]
  push_cast
  rfl
end Go.Proofs.YtamkannjdbodpaaDoor
