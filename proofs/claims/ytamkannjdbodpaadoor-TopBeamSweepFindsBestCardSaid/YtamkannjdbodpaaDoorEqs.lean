import Derived.Test.YtamkannjdbodpaaDoorGainsB
import Derived.ChangeKeysEq
namespace Go.Proofs.YtamkannjdbodpaaDoor
open Go.RowKit Go.WideShapes Go.ChangeShapes

theorem num_under : Tryd.prog.underlying 162 = some (.struct (Tryd.prog.fieldsOf 162)) := by kernel_rfl
theorem num_held : Tryd.prog.stoodInHeld 162 = false := by kernel_rfl
theorem sq_under : Tryd.prog.underlying 52 = some (.struct (Tryd.prog.fieldsOf 52)) := by kernel_rfl
theorem sq_held : Tryd.prog.stoodInHeld 52 = false := by kernel_rfl
set_option maxRecDepth 100000 in
theorem num_eql (a b c d a' b' c' d' : Int) (w : World) : (binOp .eql 162 (.agg #[.int .i64 a, .int .i64 b, .int .i64 c, .int .i64 d]) (.agg #[.int .i64 a', .int .i64 b', .int .i64 c', .int .i64 d'])).run Tryd.prog w = .ok (.bool (a == a' && b == b' && c == c' && d == d')) w := by
  rw [run_eql_struct, run_equalIn_agg (d := 9999) (ht := num_under) (hp := num_held)]
  simp [go_sem]
  (repeat' split) <;> simp_all
set_option maxRecDepth 100000 in
theorem sq_eql (a b a' b' : Int) (w : World) : (binOp .eql 52 (.agg #[.int .i64 a, .int .i64 b]) (.agg #[.int .i64 a', .int .i64 b'])).run Tryd.prog w = .ok (.bool (a == a' && b == b')) w := by
  rw [run_eql_struct, run_equalIn_agg (d := 9999) (ht := sq_under) (hp := sq_held)]
  simp [go_sem]
  (repeat' split) <;> simp_all
theorem Q4.eq_iff (x y : Q4) : (x.a == y.a && x.b == y.b && x.c == y.c && x.d == y.d) = decide (x = y) := by
  obtain ⟨a, b, c, d⟩ := x
  obtain ⟨a', b', c', d'⟩ := y
  by_cases h : (⟨a, b, c, d⟩ : Q4) = ⟨a', b', c', d'⟩
  · rw [decide_eq_true h]; injection h with h1 h2 h3 h4; subst h1 h2 h3 h4; simp
  · rw [decide_eq_false h]
    cases h1 : (a == a' && b == b' && c == c' && d == d')
    · rfl
    · exfalso; apply h; simp [and_assoc] at h1; obtain ⟨h1, h2, h3, h4⟩ := h1; subst h1 h2 h3 h4; rfl
/-- two numbers against one another -/
theorem num_is (x y : Q4) (w : World) : (binOp .eql 162 (.agg x.cells) (.agg y.cells)).run Tryd.prog w = .ok (.bool (decide (x = y))) w := by
  rw [← Q4.eq_iff]; exact num_eql _ _ _ _ _ _ _ _ w
theorem sum_under : Tryd.prog.underlying 84 = some (.array 4 3) := by kernel_rfl
theorem int_cells : Tryd.prog.cellsOf 3 = 1 := by kernel_rfl
set_option maxRecDepth 100000 in
theorem sum_eql (a b c d a' b' c' d' : Int) (w : World) : (binOp .eql 84 (.agg #[.int .i64 a, .int .i64 b, .int .i64 c, .int .i64 d]) (.agg #[.int .i64 a', .int .i64 b', .int .i64 c', .int .i64 d'])).run Tryd.prog w = .ok (.bool (a == a' && b == b' && c == c' && d == d')) w := by
  obtain ⟨i0, hi0, _, _, _⟩ := info_parts int_info
  rw [run_eql_struct, run_equalIn_array (d := 9999) w _ _ sum_under hi0, int_cells]
  simp [go_sem, Op.eqItems, List.range, List.range.loop]
  (repeat' split) <;> simp_all
theorem sum_is (x y : Q4) (w : World) : (binOp .eql 84 (.agg x.cells) (.agg y.cells)).run Tryd.prog w = .ok (.bool (decide (x = y))) w := by
  rw [← Q4.eq_iff]; exact sum_eql _ _ _ _ _ _ _ _ w
end Go.Proofs.YtamkannjdbodpaaDoor
