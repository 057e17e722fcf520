import Derived.Test.YtppkibgemacdbaaSeg
namespace Go.Proofs.Ytppkibgemacdbaa
open Go.RowKit Go.WideShapes Go.ChangeShapes

/-! divisor, at the numbers of the example -/
set_option maxRecDepth 100000 in
set_option maxHeartbeats 4000000 in
theorem divisor_3_6 (p c : Nat) (w : World) (hb : Blk w p 3 #[.int .i64 3, .int .i64 6]) : Calls Try.prog 59 #[.slice (some ⟨p, 0, none⟩) 2 c] w fun e w' => e = .returned (.int .i64 3) ∧ Below w.heap.size w w' := by
  have b0 : w.cell? ⟨p, 0, none⟩ = some (.int .i64 3) := hb.cell 0
  have b1 : w.cell? ⟨p, 1, none⟩ = some (.int .i64 6) := hb.cell 1
  clear hb
  go_enter Try.func59, Try.ntmps59
  go_wp2_with fail
  refine wp_loop_rounds 3 ?_
  rw [rounds_succ]
  go_wp2_with fail
  refine wp_loop_rounds 2 ?_
  rw [rounds_succ]
  go_wp2_with fail
  go_quiet (fail)
  go_wp2_with fail
  rw [rounds_succ]
  go_wp2_with fail
  rw [rounds_succ]
  go_wp2_with fail
  refine wp_loop_rounds 3 ?_
  rw [rounds_succ]
  go_wp2_with fail
  go_quiet (fail)
  go_wp2_with fail
  rw [rounds_succ]
  go_wp2_with fail
  go_quiet (fail)
  go_wp2_with fail
  rw [rounds_succ]
  go_wp2_with fail
  rw [rounds_succ]
  go_wp2_with fail
  go_ret
  exact ⟨rfl, below_drewN (Below.refl _ _) _⟩
set_option maxRecDepth 100000 in
set_option maxHeartbeats 4000000 in
theorem divisor_3_8 (p c : Nat) (w : World) (hb : Blk w p 3 #[.int .i64 3, .int .i64 8]) : Calls Try.prog 59 #[.slice (some ⟨p, 0, none⟩) 2 c] w fun e w' => e = .returned (.int .i64 1) ∧ Below w.heap.size w w' := by
  have b0 : w.cell? ⟨p, 0, none⟩ = some (.int .i64 3) := hb.cell 0
  have b1 : w.cell? ⟨p, 1, none⟩ = some (.int .i64 8) := hb.cell 1
  clear hb
  go_enter Try.func59, Try.ntmps59
  go_wp2_with fail
  refine wp_loop_rounds 3 ?_
  rw [rounds_succ]
  go_wp2_with fail
  refine wp_loop_rounds 2 ?_
  rw [rounds_succ]
  go_wp2_with fail
  go_quiet (fail)
  go_wp2_with fail
  rw [rounds_succ]
  go_wp2_with fail
  rw [rounds_succ]
  go_wp2_with fail
  refine wp_loop_rounds 5 ?_
  rw [rounds_succ]
  go_wp2_with fail
  go_quiet (fail)
  go_wp2_with fail
  rw [rounds_succ]
  go_wp2_with fail
  go_quiet (fail)
  go_wp2_with fail
  rw [rounds_succ]
  go_wp2_with fail
  go_quiet (fail)
  go_wp2_with fail
  rw [rounds_succ]
  go_wp2_with fail
  go_quiet (fail)
  go_wp2_with fail
  rw [rounds_succ]
  go_wp2_with fail
  rw [rounds_succ]
  go_wp2_with fail
  go_ret
  exact ⟨rfl, below_drewN (Below.refl _ _) _⟩
set_option maxRecDepth 100000 in
set_option maxHeartbeats 4000000 in
theorem divisor_1_16 (p c : Nat) (w : World) (hb : Blk w p 3 #[.int .i64 1, .int .i64 16]) : Calls Try.prog 59 #[.slice (some ⟨p, 0, none⟩) 2 c] w fun e w' => e = .returned (.int .i64 1) ∧ Below w.heap.size w w' := by
  have b0 : w.cell? ⟨p, 0, none⟩ = some (.int .i64 1) := hb.cell 0
  have b1 : w.cell? ⟨p, 1, none⟩ = some (.int .i64 16) := hb.cell 1
  clear hb
  go_enter Try.func59, Try.ntmps59
  go_wp2_with fail
  refine wp_loop_rounds 3 ?_
  rw [rounds_succ]
  go_wp2_with fail
  refine wp_loop_rounds 2 ?_
  rw [rounds_succ]
  go_wp2_with fail
  go_quiet (fail)
  go_wp2_with fail
  rw [rounds_succ]
  go_wp2_with fail
  rw [rounds_succ]
  go_wp2_with fail
  refine wp_loop_rounds 3 ?_
  rw [rounds_succ]
  go_wp2_with fail
  go_quiet (fail)
  go_wp2_with fail
  rw [rounds_succ]
  go_wp2_with fail
  go_quiet (fail)
  go_wp2_with fail
  rw [rounds_succ]
  go_wp2_with fail
  rw [rounds_succ]
  go_wp2_with fail
  go_ret
  exact ⟨rfl, below_drewN (Below.refl _ _) _⟩
end Go.Proofs.Ytppkibgemacdbaa
