import Derived.Test.YtppkibgemacdbaaSdS
namespace Go.Proofs.Ytppkibgemacdbaa
open Go.RowKit Go.WideShapes Go.ChangeShapes

/-! Few of one bearer -/
set_option maxRecDepth 100000 in
set_option maxHeartbeats 4000000 in
theorem fewOne (B C P : Int) (A : Option Addr) (c n : Nat) (nm : Bs) (kd pr wt pw le bu ra de : Int) (w : World) (g d : Nat) (hg : Blk w g 32 #[strV nm, .int .i64 kd, .int .i64 pr, .int .i64 wt, .int .i64 pw, .int .i64 le, .int .i64 bu, .int .i64 ra, .int .i64 de]) :
    Calls Try.prog 6 #[.agg #[.int .i64 B, .int .i64 C, .int .i64 P, .slice A n c], .slice (some ⟨g, 0, none⟩) 1 d] w fun e w' => e = .returned (.bool (decide (n ≤ 18) && decide (nm.length ≤ 20))) ∧ Below w.heap.size w w' := by
  have hlen := fun t W => len_str nm t W
  have HB := hide ((Below.refl _ w).alloc (Nat.le_refl _) (.cells #[.int .i64 B, .int .i64 C, .int .i64 P, .slice A n c] 24))
  have z0 : (w.alloc (.cells #[.int .i64 B, .int .i64 C, .int .i64 P, .slice A n c] 24)).cell? ⟨g, 0, none⟩ = some (strV nm) := (hg.alloc _).cell 0
  clear hg
  by_cases h1 : n ≤ 18
  · have g1 : ¬ (18 : Int) < (n : Int) := by omega
    by_cases h2 : nm.length ≤ 20
    · have g2 : ¬ (20 : Int) < (nm.length : Int) := by omega
      have HV := hide (show (decide (n ≤ 18) && decide (nm.length ≤ 20)) = true by simp [h1, h2])
      clear h1 h2
      go_enter Try.func6, Try.ntmps6
      go_wp2_with fail
      refine wp_loop_rounds 2 ?_
      rw [rounds_succ]
      go_wp2_with fail
      rw [rounds_succ]
      go_wp2
      go_ret
      exact ⟨by rw [HV.out]; rfl, HB.out⟩
    · have g2 : (20 : Int) < (nm.length : Int) := by omega
      have HV := hide (show (decide (n ≤ 18) && decide (nm.length ≤ 20)) = false by simp [h2])
      clear h1 h2
      go_enter Try.func6, Try.ntmps6
      go_wp2_with fail
      refine wp_loop_rounds 2 ?_
      rw [rounds_succ]
      go_wp2
      go_ret
      exact ⟨by rw [HV.out]; rfl, HB.out⟩
  · have g1 : (18 : Int) < (n : Int) := by omega
    have HV := hide (show (decide (n ≤ 18) && decide (nm.length ≤ 20)) = false by simp [h1])
    clear h1
    go_enter Try.func6, Try.ntmps6
    go_wp2
    go_ret
    exact ⟨by rw [HV.out]; rfl, HB.out⟩
end Go.Proofs.Ytppkibgemacdbaa
