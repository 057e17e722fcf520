import Derived.Test.YtehcmhblppjalaaSyP
namespace Go.Proofs.Ytehcmhblppjalaa
open Go.RowKit Go.WideShapes Go.ChangeShapes

/-! levels of two bits, bits of a number below four, the bits of a level (program) -/
theorem level1 (b off c : Nat) (x : Int) (w : World) (hc : w.cell? ⟨b, off, none⟩ = some (.int .i64 x)) (hx : 0 ≤ x ∧ x ≤ 1) :
    Calls Try.prog 39 #[.slice (some ⟨b, off, none⟩) 1 c] w fun e w' => e = .returned (.int .i64 (1 - 2 * x)) ∧ w' = w := by
  obtain ⟨h1, h2⟩ := hx
  go_enter Try.func39, Try.ntmps39
  go_wp2
  go_ret
  exact ⟨rfl, rfl⟩
theorem level2 (b off c : Nat) (x y : Int) (w : World) (hc : w.cell? ⟨b, off, none⟩ = some (.int .i64 x)) (hd : w.cell? ⟨b, off + 1, none⟩ = some (.int .i64 y)) (hc2 : 2 ≤ c) (hx : 0 ≤ x ∧ x ≤ 1) (hy : 0 ≤ y ∧ y ≤ 1) :
    Calls Try.prog 39 #[.slice (some ⟨b, off, none⟩) 2 c] w fun e w' => e = .returned (.int .i64 ((1 - 2 * x) * (2 - (1 - 2 * y)))) ∧ ∃ n, w' = w.drewN n := by
  obtain ⟨h1, h2⟩ := hx
  obtain ⟨h3, h4⟩ := hy
  have H1 := hide (fun W (h : W.cell? ⟨b, off + 1, none⟩ = some (.int .i64 y)) => level1 b (off + 1) (c - 1) y W h ⟨h3, h4⟩)
  go_enter Try.func39, Try.ntmps39
  go_wp2
  go_quiet (first | (exact Calls.quiet_of_same (H1.out _ hd)) | (go_at_call 39; exact Calls.quiet_of_same (H1.out _ hd)))
  have hw : wrap64 ((1 - 2 * x) * (2 - (1 - 2 * y))) = (1 - 2 * x) * (2 - (1 - 2 * y)) := by
    rcases (by omega : x = 0 ∨ x = 1) with rfl | rfl <;> rcases (by omega : y = 0 ∨ y = 1) with rfl | rfl <;> simp [wrap64]
  rw [hw]
  go_wp2
  go_ret
  exact ⟨rfl, nq, rfl⟩
set_option maxHeartbeats 4000000 in
theorem bitsOf2 (n : Nat) (w : World) (hn : n < 4) :
    Calls Try.prog 51 #[.int .i64 (n : Int), .int .i64 2] w fun e w' => ∃ C q, e = .returned (.slice C 2 q) ∧ w'.ownsRow w.heap.size 3 1 (.slice C 2 q) 2 [.int .i64 ((n / 2 : Nat) : Int), .int .i64 ((n % 2 : Nat) : Int)] ∧ Below w.heap.size w w' := by
  obtain ⟨i0, hi0, hz0, hz1, hz2⟩ := info_parts int_info
  have HR0 := hide (show w.ownsRow w.heap.size 3 1 (.slice none 0 0) 0 [] from World.ownsRow_nil _ _ _ _)
  have b0 : bits .and .i64 0 1 = 0 := by decide
  have b1 : bits .and .i64 1 1 = 1 := by decide
  have b2 : bits .and .i64 2 1 = 0 := by decide
  have b3 : bits .and .i64 3 1 = 1 := by decide
  rcases (by omega : n = 0 ∨ n = 1 ∨ n = 2 ∨ n = 3) with rfl | rfl | rfl | rfl
  · go_enter Try.func51, Try.ntmps51
    go_wp2
    refine wp_loop_rounds 3 ?_
    rw [rounds_succ]
    go_wp2_with (at_builtin
                 refine wpList_append_any _ rfl (.tmp 13) (.tmp 18) _ rfl w.heap.size 3 i0 _ 1 8 Try.underlying22 hi0 hz0 hz1 hz2 rfl (by omega) _ 0 [] rfl
                   (HR0.out.alloc _) (w.heap.size + 1) (some ⟨w.heap.size, 0, none⟩) 1 1 [(.int .i64 0)] rfl (reads_one w ((.int .i64 0)) 3) (by simp [Value.oneCell']) (by simp only [maxLen] <;> omega) (by omega) (by simp <;> omega) ?_
                 intro V1 w1 ho1 hg1 _)
    obtain ⟨C1, k1, rfl⟩ := own_form ho1
    have HO1 := hide ho1
    have bl1 := hide (Below.app (Below.refl w.heap.size w) HR0.out hg1)
    have bz1 := bl1.out.size
    clear ho1 hg1
    simp only [rounds_succ]
    go_wp2_with (at_builtin
                 refine wpList_append_any _ rfl (.tmp 13) (.tmp 18) _ rfl w.heap.size 3 i0 _ 1 8 Try.underlying22 hi0 hz0 hz1 hz2 rfl (by omega) _ 1 [(.int .i64 0)] rfl
                   (HO1.out.alloc _) (w1.heap.size + 1) (some ⟨w1.heap.size, 0, none⟩) 1 1 [(.int .i64 0)] rfl (reads_one w1 ((.int .i64 0)) 3) (by simp [Value.oneCell']) (by simp only [maxLen] <;> omega) (by omega) (by simp <;> omega) ?_
                 intro V2 w2 ho2 hg2 _)
    obtain ⟨C2, k2, rfl⟩ := own_form ho2
    have bl2 := hide (Below.app bl1.out HO1.out hg2)
    clear hg2
    try simp only [rounds_succ]
    go_wp2
    go_ret
    exact ⟨C2, k2, rfl, ho2, bl2.out⟩
  · go_enter Try.func51, Try.ntmps51
    go_wp2
    refine wp_loop_rounds 3 ?_
    rw [rounds_succ]
    go_wp2_with (at_builtin
                 refine wpList_append_any _ rfl (.tmp 13) (.tmp 18) _ rfl w.heap.size 3 i0 _ 1 8 Try.underlying22 hi0 hz0 hz1 hz2 rfl (by omega) _ 0 [] rfl
                   (HR0.out.alloc _) (w.heap.size + 1) (some ⟨w.heap.size, 0, none⟩) 1 1 [(.int .i64 0)] rfl (reads_one w ((.int .i64 0)) 3) (by simp [Value.oneCell']) (by simp only [maxLen] <;> omega) (by omega) (by simp <;> omega) ?_
                 intro V1 w1 ho1 hg1 _)
    obtain ⟨C1, k1, rfl⟩ := own_form ho1
    have HO1 := hide ho1
    have bl1 := hide (Below.app (Below.refl w.heap.size w) HR0.out hg1)
    have bz1 := bl1.out.size
    clear ho1 hg1
    simp only [rounds_succ]
    go_wp2_with (at_builtin
                 refine wpList_append_any _ rfl (.tmp 13) (.tmp 18) _ rfl w.heap.size 3 i0 _ 1 8 Try.underlying22 hi0 hz0 hz1 hz2 rfl (by omega) _ 1 [(.int .i64 0)] rfl
                   (HO1.out.alloc _) (w1.heap.size + 1) (some ⟨w1.heap.size, 0, none⟩) 1 1 [(.int .i64 1)] rfl (reads_one w1 ((.int .i64 1)) 3) (by simp [Value.oneCell']) (by simp only [maxLen] <;> omega) (by omega) (by simp <;> omega) ?_
                 intro V2 w2 ho2 hg2 _)
    obtain ⟨C2, k2, rfl⟩ := own_form ho2
    have bl2 := hide (Below.app bl1.out HO1.out hg2)
    clear hg2
    try simp only [rounds_succ]
    go_wp2
    go_ret
    exact ⟨C2, k2, rfl, ho2, bl2.out⟩
  · go_enter Try.func51, Try.ntmps51
    go_wp2
    refine wp_loop_rounds 3 ?_
    rw [rounds_succ]
    go_wp2_with (at_builtin
                 refine wpList_append_any _ rfl (.tmp 13) (.tmp 18) _ rfl w.heap.size 3 i0 _ 1 8 Try.underlying22 hi0 hz0 hz1 hz2 rfl (by omega) _ 0 [] rfl
                   (HR0.out.alloc _) (w.heap.size + 1) (some ⟨w.heap.size, 0, none⟩) 1 1 [(.int .i64 1)] rfl (reads_one w ((.int .i64 1)) 3) (by simp [Value.oneCell']) (by simp only [maxLen] <;> omega) (by omega) (by simp <;> omega) ?_
                 intro V1 w1 ho1 hg1 _)
    obtain ⟨C1, k1, rfl⟩ := own_form ho1
    have HO1 := hide ho1
    have bl1 := hide (Below.app (Below.refl w.heap.size w) HR0.out hg1)
    have bz1 := bl1.out.size
    clear ho1 hg1
    simp only [rounds_succ]
    go_wp2_with (at_builtin
                 refine wpList_append_any _ rfl (.tmp 13) (.tmp 18) _ rfl w.heap.size 3 i0 _ 1 8 Try.underlying22 hi0 hz0 hz1 hz2 rfl (by omega) _ 1 [(.int .i64 1)] rfl
                   (HO1.out.alloc _) (w1.heap.size + 1) (some ⟨w1.heap.size, 0, none⟩) 1 1 [(.int .i64 0)] rfl (reads_one w1 ((.int .i64 0)) 3) (by simp [Value.oneCell']) (by simp only [maxLen] <;> omega) (by omega) (by simp <;> omega) ?_
                 intro V2 w2 ho2 hg2 _)
    obtain ⟨C2, k2, rfl⟩ := own_form ho2
    have bl2 := hide (Below.app bl1.out HO1.out hg2)
    clear hg2
    try simp only [rounds_succ]
    go_wp2
    go_ret
    exact ⟨C2, k2, rfl, ho2, bl2.out⟩
  · go_enter Try.func51, Try.ntmps51
    go_wp2
    refine wp_loop_rounds 3 ?_
    rw [rounds_succ]
    go_wp2_with (at_builtin
                 refine wpList_append_any _ rfl (.tmp 13) (.tmp 18) _ rfl w.heap.size 3 i0 _ 1 8 Try.underlying22 hi0 hz0 hz1 hz2 rfl (by omega) _ 0 [] rfl
                   (HR0.out.alloc _) (w.heap.size + 1) (some ⟨w.heap.size, 0, none⟩) 1 1 [(.int .i64 1)] rfl (reads_one w ((.int .i64 1)) 3) (by simp [Value.oneCell']) (by simp only [maxLen] <;> omega) (by omega) (by simp <;> omega) ?_
                 intro V1 w1 ho1 hg1 _)
    obtain ⟨C1, k1, rfl⟩ := own_form ho1
    have HO1 := hide ho1
    have bl1 := hide (Below.app (Below.refl w.heap.size w) HR0.out hg1)
    have bz1 := bl1.out.size
    clear ho1 hg1
    simp only [rounds_succ]
    go_wp2_with (at_builtin
                 refine wpList_append_any _ rfl (.tmp 13) (.tmp 18) _ rfl w.heap.size 3 i0 _ 1 8 Try.underlying22 hi0 hz0 hz1 hz2 rfl (by omega) _ 1 [(.int .i64 1)] rfl
                   (HO1.out.alloc _) (w1.heap.size + 1) (some ⟨w1.heap.size, 0, none⟩) 1 1 [(.int .i64 1)] rfl (reads_one w1 ((.int .i64 1)) 3) (by simp [Value.oneCell']) (by simp only [maxLen] <;> omega) (by omega) (by simp <;> omega) ?_
                 intro V2 w2 ho2 hg2 _)
    obtain ⟨C2, k2, rfl⟩ := own_form ho2
    have bl2 := hide (Below.app bl1.out HO1.out hg2)
    clear hg2
    try simp only [rounds_succ]
    go_wp2
    go_ret
    exact ⟨C2, k2, rfl, ho2, bl2.out⟩
end Go.Proofs.Ytehcmhblppjalaa
