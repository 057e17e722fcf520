import Derived.Test.YtamkannjdbodpaaDoorTxR
import Derived.Laws.IdiomStrings
namespace Go.Proofs.YtamkannjdbodpaaDoor
open Go.RowKit Go.WideShapes Go.ChangeShapes

/-! texts of beams (reference): Decimal of 0 to 7, FormatBeam, Cut -/
theorem conv_one (c : UInt8) (W : World) : (convert 95 9 (.slice (some ⟨W.heap.size, 0, none⟩) 1 1)).run Tryd.prog (W.alloc (.cells #[.int .u8 (c.toNat : Int)] 5)) = .ok (.string ⟨#[c]⟩) (W.alloc (.cells #[.int .u8 (c.toNat : Int)] 5)) :=
  run_convert_bytes_back _ _ _ 5 ⟨W.heap.size, 0, none⟩ 1 [c] Tryd.underlying95 Tryd.underlying5 Tryd.underlying9 (fun j hj => by
    obtain rfl : j = 0 := by simpa using hj
    exact (Blk.new W 5 #[.int .u8 (c.toNat : Int)]).cell 0)
theorem size_dec (n : Int) (h : 0 ≤ n ∧ n ≤ 7) (W : World) : Calls Tryd.prog 57 #[.int .i64 n] W fun x w' => x = .returned (.int .i64 n) ∧ W = w' := by
  have := size_base n (by omega) (by omega) W
  rw [show (n.natAbs : Int) = n by omega] at this
  exact this
set_option maxRecDepth 100000 in
set_option maxHeartbeats 4000000 in
theorem decimal_ref (n : Int) (h : 0 ≤ n ∧ n ≤ 7) (w : World) : Calls Tryd.prog 33 #[.int .i64 n] w fun e w' => e = .returned (strV (wdOf n)) ∧ Below w.heap.size w w' := by
  obtain h8 : n = 0 ∨ n = 1 ∨ n = 2 ∨ n = 3 ∨ n = 4 ∨ n = 5 ∨ n = 6 ∨ n = 7 := by omega
  clear h
  rcases h8 with rfl | rfl | rfl | rfl | rfl | rfl | rfl | rfl
  · go_enter Tryd.func33, Tryd.ntmps33
    go_wp2
    go_ret
    exact ⟨rfl, Below.refl _ _⟩
  · have hcv : (convert 95 9 (.slice (some ⟨w.heap.size, 0, none⟩) 1 1)).run Tryd.prog (w.alloc (.cells #[.int .u8 49] 5)) = .ok (.string ⟨#[49]⟩) (w.alloc (.cells #[.int .u8 49] 5)) := conv_one 49 w
    go_enter Tryd.func33, Tryd.ntmps33
    go_wp2
    refine wp_loop_rounds 2 ?_
    rw [rounds_succ]
    go_wp2_with (go_at_call 57; refine (size_dec 1 (by decide) _).mono ?_; rintro e w' ⟨rfl, rfl⟩; simp only [])
    rw [rounds_succ]
    go_wp2
    go_ret
    exact ⟨rfl, (Below.refl _ _).alloc (Nat.le_refl _) _⟩
  · have hcv : (convert 95 9 (.slice (some ⟨w.heap.size, 0, none⟩) 1 1)).run Tryd.prog (w.alloc (.cells #[.int .u8 50] 5)) = .ok (.string ⟨#[50]⟩) (w.alloc (.cells #[.int .u8 50] 5)) := conv_one 50 w
    go_enter Tryd.func33, Tryd.ntmps33
    go_wp2
    refine wp_loop_rounds 2 ?_
    rw [rounds_succ]
    go_wp2_with (go_at_call 57; refine (size_dec 2 (by decide) _).mono ?_; rintro e w' ⟨rfl, rfl⟩; simp only [])
    rw [rounds_succ]
    go_wp2
    go_ret
    exact ⟨rfl, (Below.refl _ _).alloc (Nat.le_refl _) _⟩
  · have hcv : (convert 95 9 (.slice (some ⟨w.heap.size, 0, none⟩) 1 1)).run Tryd.prog (w.alloc (.cells #[.int .u8 51] 5)) = .ok (.string ⟨#[51]⟩) (w.alloc (.cells #[.int .u8 51] 5)) := conv_one 51 w
    go_enter Tryd.func33, Tryd.ntmps33
    go_wp2
    refine wp_loop_rounds 2 ?_
    rw [rounds_succ]
    go_wp2_with (go_at_call 57; refine (size_dec 3 (by decide) _).mono ?_; rintro e w' ⟨rfl, rfl⟩; simp only [])
    rw [rounds_succ]
    go_wp2
    go_ret
    exact ⟨rfl, (Below.refl _ _).alloc (Nat.le_refl _) _⟩
  · have hcv : (convert 95 9 (.slice (some ⟨w.heap.size, 0, none⟩) 1 1)).run Tryd.prog (w.alloc (.cells #[.int .u8 52] 5)) = .ok (.string ⟨#[52]⟩) (w.alloc (.cells #[.int .u8 52] 5)) := conv_one 52 w
    go_enter Tryd.func33, Tryd.ntmps33
    go_wp2
    refine wp_loop_rounds 2 ?_
    rw [rounds_succ]
    go_wp2_with (go_at_call 57; refine (size_dec 4 (by decide) _).mono ?_; rintro e w' ⟨rfl, rfl⟩; simp only [])
    rw [rounds_succ]
    go_wp2
    go_ret
    exact ⟨rfl, (Below.refl _ _).alloc (Nat.le_refl _) _⟩
  · have hcv : (convert 95 9 (.slice (some ⟨w.heap.size, 0, none⟩) 1 1)).run Tryd.prog (w.alloc (.cells #[.int .u8 53] 5)) = .ok (.string ⟨#[53]⟩) (w.alloc (.cells #[.int .u8 53] 5)) := conv_one 53 w
    go_enter Tryd.func33, Tryd.ntmps33
    go_wp2
    refine wp_loop_rounds 2 ?_
    rw [rounds_succ]
    go_wp2_with (go_at_call 57; refine (size_dec 5 (by decide) _).mono ?_; rintro e w' ⟨rfl, rfl⟩; simp only [])
    rw [rounds_succ]
    go_wp2
    go_ret
    exact ⟨rfl, (Below.refl _ _).alloc (Nat.le_refl _) _⟩
  · have hcv : (convert 95 9 (.slice (some ⟨w.heap.size, 0, none⟩) 1 1)).run Tryd.prog (w.alloc (.cells #[.int .u8 54] 5)) = .ok (.string ⟨#[54]⟩) (w.alloc (.cells #[.int .u8 54] 5)) := conv_one 54 w
    go_enter Tryd.func33, Tryd.ntmps33
    go_wp2
    refine wp_loop_rounds 2 ?_
    rw [rounds_succ]
    go_wp2_with (go_at_call 57; refine (size_dec 6 (by decide) _).mono ?_; rintro e w' ⟨rfl, rfl⟩; simp only [])
    rw [rounds_succ]
    go_wp2
    go_ret
    exact ⟨rfl, (Below.refl _ _).alloc (Nat.le_refl _) _⟩
  · have hcv : (convert 95 9 (.slice (some ⟨w.heap.size, 0, none⟩) 1 1)).run Tryd.prog (w.alloc (.cells #[.int .u8 55] 5)) = .ok (.string ⟨#[55]⟩) (w.alloc (.cells #[.int .u8 55] 5)) := conv_one 55 w
    go_enter Tryd.func33, Tryd.ntmps33
    go_wp2
    refine wp_loop_rounds 2 ?_
    rw [rounds_succ]
    go_wp2_with (go_at_call 57; refine (size_dec 7 (by decide) _).mono ?_; rintro e w' ⟨rfl, rfl⟩; simp only [])
    rw [rounds_succ]
    go_wp2
    go_ret
    exact ⟨rfl, (Below.refl _ _).alloc (Nat.le_refl _) _⟩
end Go.Proofs.YtamkannjdbodpaaDoor
