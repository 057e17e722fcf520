import Derived.Test.YthfmjohbokpceaaWvI
import Derived.Deep.RegionHeld3
import Derived.Great.BuildSlice
namespace Go.Proofs.Ythfmjohbokpceaa
open Go.RowKit Go.WideShapes Go.ChangeShapes

/-! sequences of identities (program) -/
/-- both sequences, one behind the other, as cells -/
def sqCells : Array Value := (iv (vA ++ vB)).toArray
def arA : Array Value := (iv vA).toArray
def arB : Array Value := (iv vB).toArray
theorem reg_A : (iv ((regL [2] 26).map fun x => 1 - 2 * x)).toArray = arA := by
  have h : (regL [2] 26).map (fun x => 1 - 2 * x) = vA := by decide +kernel
  unfold arA; rw [h]
theorem reg_B : (iv ((regL [2, 3, 4] 26).map fun x => 1 - 2 * x)).toArray = arB := by
  have h : (regL [2, 3, 4] 26).map (fun x => 1 - 2 * x) = vB := by decide +kernel
  unfold arB; rw [h]
theorem valuesA (w : World) (n : Nat) (hn : w.heap.size = n) : Calls Try.prog 184 #[.slice (some ⟨n, 0, none⟩) 1 1] (w.alloc (.cells #[.int .i64 2] 3)) fun e w' => e = .returned (.agg arA) ∧ Below (w.alloc (.cells #[.int .i64 2] 3)).heap.size (w.alloc (.cells #[.int .i64 2] 3)) w' := by
  rw [← reg_A]
  exact values_wave (some ⟨n, 0, none⟩) 1 1 [2] _ rfl (Sl.new w (iv (zs [2])) 3 n hn) (by omega) (by simp)
theorem valuesB (w : World) (n : Nat) (hn : w.heap.size = n) : Calls Try.prog 184 #[.slice (some ⟨n, 0, none⟩) 3 3] (w.alloc (.cells #[.int .i64 2, .int .i64 3, .int .i64 4] 3)) fun e w' => e = .returned (.agg arB) ∧ Below (w.alloc (.cells #[.int .i64 2, .int .i64 3, .int .i64 4] 3)).heap.size (w.alloc (.cells #[.int .i64 2, .int .i64 3, .int .i64 4] 3)) w' := by
  rw [← reg_B]
  exact values_wave (some ⟨n, 0, none⟩) 3 3 [2, 3, 4] _ rfl (Sl.new w (iv (zs [2, 3, 4])) 3 n hn) (by omega) (by simp)
def zero62 : Array Value := (List.replicate 62 (Value.int .i64 0)).toArray
theorem built_sq : Try.prog.built 215 [(0, .agg arA), (1, .agg arB)] = some sqCells := by kernel_rfl
theorem sq_one : sqCells.all (·.oneCell') = true := by kernel_rfl
set_option maxRecDepth 100000 in
set_option maxHeartbeats 1000000 in
theorem both_wave (w : World) : Calls Try.prog 165 #[] w fun e w' => e = .returned (.agg sqCells) ∧ Below w.heap.size w w' := by
  go_enter Try.func165, Try.ntmps165
  go_wp2_with (first
    | (go_at_call 184; have qq := b1; go_must (refine (valuesB _ _ (by simp)).mono ?_; rintro e w2 ⟨rfl, hb2⟩; have b2 : Below w.heap.size w w2 := Below.step (by go_grown) hb2; have HZ2 := hide (Blk.bel2 hb2 (by exact HZ.out.alloc _) (by have := HZ.out.lt; simp; omega)); clear hb2 qq; simp only []))
    | (go_at_call 184; go_must (refine (valuesA _ _ (by simp)).mono ?_; rintro e w1 ⟨rfl, hb1⟩; have b1 : Below w.heap.size w w1 := Below.step (by go_grown) hb1; have HZ := hide (Blk.bel2 hb1 (show Blk _ w.heap.size 215 zero62 from (Blk.new w _ _).alloc _) (by simp; omega)); have z1 := b1.size; clear hb1; simp only []))
    | (refine wpList_buildTo rfl 215 _ rfl (some 5) rfl sqCells built_sq ?_)
    | (refine wpList_store_row rfl 215 (.tmp 0) (.tmp 5) rfl w.heap.size sqCells rfl rfl 215 zero62 HZ2.out (by kernel_rfl) (by kernel_rfl) sq_one ?_))
  exact bodyPost_ret (results_cell_row rfl _ _ w.heap.size 215 sqCells (0, 0) _ rfl (HZ2.out.row sqCells) Try.underlying215 rfl (by kernel_rfl)) rfl ⟨rfl, Below.row b2 (Nat.le_refl _) _⟩
end Go.Proofs.Ythfmjohbokpceaa
