import Derived.Test.YtamkannjdbodpaaDoorTxD
namespace Go.Proofs.YtamkannjdbodpaaDoor
open Go.RowKit Go.WideShapes Go.ChangeShapes

/-! rules for texts in walks -/
def svL (ws : List Bs) : List Value := ws.map strV
theorem svL_len (ws : List Bs) : (svL ws).length = ws.length := by simp [svL]
theorem svL_app (a b : List Bs) : svL (a ++ b) = svL a ++ svL b := by simp [svL]
theorem svL_one (ws : List Bs) : ∀ u ∈ svL ws, u.oneCell' = true := by
  intro u hu
  obtain ⟨x, _, rfl⟩ := List.mem_map.1 hu
  rfl
theorem ss_info : (Tryd.prog.info? 9).map (fun i => (i.zero, i.size, i.bytes)) = some (some (.string ⟨#[]⟩), 1, 16) := by kernel_rfl
theorem str_size (l : Bs) : (ByteArray.mk l.toArray).size = l.length := by show l.toArray.size = _; simp
theorem len_str (l : Bs) (t : TypeId) (W : World) : (Builtin.len_ #[9] t #[strV l]).run Tryd.prog W = .ok (.int .i64 (l.length : Int)) W := by
  unfold strV
  rw [run_len_string _ _ _ _ Tryd.underlying9, str_size]; rfl
theorem idx_str (l : Bs) (k : Nat) (hk : k < l.length) (W : World) : (Instr.index 9 (strV l) (.int .i64 (k : Int))).run Tryd.prog W = .ok (.int .u8 (l[k].toNat : Int)) W := by
  unfold strV
  rw [run_index_string _ _ _ _ _ Tryd.underlying9, dif_pos ⟨by omega, by rw [str_size]; omega⟩]
  rfl
theorem slice_mid (l : Bs) (i k : Nat) (hi : i ≤ k) (hk : k ≤ l.length) (W : World) : (Instr.slice 9 (strV l) (some (.int .i64 (i : Int))) (some (.int .i64 (k : Int))) none).run Tryd.prog W = .ok (.string ⟨((l.drop i).take (k - i)).toArray⟩) W := by
  unfold strV
  rw [run_slice_string _ _ _ _ _ _ _ Tryd.underlying9 (by omega) (by omega) (by rw [str_size]; omega), Int.toNat_natCast, Int.toNat_natCast, ByteArray.extract_mk]
theorem eq_str (l m : Bs) (W : World) : (binOp .eql 9 (strV l) (strV m)).run Tryd.prog W = .ok (.bool (l == m)) W := by
  unfold strV
  rw [binOp_string_eql, ByteArray.toList_mk, ByteArray.toList_mk]; rfl
theorem ne_str (l m : Bs) (W : World) : (binOp .neq 9 (strV l) (strV m)).run Tryd.prog W = .ok (.bool (!(l == m))) W := by
  unfold strV
  rw [binOp_string_neq, ByteArray.toList_mk, ByteArray.toList_mk]; rfl
theorem eqG_str (op : BinOp) (x y : Operand) (l : Bs) (v : Value) : eqGuard op 9 x y (strV l) v = pure () := by cases op <;> rfl
theorem reads_one (w : World) (a : Value) (t : TypeId) : Reads (w.alloc (.cells #[a] t)) (w.heap.size + 1) 1 (some ⟨w.heap.size, 0, none⟩) 1 [a] :=
  ⟨rfl, fun _ => ⟨_, rfl, by simp, fun j u hu => cell_one_new _ _ _ j u hu⟩⟩
end Go.Proofs.YtamkannjdbodpaaDoor
