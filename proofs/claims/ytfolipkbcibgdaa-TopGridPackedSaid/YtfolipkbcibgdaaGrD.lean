import Derived.Test.YtfolipkbcibgdaaGrU
import Derived.Laws.IdiomStrings
namespace Go.Proofs.Ytfolipkbcibgdaa
open Go.RowKit Go.WideShapes Go.ChangeShapes

/-! names -/
abbrev Bs := List UInt8
def strV (l : Bs) : Value := .string ⟨l.toArray⟩
theorem str_size (l : Bs) : (ByteArray.mk l.toArray).size = l.length := by show l.toArray.size = _; simp
theorem len_str (l : Bs) (t : TypeId) (W : World) : (Builtin.len_ #[9] t #[strV l]).run Try.prog W = .ok (.int .i64 (l.length : Int)) W := by
  unfold strV
  rw [run_len_string _ _ _ _ Try.underlying9, str_size]; rfl
theorem idx_str (l : Bs) (k : Nat) (hk : k < l.length) (W : World) : (Instr.index 9 (strV l) (.int .i64 (k : Int))).run Try.prog W = .ok (.int .u8 (l[k].toNat : Int)) W := by
  unfold strV
  rw [run_index_string _ _ _ _ _ Try.underlying9, dif_pos ⟨by omega, by rw [str_size]; omega⟩]
  rfl
theorem eq_str (l m : Bs) (W : World) : (binOp .eql 9 (strV l) (strV m)).run Try.prog W = .ok (.bool (l == m)) W := by
  unfold strV
  rw [binOp_string_eql, ByteArray.toList_mk, ByteArray.toList_mk]; rfl
theorem ne_str (l m : Bs) (W : World) : (binOp .neq 9 (strV l) (strV m)).run Try.prog W = .ok (.bool (!(l == m))) W := by
  unfold strV
  rw [binOp_string_neq, ByteArray.toList_mk, ByteArray.toList_mk]; rfl
theorem eqG_str (op : BinOp) (x y : Operand) (l : Bs) (v : Value) : eqGuard op 9 x y (strV l) v = pure () := by cases op <;> rfl
/-- a byte that may stand at a place of a name -/
def nmC (i : Nat) (x : Int) : Bool := (decide (97 ≤ x) && decide (x ≤ 122)) || (decide (65 ≤ x) && decide (x ≤ 90)) || (decide (i ≠ 0) && (decide (x = 45) || (decide (48 ≤ x) && decide (x ≤ 57))))
/-- a right name -/
structure OkN (s : Bs) : Prop where
  pos : 0 < s.length
  few : s.length ≤ 12
  in_ : ∀ k (h : k < s.length), nmC k (s[k].toNat : Int) = true
theorem nm_cases (x : Int) : (97 ≤ x ∧ x ≤ 122) ∨ (¬ 97 ≤ x ∧ 65 ≤ x ∧ x ≤ 90) ∨ (¬ 97 ≤ x ∧ ¬ 65 ≤ x ∧ 57 < x ∧ ¬ x < 48 ∧ x ≠ 45) ∨ (¬ 97 ≤ x ∧ ¬ 65 ≤ x ∧ ¬ 57 < x ∧ ¬ x < 48 ∧ x ≠ 45) ∨ (¬ 97 ≤ x ∧ ¬ 65 ≤ x ∧ x < 48 ∧ x ≠ 45) ∨ (¬ 97 ≤ x ∧ ¬ 65 ≤ x ∧ x = 45) ∨ (¬ 97 ≤ x ∧ 65 ≤ x ∧ ¬ x ≤ 90 ∧ 57 < x ∧ ¬ x < 48 ∧ x ≠ 45) ∨ (97 ≤ x ∧ ¬ x ≤ 122 ∧ 65 ≤ x ∧ ¬ x ≤ 90 ∧ 57 < x ∧ ¬ x < 48 ∧ x ≠ 45) := by omega
def NameR (s : Bs) (w : World) (e : Ending) (w' : World) : Prop := ∃ v : Bool, e = .returned (.bool v) ∧ (v = true → OkN s) ∧ w = w'
set_option maxRecDepth 100000 in
set_option maxHeartbeats 4000000 in
theorem isName_base (s : Bs) (w : World) (hl : s.length ≤ 1000000) :
    Calls Try.prog 39 #[strV s] w (NameR s w) := by
  have hlen := fun t W => len_str s t W
  by_cases h0 : s.length < 1
  · have g0 : (s.length : Int) < 1 := by omega
    clear h0
    go_enter Try.func39, Try.ntmps39
    go_wp2
    go_ret
    exact ⟨false, rfl, fun h => absurd h (by decide), rfl⟩
  have g0 : ¬ (s.length : Int) < 1 := by omega
  by_cases h12 : 12 < s.length
  · have g1 : (12 : Int) < (s.length : Int) := by omega
    clear h12 h0
    go_enter Try.func39, Try.ntmps39
    go_wp2
    go_ret
    exact ⟨false, rfl, fun h => absurd h (by decide), rfl⟩
  have g1 : ¬ (12 : Int) < (s.length : Int) := by omega
  have HN := hide (show 0 < s.length ∧ s.length ≤ 12 by omega)
  clear h0 h12
  go_enter Try.func39, Try.ntmps39
  go_wp2
  go_loopw [3] (fun i wr => ∃ k : Nat, k ≤ s.length ∧ i = .int .i64 k ∧ (∀ j (h : j < s.length), j < k → nmC j (s[j].toNat : Int) = true) ∧ w = wr) (fun i _ => s.length - (intOf i).toNat)
  case atStart => exact ⟨0, Nat.zero_le _, rfl, fun j _ hj => absurd hj (by omega), rfl⟩
  case round =>
    obtain ⟨k, hk, rfl, hpre, rfl⟩ := hrel
    have HPRE := hide hpre
    clear hpre
    by_cases hlt : k < s.length
    · have hidx := fun W => idx_str s k hlt W
      obtain ⟨x, hx⟩ : ∃ x : Int, (s[k].toNat : Int) = x := ⟨_, rfl⟩
      rw [hx] at hidx
      have HX := hide hx
      have hki : (k : Int) < (s.length : Int) := by omega
      have hnext := hide (fun (hc : nmC k x = true) j (h : j < s.length) (hj : j < k + 1) => show nmC j (s[j].toNat : Int) = true from by
        by_cases q : j < k
        · exact HPRE.out j h q
        · obtain rfl : j = k := by omega
          rw [hx]; exact hc)
      clear hx
      have hkk : k = 0 ∨ k ≠ 0 := by omega
      rcases hkk with hk0 | hk0
      · have hkz : ((k : Int) == 0) = true := by simp [hk0]
        have HK := hide hk0; clear hk0
        rcases nm_cases x with ⟨c1, c2⟩ | ⟨c1, c2, c3⟩ | ⟨c1, c2, c3, c4, c5⟩ | ⟨c1, c2, c3, c4, c5⟩ | ⟨c1, c2, c3, c4⟩ | ⟨c1, c2, c3⟩ | ⟨c1, c2, c3, c4, c5, c6⟩ | ⟨c1, c2, c3, c4, c5, c6, c7⟩
        all_goals
          go_wp2
          first
            | (go_ret; exact ⟨false, rfl, fun h => absurd h (by decide), rfl⟩)
            | (go_roundw
               case rel => exact ⟨k + 1, by omega, by go_num, hnext.out (by unfold nmC; simp; omega), by first | rfl | trivial⟩
               case measure => simp [intOf]; omega)
      · have hkz : ((k : Int) == 0) = false := by rw [beq_eq_false_iff_ne]; omega
        have HK := hide hk0; clear hk0
        rcases nm_cases x with ⟨c1, c2⟩ | ⟨c1, c2, c3⟩ | ⟨c1, c2, c3, c4, c5⟩ | ⟨c1, c2, c3, c4, c5⟩ | ⟨c1, c2, c3, c4⟩ | ⟨c1, c2, c3⟩ | ⟨c1, c2, c3, c4, c5, c6⟩ | ⟨c1, c2, c3, c4, c5, c6, c7⟩
        all_goals
          go_wp2
          first
            | (go_ret; exact ⟨false, rfl, fun h => absurd h (by decide), rfl⟩)
            | (go_roundw
               case rel => exact ⟨k + 1, by omega, by go_num, hnext.out (by have := HK.out; unfold nmC; simp; omega), by first | rfl | trivial⟩
               case measure => simp [intOf]; omega)
    · have HF := hide (show OkN s from ⟨HN.out.1, HN.out.2, fun j h => HPRE.out j h (by omega)⟩)
      go_wp2
      go_ret
      exact ⟨true, rfl, fun _ => HF.out, rfl⟩
end Go.Proofs.Ytfolipkbcibgdaa
