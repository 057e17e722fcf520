import Derived.Test.YtehcmhblppjalaaSyG
namespace Go.Proofs.Ytehcmhblppjalaa
open Go.RowKit Go.WideShapes Go.ChangeShapes

/-! the bits of a word; the period; the register behind (program) -/
def stL (x : Nat) : Nat → List Int
  | 0 => []
  | k + 1 => stL x k ++ [((x / 2 ^ k % 2 : Nat) : Int)]
theorem stL_len (x : Nat) : ∀ k, (stL x k).length = k
  | 0 => rfl
  | k + 1 => by simp [stL, stL_len x k]
theorem stL_at (x : Nat) : ∀ k i, i < k → (stL x k)[i]?.getD 0 = ((x / 2 ^ i % 2 : Nat) : Int)
  | k + 1, i, h => by
    unfold stL
    by_cases e : i < k
    · rw [List.getElem?_append_left (by rw [stL_len]; exact e)]; exact stL_at x k i e
    · obtain rfl : i = k := by omega
      rw [List.getElem?_append_right (by rw [stL_len]; exact Nat.le_refl _), stL_len, Nat.sub_self]; rfl
theorem wd_stL (x n : Nat) : ∀ k, k ≤ n → wdB (stL x n) k = x % 2 ^ k
  | 0, _ => by show 0 = x % 1; omega
  | k + 1, hk => by
    have h1 := wd_stL x n k (by omega)
    have h2 : bN (stL x n) k = x / 2 ^ k % 2 := by unfold bN; rw [stL_at x n k (by omega)]; rfl
    show wdB (stL x n) k ||| bN (stL x n) k * 2 ^ k = _
    rw [h1, h2, Nat.or_comm, Nat.mul_comm, ← Nat.two_pow_add_eq_or_of_lt (Nat.mod_lt _ (Nat.pow_pos (by decide))), Nat.mod_pow_succ, Nat.add_comm]
set_option maxRecDepth 100000 in
set_option maxHeartbeats 4000000 in
theorem state_sy (x tp top : Nat) (w : World) (hx : x < 65536) (htop : top < 10) :
    Calls Try.prog 36 #[.agg (wrA x tp top)] w fun e w' => ∃ C q, e = .returned (.slice C (top + 1) q) ∧ w'.ownsRow w.heap.size 3 1 (.slice C (top + 1) q) (top + 1) (iv (stL x (top + 1))) ∧ Below w.heap.size w w' := by
  obtain ⟨i0, hi0, hz0, hz1, hz2⟩ := info_parts int_info
  have HSN := hide (show ∀ k, iv (stL x (k + 1)) = iv (stL x k) ++ [.int .i64 ((x / 2 ^ k % 2 : Nat) : Int)] from fun k => by rw [show stL x (k + 1) = stL x k ++ [((x / 2 ^ k % 2 : Nat) : Int)] from rfl]; simp [iv])
  have HX := hide (stay_new w 55 (wrA x tp top))
  have HXB := hide (show Below w.heap.size w (w.alloc (.cells (wrA x tp top) 55)) from by go_grown)
  have HR0 := hide (show iv (stL x 0) = [] from rfl)
  go_enter Try.func36, Try.ntmps36
  go_wp2
  obtain ⟨v, hv⟩ : ∃ W, w.alloc (.cells (wrA x tp top) 55) = W := ⟨_, rfl⟩
  rw [hv] at HX HXB
  rw [show w.alloc (.cells #[.int .u16 (x : Int), .int .u16 (tp : Int), .int .i64 (top : Int)] 55) = v from hv]
  clear hv
  go_loopw [3, 8] (fun o i wr => ∃ (k : Nat) (C : Option Addr) (c1 : Nat), k ≤ top + 1 ∧ i = .int .i64 k ∧ o = .slice C k c1 ∧ wr.ownsRow v.heap.size 3 1 (.slice C k c1) k (iv (stL x k)) ∧ Below v.heap.size v wr) (fun _ i _ => top + 1 - (intOf i).toNat)
  case atStart => exact ⟨0, none, 0, Nat.zero_le _, rfl, rfl, by rw [HR0.out]; exact World.ownsRow_nil _ _ _ _, Below.refl _ _⟩
  case round =>
    obtain ⟨k, C, c1, hk, rfl, rfl, hrow, hbel⟩ := hrel
    have hbz := hbel.size
    have HROW := hide hrow
    have HBE := hide hbel
    have d0 := (HX.out wr hbel).cell 0
    clear hrow hbel
    by_cases hlt : k < top + 1
    · have HS := hide (HSN.out k)
      have hd1 : x / 2 ^ k < 65536 := Nat.lt_of_le_of_lt (Nat.div_le_self _ _) hx
      have e1 : (x : Int) / 2 ^ k = ((x / 2 ^ k : Nat) : Int) := by push_cast; rfl
      obtain ⟨Y, hY⟩ : ∃ Y, x / 2 ^ k = Y := ⟨_, rfl⟩
      rw [hY] at e1 hd1 HS
      have m1 : min k 16 = k := by omega
      obtain ⟨o, ho⟩ : ∃ o, Y % 2 = o := ⟨_, rfl⟩
      have b1 : bits .and .u16 (Y : Int) 1 = (o : Int) := by have := and_u16 (a := Y) (b := 1) hd1 (by omega); rw [Nat.and_one_is_mod, ho] at this; exact this
      have b1' : wrap64 (o : Int) = (o : Int) := by unfold wrap64; omega
      rw [ho] at HS
      have g1 : (0 : Int) ≤ (k : Int) := by omega
      have g2 : (k : Int) < (top : Int) + 1 := by omega
      clear hY ho HSN
      go_wp2_with (at_builtin
                   refine wpList_append_any _ rfl (.tmp 11) (.tmp 18) _ rfl v.heap.size 3 i0 _ 1 8 Try.underlying22 hi0 hz0 hz1 hz2 rfl (by omega) _ k (iv (stL x k)) rfl
                     (HROW.out.alloc _) (wr.heap.size + 1) (some ⟨wr.heap.size, 0, none⟩) 1 1 [.int .i64 (o : Int)] rfl (reads_one wr (.int .i64 (o : Int)) 3) (by simp [Value.oneCell']) (by simp only [maxLen]; omega) (by omega) (by simp; omega) ?_
                   intro v' w6 hown' hgrow _)
      obtain ⟨C2, k2, rfl⟩ := own_form hown'
      go_roundw
      case rel => exact ⟨k + 1, C2, k2, by omega, by go_num, rfl, by rw [HS.out]; exact hown', Below.app HBE.out HROW.out hgrow⟩
      case measure => simp [intOf]; omega
    · obtain rfl : k = top + 1 := by omega
      clear HSN
      go_wp2
      go_ret
      exact ⟨C, c1, rfl, HROW.out.weaken HXB.out.size, Below.step HXB.out HBE.out⟩
end Go.Proofs.Ytehcmhblppjalaa
