import Derived.Test.YtfolipkbcibgdaaGrA
import Derived.Test.YtfolipkbcibgdaaMem2
namespace Go.Proofs.Ytfolipkbcibgdaa
open Go.RowKit Go.WideShapes Go.ChangeShapes

/-- the first error -/
def firstOf : List Int → Int
  | [] => 0
  | x :: r => if x = 0 then firstOf r else x
theorem firstOf_skip (l : List Int) (k : Nat) (hk : k < l.length) (h0 : l[k] = 0) : firstOf (l.drop k) = firstOf (l.drop (k+1)) := by
  rw [List.drop_eq_getElem_cons hk]; exact if_pos h0
theorem firstOf_hit (l : List Int) (k : Nat) (hk : k < l.length) (h0 : l[k] ≠ 0) : firstOf (l.drop k) = l[k] := by
  rw [List.drop_eq_getElem_cons hk]; exact if_neg h0
theorem firstOf_ok {l : List Int} (h : firstOf l = 0) : ∀ x ∈ l, x = 0 := by
  induction l with
  | nil => simp
  | cons y r ih =>
    rw [firstOf] at h
    by_cases hy : y = 0
    · rw [if_pos hy] at h
      intro x hx
      rcases List.mem_cons.1 hx with rfl | hx
      · exact hy
      · exact ih h x hx
    · rw [if_neg hy] at h
      exact absurd h hy
theorem firstOf_zero {l : List Int} (h : ∀ x ∈ l, x = 0) : firstOf l = 0 := by
  induction l with
  | nil => rfl
  | cons y r ih => rw [firstOf, if_pos (h y (by simp))]; exact ih fun x hx => h x (by simp [hx])
theorem first_any (A : Option Addr) (c : Nat) (l : List Int) (w : World) (hs : Sl w A (iv l)) (hl : l.length ≤ 1000) :
   Calls Try.prog 20 #[.slice A l.length c] w fun x w' => x = .returned (.int .i64 (firstOf l)) ∧ w = w' := by
  have HS := hide hs; clear hs
  go_enter Try.func20, Try.ntmps20
  go_wp2
  go_loop [7] (fun i => ∃ k : Nat, k ≤ l.length ∧ i = .int .i64 k ∧ firstOf l = firstOf (l.drop k)) (fun i => l.length - (intOf i).toNat)
  case atStart => exact ⟨0, Nat.zero_le _, rfl, by simp⟩
  case round =>
    obtain ⟨k, hk, rfl, he⟩ := hrel
    have HE := hide he; clear he
    by_cases hlt : k < l.length
    · obtain ⟨b, off, rfl, hc⟩ := HS.out.int hlt
      by_cases h0 : l[k] = 0
      · have hh := firstOf_skip l k hlt h0
        have HH := hide hh; clear hh
        go_wp2
        go_round
        case rel => exact ⟨k + 1, by omega, by go_num, by rw [HE.out, HH.out]⟩
        case measure => simp [intOf]; omega
      · have hh := firstOf_hit l k hlt h0
        have HH := hide hh; clear hh
        go_wp2
        go_ret
        exact ⟨by rw [HE.out, HH.out]; rfl, rfl⟩
    · go_wp2
      go_ret
      exact ⟨by rw [HE.out, List.drop_eq_nil_of_le (by omega)]; rfl, rfl⟩
section
variable (W : World) (n : Nat)
theorem first2 (e0 e1 : Int) (hn : W.heap.size = n) : Calls Try.prog 20 #[.slice (some ⟨n, 0, none⟩) 2 2] (W.alloc (.cells #[.int .i64 e0, .int .i64 e1] 35)) fun x w' =>
    x = .returned (.int .i64 (firstOf [e0, e1])) ∧ (W.alloc (.cells #[.int .i64 e0, .int .i64 e1] 35)) = w' := first_any _ 2 [e0, e1] _ (Sl.new W (iv [e0, e1]) _ n hn) (by simp)
theorem first2d (e0 e1 : Int) (hn : W.heap.size = n) : Calls Try.prog 20 #[.slice (some ⟨n, 0, none⟩) 2 2] (W.alloc (.cells #[.int .i64 e0, .int .i64 e1] 35)).drew fun x w' =>
    x = .returned (.int .i64 (firstOf [e0, e1])) ∧ (W.alloc (.cells #[.int .i64 e0, .int .i64 e1] 35)).drew = w' := first_any _ 2 [e0, e1] _ (Sl.new W (iv [e0, e1]) _ n hn).drew (by simp)
theorem first3 (e0 e1 e2 : Int) (hn : W.heap.size = n) : Calls Try.prog 20 #[.slice (some ⟨n, 0, none⟩) 3 3] (W.alloc (.cells #[.int .i64 e0, .int .i64 e1, .int .i64 e2] 35)) fun x w' =>
    x = .returned (.int .i64 (firstOf [e0, e1, e2])) ∧ (W.alloc (.cells #[.int .i64 e0, .int .i64 e1, .int .i64 e2] 35)) = w' := first_any _ 3 [e0, e1, e2] _ (Sl.new W (iv [e0, e1, e2]) _ n hn) (by simp)
theorem first3d (e0 e1 e2 : Int) (hn : W.heap.size = n) : Calls Try.prog 20 #[.slice (some ⟨n, 0, none⟩) 3 3] (W.alloc (.cells #[.int .i64 e0, .int .i64 e1, .int .i64 e2] 35)).drew fun x w' =>
    x = .returned (.int .i64 (firstOf [e0, e1, e2])) ∧ (W.alloc (.cells #[.int .i64 e0, .int .i64 e1, .int .i64 e2] 35)).drew = w' := first_any _ 3 [e0, e1, e2] _ (Sl.new W (iv [e0, e1, e2]) _ n hn).drew (by simp)
end

/-- e unless b -/
def unlessE (b : Bool) (e : Int) : Int := if b then 0 else e
theorem unless_any (b : Bool) (e : Int) (w : World) : Calls Try.prog 23 #[.bool b, .int .i64 e] w fun x w' => x = .returned (.int .i64 (unlessE b e)) ∧ w = w' := by
  cases b <;> (go_enter Try.func23, Try.ntmps23; go_wp2; go_ret; exact ⟨rfl, rfl⟩)
theorem within_gr (n lo hi : Int) (w : World) : Calls Try.prog 37 #[.int .i64 n, .int .i64 lo, .int .i64 hi] w fun x w' => x = .returned (.bool (withinB n lo hi)) ∧ w = w' := by
  unfold withinB
  by_cases h : lo ≤ n
  · go_enter Try.func37, Try.ntmps37; go_wp2; go_ret; exact ⟨by simp [h], rfl⟩
  · go_enter Try.func37, Try.ntmps37; go_wp2; go_ret; exact ⟨by rw [decide_eq_false (by omega : ¬ lo ≤ n)]; rfl, rfl⟩
end Go.Proofs.Ytfolipkbcibgdaa
