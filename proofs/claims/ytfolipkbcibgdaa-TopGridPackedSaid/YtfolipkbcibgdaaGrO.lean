import Derived.Test.YtfolipkbcibgdaaGrN
import Derived.Test.YtfolipkbcibgdaaGrE
namespace Go.Proofs.Ytfolipkbcibgdaa
open Go.RowKit Go.WideShapes Go.ChangeShapes

/-! errors of what is right: parts, boxes, allocations -/
theorem unless_yes (e : Int) (w : World) : Calls Try.prog 23 #[.bool true, .int .i64 e] w fun x w' => x = .returned (.int .i64 0) ∧ w = w' := unless_any true e w
section
variable (W : World) (n : Nat)
theorem first_z1 (hn : W.heap.size = n) : Calls Try.prog 20 #[.slice (some ⟨n, 0, none⟩) 1 1] (W.alloc (.cells #[.int .i64 0] 35)) fun x w' => x = .returned (.int .i64 0) ∧ (W.alloc (.cells #[.int .i64 0] 35)) = w' :=
  first_any _ 1 [0] _ (Sl.new W (iv [0]) _ n hn) (by simp)
theorem first_z1d (hn : W.heap.size = n) : Calls Try.prog 20 #[.slice (some ⟨n, 0, none⟩) 1 1] (W.alloc (.cells #[.int .i64 0] 35)).drew fun x w' => x = .returned (.int .i64 0) ∧ (W.alloc (.cells #[.int .i64 0] 35)).drew = w' :=
  first_any _ 1 [0] _ (Sl.new W (iv [0]) _ n hn).drew (by simp)
theorem first_z2 (hn : W.heap.size = n) : Calls Try.prog 20 #[.slice (some ⟨n, 0, none⟩) 2 2] (W.alloc (.cells #[.int .i64 0, .int .i64 0] 35)) fun x w' => x = .returned (.int .i64 0) ∧ (W.alloc (.cells #[.int .i64 0, .int .i64 0] 35)) = w' :=
  first_any _ 2 [0, 0] _ (Sl.new W (iv [0, 0]) _ n hn) (by simp)
theorem first_z2d (hn : W.heap.size = n) : Calls Try.prog 20 #[.slice (some ⟨n, 0, none⟩) 2 2] (W.alloc (.cells #[.int .i64 0, .int .i64 0] 35)).drew fun x w' => x = .returned (.int .i64 0) ∧ (W.alloc (.cells #[.int .i64 0, .int .i64 0] 35)).drew = w' :=
  first_any _ 2 [0, 0] _ (Sl.new W (iv [0, 0]) _ n hn).drew (by simp)
theorem first_z3 (hn : W.heap.size = n) : Calls Try.prog 20 #[.slice (some ⟨n, 0, none⟩) 3 3] (W.alloc (.cells #[.int .i64 0, .int .i64 0, .int .i64 0] 35)) fun x w' => x = .returned (.int .i64 0) ∧ (W.alloc (.cells #[.int .i64 0, .int .i64 0, .int .i64 0] 35)) = w' :=
  first_any _ 3 [0, 0, 0] _ (Sl.new W (iv [0, 0, 0]) _ n hn) (by simp)
theorem first_z3d (hn : W.heap.size = n) : Calls Try.prog 20 #[.slice (some ⟨n, 0, none⟩) 3 3] (W.alloc (.cells #[.int .i64 0, .int .i64 0, .int .i64 0] 35)).drew fun x w' => x = .returned (.int .i64 0) ∧ (W.alloc (.cells #[.int .i64 0, .int .i64 0, .int .i64 0] 35)).drew = w' :=
  first_any _ 3 [0, 0, 0] _ (Sl.new W (iv [0, 0, 0]) _ n hn).drew (by simp)
theorem first_z4 (hn : W.heap.size = n) : Calls Try.prog 20 #[.slice (some ⟨n, 0, none⟩) 4 4] (W.alloc (.cells #[.int .i64 0, .int .i64 0, .int .i64 0, .int .i64 0] 35)) fun x w' => x = .returned (.int .i64 0) ∧ (W.alloc (.cells #[.int .i64 0, .int .i64 0, .int .i64 0, .int .i64 0] 35)) = w' :=
  first_any _ 4 [0, 0, 0, 0] _ (Sl.new W (iv [0, 0, 0, 0]) _ n hn) (by simp)
theorem first_z4d (hn : W.heap.size = n) : Calls Try.prog 20 #[.slice (some ⟨n, 0, none⟩) 4 4] (W.alloc (.cells #[.int .i64 0, .int .i64 0, .int .i64 0, .int .i64 0] 35)).drew fun x w' => x = .returned (.int .i64 0) ∧ (W.alloc (.cells #[.int .i64 0, .int .i64 0, .int .i64 0, .int .i64 0] 35)).drew = w' :=
  first_any _ 4 [0, 0, 0, 0] _ (Sl.new W (iv [0, 0, 0, 0]) _ n hn).drew (by simp)
theorem first_z5 (hn : W.heap.size = n) : Calls Try.prog 20 #[.slice (some ⟨n, 0, none⟩) 5 5] (W.alloc (.cells #[.int .i64 0, .int .i64 0, .int .i64 0, .int .i64 0, .int .i64 0] 35)) fun x w' => x = .returned (.int .i64 0) ∧ (W.alloc (.cells #[.int .i64 0, .int .i64 0, .int .i64 0, .int .i64 0, .int .i64 0] 35)) = w' :=
  first_any _ 5 [0, 0, 0, 0, 0] _ (Sl.new W (iv [0, 0, 0, 0, 0]) _ n hn) (by simp)
theorem first_z5d (hn : W.heap.size = n) : Calls Try.prog 20 #[.slice (some ⟨n, 0, none⟩) 5 5] (W.alloc (.cells #[.int .i64 0, .int .i64 0, .int .i64 0, .int .i64 0, .int .i64 0] 35)).drew fun x w' => x = .returned (.int .i64 0) ∧ (W.alloc (.cells #[.int .i64 0, .int .i64 0, .int .i64 0, .int .i64 0, .int .i64 0] 35)).drew = w' :=
  first_any _ 5 [0, 0, 0, 0, 0] _ (Sl.new W (iv [0, 0, 0, 0, 0]) _ n hn).drew (by simp)
end
theorem subframeErr_ok (n : Int) (w : World) (h : 0 ≤ n ∧ n ≤ 10239) : Calls Try.prog 22 #[.int .i64 n] w fun e w' => e = .returned (.int .i64 0) ∧ w = w' := by
  go_enter Try.func22, Try.ntmps22
  go_wp2_with (first | (go_at_call 37; go_must (refine (within_yes _ _ _ (by omega) _).mono ?_; rintro e w' ⟨rfl, rfl⟩; simp only [])) | (go_at_call 23; go_must (refine (unless_yes _ _).mono ?_; rintro e w' ⟨rfl, rfl⟩; simp only [])))
  go_ret
  exact ⟨rfl, rfl⟩
theorem cpartErr_ok (nmv : Value) (ce wi : Int) (PA SA : Option Addr) (pn pc sn sc : Nat) (n : Int) (w : World) (h : 0 ≤ n ∧ n < (pn : Int)) (hp : pn ≤ 4) :
    Calls Try.prog 21 #[.agg #[nmv, .int .i64 ce, .int .i64 wi, .slice PA pn pc, .slice SA sn sc], .int .i64 n] w fun e w' => e = .returned (.int .i64 0) ∧ Below w.heap.size w w' := by
  have w1 : IntKind.i64.wrap ((pn : Int) - 1) = (pn : Int) - 1 := IntWalk.i64_in _ (by omega)
  go_enter Try.func21, Try.ntmps21
  go_wp2_with (first | (go_at_call 37; go_must (refine (within_yes _ _ _ (by omega) _).mono ?_; rintro e w' ⟨rfl, rfl⟩; simp only [])) | (go_at_call 23; go_must (refine (unless_yes _ _).mono ?_; rintro e w' ⟨rfl, rfl⟩; simp only [])))
  go_ret
  exact ⟨rfl, (Below.refl _ _).alloc (Nat.le_refl _) _⟩
theorem rangeErr_ok (sy sn bk bn mu fi bl : Int) (w : World) (h1 : 0 ≤ sy ∧ sy ≤ 13) (h2 : 1 ≤ sn ∧ sn ≤ 14) (h3 : 0 ≤ bk ∧ bk ≤ bl - 1) (h4 : 1 ≤ bn ∧ bn ≤ bl) (h5 : bl ≤ 24) :
    Calls Try.prog 43 #[.agg #[.int .i64 sy, .int .i64 sn, .int .i64 bk, .int .i64 bn], .agg #[.int .i64 mu, .int .i64 fi, .int .i64 bl]] w fun e w' => e = .returned (.int .i64 0) ∧ Below w.heap.size w w' := by
  have w1 : IntKind.i64.wrap (bl - 1) = bl - 1 := IntWalk.i64_in _ (by omega)
  have HB := hide (((Below.refl _ w).alloc (Nat.le_refl _) (.cells #[.int .i64 sy, .int .i64 sn, .int .i64 bk, .int .i64 bn] 90)).alloc (by simp) (.cells #[.int .i64 mu, .int .i64 fi, .int .i64 bl] 56))
  go_enter Try.func43, Try.ntmps43
  go_wp2_with (first | (go_at_call 37; go_must (refine (within_yes _ _ _ (by omega) _).mono ?_; rintro e w' ⟨rfl, rfl⟩; simp only [])) | (go_at_call 23; go_must (refine (unless_yes _ _).mono ?_; rintro e w' ⟨rfl, rfl⟩; simp only [])))
  go_ret
  exact ⟨rfl, HB.out⟩
theorem breakErr_ok (sy sn bk bn mu fi bl : Int) (w : World) (h1 : 0 ≤ sy ∧ 0 ≤ sn ∧ sy + sn ≤ 14) (h3 : 0 ≤ bk ∧ 0 ≤ bn ∧ bk + bn ≤ bl) (h5 : bl ≤ 24) :
    Calls Try.prog 44 #[.agg #[.int .i64 sy, .int .i64 sn, .int .i64 bk, .int .i64 bn], .agg #[.int .i64 mu, .int .i64 fi, .int .i64 bl]] w fun e w' => e = .returned (.int .i64 0) ∧ Below w.heap.size w w' := by
  have w1 : IntKind.i64.wrap (sy + sn) = sy + sn := IntWalk.i64_in _ (by omega)
  have w2 : IntKind.i64.wrap (bk + bn) = bk + bn := IntWalk.i64_in _ (by omega)
  have d1 : decide (sy + sn ≤ 14) = true := decide_eq_true h1.2.2
  have d2 : decide (bk + bn ≤ bl) = true := decide_eq_true h3.2.2
  have HB := hide (((Below.refl _ w).alloc (Nat.le_refl _) (.cells #[.int .i64 sy, .int .i64 sn, .int .i64 bk, .int .i64 bn] 90)).alloc (by simp) (.cells #[.int .i64 mu, .int .i64 fi, .int .i64 bl] 56))
  go_enter Try.func44, Try.ntmps44
  go_wp2_with (first | (go_at_call 37; go_must (refine (within_yes _ _ _ (by omega) _).mono ?_; rintro e w' ⟨rfl, rfl⟩; simp only [])) | (go_at_call 23; go_must (refine (unless_yes _ _).mono ?_; rintro e w' ⟨rfl, rfl⟩; simp only [])))
  go_ret
  exact ⟨rfl, HB.out⟩
theorem boxIn_ok (pa sf sl sy sn bk bn : Int) (w : World) :
    Calls Try.prog 42 #[.agg #[.int .i64 pa, .int .i64 sf, .int .i64 sl, .int .i64 sy, .int .i64 sn, .int .i64 bk, .int .i64 bn]] w fun e w' => e = .returned (.agg #[.int .i64 sy, .int .i64 sn, .int .i64 bk, .int .i64 bn]) ∧ Below w.heap.size w w' := by
  have HB := hide (((Below.refl _ w).alloc (Nat.le_refl _) (.cells #[.int .i64 pa, .int .i64 sf, .int .i64 sl, .int .i64 sy, .int .i64 sn, .int .i64 bk, .int .i64 bn] 34)).alloc (by simp) (.cells #[.int .i64 sy, .int .i64 sn, .int .i64 bk, .int .i64 bn] 90))
  go_enter Try.func42, Try.ntmps42
  go_wp2_with fail
  refine bodyPost_ret (v := .agg #[.int .i64 sy, .int .i64 sn, .int .i64 bk, .int .i64 bn]) ?_ rfl ⟨rfl, HB.out⟩
  simp [results, Try.results42, go_sem]
end Go.Proofs.Ytfolipkbcibgdaa
