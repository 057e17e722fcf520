import Derived.Test.YtamkannjdbodpaaDoorRefA
namespace Go.Proofs.YtamkannjdbodpaaDoor
open Go.RowKit Go.WideShapes Go.ChangeShapes

/-- the first error -/
def firstOf : List Int → Int
  | [] => 0
  | x :: r => if x = 0 then firstOf r else x
theorem firstOf_skip (l : List Int) (k : Nat) (hk : k < l.length) (h0 : l[k] = 0) : firstOf (l.drop k) = firstOf (l.drop (k+1)) := by
  rw [List.drop_eq_getElem_cons hk]; exact if_pos h0
theorem firstOf_hit (l : List Int) (k : Nat) (hk : k < l.length) (h0 : l[k] ≠ 0) : firstOf (l.drop k) = l[k] := by
  rw [List.drop_eq_getElem_cons hk]; exact if_neg h0
theorem first_any (A : Option Addr) (c : Nat) (l : List Int) (w : World) (hs : Sl w A (iv l)) (hl : l.length ≤ 1000) :
   Calls Tryd.prog 35 #[.slice A l.length c] w fun x w' => x = .returned (.int .i64 (firstOf l)) ∧ w = w' := by
  have HS := hide hs; clear hs
  go_enter Tryd.func35, Tryd.ntmps35
  go_wp2
  go_loop [7] (fun i => ∃ k : Nat, k ≤ l.length ∧ i = .int .i64 k ∧ firstOf l = firstOf (l.drop k)) (fun i => l.length - (intOf i).toNat)
  case atStart => exact ⟨0, Nat.zero_le _, rfl, by simp⟩
  case round =>
    obtain ⟨k, hk, rfl, he⟩ := hrel
    have HE := hide he; clear he
    by_cases hlt : k < l.length
    · obtain ⟨b, off, rfl, hc⟩ := HS.out.int hlt
      by_cases h0 : l[k] = 0
      · have hh := firstOf_skip l k hlt h0
        have HH := hide hh; clear hh
        go_wp2
        go_round
        case rel => exact ⟨k + 1, by omega, by go_num, by rw [HE.out, HH.out]⟩
        case measure => simp [intOf]; omega
      · have hh := firstOf_hit l k hlt h0
        have HH := hide hh; clear hh
        go_wp2
        go_ret
        exact ⟨by rw [HE.out, HH.out]; rfl, rfl⟩
    · go_wp2
      go_ret
      exact ⟨by rw [HE.out, List.drop_eq_nil_of_le (by omega)]; rfl, rfl⟩
section
variable (W : World) (n : Nat)
theorem first2 (e0 e1 : Int) (hn : W.heap.size = n) : Calls Tryd.prog 35 #[.slice (some ⟨n, 0, none⟩) 2 2] (W.alloc (.cells #[.int .i64 e0, .int .i64 e1] 29)) fun x w' =>
    x = .returned (.int .i64 (firstOf [e0, e1])) ∧ W.alloc (.cells #[.int .i64 e0, .int .i64 e1] 29) = w' := first_any _ 2 [e0, e1] _ (Sl.new W (iv [e0, e1]) _ n hn) (by simp)
theorem first2d (e0 e1 : Int) (hn : W.heap.size = n) : Calls Tryd.prog 35 #[.slice (some ⟨n, 0, none⟩) 2 2] (W.alloc (.cells #[.int .i64 e0, .int .i64 e1] 29)).drew fun x w' =>
    x = .returned (.int .i64 (firstOf [e0, e1])) ∧ (W.alloc (.cells #[.int .i64 e0, .int .i64 e1] 29)).drew = w' := first_any _ 2 [e0, e1] _ (Sl.new W (iv [e0, e1]) _ n hn).drew (by simp)
theorem first3 (e0 e1 e2 : Int) (hn : W.heap.size = n) : Calls Tryd.prog 35 #[.slice (some ⟨n, 0, none⟩) 3 3] (W.alloc (.cells #[.int .i64 e0, .int .i64 e1, .int .i64 e2] 29)) fun x w' =>
    x = .returned (.int .i64 (firstOf [e0, e1, e2])) ∧ W.alloc (.cells #[.int .i64 e0, .int .i64 e1, .int .i64 e2] 29) = w' := first_any _ 3 [e0, e1, e2] _ (Sl.new W (iv [e0, e1, e2]) _ n hn) (by simp)
theorem first3d (e0 e1 e2 : Int) (hn : W.heap.size = n) : Calls Tryd.prog 35 #[.slice (some ⟨n, 0, none⟩) 3 3] (W.alloc (.cells #[.int .i64 e0, .int .i64 e1, .int .i64 e2] 29)).drew fun x w' =>
    x = .returned (.int .i64 (firstOf [e0, e1, e2])) ∧ (W.alloc (.cells #[.int .i64 e0, .int .i64 e1, .int .i64 e2] 29)).drew = w' := first_any _ 3 [e0, e1, e2] _ (Sl.new W (iv [e0, e1, e2]) _ n hn).drew (by simp)
theorem first4 (e0 e1 e2 e3 : Int) (hn : W.heap.size = n) : Calls Tryd.prog 35 #[.slice (some ⟨n, 0, none⟩) 4 4] (W.alloc (.cells #[.int .i64 e0, .int .i64 e1, .int .i64 e2, .int .i64 e3] 29)) fun x w' =>
    x = .returned (.int .i64 (firstOf [e0, e1, e2, e3])) ∧ W.alloc (.cells #[.int .i64 e0, .int .i64 e1, .int .i64 e2, .int .i64 e3] 29) = w' := first_any _ 4 [e0, e1, e2, e3] _ (Sl.new W (iv [e0, e1, e2, e3]) _ n hn) (by simp)
theorem first4d (e0 e1 e2 e3 : Int) (hn : W.heap.size = n) : Calls Tryd.prog 35 #[.slice (some ⟨n, 0, none⟩) 4 4] (W.alloc (.cells #[.int .i64 e0, .int .i64 e1, .int .i64 e2, .int .i64 e3] 29)).drew fun x w' =>
    x = .returned (.int .i64 (firstOf [e0, e1, e2, e3])) ∧ (W.alloc (.cells #[.int .i64 e0, .int .i64 e1, .int .i64 e2, .int .i64 e3] 29)).drew = w' := first_any _ 4 [e0, e1, e2, e3] _ (Sl.new W (iv [e0, e1, e2, e3]) _ n hn).drew (by simp)
end

/-- e unless b -/
def unlessE (b : Bool) (e : Int) : Int := if b then 0 else e
theorem unless_any (b : Bool) (e : Int) (w : World) : Calls Tryd.prog 36 #[.bool b, .int .i64 e] w fun x w' => x = .returned (.int .i64 (unlessE b e)) ∧ w = w' := by
  cases b <;> (go_enter Tryd.func36, Tryd.ntmps36; go_wp2; go_ret; exact ⟨rfl, rfl⟩)

theorem within_beam (n lo hi : Int) (w : World) : Calls Tryd.prog 37 #[.int .i64 n, .int .i64 lo, .int .i64 hi] w fun x w' => x = .returned (.bool (withinB n lo hi)) ∧ w = w' := by
  unfold withinB
  by_cases h : lo ≤ n
  · go_enter Tryd.func37, Tryd.ntmps37; go_wp2; go_ret; exact ⟨by simp [h], rfl⟩
  · go_enter Tryd.func37, Tryd.ntmps37; go_wp2; go_ret; exact ⟨by rw [decide_eq_false (by omega : ¬ lo ≤ n)]; rfl, rfl⟩
theorem small_beam (n m : Int) (h : -9223372036854775807 ≤ m) (h' : m ≤ 9223372036854775807) (w : World) : Calls Tryd.prog 70 #[.int .i64 n, .int .i64 m] w fun x w' => x = .returned (.bool (withinB n (-m) m)) ∧ w = w' := by
  go_enter Tryd.func70, Tryd.ntmps70
  go_wp2_with (go_at_call 37; refine (within_beam _ _ _ _).mono ?_; rintro e w' ⟨rfl, rfl⟩)
  go_ret
  exact ⟨rfl, rfl⟩
theorem stepErr_beam (n : Int) (w : World) : Calls Tryd.prog 38 #[.int .i64 n] w fun x w' => x = .returned (.int .i64 (unlessE (withinB n 0 7) 2)) ∧ w = w' := by
  go_enter Tryd.func38, Tryd.ntmps38
  go_wp2_with (first | (go_at_call 37; refine (within_beam _ _ _ _).mono ?_; rintro e w' ⟨rfl, rfl⟩) | (go_at_call 36; refine (unless_any _ _ _).mono ?_; rintro e w' ⟨rfl, rfl⟩))
  go_ret
  exact ⟨rfl, rfl⟩
theorem isPhase_beam (n : Int) (w : World) : Calls Tryd.prog 26 #[.int .i64 n] w fun x w' => x = .returned (.bool (withinB n (-1) 7)) ∧ w = w' := by
  go_enter Tryd.func26, Tryd.ntmps26
  go_wp2_with (go_at_call 37; refine (within_beam _ _ _ _).mono ?_; rintro e w' ⟨rfl, rfl⟩)
  go_ret
  exact ⟨rfl, rfl⟩

theorem indexFunc0 (K : FuncId) (p : Int → Bool) (A : Option Addr) (c : Nat) (l : List Int) (w : World)
    (hK : ∀ args W, (callFunc K args).run Tryd.prog W = .ok (.enter K args) W)
    (hp : ∀ x, Calls Tryd.prog K #[.int .i64 x] w fun e w' => e = .returned (.bool (p x)) ∧ w = w')
    (hs : Sl w A (iv l)) (hl : l.length ≤ 1000000) :
    Calls Tryd.prog 71 #[.slice A l.length c, .func (.func K) #[] #[]] w fun x w' => x = .returned (.int .i64 (idxFrom p l 0)) ∧ w = w' := by
  have HP := Lib.hid hp
  clear hp
  have HS := Lib.hid hs
  clear hs
  go_enter Tryd.func71, Tryd.ntmps71
  go_wp2
  go_loop [8] (fun i => ∃ k : Nat, k ≤ l.length ∧ i = .int .i64 k ∧ idxFrom p l 0 = idxFrom p (l.drop k) k) (fun i => l.length - (intOf i).toNat)
  case atStart => exact ⟨0, Nat.zero_le _, rfl, by simp⟩
  case round =>
    obtain ⟨k, hk, rfl, he⟩ := hrel
    have HE := Lib.hid he
    clear he
    by_cases hlt : k < l.length
    · obtain ⟨b, off, rfl, hc⟩ := HS.out.int hlt
      cases h0 : p l[k]
      · have hh := idx_skip p l k hlt h0
        have HH := Lib.hid hh; clear hh
        have H0 := Lib.hid h0; clear h0
        go_wp2_with fail
        refine (HP.out _).mono ?_
        rintro e w' ⟨rfl, rfl⟩
        rw [H0.out]
        go_wp2
        go_round
        case rel => exact ⟨k + 1, by omega, by go_num, by rw [HE.out, HH.out]; simp⟩
        case measure => simp [intOf]; omega
      · have hh := idx_hit p l k hlt h0
        have HH := Lib.hid hh; clear hh
        have H0 := Lib.hid h0; clear h0
        go_wp2_with fail
        refine (HP.out _).mono ?_
        rintro e w' ⟨rfl, rfl⟩
        rw [H0.out]
        go_wp2
        go_ret
        exact ⟨by rw [HE.out, HH.out]; rfl, rfl⟩
    · go_wp2
      go_ret
      exact ⟨by rw [HE.out, List.drop_eq_nil_of_le (by omega)]; rfl, rfl⟩
theorem containsFunc0 (K : FuncId) (p : Int → Bool) (A : Option Addr) (c : Nat) (l : List Int) (w : World)
    (hK : ∀ args W, (callFunc K args).run Tryd.prog W = .ok (.enter K args) W)
    (hp : ∀ x, Calls Tryd.prog K #[.int .i64 x] w fun e w' => e = .returned (.bool (p x)) ∧ w = w')
    (hs : Sl w A (iv l)) (hl : l.length ≤ 1000000) :
    Calls Tryd.prog 46 #[.slice A l.length c, .func (.func K) #[] #[]] w fun x w' => x = .returned (.bool (decide (0 ≤ idxFrom p l 0))) ∧ w = w' := by
  have H := Lib.hid (indexFunc0 K p A c l w hK hp hs hl)
  clear hp hs
  go_enter Tryd.func46, Tryd.ntmps46
  go_wp2_with fail
  refine H.out.mono ?_
  rintro e w' ⟨rfl, rfl⟩
  go_wp2
  go_ret
  exact ⟨rfl, rfl⟩
theorem chk1_beam (x : Int) (w : World) : Calls Tryd.prog 80 #[.int .i64 x] w fun e w' => e = .returned (.bool (badPhase x)) ∧ w = w' := by
  go_enter Tryd.func80, Tryd.ntmps80
  go_wp2_with (go_at_call 26; refine (isPhase_beam _ _).mono ?_; rintro e w' ⟨rfl, rfl⟩)
  go_ret
  exact ⟨rfl, rfl⟩
def isOn (x : Int) : Bool := x != -1
theorem chk2_beam (x : Int) (w : World) : Calls Tryd.prog 81 #[.int .i64 x] w fun e w' => e = .returned (.bool (isOn x)) ∧ w = w' := by
  go_enter Tryd.func81, Tryd.ntmps81
  go_wp2
  go_ret
  exact ⟨rfl, rfl⟩
theorem on_idx (l : List Int) : ∀ k : Int, 0 ≤ k → (onC l = 0 ↔ idxFrom isOn l k < 0) := by
  induction l with
  | nil => intro k _; simp [onC, idxFrom]
  | cons x r ih =>
    intro k hk
    have := onC_bd r
    by_cases hx : x = -1
    · rw [onC, if_pos hx, idxFrom, if_neg (by simp [isOn, hx]), Int.zero_add]
      exact ih (k + 1) (by omega)
    · rw [onC, if_neg hx, idxFrom, if_pos (by simp [isOn, hx])]
      omega


theorem checkBeam_beam (A : Option Addr) (c : Nat) (l : List Int) (w : World) (hs : Sl w A (iv l)) (hl : l.length ≤ 1000000) :
    Calls Tryd.prog 56 #[.agg #[.slice A l.length c]] w fun x w' => x = .returned (.tuple #[.int .i64 (chk l).1, .int .i64 (chk l).2]) ∧ Below w.heap.size w w' := by
  have hK1 := enters Tryd.func80 (by kernel_rfl) rfl
  have hK2 := enters Tryd.func81 (by kernel_rfl) rfl
  have C1 := Lib.hid (fun W hs => indexFunc0 80 badPhase A c l W hK1 (fun x => chk1_beam x W) hs hl)
  have C2 := Lib.hid (fun W hs => containsFunc0 81 isOn A c l W hK2 (fun x => chk2_beam x W) hs hl)
  clear hK1 hK2
  have HS := Lib.hid (fun (o1 o2 : Obj) => (((hs.alloc o1).alloc o2).drew)); clear hs
  by_cases h0 : l.length = 0
  · have e : chk l = (0, 10) := by rw [chk, if_pos h0]
    rw [e]; clear e
    have hlt : l.length ≤ 0 := by omega
    have d1 : decide (0 < l.length) = false := decide_eq_false (by omega)
    have d2 : decide ((l.length : Int) ≤ 8) = true := decide_eq_true (by omega)
    have H0 := hide h0; clear h0
    have zf : (firstOf [unlessE false 10, unlessE true 8] != 0) = true := by decide
    have zg : firstOf [unlessE false 10, unlessE true 8] = 10 := by decide
    have ZG := hide zg; clear zg
    go_enter Tryd.func56, Tryd.ntmps56
    go_wp2
    go_region_held3 (fun w' => w'.cell? ⟨w.heap.size, 0, none⟩ = some (.slice A l.length c)) (first | (simp [go_sem, World.cell?_alloc_past]; done) | go_keep)
      (first | (go_at_call 36; refine (unless_any _ _ _).mono ?_; rintro e w' ⟨rfl, rfl⟩) | (go_at_call 35; refine (first2d _ _ _ _ (by simp)).mono ?_; rintro e w' ⟨rfl, rfl⟩))
    go_wp2_with fail
    go_ret2
    exact ⟨ret2i rfl ZG.out, by go_grown⟩
  by_cases h8 : 8 < l.length
  · have e : chk l = (0, 8) := by rw [chk, if_neg h0, if_pos h8]
    rw [e]; clear e
    have hlt : 0 < l.length := by omega
    have d1 : decide (0 < l.length) = true := decide_eq_true (by omega)
    have d2 : decide ((l.length : Int) ≤ 8) = false := decide_eq_false (by omega)
    have zf : (firstOf [unlessE true 10, unlessE false 8] != 0) = true := by decide
    have zg : firstOf [unlessE true 10, unlessE false 8] = 8 := by decide
    have ZG := hide zg; clear zg
    go_enter Tryd.func56, Tryd.ntmps56
    go_wp2
    go_region_held3 (fun w' => w'.cell? ⟨w.heap.size, 0, none⟩ = some (.slice A l.length c)) (first | (simp [go_sem, World.cell?_alloc_past]; done) | go_keep)
      (first | (go_at_call 36; refine (unless_any _ _ _).mono ?_; rintro e w' ⟨rfl, rfl⟩) | (go_at_call 35; refine (first2d _ _ _ _ (by simp)).mono ?_; rintro e w' ⟨rfl, rfl⟩))
    go_wp2_with fail
    go_ret2
    exact ⟨ret2i rfl ZG.out, by go_grown⟩
  have e : chk l = if 0 ≤ idxFrom badPhase l 0 then (idxFrom badPhase l 0, 2) else if onC l = 0 then (0, 11) else (0, 0) := by rw [chk, if_neg h0, if_neg h8]
  have E := hide e; clear e
  have hlt : 0 < l.length := by omega
  have hle : l.length ≤ 8 := by omega
  have d1 : decide (0 < l.length) = true := decide_eq_true (by omega)
  have d2 : decide ((l.length : Int) ≤ 8) = true := decide_eq_true (by omega)
  clear h0 h8
  have zf : (firstOf [unlessE true 10, unlessE true 8] != 0) = false := by decide
  by_cases hi : 0 ≤ idxFrom badPhase l 0
  · go_enter Tryd.func56, Tryd.ntmps56
    go_wp2
    go_region_held3 (fun w' => w'.cell? ⟨w.heap.size, 0, none⟩ = some (.slice A l.length c)) (first | (simp [go_sem, World.cell?_alloc_past]; done) | go_keep)
      (first | (go_at_call 36; refine (unless_any _ _ _).mono ?_; rintro e w' ⟨rfl, rfl⟩) | (go_at_call 35; refine (first2d _ _ _ _ (by simp)).mono ?_; rintro e w' ⟨rfl, rfl⟩))
    go_wp2_with (go_at_call 71; refine (C1.out _ (HS.out _ _)).mono ?_; rintro e w' ⟨rfl, rfl⟩)
    go_ret2
    exact ⟨by rw [E.out, if_pos hi]; exact ret2i rfl rfl, by go_grown⟩
  · have hi' : idxFrom badPhase l 0 < 0 := by omega
    by_cases ho : onC l = 0
    · have hj : idxFrom isOn l 0 < 0 := (on_idx l 0 (by omega)).1 ho
      have hd : decide (0 ≤ idxFrom isOn l 0) = false := decide_eq_false (by omega)
      clear hj
      have HO := hide ho; clear ho
      go_enter Tryd.func56, Tryd.ntmps56
      go_wp2
      go_region_held3 (fun w' => w'.cell? ⟨w.heap.size, 0, none⟩ = some (.slice A l.length c)) (first | (simp [go_sem, World.cell?_alloc_past]; done) | go_keep)
        (first | (go_at_call 36; refine (unless_any _ _ _).mono ?_; rintro e w' ⟨rfl, rfl⟩) | (go_at_call 35; refine (first2d _ _ _ _ (by simp)).mono ?_; rintro e w' ⟨rfl, rfl⟩))
      go_wp2_with (first | (go_at_call 71; refine (C1.out _ (HS.out _ _)).mono ?_; rintro e w' ⟨rfl, rfl⟩) | (go_at_call 46; refine (C2.out _ (HS.out _ _)).mono ?_; rintro e w' ⟨rfl, rfl⟩; rw [hd]) | (go_at_call 36; refine (unless_any _ _ _).mono ?_; rintro e w' ⟨rfl, rfl⟩))
      go_ret2
      exact ⟨by rw [E.out, if_neg (by omega), if_pos HO.out]; exact ret2i rfl rfl, by go_grown⟩
    · have hj : ¬ idxFrom isOn l 0 < 0 := fun h => ho ((on_idx l 0 (by omega)).2 h)
      have hd : decide (0 ≤ idxFrom isOn l 0) = true := decide_eq_true (by omega)
      clear hj
      have HO := hide ho; clear ho
      go_enter Tryd.func56, Tryd.ntmps56
      go_wp2
      go_region_held3 (fun w' => w'.cell? ⟨w.heap.size, 0, none⟩ = some (.slice A l.length c)) (first | (simp [go_sem, World.cell?_alloc_past]; done) | go_keep)
        (first | (go_at_call 36; refine (unless_any _ _ _).mono ?_; rintro e w' ⟨rfl, rfl⟩) | (go_at_call 35; refine (first2d _ _ _ _ (by simp)).mono ?_; rintro e w' ⟨rfl, rfl⟩))
      go_wp2_with (first | (go_at_call 71; refine (C1.out _ (HS.out _ _)).mono ?_; rintro e w' ⟨rfl, rfl⟩) | (go_at_call 46; refine (C2.out _ (HS.out _ _)).mono ?_; rintro e w' ⟨rfl, rfl⟩; rw [hd]) | (go_at_call 36; refine (unless_any _ _ _).mono ?_; rintro e w' ⟨rfl, rfl⟩))
      go_ret2
      exact ⟨by rw [E.out, if_neg (by omega), if_neg HO.out]; exact ret2i rfl rfl, by go_grown⟩
end Go.Proofs.YtamkannjdbodpaaDoor
