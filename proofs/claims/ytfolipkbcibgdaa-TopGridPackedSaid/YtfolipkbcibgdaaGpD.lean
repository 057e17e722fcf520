import Derived.Test.YtfolipkbcibgdaaGpC
namespace Go.Proofs.Ytfolipkbcibgdaa
open Go.RowKit Go.WideShapes Go.ChangeShapes

/-! reading a word by its form -/
set_option maxRecDepth 100000 in
theorem kindWords_ref (w : World) : Calls Try.prog 67 #[] w fun e w' => ∃ A c, e = .returned (.slice A 6 c) ∧ Sl w' A (svL kws) ∧ Below w.heap.size w w' := by
  go_enter Try.func67, Try.ntmps67
  go_wp2
  go_ret
  refine ⟨_, _, rfl, fun k hk => ⟨w.heap.size, 0, rfl, ?_⟩, (Below.refl _ _).alloc (Nat.le_refl _) _⟩
  rw [svL_len] at hk
  have hk6 : k < 6 := hk
  rw [Nat.zero_add, (Blk.new w 9 _).cell k]
  rcases (by omega : k = 0 ∨ k = 1 ∨ k = 2 ∨ k = 3 ∨ k = 4 ∨ k = 5) with rfl | rfl | rfl | rfl | rfl | rfl <;> rfl
theorem kws_eq (i j : Nat) (hi : i < 6) (hj : j < 6) : (kws[i]'hi == kws[j]'hj) = decide (i = j) := by
  rcases (by omega : i = 0 ∨ i = 1 ∨ i = 2 ∨ i = 3 ∨ i = 4 ∨ i = 5) with rfl | rfl | rfl | rfl | rfl | rfl <;> rcases (by omega : j = 0 ∨ j = 1 ∨ j = 2 ∨ j = 3 ∨ j = 4 ∨ j = 5) with rfl | rfl | rfl | rfl | rfl | rfl <;> rfl
/-- reads as this number -/
def RdR (v : Int) (w : World) (e : Ending) (w' : World) : Prop := e = .returned (.tuple #[.int .i64 v, .int .i64 0]) ∧ Below w.heap.size w w'
set_option maxRecDepth 100000 in
set_option maxHeartbeats 4000000 in
theorem read_k (j : Nat) (hj : j < 6) (w : World) : Calls Try.prog 56 #[.int .u8 107, strV (kws[j]'hj)] w (RdR (j : Int) w) := by
  have HEQ : Hid (∀ (i : Nat) (hi : i < 6) (W : World), (binOp .eql 9 (strV (kws[i]'hi)) (strV (kws[j]'hj))).run Try.prog W = .ok (.bool (decide (i = j))) W) := hide (fun i hi W => by rw [← kws_eq i j hi hj]; exact eq_str _ _ W)
  obtain ⟨S, hS⟩ : ∃ S, strV (kws[j]'hj) = S := ⟨_, rfl⟩
  rw [hS] at HEQ ⊢
  clear hS
  have HG := hide (fun (i : Nat) (hi : i < 6) op u v z => eqG_str op u v (kws[i]'hi) z)
  go_enter Try.func56, Try.ntmps56
  go_wp2
  go_loopw [6] (fun i wr => ∃ k : Nat, k ≤ j ∧ i = .int .i64 (k : Int) ∧ Below w.heap.size w wr) (fun i _ => j - (intOf i).toNat)
  case atStart => exact ⟨0, Nat.zero_le _, rfl, Below.refl _ _⟩
  case round =>
    obtain ⟨k, hk, rfl, hb0⟩ := hrel
    have HB := hide hb0
    clear hb0
    have hk6 : k < 6 := by omega
    have g1 : (k : Int) < 6 := by omega
    go_wp2_with fail
    go_at_call 67
    refine (kindWords_ref _).mono ?_
    rintro e w1 ⟨A, c, rfl, -, hb⟩
    have HB1 := hide (Below.step HB.out hb)
    clear hb
    simp only []
    go_wp2_with fail
    go_at_call 67
    refine (kindWords_ref _).mono ?_
    rintro e w2 ⟨A2, c2, rfl, hs, hb⟩
    have HB2 := hide (Below.step HB1.out hb)
    obtain ⟨b, off, rfl, d0⟩ := hs k (by rw [svL_len]; exact hk6)
    have d1 : w2.cell? ⟨b, off + k, none⟩ = some (strV (kws[k]'hk6)) := by rw [d0]; simp only [svL, List.getElem_map]; rfl
    have he := HEQ.out k hk6
    have hg := HG.out k hk6
    obtain ⟨X, hX⟩ : ∃ X, strV (kws[k]'hk6) = X := ⟨_, rfl⟩
    rw [hX] at d1 he hg
    clear hb hs d0 hX
    simp only []
    by_cases q : k = j
    · have hd : decide (k = j) = true := decide_eq_true q
      rw [hd] at he
      have Q := hide q
      clear hd q
      go_wp2_with fail
      go_ret2
      have q := Q.out
      subst q
      exact ⟨rfl, HB2.out⟩
    · have hd : decide (k = j) = false := decide_eq_false q
      rw [hd] at he
      clear hd
      go_wp2_with fail
      go_roundw
      case rel => exact ⟨k + 1, by omega, by go_num, HB2.out⟩
      case measure => simp [intOf]; omega
set_option maxRecDepth 100000 in
theorem read_n (s : Bs) (hs : OkN s) (w : World) : Calls Try.prog 56 #[.int .u8 110, strV s] w (RdR 0 w) := by
  go_enter Try.func56, Try.ntmps56
  go_wp2_with (go_at_call 39; go_must (refine (isName_yes s _ hs).mono ?_; rintro e w' ⟨rfl, rfl⟩; simp only []))
  go_ret2
  exact ⟨rfl, Below.refl _ _⟩
set_option maxRecDepth 100000 in
theorem read_d (s : Bs) (hs : isNum s = true) (w : World) : Calls Try.prog 56 #[.int .u8 100, strV s] w (RdR (numV s : Int) w) := by
  have hp := (numP hs).pos
  have hd := (numP hs).dig 0 hp
  have hidx0 := fun W => idx_str s 0 hp W
  obtain ⟨x, hx⟩ : ∃ x : Int, (s[0].toNat : Int) = x := ⟨_, rfl⟩
  rw [hx] at hidx0
  have g2 : (x == 45) = false := by rw [beq_eq_false_iff_ne]; omega
  have hidx0' : ∀ W, (Instr.index 9 (strV s) (.int .i64 0)).run Try.prog W = .ok (.int .u8 x) W := hidx0
  clear hx hd
  go_enter Try.func56, Try.ntmps56
  go_wp2_with (go_at_call 68; go_must (refine (number_ref s _ hs).mono ?_; rintro e w' ⟨rfl, rfl⟩; simp only []))
  go_ret2
  exact ⟨rfl, Below.refl _ _⟩
set_option maxRecDepth 100000 in
theorem read_s (s : Bs) (hs : isNum s = true) (w : World) : Calls Try.prog 56 #[.int .u8 115, strV s] w (RdR (numV s : Int) w) := by
  have hp := (numP hs).pos
  have hd := (numP hs).dig 0 hp
  have hidx0 := fun W => idx_str s 0 hp W
  have hne : (s == [45]) = false := by
    rw [beq_eq_false_iff_ne]
    rintro rfl
    have : ((45 : UInt8).toNat) = 45 := rfl
    simp only [List.getElem_cons_zero] at hd
    omega
  have he := fun W => eq_lit s [45] _ hne W
  have he' : ∀ W, (binOp .eql 9 (strV s) (.string ⟨#[45]⟩)).run Try.prog W = .ok (.bool false) W := he
  have hg := fun op u v z => eqG_str op u v s z
  obtain ⟨x, hx⟩ : ∃ x : Int, (s[0].toNat : Int) = x := ⟨_, rfl⟩
  rw [hx] at hidx0
  have g2 : (x == 45) = false := by rw [beq_eq_false_iff_ne]; omega
  have hidx0' : ∀ W, (Instr.index 9 (strV s) (.int .i64 0)).run Try.prog W = .ok (.int .u8 x) W := hidx0
  clear hx hd hne he
  go_enter Try.func56, Try.ntmps56
  go_wp2_with (go_at_call 68; go_must (refine (number_ref s _ hs).mono ?_; rintro e w' ⟨rfl, rfl⟩; simp only []))
  go_ret2
  exact ⟨rfl, Below.refl _ _⟩
set_option maxRecDepth 100000 in
theorem read_dash (w : World) : Calls Try.prog 56 #[.int .u8 115, strV [45]] w (RdR (-1) w) := by
  have he := fun W => eq_lit [45] [45] _ rfl W
  have he' : ∀ W, (binOp .eql 9 (strV [45]) (.string ⟨#[45]⟩)).run Try.prog W = .ok (.bool true) W := he
  have hg := fun op u v z => eqG_str op u v [45] z
  obtain ⟨S, hS⟩ : ∃ S, strV [45] = S := ⟨_, rfl⟩
  clear he
  rw [hS] at he' hg ⊢
  clear hS
  go_enter Try.func56, Try.ntmps56
  go_wp2
  go_ret2
  exact ⟨rfl, Below.refl _ _⟩
/-- what a word reads as -/
def rdO (f : UInt8) (s : Bs) : Option Int :=
  if f = 110 then (if s = [99] then some 0 else none)
  else if f = 107 then (if kws.idxOf s < 6 then some (kws.idxOf s : Int) else none)
  else if f = 115 then (if s = [45] then some (-1) else if isNum s = true then some (numV s : Int) else none)
  else if f = 100 then (if isNum s = true then some (numV s : Int) else none)
  else none
theorem read_all (f : UInt8) (s : Bs) (v : Int) (w : World) (h : rdO f s = some v) : Calls Try.prog 56 #[.int .u8 (f.toNat : Int), strV s] w (RdR v w) := by
  unfold rdO at h
  split at h
  · rename_i hf
    subst hf
    split at h
    · rename_i hs
      subst hs
      injection h with h
      subst h
      refine read_n [99] ⟨by decide, by decide, fun k hk => ?_⟩ w
      have hk0 : k = 0 := by simpa using hk
      subst hk0
      show nmC 0 99 = true
      decide
    · cases h
  split at h
  · rename_i hf
    subst hf
    split at h
    · rename_i hs
      injection h with h
      subst h
      have hm : kws[kws.idxOf s]'hs = s := List.getElem_idxOf _
      have := read_k (kws.idxOf s) hs w
      rw [hm] at this
      exact this
    · cases h
  split at h
  · rename_i hf
    subst hf
    split at h
    · rename_i hs
      subst hs
      injection h with h
      subst h
      exact read_dash w
    · split at h
      · rename_i hs
        injection h with h
        subst h
        exact read_s s hs w
      · cases h
  split at h
  · rename_i hf
    subst hf
    split at h
    · rename_i hs
      injection h with h
      subst h
      exact read_d s hs w
    · cases h
  cases h
end Go.Proofs.Ytfolipkbcibgdaa
