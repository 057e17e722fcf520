import Derived.Test.YtfolipkbcibgdaaGpB
namespace Go.Proofs.Ytfolipkbcibgdaa
open Go.RowKit Go.WideShapes Go.ChangeShapes

/-! numbers of a text, and what a word of a form means -/
def numV (s : Bs) : Nat := s.foldl (fun n c => 10 * n + (c.toNat - 48)) 0
def isNum (s : Bs) : Bool := decide (0 < s.length) && decide (s.length ≤ 5) && s.all (fun c => decide (48 ≤ c.toNat) && decide (c.toNat ≤ 57)) && (decide (s.length = 1) || decide (s.head? ≠ some 48))
theorem numV_snoc (s : Bs) (k : Nat) (hk : k < s.length) : numV (s.take (k + 1)) = 10 * numV (s.take k) + (s[k].toNat - 48) := by
  rw [List.take_succ_eq_append_getElem hk]
  unfold numV
  rw [List.foldl_append]
  rfl
theorem numF_lt : ∀ (s : Bs) (n : Nat), (∀ c ∈ s, c.toNat ≤ 57) → s.foldl (fun n c => 10 * n + (c.toNat - 48)) n < (n + 1) * 10 ^ s.length
  | [], n, _ => by simp
  | c :: r, n, h => by
    have h1 := numF_lt r (10 * n + (c.toNat - 48)) (fun x hx => h x (by simp [hx]))
    have h2 := h c (by simp)
    have h3 : (10 * n + (c.toNat - 48) + 1) * 10 ^ r.length ≤ (10 * n + 10) * 10 ^ r.length := Nat.mul_le_mul_right _ (by omega)
    have h4 : (10 * n + 10) * 10 ^ r.length = (n + 1) * 10 ^ (c :: r).length := by
      rw [List.length_cons, Nat.pow_succ, Nat.mul_comm (10 ^ r.length) 10, ← Nat.mul_assoc, Nat.add_mul n 1 10]
      congr 1
      omega
    simp only [List.foldl_cons]
    omega
theorem numV_lt (s : Bs) (h : ∀ c ∈ s, c.toNat ≤ 57) : numV s < 10 ^ s.length := by
  have := numF_lt s 0 h
  unfold numV
  omega
structure NumP (s : Bs) : Prop where
  pos : 0 < s.length
  few : s.length ≤ 5
  dig : ∀ k (h : k < s.length), 48 ≤ s[k].toNat ∧ s[k].toNat ≤ 57
  zero : ∀ h : 0 < s.length, s[0].toNat = 48 → s.length = 1
theorem numP {s : Bs} (h : isNum s = true) : NumP s := by
  unfold isNum at h
  simp only [Bool.and_eq_true, Bool.or_eq_true, decide_eq_true_eq, List.all_eq_true] at h
  obtain ⟨⟨⟨h1, h2⟩, h3⟩, h4⟩ := h
  refine ⟨h1, h2, fun k hk => h3 _ (List.getElem_mem hk), fun h0 hz => ?_⟩
  rcases h4 with h | h
  · exact h
  · exfalso
    cases s with
    | nil => simp at h1
    | cons c r =>
      simp only [List.head?_cons, List.getElem_cons_zero] at h hz
      exact h (by rw [show c = 48 from UInt8.toNat_inj.1 hz])
set_option maxRecDepth 100000 in
set_option maxHeartbeats 4000000 in
theorem number_ref (s : Bs) (w : World) (hs : isNum s = true) : Calls Try.prog 68 #[strV s, .int .i64 5] w fun e w' => e = .returned (.tuple #[.int .i64 (numV s : Int), .bool true]) ∧ w = w' := by
  have HN := hide (numP hs)
  have hlen := fun t W => len_str s t W
  have hp := HN.out.pos
  have hf := HN.out.few
  have hidx0 := fun W => idx_str s 0 hp W
  obtain ⟨x, hx⟩ : ∃ x : Int, (s[0].toNat : Int) = x := ⟨_, rfl⟩
  have hd := HN.out.dig 0 hp
  have hz := HN.out.zero hp
  rw [hx] at hidx0
  have g1 : (0 : Int) < (s.length : Int) := by omega
  have g2 : (x == 45) = false := by rw [beq_eq_false_iff_ne]; omega
  have g3 : ((s.length : Int) == 0) = false := by rw [beq_eq_false_iff_ne]; omega
  have g4 : ¬ (5 : Int) < (s.length : Int) := by omega
  have hidx0' : ∀ W, (Instr.index 9 (strV s) (.int .i64 0)).run Try.prog W = .ok (.int .u8 x) W := hidx0
  have HD : Hid (∀ k (h : k < s.length), 48 ≤ (s[k].toNat : Int) ∧ (s[k].toNat : Int) ≤ 57) := hide (fun k h => by have := HN.out.dig k h; omega)
  have HLT := hide (fun k (hk : k ≤ 5) => (show numV (s.take k) < 100000 from by
    have h1 := numV_lt (s.take k) (fun c hc => by obtain ⟨j, hj, rfl⟩ := List.getElem_of_mem (List.mem_of_mem_take hc); exact (HN.out.dig j hj).2)
    have h2 : 10 ^ (s.take k).length ≤ 10 ^ 5 := Nat.pow_le_pow_right (by omega) (by rw [List.length_take]; omega)
    have h3 : (10 : Nat) ^ 5 = 100000 := rfl
    omega))
  have HFIN := hide (show numV (s.take s.length) = numV s from by rw [List.take_length])
  have HSN := hide (fun k hk => numV_snoc s k hk)
  rcases (by by_cases q : x = 48; exact .inl ⟨q, hz (by omega)⟩; exact .inr q : (x = 48 ∧ s.length = 1) ∨ x ≠ 48) with ⟨q, q1⟩ | q
  · have e1 : (x == 48) = true := by simp [q]
    have g5 : ¬ (1 : Int) < (s.length : Int) := by omega
    clear hz hd hx q q1
    go_enter Try.func68, Try.ntmps68
    go_wp2_with fail
    clear hidx0 hidx0' e1 g2 g3 g4 g5
    go_loopw [7, 8] (fun n i wr => ∃ k : Nat, k ≤ s.length ∧ i = .int .i64 (k : Int) ∧ n = .int .i64 (numV (s.take k) : Int) ∧ w = wr) (fun _ i _ => s.length - (intOf i).toNat)
    case atStart => exact ⟨0, Nat.zero_le _, rfl, rfl, rfl⟩
    case round =>
      obtain ⟨k, hk, rfl, rfl, rfl⟩ := hrel
      by_cases hlt : k < s.length
      · have hidx := fun W => idx_str s k hlt W
        have hdk := HD.out k hlt
        have hs1 := HSN.out k hlt
        have hb := HLT.out k (by omega)
        have hb2 := HLT.out (k + 1) (by omega)
        obtain ⟨y, hy⟩ : ∃ y : Int, (s[k].toNat : Int) = y := ⟨_, rfl⟩
        obtain ⟨X, hX⟩ : ∃ X : Nat, numV (s.take k) = X := ⟨_, rfl⟩
        obtain ⟨Y, hY⟩ : ∃ Y : Nat, numV (s.take (k + 1)) = Y := ⟨_, rfl⟩
        rw [hX] at hb hs1 ⊢
        rw [hY] at hs1 hb2
        have HY := hide hY
        have hXY : 10 * (X : Int) + (y - 48) = (Y : Int) := by omega
        rw [hy] at hidx hdk
        have g6 : (k : Int) < (s.length : Int) := by omega
        have g7 : ¬ y < 48 := by omega
        have g8 : ¬ 57 < y := by omega
        have w1 : IntKind.u8.wrap (y - 48) = y - 48 := IntWalk.u8_in _ (by omega)
        have w2 : IntKind.i64.wrap (y - 48) = y - 48 := IntWalk.i64_in _ (by omega)
        have w3 : IntKind.i64.wrap (10 * (X : Int)) = 10 * (X : Int) := IntWalk.i64_in _ (by omega)
        have w4 : IntKind.i64.wrap (10 * (X : Int) + (y - 48)) = (Y : Int) := by rw [hXY]; exact IntWalk.i64_in _ (by omega)
        clear hX hY hy hs1 hXY
        go_wp2_with fail
        go_roundw
        case rel => exact ⟨k + 1, by omega, by go_num, by rw [HY.out], by first | rfl | trivial⟩
        case measure => simp [intOf]; omega
      · obtain rfl : k = s.length := by omega
        have g6 : ¬ (s.length : Int) < (s.length : Int) := by omega
        rw [HFIN.out]
        go_wp2_with fail
        go_ret2
        exact ⟨rfl, rfl⟩
  · have e1 : (x == 48) = false := by rw [beq_eq_false_iff_ne]; exact q
    clear hz hd hx q
    go_enter Try.func68, Try.ntmps68
    go_wp2_with fail
    clear hidx0 hidx0' e1 g2 g3 g4
    go_loopw [7, 8] (fun n i wr => ∃ k : Nat, k ≤ s.length ∧ i = .int .i64 (k : Int) ∧ n = .int .i64 (numV (s.take k) : Int) ∧ w = wr) (fun _ i _ => s.length - (intOf i).toNat)
    case atStart => exact ⟨0, Nat.zero_le _, rfl, rfl, rfl⟩
    case round =>
      obtain ⟨k, hk, rfl, rfl, rfl⟩ := hrel
      by_cases hlt : k < s.length
      · have hidx := fun W => idx_str s k hlt W
        have hdk := HD.out k hlt
        have hs1 := HSN.out k hlt
        have hb := HLT.out k (by omega)
        have hb2 := HLT.out (k + 1) (by omega)
        obtain ⟨y, hy⟩ : ∃ y : Int, (s[k].toNat : Int) = y := ⟨_, rfl⟩
        obtain ⟨X, hX⟩ : ∃ X : Nat, numV (s.take k) = X := ⟨_, rfl⟩
        obtain ⟨Y, hY⟩ : ∃ Y : Nat, numV (s.take (k + 1)) = Y := ⟨_, rfl⟩
        rw [hX] at hb hs1 ⊢
        rw [hY] at hs1 hb2
        have HY := hide hY
        have hXY : 10 * (X : Int) + (y - 48) = (Y : Int) := by omega
        rw [hy] at hidx hdk
        have g6 : (k : Int) < (s.length : Int) := by omega
        have g7 : ¬ y < 48 := by omega
        have g8 : ¬ 57 < y := by omega
        have w1 : IntKind.u8.wrap (y - 48) = y - 48 := IntWalk.u8_in _ (by omega)
        have w2 : IntKind.i64.wrap (y - 48) = y - 48 := IntWalk.i64_in _ (by omega)
        have w3 : IntKind.i64.wrap (10 * (X : Int)) = 10 * (X : Int) := IntWalk.i64_in _ (by omega)
        have w4 : IntKind.i64.wrap (10 * (X : Int) + (y - 48)) = (Y : Int) := by rw [hXY]; exact IntWalk.i64_in _ (by omega)
        clear hX hY hy hs1 hXY
        go_wp2_with fail
        go_roundw
        case rel => exact ⟨k + 1, by omega, by go_num, by rw [HY.out], by first | rfl | trivial⟩
        case measure => simp [intOf]; omega
      · obtain rfl : k = s.length := by omega
        have g6 : ¬ (s.length : Int) < (s.length : Int) := by omega
        rw [HFIN.out]
        go_wp2_with fail
        go_ret2
        exact ⟨rfl, rfl⟩
def kws : List Bs := [[115, 121, 110, 99], [98, 114, 111, 97, 100, 99, 97, 115, 116], [99, 111, 110, 116, 114, 111, 108], [114, 101, 102, 101, 114, 101, 110, 99, 101], [103, 117, 97, 114, 100], [100, 97, 116, 97]]
def carW : Bs := [99, 97, 114, 114, 105, 101, 114]
def parW : Bs := [112, 97, 114, 116]
def sigW : Bs := [115, 105, 103, 110, 97, 108]
def carF : Bs := [110, 100, 100]
def parF : Bs := [100, 100, 100]
def sigF : Bs := [107, 100, 100, 100, 115, 100, 100, 100, 100, 100, 100]
theorem eq_lit (l m : Bs) (b : Bool) (h : (l == m) = b) (W : World) : (binOp .eql 9 (strV l) (.string ⟨m.toArray⟩)).run Try.prog W = .ok (.bool b) W := by rw [← h]; exact eq_str l m W
theorem ne_lit (l m : Bs) (b : Bool) (h : (!(l == m)) = b) (W : World) : (binOp .neq 9 (strV l) (.string ⟨m.toArray⟩)).run Try.prog W = .ok (.bool b) W := by rw [← h]; exact ne_str l m W
set_option maxRecDepth 100000 in
theorem formOf_car (w : World) : Calls Try.prog 55 #[strV carW] w fun e w' => e = .returned (strV carF) ∧ w = w' := by
  have e1 := fun W => eq_lit carW [99, 97, 114, 114, 105, 101, 114] _ rfl W
  have e2 := fun W => eq_lit carW [112, 97, 114, 116] _ rfl W
  have g := fun op u v z => eqG_str op u v carW z
  have e1' : ∀ W, (binOp .eql 9 (strV carW) (.string ⟨#[99, 97, 114, 114, 105, 101, 114]⟩)).run Try.prog W = .ok (.bool (carW == [99, 97, 114, 114, 105, 101, 114])) W := e1
  have e2' : ∀ W, (binOp .eql 9 (strV carW) (.string ⟨#[112, 97, 114, 116]⟩)).run Try.prog W = .ok (.bool (carW == [112, 97, 114, 116])) W := e2
  have d1 : (carW == [99, 97, 114, 114, 105, 101, 114]) = true := by decide
  have d2 : (carW == [112, 97, 114, 116]) = false := by decide
  rw [d1] at e1'
  rw [d2] at e2'
  obtain ⟨S, hS⟩ : ∃ S, strV carW = S := ⟨_, rfl⟩
  clear e1 e2 d1 d2
  rw [hS] at e1' e2' g ⊢
  clear hS
  go_enter Try.func55, Try.ntmps55
  go_wp2
  go_ret
  exact ⟨rfl, rfl⟩
set_option maxRecDepth 100000 in
theorem formOf_par (w : World) : Calls Try.prog 55 #[strV parW] w fun e w' => e = .returned (strV parF) ∧ w = w' := by
  have e1 := fun W => eq_lit parW [99, 97, 114, 114, 105, 101, 114] _ rfl W
  have e2 := fun W => eq_lit parW [112, 97, 114, 116] _ rfl W
  have g := fun op u v z => eqG_str op u v parW z
  have e1' : ∀ W, (binOp .eql 9 (strV parW) (.string ⟨#[99, 97, 114, 114, 105, 101, 114]⟩)).run Try.prog W = .ok (.bool (parW == [99, 97, 114, 114, 105, 101, 114])) W := e1
  have e2' : ∀ W, (binOp .eql 9 (strV parW) (.string ⟨#[112, 97, 114, 116]⟩)).run Try.prog W = .ok (.bool (parW == [112, 97, 114, 116])) W := e2
  have d1 : (parW == [99, 97, 114, 114, 105, 101, 114]) = false := by decide
  have d2 : (parW == [112, 97, 114, 116]) = true := by decide
  rw [d1] at e1'
  rw [d2] at e2'
  obtain ⟨S, hS⟩ : ∃ S, strV parW = S := ⟨_, rfl⟩
  clear e1 e2 d1 d2
  rw [hS] at e1' e2' g ⊢
  clear hS
  go_enter Try.func55, Try.ntmps55
  go_wp2
  go_ret
  exact ⟨rfl, rfl⟩
set_option maxRecDepth 100000 in
theorem formOf_sig (w : World) : Calls Try.prog 55 #[strV sigW] w fun e w' => e = .returned (strV sigF) ∧ w = w' := by
  have e1 := fun W => eq_lit sigW [99, 97, 114, 114, 105, 101, 114] _ rfl W
  have e2 := fun W => eq_lit sigW [112, 97, 114, 116] _ rfl W
  have g := fun op u v z => eqG_str op u v sigW z
  have e1' : ∀ W, (binOp .eql 9 (strV sigW) (.string ⟨#[99, 97, 114, 114, 105, 101, 114]⟩)).run Try.prog W = .ok (.bool (sigW == [99, 97, 114, 114, 105, 101, 114])) W := e1
  have e2' : ∀ W, (binOp .eql 9 (strV sigW) (.string ⟨#[112, 97, 114, 116]⟩)).run Try.prog W = .ok (.bool (sigW == [112, 97, 114, 116])) W := e2
  have d1 : (sigW == [99, 97, 114, 114, 105, 101, 114]) = false := by decide
  have d2 : (sigW == [112, 97, 114, 116]) = false := by decide
  rw [d1] at e1'
  rw [d2] at e2'
  obtain ⟨S, hS⟩ : ∃ S, strV sigW = S := ⟨_, rfl⟩
  clear e1 e2 d1 d2
  rw [hS] at e1' e2' g ⊢
  clear hS
  go_enter Try.func55, Try.ntmps55
  go_wp2
  go_ret
  exact ⟨rfl, rfl⟩
end Go.Proofs.Ytfolipkbcibgdaa
