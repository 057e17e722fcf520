import Derived.Test.YtfolipkbcibgdaaGsF
namespace Go.Proofs.Ytfolipkbcibgdaa
open Go.RowKit Go.WideShapes Go.ChangeShapes

/-! texts cut at line ends -/
def svL (ws : List Bs) : List Value := ws.map strV
theorem svL_len (ws : List Bs) : (svL ws).length = ws.length := by simp [svL]
theorem svL_app (a b : List Bs) : svL (a ++ b) = svL a ++ svL b := by simp [svL]
theorem svL_one (ws : List Bs) : ∀ u ∈ svL ws, u.oneCell' = true := by
  intro u hu
  obtain ⟨x, _, rfl⟩ := List.mem_map.1 hu
  rfl
theorem ss_info : (Try.prog.info? 9).map (fun i => (i.zero, i.size, i.bytes)) = some (some (.string ⟨#[]⟩), 1, 16) := by kernel_rfl
theorem slice_mid (l : Bs) (i k : Nat) (hi : i ≤ k) (hk : k ≤ l.length) (W : World) : (Instr.slice 9 (strV l) (some (.int .i64 (i : Int))) (some (.int .i64 (k : Int))) none).run Try.prog W = .ok (.string ⟨((l.drop i).take (k - i)).toArray⟩) W := by
  unfold strV
  rw [run_slice_string _ _ _ _ _ _ _ Try.underlying9 (by omega) (by omega) (by rw [str_size]; omega), Int.toNat_natCast, Int.toNat_natCast, ByteArray.extract_mk]
theorem str_drop (l : Bs) (k : Nat) : (ByteArray.mk l.toArray).extract k l.length = ⟨(l.drop k).toArray⟩ := by
  rw [ByteArray.extract_mk]
  rw [List.take_of_length_le (by simp)]
theorem slice_from (l : Bs) (k : Nat) (i : Int) (hi : i = (k : Int)) (hk : k ≤ l.length) (W : World) : (Instr.slice 9 (strV l) (some (.int .i64 i)) none none).run Try.prog W = .ok (strV (l.drop k)) W := by
  subst hi
  unfold strV
  have e : (ByteArray.mk l.toArray).size = l.length := by show l.toArray.size = _; simp
  rw [run_slice_string_from_if _ _ _ _ _ Try.underlying9, if_pos ⟨by omega, by rw [e]; omega⟩, Int.toNat_natCast, e, str_drop]
def cutL : Bs → List Bs
  | [] => [[]]
  | c :: r => if c = 10 then [] :: cutL r else match cutL r with
    | [] => [[c]]
    | h :: t => (c :: h) :: t
theorem cutL_cons (c : UInt8) (r : Bs) : cutL (c :: r) = if c = 10 then [] :: cutL r else match cutL r with
    | [] => [[c]]
    | h :: t => (c :: h) :: t := rfl
theorem cutL_ne : ∀ l : Bs, cutL l ≠ []
  | [] => by simp [cutL]
  | c :: r => by
    unfold cutL
    split
    · simp
    · split <;> simp
theorem cutL_end : ∀ l : Bs, (∀ x ∈ l, x ≠ 10) → cutL l = [l]
  | [], _ => rfl
  | c :: r, h => by
    unfold cutL
    rw [if_neg (h c (by simp)), cutL_end r (fun x hx => h x (by simp [hx]))]
theorem cutL_app : ∀ (a r : Bs), (∀ x ∈ a, x ≠ 10) → cutL (a ++ 10 :: r) = a :: cutL r
  | [], r, _ => by simp [cutL]
  | c :: a, r, h => by
    rw [List.cons_append, cutL_cons, if_neg (h c (by simp)), cutL_app a r (fun x hx => h x (by simp [hx]))]
/-- the first blank lies behind k letters -/
theorem cutL_hit {l : Bs} {k : Nat} (hk : k < l.length) (hno : ∀ x ∈ l.take k, x ≠ 10) (h : l[k] = 10) : cutL l = l.take k :: cutL (l.drop (k + 1)) := by
  have e : l = l.take k ++ 10 :: l.drop (k + 1) := by
    rw [← h, List.getElem_cons_drop, List.take_append_drop]
  conv => lhs; rw [e]
  exact cutL_app _ _ hno
theorem cutL_len : ∀ l : Bs, (cutL l).length ≤ l.length + 1
  | [] => by simp [cutL]
  | c :: r => by
    have := cutL_len r
    unfold cutL
    split
    · simp; omega
    · split
      · simp
      · rename_i h t e
        rw [e] at this
        simp at this ⊢; omega
theorem take_snoc {l : Bs} {i k : Nat} (hk : k < l.length) (hi : i ≤ k) : (l.drop i).take (k + 1 - i) = (l.drop i).take (k - i) ++ [l[k]] := by
  have e : k + 1 - i = (k - i) + 1 := by omega
  rw [e, List.take_succ_eq_append_getElem (by rw [List.length_drop]; omega), List.getElem_drop]
  congr 3
  omega
theorem cut_step {l : Bs} {i k : Nat} (hk : k < l.length) (hi : i ≤ k) (h : l[k] = 10) (hno : ∀ x ∈ (l.drop i).take (k - i), x ≠ 10) : cutL (l.drop i) = (l.drop i).take (k - i) :: cutL (l.drop (k + 1)) := by
  have := cutL_hit (l := l.drop i) (k := k - i) (by rw [List.length_drop]; omega) hno (by rw [List.getElem_drop]; rw [← h]; congr 1; omega)
  rw [this, List.drop_drop]
  congr 3
  omega
/-- a slice of texts, in new memory -/
def RetS (w : World) (ws : List Bs) (e : Ending) (w' : World) : Prop :=
  ∃ A c, e = .returned (.slice A ws.length c) ∧ w'.ownsRow w.heap.size 9 1 (.slice A ws.length c) ws.length (svL ws) ∧ Below w.heap.size w w'
set_option maxRecDepth 100000 in
set_option maxHeartbeats 4000000 in
theorem cut_ref (l : Bs) (w : World) (hl : l.length ≤ 1000) : Calls Try.prog 53 #[strV l, .int .u8 10] w (RetS w (cutL l)) := by
  obtain ⟨i0, hi0, hz0, hz1, hz2⟩ := info_parts ss_info
  have hlen := fun t W => len_str l t W
  go_enter Try.func53, Try.ntmps53
  go_wp2
  go_loopw [5, 6, 7] (fun o f i wr => ∃ (k j : Nat) (C : Option Addr) (c1 m : Nat) (ws : List Bs), (j ≤ k ∧ k ≤ l.length ∧ m ≤ j) ∧ i = .int .i64 k ∧ f = .int .i64 j ∧ o = .slice C m c1 ∧ (ws.length = m ∧ cutL l = ws ++ cutL (l.drop j) ∧ ∀ x ∈ (l.drop j).take (k - j), x ≠ 10) ∧ wr.ownsRow w.heap.size 9 1 (.slice C m c1) m (svL ws) ∧ Below w.heap.size w wr) (fun _ _ i _ => l.length - (intOf i).toNat)
  case atStart => exact ⟨0, 0, none, 0, 0, [], ⟨Nat.le_refl _, Nat.zero_le _, Nat.le_refl _⟩, rfl, rfl, rfl, ⟨rfl, by simp, by simp⟩, World.ownsRow_nil _ _ _ _, Below.refl _ _⟩
  case round =>
    obtain ⟨k, j, C, c1, m, ws, ⟨hjk, hk, hmj⟩, rfl, rfl, rfl, ⟨hws, hcut, hno⟩, hrow, hbel⟩ := hrel
    have HROW := hide hrow
    have HBE := hide hbel
    have HWS := hide hws
    have HCUT := hide hcut
    have HNO := hide hno
    clear hrow hbel hws hcut hno
    by_cases hlt : k < l.length
    · have hidx := fun W => idx_str l k hlt W
      have HSN := hide (take_snoc hlt hjk)
      have hsl := fun W => slice_mid l j k hjk hk W
      have g1 : (k : Int) < (l.length : Int) := by omega
      have HST := hide (fun h : l[k] = 10 => cut_step hlt hjk h HNO.out)
      obtain ⟨X, hX⟩ : ∃ X, (l.drop j).take (k - j) = X := ⟨_, rfl⟩
      rw [hX] at hsl HST HSN
      by_cases h32 : l[k] = 10
      · have hq : ((l[k].toNat : Int) == 10) = true := by rw [h32]; rfl
        have HE := hide (show cutL l = (ws ++ [X]) ++ cutL (l.drop (k + 1)) from by rw [HCUT.out, HST.out h32]; simp)
        have HNE := hide (show ∀ x ∈ (l.drop (k + 1)).take (k + 1 - (k + 1)), x ≠ (10 : UInt8) from by simp)
        clear HST HSN hX h32
        go_wp2_with (at_builtin
                     refine wpList_append_any _ rfl (.tmp 19) (.tmp 24) _ rfl w.heap.size 9 i0 _ 1 16 Try.underlying101 hi0 hz0 hz1 hz2 rfl (by omega) _ m (svL ws) rfl
                       (HROW.out.alloc _) (wr.heap.size + 1) (some ⟨wr.heap.size, 0, none⟩) 1 1 [strV X] rfl (reads_one wr (strV X) 9) (by simp [Value.oneCell', strV]) (by simp only [maxLen]; omega) (by omega) (by have := HBE.out.size; simp; omega) ?_
                     intro v' w6 hown' hgrow _)
        obtain ⟨C2, k2, rfl⟩ := own_form hown'
        go_roundw
        case rel => exact ⟨k + 1, k + 1, C2, k2, m + 1, ws ++ [X], ⟨Nat.le_refl _, by omega, by omega⟩, by go_num, by go_num, rfl, ⟨by rw [List.length_append, HWS.out]; rfl, HE.out, HNE.out⟩, by rw [svL_app]; exact hown', Below.app HBE.out HROW.out hgrow⟩
        case measure => simp [intOf]; omega
      · have hq : ((l[k].toNat : Int) == 10) = false := by
          rw [beq_eq_false_iff_ne]
          intro h
          exact h32 (UInt8.toNat_inj.1 (by show l[k].toNat = 10; omega))
        have HNE := hide (show ∀ x ∈ (l.drop j).take (k + 1 - j), x ≠ (10 : UInt8) from by
          rw [HSN.out]
          intro x hx
          rcases List.mem_append.1 hx with h | h
          · rw [← hX] at h; exact HNO.out x h
          · have : x = l[k] := by simpa using h
            rw [this]; exact h32)
        clear HST HSN hX h32
        go_wp2
        go_roundw
        case rel => exact ⟨k + 1, j, C, c1, m, ws, ⟨by omega, by omega, hmj⟩, by go_num, rfl, rfl, ⟨HWS.out, HCUT.out, HNE.out⟩, HROW.out, HBE.out⟩
        case measure => simp [intOf]; omega
    · obtain rfl : k = l.length := by omega
      have hsl := fun W => slice_from l j (j : Int) rfl (by omega) W
      have HE := hide (show cutL l = ws ++ [l.drop j] from by
        rw [HCUT.out, cutL_end (l.drop j)]
        have h := HNO.out
        rw [List.take_of_length_le (by rw [List.length_drop]; omega)] at h
        exact h)
      obtain ⟨X, hX⟩ : ∃ X, l.drop j = X := ⟨_, rfl⟩
      rw [hX] at hsl HE
      have hsl2 : ∀ W, (Instr.slice 9 (strV l) (some (.int .i64 (j : Int))) none none).run Try.prog W = .ok (.string ⟨X.toArray⟩) W := hsl
      clear hX hsl
      go_wp2_with (at_builtin
                   refine wpList_append_any _ rfl (.tmp 28) (.tmp 32) _ rfl w.heap.size 9 i0 _ 1 16 Try.underlying101 hi0 hz0 hz1 hz2 rfl (by omega) _ m (svL ws) rfl
                     (HROW.out.alloc _) (wr.heap.size + 1) (some ⟨wr.heap.size, 0, none⟩) 1 1 [strV X] rfl (reads_one wr (strV X) 9) (by simp [Value.oneCell', strV]) (by simp only [maxLen]; omega) (by omega) (by have := HBE.out.size; simp; omega) ?_
                   intro v' w6 hown' hgrow _)
      obtain ⟨C2, k2, rfl⟩ := own_form hown'
      go_ret
      unfold RetS
      rw [HE.out, svL_app, List.length_append, HWS.out]
      exact ⟨C2, k2, rfl, hown', Below.app HBE.out HROW.out hgrow⟩
end Go.Proofs.Ytfolipkbcibgdaa
