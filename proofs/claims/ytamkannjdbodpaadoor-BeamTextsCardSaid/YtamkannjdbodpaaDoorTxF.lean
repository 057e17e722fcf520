import Derived.Test.YtamkannjdbodpaaDoorTxB
import Derived.Test.YtamkannjdbodpaaDoorTxS
namespace Go.Proofs.YtamkannjdbodpaaDoor
open Go.RowKit Go.WideShapes Go.ChangeShapes

/-! FormatBeam (reference) -/
theorem add_str (a b : Bs) (h : a.length + b.length ≤ 1000) (W : World) : (binOp .add 9 (strV a) (strV b)).run Tryd.prog W = .ok (strV (a ++ b)) W := by
  unfold strV
  rw [binOp_string_add, run_string_add_lists _ _ _ (by omega) (by omega)]
theorem fmt_len2 (l : List Int) (k : Nat) (hl : l.length ≤ 10) : (fmtL (l.take k)).length ≤ 20 := fmt_len _ (by rw [List.length_take]; omega)
theorem wd_len (n : Int) : (wdOf n).length = 1 := by unfold wdOf; split <;> (try split) <;> rfl
set_option maxRecDepth 100000 in
set_option maxHeartbeats 4000000 in
theorem format_ref (A : Option Addr) (c n : Nat) (l : List Int) (w : World) (hn : l.length = n) (hs : Sl w A (iv l)) (hl : n ≤ 10) :
    Calls Tryd.prog 11 #[.agg #[.slice A n c]] w fun e w' => e = .returned (strV (fmtL l)) ∧ Below w.heap.size w w' := by
  have HT := hide ((stay_sl (hs.alloc (.cells #[.slice A n c] 24))).and (stay_new w 24 #[.slice A n c]))
  have HN := hide hn
  clear hn hs
  go_enter Tryd.func11, Tryd.ntmps11
  go_wp2
  go_loopw [3, 4] (fun t i wr => ∃ k : Nat, k ≤ n ∧ i = .int .i64 k ∧ t = strV (fmtL (l.take k)) ∧ Below (w.heap.size + 1) (w.alloc (.cells #[.slice A n c] 24)) wr) (fun _ i _ => n - (intOf i).toNat)
  case atStart => exact ⟨0, Nat.zero_le _, rfl, by simp [fmtL, Lib.join, strV], Below.refl _ _⟩
  case round =>
    obtain ⟨k, hk, rfl, rfl, hb⟩ := hrel
    have hN := HN.out
    have hb' : Below (w.alloc (.cells #[.slice A n c] 24)).heap.size (w.alloc (.cells #[.slice A n c] 24)) wr := by simpa using hb
    have c0 := (HT.out _ hb').2.cell 0
    have HB := hide hb
    by_cases hlt : k < n
    · obtain ⟨b1, o1, hA, c1⟩ := (HT.out _ hb').1.int (by omega : k < l.length)
      subst hA
      have g1 : (0 : Int) ≤ (k : Int) := by omega
      have g2 : (k : Int) < (n : Int) := by omega
      have hla := fmt_len2 l k (by omega)
      obtain ⟨a, ha⟩ : ∃ a, fmtL (l.take k) = a := ⟨_, rfl⟩
      obtain ⟨x, hx⟩ : ∃ x, l[k]'(by omega) = x := ⟨_, rfl⟩
      obtain ⟨p, hp, hq⟩ : ∃ p : Bs, p.length ≤ 21 ∧ ((k = 0 ∧ p = a ∧ fmtL (l.take (k + 1)) = p ++ wdOf x) ∨ (0 < k ∧ p = a ++ [32] ∧ fmtL (l.take (k + 1)) = p ++ wdOf x)) := by
        rcases Nat.eq_zero_or_pos k with h0 | h0
        · subst h0
          refine ⟨a, by rw [← ha]; omega, .inl ⟨rfl, rfl, ?_⟩⟩
          rw [fmt_one l (by omega), ← ha, ← hx]; simp [fmtL, Lib.join]
        · refine ⟨a ++ [32], by rw [← ha]; simp; omega, .inr ⟨h0, rfl, ?_⟩⟩
          rw [fmt_snoc l k (by omega) h0, ha, ← hx]; simp
      rw [ha]
      rw [ha] at hla
      rw [hx] at c1
      have r2 := fun W => add_str p (wdOf x) (by rw [wd_len]; omega) W
      obtain ⟨F1, hF1⟩ : ∃ F1, p ++ wdOf x = F1 := ⟨_, rfl⟩
      rw [hF1] at hq r2
      have eg : ∀ op u v r z, eqGuard op 9 u v (strV r) z = pure () := fun op u v r z => eqG_str op u v r z
      have e1 : ∃ t, t = p ∧ ((¬ 0 < k ∧ t = a) ∨ (0 < k ∧ ∀ W, (binOp .add 9 (strV a) (.string ⟨#[32]⟩)).run Tryd.prog W = .ok (strV p) W)) := by
        rcases hq with ⟨h0, h1, _⟩ | ⟨h0, h1, _⟩
        · exact ⟨p, rfl, .inl ⟨by omega, h1⟩⟩
        · exact ⟨p, rfl, .inr ⟨h0, by rw [h1]; exact fun W => add_str a [32] (by simp; omega) W⟩⟩
      have HFn := hide (show fmtL (l.take (k + 1)) = F1 from by rcases hq with ⟨_, _, h⟩ | ⟨_, _, h⟩ <;> exact h)
      have e2 : ∀ t, t = p → ((x = -1 ∧ ∀ W, (binOp .add 9 (strV t) (.string ⟨#[45]⟩)).run Tryd.prog W = .ok (strV F1) W) ∨ (x ≠ -1 ∧ (0 ≤ x ∧ x ≤ 7) ∧ ∀ W, (binOp .add 9 (strV t) (strV (wdOf x))).run Tryd.prog W = .ok (strV F1) W) ∨
          (x ≠ -1 ∧ ¬ (0 ≤ x ∧ x ≤ 7) ∧ ∀ W, (binOp .add 9 (strV t) (.string ⟨#[63]⟩)).run Tryd.prog W = .ok (strV F1) W)) := by
        rintro t rfl
        by_cases h1 : x = -1
        · refine .inl ⟨h1, ?_⟩
          have h2 : wdOf x = [45] := by rw [h1]; rfl
          rw [h2] at r2; exact r2
        · by_cases h2 : 0 ≤ x ∧ x ≤ 7
          · exact .inr (.inl ⟨h1, h2, r2⟩)
          · refine .inr (.inr ⟨h1, h2, ?_⟩)
            have h3 : wdOf x = [63] := by unfold wdOf; rw [if_neg h1, if_neg h2]
            rw [h3] at r2; exact r2
      obtain ⟨t, ht, e1⟩ := e1
      have e3 := e2 t ht
      clear e2
      subst ht
      have HDEC := hide (fun (h : 0 ≤ x ∧ x ≤ 7) W => decimal_ref x h W)
      clear hq hF1 r2 ha hx hN hp hb hb'
      rcases e1 with ⟨h0, rfl⟩ | ⟨h0, ea⟩ <;> rcases e3 with ⟨rfl, eb⟩ | ⟨hx1, hx2, eb⟩ | ⟨hx1, hx2, eb⟩
      all_goals
        go_wp2_with (first
          | (go_at_call 15; refine (within_base _ _ _ _).mono ?_; rintro e w' ⟨rfl, rfl⟩; simp only [withinB])
          | (go_at_call 33; refine (HDEC.out hx2 _).mono ?_; rintro e w2 ⟨rfl, hb2⟩; have HB2 := hide hb2; clear hb2; simp only []))
        go_roundw
        case rel => exact ⟨k + 1, by omega, by go_num, by rw [HFn.out], by first | exact HB.out | exact HB.out.trans (HB2.out.mono (by have := HB.out.size; simp at this; omega))⟩
        case measure => simp [intOf]; omega
    · go_wp2
      go_ret
      obtain rfl : k = n := by omega
      have h := HN.out
      refine ⟨by rw [← h, List.take_length]; rfl, ?_⟩
      exact ((Below.refl _ w).alloc (Nat.le_refl _) _).trans (HB.out.mono (by omega))
end Go.Proofs.YtamkannjdbodpaaDoor
