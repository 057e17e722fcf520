/- A sweep over the eight steered beams of a channel that one step made finds that step, as the looks of the refining do, and the powers are as said; for every half step and strength. -/
import Derived.Test.YtamkannjdbodpaaDoorOpens
import Derived.Test.YtamkannjdbodpaaDoorTxB
import Derived.Test.YtamkannjdbodpaaDoorTxS
import Derived.Test.YtamkannjdbodpaaDoorTxR
import Derived.Deep.RegionHeld3
import Derived.StillTail
import Derived.Test.YtamkannjdbodpaaDoorSwpC
import Derived.Test.YtamkannjdbodpaaDoorLawA
import Derived.Test.YtamkannjdbodpaaDoorRefd
import Derived.Test.YtamkannjdbodpaaDoorJTopBeamSweepFindsBest
import Derived.Test.YtamkannjdbodpaaDoorOpenD
import Derived.Test.YtamkannjdbodpaaDoorTie
import Derived.Test.YtamkannjdbodpaaDoorCards
import Derived.LaidMore
import Derived.Lay
import Derived.SevenTiedAt
import Derived.Stop.Joined
namespace Go.Proofs.YtamkannjdbodpaaDoor
open Go.ChangeShapes Go.WideShapes Go.ChangeAt Go.RowKit

theorem array2 {α : Type} {cs : Array α} (h : cs.size = 2) : ∃ c0 c1, cs = #[c0, c1] := by
  obtain ⟨l⟩ := cs
  match l, h with
  | [c0, c1], _ => exact ⟨c0, c1, rfl⟩
theorem array3 {α : Type} {cs : Array α} (h : cs.size = 3) : ∃ c0 c1 c2, cs = #[c0, c1, c2] := by
  obtain ⟨l⟩ := cs
  match l, h with
  | [c0, c1, c2], _ => exact ⟨c0, c1, c2, rfl⟩

section
variable {H : Type} {enc : TypeId × Value → H} {W : World} {b0 base : Nat} {sp : Nat → Bool} {hd : Bool} {r : Reach} {v : Value} {d : DataW H} {p : List MemPlace}

set_option maxRecDepth 100000 in
/-- a struct of two ints as it comes in -/
theorem open_two {t : TypeId} {f0 f1 : Field} (ht : Tryd.prog.underlying t = some (.struct #[f0, f1])) (hc : Tryd.prog.cellsOf t = 2) (h0 : Tryd.prog.underlying f0.type = some (.int .i64)) (h1 : Tryd.prog.underlying f1.type = some (.int .i64))
    (o0 : f0.offset = 0) (o1 : f1.offset = 1) (s0 : Tryd.prog.cellsOf f0.type = 1) (s1 : Tryd.prog.cellsOf f1.type = 1)
    (hv : Value.okWide Tryd.prog W r b0 t v) (h : DataW.Trod enc Tryd.prog W base sp hd t v d p) :
    ∃ a b, v = .agg #[.int .i64 a, .int .i64 b] ∧ (Lit.int .i64 a).wf = true ∧ (Lit.int .i64 b).wf = true := by
  obtain ⟨cs, rfl, hsz⟩ := okWide_struct ht hv
  obtain ⟨c0, c1, rfl⟩ := array2 (hsz.trans hc)
  obtain ⟨fuel, hf⟩ := h
  obtain ⟨y0, y1, n, _, _, g0, g1⟩ := trod_struct2 ht hf
  obtain ⟨a, e0, _, w0⟩ := DataW.trod_int h0 g0
  obtain ⟨b, e1, _, w1⟩ := DataW.trod_int h1 g1
  rw [o0, s0] at e0
  rw [o1, s1] at e1
  simp [Value.cells] at e0 e1
  subst e0 e1
  exact ⟨a, b, rfl, w0, w1⟩

theorem trod_struct3 {t : TypeId} {f0 f1 f2 : Field} {fuel : Nat} {cs : List Value} {x : DataW H × List MemPlace} (ht : Tryd.prog.underlying t = some (.struct #[f0, f1, f2])) (h : DataW.trod enc Tryd.prog W base sp hd fuel t cs = some x) :
    ∃ y0 y1 y2 n, DataW.trod enc Tryd.prog W base sp hd n f0.type ((cs.drop f0.offset).take (Tryd.prog.cellsOf f0.type)) = some y0 ∧
      DataW.trod enc Tryd.prog W base sp hd n f1.type ((cs.drop f1.offset).take (Tryd.prog.cellsOf f1.type)) = some y1 ∧ DataW.trod enc Tryd.prog W base sp hd n f2.type ((cs.drop f2.offset).take (Tryd.prog.cellsOf f2.type)) = some y2 := by
  obtain ⟨xs, n, _, rfl, hl, hlen, hf⟩ := DataW.trod_struct ht h
  match xs, hlen with
  | [y0, y1, y2], _ => exact ⟨y0, y1, y2, n, by simpa using hf 0 f0 rfl, by simpa using hf 1 f1 rfl, by simpa using hf 2 f2 rfl⟩

set_option maxRecDepth 100000 in
/-- a struct of three ints as it comes in -/
theorem open_three {t : TypeId} {f0 f1 f2 : Field} (ht : Tryd.prog.underlying t = some (.struct #[f0, f1, f2])) (hc : Tryd.prog.cellsOf t = 3) (h0 : Tryd.prog.underlying f0.type = some (.int .i64)) (h1 : Tryd.prog.underlying f1.type = some (.int .i64)) (h2 : Tryd.prog.underlying f2.type = some (.int .i64))
    (o0 : f0.offset = 0) (o1 : f1.offset = 1) (o2 : f2.offset = 2) (s0 : Tryd.prog.cellsOf f0.type = 1) (s1 : Tryd.prog.cellsOf f1.type = 1) (s2 : Tryd.prog.cellsOf f2.type = 1)
    (hv : Value.okWide Tryd.prog W r b0 t v) (h : DataW.Trod enc Tryd.prog W base sp hd t v d p) :
    ∃ a b c, v = .agg #[.int .i64 a, .int .i64 b, .int .i64 c] ∧ (Lit.int .i64 a).wf = true ∧ (Lit.int .i64 b).wf = true ∧ (Lit.int .i64 c).wf = true := by
  obtain ⟨cs, rfl, hsz⟩ := okWide_struct ht hv
  obtain ⟨c0, c1, c2, rfl⟩ := array3 (hsz.trans hc)
  obtain ⟨fuel, hf⟩ := h
  obtain ⟨y0, y1, y2, n, g0, g1, g2⟩ := trod_struct3 ht hf
  obtain ⟨a, e0, _, w0⟩ := DataW.trod_int h0 g0
  obtain ⟨b, e1, _, w1⟩ := DataW.trod_int h1 g1
  obtain ⟨c, e2, _, w2⟩ := DataW.trod_int h2 g2
  rw [o0, s0] at e0
  rw [o1, s1] at e1
  rw [o2, s2] at e2
  simp [Value.cells] at e0 e1 e2
  subst e0 e1 e2
  exact ⟨a, b, c, rfl, w0, w1, w2⟩

set_option maxRecDepth 100000 in
/-- a slice of int as it comes in -/
theorem open_list {t e : TypeId} (ht : Tryd.prog.underlying t = some (.slice e)) (he : Tryd.prog.underlying e = some (.int .i64)) (hc : Tryd.prog.cellsOf e = 1)
    (hv : Value.okWide Tryd.prog W r b0 t v) (h : DataW.Trod enc Tryd.prog W base sp hd t v d p) : ∃ A c l, v = .slice A l.length c ∧ Sl W A (iv l) ∧ ∀ n ∈ l, (Lit.int .i64 n).wf = true := by
  obtain ⟨A, n, c, rfl⟩ := okWide_slice ht hv
  obtain ⟨fuel, hf⟩ := h
  obtain ⟨A', c', l, e, hs, hw⟩ := open_sl ht he hc (by simpa [Value.cells] using hf)
  exact ⟨A', c', l, e, hs, hw⟩
end
end Go.Proofs.YtamkannjdbodpaaDoor

namespace Go.Proofs.YtamkannjdbodpaaDoor
open Go.RowKit Go.WideShapes Go.ChangeShapes

/-! FormatBeam (reference) -/
theorem add_str (a b : Bs) (h : a.length + b.length ≤ 1000) (W : World) : (binOp .add 9 (strV a) (strV b)).run Tryd.prog W = .ok (strV (a ++ b)) W := by
  unfold strV
  rw [binOp_string_add, run_string_add_lists _ _ _ (by omega) (by omega)]
theorem fmt_len2 (l : List Int) (k : Nat) (hl : l.length ≤ 10) : (fmtL (l.take k)).length ≤ 20 := fmt_len _ (by rw [List.length_take]; omega)
theorem wd_len (n : Int) : (wdOf n).length = 1 := by unfold wdOf; split <;> (try split) <;> rfl
set_option maxRecDepth 100000 in
set_option maxHeartbeats 4000000 in
theorem format_ref (A : Option Addr) (c n : Nat) (l : List Int) (w : World) (hn : l.length = n) (hs : Sl w A (iv l)) (hl : n ≤ 10) :
    Calls Tryd.prog 11 #[.agg #[.slice A n c]] w fun e w' => e = .returned (strV (fmtL l)) ∧ Below w.heap.size w w' := by
  have HT := hide ((stay_sl (hs.alloc (.cells #[.slice A n c] 24))).and (stay_new w 24 #[.slice A n c]))
  have HN := hide hn
  clear hn hs
  go_enter Tryd.func11, Tryd.ntmps11
  go_wp2
  go_loopw [3, 4] (fun t i wr => ∃ k : Nat, k ≤ n ∧ i = .int .i64 k ∧ t = strV (fmtL (l.take k)) ∧ Below (w.heap.size + 1) (w.alloc (.cells #[.slice A n c] 24)) wr) (fun _ i _ => n - (intOf i).toNat)
  case atStart => exact ⟨0, Nat.zero_le _, rfl, by simp [fmtL, Lib.join, strV], Below.refl _ _⟩
  case round =>
    obtain ⟨k, hk, rfl, rfl, hb⟩ := hrel
    have hN := HN.out
    have hb' : Below (w.alloc (.cells #[.slice A n c] 24)).heap.size (w.alloc (.cells #[.slice A n c] 24)) wr := by simpa using hb
    have c0 := (HT.out _ hb').2.cell 0
    have HB := hide hb
    by_cases hlt : k < n
    · obtain ⟨b1, o1, hA, c1⟩ := (HT.out _ hb').1.int (by omega : k < l.length)
      subst hA
      have g1 : (0 : Int) ≤ (k : Int) := by omega
      have g2 : (k : Int) < (n : Int) := by omega
      have hla := fmt_len2 l k (by omega)
      obtain ⟨a, ha⟩ : ∃ a, fmtL (l.take k) = a := ⟨_, rfl⟩
      obtain ⟨x, hx⟩ : ∃ x, l[k]'(by omega) = x := ⟨_, rfl⟩
      obtain ⟨p, hp, hq⟩ : ∃ p : Bs, p.length ≤ 21 ∧ ((k = 0 ∧ p = a ∧ fmtL (l.take (k + 1)) = p ++ wdOf x) ∨ (0 < k ∧ p = a ++ [32] ∧ fmtL (l.take (k + 1)) = p ++ wdOf x)) := by
        rcases Nat.eq_zero_or_pos k with h0 | h0
        · subst h0
          refine ⟨a, by rw [← ha]; omega, .inl ⟨rfl, rfl, ?_⟩⟩
          rw [fmt_one l (by omega), ← ha, ← hx]; simp [fmtL, Lib.join]
        · refine ⟨a ++ [32], by rw [← ha]; simp; omega, .inr ⟨h0, rfl, ?_⟩⟩
          rw [fmt_snoc l k (by omega) h0, ha, ← hx]; simp
      rw [ha]
      rw [ha] at hla
      rw [hx] at c1
      have r2 := fun W => add_str p (wdOf x) (by rw [wd_len]; omega) W
      obtain ⟨F1, hF1⟩ : ∃ F1, p ++ wdOf x = F1 := ⟨_, rfl⟩
      rw [hF1] at hq r2
      have eg : ∀ op u v r z, eqGuard op 9 u v (strV r) z = pure () := fun op u v r z => eqG_str op u v r z
      have e1 : ∃ t, t = p ∧ ((¬ 0 < k ∧ t = a) ∨ (0 < k ∧ ∀ W, (binOp .add 9 (strV a) (.string ⟨#[32]⟩)).run Tryd.prog W = .ok (strV p) W)) := by
        rcases hq with ⟨h0, h1, _⟩ | ⟨h0, h1, _⟩
        · exact ⟨p, rfl, .inl ⟨by omega, h1⟩⟩
        · exact ⟨p, rfl, .inr ⟨h0, by rw [h1]; exact fun W => add_str a [32] (by simp; omega) W⟩⟩
      have HFn := hide (show fmtL (l.take (k + 1)) = F1 from by rcases hq with ⟨_, _, h⟩ | ⟨_, _, h⟩ <;> exact h)
      have e2 : ∀ t, t = p → ((x = -1 ∧ ∀ W, (binOp .add 9 (strV t) (.string ⟨#[45]⟩)).run Tryd.prog W = .ok (strV F1) W) ∨ (x ≠ -1 ∧ (0 ≤ x ∧ x ≤ 7) ∧ ∀ W, (binOp .add 9 (strV t) (strV (wdOf x))).run Tryd.prog W = .ok (strV F1) W) ∨
          (x ≠ -1 ∧ ¬ (0 ≤ x ∧ x ≤ 7) ∧ ∀ W, (binOp .add 9 (strV t) (.string ⟨#[63]⟩)).run Tryd.prog W = .ok (strV F1) W)) := by
        rintro t rfl
        by_cases h1 : x = -1
        · refine .inl ⟨h1, ?_⟩
          have h2 : wdOf x = [45] := by rw [h1]; rfl
          rw [h2] at r2; exact r2
        · by_cases h2 : 0 ≤ x ∧ x ≤ 7
          · exact .inr (.inl ⟨h1, h2, r2⟩)
          · refine .inr (.inr ⟨h1, h2, ?_⟩)
            have h3 : wdOf x = [63] := by unfold wdOf; rw [if_neg h1, if_neg h2]
            rw [h3] at r2; exact r2
      obtain ⟨t, ht, e1⟩ := e1
      have e3 := e2 t ht
      clear e2
      subst ht
      have HDEC := hide (fun (h : 0 ≤ x ∧ x ≤ 7) W => decimal_ref x h W)
      clear hq hF1 r2 ha hx hN hp hb hb'
      rcases e1 with ⟨h0, rfl⟩ | ⟨h0, ea⟩ <;> rcases e3 with ⟨rfl, eb⟩ | ⟨hx1, hx2, eb⟩ | ⟨hx1, hx2, eb⟩
      all_goals
        go_wp2_with (first
          | (go_at_call 15; refine (within_base _ _ _ _).mono ?_; rintro e w' ⟨rfl, rfl⟩; simp only [withinB])
          | (go_at_call 33; refine (HDEC.out hx2 _).mono ?_; rintro e w2 ⟨rfl, hb2⟩; have HB2 := hide hb2; clear hb2; simp only []))
        go_roundw
        case rel => exact ⟨k + 1, by omega, by go_num, by rw [HFn.out], by first | exact HB.out | exact HB.out.trans (HB2.out.mono (by have := HB.out.size; simp at this; omega))⟩
        case measure => simp [intOf]; omega
    · go_wp2
      go_ret
      obtain rfl : k = n := by omega
      have h := HN.out
      refine ⟨by rw [← h, List.take_length]; rfl, ?_⟩
      exact ((Below.refl _ w).alloc (Nat.le_refl _) _).trans (HB.out.mono (by omega))
end Go.Proofs.YtamkannjdbodpaaDoor

namespace Go.Proofs.YtamkannjdbodpaaDoor
open Go.RowKit Go.WideShapes Go.ChangeShapes

/-! FormatBeam (program) -/
theorem baL (ws : List Bs) : (ws.map (fun b : Bs => (ByteArray.mk b.toArray))).map (fun b => b.data.toList) = ws := by
  rw [List.map_map]
  conv => rhs; rw [← List.map_id ws]
  refine List.map_congr_left fun b _ => ?_
  show b.toArray.toList = b
  simp
theorem join_texts (ws : List Bs) (C : Option Addr) (q n base : Nat) (W : World) (h : W.ownsRow base 9 1 (.slice C n q) n (svL ws)) (hn : ws.length = n) (hl : n ≤ 1000) (hJ : (Lib.join ws [32]).length ≤ 1000) :
    Calls Tryd.prog 27 #[.slice C n q, .string ⟨#[32]⟩] W fun e w' => e = .returned (strV (Lib.join ws [32])) ∧ Below W.heap.size W w' := by
  rcases Nat.eq_zero_or_pos n with h0 | h0
  · subst h0
    obtain rfl : ws = [] := List.eq_nil_of_length_eq_zero hn
    exact (Tryd.strings_Join_none C q _ W).mono fun e w' ⟨h1, h2⟩ => ⟨h1, by subst h2; exact Below.refl _ _⟩
  · have hcap := cap_of_own h
    obtain ⟨g, cap, hv, _, hlt⟩ := h.form h0
    have hc := h.cells (g := g) (by rw [hv]; rfl)
    injection hv with h1 h2 h3
    subst h1
    have hm : (ws.map (fun b : Bs => (ByteArray.mk b.toArray))).length = n := by rw [List.length_map]; exact hn
    have hj := Tryd.strings_Join g 0 q (ws.map (fun b : Bs => (ByteArray.mk b.toArray))) ⟨#[32]⟩ W (fun j x hx => by
      rw [List.getElem?_map] at hx
      cases hw : ws[j]? with
      | none => rw [hw] at hx; cases hx
      | some b =>
        rw [hw] at hx
        injection hx with hx
        subst hx
        have h4 : (svL ws)[j]? = some (strV b) := by rw [svL, List.getElem?_map, hw]; rfl
        have h5 := hc j _ h4
        rw [add_lit] at h5
        exact h5) hlt (by rw [hm]; omega) (by rw [hm]; exact hcap) (by rw [baL]; exact Nat.le_trans hJ (by decide))
    rw [hm, baL] at hj
    exact hj
theorem digit_of (x : Int) (h : 0 ≤ x ∧ x ≤ 7) (W : World) : (Instr.slice 9 (.string ⟨#[48, 49, 50, 51, 52, 53, 54, 55]⟩) (some (.int .i64 x)) (some (.int .i64 (x + 1))) none).run Tryd.prog W = .ok (.string ⟨(wdOf x).toArray⟩) W := by
  have h8 : (ByteArray.mk #[48, 49, 50, 51, 52, 53, 54, 55]).size = 8 := rfl
  rw [run_slice_string _ _ _ _ _ _ _ Tryd.underlying9 (by omega) (by omega) (by rw [h8]; omega)]
  have e : (ByteArray.mk #[48, 49, 50, 51, 52, 53, 54, 55]).extract x.toNat (x + 1).toNat = ⟨(wdOf x).toArray⟩ := by
    obtain h9 : x = 0 ∨ x = 1 ∨ x = 2 ∨ x = 3 ∨ x = 4 ∨ x = 5 ∨ x = 6 ∨ x = 7 := by omega
    rw [show (ByteArray.mk #[48, 49, 50, 51, 52, 53, 54, 55]) = ⟨([48, 49, 50, 51, 52, 53, 54, 55] : List UInt8).toArray⟩ from rfl, ByteArray.extract_mk]
    rcases h9 with rfl | rfl | rfl | rfl | rfl | rfl | rfl | rfl <;> rfl
  rw [e]
set_option maxRecDepth 100000 in
set_option maxHeartbeats 4000000 in
theorem format_beam (A : Option Addr) (c n : Nat) (l : List Int) (w : World) (hn : l.length = n) (hs : Sl w A (iv l)) (hl : n ≤ 10) :
    Calls Tryd.prog 7 #[.agg #[.slice A n c]] w fun e w' => e = .returned (strV (fmtL l)) ∧ Below w.heap.size w w' := by
  obtain ⟨i0, hi0, hz0, hz1, hz2⟩ := info_parts ss_info
  have HT := hide (stay_sl (hs.alloc (.cells #[.slice A n c] 24)))
  have HN := hide hn
  have HJN := hide (fun ws C q m base W => join_texts ws C q m base W)
  clear hn hs
  go_enter Tryd.func7, Tryd.ntmps7
  go_wp2
  go_loopw [3, 5, 9] (fun o _ i wr => ∃ (k : Nat) (C : Option Addr) (q : Nat) (ws : List Bs), k ≤ n ∧ i = .int .i64 k ∧ o = .slice C k q ∧ ws = (l.take k).map wdOf ∧ wr.ownsRow (w.heap.size + 1) 9 1 (.slice C k q) k (svL ws) ∧ Below (w.heap.size + 1) (w.alloc (.cells #[.slice A n c] 24)) wr) (fun _ _ i _ => n - (intOf i).toNat)
  case atStart => exact ⟨0, none, 0, [], Nat.zero_le _, rfl, rfl, rfl, World.ownsRow_nil _ _ _ _, Below.refl _ _⟩
  case round =>
    obtain ⟨k, C, q, ws, hk, rfl, rfl, hws, hrow, hbel⟩ := hrel
    have HROW := hide hrow
    have HBE := hide hbel
    have HWS := hide hws
    have hbel' : Below (w.alloc (.cells #[.slice A n c] 24)).heap.size (w.alloc (.cells #[.slice A n c] 24)) wr := by simpa using hbel
    have HS := hide (HT.out _ hbel')
    clear hrow hbel hws hbel'
    by_cases hlt : k < n
    · have hkl : k < l.length := by rw [HN.out]; exact hlt
      obtain ⟨b1, o1, hA, c1⟩ := HS.out.int hkl
      subst hA
      have HWN := hide (show (l.take (k + 1)).map wdOf = ws ++ [wdOf l[k]] from by rw [HWS.out, List.take_succ_eq_append_getElem hkl, List.map_append]; rfl)
      obtain ⟨x, hx⟩ : ∃ x, l[k]'hkl = x := ⟨_, rfl⟩
      rw [hx] at c1 HWN
      have g1 : (0 : Int) ≤ (k : Int) := by omega
      have g2 : (k : Int) < (n : Int) := by omega
      clear hx hkl
      by_cases h1 : x = -1
      · subst h1
        go_wp2_with (first
          | (go_at_call 26; refine (isPhase_beam _ _).mono ?_; rintro e w' ⟨rfl, rfl⟩; simp only [withinB])
          | (at_builtin; go_loud (refine wpList_append_any _ rfl (.tmp 19) (.tmp 20) _ rfl (w.heap.size + 1) 9 i0 _ 1 16 Tryd.underlying64 hi0 hz0 hz1 hz2 rfl (by omega) _ k (svL ws) rfl (HROW.out.alloc _) (wr.heap.size + 1) (some ⟨wr.heap.size, 0, none⟩) 1 1 [strV (wdOf (-1))] rfl (reads_one wr (strV (wdOf (-1))) 9) (by simp [Value.oneCell', strV]) (by simp only [maxLen]; omega) (by omega) (by have := HBE.out.size; simp at this; simp; omega) ?_); intro v' w6 hown' hgrow _))
        obtain ⟨C2, q2, rfl⟩ := own_form hown'
        go_roundw
        case rel => exact ⟨k + 1, C2, q2, ws ++ [wdOf (-1)], by omega, by go_num, rfl, HWN.out.symm, by rw [svL_app]; exact hown', (HBE.out.alloc (by have := HBE.out.size; simpa using this) _).grown hgrow (by have := HBE.out.size; simp at this; simp; omega) (fun j hj => (HROW.out.lt j hj).1)⟩
        case measure => simp [intOf]; omega
      · by_cases h2 : 0 ≤ x ∧ x ≤ 7
        · have hdg := fun W => digit_of x h2 W
          obtain ⟨h3, h4⟩ := h2
          have h5 : withinB x (-1) 7 = true := by unfold withinB; simp; omega
          go_wp2_with (first
            | (go_at_call 26; refine (isPhase_beam _ _).mono ?_; rintro e w' ⟨rfl, rfl⟩; rw [h5]; simp only [])
            | (at_builtin; go_loud (refine wpList_append_any _ rfl (.tmp 25) (.tmp 30) _ rfl (w.heap.size + 1) 9 i0 _ 1 16 Tryd.underlying64 hi0 hz0 hz1 hz2 rfl (by omega) _ k (svL ws) rfl (HROW.out.alloc _) (wr.heap.size + 1) (some ⟨wr.heap.size, 0, none⟩) 1 1 [strV (wdOf x)] rfl (reads_one wr (strV (wdOf x)) 9) (by simp [Value.oneCell', strV]) (by simp only [maxLen]; omega) (by omega) (by have := HBE.out.size; simp at this; simp; omega) ?_); intro v' w6 hown' hgrow _))
          obtain ⟨C2, q2, rfl⟩ := own_form hown'
          go_roundw
          case rel => exact ⟨k + 1, C2, q2, ws ++ [wdOf x], by omega, by go_num, rfl, HWN.out.symm, by rw [svL_app]; exact hown', (HBE.out.alloc (by have := HBE.out.size; simpa using this) _).grown hgrow (by have := HBE.out.size; simp at this; simp; omega) (fun j hj => (HROW.out.lt j hj).1)⟩
          case measure => simp [intOf]; omega
        · have h5 : withinB x (-1) 7 = false := by
            cases hq : withinB x (-1) 7
            · rfl
            · exfalso
              have : -1 ≤ x ∧ x ≤ 7 := by simpa [withinB] using hq
              omega
          have h6 : wdOf x = [63] := by unfold wdOf; rw [if_neg h1, if_neg h2]
          rw [h6] at HWN
          clear h2 h6
          go_wp2_with (first
            | (go_at_call 26; refine (isPhase_beam _ _).mono ?_; rintro e w' ⟨rfl, rfl⟩; rw [h5]; simp only [])
            | (at_builtin; go_loud (refine wpList_append_any _ rfl (.tmp 13) (.tmp 14) _ rfl (w.heap.size + 1) 9 i0 _ 1 16 Tryd.underlying64 hi0 hz0 hz1 hz2 rfl (by omega) _ k (svL ws) rfl (HROW.out.alloc _) (wr.heap.size + 1) (some ⟨wr.heap.size, 0, none⟩) 1 1 [strV [63]] rfl (reads_one wr (strV [63]) 9) (by simp [Value.oneCell', strV]) (by simp only [maxLen]; omega) (by omega) (by have := HBE.out.size; simp at this; simp; omega) ?_); intro v' w6 hown' hgrow _))
          obtain ⟨C2, q2, rfl⟩ := own_form hown'
          go_roundw
          case rel => exact ⟨k + 1, C2, q2, ws ++ [[63]], by omega, by go_num, rfl, HWN.out.symm, by rw [svL_app]; exact hown', (HBE.out.alloc (by have := HBE.out.size; simpa using this) _).grown hgrow (by have := HBE.out.size; simp at this; simp; omega) (fun j hj => (HROW.out.lt j hj).1)⟩
          case measure => simp [intOf]; omega
    · obtain rfl : k = n := by omega
      have HWA := hide (show ws = l.map wdOf from by have h1 := HWS.out; have h2 := HN.out; rw [← h2, List.take_length] at h1; exact h1)
      have HJ := hide (show Calls Tryd.prog 27 #[.slice C k q, .string ⟨#[32]⟩] wr fun e w' => e = .returned (strV (fmtL l)) ∧ Below wr.heap.size wr w' from by
        have := HJN.out ws C q k _ wr HROW.out (by rw [HWA.out, List.length_map]; exact HN.out) (by omega) (by rw [HWA.out]; exact Nat.le_trans (fmt_len l (by rw [HN.out]; exact hl)) (by decide))
        rw [HWA.out] at this
        exact this)
      go_wp2_with (go_at_call 27; refine HJ.out.mono ?_; rintro e w2 ⟨rfl, hb2⟩; have HB2 := hide hb2; clear hb2; simp only [])
      go_ret
      exact ⟨rfl, ((Below.refl _ w).alloc (Nat.le_refl _) _).trans ((HBE.out.mono (by omega)).trans (HB2.out.mono (by have := HBE.out.size; simp at this; omega)))⟩
end Go.Proofs.YtamkannjdbodpaaDoor

namespace Go.Proofs.YtamkannjdbodpaaDoor
open Go.RowKit Go.WideShapes Go.ChangeShapes

/-! base.Cut at a blank -/
theorem take_snoc {l : Bs} {i k : Nat} (hk : k < l.length) (hi : i ≤ k) : (l.drop i).take (k + 1 - i) = (l.drop i).take (k - i) ++ [l[k]] := by
  have e : k + 1 - i = (k - i) + 1 := by omega
  rw [e, List.take_succ_eq_append_getElem (by rw [List.length_drop]; omega), List.getElem_drop]
  congr 3
  omega
theorem cut_step {l : Bs} {i k : Nat} (hk : k < l.length) (hi : i ≤ k) (h : l[k] = 32) (hno : ∀ x ∈ (l.drop i).take (k - i), x ≠ 32) : cutL (l.drop i) = (l.drop i).take (k - i) :: cutL (l.drop (k + 1)) := by
  have := cutL_hit (l := l.drop i) (k := k - i) (by rw [List.length_drop]; omega) hno (by rw [List.getElem_drop]; rw [← h]; congr 1; omega)
  rw [this, List.drop_drop]
  congr 3
  omega
/-- a slice of texts, in new memory -/
def RetS (w : World) (ws : List Bs) (e : Ending) (w' : World) : Prop :=
  ∃ A c, e = .returned (.slice A ws.length c) ∧ w'.ownsRow w.heap.size 9 1 (.slice A ws.length c) ws.length (svL ws) ∧ Below w.heap.size w w'
set_option maxRecDepth 100000 in
set_option maxHeartbeats 4000000 in
theorem cut_ref (l : Bs) (w : World) (hl : l.length ≤ 1000) : Calls Tryd.prog 32 #[strV l, .int .u8 32] w (RetS w (cutL l)) := by
  obtain ⟨i0, hi0, hz0, hz1, hz2⟩ := info_parts ss_info
  have hlen := fun t W => len_str l t W
  go_enter Tryd.func32, Tryd.ntmps32
  go_wp2
  go_loopw [5, 6, 7] (fun o f i wr => ∃ (k j : Nat) (C : Option Addr) (c1 m : Nat) (ws : List Bs), (j ≤ k ∧ k ≤ l.length ∧ m ≤ j) ∧ i = .int .i64 k ∧ f = .int .i64 j ∧ o = .slice C m c1 ∧ (ws.length = m ∧ cutL l = ws ++ cutL (l.drop j) ∧ ∀ x ∈ (l.drop j).take (k - j), x ≠ 32) ∧ wr.ownsRow w.heap.size 9 1 (.slice C m c1) m (svL ws) ∧ Below w.heap.size w wr) (fun _ _ i _ => l.length - (intOf i).toNat)
  case atStart => exact ⟨0, 0, none, 0, 0, [], ⟨Nat.le_refl _, Nat.zero_le _, Nat.le_refl _⟩, rfl, rfl, rfl, ⟨rfl, by simp, by simp⟩, World.ownsRow_nil _ _ _ _, Below.refl _ _⟩
  case round =>
    obtain ⟨k, j, C, c1, m, ws, ⟨hjk, hk, hmj⟩, rfl, rfl, rfl, ⟨hws, hcut, hno⟩, hrow, hbel⟩ := hrel
    have HROW := hide hrow
    have HBE := hide hbel
    have HWS := hide hws
    have HCUT := hide hcut
    have HNO := hide hno
    clear hrow hbel hws hcut hno
    by_cases hlt : k < l.length
    · have hidx := fun W => idx_str l k hlt W
      have HSN := hide (take_snoc hlt hjk)
      have hsl := fun W => slice_mid l j k hjk hk W
      have g1 : (k : Int) < (l.length : Int) := by omega
      have HST := hide (fun h : l[k] = 32 => cut_step hlt hjk h HNO.out)
      obtain ⟨X, hX⟩ : ∃ X, (l.drop j).take (k - j) = X := ⟨_, rfl⟩
      rw [hX] at hsl HST HSN
      by_cases h32 : l[k] = 32
      · have hq : ((l[k].toNat : Int) == 32) = true := by rw [h32]; rfl
        have HE := hide (show cutL l = (ws ++ [X]) ++ cutL (l.drop (k + 1)) from by rw [HCUT.out, HST.out h32]; simp)
        have HNE := hide (show ∀ x ∈ (l.drop (k + 1)).take (k + 1 - (k + 1)), x ≠ (32 : UInt8) from by simp)
        clear HST HSN hX h32
        go_wp2_with (at_builtin
                     refine wpList_append_any _ rfl (.tmp 19) (.tmp 24) _ rfl w.heap.size 9 i0 _ 1 16 Tryd.underlying64 hi0 hz0 hz1 hz2 rfl (by omega) _ m (svL ws) rfl
                       (HROW.out.alloc _) (wr.heap.size + 1) (some ⟨wr.heap.size, 0, none⟩) 1 1 [strV X] rfl (reads_one wr (strV X) 9) (by simp [Value.oneCell', strV]) (by simp only [maxLen]; omega) (by omega) (by have := HBE.out.size; simp; omega) ?_
                     intro v' w6 hown' hgrow _)
        obtain ⟨C2, k2, rfl⟩ := own_form hown'
        go_roundw
        case rel => exact ⟨k + 1, k + 1, C2, k2, m + 1, ws ++ [X], ⟨Nat.le_refl _, by omega, by omega⟩, by go_num, by go_num, rfl, ⟨by rw [List.length_append, HWS.out]; rfl, HE.out, HNE.out⟩, by rw [svL_app]; exact hown', Below.app HBE.out HROW.out hgrow⟩
        case measure => simp [intOf]; omega
      · have hq : ((l[k].toNat : Int) == 32) = false := by
          rw [beq_eq_false_iff_ne]
          intro h
          exact h32 (UInt8.toNat_inj.1 (by show l[k].toNat = 32; omega))
        have HNE := hide (show ∀ x ∈ (l.drop j).take (k + 1 - j), x ≠ (32 : UInt8) from by
          rw [HSN.out]
          intro x hx
          rcases List.mem_append.1 hx with h | h
          · rw [← hX] at h; exact HNO.out x h
          · have : x = l[k] := by simpa using h
            rw [this]; exact h32)
        clear HST HSN hX h32
        go_wp2
        go_roundw
        case rel => exact ⟨k + 1, j, C, c1, m, ws, ⟨by omega, by omega, hmj⟩, by go_num, rfl, rfl, ⟨HWS.out, HCUT.out, HNE.out⟩, HROW.out, HBE.out⟩
        case measure => simp [intOf]; omega
    · obtain rfl : k = l.length := by omega
      have hsl := fun W => slice_from l j (j : Int) rfl (by omega) W
      have HE := hide (show cutL l = ws ++ [l.drop j] from by
        rw [HCUT.out, cutL_end (l.drop j)]
        have h := HNO.out
        rw [List.take_of_length_le (by rw [List.length_drop]; omega)] at h
        exact h)
      obtain ⟨X, hX⟩ : ∃ X, l.drop j = X := ⟨_, rfl⟩
      rw [hX] at hsl HE
      have hsl2 : ∀ W, (Instr.slice 9 (strV l) (some (.int .i64 (j : Int))) none none).run Tryd.prog W = .ok (.string ⟨X.toArray⟩) W := hsl
      clear hX hsl
      go_wp2_with (at_builtin
                   refine wpList_append_any _ rfl (.tmp 28) (.tmp 32) _ rfl w.heap.size 9 i0 _ 1 16 Tryd.underlying64 hi0 hz0 hz1 hz2 rfl (by omega) _ m (svL ws) rfl
                     (HROW.out.alloc _) (wr.heap.size + 1) (some ⟨wr.heap.size, 0, none⟩) 1 1 [strV X] rfl (reads_one wr (strV X) 9) (by simp [Value.oneCell', strV]) (by simp only [maxLen]; omega) (by omega) (by have := HBE.out.size; simp; omega) ?_
                   intro v' w6 hown' hgrow _)
      obtain ⟨C2, k2, rfl⟩ := own_form hown'
      go_ret
      unfold RetS
      rw [HE.out, svL_app, List.length_append, HWS.out]
      exact ⟨C2, k2, rfl, hown', Below.app HBE.out HROW.out hgrow⟩
end Go.Proofs.YtamkannjdbodpaaDoor

namespace Go.Proofs.YtamkannjdbodpaaDoor
open Go

/-! a region that draws its order and ends with a store into a variable that it loads: what is taken first holds up to that store -/
section
variable {P : Program} {ops : Array Oper} {Q : Exit → Act → World → Prop} {md : Region.Mode} {S : World → Prop} {z : Nat}

/-- whatever order is picked; behind every operation but number z the worlds meet S -/
def UpTo (P : Program) (md : Region.Mode) (ops : Array Oper) (Q : Exit → Act → World → Prop) (S : World → Prop) (z : Nat) : Nat → Array Bool → Act → World → Prop
  | 0, listed, a, w => Region.ready md ops listed = [] ∧ Q .normal a w
  | n + 1, listed, a, w => (Region.ready md ops listed = [] → Q .normal a w) ∧ ∀ k ∈ Region.ready md ops listed, wpOp P ops Q k (fun a' w' => (k ≠ z → S w') ∧ UpTo P md ops Q S z n (listed.setIfInBounds k true) a' w') a w

theorem UpTo.any : ∀ (n : Nat) (listed : Array Bool) (a : Act) (w : World), UpTo P md ops Q S z n listed a w → wpAny P md ops Q n listed a w
  | 0, _, _, _, h => h
  | n + 1, _, _, _, h => ⟨h.1, fun k hk => wpOp_mono (fun a' w' g => UpTo.any n _ a' w' g.2) (h.2 k hk)⟩

theorem UpTo.first {i : Nat} {oi : Oper} {v : Value} (hi : ops[i]? = some oi) (hsel : ∀ (j : Nat) (o : Oper) cs b, ops[j]? = some o → o.op ≠ .select cs b)
    (hQ : ∀ c a w, Q (.panic c) (a.put oi.dst v) w → Q (.panic c) a w) (hz : Region.waitsFor md ops z i = true) (n : Nat) :
    ∀ (listed : Array Bool) (a : Act) (w : World),
      (∀ j oj, ops[j]? = some oj → j ≠ i → listed.getD j true = false → (∀ e ∈ oj.after, Region.binds md e = true → e.on ≠ i) → oi.apart ops oj = true) →
      i ∈ Region.ready md ops listed → YieldsIf P ops S oi v a → S w →
      UpTo P md ops Q S z n (listed.setIfInBounds i true) (a.put oi.dst v) w → UpTo P md ops Q S z (n + 1) listed a w := by
  have own : ∀ (m : Nat) (listed : Array Bool) (a : Act) (w : World), YieldsIf P ops S oi v a → S w → UpTo P md ops Q S z m (listed.setIfInBounds i true) (a.put oi.dst v) w →
      wpOp P ops Q i (fun a' w' => (i ≠ z → S w') ∧ UpTo P md ops Q S z m (listed.setIfInBounds i true) a' w') a w := fun _ _ _ _ hy hS h => hy.wpOp hi hS ⟨fun _ => hS, h⟩
  induction n with
  | zero =>
    intro listed a w _ hr hy hS h
    refine ⟨fun h0 => by rw [h0] at hr; exact absurd hr (by simp), fun j hj => ?_⟩
    by_cases e : j = i
    · rw [e]; exact own 0 listed a w hy hS h
    · exact absurd (ready_mono hj e) (by rw [h.1]; simp)
  | succ n ih =>
    intro listed a w hfree hr hy hS h
    refine ⟨fun h0 => by rw [h0] at hr; exact absurd hr (by simp), fun j hj => ?_⟩
    by_cases e : j = i
    · rw [e]; exact own (n + 1) listed a w hy hS h
    obtain ⟨hun, oj, hoj, hall⟩ := mem_ready.1 hj
    -- nothing that may come up waits for i
    have hno : ∀ x ∈ oj.after, Region.binds md x = true → x.on ≠ i := by
      intro x hx hb hxi
      have g1 := hall x hx hb
      have g2 := (mem_ready.1 hr).1
      rw [hxi] at g1
      rw [getD_both g2] at g1
      exact absurd g1 (by decide)
    have hjz : j ≠ z := by
      rintro rfl
      obtain ⟨oz, hoz, x, hx, hb, hon⟩ := Region.waitsFor_spec hz
      rw [hoj] at hoz
      injection hoz with hoz
      subst hoz
      exact hno x hx hb hon
    have step := wpOp_putIf hoj (hfree j oj hoj e hun hno) (fun cs b => hsel i oi cs b hi) (fun cs b => hsel j oj cs b hoj) hQ hy (h.2 j (ready_mono hj e))
    refine wpOp_mono (fun a' w' g => ⟨g.2.1, ?_⟩) step
    refine ih (listed.setIfInBounds j true) a' w' (fun k ok hk hki hku hkn => hfree k ok hk hki ?_ hkn) (ready_mono hr (Ne.symm e)) g.1 (g.2.1 hjz) ?_
    · by_cases q : j = k
      · rw [← q]; exact hun
      · rw [getD_set_ne true q] at hku; exact hku
    · rw [Array.setIfInBounds_comm _ _ e]
      exact g.2.2

theorem UpTo.start {id : Nat} {a : Act} {w : World} (hm : P.follows .mixedOrders = true) (h : UpTo P .any ops Q S z ops.size (Array.replicate ops.size false) a w.drew) : (Code.region id ops true).wp P Q a w :=
  wp_region_any hm (UpTo.any _ _ _ _ h)
theorem UpTo.take {i : Nat} {oi : Oper} (d : Tmp) {v : Value} {n : Nat} {listed : Array Bool} {a : Act} {w : World} (hi : ops[i]? = some oi) (hd : oi.dst = some d)
    (hs : Region.noSelect ops = true) (hf : Region.free md ops listed i = true) (hr : (Region.ready md ops listed).contains i = true) (hz : Region.waitsFor md ops z i = true)
    (hQ : ∀ c a w, Q (.panic c) (a.put oi.dst v) w → Q (.panic c) a w) (hS : S w) (hy : YieldsIf P ops S oi v a)
    (h : UpTo P md ops Q S z n (listed.setIfInBounds i true) (a.put (some d) v) w) : UpTo P md ops Q S z (n + 1) listed a w :=
  UpTo.first hi (Region.noSelect_spec hs) hQ hz n listed a w (Region.free_spec hi hf) (by simpa using hr) hy hS (by rw [hd]; exact h)
theorem UpTo.next {i : Nat} {o : Oper} {n : Nat} {listed : Array Bool} {a : Act} {w : World} (hr : Region.ready md ops listed = [i]) (ho : ops[i]? = some o)
    (h : ∀ K : Act → World → Prop, Shut (∀ a w, (i ≠ z → S w) → UpTo P md ops Q S z n (listed.setIfInBounds i true) a w → K a w) → if Region.wanted o (yielded ops a.tmps) = true then Oper.wp P o a w K Q else K (a.put o.dst undef) w) :
    UpTo P md ops Q S z (n + 1) listed a w :=
  ⟨fun h0 => by rw [hr] at h0; exact absurd h0 (by simp), fun k hk => by
    rw [hr] at hk
    obtain rfl : k = i := by simpa using hk
    exact wpOp_step ho fun K hK => h K fun a w g1 g2 => hK a w ⟨g1, g2⟩⟩
theorem UpTo.done {listed : Array Bool} {a : Act} {w : World} (hr : Region.ready md ops listed = []) (h : Q .normal a w) : ∀ n, UpTo P md ops Q S z n listed a w
  | 0 => ⟨hr, h⟩
  | _ + 1 => ⟨fun _ => h, fun k hk => absurd hk (by rw [hr]; simp)⟩
end
end Go.Proofs.YtamkannjdbodpaaDoor

namespace Go.Proofs.YtamkannjdbodpaaDoor
open Go.RowKit Go.WideShapes Go.ChangeShapes

/-! ParseBeam (reference) -/
theorem ph_dash : phO [45] = some (-1) := rfl
theorem ph_bad {x : Bs} (h : x ≠ [45]) (hl : x.length ≠ 1) : phO x = none := by
  unfold phO
  rw [if_neg h]
  match x, hl with
  | [], _ => rfl
  | [a], hl => simp at hl
  | a :: b :: r, _ => rfl
theorem ph_one {x : Bs} (h : x ≠ [45]) (hl : x.length = 1) : phO x = if 48 ≤ (x[0]'(by omega)).toNat ∧ (x[0]'(by omega)).toNat ≤ 55 then some (((x[0]'(by omega)).toNat : Int) - 48) else none := by
  match x, hl with
  | [c], _ =>
    unfold phO
    rw [if_neg h]; rfl
theorem map_snoc {α β : Type} (f : α → β) (l : List α) (k : Nat) (hk : k < l.length) : (l.take (k + 1)).map f = (l.take k).map f ++ [f l[k]] := by
  rw [List.take_succ_eq_append_getElem hk, List.map_append]; rfl
theorem bb_dot : Tryd.prog.underlying 24 = some (.struct (Tryd.prog.fieldsOf 24)) := by kernel_rfl
theorem results_bb {P : Program} {fn : Func} {p q : Tmp} {ty : TypeId} (h : fn.results = #[.cell p ty, .tmp q]) (tmps : Array Value) (w : World) (g : Nat) (t : TypeId) (cs : Array Value) (d : TypeDesc) (v : Value)
    (hp : tmps.getD p undef = .pointer (some ⟨g, 0, none⟩)) (hq : tmps.getD q undef = v) (hg : Blk w g t cs)
    (hu : P.underlying ty = some d) (hd : (match d with | .struct _ | .array _ _ => true | _ => false) = true) (hi : (P.info? ty).map (·.size) = some cs.size) :
    (results fn tmps).run P w = .ok (.tuple #[.agg cs, v]) w := by
  have hp' : tmps[p]?.getD undef = .pointer (some ⟨g, 0, none⟩) := by simpa using hp
  have hq' : tmps[q]?.getD undef = v := by simpa using hq
  simp [results, h, hp', hq', asAddr, run_loadVar_row w g t ty cs (0, 0) d hg hu hd hi]
theorem own_far_block {w : World} {base e size n c b off : Nat} {A : Option Addr} {xs : List Value} (h : w.ownsRow base e size (.slice A n c) n xs) (hA : A = some ⟨b, off, none⟩) : base ≤ b := by
  rcases h.2 with ⟨hv, _⟩ | ⟨g, cap, cur, hv, hg, _⟩
  · injection hv with h1 _ _
    rw [h1] at hA
    cases hA
  · injection hv with h1 _ _
    rw [h1] at hA
    injection hA with h2
    injection h2 with h3
    omega
theorem sl_nil (W : World) : Sl W none (iv []) := fun k hk => absurd hk (by simp [iv])
set_option maxRecDepth 100000 in
set_option maxHeartbeats 8000000 in
theorem parse_ref (s : Bs) (w : World) (hl : s.length ≤ 40) : Calls Tryd.prog 10 #[strV s] w fun e w' => ∃ C q, e = .returned (.tuple #[.agg #[.slice C (prsL s).length q], .int .i64 (prsE s)]) ∧ Sl w' C (iv (prsL s)) ∧ Below w.heap.size w w' := by
  obtain ⟨i0, hi0, hz0, hz1, hz2⟩ := info_parts int_info
  have HCUT := hide (fun W => cut_ref s W (by omega))
  obtain ⟨P, hP⟩ : ∃ P, cutL s = P := ⟨_, rfl⟩
  have HPL := hide (show P.length ≤ 41 from by rw [← hP]; have := cutL_len s; omega)
  have HE := hide (show prsE s = if P.all okP = true then (chk (P.map phV)).2 else 7 from by rw [← hP]; rfl)
  have HL := hide (show prsL s = if prsE s = 0 then P.map phV else [] from by rw [← hP]; rfl)
  rw [hP] at HCUT
  clear hP
  go_enter Tryd.func10, Tryd.ntmps10
  go_wp2_with (go_at_call 32; go_must (refine (HCUT.out _).mono ?_; rintro e w1 ⟨A4, c4, rfl, ho4, hb4⟩; have HT := hide ((stay_sl (Sl.of_own ho4)).and (stay_blk ((Blk.new w 24 #[.slice none 0 0]).below hb4 (by simp)))); have HB1 := hide (show Below w.heap.size w w1 from Below.step ((Below.refl _ _).alloc (Nat.le_refl _) _) hb4); have HW1 := hide (show w.heap.size < w1.heap.size from by have := hb4.size; simp at this; omega); clear ho4 hb4; simp only []))
  obtain ⟨m, hm⟩ : ∃ m, P.length = m := ⟨_, rfl⟩
  have HM := hide hm
  have HM41 := hide (show m ≤ 41 from by rw [← hm]; exact HPL.out)
  rw [hm]
  clear hm HPL
  go_loopw [6] (fun i wr => ∃ (k : Nat) (C : Option Addr) (q : Nat) (xs : List Int), k ≤ m ∧ i = .int .i64 k ∧ xs = (P.take k).map phV ∧ (P.take k).all okP = true ∧ Blk wr w1.heap.size 24 #[.slice C k q] ∧ wr.ownsRow w1.heap.size 3 1 (.slice C k q) k (iv xs) ∧ Below w1.heap.size w1 wr) (fun i _ => m - (intOf i).toNat)
  case atStart => exact ⟨0, none, 0, [], Nat.zero_le _, rfl, rfl, rfl, Blk.new w1 _ _, World.ownsRow_nil _ _ _ _, (Below.refl _ _).alloc (Nat.le_refl _) _⟩
  case round =>
    obtain ⟨k, C, q, xs, hk, rfl, hxs, hok, hb5, hrow, hbel⟩ := hrel
    have HXS0 := hide hxs
    have HOK0 := hide hok
    have HB5 := hide hb5
    have HROW := hide hrow
    have HBE := hide hbel
    have HM4 := hide (show m ≤ 41 from HM41.out)
    have hm41 := HM41.out
    have d0 := HB5.out.cell 0
    clear hxs hok hb5 hrow hbel
    by_cases hlt : k < m
    · have hkP : k < P.length := by rw [HM.out]; exact hlt
      have hSlv : (svL P)[k]? = some (strV P[k]) := by rw [svL, List.getElem?_map, List.getElem?_eq_getElem hkP]; rfl
      have hlS : k < (svL P).length := by rw [svL_len]; exact hkP
      obtain ⟨pb, po, hA, hc⟩ := (HT.out _ HBE.out).1 k hlS
      have HCX0 := hide (fun W (h : Below w1.heap.size w1 W) => show W.cell? ⟨pb, po + k, none⟩ = some (strV P[k]) from by
        obtain ⟨pb', po', hA', hc'⟩ := (HT.out W h).1 k hlS
        rw [hA] at hA'
        injection hA' with h1
        injection h1 with h2 h3
        rw [h2, h3, hc']
        rw [List.getElem?_eq_getElem hlS] at hSlv
        exact hSlv)
      subst hA
      have HXN := hide (show (P.take (k + 1)).map phV = xs ++ [phV P[k]] from by rw [map_snoc phV P k hkP, HXS0.out])
      have HON := hide (show (P.take (k + 1)).all okP = okP P[k] from by rw [all_takeS okP P k hkP, HOK0.out]; rfl)
      have HBAD := hide (fun h : okP P[k] = false => show prsE s = 7 ∧ prsL s = [] from by
        have e : prsE s = 7 := by rw [HE.out, all_badAt okP P k hkP h]; rfl
        exact ⟨e, by rw [HL.out, e]; rfl⟩)
      obtain ⟨x, hx⟩ : ∃ x, P[k] = x := ⟨_, rfl⟩
      rw [hx] at HCX0 HXN HON HBAD
      have HCX := hide HCX0.out
      have cx := HCX.out wr HBE.out
      have g1 : (0 : Int) ≤ (k : Int) := by omega
      have g2 : (k : Int) < (m : Int) := by omega
      have eq1 : ∀ W, (binOp .eql 9 (strV x) (.string ⟨#[45]⟩)).run Tryd.prog W = .ok (.bool (x == [45])) W := fun W => eq_str x [45] W
      have eg : ∀ op u v r z, eqGuard op 9 u v (strV r) z = pure () := fun op u v r z => eqG_str op u v r z
      have hlen := fun t W => len_str x t W
      have f2 := (HT.out _ HBE.out).2.frozen 0
      have d2 := (HT.out _ HBE.out).2.cell 0
      clear hx hc hSlv hlS hkP HCX0
      by_cases h45 : x = [45]
      · obtain ⟨pv, hpv⟩ : ∃ pv : Int, pv = -1 := ⟨_, rfl⟩
        have HXS := hide (show (P.take (k + 1)).map phV = xs ++ [pv] from by rw [HXN.out, h45, hpv]; rfl)
        have HOKN := hide (show (P.take (k + 1)).all okP = true from by rw [HON.out, h45]; rfl)
        have hq : (x == [45]) = true := by rw [h45]; rfl
        rw [hpv] at HXS
        clear h45 HBAD hpv
        go_wp2_with (at_builtin; refine wpList_append_any _ ?e1 (.tmp 22) (.tmp 23) _ ?e2 w1.heap.size 3 i0 _ 1 8 Tryd.underlying22 hi0 hz0 hz1 hz2 ?e3 ?e4 _ k (iv xs) ?e5 (HROW.out.alloc _) (wr.heap.size + 1) (some ⟨wr.heap.size, 0, none⟩) 1 1 [.int .i64 (-1)] ?e6 (reads_one wr (.int .i64 (-1)) 3) ?e7 ?e8 ?e9 ?e10 ?_; (case e1 => go_loud (rfl)); (case e2 => go_loud (rfl)); (case e3 => go_loud (rfl)); (case e4 => go_loud (omega)); (case e5 => go_loud (rfl)); (case e6 => go_loud (rfl)); (case e7 => go_loud (simp [Value.oneCell'])); (case e8 => go_loud (simp only [maxLen]; omega)); (case e9 => go_loud (omega)); (case e10 => go_loud (have := HBE.out.size; simp; omega)); go_loud (intro v' w6 hown' hgrow _); go_loud (obtain ⟨C6, q6, rfl⟩ := own_form hown'); go_loud (have HOW := hide hown'); go_loud (have HH6 := hide (show Blk w6 w1.heap.size 24 #[.slice C k q] ∧ Below w1.heap.size w1 w6 from ⟨(HB5.out.alloc (.cells #[.int .i64 (-1)] 3)).grown hgrow (fun e => own_blk_ne (HROW.out.alloc (.cells #[.int .i64 (-1)] 3)) (HB5.out.alloc (.cells #[.int .i64 (-1)] 3)) (by decide) e.symm), Below.app HBE.out HROW.out hgrow⟩)); go_loud (clear hown' hgrow); go_loud (have hc0 := HH6.out.1.cell 0); go_loud (have hf0 := HH6.out.1.frozen 0))
        clear hc0 hf0
        have HB6 := hide (HH6.out.1.set_ 0 (.slice C6 (k + 1) q6))
        have HO6 := hide (own_far (u := .slice C6 (k + 1) q6) (i := 0) HOW.out HH6.out.1 (by decide))
        have HE6 := hide (HH6.out.2.setCell (p := ⟨w1.heap.size, 0, none⟩) (Nat.le_refl _) (.slice C6 (k + 1) q6))
        go_roundw
        case rel => exact ⟨k + 1, C6, q6, xs ++ [-1], by omega, by go_num, by rw [HXS.out], HOKN.out, HB6.out, by rw [iv_append]; exact HO6.out, HE6.out⟩
        case measure => simp [intOf]; omega
      · have hq : (x == [45]) = false := by simpa using h45
        have HN45 := hide h45
        clear h45
        by_cases hl1 : x.length = 1
        · have hidx := fun W => idx_str x 0 (by omega) W
          have HPO := hide (ph_one HN45.out hl1)
          obtain ⟨c8, hc8⟩ : ∃ c8, x[0]'(by omega) = c8 := ⟨_, rfl⟩
          rw [hc8] at hidx HPO
          have hcb : c8.toNat < 256 := UInt8.toNat_lt c8
          obtain ⟨cc, hcc⟩ : ∃ cc, c8.toNat = cc := ⟨_, rfl⟩
          rw [hcc] at hidx HPO hcb
          have hidx0 : ∀ W, (Instr.index 9 (strV x) (.int .i64 0)).run Tryd.prog W = .ok (.int .u8 (cc : Int)) W := hidx
          have hl1' : ((x.length : Int) != 1) = false := by rw [hl1]; rfl
          have HL1 := hide hl1
          clear hl1 hc8 hcc hidx
          by_cases hr : 48 ≤ cc ∧ cc ≤ 55
          · obtain ⟨hr1, hr2⟩ := hr
            have HXS := hide (show (P.take (k + 1)).map phV = xs ++ [(cc : Int) - 48] from by rw [HXN.out]; unfold phV; rw [HPO.out, if_pos ⟨hr1, hr2⟩]; rfl)
            have HOKN := hide (show (P.take (k + 1)).all okP = true from by rw [HON.out]; unfold okP; rw [HPO.out, if_pos ⟨hr1, hr2⟩]; rfl)
            clear HBAD
            have wr8 : IntKind.u8.wrap ((cc : Int) - 48) = (cc : Int) - 48 := IntWalk.u8_in _ (by omega)
            have wr64 : IntKind.i64.wrap ((cc : Int) - 48) = (cc : Int) - 48 := IntWalk.i64_in _ (by omega)
            go_wp2
            have HH := hide (show Blk wr.drew w1.heap.size 24 #[.slice C k q] ∧ Below w1.heap.size w1 wr.drew from ⟨HB5.out, below_drewN HBE.out 1⟩)
            have hHeld := HH.out
            refine UpTo.start (z := 12) (S := fun W => Blk W w1.heap.size 24 #[.slice C k q] ∧ Below w1.heap.size w1 W) (by kernel_rfl) ?_
            refine UpTo.take (i := 0) 49 (v := .pointer (some ⟨w1.heap.size, 0, none⟩)) rfl rfl (by kernel_rfl) (by kernel_rfl) (by kernel_rfl) (by kernel_rfl) (fun _ _ _ h => h) hHeld (Or.inl ⟨by rfl, by intro w hSw; go_simp⟩) ?_
            try simp only [Act.put, List.setIfInBounds_toArray, List.set_cons_zero, List.set_cons_succ]
            refine UpTo.take (i := 1) 50 (v := .slice C k q) rfl rfl (by kernel_rfl) (by kernel_rfl) (by kernel_rfl) (by kernel_rfl) (fun _ _ _ h => h) hHeld (Or.inl ⟨by rfl, by intro w2 hSw; have q0 := hSw.1.cell 0; go_simp⟩) ?_
            try simp only [Act.put, List.setIfInBounds_toArray, List.set_cons_zero, List.set_cons_succ]
            refine UpTo.take (i := 2) 51 (v := .slice (some ⟨pb, po, none⟩) m c4) rfl rfl (by kernel_rfl) (by kernel_rfl) (by kernel_rfl) (by kernel_rfl) (fun _ _ _ h => h) hHeld (Or.inl ⟨by rfl, by intro w hSw; go_simp⟩) ?_
            try simp only [Act.put, List.setIfInBounds_toArray, List.set_cons_zero, List.set_cons_succ]
            refine UpTo.take (i := 3) 52 (v := .int .i64 (k : Int)) rfl rfl (by kernel_rfl) (by kernel_rfl) (by kernel_rfl) (by kernel_rfl) (fun _ _ _ h => h) hHeld (Or.inl ⟨by rfl, by intro w hSw; go_simp⟩) ?_
            try simp only [Act.put, List.setIfInBounds_toArray, List.set_cons_zero, List.set_cons_succ]
            refine UpTo.take (i := 4) 53 (v := .pointer (some ⟨pb, po + k, none⟩)) rfl rfl (by kernel_rfl) (by kernel_rfl) (by kernel_rfl) (by kernel_rfl) (fun _ _ _ h => h) hHeld (Or.inl ⟨by rfl, by intro w2 hSw; go_simp⟩) ?_
            try simp only [Act.put, List.setIfInBounds_toArray, List.set_cons_zero, List.set_cons_succ]
            refine UpTo.take (i := 5) 54 (v := strV x) rfl rfl (by kernel_rfl) (by kernel_rfl) (by kernel_rfl) (by kernel_rfl) (fun _ _ _ h => h) hHeld (Or.inl ⟨by rfl, by intro w2 hSw; have q0 := HCX.out w2 hSw.2; go_simp⟩) ?_
            try simp only [Act.put, List.setIfInBounds_toArray, List.set_cons_zero, List.set_cons_succ]
            refine UpTo.take (i := 6) 55 (v := .int .u8 (cc : Int)) rfl rfl (by kernel_rfl) (by kernel_rfl) (by kernel_rfl) (by kernel_rfl) (fun _ _ _ h => h) hHeld (Or.inl ⟨by rfl, by intro w2 hSw; go_simp⟩) ?_
            try simp only [Act.put, List.setIfInBounds_toArray, List.set_cons_zero, List.set_cons_succ]
            refine UpTo.take (i := 7) 56 (v := .int .u8 ((cc : Int) - 48)) rfl rfl (by kernel_rfl) (by kernel_rfl) (by kernel_rfl) (by kernel_rfl) (fun _ _ _ h => h) hHeld (Or.inl ⟨by rfl, by intro w2 hSw; go_simp⟩) ?_
            try simp only [Act.put, List.setIfInBounds_toArray, List.set_cons_zero, List.set_cons_succ]
            refine UpTo.take (i := 8) 57 (v := .int .i64 ((cc : Int) - 48)) rfl rfl (by kernel_rfl) (by kernel_rfl) (by kernel_rfl) (by kernel_rfl) (fun _ _ _ h => h) hHeld (Or.inl ⟨by rfl, by intro w2 hSw; go_simp⟩) ?_
            try simp only [Act.put, List.setIfInBounds_toArray, List.set_cons_zero, List.set_cons_succ]
            obtain ⟨u0, hu0⟩ : ∃ W, wr.drew = W := ⟨_, rfl⟩
            have HO := hide (show wr.drew.ownsRow w1.heap.size 3 1 (.slice C k q) k (iv xs) from HROW.out)
            rw [hu0] at HH hHeld HO ⊢
            refine UpTo.next (i := 9) (by kernel_rfl) rfl (fun K hK => ?_)
            go_simp
            have HH2 := hide (show Blk (u0.alloc (.cells #[.int .i64 ((cc : Int) - 48)] 3)) w1.heap.size 24 #[.slice C k q] ∧ Below w1.heap.size w1 (u0.alloc (.cells #[.int .i64 ((cc : Int) - 48)] 3)) from ⟨HH.out.1.alloc _, HH.out.2.alloc HH.out.2.size _⟩)
            refine hK.out _ _ (fun _ => HH2.out) ?_
            clear hK K
            try simp only [Act.put, List.setIfInBounds_toArray, List.set_cons_zero, List.set_cons_succ]
            refine UpTo.next (i := 10) (by kernel_rfl) rfl (fun K hK => ?_)
            refine step_append_any _ (by rfl) _ _ 22 (by rfl) w1.heap.size 3 i0 _ 1 8 Tryd.underlying22 hi0 hz0 hz1 hz2 rfl (by omega) _ k (iv xs) (by rfl) (HO.out.alloc (.cells #[.int .i64 ((cc : Int) - 48)] 3)) (u0.heap.size + 1) (some ⟨u0.heap.size, 0, none⟩) 1 1 [.int .i64 ((cc : Int) - 48)] (by rfl) (reads_one u0 _ _) (by simp [Value.oneCell']) (by simp only [maxLen]; omega) (by omega) HH2.out.2.size ?_
            intro v6 w6 hown hgr hor
            obtain ⟨C6, q6, rfl⟩ := own_form hown
            have HOW := hide hown
            have HH6 := hide (show Blk w6 w1.heap.size 24 #[.slice C k q] ∧ Below w1.heap.size w1 w6 from ⟨HH2.out.1.grown hgr (fun e => own_blk_ne (HO.out.alloc (.cells #[.int .i64 ((cc : Int) - 48)] 3)) HH2.out.1 (by decide) e.symm), Below.app HH.out.2 HO.out hgr⟩)
            clear hown hgr hor
            refine hK.out _ _ (fun _ => HH6.out) ?_
            clear hK K
            try simp only [Act.put, List.setIfInBounds_toArray]
            refine UpTo.next (i := 11) (by kernel_rfl) rfl (fun K hK => ?_)
            go_simp
            refine hK.out _ _ (fun _ => HH6.out) ?_
            clear hK K
            try simp only [Act.put, List.setIfInBounds_toArray, List.set_cons_zero, List.set_cons_succ]
            have hc0 := HH6.out.1.cell 0
            have hf0 := HH6.out.1.frozen 0
            refine UpTo.next (i := 12) (by kernel_rfl) rfl (fun K hK => ?_)
            go_simp
            refine hK.out _ _ (fun h => absurd rfl h) ?_
            clear hK K
            refine UpTo.done (by kernel_rfl) ?_ _
            clear hc0 hf0
            have HB6 := hide (HH6.out.1.set_ 0 (.slice C6 (k + 1) q6))
            have HO6 := hide (own_far (u := .slice C6 (k + 1) q6) (i := 0) HOW.out HH6.out.1 (by decide))
            have HE6 := hide (HH6.out.2.setCell (p := ⟨w1.heap.size, 0, none⟩) (Nat.le_refl _) (.slice C6 (k + 1) q6))
            go_wp2
            go_roundw
            case rel => exact ⟨k + 1, C6, q6, xs ++ [(cc : Int) - 48], by omega, by go_num, by rw [HXS.out], HOKN.out, HB6.out, by rw [iv_append]; exact HO6.out, HE6.out⟩
            case measure => simp [intOf]; omega
          · have HNO := hide (show okP x = false from by unfold okP; rw [HPO.out, if_neg hr]; rfl)
            by_cases hr1 : cc < 48
            · clear hr
              obtain ⟨he, hl⟩ := HBAD.out HNO.out
              have HHE := hide he
              have HHL := hide hl
              clear he hl
              go_wp2
              refine bodyPost_ret (results_bb (fn := Tryd.f10) (p := 2) (q := 3) rfl _ _ w.heap.size 24 #[.slice none 0 0] _ (.int .i64 7) rfl rfl ((HT.out _ HBE.out).2.set_ 0 (.slice none 0 0)) Tryd.underlying24 rfl (by kernel_rfl)) rfl ?_
              have q1 : Ending.returned (.tuple #[.agg #[.slice none 0 0], .int .i64 7]) = Ending.returned (.tuple #[.agg #[.slice none (prsL s).length 0], .int .i64 (prsE s)]) := by rw [HHL.out, HHE.out]; rfl
              have q2 : ∀ W, Sl W none (iv (prsL s)) := fun W => by rw [HHL.out]; exact sl_nil W
              have q3 := (Below.step HB1.out HBE.out).setCell (p := ⟨w.heap.size, 0, none⟩) (Nat.le_refl _) (.slice none 0 0)
              first
                | exact ⟨none, 0, q1, q2 _, q3⟩
                | exact ⟨none, ⟨0, q1⟩, q2 _, q3⟩
            · have hr2 : 55 < cc := by omega
              clear hr
              obtain ⟨he, hl⟩ := HBAD.out HNO.out
              have HHE := hide he
              have HHL := hide hl
              clear he hl
              go_wp2
              refine bodyPost_ret (results_bb (fn := Tryd.f10) (p := 2) (q := 3) rfl _ _ w.heap.size 24 #[.slice none 0 0] _ (.int .i64 7) rfl rfl ((HT.out _ HBE.out).2.set_ 0 (.slice none 0 0)) Tryd.underlying24 rfl (by kernel_rfl)) rfl ?_
              have q1 : Ending.returned (.tuple #[.agg #[.slice none 0 0], .int .i64 7]) = Ending.returned (.tuple #[.agg #[.slice none (prsL s).length 0], .int .i64 (prsE s)]) := by rw [HHL.out, HHE.out]; rfl
              have q2 : ∀ W, Sl W none (iv (prsL s)) := fun W => by rw [HHL.out]; exact sl_nil W
              have q3 := (Below.step HB1.out HBE.out).setCell (p := ⟨w.heap.size, 0, none⟩) (Nat.le_refl _) (.slice none 0 0)
              first
                | exact ⟨none, 0, q1, q2 _, q3⟩
                | exact ⟨none, ⟨0, q1⟩, q2 _, q3⟩
        · have hl1' : ((x.length : Int) != 1) = true := by rw [bne_iff_ne]; omega
          have HNO := hide (show okP x = false from by unfold okP; rw [ph_bad HN45.out hl1]; rfl)
          clear hl1
          obtain ⟨he, hl⟩ := HBAD.out HNO.out
          have HHE := hide he
          have HHL := hide hl
          clear he hl
          go_wp2
          refine bodyPost_ret (results_bb (fn := Tryd.f10) (p := 2) (q := 3) rfl _ _ w.heap.size 24 #[.slice none 0 0] _ (.int .i64 7) rfl rfl ((HT.out _ HBE.out).2.set_ 0 (.slice none 0 0)) Tryd.underlying24 rfl (by kernel_rfl)) rfl ?_
          have q1 : Ending.returned (.tuple #[.agg #[.slice none 0 0], .int .i64 7]) = Ending.returned (.tuple #[.agg #[.slice none (prsL s).length 0], .int .i64 (prsE s)]) := by rw [HHL.out, HHE.out]; rfl
          have q2 : ∀ W, Sl W none (iv (prsL s)) := fun W => by rw [HHL.out]; exact sl_nil W
          have q3 := (Below.step HB1.out HBE.out).setCell (p := ⟨w.heap.size, 0, none⟩) (Nat.le_refl _) (.slice none 0 0)
          first
            | exact ⟨none, 0, q1, q2 _, q3⟩
            | exact ⟨none, ⟨0, q1⟩, q2 _, q3⟩
    · obtain rfl : k = m := by omega
      have HXA := hide (show xs = P.map phV from by have h1 := HXS0.out; have h2 := HM.out; rw [← h2, List.take_length] at h1; exact h1)
      have HOA := hide (show P.all okP = true from by have h1 := HOK0.out; have h2 := HM.out; rw [← h2, List.take_length] at h1; exact h1)
      have HEE := hide (show prsE s = (chk xs).2 from by rw [HE.out, if_pos HOA.out, HXA.out])
      have HLL := hide (show prsL s = if (chk xs).2 = 0 then xs else [] from by rw [HL.out, HEE.out, HXA.out])
      have HXL := hide (show xs.length = k from by rw [HXA.out, List.length_map]; exact HM.out)
      have HBR := hide (fun W (h : Sl W C (iv xs)) => (by have := beamErr_ref C q xs W h (by rw [HXL.out]; omega); rw [HXL.out] at this; exact this : Calls Tryd.prog 13 #[.agg #[.slice C k q]] W fun e w' => e = .returned (.int .i64 (chk xs).2) ∧ Below W.heap.size W w'))
      have HSX := hide (Sl.of_own HROW.out)
      obtain ⟨E, hE⟩ : ∃ E, (chk xs).2 = E := ⟨_, rfl⟩
      rw [hE] at HEE HLL HBR
      clear hE
      by_cases hE0 : E = 0
      · subst hE0
        have HLX := hide (show prsL s = xs from by rw [HLL.out]; rfl)
        go_wp2_with (go_at_call 13; refine (HBR.out _ HSX.out).mono ?_; rintro e w2 ⟨rfl, hb2⟩; have HB2 := hide hb2; have D5 := hide (HB5.out.below hb2 HB5.out.lt); have T2 := hide ((HT.out _ (Below.step HBE.out hb2)).2); have S2 := hide (HSX.out.bel hb2); clear hb2; have d5 := D5.out.cell 0; have f2 := T2.out.frozen 0; have c2 := T2.out.cell 0; simp only [])
        refine bodyPost_ret (results_bb (fn := Tryd.f10) (p := 2) (q := 3) rfl _ _ w.heap.size 24 #[.slice C k q] _ (.int .i64 0) rfl rfl (T2.out.set_ 0 (.slice C k q)) Tryd.underlying24 rfl (by kernel_rfl)) rfl ?_
        have q1 : Ending.returned (.tuple #[.agg #[.slice C k q], .int .i64 0]) = Ending.returned (.tuple #[.agg #[.slice C (prsL s).length q], .int .i64 (prsE s)]) := by rw [HLX.out, HEE.out, HXL.out]
        have q2 : Sl (w2.setCell ⟨w.heap.size, 0, none⟩ (.slice C k q)) C (iv (prsL s)) := by
          rw [HLX.out]
          exact S2.out.setCell (fun b off e => by
            have hr := own_far_block HROW.out e
            have := HB1.out.size
            have h2 := HW1.out
            omega) _
        have q3 := (Below.step (Below.step HB1.out HBE.out) HB2.out).setCell (p := ⟨w.heap.size, 0, none⟩) (Nat.le_refl _) (.slice C k q)
        first
          | exact ⟨C, q, q1, q2, q3⟩
          | exact ⟨C, ⟨q, q1⟩, q2, q3⟩
      · have hne : (E != 0) = true := by rw [bne_iff_ne]; exact hE0
        have HHL := hide (show prsL s = [] from by rw [HLL.out, if_neg hE0])
        clear hE0
        go_wp2_with (go_at_call 13; refine (HBR.out _ HSX.out).mono ?_; rintro e w2 ⟨rfl, hb2⟩; have HB2 := hide hb2; have D5 := hide (HB5.out.below hb2 HB5.out.lt); have T2 := hide ((HT.out _ (Below.step HBE.out hb2)).2); clear hb2; have d5 := D5.out.cell 0; have f2 := T2.out.frozen 0; have c2 := T2.out.cell 0; simp only [])
        refine bodyPost_ret (results_bb (fn := Tryd.f10) (p := 2) (q := 3) rfl _ _ w.heap.size 24 #[.slice none 0 0] _ (.int .i64 E) rfl rfl (T2.out.set_ 0 (.slice none 0 0)) Tryd.underlying24 rfl (by kernel_rfl)) rfl ?_
        have q1 : Ending.returned (.tuple #[.agg #[.slice none 0 0], .int .i64 E]) = Ending.returned (.tuple #[.agg #[.slice none (prsL s).length 0], .int .i64 (prsE s)]) := by rw [HHL.out, HEE.out]; rfl
        have q2 : ∀ W, Sl W none (iv (prsL s)) := fun W => by rw [HHL.out]; exact sl_nil W
        have q3 := (Below.step (Below.step HB1.out HBE.out) HB2.out).setCell (p := ⟨w.heap.size, 0, none⟩) (Nat.le_refl _) (.slice none 0 0)
        first
          | exact ⟨none, 0, q1, q2 _, q3⟩
          | exact ⟨none, ⟨0, q1⟩, q2 _, q3⟩
end Go.Proofs.YtamkannjdbodpaaDoor

namespace Go.Proofs.YtamkannjdbodpaaDoor
open Go.RowKit Go.WideShapes Go.ChangeShapes Go.Shelf

attribute [local go_sem] Oper.semAt_some
/-! ParseBeam (program) -/
theorem index_digit (c : UInt8) : Lib.index [48, 49, 50, 51, 52, 53, 54, 55] [c] = if 48 ≤ c.toNat ∧ c.toNat ≤ 55 then (c.toNat : Int) - 48 else -1 := by
  by_cases h : 48 ≤ c.toNat ∧ c.toNat ≤ 55
  · rw [if_pos h]
    obtain h8 : c.toNat = 48 ∨ c.toNat = 49 ∨ c.toNat = 50 ∨ c.toNat = 51 ∨ c.toNat = 52 ∨ c.toNat = 53 ∨ c.toNat = 54 ∨ c.toNat = 55 := by omega
    rcases h8 with h8 | h8 | h8 | h8 | h8 | h8 | h8 | h8
    · obtain rfl : c = 48 := UInt8.toNat_inj.1 h8
      decide
    · obtain rfl : c = 49 := UInt8.toNat_inj.1 h8
      decide
    · obtain rfl : c = 50 := UInt8.toNat_inj.1 h8
      decide
    · obtain rfl : c = 51 := UInt8.toNat_inj.1 h8
      decide
    · obtain rfl : c = 52 := UInt8.toNat_inj.1 h8
      decide
    · obtain rfl : c = 53 := UInt8.toNat_inj.1 h8
      decide
    · obtain rfl : c = 54 := UInt8.toNat_inj.1 h8
      decide
    · obtain rfl : c = 55 := UInt8.toNat_inj.1 h8
      decide
  · rw [if_neg h]
    have hk : ∀ k : Nat, 48 ≤ k → k ≤ 55 → (c == UInt8.ofNat k) = false := fun k h1 h2 => by
      rw [beq_eq_false_iff_ne]
      rintro rfl
      have : (UInt8.ofNat k).toNat = k := by rw [UInt8.toNat_ofNat']; omega
      omega
    have h0 := hk 48 (by omega) (by omega)
    have h1 := hk 49 (by omega) (by omega)
    have h2 := hk 50 (by omega) (by omega)
    have h3 := hk 51 (by omega) (by omega)
    have h4 := hk 52 (by omega) (by omega)
    have h5 := hk 53 (by omega) (by omega)
    have h6 := hk 54 (by omega) (by omega)
    have h7 := hk 55 (by omega) (by omega)
    simp at h0 h1 h2 h3 h4 h5 h6 h7
    simp [Lib.index, List.isPrefixOf, h0, h1, h2, h3, h4, h5, h6, h7]
theorem Blk.putObjS {w : World} {g : Nat} {t : TypeId} {cs : Array Value} (h : Blk w g t cs) {row : Option Nat} {W' : World} (hg : w.grownBy W' row) (hr : ∀ r, row = some r → ∃ o : Obj, w.heap[r]? = some o ∧ o.isCells = false) : Blk W' g t cs :=
  h.grown hg (fun e => by
    obtain ⟨o, ho, hc⟩ := hr g e.symm
    unfold Blk at h
    rw [h] at ho
    injection ho with ho
    subst ho
    cases hc)
theorem own_putObj {w W' : World} {base e size n : Nat} {v : Value} {xs : List Value} (h : w.ownsRow base e size v n xs) {row : Option Nat} (hg : w.grownBy W' row) (hr : ∀ r, row = some r → ∃ o : Obj, w.heap[r]? = some o ∧ o.isCells = false) : W'.ownsRow base e size v n xs :=
  h.kept hg (by
    cases hv : v.ownBlock with
    | none => exact .inl rfl
    | some k =>
      refine .inr fun e => ?_
      obtain ⟨o, ho, hc⟩ := hr k e.symm
      rcases h.2 with ⟨rfl, _⟩ | ⟨g, cap, cur, rfl, _, hh, _⟩
      · cases hv
      · have hgk : g = k := by simpa [Value.ownBlock] using hv
        subst hgk
        rw [hh] at ho
        injection ho with ho
        subst ho
        cases hc)
theorem keeps_own {W w6 : World} {base e size n : Nat} {v : Value} {xs : List Value} (h : W.ownsRow base e size v n xs) (hg : W.grownBy w6 v.ownBlock) : KeepsOthers W w6 :=
  ⟨hg.size, fun j o hj ho => (hg.block j (Array.getElem?_eq_some_iff.1 hj).1 (fun e => by
    rcases h.2 with ⟨hv, _⟩ | ⟨g, cap, cur, hv, _, hh, _⟩
    · rw [hv] at e; cases e
    · rw [hv] at e
      have hgj : j = g := by simpa [Value.ownBlock] using e
      rw [hgj, hh] at hj
      injection hj with hj
      subst hj
      cases ho)).trans hj⟩
theorem Blk.newN2 (w : World) (t : TypeId) (cs : Array Value) {g : Nat} (h : w.heap.size = g) : Blk (w.alloc (.cells cs t)) g t cs := by subst h; exact Blk.new w t cs
theorem own_turn {A B : World} {t : TypeId} {g base e size n : Nat} {v : Value} {xs : List Value} (hT : TurnsAt t g A B) (h : A.ownsRow base e size v n xs) (hg : g < base) : B.ownsRow base e size v n xs := by
  obtain ⟨row, hgr, hr⟩ := hT
  refine h.kept hgr ?_
  cases hv : v.ownBlock with
  | none => exact .inl rfl
  | some k =>
    refine .inr fun e => ?_
    have h1 := (hr k e.symm).1
    have h2 := (h.lt k hv).1
    omega
theorem below_turn {A B w : World} {t : TypeId} {g : Nat} (hT : TurnsAt t g A B) (h : Below w.heap.size w A) (hg : w.heap.size ≤ g) : Below w.heap.size w B := by
  obtain ⟨row, hgr, hr⟩ := hT
  exact h.grown hgr h.size (fun k e => by have := (hr k e).1; omega)
theorem turn_size {A B : World} {t : TypeId} {g : Nat} (hT : TurnsAt t g A B) : A.heap.size ≤ B.heap.size := by
  obtain ⟨row, hgr, _⟩ := hT
  exact hgr.size
theorem sl_putObj {W W' : World} {A : Option Addr} {xs : List Value} (h : Sl W A xs) {row : Option Nat} (hg : W.grownBy W' row) (hr : ∀ r, row = some r → ∃ o : Obj, W.heap[r]? = some o ∧ o.isCells = false) : Sl W' A xs := fun k hk => by
  obtain ⟨b, off, e, hc⟩ := h k hk
  exact ⟨b, off, e, cell_kept hc hg hr⟩
/-- behind an append, what lay below its rows lies as it lay -/
theorem keep6 {X w6 : World} {base e size n : Nat} {v : Value} {xs : List Value} (h : X.ownsRow base e size v n xs) (o : Obj) (hg : (X.alloc o).grownBy w6 v.ownBlock) : ∀ k t cs, Blk X k t cs → k < base → Blk w6 k t cs := fun k t cs hb hk =>
  (hb.alloc o).grown hg (fun e => by have := (h.lt k e.symm).1; omega)
theorem step6 {X w6 : World} {B g e size n : Nat} {v : Value} {xs : List Value} (h : X.ownsRow (g + 6) e size v n xs) (o : Obj) (hg : (X.alloc o).grownBy w6 v.ownBlock) (b : Nat) (hb : b < g + 3) (u : Value) :
    KeepsFrom B X (w6.setCell ⟨b, 0, none⟩ u) ∧ True ∧ KpS (g + 1 + 1 + 1) X (w6.setCell ⟨b, 0, none⟩ u) :=
  ⟨(((KeepsOthers.alloc X o).trans (keeps_own (h.alloc o) hg)).trans (KeepsOthers.setCell _ _ _)).from _, trivial, fun k t cs h1 h2 hk => (keep6 h o hg k t cs hk (by omega)).far (p := ⟨b, 0, none⟩) (by show k ≠ b; omega) u⟩
/-- so many pieces are read -/
def PrsAt (w : World) (pre : List Bs) (W : World) : Prop :=
  ∃ C q, Blk W (w.heap.size + 1 + 1) 24 #[.slice C pre.length q] ∧ W.ownsRow (w.heap.size + 6) 3 1 (.slice C pre.length q) pre.length (iv (pre.map phV)) ∧ pre.all okP = true ∧ (Below w.heap.size w W ∧ w.heap.size + 6 ≤ W.heap.size) ∧ Blk W w.heap.size 24 #[.slice none 0 0] ∧ Blk W (w.heap.size + 1) 29 #[.int .i64 0]
/-- a piece is wrong -/
def PrsX (w : World) (pre : List Bs) (W : World) : Prop :=
  pre.all okP = false ∧ Below w.heap.size w W ∧ Blk W w.heap.size 24 #[.slice none 0 0] ∧ Blk W (w.heap.size + 1) 29 #[.int .i64 7]
theorem own_belT {w w' : World} {base e size n : Nat} {v : Value} {xs : List Value} (h : w.ownsRow base e size v n xs) (hb : Below w.heap.size w w') : w'.ownsRow base e size v n xs :=
  h.kept (row := none) ⟨hb.os, hb.tape, hb.output, hb.size, fun k hk _ => hb.block k hk⟩ (by cases hv : v.ownBlock <;> simp)
set_option maxRecDepth 100000 in
set_option maxHeartbeats 8000000 in
theorem parse_own (s : Bs) (mx : Int) (w : World) (hl : s.length ≤ 40) (hm : w.cell? ⟨0, 0, none⟩ = some (.int .i64 mx)) :
    Calls Tryd.prog 9 #[strV s] w fun e w' => ∃ C q, e = .returned (.tuple #[.agg #[.slice C (prsL s).length q], .int .i64 (prsE s)]) ∧ w'.ownsRow w.heap.size 3 1 (.slice C (prsL s).length q) (prsL s).length (iv (prsL s)) ∧ Below w.heap.size w w' := by
  have HM := hide (fun W (h : Below w.heap.size w W) => show W.cell? ⟨0, 0, none⟩ = some (.int .i64 mx) from (h.cell (lt_of_cell hm)).trans hm)
  have hsp : strV s = .string ⟨s.toArray⟩ := rfl
  rw [hsp]
  clear hm hsp
  refine (callsIn_wide (n := 5)).1 ?_
  refine callsIn_of_wp_marks Tryd.func9 rfl trivial ?_ rfl
  simp only [Tryd.ntmps9, List.size_toArray, List.length_cons, List.length_nil, Nat.reduceAdd, Nat.reduceSub, Array.replicate_succ, Array.replicate_zero, List.push_toArray, List.append_toArray, List.nil_append, List.cons_append]
  gi_wp2_with (refine ⟨trivial, ?_⟩; gi_at_call 29; refine (SplitSeq_in _ _ _).mono ?_; rintro e w' ⟨rfl, rfl⟩)
  obtain ⟨i0, hi0, hz0, hz1, hz2⟩ := info_parts int_info
  obtain ⟨V, hV⟩ : ∃ W, ((((((w.alloc (.cells #[.slice none 0 0] 24)).alloc (.cells #[.int .i64 0] 29)).alloc (.cells #[.slice none 0 0] 24)).alloc (.cells #[.string ⟨s.toArray⟩] 9)).alloc (.cells #[.string ⟨#[32]⟩] 9)).alloc (.cells #[.int .i64 0] 3)) = W := ⟨_, rfl⟩
  have HZ := hide (show V.heap.size = w.heap.size + 6 from by rw [← hV]; simp)
  have HB2 := hide (show Blk V (w.heap.size) 24 #[.slice none 0 0] from by rw [← hV]; exact (((((Blk.newN2 _ _ _ (by simp)).alloc _).alloc _).alloc _).alloc _).alloc _)
  have HB3 := hide (show Blk V (w.heap.size + 1) 29 #[.int .i64 0] from by rw [← hV]; exact ((((Blk.newN2 _ _ _ (by simp)).alloc _).alloc _).alloc _).alloc _)
  have HB4 := hide (show Blk V (w.heap.size + 1 + 1) 24 #[.slice none 0 0] from by rw [← hV]; exact (((Blk.newN2 _ _ _ (by simp)).alloc _).alloc _).alloc _)
  have HG0 := hide (show Blk V (w.heap.size + 1 + 1 + 1) 9 #[strV s] from by rw [← hV]; exact ((Blk.newN2 _ _ _ (by simp)).alloc _).alloc _)
  have HG1 := hide (show Blk V (w.heap.size + 1 + 1 + 1 + 1) 9 #[.string ⟨#[32]⟩] from by rw [← hV]; exact (Blk.newN2 _ _ _ (by simp)).alloc _)
  have HG2 := hide (show Blk V (w.heap.size + 1 + 1 + 1 + 2) 3 #[.int .i64 0] from by rw [← hV]; exact Blk.newN2 _ _ _ (by simp))
  have HBV := hide (show Below w.heap.size w V from by rw [← hV]; exact (((((((Below.refl _ w).alloc (Nat.le_refl _) _).alloc (by simp) _).alloc (by simp; omega) _).alloc (by simp; omega) _).alloc (by simp; omega) _).alloc (by simp; omega) _))
  rw [hV]
  clear hV
  refine wpIn_rangeFunc_turns (t := 9) (g := w.heap.size + 1 + 1 + 1) (Kp := KpS (w.heap.size + 1 + 1 + 1)) (S := fun ys => ys = cutL s) (N := (cutL s).length) (enc := strV) rfl (by omega) (gf := 74) (lb := #[.pointer (some ⟨w.heap.size + 1 + 1 + 1 + 1, 0, none⟩), .pointer (some ⟨w.heap.size + 1 + 1 + 1, 0, none⟩), .pointer (some ⟨w.heap.size + 1 + 1 + 1 + 2, 0, none⟩)]) rfl trivial (enters Tryd.func74 (by kernel_rfl) rfl)
    (split_seq (5 - 1) (by omega) s (by omega) (w.heap.size + 1 + 1 + 1) V HG0.out HG1.out HG2.out) (Below.refl _ _) (fun _ _ _ _ _ h => h) (fun h k => KpS.trans h k) (fun W o k t cs _ _ h => h.alloc o) (fun W l o o' hl ho k t cs _ _ h => h.putObjS (grownBy_putObj' W l o') (fun r e => by cases e; exact ⟨o, hl, ho⟩))
    (PrsAt w) (PrsX w) ?hI ?hIx ?hIt ?hIxt ?h0 (fun x => { tmps := #[.string ⟨s.toArray⟩, undef, .pointer (some ⟨w.heap.size, 0, none⟩), .pointer (some ⟨w.heap.size + 1, 0, none⟩), .pointer (some ⟨w.heap.size + 1 + 1, 0, none⟩), strV x, undef, undef, .string ⟨s.toArray⟩, .func (.func 74) #[] #[.pointer (some ⟨w.heap.size + 1 + 1 + 1 + 1, 0, none⟩), .pointer (some ⟨w.heap.size + 1 + 1 + 1, 0, none⟩), .pointer (some ⟨w.heap.size + 1 + 1 + 1 + 2, 0, none⟩)], strV x, undef, undef, undef, undef, undef, undef, undef, undef, undef, undef, undef, undef, undef, undef, undef, undef, undef, undef, undef, undef, undef, undef, undef, undef, undef], defers := [] }) ?assign ?body ?done ?stop
  case hI =>
    rintro pre A X row ⟨C, q, h1, h2, h3, h4, h5, h6⟩ hg hr
    have hr2 := fun r e => (hr r e).2
    exact ⟨C, q, h1.putObjS hg hr2, own_putObj h2 hg hr2, h3, ⟨h4.1.grown hg h4.1.size (fun r e => Nat.le_trans HBV.out.size (hr r e).1), Nat.le_trans h4.2 hg.size⟩, h5.putObjS hg hr2, h6.putObjS hg hr2⟩
  case hIx =>
    rintro pre A X row ⟨h3, h4, h5, h6⟩ hg hr
    have hr2 := fun r e => (hr r e).2
    exact ⟨h3, h4.grown hg h4.size (fun r e => Nat.le_trans HBV.out.size (hr r e).1), h5.putObjS hg hr2, h6.putObjS hg hr2⟩
  case hIt =>
    rintro pre A X ⟨C, q, h1, h2, h3, h4, h5, h6⟩ hT
    exact ⟨C, q, hT.blk h1 (by omega), own_turn hT h2 (by omega), h3, ⟨below_turn hT h4.1 (by omega), Nat.le_trans h4.2 (turn_size hT)⟩, hT.blk h5 (by omega), hT.blk h6 (by omega)⟩
  case hIxt =>
    rintro pre A X ⟨h3, h4, h5, h6⟩ hT
    exact ⟨h3, below_turn hT h4 (by omega), hT.blk h5 (by omega), hT.blk h6 (by omega)⟩
  case h0 => exact ⟨none, 0, HB4.out, World.ownsRow_nil _ _ _ _, rfl, ⟨HBV.out, by rw [HZ.out]; exact Nat.le_refl _⟩, HB2.out, HB3.out⟩
  case assign =>
    intro lp x W K hK
    gi_wp2
    exact hK
  case body =>
    rintro lp pre x X ⟨C, q, h1, h2, h3, ⟨h4, hsz⟩, h5, h6⟩ hlen
    have H4 := hide h1
    have HOW := hide h2
    have HOK := hide h3
    have HBX := hide h4
    have H2 := hide h5
    have H3 := hide h6
    have hp41 : pre.length ≤ 41 := by have := cutL_len s; omega
    have HXS := hide hsz
    have c4 := H4.out.cell 0
    have hpl : (pre ++ [x]).length = pre.length + 1 := by simp
    have HPH := hide (show iv ((pre ++ [x]).map phV) = iv (pre.map phV) ++ [.int .i64 (phV x)] from by rw [List.map_append, iv_append]; rfl)
    have HOA := hide (show (pre ++ [x]).all okP = okP x from by rw [List.all_append, HOK.out]; simp)
    have ne1 : ∀ W, (binOp .neq 9 (strV x) (.string ⟨#[45]⟩)).run Tryd.prog W = .ok (.bool (!(x == [45]))) W := fun W => ne_str x [45] W
    have eg : ∀ op u v r z, eqGuard op 9 u v (strV r) z = pure () := fun op u v r z => eqG_str op u v r z
    have hln := fun t W => len_str x t W
    clear h1 h2 h3 h4 h5 h6 hlen
    by_cases h45 : x = [45]
    · have hq : (x == [45]) = true := by rw [h45]; rfl
      have HOKN := hide (show (pre ++ [x]).all okP = true from by rw [HOA.out, h45]; rfl)
      have hph : phV x = -1 := by rw [h45]; rfl
      rw [hph] at HPH
      clear hph h45
      gi_wp2_with ((gi_at_builtin; go_loud (refine wpListIn_append_own _ rfl _ _ 22 rfl (w.heap.size + 6) 3 i0 (.int .i64 0) 1 8 Tryd.underlying22 hi0 hz0 hz1 hz2 rfl (by decide) _ _ _ rfl (HOW.out.alloc (.cells #[.int .i64 (-1)] 3)) ⟨X.heap.size, 0, none⟩ 1 1 [.int .i64 (-1)] rfl rfl (cell_one_new _ _ _) (by simp [Value.oneCell']) (by simp only [maxLen]; omega) (by omega) (by have := HXS.out; simp; omega) ?_); go_loud (intro v' w6 hown' hgrow _; obtain ⟨C6, q6, rfl⟩ := own_form hown'; have HGR := hide hgrow; have HO6 := hide hown'; have H6 := hide (keep6 HOW.out (.cells #[.int .i64 (-1)] 3) hgrow); clear hown' hgrow; have D4 := hide (H6.out _ _ _ H4.out (by omega)); have d4 := D4.out.cell 0; have f4 := D4.out.frozen 0)))
      obtain ⟨K1, K2, K3⟩ := step6 HOW.out (.cells #[.int .i64 (-1)] 3) HGR.out (w.heap.size + 1 + 1) (by omega) (.slice C6 (pre.length + 1) q6)
      have N4 := hide ((H6.out _ _ _ H4.out (by omega)).set_ 0 (.slice C6 (pre.length + 1) q6))
      have N2 := hide ((H6.out _ _ _ H2.out (by omega)).far (p := ⟨w.heap.size + 1 + 1, 0, none⟩) (by show w.heap.size ≠ w.heap.size + 1 + 1; omega) (.slice C6 (pre.length + 1) q6))
      have N3 := hide ((H6.out _ _ _ H3.out (by omega)).far (p := ⟨w.heap.size + 1 + 1, 0, none⟩) (by show w.heap.size + 1 ≠ w.heap.size + 1 + 1; omega) (.slice C6 (pre.length + 1) q6))
      have NO := hide (own_far (u := .slice C6 (pre.length + 1) q6) (i := 0) HO6.out (H6.out _ _ _ H4.out (by omega)) (by decide))
      have NB := hide (((HBX.out.alloc HBX.out.size (.cells #[.int .i64 (-1)] 3)).grown HGR.out (by have := HXS.out; simp; omega) (fun j hj => by have := (HOW.out.lt j hj).1; omega)).setCell (p := ⟨w.heap.size + 1 + 1, 0, none⟩) (by show w.heap.size ≤ w.heap.size + 1 + 1; omega) (.slice C6 (pre.length + 1) q6))
      exact ⟨K1, .inl ⟨rfl, K3, C6, q6, by rw [hpl]; exact N4.out, by rw [hpl, HPH.out]; exact NO.out, HOKN.out, ⟨NB.out, Nat.le_trans HXS.out K1.size⟩, N2.out, N3.out⟩⟩
    · have hq : (x == [45]) = false := by simpa using h45
      have HN45 := hide h45
      clear h45
      by_cases hl1 : x.length = 1
      · obtain ⟨c8, hc8⟩ : ∃ c8, x = [c8] := by
          match x, hl1 with
          | [c], _ => exact ⟨c, rfl⟩
        have hph : phO x = if 48 ≤ c8.toNat ∧ c8.toNat ≤ 55 then some ((c8.toNat : Int) - 48) else none := by
          have h := ph_one HN45.out hl1
          subst hc8
          exact h
        have HIX := hide (fun W (h : Below w.heap.size w W) => (by have := Tryd.strings_Index ⟨#[48, 49, 50, 51, 52, 53, 54, 55]⟩ ⟨x.toArray⟩ mx W (by decide) (HM.out W h); rw [show (ByteArray.mk x.toArray).data.toList = [c8] from by rw [hc8], show (ByteArray.mk #[48, 49, 50, 51, 52, 53, 54, 55]).data.toList = [48, 49, 50, 51, 52, 53, 54, 55] from rfl, index_digit] at this; exact this : Calls Tryd.prog 30 #[.string ⟨#[48, 49, 50, 51, 52, 53, 54, 55]⟩, strV x] W fun e w' => e = .returned (.int .i64 (if 48 ≤ c8.toNat ∧ c8.toNat ≤ 55 then (c8.toNat : Int) - 48 else -1)) ∧ w' = W))
        have hl1' : ((x.length : Int) != 1) = false := by rw [hl1]; rfl
        obtain ⟨cc, hcc⟩ : ∃ cc, c8.toNat = cc := ⟨_, rfl⟩
        rw [hcc] at hph HIX
        have HL1 := hide hl1
        clear hc8 hcc hl1
        by_cases hr : 48 ≤ cc ∧ cc ≤ 55
        · rw [if_pos hr] at hph HIX
          obtain ⟨hr1, hr2⟩ := hr
          have hpv : phV x = (cc : Int) - 48 := by unfold phV; rw [hph]; rfl
          have HOKN := hide (show (pre ++ [x]).all okP = true from by rw [HOA.out]; unfold okP; rw [hph]; rfl)
          rw [hpv] at HPH
          obtain ⟨pv, hpv2⟩ : ∃ pv : Int, (cc : Int) - 48 = pv := ⟨_, rfl⟩
          rw [hpv2] at HPH HIX
          have hp0 : 0 ≤ pv := by omega
          have hp1 : ¬ pv < 0 := by omega
          clear hpv hpv2 hph hr1 hr2
          gi_wp2_with (first
            | (refine ⟨trivial, ?_⟩; gi_at_call 30; refine (CallsIn.inRound lp (callsIn_wide.2 (HIX.out _ HBX.out))).mono ?_; rintro e w' ⟨rfl, hw⟩; rw [hw]; clear hw)
            | (gi_at_builtin; go_loud (refine wpListIn_append_own _ rfl _ _ 22 rfl (w.heap.size + 6) 3 i0 (.int .i64 0) 1 8 Tryd.underlying22 hi0 hz0 hz1 hz2 rfl (by decide) _ _ _ rfl (HOW.out.alloc (.cells #[.int .i64 pv] 3)) ⟨X.heap.size, 0, none⟩ 1 1 [.int .i64 pv] rfl rfl (cell_one_new _ _ _) (by simp [Value.oneCell']) (by simp only [maxLen]; omega) (by omega) (by have := HXS.out; simp; omega) ?_); go_loud (intro v' w6 hown' hgrow _; obtain ⟨C6, q6, rfl⟩ := own_form hown'; have HGR := hide hgrow; have HO6 := hide hown'; have H6 := hide (keep6 HOW.out (.cells #[.int .i64 pv] 3) hgrow); clear hown' hgrow; have D4 := hide (H6.out _ _ _ H4.out (by omega)); have d4 := D4.out.cell 0; have f4 := D4.out.frozen 0)))
          obtain ⟨K1, K2, K3⟩ := step6 HOW.out (.cells #[.int .i64 pv] 3) HGR.out (w.heap.size + 1 + 1) (by omega) (.slice C6 (pre.length + 1) q6)
          have N4 := hide ((H6.out _ _ _ H4.out (by omega)).set_ 0 (.slice C6 (pre.length + 1) q6))
          have N2 := hide ((H6.out _ _ _ H2.out (by omega)).far (p := ⟨w.heap.size + 1 + 1, 0, none⟩) (by show w.heap.size ≠ w.heap.size + 1 + 1; omega) (.slice C6 (pre.length + 1) q6))
          have N3 := hide ((H6.out _ _ _ H3.out (by omega)).far (p := ⟨w.heap.size + 1 + 1, 0, none⟩) (by show w.heap.size + 1 ≠ w.heap.size + 1 + 1; omega) (.slice C6 (pre.length + 1) q6))
          have NO := hide (own_far (u := .slice C6 (pre.length + 1) q6) (i := 0) HO6.out (H6.out _ _ _ H4.out (by omega)) (by decide))
          have NB := hide (((HBX.out.alloc HBX.out.size (.cells #[.int .i64 pv] 3)).grown HGR.out (by have := HXS.out; simp; omega) (fun j hj => by have := (HOW.out.lt j hj).1; omega)).setCell (p := ⟨w.heap.size + 1 + 1, 0, none⟩) (by show w.heap.size ≤ w.heap.size + 1 + 1; omega) (.slice C6 (pre.length + 1) q6))
          exact ⟨K1, .inl ⟨rfl, K3, C6, q6, by rw [hpl]; exact N4.out, by rw [hpl, HPH.out]; exact NO.out, HOKN.out, ⟨NB.out, Nat.le_trans HXS.out K1.size⟩, N2.out, N3.out⟩⟩
        · rw [if_neg hr] at hph HIX
          have HNB := hide (show (pre ++ [x]).all okP = false from by rw [HOA.out]; unfold okP; rw [hph]; rfl)
          have d2 := H2.out.cell 0
          have f2 := H2.out.frozen 0
          have d3 := H3.out.cell 0
          have f3 := H3.out.frozen 0
          clear hph hr
          gi_wp2_with ((refine ⟨trivial, ?_⟩; gi_at_call 30; refine (CallsIn.inRound lp (callsIn_wide.2 (HIX.out _ HBX.out))).mono ?_; rintro e w' ⟨rfl, hw⟩; rw [hw]; clear hw))
          have N2 := hide ((H2.out.set_ 0 (.slice none 0 0)).far (p := ⟨w.heap.size + 1, 0, none⟩) (by show w.heap.size ≠ w.heap.size + 1; omega) (.int .i64 7))
          have N3 := hide ((H3.out.far (p := ⟨w.heap.size, 0, none⟩) (by show w.heap.size + 1 ≠ w.heap.size; omega) (.slice none 0 0)).set_ 0 (.int .i64 7))
          exact ⟨((KeepsOthers.setCell _ _ _).trans (KeepsOthers.setCell _ _ _)).from _, .inr ⟨rfl, HNB.out, (HBX.out.setCell (p := ⟨w.heap.size, 0, none⟩) (Nat.le_refl _) _).setCell (p := ⟨w.heap.size + 1, 0, none⟩) (by show w.heap.size ≤ w.heap.size + 1; omega) _, N2.out, N3.out⟩⟩
      · have hl1' : ((x.length : Int) != 1) = true := by rw [bne_iff_ne]; omega
        have hph := ph_bad HN45.out hl1
        have HNB := hide (show (pre ++ [x]).all okP = false from by rw [HOA.out]; unfold okP; rw [hph]; rfl)
        obtain ⟨ix, HIX⟩ : ∃ ix : Int, Hid (∀ W (_ : Below w.heap.size w W), Calls Tryd.prog 30 #[.string ⟨#[48, 49, 50, 51, 52, 53, 54, 55]⟩, strV x] W fun e w' => e = .returned (.int .i64 ix) ∧ w' = W) :=
          ⟨_, hide fun W h => Tryd.strings_Index ⟨#[48, 49, 50, 51, 52, 53, 54, 55]⟩ ⟨x.toArray⟩ mx W (by decide) (HM.out W h)⟩
        have d2 := H2.out.cell 0
        have f2 := H2.out.frozen 0
        have d3 := H3.out.cell 0
        have f3 := H3.out.frozen 0
        clear hph hl1
        gi_wp2_with ((refine ⟨trivial, ?_⟩; gi_at_call 30; refine (CallsIn.inRound lp (callsIn_wide.2 (HIX.out _ HBX.out))).mono ?_; rintro e w' ⟨rfl, hw⟩; rw [hw]; clear hw))
        have N2 := hide ((H2.out.set_ 0 (.slice none 0 0)).far (p := ⟨w.heap.size + 1, 0, none⟩) (by show w.heap.size ≠ w.heap.size + 1; omega) (.int .i64 7))
        have N3 := hide ((H3.out.far (p := ⟨w.heap.size, 0, none⟩) (by show w.heap.size + 1 ≠ w.heap.size; omega) (.slice none 0 0)).set_ 0 (.int .i64 7))
        exact ⟨((KeepsOthers.setCell _ _ _).trans (KeepsOthers.setCell _ _ _)).from _, .inr ⟨rfl, HNB.out, (HBX.out.setCell (p := ⟨w.heap.size, 0, none⟩) (Nat.le_refl _) _).setCell (p := ⟨w.heap.size + 1, 0, none⟩) (by show w.heap.size ≤ w.heap.size + 1; omega) _, N2.out, N3.out⟩⟩
  case done =>
    rintro D ys W hD rfl ⟨C, q, h1, h2, h3, ⟨h4, hsz⟩, h5, h6⟩ hK
    have HEE := hide (show prsE s = (chk ((cutL s).map phV)).2 from by unfold prsE; rw [if_pos h3])
    have HLL := hide (show prsL s = if (chk ((cutL s).map phV)).2 = 0 then (cutL s).map phV else [] from by unfold prsL; rw [HEE.out])
    have HXL := hide (show ((cutL s).map phV).length = (cutL s).length from List.length_map _)
    have hm41 : (cutL s).length ≤ 41 := by have := cutL_len s; omega
    obtain ⟨xs, hxs⟩ : ∃ xs, (cutL s).map phV = xs := ⟨_, rfl⟩
    obtain ⟨m, hm⟩ : ∃ m, (cutL s).length = m := ⟨_, rfl⟩
    rw [hxs] at HEE HLL HXL h2
    rw [hm] at HXL h1 h2 hm41
    have H4 := hide h1
    have HOW := hide h2
    have HSX := hide (Sl.of_own h2)
    have HBW := hide h4
    have H2 := hide h5
    have H3 := hide h6
    have HK := hide hK
    have HD := hide (show w.heap.size + 6 ≤ D from by rw [← HZ.out]; exact hD)
    have HBR := hide (fun W (h : Sl W C (iv xs)) => (by have := beamErr_beam C q xs W h (by rw [HXL.out]; omega); rw [HXL.out] at this; exact this : Calls Tryd.prog 31 #[.agg #[.slice C m q]] W fun e w' => e = .returned (.int .i64 (chk xs).2) ∧ Below W.heap.size W w'))
    have d4 := H4.out.cell 0
    obtain ⟨E, hE⟩ : ∃ E, (chk xs).2 = E := ⟨_, rfl⟩
    rw [hE] at HEE HLL HBR
    clear hE hxs hm h1 h2 h3 h4 h5 h6 hK hD hsz
    by_cases hE0 : E = 0
    · subst hE0
      have HLX := hide (show prsL s = xs from by rw [HLL.out]; rfl)
      gi_wp2_with (refine ⟨trivial, ?_⟩; gi_at_call 31; refine (callsIn_wide.2 (HBR.out _ HSX.out)).mono ?_; rintro e w2 ⟨rfl, hb2⟩; have NB2 := hide (Below.step HBW.out hb2); have D4 := hide (H4.out.below hb2 H4.out.lt); have T2 := hide (H2.out.below hb2 H2.out.lt); have T3 := hide (H3.out.below hb2 H3.out.lt); have S2 := hide (own_belT HOW.out hb2); have HK2 := hide ((hb2.block D (Array.getElem?_eq_some_iff.1 HK.out).1).trans HK.out); clear hb2; have d4 := D4.out.cell 0; have c2 := T2.out.cell 0; have f2 := T2.out.frozen 0; have c3 := T3.out.cell 0; have f3 := T3.out.frozen 0)
      have N2 := hide ((T2.out.set_ 0 (.slice C m q)).far (p := ⟨w.heap.size + 1, 0, none⟩) (by show w.heap.size ≠ w.heap.size + 1; omega) (.int .i64 0))
      have N3 := hide ((T3.out.far (p := ⟨w.heap.size, 0, none⟩) (by show w.heap.size + 1 ≠ w.heap.size; omega) (.slice C m q)).set_ 0 (.int .i64 0))
      have hK3 := (((KeepsOthers.setCell w2 ⟨w.heap.size, 0, none⟩ (.slice C m q)).trans (KeepsOthers.setCell _ ⟨w.heap.size + 1, 0, none⟩ (.int .i64 0))).same D _ HK2.out rfl)
      have NB := hide ((NB2.out.setCell (p := ⟨w.heap.size, 0, none⟩) (Nat.le_refl _) (.slice C m q)).setCell (p := ⟨w.heap.size + 1, 0, none⟩) (by show w.heap.size ≤ w.heap.size + 1; omega) (.int .i64 0))
      have NS := hide (own_far (u := .int .i64 0) (i := 0) (own_far (u := .slice C m q) (i := 0) S2.out T2.out (by decide)) (T3.out.far (p := ⟨w.heap.size, 0, none⟩) (by show w.heap.size + 1 ≠ w.heap.size; omega) (.slice C m q)) (by decide))
      obtain ⟨w3, hw3⟩ : ∃ W, (w2.setCell ⟨w.heap.size, 0, none⟩ (.slice C m q)).setCell ⟨w.heap.size + 1, 0, none⟩ (.int .i64 0) = W := ⟨_, rfl⟩
      rw [hw3] at N2 N3 hK3 NB NS ⊢
      clear hw3
      refine ⟨by simp, .inl ⟨_, _, rfl, run_takeDeferred hK3, ?_⟩⟩
      have hgD := grownBy_putObj' w3 D (.deferred none)
      have hrD : ∀ r, some D = some r → ∃ o : Obj, w3.heap[r]? = some o ∧ o.isCells = false := fun r e => by cases e; exact ⟨_, hK3, rfl⟩
      have g2 := (N2.out.putObjS hgD hrD).cell 0
      have g3 := (N3.out.putObjS hgD hrD).cell 0
      refine ⟨.tuple #[.agg #[.slice C m q], .int .i64 0], ?_, C, q, by rw [HLX.out, HEE.out, HXL.out], by rw [HLX.out, HXL.out]; exact (own_putObj NS.out hgD hrD).weaken (by omega), NB.out.grown hgD NB.out.size (fun j hj => by injection hj with hj; have := HD.out; omega)⟩
      simp [results, Tryd.f9, go_sem, g2, g3]
    · have hne : (E != 0) = true := by rw [bne_iff_ne]; exact hE0
      have HHL := hide (show prsL s = [] from by rw [HLL.out, if_neg hE0])
      clear hE0
      gi_wp2_with (refine ⟨trivial, ?_⟩; gi_at_call 31; refine (callsIn_wide.2 (HBR.out _ HSX.out)).mono ?_; rintro e w2 ⟨rfl, hb2⟩; have NB2 := hide (Below.step HBW.out hb2); have D4 := hide (H4.out.below hb2 H4.out.lt); have T2 := hide (H2.out.below hb2 H2.out.lt); have T3 := hide (H3.out.below hb2 H3.out.lt); have S2 := hide (HSX.out.bel hb2); have HK2 := hide ((hb2.block D (Array.getElem?_eq_some_iff.1 HK.out).1).trans HK.out); clear hb2; have d4 := D4.out.cell 0; have c2 := T2.out.cell 0; have f2 := T2.out.frozen 0; have c3 := T3.out.cell 0; have f3 := T3.out.frozen 0)
      have N2 := hide ((T2.out.set_ 0 (.slice none 0 0)).far (p := ⟨w.heap.size + 1, 0, none⟩) (by show w.heap.size ≠ w.heap.size + 1; omega) (.int .i64 E))
      have N3 := hide ((T3.out.far (p := ⟨w.heap.size, 0, none⟩) (by show w.heap.size + 1 ≠ w.heap.size; omega) (.slice none 0 0)).set_ 0 (.int .i64 E))
      have hK3 := (((KeepsOthers.setCell w2 ⟨w.heap.size, 0, none⟩ (.slice none 0 0)).trans (KeepsOthers.setCell _ ⟨w.heap.size + 1, 0, none⟩ (.int .i64 E))).same D _ HK2.out rfl)
      have NB := hide ((NB2.out.setCell (p := ⟨w.heap.size, 0, none⟩) (Nat.le_refl _) (.slice none 0 0)).setCell (p := ⟨w.heap.size + 1, 0, none⟩) (by show w.heap.size ≤ w.heap.size + 1; omega) (.int .i64 E))
      obtain ⟨w3, hw3⟩ : ∃ W, (w2.setCell ⟨w.heap.size, 0, none⟩ (.slice none 0 0)).setCell ⟨w.heap.size + 1, 0, none⟩ (.int .i64 E) = W := ⟨_, rfl⟩
      rw [hw3] at N2 N3 hK3 NB ⊢
      clear hw3
      refine ⟨by simp, .inl ⟨_, _, rfl, run_takeDeferred hK3, ?_⟩⟩
      have hgD := grownBy_putObj' w3 D (.deferred none)
      have hrD : ∀ r, some D = some r → ∃ o : Obj, w3.heap[r]? = some o ∧ o.isCells = false := fun r e => by cases e; exact ⟨_, hK3, rfl⟩
      have g2 := (N2.out.putObjS hgD hrD).cell 0
      have g3 := (N3.out.putObjS hgD hrD).cell 0
      refine ⟨.tuple #[.agg #[.slice none 0 0], .int .i64 E], ?_, none, 0, by rw [HHL.out, HEE.out]; rfl, by rw [HHL.out]; exact World.ownsRow_nil _ _ _ _, NB.out.grown hgD NB.out.size (fun j hj => by injection hj with hj; have := HD.out; omega)⟩
      simp [results, Tryd.f9, go_sem, g2, g3]
  case stop =>
    rintro D pre x r W hD hS ⟨h3, h4, h5, h6⟩ hK
    have hbad : (cutL s).all okP = false := by
      rw [← show pre ++ x :: r = cutL s from hS, show pre ++ x :: r = (pre ++ [x]) ++ r by simp, List.all_append, h3]; rfl
    have HEE := hide (show prsE s = 7 from by unfold prsE; rw [hbad]; rfl)
    have HHL := hide (show prsL s = [] from by unfold prsL; rw [HEE.out]; rfl)
    have HD := hide (show w.heap.size + 6 ≤ D from by rw [← HZ.out]; exact hD)
    have NB := hide h4
    have N2 := hide h5
    have N3 := hide h6
    have HK := hide hK
    clear hS hbad h3 h4 h5 h6 hK hD
    gi_wp2
    refine ⟨by simp, .inl ⟨_, _, rfl, run_takeDeferred HK.out, ?_⟩⟩
    have hgD := grownBy_putObj' W D (.deferred none)
    have hrD : ∀ r, some D = some r → ∃ o : Obj, W.heap[r]? = some o ∧ o.isCells = false := fun r e => by cases e; exact ⟨_, HK.out, rfl⟩
    have g2 := (N2.out.putObjS hgD hrD).cell 0
    have g3 := (N3.out.putObjS hgD hrD).cell 0
    refine ⟨.tuple #[.agg #[.slice none 0 0], .int .i64 7], ?_, none, 0, by rw [HHL.out, HEE.out]; rfl, by rw [HHL.out]; exact World.ownsRow_nil _ _ _ _, NB.out.grown hgD NB.out.size (fun j hj => by injection hj with hj; have := HD.out; omega)⟩
    simp [results, Tryd.f9, go_sem, g2, g3]
theorem parse_beam (s : Bs) (mx : Int) (w : World) (hl : s.length ≤ 40) (hm : w.cell? ⟨0, 0, none⟩ = some (.int .i64 mx)) :
    Calls Tryd.prog 9 #[strV s] w fun e w' => ∃ C q, e = .returned (.tuple #[.agg #[.slice C (prsL s).length q], .int .i64 (prsE s)]) ∧ Sl w' C (iv (prsL s)) ∧ Below w.heap.size w w' :=
  (parse_own s mx w hl hm).mono fun _ _ ⟨C, q, h1, h2, h3⟩ => ⟨C, q, h1, Sl.of_own h2, h3⟩
end Go.Proofs.YtamkannjdbodpaaDoor

namespace Go.Proofs.YtamkannjdbodpaaDoor

/-! a sweep finds who is there: the plain side -/
def rotZ (n : Nat) (z : Int × Int) : Int × Int := if n % 4 = 0 then z else if n % 4 = 1 then (-z.2, z.1) else if n % 4 = 2 then (-z.1, -z.2) else (z.2, -z.1)
theorem rotZ_succ (n : Nat) (z : Int × Int) : rotZ (n + 1) z = (-(rotZ n z).2, (rotZ n z).1) := by
  unfold rotZ
  have h : n % 4 = 0 ∨ n % 4 = 1 ∨ n % 4 = 2 ∨ n % 4 = 3 := by omega
  rcases h with h | h | h | h
  · rw [if_neg (by omega), if_pos (by omega), if_pos h]
  · rw [if_neg (by omega), if_neg (by omega), if_pos (by omega), if_neg (by omega), if_pos h]
  · rw [if_neg (by omega), if_neg (by omega), if_neg (by omega), if_neg (by omega), if_neg (by omega), if_pos h]; simp
  · rw [if_pos (by omega), if_neg (by omega), if_neg (by omega), if_neg (by omega)]; simp
theorem rotZ_le {z : Int × Int} (h : cle 30 z) (n : Nat) : cle 30 (rotZ n z) := by
  unfold cle at *
  unfold rotZ
  (repeat' split) <;> (try dsimp only) <;> omega
theorem cmul_i (z : Int × Int) : cmul z (0, 1) = (-z.2, z.1) := by unfold cmul; simp
def hK (half : Nat) (z : Int × Int) (k : Nat) : List (Int × Int) := (List.range k).map fun i => rotZ (half * i) z
theorem hK_len (half : Nat) (z : Int × Int) (k : Nat) : (hK half z k).length = k := by simp [hK]
theorem hK_succ (half : Nat) (z : Int × Int) (k : Nat) : hK half z (k + 1) = hK half z k ++ [rotZ (half * k) z] := by simp [hK, List.range_succ]
def bkS (k : Nat) : List (List Int) := (List.range k).map fun i : Nat => steerL (i : Int) 1 8
theorem bkS_len (k : Nat) : (bkS k).length = k := by simp [bkS]
theorem bkS_at (k i : Nat) (h : i < (bkS k).length) : (bkS k)[i] = steerL (i : Int) 1 8 := by simp [bkS]
theorem q4_ext {x y : Q4} (h1 : x.a = y.a) (h2 : x.b = y.b) (h3 : x.c = y.c) (h4 : x.d = y.d) : x = y := by cases x; cases y; simp_all
theorem pow_put (p0 p1 p2 p3 p4 p5 p6 p7 : Int) (h : List (Int × Int)) (hp : ∀ p ∈ [p0, p1, p2, p3, p4, p5, p6, p7], 0 ≤ p ∧ p ≤ 7) : pow [p0, p1, p2, p3, p4, p5, p6, p7] h =
    ((((((((⟨0, 0, 0, 0⟩ : Q4).put (numAt h 0) p0).put (numAt h 1) p1).put (numAt h 2) p2).put (numAt h 3) p3).put (numAt h 4) p4).put (numAt h 5) p5).put (numAt h 6) p6).put (numAt h 7) p7 := by
  show powU [p0, p1, p2, p3, p4, p5, p6, p7] h 8 = _
  simp only [List.mem_cons, List.mem_nil_iff, or_false, forall_eq_or_imp, forall_eq] at hp
  obtain ⟨h0, h1, h2, h3, h4, h5, h6, h7⟩ := hp
  rw [powU_on _ h 7 (by simp) h7, powU_on _ h 6 (by simp) h6, powU_on _ h 5 (by simp) h5, powU_on _ h 4 (by simp) h4, powU_on _ h 3 (by simp) h3, powU_on _ h 2 (by simp) h2, powU_on _ h 1 (by simp) h1, powU_on _ h 0 (by simp) h0]
  rfl
theorem hK_0 (a b : Int) : hK 0 (a, b) 8 = [(a, b), (a, b), (a, b), (a, b), (a, b), (a, b), (a, b), (a, b)] := rfl
theorem pw_0_0 (a b : Int) : pow (steerL 0 1 8) (hK 0 (a, b) 8) = ⟨8 * a, 0, 8 * b, 0⟩ := by
  rw [show steerL 0 1 8 = [0, 0, 0, 0, 0, 0, 0, 0] from by decide, hK_0, pow_put _ _ _ _ _ _ _ _ _ (by decide)]
  refine q4_ext ?_ ?_ ?_ ?_ <;> simp [Q4.put, Q4.add, numAt] <;> omega
theorem pw_0_1 (a b : Int) : pow (steerL 1 1 8) (hK 0 (a, b) 8) = ⟨0, 0, 0, 0⟩ := by
  rw [show steerL 1 1 8 = [0, 7, 6, 5, 4, 3, 2, 1] from by decide, hK_0, pow_put _ _ _ _ _ _ _ _ _ (by decide)]
  refine q4_ext ?_ ?_ ?_ ?_ <;> simp [Q4.put, Q4.add, numAt] <;> omega
theorem pw_0_2 (a b : Int) : pow (steerL 2 1 8) (hK 0 (a, b) 8) = ⟨0, 0, 0, 0⟩ := by
  rw [show steerL 2 1 8 = [0, 6, 4, 2, 0, 6, 4, 2] from by decide, hK_0, pow_put _ _ _ _ _ _ _ _ _ (by decide)]
  refine q4_ext ?_ ?_ ?_ ?_ <;> simp [Q4.put, Q4.add, numAt] <;> omega
theorem pw_0_3 (a b : Int) : pow (steerL 3 1 8) (hK 0 (a, b) 8) = ⟨0, 0, 0, 0⟩ := by
  rw [show steerL 3 1 8 = [0, 5, 2, 7, 4, 1, 6, 3] from by decide, hK_0, pow_put _ _ _ _ _ _ _ _ _ (by decide)]
  refine q4_ext ?_ ?_ ?_ ?_ <;> simp [Q4.put, Q4.add, numAt] <;> omega
theorem pw_0_4 (a b : Int) : pow (steerL 4 1 8) (hK 0 (a, b) 8) = ⟨0, 0, 0, 0⟩ := by
  rw [show steerL 4 1 8 = [0, 4, 0, 4, 0, 4, 0, 4] from by decide, hK_0, pow_put _ _ _ _ _ _ _ _ _ (by decide)]
  refine q4_ext ?_ ?_ ?_ ?_ <;> simp [Q4.put, Q4.add, numAt] <;> omega
theorem pw_0_5 (a b : Int) : pow (steerL 5 1 8) (hK 0 (a, b) 8) = ⟨0, 0, 0, 0⟩ := by
  rw [show steerL 5 1 8 = [0, 3, 6, 1, 4, 7, 2, 5] from by decide, hK_0, pow_put _ _ _ _ _ _ _ _ _ (by decide)]
  refine q4_ext ?_ ?_ ?_ ?_ <;> simp [Q4.put, Q4.add, numAt] <;> omega
theorem pw_0_6 (a b : Int) : pow (steerL 6 1 8) (hK 0 (a, b) 8) = ⟨0, 0, 0, 0⟩ := by
  rw [show steerL 6 1 8 = [0, 2, 4, 6, 0, 2, 4, 6] from by decide, hK_0, pow_put _ _ _ _ _ _ _ _ _ (by decide)]
  refine q4_ext ?_ ?_ ?_ ?_ <;> simp [Q4.put, Q4.add, numAt] <;> omega
theorem pw_0_7 (a b : Int) : pow (steerL 7 1 8) (hK 0 (a, b) 8) = ⟨0, 0, 0, 0⟩ := by
  rw [show steerL 7 1 8 = [0, 1, 2, 3, 4, 5, 6, 7] from by decide, hK_0, pow_put _ _ _ _ _ _ _ _ _ (by decide)]
  refine q4_ext ?_ ?_ ?_ ?_ <;> simp [Q4.put, Q4.add, numAt] <;> omega
theorem hK_1 (a b : Int) : hK 1 (a, b) 8 = [(a, b), (-b, a), (-a, -b), (b, -a), (a, b), (-b, a), (-a, -b), (b, -a)] := rfl
theorem pw_1_0 (a b : Int) : pow (steerL 0 1 8) (hK 1 (a, b) 8) = ⟨0, 0, 0, 0⟩ := by
  rw [show steerL 0 1 8 = [0, 0, 0, 0, 0, 0, 0, 0] from by decide, hK_1, pow_put _ _ _ _ _ _ _ _ _ (by decide)]
  refine q4_ext ?_ ?_ ?_ ?_ <;> simp [Q4.put, Q4.add, numAt] <;> omega
theorem pw_1_1 (a b : Int) : pow (steerL 1 1 8) (hK 1 (a, b) 8) = ⟨0, 0, 0, 0⟩ := by
  rw [show steerL 1 1 8 = [0, 7, 6, 5, 4, 3, 2, 1] from by decide, hK_1, pow_put _ _ _ _ _ _ _ _ _ (by decide)]
  refine q4_ext ?_ ?_ ?_ ?_ <;> simp [Q4.put, Q4.add, numAt] <;> omega
theorem pw_1_2 (a b : Int) : pow (steerL 2 1 8) (hK 1 (a, b) 8) = ⟨8 * a, 0, 8 * b, 0⟩ := by
  rw [show steerL 2 1 8 = [0, 6, 4, 2, 0, 6, 4, 2] from by decide, hK_1, pow_put _ _ _ _ _ _ _ _ _ (by decide)]
  refine q4_ext ?_ ?_ ?_ ?_ <;> simp [Q4.put, Q4.add, numAt] <;> omega
theorem pw_1_3 (a b : Int) : pow (steerL 3 1 8) (hK 1 (a, b) 8) = ⟨0, 0, 0, 0⟩ := by
  rw [show steerL 3 1 8 = [0, 5, 2, 7, 4, 1, 6, 3] from by decide, hK_1, pow_put _ _ _ _ _ _ _ _ _ (by decide)]
  refine q4_ext ?_ ?_ ?_ ?_ <;> simp [Q4.put, Q4.add, numAt] <;> omega
theorem pw_1_4 (a b : Int) : pow (steerL 4 1 8) (hK 1 (a, b) 8) = ⟨0, 0, 0, 0⟩ := by
  rw [show steerL 4 1 8 = [0, 4, 0, 4, 0, 4, 0, 4] from by decide, hK_1, pow_put _ _ _ _ _ _ _ _ _ (by decide)]
  refine q4_ext ?_ ?_ ?_ ?_ <;> simp [Q4.put, Q4.add, numAt] <;> omega
theorem pw_1_5 (a b : Int) : pow (steerL 5 1 8) (hK 1 (a, b) 8) = ⟨0, 0, 0, 0⟩ := by
  rw [show steerL 5 1 8 = [0, 3, 6, 1, 4, 7, 2, 5] from by decide, hK_1, pow_put _ _ _ _ _ _ _ _ _ (by decide)]
  refine q4_ext ?_ ?_ ?_ ?_ <;> simp [Q4.put, Q4.add, numAt] <;> omega
theorem pw_1_6 (a b : Int) : pow (steerL 6 1 8) (hK 1 (a, b) 8) = ⟨0, 0, 0, 0⟩ := by
  rw [show steerL 6 1 8 = [0, 2, 4, 6, 0, 2, 4, 6] from by decide, hK_1, pow_put _ _ _ _ _ _ _ _ _ (by decide)]
  refine q4_ext ?_ ?_ ?_ ?_ <;> simp [Q4.put, Q4.add, numAt] <;> omega
theorem pw_1_7 (a b : Int) : pow (steerL 7 1 8) (hK 1 (a, b) 8) = ⟨0, 0, 0, 0⟩ := by
  rw [show steerL 7 1 8 = [0, 1, 2, 3, 4, 5, 6, 7] from by decide, hK_1, pow_put _ _ _ _ _ _ _ _ _ (by decide)]
  refine q4_ext ?_ ?_ ?_ ?_ <;> simp [Q4.put, Q4.add, numAt] <;> omega
theorem hK_2 (a b : Int) : hK 2 (a, b) 8 = [(a, b), (-a, -b), (a, b), (-a, -b), (a, b), (-a, -b), (a, b), (-a, -b)] := rfl
theorem pw_2_0 (a b : Int) : pow (steerL 0 1 8) (hK 2 (a, b) 8) = ⟨0, 0, 0, 0⟩ := by
  rw [show steerL 0 1 8 = [0, 0, 0, 0, 0, 0, 0, 0] from by decide, hK_2, pow_put _ _ _ _ _ _ _ _ _ (by decide)]
  refine q4_ext ?_ ?_ ?_ ?_ <;> simp [Q4.put, Q4.add, numAt] <;> omega
theorem pw_2_1 (a b : Int) : pow (steerL 1 1 8) (hK 2 (a, b) 8) = ⟨0, 0, 0, 0⟩ := by
  rw [show steerL 1 1 8 = [0, 7, 6, 5, 4, 3, 2, 1] from by decide, hK_2, pow_put _ _ _ _ _ _ _ _ _ (by decide)]
  refine q4_ext ?_ ?_ ?_ ?_ <;> simp [Q4.put, Q4.add, numAt] <;> omega
theorem pw_2_2 (a b : Int) : pow (steerL 2 1 8) (hK 2 (a, b) 8) = ⟨0, 0, 0, 0⟩ := by
  rw [show steerL 2 1 8 = [0, 6, 4, 2, 0, 6, 4, 2] from by decide, hK_2, pow_put _ _ _ _ _ _ _ _ _ (by decide)]
  refine q4_ext ?_ ?_ ?_ ?_ <;> simp [Q4.put, Q4.add, numAt] <;> omega
theorem pw_2_3 (a b : Int) : pow (steerL 3 1 8) (hK 2 (a, b) 8) = ⟨0, 0, 0, 0⟩ := by
  rw [show steerL 3 1 8 = [0, 5, 2, 7, 4, 1, 6, 3] from by decide, hK_2, pow_put _ _ _ _ _ _ _ _ _ (by decide)]
  refine q4_ext ?_ ?_ ?_ ?_ <;> simp [Q4.put, Q4.add, numAt] <;> omega
theorem pw_2_4 (a b : Int) : pow (steerL 4 1 8) (hK 2 (a, b) 8) = ⟨8 * a, 0, 8 * b, 0⟩ := by
  rw [show steerL 4 1 8 = [0, 4, 0, 4, 0, 4, 0, 4] from by decide, hK_2, pow_put _ _ _ _ _ _ _ _ _ (by decide)]
  refine q4_ext ?_ ?_ ?_ ?_ <;> simp [Q4.put, Q4.add, numAt] <;> omega
theorem pw_2_5 (a b : Int) : pow (steerL 5 1 8) (hK 2 (a, b) 8) = ⟨0, 0, 0, 0⟩ := by
  rw [show steerL 5 1 8 = [0, 3, 6, 1, 4, 7, 2, 5] from by decide, hK_2, pow_put _ _ _ _ _ _ _ _ _ (by decide)]
  refine q4_ext ?_ ?_ ?_ ?_ <;> simp [Q4.put, Q4.add, numAt] <;> omega
theorem pw_2_6 (a b : Int) : pow (steerL 6 1 8) (hK 2 (a, b) 8) = ⟨0, 0, 0, 0⟩ := by
  rw [show steerL 6 1 8 = [0, 2, 4, 6, 0, 2, 4, 6] from by decide, hK_2, pow_put _ _ _ _ _ _ _ _ _ (by decide)]
  refine q4_ext ?_ ?_ ?_ ?_ <;> simp [Q4.put, Q4.add, numAt] <;> omega
theorem pw_2_7 (a b : Int) : pow (steerL 7 1 8) (hK 2 (a, b) 8) = ⟨0, 0, 0, 0⟩ := by
  rw [show steerL 7 1 8 = [0, 1, 2, 3, 4, 5, 6, 7] from by decide, hK_2, pow_put _ _ _ _ _ _ _ _ _ (by decide)]
  refine q4_ext ?_ ?_ ?_ ?_ <;> simp [Q4.put, Q4.add, numAt] <;> omega
theorem hK_3 (a b : Int) : hK 3 (a, b) 8 = [(a, b), (b, -a), (-a, -b), (-b, a), (a, b), (b, -a), (-a, -b), (-b, a)] := rfl
theorem pw_3_0 (a b : Int) : pow (steerL 0 1 8) (hK 3 (a, b) 8) = ⟨0, 0, 0, 0⟩ := by
  rw [show steerL 0 1 8 = [0, 0, 0, 0, 0, 0, 0, 0] from by decide, hK_3, pow_put _ _ _ _ _ _ _ _ _ (by decide)]
  refine q4_ext ?_ ?_ ?_ ?_ <;> simp [Q4.put, Q4.add, numAt] <;> omega
theorem pw_3_1 (a b : Int) : pow (steerL 1 1 8) (hK 3 (a, b) 8) = ⟨0, 0, 0, 0⟩ := by
  rw [show steerL 1 1 8 = [0, 7, 6, 5, 4, 3, 2, 1] from by decide, hK_3, pow_put _ _ _ _ _ _ _ _ _ (by decide)]
  refine q4_ext ?_ ?_ ?_ ?_ <;> simp [Q4.put, Q4.add, numAt] <;> omega
theorem pw_3_2 (a b : Int) : pow (steerL 2 1 8) (hK 3 (a, b) 8) = ⟨0, 0, 0, 0⟩ := by
  rw [show steerL 2 1 8 = [0, 6, 4, 2, 0, 6, 4, 2] from by decide, hK_3, pow_put _ _ _ _ _ _ _ _ _ (by decide)]
  refine q4_ext ?_ ?_ ?_ ?_ <;> simp [Q4.put, Q4.add, numAt] <;> omega
theorem pw_3_3 (a b : Int) : pow (steerL 3 1 8) (hK 3 (a, b) 8) = ⟨0, 0, 0, 0⟩ := by
  rw [show steerL 3 1 8 = [0, 5, 2, 7, 4, 1, 6, 3] from by decide, hK_3, pow_put _ _ _ _ _ _ _ _ _ (by decide)]
  refine q4_ext ?_ ?_ ?_ ?_ <;> simp [Q4.put, Q4.add, numAt] <;> omega
theorem pw_3_4 (a b : Int) : pow (steerL 4 1 8) (hK 3 (a, b) 8) = ⟨0, 0, 0, 0⟩ := by
  rw [show steerL 4 1 8 = [0, 4, 0, 4, 0, 4, 0, 4] from by decide, hK_3, pow_put _ _ _ _ _ _ _ _ _ (by decide)]
  refine q4_ext ?_ ?_ ?_ ?_ <;> simp [Q4.put, Q4.add, numAt] <;> omega
theorem pw_3_5 (a b : Int) : pow (steerL 5 1 8) (hK 3 (a, b) 8) = ⟨0, 0, 0, 0⟩ := by
  rw [show steerL 5 1 8 = [0, 3, 6, 1, 4, 7, 2, 5] from by decide, hK_3, pow_put _ _ _ _ _ _ _ _ _ (by decide)]
  refine q4_ext ?_ ?_ ?_ ?_ <;> simp [Q4.put, Q4.add, numAt] <;> omega
theorem pw_3_6 (a b : Int) : pow (steerL 6 1 8) (hK 3 (a, b) 8) = ⟨8 * a, 0, 8 * b, 0⟩ := by
  rw [show steerL 6 1 8 = [0, 2, 4, 6, 0, 2, 4, 6] from by decide, hK_3, pow_put _ _ _ _ _ _ _ _ _ (by decide)]
  refine q4_ext ?_ ?_ ?_ ?_ <;> simp [Q4.put, Q4.add, numAt] <;> omega
theorem pw_3_7 (a b : Int) : pow (steerL 7 1 8) (hK 3 (a, b) 8) = ⟨0, 0, 0, 0⟩ := by
  rw [show steerL 7 1 8 = [0, 1, 2, 3, 4, 5, 6, 7] from by decide, hK_3, pow_put _ _ _ _ _ _ _ _ _ (by decide)]
  refine q4_ext ?_ ?_ ?_ ?_ <;> simp [Q4.put, Q4.add, numAt] <;> omega
theorem pw_all (half : Nat) (hh : half < 4) (a b : Int) (d : Nat) (hd : d < 8) : pwP (hK half (a, b) 8) (steerL (d : Int) 1 8) = if d = 2 * half then (64 * nrm (a, b), 0) else (0, 0) := by
  obtain h4 : half = 0 ∨ half = 1 ∨ half = 2 ∨ half = 3 := by omega
  obtain h8 : d = 0 ∨ d = 1 ∨ d = 2 ∨ d = 3 ∨ d = 4 ∨ d = 5 ∨ d = 6 ∨ d = 7 := by omega
  unfold pwP
  rcases h4 with rfl | rfl | rfl | rfl
  · rcases h8 with rfl | rfl | rfl | rfl | rfl | rfl | rfl | rfl
    · rw [show ((0 : Nat) : Int) = 0 from rfl, pw_0_0, if_pos (by decide)]
      unfold Q4.P Q4.Q nrm; refine Prod.ext ?_ ?_ <;> dsimp only <;> grind
    · rw [show ((1 : Nat) : Int) = 1 from rfl, pw_0_1, if_neg (by decide)]
      unfold Q4.P Q4.Q; refine Prod.ext ?_ ?_ <;> dsimp only <;> grind
    · rw [show ((2 : Nat) : Int) = 2 from rfl, pw_0_2, if_neg (by decide)]
      unfold Q4.P Q4.Q; refine Prod.ext ?_ ?_ <;> dsimp only <;> grind
    · rw [show ((3 : Nat) : Int) = 3 from rfl, pw_0_3, if_neg (by decide)]
      unfold Q4.P Q4.Q; refine Prod.ext ?_ ?_ <;> dsimp only <;> grind
    · rw [show ((4 : Nat) : Int) = 4 from rfl, pw_0_4, if_neg (by decide)]
      unfold Q4.P Q4.Q; refine Prod.ext ?_ ?_ <;> dsimp only <;> grind
    · rw [show ((5 : Nat) : Int) = 5 from rfl, pw_0_5, if_neg (by decide)]
      unfold Q4.P Q4.Q; refine Prod.ext ?_ ?_ <;> dsimp only <;> grind
    · rw [show ((6 : Nat) : Int) = 6 from rfl, pw_0_6, if_neg (by decide)]
      unfold Q4.P Q4.Q; refine Prod.ext ?_ ?_ <;> dsimp only <;> grind
    · rw [show ((7 : Nat) : Int) = 7 from rfl, pw_0_7, if_neg (by decide)]
      unfold Q4.P Q4.Q; refine Prod.ext ?_ ?_ <;> dsimp only <;> grind
  · rcases h8 with rfl | rfl | rfl | rfl | rfl | rfl | rfl | rfl
    · rw [show ((0 : Nat) : Int) = 0 from rfl, pw_1_0, if_neg (by decide)]
      unfold Q4.P Q4.Q; refine Prod.ext ?_ ?_ <;> dsimp only <;> grind
    · rw [show ((1 : Nat) : Int) = 1 from rfl, pw_1_1, if_neg (by decide)]
      unfold Q4.P Q4.Q; refine Prod.ext ?_ ?_ <;> dsimp only <;> grind
    · rw [show ((2 : Nat) : Int) = 2 from rfl, pw_1_2, if_pos (by decide)]
      unfold Q4.P Q4.Q nrm; refine Prod.ext ?_ ?_ <;> dsimp only <;> grind
    · rw [show ((3 : Nat) : Int) = 3 from rfl, pw_1_3, if_neg (by decide)]
      unfold Q4.P Q4.Q; refine Prod.ext ?_ ?_ <;> dsimp only <;> grind
    · rw [show ((4 : Nat) : Int) = 4 from rfl, pw_1_4, if_neg (by decide)]
      unfold Q4.P Q4.Q; refine Prod.ext ?_ ?_ <;> dsimp only <;> grind
    · rw [show ((5 : Nat) : Int) = 5 from rfl, pw_1_5, if_neg (by decide)]
      unfold Q4.P Q4.Q; refine Prod.ext ?_ ?_ <;> dsimp only <;> grind
    · rw [show ((6 : Nat) : Int) = 6 from rfl, pw_1_6, if_neg (by decide)]
      unfold Q4.P Q4.Q; refine Prod.ext ?_ ?_ <;> dsimp only <;> grind
    · rw [show ((7 : Nat) : Int) = 7 from rfl, pw_1_7, if_neg (by decide)]
      unfold Q4.P Q4.Q; refine Prod.ext ?_ ?_ <;> dsimp only <;> grind
  · rcases h8 with rfl | rfl | rfl | rfl | rfl | rfl | rfl | rfl
    · rw [show ((0 : Nat) : Int) = 0 from rfl, pw_2_0, if_neg (by decide)]
      unfold Q4.P Q4.Q; refine Prod.ext ?_ ?_ <;> dsimp only <;> grind
    · rw [show ((1 : Nat) : Int) = 1 from rfl, pw_2_1, if_neg (by decide)]
      unfold Q4.P Q4.Q; refine Prod.ext ?_ ?_ <;> dsimp only <;> grind
    · rw [show ((2 : Nat) : Int) = 2 from rfl, pw_2_2, if_neg (by decide)]
      unfold Q4.P Q4.Q; refine Prod.ext ?_ ?_ <;> dsimp only <;> grind
    · rw [show ((3 : Nat) : Int) = 3 from rfl, pw_2_3, if_neg (by decide)]
      unfold Q4.P Q4.Q; refine Prod.ext ?_ ?_ <;> dsimp only <;> grind
    · rw [show ((4 : Nat) : Int) = 4 from rfl, pw_2_4, if_pos (by decide)]
      unfold Q4.P Q4.Q nrm; refine Prod.ext ?_ ?_ <;> dsimp only <;> grind
    · rw [show ((5 : Nat) : Int) = 5 from rfl, pw_2_5, if_neg (by decide)]
      unfold Q4.P Q4.Q; refine Prod.ext ?_ ?_ <;> dsimp only <;> grind
    · rw [show ((6 : Nat) : Int) = 6 from rfl, pw_2_6, if_neg (by decide)]
      unfold Q4.P Q4.Q; refine Prod.ext ?_ ?_ <;> dsimp only <;> grind
    · rw [show ((7 : Nat) : Int) = 7 from rfl, pw_2_7, if_neg (by decide)]
      unfold Q4.P Q4.Q; refine Prod.ext ?_ ?_ <;> dsimp only <;> grind
  · rcases h8 with rfl | rfl | rfl | rfl | rfl | rfl | rfl | rfl
    · rw [show ((0 : Nat) : Int) = 0 from rfl, pw_3_0, if_neg (by decide)]
      unfold Q4.P Q4.Q; refine Prod.ext ?_ ?_ <;> dsimp only <;> grind
    · rw [show ((1 : Nat) : Int) = 1 from rfl, pw_3_1, if_neg (by decide)]
      unfold Q4.P Q4.Q; refine Prod.ext ?_ ?_ <;> dsimp only <;> grind
    · rw [show ((2 : Nat) : Int) = 2 from rfl, pw_3_2, if_neg (by decide)]
      unfold Q4.P Q4.Q; refine Prod.ext ?_ ?_ <;> dsimp only <;> grind
    · rw [show ((3 : Nat) : Int) = 3 from rfl, pw_3_3, if_neg (by decide)]
      unfold Q4.P Q4.Q; refine Prod.ext ?_ ?_ <;> dsimp only <;> grind
    · rw [show ((4 : Nat) : Int) = 4 from rfl, pw_3_4, if_neg (by decide)]
      unfold Q4.P Q4.Q; refine Prod.ext ?_ ?_ <;> dsimp only <;> grind
    · rw [show ((5 : Nat) : Int) = 5 from rfl, pw_3_5, if_neg (by decide)]
      unfold Q4.P Q4.Q; refine Prod.ext ?_ ?_ <;> dsimp only <;> grind
    · rw [show ((6 : Nat) : Int) = 6 from rfl, pw_3_6, if_pos (by decide)]
      unfold Q4.P Q4.Q nrm; refine Prod.ext ?_ ?_ <;> dsimp only <;> grind
    · rw [show ((7 : Nat) : Int) = 7 from rfl, pw_3_7, if_neg (by decide)]
      unfold Q4.P Q4.Q; refine Prod.ext ?_ ?_ <;> dsimp only <;> grind
end Go.Proofs.YtamkannjdbodpaaDoor

namespace Go.Proofs.YtamkannjdbodpaaDoor
open Go.RowKit Go.WideShapes Go.ChangeShapes

/-! a sweep finds who is there: the plain side's end, and contracts at its values -/
theorem bk_get (d : Nat) (hd : d < 8) : (bkS 8)[d]?.getD [] = steerL (d : Int) 1 8 := by
  rw [List.getElem?_eq_getElem (by rw [bkS_len]; exact hd), bkS_at]; rfl
theorem gt_half {half : Nat} (hh : half < 4) {a b : Int} (h : ¬(a = 0 ∧ b = 0)) (d : Nat) (hd : d < 8) (hne : d ≠ 2 * half) : gtB (bkS 8) (hK half (a, b) 8) (2 * half) d = true := by
  have hp := nrm_pos (z := (a, b)) (fun e => h (by injection e with e1 e2; exact ⟨e1, e2⟩))
  unfold gtB
  rw [bk_get _ (by omega), bk_get _ hd, pw_all half hh a b _ (by omega), pw_all half hh a b _ hd, if_pos rfl, if_neg hne]
  obtain ⟨n, hn⟩ : ∃ n, nrm (a, b) = n := ⟨_, rfl⟩
  rw [hn] at hp ⊢
  unfold gtPQ sgnPQ
  rw [decide_eq_true_iff, if_pos ⟨by dsimp only; omega, by dsimp only; omega⟩]
  unfold cmp3
  rw [if_neg (by dsimp only; omega), if_pos (by dsimp only; omega)]
  decide
theorem best_half {half : Nat} (hh : half < 4) {a b : Int} (h : ¬(a = 0 ∧ b = 0)) {S : List Nat} (hS : Sorted (gtB (bkS 8) (hK half (a, b) 8)) 8 S) : S[0]?.getD 0 = 2 * half := by
  have hl : 0 < S.length := by rw [hS.len]; decide
  rw [List.getElem?_eq_getElem hl]
  show S[0] = 2 * half
  rcases hS.best (gtB_weak _ _) hl with ⟨hx, _⟩ | ⟨c, hc, hc8, _, hx⟩
  · omega
  · rcases hx (2 * half) (by omega) (by simp) with e | e
    · omega
    · by_cases q : c = 2 * half
      · omega
      · have g := gt_half hh h c hc8 q
        rcases e with e | ⟨e, _⟩
        · rw [(gtB_weak _ _).asymm _ _ g] at e; cases e
        · rw [g] at e; cases e
theorem ch_8 (half : Nat) {z : Int × Int} (h : cle 30 z) : chE (hK half z 8) = 0 := by
  have h3 : (hK half z 8).any greatG = false := by
    rw [List.any_eq_false]
    intro u hu
    obtain ⟨i, _, rfl⟩ := List.mem_map.1 hu
    have := rotZ_le h (half * i)
    unfold cle at this
    unfold greatG withinB
    simp
    omega
  unfold chE
  rw [h3, hK_len]
  decide
theorem chk_8 : ∀ d, d < 8 → (chk (steerL ((d : Nat) : Int) 1 8)).2 = 0 := by decide +kernel
theorem sw_8 (half : Nat) {z : Int × Int} (h : cle 30 z) : sweepE (bkS 8) (hK half z 8) = 0 := by
  have h1 : bookE (bkS 8) = 0 := by decide +kernel
  have h2 : otherB (hK half z 8).length (bkS 8) = false := by rw [hK_len]; decide +kernel
  unfold sweepE
  rw [h1, ch_8 half h, h2]
  decide
theorem pe_8 (half : Nat) {z : Int × Int} (h : cle 30 z) (d : Nat) (hd : d < 8) : powE (steerL (d : Int) 1 8) (hK half z 8) = 0 := by
  unfold powE
  rw [chk_8 d hd, ch_8 half h, hK_len, steerL_len]
  decide
theorem pv_8 (half : Nat) (hh : half < 4) (a b : Int) (h : cle 30 (a, b)) (d : Nat) (hd : d < 8) : powV (steerL (d : Int) 1 8) (hK half (a, b) 8) = if d = 2 * half then (64 * nrm (a, b), 0) else (0, 0) := by
  rw [← pw_all half hh a b d hd]
  exact if_pos (pe_8 half h d hd)
/-- the last two looks of a sweep that was refined -/
def lkO (half : Nat) (i : Nat) : Look := (looksAt (2 * half : Nat) 3)[i]?.getD ⟨[], 0, 0⟩
def lkS (half : Nat) (i : Nat) : Int := if half < 2 then (if i = 4 then 2 * half else 2 * half + 4) else (if i = 4 then 2 * half - 4 else 2 * half)
theorem lk_is : ∀ half, half < 4 → ∀ i, i < 6 → 4 ≤ i → (lkO half i).l = steerL (lkS half i) 1 8 := by decide +kernel
theorem lk_one : ∀ half, half < 4 → lkS half (if half < 2 then 4 else 5) = ((2 * half : Nat) : Int) := by decide +kernel
theorem lk_oth : ∀ half, half < 4 → 2 ≤ half → intsEq (steerL (lkS half 4) 1 8) (steerL ((2 * half : Nat) : Int) 1 8) = false := by decide +kernel

theorem looks_get {w : World} {base : Nat} : ∀ {xs : List Value} {L : List Look}, LooksAt w base xs L → ∀ i (h : i < L.length),
    ∃ A c, xs[i * 3]? = some (.slice A L[i].l.length c) ∧ Sl w A (iv L[i].l)
  | [], [], _, i, h => absurd h (by simp)
  | [], _ :: _, h, _, _ => h.elim
  | [_], [], h, _, _ => h.elim
  | [_], _ :: _, h, _, _ => h.elim
  | [_, _], [], h, _, _ => h.elim
  | [_, _], _ :: _, h, _, _ => h.elim
  | _ :: _ :: _ :: _, [], h, _, _ => h.elim
  | _ :: _ :: _ :: _, x :: _, ⟨⟨A, c, e, ho⟩, hp, hq, _⟩, 0, _ => ⟨A, c, by simp [e], Sl.of_own (by rw [← e]; exact ho)⟩
  | _ :: _ :: _ :: r, _ :: L, ⟨_, _, _, hr⟩, i + 1, h => by
    obtain ⟨A, c, h1, h2⟩ := looks_get hr i (by simpa using h)
    have e : (i + 1) * 3 = i * 3 + 1 + 1 + 1 := by omega
    rw [e]
    exact ⟨A, c, by simpa using h1, by simpa using h2⟩
/-- the looks' cells: the beams of the last two -/
def LookBeams (half : Nat) (A : Option Addr) (W : World) : Prop :=
  ∃ b o B c B' c', A = some ⟨b, o, none⟩ ∧ W.cell? ⟨b, o + 12, none⟩ = some (.slice B 8 c) ∧ W.cell? ⟨b, o + 15, none⟩ = some (.slice B' 8 c') ∧ Sl W B (iv (steerL (lkS half 4) 1 8)) ∧ Sl W B' (iv (steerL (lkS half 5) 1 8))
theorem refined_8 (half : Nat) (hh : half < 4) (w : World) :
    Calls Tryd.prog 21 #[.int .i64 ((2 * half : Nat) : Int)] w fun e w' => ∃ A c, e = .returned (.tuple #[.slice A 6 c, .int .i64 ((2 * half : Nat) : Int), .int .i64 0]) ∧ LookBeams half A w' ∧ Below w.heap.size w w' := by
  refine (refined_ok ((2 * half : Nat) : Int) w (by omega) (by omega)).mono ?_
  rintro e w' ⟨A, c, xs, h1, h2, h3, h4⟩
  refine ⟨A, c, h1, ?_, h4⟩
  have hlen : (looksAt ((2 * half : Nat) : Int) 3).length = 6 := by simp [looksAt]
  have hsl := Sl.of_ownN h2
  obtain ⟨B, c1, e1, g1⟩ := looks_get h3 4 (by rw [hlen]; decide)
  obtain ⟨B', c2, e2, g2⟩ := looks_get h3 5 (by rw [hlen]; decide)
  have l4 : (looksAt ((2 * half : Nat) : Int) 3)[4]'(by rw [hlen]; decide) = lkO half 4 := by unfold lkO; rw [List.getElem?_eq_getElem (by rw [hlen]; decide)]; rfl
  have l5 : (looksAt ((2 * half : Nat) : Int) 3)[5]'(by rw [hlen]; decide) = lkO half 5 := by unfold lkO; rw [List.getElem?_eq_getElem (by rw [hlen]; decide)]; rfl
  rw [l4, lk_is half hh 4 (by decide) (by decide)] at e1 g1
  rw [l5, lk_is half hh 5 (by decide) (by decide)] at e2 g2
  rw [steerL_len] at e1 e2
  obtain ⟨j1, f1⟩ := List.getElem?_eq_some_iff.1 e1
  obtain ⟨j2, f2⟩ := List.getElem?_eq_some_iff.1 e2
  obtain ⟨b, o, hA, k1⟩ := hsl _ j1
  obtain ⟨b', o', hA', k2⟩ := hsl _ j2
  rw [hA] at hA'
  injection hA' with hA'
  injection hA' with hb ho
  subst hb ho
  rw [f1] at k1
  rw [f2] at k2
  exact ⟨b, o, B, c1, B', c2, hA, k1, k2, g1, g2⟩
theorem LookBeams.stay {half : Nat} {A : Option Addr} {W : World} (h : LookBeams half A W) : Stay W (LookBeams half A) := fun W' hb => by
  obtain ⟨b, o, B, c, B', c', h1, h2, h3, h4, h5⟩ := h
  exact ⟨b, o, B, c, B', c', h1, (hb.cell (lt_of_cell h2)).trans h2, (hb.cell (lt_of_cell h3)).trans h3, h4.bel hb, h5.bel hb⟩
theorem steer_8 (k : Nat) (hk : k < 8) (w : World) : Calls Tryd.prog 17 #[.int .i64 8, .int .i64 (k : Int)] w fun e w' => ∃ A c, e = .returned (.tuple #[.agg #[.slice A 8 c], .int .i64 0]) ∧ Sl w' A (iv (steerL (k : Int) 1 8)) ∧ Below w.heap.size w w' := by
  have h : steE 8 (k : Int) = 0 := by
    unfold steE
    rw [show withinB (k : Int) 0 7 = true by simp [withinB]; omega]
    rfl
  exact (Steering_ok 8 (k : Int) w h).mono fun e w' ⟨A, c, h1, h2, h3⟩ => ⟨A, c, h1, Sl.of_ownN h2, h3⟩
theorem copy_8 (A : Option Addr) (c : Nat) (k : Nat) (w : World) (hs : Sl w A (iv (steerL (k : Int) 1 8))) :
    Calls Tryd.prog 8 #[.agg #[.slice A 8 c]] w fun e w' => ∃ A' c', e = .returned (.agg #[.slice A' 8 c']) ∧ Sl w' A' (iv (steerL (k : Int) 1 8)) ∧ Below w.heap.size w w' := by
  have h := copy_own A c (steerL (k : Int) 1 8) w hs (by rw [steerL_len]; decide)
  rw [steerL_len] at h
  exact h.mono fun e w' ⟨A', c', h1, h2, h3⟩ => ⟨A', c', h1, Sl.of_ownN h2, h3⟩
theorem format_8 (A : Option Addr) (c : Nat) (k : Nat) (w : World) (hs : Sl w A (iv (steerL (k : Int) 1 8))) :
    Calls Tryd.prog 7 #[.agg #[.slice A 8 c]] w fun e w' => e = .returned (strV (fmtL (steerL (k : Int) 1 8))) ∧ Below w.heap.size w w' :=
  format_beam A c 8 (steerL (k : Int) 1 8) w (steerL_len _ _ _) hs (by decide)
theorem parse_8 (k : Nat) (hk : k < 8) (mx : Int) (w : World) (hm : w.cell? ⟨0, 0, none⟩ = some (.int .i64 mx)) :
    Calls Tryd.prog 9 #[strV (fmtL (steerL (k : Int) 1 8))] w fun e w' => ∃ C q, e = .returned (.tuple #[.agg #[.slice C 8 q], .int .i64 0]) ∧ w'.ownsRow w.heap.size 3 1 (.slice C 8 q) 8 (iv (steerL (k : Int) 1 8)) ∧ Below w.heap.size w w' := by
  have h := parse_own (fmtL (steerL (k : Int) 1 8)) mx w (Nat.le_trans (fmt_len _ (by rw [steerL_len]; decide)) (by decide)) hm
  rw [(prs_fmt (chk_8 k hk)).1, (prs_fmt (chk_8 k hk)).2, steerL_len] at h
  exact h
theorem power_8 (A : Option Addr) (c : Nat) (B : Option Addr) (q : Nat) (half : Nat) (hh : half < 4) (a b : Int) (hz : cle 30 (a, b)) (k : Nat) (hk : k < 8) (w : World) (hs : Sl w A (iv (steerL (k : Int) 1 8))) (hs' : Sl w B (gv (hK half (a, b) 8))) :
    Calls Tryd.prog 22 #[.agg #[.slice A 8 c], .slice B 8 q] w fun e w' => e = .returned (.tuple #[.agg #[.int .i64 (if k = 2 * half then 64 * nrm (a, b) else 0), .int .i64 0], .int .i64 0]) ∧ Below w.heap.size w w' := by
  have h := powerOf_beam A c (steerL (k : Int) 1 8) B q (hK half (a, b) 8) w hs hs' (by rw [steerL_len]; decide) (by rw [hK_len]; decide)
  rw [pe_8 half hz k hk, pv_8 half hh a b hz k hk, steerL_len, hK_len] at h
  have e : (if k = 2 * half then ((64 * nrm (a, b), 0) : Int × Int) else (0, 0)) = (if k = 2 * half then 64 * nrm (a, b) else 0, 0) := by split <;> rfl
  rw [e] at h
  exact h
theorem copyB_8 (A : Option Addr) (c : Nat) (w : World) (hs : BookAt w A (bkS 8)) :
    Calls Tryd.prog 19 #[.slice A 8 c] w fun e w' => ∃ C k, e = .returned (.slice C 8 k) ∧ BookAt w' C (bkS 8) ∧ Below w.heap.size w w' :=
  copyBook_ref A c (bkS 8) w hs (fun u hu => by obtain ⟨i, _, rfl⟩ := List.mem_map.1 hu; rw [steerL_len]; decide) (by decide)
theorem copyG_8 (A : Option Addr) (c : Nat) (half : Nat) (z : Int × Int) (w : World) (hs : Sl w A (gv (hK half z 8))) :
    Calls Tryd.prog 20 #[.slice A 8 c] w fun e w' => ∃ A' c', e = .returned (.slice A' 8 c') ∧ Sl w' A' (gv (hK half z 8)) ∧ Below w.heap.size w w' := by
  have h := copyGausses A c (hK half z 8) w hs (by rw [hK_len]; decide)
  rw [hK_len] at h
  exact h.mono fun e w' ⟨A', c', h1, h2, h3⟩ => ⟨A', c', h1, Sl.of_ownN h2, h3⟩
theorem best_8 (A : Option Addr) (c : Nat) (B : Option Addr) (kc : Nat) (half : Nat) (hh : half < 4) (a b : Int) (hz : cle 30 (a, b)) (h0 : ¬(a = 0 ∧ b = 0)) (w : World) (hs : BookAt w A (bkS 8)) (hs' : Sl w B (gv (hK half (a, b) 8))) :
    Calls Tryd.prog 18 #[.slice A 8 c, .slice B 8 kc] w fun e w' => e = .returned (.tuple #[.int .i64 ((2 * half : Nat) : Int), .int .i64 0]) ∧ Below w.heap.size w w' := by
  obtain ⟨S, hS⟩ := sorted_ex (gtB_weak (bkS 8) (hK half (a, b) 8)) 8
  have h := bestOf_at A c (bkS 8) B kc (hK half (a, b) 8) w hs hs' (fun u hu => by obtain ⟨i, _, rfl⟩ := List.mem_map.1 hu; rw [steerL_len]; decide) (by rw [hK_len]; decide) (sw_8 half hz) S hS
  rw [best_half hh h0 hS, hK_len] at h
  exact h
set_option maxRecDepth 100000 in
theorem sqr_neq (a b a' b' : Int) (w : World) : (binOp .neq 52 (.agg #[.int .i64 a, .int .i64 b]) (.agg #[.int .i64 a', .int .i64 b'])).run Tryd.prog w = .ok (.bool (!(a == a' && b == b'))) w := by
  rw [run_neq_struct, run_equalIn_agg (d := 9999) (ht := sq_under) (hp := sq_held)]
  simp [go_sem]
  (repeat' split) <;> simp_all
theorem mul_i (z : Int × Int) (w : World) (hz : cle 30 z) :
    Calls Tryd.prog 16 #[.agg #[.int .i64 z.1, .int .i64 z.2], .agg #[.int .i64 0, .int .i64 1]] w fun e w' => e = .returned (.agg #[.int .i64 (-z.2), .int .i64 z.1]) ∧ Below w.heap.size w w' := by
  have h := gmul_ref z (0, 1) w (by unfold cle at *; omega) (by unfold cle; decide)
  rw [cmul_i] at h
  exact h
theorem norm_8 (a b : Int) (w : World) (hz : cle 30 (a, b)) :
    Calls Tryd.prog 23 #[.agg #[.int .i64 a, .int .i64 b]] w fun e w' => e = .returned (.int .i64 (nrm (a, b))) ∧ Below w.heap.size w w' :=
  gnorm_ref (a, b) w (by unfold cle at *; omega)

set_option maxRecDepth 100000 in
set_option maxHeartbeats 600000 in
theorem beamed_ok (w : World) : Calls Tryd.prog 14 #[] w fun e w' => e = .returned (.bool true) ∧ Below w.heap.size w w' := by
  have e2 : Hid ((respR [0, 7, 6, 5] 2).P = 4 ∧ (respR [0, 7, 6, 5] 2).Q = 2 ∧ gainE [0, 7, 6, 5] 2 = 0) := by rw [Hid]; decide
  go_enter Tryd.func14, Tryd.ntmps14
  go_wp2_with (first
    | (go_at_call 24; go_must (refine (gainOf_beam _ _ [0, 7, 6, 5] 2 _ (Sl.newI _ [0, 7, 6, 5] _ _ (by first | rfl | simp)) (by simp)).mono ?_; rintro e w2 ⟨rfl, hb2⟩; rw [e2.out.1, e2.out.2.1, e2.out.2.2]; have b2 : Below w.heap.size w w2 := Below.step (by go_grown) hb2; have s2 := b2.size; clear hb2; simp only []))
    | (go_at_call 21; go_must (refine (refined_ok 5 _ (by omega) (by omega)).mono ?_; rintro e w3 ⟨A3, c3, xs3, rfl, _, _, hb3⟩; have b3 : Below w.heap.size w w3 := Below.step (by go_grown) hb3; obtain ⟨hc3', hf3', y30'⟩ := bloc1 w2 hb3 (by first | omega | (simp; done) | (simp; omega)); clear hb3; simp only [])))
  go_ret
  exact ⟨rfl, b3⟩
end Go.Proofs.YtamkannjdbodpaaDoor

namespace Go.Proofs.YtamkannjdbodpaaDoor
open Go.RowKit Go.WideShapes Go.ChangeShapes

/-! a sweep finds who is there: the walk -/
theorem own_low {w : World} {base e size n g i : Nat} {v u : Value} {xs : List Value} (h : w.ownsRow base e size v n xs) (hg : g < base) : (w.setCell ⟨g, i, none⟩ u).ownsRow base e size v n xs := by
  refine h.kept (row := some g) (World.grownBy.mk rfl rfl rfl (by simp [World.setCell]) (fun k _ hk => Below.heap_setCell w ⟨g, i, none⟩ u k (fun e' => hk (by rw [e'])))) ?_
  cases hv : v.ownBlock with
  | none => exact .inl rfl
  | some k =>
    refine .inr fun e => ?_
    have h1 := h.lt _ hv
    injection e with e
    omega
theorem stay_own {w : World} {base e size n : Nat} {v : Value} {xs : List Value} (h : w.ownsRow base e size v n xs) : Stay w (fun W => W.ownsRow base e size v n xs) := fun _ hW => own_bel h hW
theorem stay_at {w : World} {b o : Nat} {v : Value} (h : w.cell? ⟨b, o, none⟩ = some v) : Stay w (fun W => W.cell? ⟨b, o, none⟩ = some v) := fun _ hW => (hW.cell (lt_of_cell h)).trans h
theorem stay_book {w : World} {A : Option Addr} {bs : List (List Int)} (h : BookAt w A bs) : Stay w (fun W => BookAt W A bs) := fun _ hW => h.bel hW
/-- a book under way: rows of the call's own -/
def BookI (base : Nat) (v : Value) (k : Nat) (W : World) : Prop := ∃ vs : List Value, vs.length = k ∧ W.ownsRow base 24 1 v k vs ∧ ∀ j, j < k → ∃ B n, vs[j]? = some (.slice B 8 n) ∧ W.ownsRow base 3 1 (.slice B 8 n) 8 (iv (steerL (j : Int) 1 8))
theorem BookI.stay {base k : Nat} {v : Value} {w : World} (h : BookI base v k w) : Stay w (BookI base v k) := fun W hW => by
  obtain ⟨vs, h1, h2, h3⟩ := h
  exact ⟨vs, h1, own_bel h2 hW, fun j hj => by
    obtain ⟨B, n, h4, h5⟩ := h3 j hj
    exact ⟨B, n, h4, own_bel h5 hW⟩⟩
theorem BookI.app {w5 w6 : World} {base k n : Nat} {v v' : Value} {vs : List Value} {B : Option Addr} {o : Obj} (hl : vs.length = k) (hrow : w5.ownsRow base 24 1 v k vs) (hin : ∀ j, j < k → ∃ B n, vs[j]? = some (.slice B 8 n) ∧ w5.ownsRow base 3 1 (.slice B 8 n) 8 (iv (steerL (j : Int) 1 8)))
    (hb : w5.ownsRow base 3 1 (.slice B 8 n) 8 (iv (steerL (k : Int) 1 8))) (hgrow : (w5.alloc o).grownBy w6 v.ownBlock) (hown' : w6.ownsRow base 24 1 v' (k + 1) (vs ++ [.slice B 8 n])) : BookI base v' (k + 1) w6 := by
  have hkeep : ∀ (v2 : Value) (m : Nat) (xs : List Value), w5.ownsRow base 3 1 v2 m xs → w6.ownsRow base 3 1 v2 m xs := fun v2 m xs h => (h.alloc o).kept hgrow (rows_ne (h.alloc o) (hrow.alloc o) (by decide))
  refine ⟨_, by simp [hl], hown', fun j hj => ?_⟩
  by_cases q : j < k
  · obtain ⟨B2, n2, h1, h2⟩ := hin j q
    exact ⟨B2, n2, by rw [List.getElem?_append_left (by omega)]; exact h1, hkeep _ _ _ h2⟩
  · obtain rfl : j = k := by omega
    exact ⟨B, n, by rw [List.getElem?_append_right (by omega), hl, Nat.sub_self]; rfl, hkeep _ _ _ hb⟩
theorem BookI.book {base c : Nat} {C : Option Addr} {w : World} (h : BookI base (.slice C 8 c) 8 w) : BookAt w C (bkS 8) := by
  obtain ⟨vs, h1, h2, h3⟩ := h
  refine ⟨vs, Sl.of_ownN h2, by rw [h1, bkS_len], fun j hj => ?_⟩
  have hj8 : j < 8 := by rw [bkS_len] at hj; exact hj
  obtain ⟨B, n, h4, h5⟩ := h3 j hj8
  exact ⟨B, n, by rw [bkS_at, steerL_len]; exact h4, by rw [bkS_at]; exact Sl.of_ownN h5⟩
def BeamsAt (b off : Nat) (W : World) : Prop := ∀ k, k < 8 → ∃ B n, W.cell? ⟨b, off + k, none⟩ = some (.slice B 8 n) ∧ Sl W B (iv (steerL (k : Int) 1 8))
theorem BookAt.beams {w : World} {A : Option Addr} (h : BookAt w A (bkS 8)) : ∃ b off, A = some ⟨b, off, none⟩ ∧ BeamsAt b off w := by
  obtain ⟨b, off, _, _, hA, _, _⟩ := h.at_ (k := 0) (by rw [bkS_len]; decide)
  refine ⟨b, off, hA, fun k hk => ?_⟩
  obtain ⟨b', off', B, c, hA', h1, h2⟩ := h.at_ (k := k) (by rw [bkS_len]; exact hk)
  rw [hA] at hA'
  injection hA' with hA'
  injection hA' with e1 e2
  subst e1 e2
  rw [bkS_at, steerL_len] at h1
  rw [bkS_at] at h2
  exact ⟨B, c, h1, h2⟩
theorem BeamsAt.stay {b off : Nat} {w : World} (h : BeamsAt b off w) : Stay w (BeamsAt b off) := fun W hW k hk => by
  obtain ⟨B, n, h1, h2⟩ := h k hk
  exact ⟨B, n, (hW.cell (lt_of_cell h1)).trans h1, h2.bel hW⟩
theorem ints_d (A B : Option Addr) (c d n : Nat) (l l' : List Int) (v : Bool) (w : World) (k : Nat) (ha : Sl w A (iv l)) (hb : Sl w B (iv l')) (hl : l.length = n) (hl' : l'.length = n) (hn : n ≤ 1000000) (hv : intsEq l l' = v) :
    Calls Tryd.prog 12 #[.slice A n c, .slice B n d] (w.drewN k) fun x w' => x = .returned (.bool v) ∧ ∃ m, w' = w.drewN m := by
  have h := ints_base A B c d l l' (w.drewN k) (ha.drewN k) (hb.drewN k) (by omega) (by omega)
  rw [hl, hl', hv] at h
  exact h.mono fun e w' ⟨he, m, hm⟩ => ⟨he, by rw [hm]; exact drewN2 _ _ _⟩
def CellAt (b : Nat) (v : Value) (W : World) : Prop := W.cell? ⟨b, 0, none⟩ = some v
theorem stay_cell {w : World} {b : Nat} {v : Value} (h : w.cell? ⟨b, 0, none⟩ = some v) : Stay w (CellAt b v) := fun _ hW => (hW.cell (lt_of_cell h)).trans h
theorem gv_snoc (half : Nat) (z : Int × Int) (k : Nat) : gv (hK half z (k + 1)) = gv (hK half z k) ++ [.int .i64 (rotZ (half * k) z).1, .int .i64 (rotZ (half * k) z).2] := by
  rw [hK_succ, gv_append]; rfl
set_option maxRecDepth 100000 in
set_option maxHeartbeats 4000000 in
theorem Top_out (h a b : Int) (w : World) (hx : withinB h 0 3 = false ∨ (withinB h 0 3 = true ∧ withinB a (-30) 30 = false) ∨ (withinB h 0 3 = true ∧ withinB a (-30) 30 = true ∧ withinB b (-30) 30 = false) ∨ (withinB h 0 3 = true ∧ withinB a (-30) 30 = true ∧ withinB b (-30) 30 = true ∧ a = 0 ∧ b = 0)) :
    Calls Tryd.prog 4 #[.int .i64 h, .agg #[.int .i64 a, .int .i64 b]] w fun e w' => e = .returned (.bool true) ∧ Below w.heap.size w w' := by
  have HT := hide ((stay_blk (Blk.new w 38 #[.int .i64 a, .int .i64 b])).and (stay_below (show Below w.heap.size w (w.alloc (.cells #[.int .i64 a, .int .i64 b] 38)) from (Below.refl _ _).alloc (Nat.le_refl _) _)))
  have hq := ga_eql a b 0 0
  rcases hx with h1 | ⟨h1, h2⟩ | ⟨h1, h2, h3⟩ | ⟨h1, h2, h3, h4, h5⟩
  · have H1 := hide h1
    clear h1
    go_enter Tryd.func4, Tryd.ntmps4
    go_wp2_with fail
    go_at_call 14
    refine (beamed_ok _).mono ?_
    rintro e w1 ⟨rfl, hb⟩
    replace HT := hide (HT.out.step hb)
    clear hb
    have z0 : w1.cell? ⟨w.heap.size, 0, none⟩ = some (.int .i64 a) := HT.out.now.1.cell 0
    have z1 : w1.cell? ⟨w.heap.size, 1, none⟩ = some (.int .i64 b) := HT.out.now.1.cell 1
    simp only []
    go_wp2_with (go_at_call 15; go_must (refine (within_base _ _ _ _).mono ?_; rintro e w' ⟨rfl, rfl⟩; (first | rw [H1.out]); simp only []))
    go_ret
    exact ⟨rfl, HT.out.now.2⟩
  · have H1 := hide h1
    have H2 := hide h2
    clear h1 h2
    go_enter Tryd.func4, Tryd.ntmps4
    go_wp2_with fail
    go_at_call 14
    refine (beamed_ok _).mono ?_
    rintro e w1 ⟨rfl, hb⟩
    replace HT := hide (HT.out.step hb)
    clear hb
    have z0 : w1.cell? ⟨w.heap.size, 0, none⟩ = some (.int .i64 a) := HT.out.now.1.cell 0
    have z1 : w1.cell? ⟨w.heap.size, 1, none⟩ = some (.int .i64 b) := HT.out.now.1.cell 1
    simp only []
    go_wp2_with (go_at_call 15; go_must (refine (within_base _ _ _ _).mono ?_; rintro e w' ⟨rfl, rfl⟩; (first | rw [H1.out] | rw [H2.out]); simp only []))
    go_ret
    exact ⟨rfl, HT.out.now.2⟩
  · have H1 := hide h1
    have H2 := hide h2
    have H3 := hide h3
    clear h1 h2 h3
    go_enter Tryd.func4, Tryd.ntmps4
    go_wp2_with fail
    go_at_call 14
    refine (beamed_ok _).mono ?_
    rintro e w1 ⟨rfl, hb⟩
    replace HT := hide (HT.out.step hb)
    clear hb
    have z0 : w1.cell? ⟨w.heap.size, 0, none⟩ = some (.int .i64 a) := HT.out.now.1.cell 0
    have z1 : w1.cell? ⟨w.heap.size, 1, none⟩ = some (.int .i64 b) := HT.out.now.1.cell 1
    simp only []
    go_wp2_with (go_at_call 15; go_must (refine (within_base _ _ _ _).mono ?_; rintro e w' ⟨rfl, rfl⟩; (first | rw [H1.out] | rw [H2.out] | rw [H3.out]); simp only []))
    go_ret
    exact ⟨rfl, HT.out.now.2⟩
  · have H1 := hide h1
    have H2 := hide h2
    have H3 := hide h3
    have hq2 : (a == 0 && b == 0) = true := by subst h4 h5; rfl
    rw [hq2] at hq
    clear h4 h5 hq2
    clear h1 h2 h3
    go_enter Tryd.func4, Tryd.ntmps4
    go_wp2_with fail
    go_at_call 14
    refine (beamed_ok _).mono ?_
    rintro e w1 ⟨rfl, hb⟩
    replace HT := hide (HT.out.step hb)
    clear hb
    have z0 : w1.cell? ⟨w.heap.size, 0, none⟩ = some (.int .i64 a) := HT.out.now.1.cell 0
    have z1 : w1.cell? ⟨w.heap.size, 1, none⟩ = some (.int .i64 b) := HT.out.now.1.cell 1
    simp only []
    go_wp2_with (go_at_call 15; go_must (refine (within_base _ _ _ _).mono ?_; rintro e w' ⟨rfl, rfl⟩; (first | rw [H1.out] | rw [H2.out] | rw [H3.out]); simp only []))
    go_ret
    exact ⟨rfl, HT.out.now.2⟩
set_option maxRecDepth 100000 in
set_option maxHeartbeats 16000000 in
theorem Top_in (half : Nat) (a b mx : Int) (w : World) (hh : half < 4) (hz : cle 30 (a, b)) (h0 : ¬(a = 0 ∧ b = 0)) (hm : w.cell? ⟨0, 0, none⟩ = some (.int .i64 mx)) :
    Calls Tryd.prog 4 #[.int .i64 half, .agg #[.int .i64 a, .int .i64 b]] w fun e w' => e = .returned (.bool true) ∧ Below w.heap.size w w' := by
  obtain ⟨i0, hi0, hz0, hz1, hz2⟩ := info_parts ga_info
  obtain ⟨j0, hj0, hy0, hy1, hy2⟩ := info_parts bb_info
  obtain ⟨st, hst⟩ : ∃ st, 2 * half = st := ⟨_, rfl⟩
  have HBO := hide (fun A c B kc W k k' => best_8 A c B kc half hh a b hz h0 W k k')
  have HRF := hide (fun W => refined_8 half hh W)
  have HPW := hide (fun A c B q k (hk : k < 8) W s s' => power_8 A c B q half hh a b hz k hk W s s')
  have HL1 := hide (lk_one half hh)
  have HL2 := hide (lk_oth half hh)
  rw [hst] at HBO HRF HPW HL1 HL2
  have HMI := hide (fun n W => mul_i (rotZ n (a, b)) W (rotZ_le hz n))
  have HNM := hide (fun W => norm_8 a b W hz)
  have hn1 := nrm_bd hz
  obtain ⟨N, hN⟩ : ∃ N, nrm (a, b) = N := ⟨_, rfl⟩
  rw [hN] at HPW HNM hn1
  have w0 : IntKind.i64.wrap (2 * (half : Int)) = (st : Int) := by rw [IntWalk.i64_in _ (by omega)]; omega
  have w9 : IntKind.i64.wrap (64 * N) = 64 * N := IntWalk.i64_in _ (by omega)
  have HV1 := hide (show withinB (half : Int) 0 3 = true by simp [withinB]; omega)
  have HV2 := hide (show withinB a (-30) 30 = true by unfold cle at hz; simp [withinB]; omega)
  have HV3 := hide (show withinB b (-30) 30 = true by unfold cle at hz; simp [withinB]; omega)
  have hq := ga_eql a b 0 0
  have hq2 : (a == 0 && b == 0) = false := by
    cases e1 : (a == 0) <;> cases e2 : (b == 0) <;> simp_all
  rw [hq2] at hq
  have HT := hide ((((stay_blk (Blk.new w 38 #[.int .i64 a, .int .i64 b])).and (stay_cell ((World.cell?_alloc_lt w _ ⟨0, 0, none⟩ (lt_of_cell hm)).trans hm))).and (stay_below (show Below w.heap.size w (w.alloc (.cells #[.int .i64 a, .int .i64 b] 38)) from (Below.refl _ _).alloc (Nat.le_refl _) _))))
  have st8 : st < 8 := by omega
  have st0 : (0 : Int) ≤ (st : Int) := by omega
  have st1 : (st : Int) < 8 := by omega
  clear hz h0 hm hN hn1 hq2 hst
  go_enter Tryd.func4, Tryd.ntmps4
  go_wp2_with fail
  go_at_call 14
  refine (beamed_ok _).mono ?_
  rintro e w1 ⟨rfl, hb⟩
  replace HT := hide (HT.out.step hb)
  clear hb
  have z0 : w1.cell? ⟨w.heap.size, 0, none⟩ = some (.int .i64 a) := HT.out.now.1.1.cell 0
  have z1 : w1.cell? ⟨w.heap.size, 1, none⟩ = some (.int .i64 b) := HT.out.now.1.1.cell 1
  simp only []
  go_wp2_with (go_at_call 15; go_must (refine (within_base _ _ _ _).mono ?_; rintro e w' ⟨rfl, rfl⟩; (first | rw [HV1.out] | rw [HV2.out] | rw [HV3.out]); simp only []))
  clear z0 z1
  go_loopw [6, 8] (fun o i wr => ∃ (k : Nat) (C : Option Addr) (c1 : Nat), k ≤ 8 ∧ i = .int .i64 k ∧ o = .slice C k c1 ∧ Blk wr w1.heap.size 38 #[.int .i64 (rotZ (half * k) (a, b)).1, .int .i64 (rotZ (half * k) (a, b)).2] ∧ wr.ownsRow (w1.heap.size + 1) 38 2 (.slice C k c1) k (gv (hK half (a, b) k)) ∧ Below w1.heap.size w1 wr) (fun _ i _ => 8 - (intOf i).toNat)
  case atStart => exact ⟨0, none, 0, by omega, rfl, rfl, by rw [show rotZ (half * 0) (a, b) = (a, b) from by simp [rotZ]]; exact Blk.new w1 _ _, World.ownsRow_nil _ _ _ _, (Below.refl _ _).alloc (Nat.le_refl _) _⟩
  case round =>
    obtain ⟨k, C, c1, hk, rfl, rfl, hbx, hrow, hbel⟩ := hrel
    by_cases hlt : k < 8
    · have hsu := gv_snoc half (a, b) k
      obtain ⟨Z, hZ⟩ : ∃ Z, rotZ (half * k) (a, b) = Z := ⟨_, rfl⟩
      rw [hZ] at hbx hsu
      have HROW := hide hrow
      have HBX := hide hbx
      have HBE := hide hbel
      have HSU := hide hsu
      have HZZ := hide hZ
      have hbz := hbel.size
      have z0 : wr.cell? ⟨w1.heap.size, 0, none⟩ = some (.int .i64 Z.1) := hbx.cell 0
      have z1 : wr.cell? ⟨w1.heap.size, 1, none⟩ = some (.int .i64 Z.2) := hbx.cell 1
      have hki : (k : Int) < 8 := by omega
      clear hrow hbx hbel hsu hZ
      go_wp2_with (at_builtin; go_must (
          refine wpList_append_own _ rfl _ _ 40 rfl (w1.heap.size + 1) 38 i0 _ 2 16 Tryd.underlying40 hi0 hz0 hz1 hz2 rfl (by decide) (.slice C k c1) k (gv (hK half (a, b) k)) rfl (HROW.out.alloc _) ⟨wr.heap.size, 0, none⟩ 1 1 [.int .i64 Z.1, .int .i64 Z.2] rfl rfl (cell_two_new _ _ _ _) (by simp [Value.oneCell']) (by simp only [maxLen]; omega) (by omega) (by simp; omega) ?_
          intro v' w3 hown' hgrow _
          obtain ⟨C2, k2, rfl⟩ := own_form hown'
          have HO2 := hide hown'
          have HG2 := hide hgrow
          clear hown' hgrow z0 z1))
      have hneq : some w1.heap.size ≠ (Value.slice C k c1).ownBlock := fun e => by
        have hlt2 := HROW.out.lt _ e.symm
        omega
      have HB3 := hide ((HBX.out.alloc _).grown HG2.out hneq)
      have HBE3 := hide (Below.app HBE.out (HROW.out.weaken (by omega)) HG2.out)
      replace HO2 := hide (show w3.ownsRow (w1.heap.size + 1) 38 2 (.slice C2 (k + 1) k2) (k + 1) (gv (hK half (a, b) (k + 1))) from by rw [HSU.out]; exact HO2.out)
      clear hneq HG2 HROW HBX HBE HSU
      go_loopw [9] (fun i wr => ∃ j : Nat, j ≤ half ∧ i = .int .i64 j ∧ Blk wr w1.heap.size 38 #[.int .i64 (rotZ (half * k + j) (a, b)).1, .int .i64 (rotZ (half * k + j) (a, b)).2] ∧ wr.ownsRow (w1.heap.size + 1) 38 2 (.slice C2 (k + 1) k2) (k + 1) (gv (hK half (a, b) (k + 1))) ∧ Below w1.heap.size w1 wr) (fun i _ => half - (intOf i).toNat)
      case atStart => exact ⟨0, by omega, rfl, by rw [Nat.add_zero, HZZ.out]; exact HB3.out, HO2.out, HBE3.out⟩
      case round =>
        clear HB3 HO2 HBE3 HZZ
        obtain ⟨j, hj, rfl, hbx, hrow, hbel⟩ := hrel
        by_cases hjl : j < half
        · have HM := hide (HMI.out (half * k + j))
          have hnx := rotZ_succ (half * k + j) (a, b)
          rw [Nat.add_assoc] at hnx
          obtain ⟨Y, hY⟩ : ∃ Y, rotZ (half * k + j) (a, b) = Y := ⟨_, rfl⟩
          rw [hY] at hbx HM hnx
          have HNX := hide hnx
          have HROW := hide hrow
          have HBX := hide hbx
          have HBE := hide hbel
          have z0 : wr.cell? ⟨w1.heap.size, 0, none⟩ = some (.int .i64 Y.1) := hbx.cell 0
          have z1 : wr.cell? ⟨w1.heap.size, 1, none⟩ = some (.int .i64 Y.2) := hbx.cell 1
          have hji : (j : Int) < (half : Int) := by omega
          clear hrow hbx hbel hnx hY
          go_wp2_with (go_at_call 16; go_must (refine (HM.out _).mono ?_; rintro e w5 ⟨rfl, hb⟩; have HB5 := hide (HBX.out.below hb HBX.out.lt); have HO5 := hide (own_bel HROW.out hb); have HBE5 := hide (HBE.out.trans (hb.mono HBE.out.size)); clear hb z0 z1; have z0 : w5.cell? ⟨w1.heap.size, 0, none⟩ = some (.int .i64 Y.1) := HB5.out.cell 0; have z1 : w5.cell? ⟨w1.heap.size, 1, none⟩ = some (.int .i64 Y.2) := HB5.out.cell 1; have f0 := HB5.out.frozen 0; have f1 := HB5.out.frozen 1; have yy := HB5.out.lt; simp only []))
          go_roundw
          case rel => exact ⟨j + 1, by omega, by go_num, by rw [HNX.out]; exact (HB5.out.set_ 0 _).set_ 1 _, own_low (own_low HO5.out (by omega)) (by omega), (HBE5.out.setCell (Nat.le_refl _) _).setCell (Nat.le_refl _) _⟩
          case measure => simp [intOf]; omega
        · have e : half * k + j = half * (k + 1) := by rw [Nat.mul_succ]; omega
          rw [e] at hbx
          have HROW := hide hrow
          have HBX := hide hbx
          have HBE := hide hbel
          clear hrow hbx hbel e
          go_wp2
          go_roundw
          case rel => exact ⟨k + 1, C2, k2, by omega, by go_num, rfl, HBX.out, HROW.out, HBE.out⟩
          case measure => simp [intOf]; omega
    · obtain rfl : k = 8 := by omega
      rw [show ((8 : Nat) : Int) = 8 from rfl]
      replace HT := hide ((HT.out.step hbel).and (stay_sl (Sl.of_ownN hrow)))
      clear hbx hrow hbel HMI hk hlt
      obtain ⟨wo, hwo⟩ : ∃ wo : World, wo = wr := ⟨_, rfl⟩
      subst hwo
      go_wp2
      go_loopw [10, 11] (fun o i wr => ∃ (k : Nat) (D : Option Addr) (d : Nat), k ≤ 8 ∧ i = .int .i64 k ∧ o = .slice D k d ∧ BookI wo.heap.size (.slice D k d) k wr ∧ Below wo.heap.size wo wr) (fun _ i _ => 8 - (intOf i).toNat)
      case atStart => exact ⟨0, none, 0, by omega, rfl, rfl, ⟨[], rfl, World.ownsRow_nil _ _ _ _, fun j hj => absurd hj (by omega)⟩, Below.refl _ _⟩
      case round =>
        obtain ⟨k, D, d, hk, rfl, rfl, hbk, hbel⟩ := hrel
        by_cases hlt : k < 8
        · have HX := hide (((HT.out.step hbel).and hbk.stay).and (stay_below hbel))
          have hki : (k : Int) < 8 := by omega
          clear hbk hbel
          go_wp2_with fail
          go_at_call 17
          refine (steer_8 k hlt _).mono ?_
          rintro e v1 ⟨A1, c1, rfl, hs, hb⟩
          replace HX := hide ((HX.out.step hb).and (stay_sl hs))
          clear hs hb
          simp only []
          replace HX := hide ((HX.out.alloc (.cells #[.slice A1 8 c1] 24)).and (stay_blk (Blk.new v1 24 #[.slice A1 8 c1])))
          have zb := HX.out.now.2.cell 0
          go_wp2_with fail
          go_at_call 8
          refine (copy_8 A1 c1 k _ HX.out.now.1.2).mono ?_
          rintro e v2 ⟨A2, c2, rfl, hs, hb⟩
          replace HX := hide ((HX.out.step hb).and (stay_sl hs))
          clear hs hb zb
          simp only []
          have zb := HX.out.now.1.2.cell 0
          go_wp2_with fail
          go_at_call 7
          refine (format_8 A2 c2 k _ HX.out.now.2).mono ?_
          rintro e v3 ⟨rfl, hb⟩
          replace HX := hide (HX.out.step hb)
          clear hb zb
          simp only []
          have zb := HX.out.now.1.2.cell 0
          go_wp2_with fail
          go_at_call 9
          refine (parse_8 k hlt mx _ HX.out.now.1.1.1.1.1.1.1.2).mono ?_
          rintro e v4 ⟨C4, q4, rfl, ho, hb⟩
          have hy := (HX.out.now.1.1.1.2).size
          replace HX := hide ((HX.out.step hb).and (stay_own (ho.weaken (base' := wo.heap.size) hy)))
          clear ho hb hy zb
          simp only []
          replace HX := hide ((HX.out.alloc (.cells #[.slice C4 8 q4] 24)).and (stay_blk (Blk.new v4 24 #[.slice C4 8 q4])))
          have zb := HX.out.now.1.1.1.2.cell 0
          have zc := HX.out.now.2.cell 0
          go_wp2_with fail
          go_at_call 12
          refine (ints_same A1 C4 c1 q4 8 (steerL (k : Int) 1 8) _ HX.out.now.1.1.1.1.2 (Sl.of_ownN HX.out.now.1.2) (steerL_len _ _ _) (by decide)).mono ?_
          rintro e v5 ⟨rfl, m5, hm5⟩
          have hb : Below (v4.alloc (.cells #[.slice C4 8 q4] 24)).heap.size (v4.alloc (.cells #[.slice C4 8 q4] 24)) v5 := by rw [hm5]; exact below_drewN (Below.refl _ _) _
          clear hm5
          replace HX := hide (HX.out.step hb)
          clear hb zb zc
          simp only []
          have zb := HX.out.now.1.1.1.2.cell 0
          have zc := HX.out.now.2.cell 0
          obtain ⟨vs, hvl, hrow, hin⟩ := HX.out.now.1.1.1.1.1.1.2
          have HVL := hide hvl
          have HROW := hide hrow
          have HIN := hide hin
          have hbz := (HX.out.now.1.1.1.1.1.2).size
          clear hvl hrow hin
          go_wp2_with (at_builtin; go_must (
              refine wpList_append_own _ rfl _ _ 42 rfl wo.heap.size 24 j0 (.agg #[.slice none 0 0]) 1 24 Tryd.underlying42 hj0 hy0 hy1 hy2 rfl (by decide) _ _ _ rfl (HROW.out.alloc _) ⟨v5.heap.size, 0, none⟩ 1 1 [.slice C4 8 q4] rfl rfl (cell_one_new _ _ _) (by simp [Value.oneCell']) (by simp only [maxLen]; omega) (by omega) (by simp; omega) ?_
              intro v' w6 hown' hgrow _
              obtain ⟨D2, d2, rfl⟩ := own_form hown'
              have HBK := hide (BookI.app HVL.out HROW.out HIN.out HX.out.now.1.2 hgrow hown')
              have HB6 := hide (Below.app HX.out.now.1.1.1.1.1.2 HROW.out hgrow)
              clear hown' hgrow))
          go_roundw
          case rel => exact ⟨k + 1, D2, d2, by omega, by go_num, rfl, HBK.out, HB6.out⟩
          case measure => simp [intOf]; omega
        · obtain rfl : k = 8 := by omega
          rw [show ((8 : Nat) : Int) = 8 from rfl]
          have hbk2 := hbk.book
          obtain ⟨bb, bo, rfl, hbs⟩ := hbk2.beams
          replace HT := hide (((HT.out.step hbel).and (stay_book hbk2)).and hbs.stay)
          clear hbk hbel hbk2 hbs hk hlt
          go_wp2_with fail
          go_at_call 19
          refine (copyB_8 _ d _ HT.out.now.1.2).mono ?_
          rintro e r1 ⟨C1, k1, rfl, hs, hb⟩
          replace HT := hide ((HT.out.step hb).and (stay_book hs))
          clear hs hb
          simp only []
          go_wp2_with fail
          go_at_call 20
          refine (copyG_8 C c1 half (a, b) _ HT.out.now.1.1.1.2).mono ?_
          rintro e r2 ⟨C2, k2, rfl, hs, hb⟩
          replace HT := hide ((HT.out.step hb).and (stay_sl hs))
          clear hs hb
          simp only []
          go_wp2_with fail
          go_at_call 18
          refine (HBO.out _ _ _ _ _ HT.out.now.1.2 HT.out.now.2).mono ?_
          rintro e r3 ⟨rfl, hb⟩
          replace HT := hide (HT.out.step hb)
          clear hb
          simp only []
          go_wp2_with fail
          go_at_call 21
          refine (HRF.out _).mono ?_
          rintro e r4 ⟨LA, lc, rfl, ⟨lb, lo, LB, l1, LB2, l2, rfl, hl1, hl2, hl3, hl4⟩, hb⟩
          replace HT := hide (((((HT.out.step hb).and (stay_at hl1)).and (stay_at hl2)).and (stay_sl hl3)).and (stay_sl hl4))
          clear hl1 hl2 hl3 hl4 hb
          simp only []
          go_wp2
          go_loopw [21] (fun i wr => ∃ k : Nat, k ≤ 8 ∧ i = .int .i64 k ∧ Below r4.heap.size r4 wr) (fun i _ => 8 - (intOf i).toNat)
          case atStart => exact ⟨0, by omega, rfl, Below.refl _ _⟩
          case round =>
            obtain ⟨k, hk, rfl, hbel⟩ := hrel
            by_cases hlt : k < 8
            · have HX := hide ((HT.out.step hbel).and (stay_below hbel))
              obtain ⟨B, nB, hcB, hsB⟩ := HX.out.now.1.1.1.1.1.1.1.2 k hlt
              replace HX := hide (HX.out.and (stay_sl hsB))
              have HP := hide (fun A c B q W s s' => HPW.out A c B q k hlt W s s')
              have hki : (k : Int) < 8 := by omega
              have hk0 : (0 : Int) ≤ (k : Int) := by omega
              clear hsB hbel
              by_cases hks : k = st
              · rw [if_pos hks] at HP
                have hkk : ((k : Int) == (st : Int)) = true := by simp [hks]
                clear hks
                have hq5 : ∀ w, (binOp .neq 52 (.agg #[.int .i64 (64 * N), .int .i64 0]) (.agg #[.int .i64 (64 * N), .int .i64 0])).run Tryd.prog w = .ok (.bool false) w := fun w => (sqr_neq _ _ _ _ w).trans (by simp)
                go_wp2_with fail
                go_at_call 8
                refine (copy_8 B nB k _ HX.out.now.2).mono ?_
                rintro e v1 ⟨A1, c3, rfl, hs, hb⟩
                replace HX := hide ((HX.out.step hb).and (stay_sl hs))
                clear hs hb hcB
                simp only []
                go_wp2_with fail
                go_at_call 20
                refine (copyG_8 C c1 half (a, b) _ HX.out.now.1.1.1.1.1.1.1.1.1.1.1.2).mono ?_
                rintro e v2 ⟨A2, c4, rfl, hs, hb⟩
                replace HX := hide ((HX.out.step hb).and (stay_sl hs))
                clear hs hb
                simp only []
                go_wp2_with fail
                go_at_call 22
                refine (HP.out _ _ _ _ _ HX.out.now.1.2 HX.out.now.2).mono ?_
                rintro e v3 ⟨rfl, hb⟩
                replace HX := hide (HX.out.step hb)
                clear hb
                simp only []
                have HYZ := hide ((HX.out.now.1.1.1.2).size)
                replace HX := hide ((HX.out.alloc (.cells #[.int .i64 (64 * N), .int .i64 0] 52)).and (stay_blk (Blk.new v3 52 #[.int .i64 (64 * N), .int .i64 0])))
                replace HX := hide ((HX.out.alloc (.cells #[.int .i64 0, .int .i64 0] 52)).and (stay_blk (show Blk ((v3.alloc (.cells #[.int .i64 (64 * N), .int .i64 0] 52)).alloc (.cells #[.int .i64 0, .int .i64 0] 52)) (v3.heap.size + 1) 52 #[.int .i64 0, .int .i64 0] from by have h := Blk.new (v3.alloc (.cells #[.int .i64 (64 * N), .int .i64 0] 52)) 52 #[.int .i64 0, .int .i64 0]; rw [World.size_alloc] at h; exact h)))
                have x0 : ((v3.alloc (.cells #[.int .i64 (64 * N), .int .i64 0] 52)).alloc (.cells #[.int .i64 0, .int .i64 0] 52)).cell? ⟨v3.heap.size, 0, none⟩ = some (.int .i64 (64 * N)) := HX.out.now.1.2.cell 0
                have x1 : ((v3.alloc (.cells #[.int .i64 (64 * N), .int .i64 0] 52)).alloc (.cells #[.int .i64 0, .int .i64 0] 52)).cell? ⟨v3.heap.size, 1, none⟩ = some (.int .i64 0) := HX.out.now.1.2.cell 1
                have z0 : ((v3.alloc (.cells #[.int .i64 (64 * N), .int .i64 0] 52)).alloc (.cells #[.int .i64 0, .int .i64 0] 52)).cell? ⟨w.heap.size, 0, none⟩ = some (.int .i64 a) := HX.out.now.1.1.1.1.1.1.1.1.1.1.1.1.1.1.1.1.1.cell 0
                have z1 : ((v3.alloc (.cells #[.int .i64 (64 * N), .int .i64 0] 52)).alloc (.cells #[.int .i64 0, .int .i64 0] 52)).cell? ⟨w.heap.size, 1, none⟩ = some (.int .i64 b) := HX.out.now.1.1.1.1.1.1.1.1.1.1.1.1.1.1.1.1.1.cell 1
                go_wp2_with fail
                go_at_call 23
                refine (HNM.out _).mono ?_
                rintro e v4 ⟨rfl, hb⟩
                replace HX := hide (HX.out.step hb)
                clear hb x0 x1 z0 z1
                simp only []
                have y0 : v4.cell? ⟨v3.heap.size + 1, 0, none⟩ = some (.int .i64 0) := HX.out.now.2.cell 0
                have y1 : v4.cell? ⟨v3.heap.size + 1, 1, none⟩ = some (.int .i64 0) := HX.out.now.2.cell 1
                have f0 := HX.out.now.2.frozen 0
                have f1 := HX.out.now.2.frozen 1
                have yl := HX.out.now.2.lt
                have HB22 := hide ((HX.out.now.1.2).far (p := ⟨v3.heap.size + 1, 0, none⟩) (by show v3.heap.size ≠ v3.heap.size + 1; omega) (.int .i64 (64 * N)))
                have HB24 := hide ((HX.out.now.2).set_ 0 (.int .i64 (64 * N)))
                have x0 : (v4.setCell ⟨v3.heap.size + 1, 0, none⟩ (.int .i64 (64 * N))).cell? ⟨v3.heap.size, 0, none⟩ = some (.int .i64 (64 * N)) := HB22.out.cell 0
                have x1 : (v4.setCell ⟨v3.heap.size + 1, 0, none⟩ (.int .i64 (64 * N))).cell? ⟨v3.heap.size, 1, none⟩ = some (.int .i64 0) := HB22.out.cell 1
                have t0 : (v4.setCell ⟨v3.heap.size + 1, 0, none⟩ (.int .i64 (64 * N))).cell? ⟨v3.heap.size + 1, 0, none⟩ = some (.int .i64 (64 * N)) := HB24.out.cell 0
                have t1 : (v4.setCell ⟨v3.heap.size + 1, 0, none⟩ (.int .i64 (64 * N))).cell? ⟨v3.heap.size + 1, 1, none⟩ = some (.int .i64 0) := HB24.out.cell 1
                go_wp2
                go_roundw
                case rel => exact ⟨k + 1, by omega, by go_num, (HX.out.now.1.1.1.1.1.2).setCell (by have h1 := HYZ.out; show r4.heap.size ≤ v3.heap.size + 1; omega) _⟩
                case measure => simp [intOf]; omega
              · rw [if_neg hks] at HP
                have hkk : ((k : Int) == (st : Int)) = false := by rw [beq_eq_false_iff_ne]; omega
                clear hks
                have hq5 : ∀ w, (binOp .neq 52 (.agg #[.int .i64 (0), .int .i64 0]) (.agg #[.int .i64 (0), .int .i64 0])).run Tryd.prog w = .ok (.bool false) w := fun w => (sqr_neq _ _ _ _ w).trans (by simp)
                go_wp2_with fail
                go_at_call 8
                refine (copy_8 B nB k _ HX.out.now.2).mono ?_
                rintro e v1 ⟨A1, c3, rfl, hs, hb⟩
                replace HX := hide ((HX.out.step hb).and (stay_sl hs))
                clear hs hb hcB
                simp only []
                go_wp2_with fail
                go_at_call 20
                refine (copyG_8 C c1 half (a, b) _ HX.out.now.1.1.1.1.1.1.1.1.1.1.1.2).mono ?_
                rintro e v2 ⟨A2, c4, rfl, hs, hb⟩
                replace HX := hide ((HX.out.step hb).and (stay_sl hs))
                clear hs hb
                simp only []
                go_wp2_with fail
                go_at_call 22
                refine (HP.out _ _ _ _ _ HX.out.now.1.2 HX.out.now.2).mono ?_
                rintro e v3 ⟨rfl, hb⟩
                replace HX := hide (HX.out.step hb)
                clear hb
                simp only []
                replace HX := hide ((HX.out.alloc (.cells #[.int .i64 (0), .int .i64 0] 52)).and (stay_blk (Blk.new v3 52 #[.int .i64 (0), .int .i64 0])))
                replace HX := hide ((HX.out.alloc (.cells #[.int .i64 0, .int .i64 0] 52)).and (stay_blk (show Blk ((v3.alloc (.cells #[.int .i64 (0), .int .i64 0] 52)).alloc (.cells #[.int .i64 0, .int .i64 0] 52)) (v3.heap.size + 1) 52 #[.int .i64 0, .int .i64 0] from by have h := Blk.new (v3.alloc (.cells #[.int .i64 (0), .int .i64 0] 52)) 52 #[.int .i64 0, .int .i64 0]; rw [World.size_alloc] at h; exact h)))
                have x0 : ((v3.alloc (.cells #[.int .i64 (0), .int .i64 0] 52)).alloc (.cells #[.int .i64 0, .int .i64 0] 52)).cell? ⟨v3.heap.size, 0, none⟩ = some (.int .i64 (0)) := HX.out.now.1.2.cell 0
                have x1 : ((v3.alloc (.cells #[.int .i64 (0), .int .i64 0] 52)).alloc (.cells #[.int .i64 0, .int .i64 0] 52)).cell? ⟨v3.heap.size, 1, none⟩ = some (.int .i64 0) := HX.out.now.1.2.cell 1
                have y0 : ((v3.alloc (.cells #[.int .i64 (0), .int .i64 0] 52)).alloc (.cells #[.int .i64 0, .int .i64 0] 52)).cell? ⟨v3.heap.size + 1, 0, none⟩ = some (.int .i64 0) := HX.out.now.2.cell 0
                have y1 : ((v3.alloc (.cells #[.int .i64 (0), .int .i64 0] 52)).alloc (.cells #[.int .i64 0, .int .i64 0] 52)).cell? ⟨v3.heap.size + 1, 1, none⟩ = some (.int .i64 0) := HX.out.now.2.cell 1
                go_wp2
                go_roundw
                case rel => exact ⟨k + 1, by omega, by go_num, HX.out.now.1.1.1.1.1.2⟩
                case measure => simp [intOf]; omega
            · obtain rfl : k = 8 := by omega
              rw [show ((8 : Nat) : Int) = 8 from rfl]
              have HX := hide ((HT.out.step hbel).and (stay_below hbel))
              obtain ⟨B, nB, hcB, hsB⟩ := HX.out.now.1.1.1.1.1.1.1.2 st st8
              have HSB := hide hsB
              clear hsB hbel
              have d1 : wr.cell? ⟨lb, lo + 12, none⟩ = some (.slice LB 8 l1) := HX.out.now.1.1.1.1.2
              have d2 : wr.cell? ⟨lb, lo + 15, none⟩ = some (.slice LB2 8 l2) := HX.out.now.1.1.1.2
              by_cases hh2 : half < 2
              · have e4 : lkS half 4 = (st : Int) := by have h := HL1.out; rw [if_pos hh2] at h; exact h
                have HI := hide (fun m => ints_d LB B l1 nB 8 (steerL (lkS half 4) 1 8) (steerL (st : Int) 1 8) true wr m HX.out.now.1.1.2 HSB.out (steerL_len _ _ _) (steerL_len _ _ _) (by decide) (by rw [e4]; exact intsEq_self _))
                clear e4
                go_wp2
                go_quiet (first | (go_at_call 12; exact HI.out _))
                go_wp2
                go_ret
                exact ⟨rfl, below_drewN HX.out.now.1.1.1.1.1.1.1.1.1.1.2 _⟩
              · have e5 : lkS half 5 = (st : Int) := by have h := HL1.out; rw [if_neg hh2] at h; exact h
                have HI := hide (fun m => ints_d LB B l1 nB 8 (steerL (lkS half 4) 1 8) (steerL (st : Int) 1 8) false wr m HX.out.now.1.1.2 HSB.out (steerL_len _ _ _) (steerL_len _ _ _) (by decide) (HL2.out (by omega)))
                have HI2 := hide (fun m => ints_d LB2 B l2 nB 8 (steerL (lkS half 5) 1 8) (steerL (st : Int) 1 8) true wr m HX.out.now.1.2 HSB.out (steerL_len _ _ _) (steerL_len _ _ _) (by decide) (by rw [e5]; exact intsEq_self _))
                clear e5
                go_wp2
                go_quiet (first | (go_at_call 12; with_reducible exact HI.out _) | (go_at_call 12; with_reducible exact HI2.out _))
                go_wp2
                go_ret
                exact ⟨rfl, below_drewN HX.out.now.1.1.1.1.1.1.1.1.1.1.2 _⟩
theorem TopBeamSweepFindsBest_lawP (h a b mx : Int) (w : World) (hm : w.cell? ⟨0, 0, none⟩ = some (.int .i64 mx)) :
    Calls Tryd.prog 4 #[.int .i64 h, .agg #[.int .i64 a, .int .i64 b]] w fun e w' => e = .returned (.bool true) ∧ Below w.heap.size w w' := by
  cases h1 : withinB h 0 3
  · exact Top_out h a b w (.inl h1)
  cases h2 : withinB a (-30) 30
  · exact Top_out h a b w (.inr (.inl ⟨h1, h2⟩))
  cases h3 : withinB b (-30) 30
  · exact Top_out h a b w (.inr (.inr (.inl ⟨h1, h2, h3⟩)))
  by_cases h4 : a = 0 ∧ b = 0
  · exact Top_out h a b w (.inr (.inr (.inr ⟨h1, h2, h3, h4.1, h4.2⟩)))
  · simp [withinB] at h1 h2 h3
    obtain ⟨half, rfl⟩ := Int.eq_ofNat_of_zero_le (by omega : 0 ≤ h)
    exact Top_in half a b mx w (by omega) (by unfold cle; dsimp only; omega) h4 hm
end Go.Proofs.YtamkannjdbodpaaDoor

namespace Go.Proofs.YtamkannjdbodpaaDoor
open Go.ChangeShapes Go.WideShapes Go.ChangeAt Go.RowKit
set_option linter.unusedVariables false

set_option maxRecDepth 100000 in
theorem topBeamSweepFindsBest_lifted (os : Os) (started : os.Started) (H : Type) (enc : TypeId × Value → H) :
    ReturnsInHanded {} Tryd.checked os 4 .any (fun w args => (Rows.topBeamSweepFindsBestSpec.pre enc Tryd.prog Tryd.f4 Rows.topBeamSweepFindsBestRow.domain false w args ∧ laidMetH Tryd.prog Rows.topBeamSweepFindsBestRow.laid w) ∧ sizedMet enc Tryd.prog Tryd.f4 (OpenSpec.ofChange Rows.topBeamSweepFindsBestSpec) false w args)
      (Rows.topBeamSweepFindsBestSpec.post enc Tryd.prog Tryd.f4 false true false false) := by
  refine handed_shaped (C := Tryd.checked) (X := fun w _ => laidMetH Tryd.prog Rows.topBeamSweepFindsBestRow.laid w) (fun _ _ _ hh h => h.of_heap hh) own started (by kernel_rfl) Tryd.func4
    (ChangeSpec.witness_shaped (enc := enc) (C := Tryd.checked) (os := os) (X := fun w _ => laidMetH Tryd.prog Rows.topBeamSweepFindsBestRow.laid w) false (World.laidAll Tryd.prog os Rows.topBeamSweepFindsBestRow.laid) #[.int .i64 0, .agg #[.int .i64 0, .int .i64 0]] 8 (World.laidAll_os _ _ _)
      (World.shaped_of_ZipB (by kernel_rfl) (by kernel_rfl)) (by kernel_rfl) (by kernel_rfl) (by kernel_rfl)
      (by rw [MakeChecks.laidMetH_plain _ _ _ (by kernel_rfl)]; exact laidMet_laidAll _ (by kernel_rfl) (by kernel_rfl))) ?_
  intro W base args ds gs before hval0 hW hcnd hL hsh
  obtain ⟨mx, hmx⟩ := maxLen_int W hsh
  have hval : ∀ (j : Nat) t v, Tryd.f4.params[j]? = some t → args[j]? = some v → Value.okWide Tryd.prog W .any base t v := hval0
  have hW' := hW
  obtain ⟨p, q, hA0, hV, rfl, hfz, hnd⟩ := hW
  have hA : DataW.TrodAll enc Tryd.prog W 0 (fun _ => true) true Tryd.f4.params.toList args.toList ds p := hA0
  rw [Tryd.params4] at hA hval
  obtain ⟨v0, vs0, d0, ds0, p0, q0, hargs, rfl, rfl, h0, r0⟩ := trodAll_cons hA
  obtain ⟨v1, vs1, d1, ds1, p1, q1, rfl, rfl, rfl, h1, r1⟩ := trodAll_cons r0
  obtain ⟨rfl, rfl, rfl⟩ := trodAll_nil r1
  obtain rfl : args = #[v0, v1] := by cases args; simp_all
  obtain ⟨rfl, rfl⟩ := trodVars_none hV
  obtain ⟨a0, rfl, rfl, rfl, w0⟩ := open_int Tryd.underlying3 (hval 0 3 v0 rfl rfl) h0
  have k1 := h1
  have lt1 : ∀ x ∈ p1, x.block < W.heap.size := by obtain ⟨m, hm⟩ := k1; exact DataW.trod_lt m _ _ _ hm
  obtain ⟨a1, b1, rfl, wa1, wb1⟩ := open_two Tryd.underlying38 (by kernel_rfl) Tryd.underlying3 Tryd.underlying3 rfl rfl int_one int_one (hval 1 38 v1 rfl rfl) h1
  clear hA0 hval0
  refine (TopBeamSweepFindsBest_lawP a0 a1 b1 mx W  hmx).mono fun e W' ⟨he, bel⟩ => ?_
  subst he
  exact ⟨_, rfl, _, _, _, [], _, [], hW', trodAll_mk1 (shut_bool Tryd.underlying4 _), (trodAll_cons_mk (shut_int Tryd.underlying3 w0) (trodAll_cons_mk (Below.trod laidOut (by kernel_rfl) (of_decide_eq_true (by kernel_rfl)) k1 bel lt1) trodAll_mk0)), rfl, bel.frame _, fun h => by cases h⟩
theorem topBeamSweepFindsBest_wrap : Tryd.f4.isWrapper Tryd.pinned.checked.prog Rows.topBeamSweepFindsBestRow.wrapper Rows.topBeamSweepFindsBestRow.mainSum := by
  unfold Func.isWrapper; first | (rw [if_pos (by decide +kernel)]; kernel_rfl) | (rw [if_neg (by decide +kernel)]; exact ⟨rfl, rfl⟩)
theorem topBeamSweepFindsBest_named : Tryd.pinned.checked.prog.funcNamed Rows.topBeamSweepFindsBestRow.func = some 4 := by kernel_rfl
theorem topBeamSweepFindsBest_said : Rows.TopBeamSweepFindsBestSaid :=
  OpenClaim.holds_of_wide 4 Tryd.f4 rfl rfl rfl rfl rfl rfl rfl ⟨rfl, rfl, rfl, rfl, rfl⟩ rfl rfl rfl rfl rfl topBeamSweepFindsBest_named Tryd.func4 topBeamSweepFindsBest_joined
    (of_decide_eq_true (by kernel_rfl)) topBeamSweepFindsBest_wrap (fun os started H enc _ => topBeamSweepFindsBest_lifted os started H enc)
theorem topBeamSweepFindsBest_plain (f : FuncId) (fn : Func) (hf : Tryd.pinned.checked.prog.funcNamed Rows.topBeamSweepFindsBestRow.func = some f) (hfn : Tryd.pinned.checked.prog.funcs[f]? = some fn) :
    false = Tryd.pinned.checked.prog.looks [] ∧ ∀ (j : Nat) t, fn.params[j]? = some t → Tryd.pinned.checked.prog.wantsStandIn t = false := by
  obtain rfl : f = 4 := Option.some.inj (topBeamSweepFindsBest_named.symm.trans hf) |>.symm
  obtain rfl : fn = Tryd.f4 := (Option.some.inj (Tryd.func4.symm.trans hfn)).symm
  refine ⟨by kernel_rfl, fun j t ht => ?_⟩
  rw [Tryd.params4] at ht
  have hm : t ∈ [3, 38] := by simpa using Array.mem_of_getElem? ht
  have hall : ([3, 38].all fun u => !Tryd.prog.wantsStandIn u) = true := by kernel_rfl
  exact (show Tryd.prog.wantsStandIn t = false by simpa using List.all_eq_true.1 hall t hm)
theorem topBeamSweepFindsBest_holds : Rows.TopBeamSweepFindsBestCardSaid :=
  Claim7.holds_tied_plain_at .later [] _ _ _ _ topBeamSweepFindsBest_said (fun _ h => by cases h) (by kernel_rfl) (fun _ h => by cases h) topBeamSweepFindsBest_row_tie rfl ⟨rfl, rfl⟩ (by kernel_rfl) rfl topBeamSweepFindsBest_plain (by kernel_rfl)
#print axioms topBeamSweepFindsBest_holds
end Go.Proofs.YtamkannjdbodpaaDoor
