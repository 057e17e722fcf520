import Derived.Test.YtamkannjdbodpaaDoorTxF
namespace Go.Proofs.YtamkannjdbodpaaDoor
open Go.RowKit Go.WideShapes Go.ChangeShapes

/-! FormatBeam (program) -/
theorem baL (ws : List Bs) : (ws.map (fun b : Bs => (ByteArray.mk b.toArray))).map (fun b => b.data.toList) = ws := by
  rw [List.map_map]
  conv => rhs; rw [← List.map_id ws]
  refine List.map_congr_left fun b _ => ?_
  show b.toArray.toList = b
  simp
theorem join_texts (ws : List Bs) (C : Option Addr) (q n base : Nat) (W : World) (h : W.ownsRow base 9 1 (.slice C n q) n (svL ws)) (hn : ws.length = n) (hl : n ≤ 1000) (hJ : (Lib.join ws [32]).length ≤ 1000) :
    Calls Tryd.prog 27 #[.slice C n q, .string ⟨#[32]⟩] W fun e w' => e = .returned (strV (Lib.join ws [32])) ∧ Below W.heap.size W w' := by
  rcases Nat.eq_zero_or_pos n with h0 | h0
  · subst h0
    obtain rfl : ws = [] := List.eq_nil_of_length_eq_zero hn
    exact (Tryd.strings_Join_none C q _ W).mono fun e w' ⟨h1, h2⟩ => ⟨h1, by subst h2; exact Below.refl _ _⟩
  · have hcap := cap_of_own h
    obtain ⟨g, cap, hv, _, hlt⟩ := h.form h0
    have hc := h.cells (g := g) (by rw [hv]; rfl)
    injection hv with h1 h2 h3
    subst h1
    have hm : (ws.map (fun b : Bs => (ByteArray.mk b.toArray))).length = n := by rw [List.length_map]; exact hn
    have hj := Tryd.strings_Join g 0 q (ws.map (fun b : Bs => (ByteArray.mk b.toArray))) ⟨#[32]⟩ W (fun j x hx => by
      rw [List.getElem?_map] at hx
      cases hw : ws[j]? with
      | none => rw [hw] at hx; cases hx
      | some b =>
        rw [hw] at hx
        injection hx with hx
        subst hx
        have h4 : (svL ws)[j]? = some (strV b) := by rw [svL, List.getElem?_map, hw]; rfl
        have h5 := hc j _ h4
        rw [add_lit] at h5
        exact h5) hlt (by rw [hm]; omega) (by rw [hm]; exact hcap) (by rw [baL]; exact Nat.le_trans hJ (by decide))
    rw [hm, baL] at hj
    exact hj
theorem digit_of (x : Int) (h : 0 ≤ x ∧ x ≤ 7) (W : World) : (Instr.slice 9 (.string ⟨#[48, 49, 50, 51, 52, 53, 54, 55]⟩) (some (.int .i64 x)) (some (.int .i64 (x + 1))) none).run Tryd.prog W = .ok (.string ⟨(wdOf x).toArray⟩) W := by
  have h8 : (ByteArray.mk #[48, 49, 50, 51, 52, 53, 54, 55]).size = 8 := rfl
  rw [run_slice_string _ _ _ _ _ _ _ Tryd.underlying9 (by omega) (by omega) (by rw [h8]; omega)]
  have e : (ByteArray.mk #[48, 49, 50, 51, 52, 53, 54, 55]).extract x.toNat (x + 1).toNat = ⟨(wdOf x).toArray⟩ := by
    obtain h9 : x = 0 ∨ x = 1 ∨ x = 2 ∨ x = 3 ∨ x = 4 ∨ x = 5 ∨ x = 6 ∨ x = 7 := by omega
    rw [show (ByteArray.mk #[48, 49, 50, 51, 52, 53, 54, 55]) = ⟨([48, 49, 50, 51, 52, 53, 54, 55] : List UInt8).toArray⟩ from rfl, ByteArray.extract_mk]
    rcases h9 with rfl | rfl | rfl | rfl | rfl | rfl | rfl | rfl <;> rfl
  rw [e]
set_option maxRecDepth 100000 in
set_option maxHeartbeats 4000000 in
theorem format_beam (A : Option Addr) (c n : Nat) (l : List Int) (w : World) (hn : l.length = n) (hs : Sl w A (iv l)) (hl : n ≤ 10) :
    Calls Tryd.prog 7 #[.agg #[.slice A n c]] w fun e w' => e = .returned (strV (fmtL l)) ∧ Below w.heap.size w w' := by
  obtain ⟨i0, hi0, hz0, hz1, hz2⟩ := info_parts ss_info
  have HT := hide (stay_sl (hs.alloc (.cells #[.slice A n c] 24)))
  have HN := hide hn
  have HJN := hide (fun ws C q m base W => join_texts ws C q m base W)
  clear hn hs
  go_enter Tryd.func7, Tryd.ntmps7
  go_wp2
  go_loopw [3, 5, 9] (fun o _ i wr => ∃ (k : Nat) (C : Option Addr) (q : Nat) (ws : List Bs), k ≤ n ∧ i = .int .i64 k ∧ o = .slice C k q ∧ ws = (l.take k).map wdOf ∧ wr.ownsRow (w.heap.size + 1) 9 1 (.slice C k q) k (svL ws) ∧ Below (w.heap.size + 1) (w.alloc (.cells #[.slice A n c] 24)) wr) (fun _ _ i _ => n - (intOf i).toNat)
  case atStart => exact ⟨0, none, 0, [], Nat.zero_le _, rfl, rfl, rfl, World.ownsRow_nil _ _ _ _, Below.refl _ _⟩
  case round =>
    obtain ⟨k, C, q, ws, hk, rfl, rfl, hws, hrow, hbel⟩ := hrel
    have HROW := hide hrow
    have HBE := hide hbel
    have HWS := hide hws
    have hbel' : Below (w.alloc (.cells #[.slice A n c] 24)).heap.size (w.alloc (.cells #[.slice A n c] 24)) wr := by simpa using hbel
    have HS := hide (HT.out _ hbel')
    clear hrow hbel hws hbel'
    by_cases hlt : k < n
    · have hkl : k < l.length := by rw [HN.out]; exact hlt
      obtain ⟨b1, o1, hA, c1⟩ := HS.out.int hkl
      subst hA
      have HWN := hide (show (l.take (k + 1)).map wdOf = ws ++ [wdOf l[k]] from by rw [HWS.out, List.take_succ_eq_append_getElem hkl, List.map_append]; rfl)
      obtain ⟨x, hx⟩ : ∃ x, l[k]'hkl = x := ⟨_, rfl⟩
      rw [hx] at c1 HWN
      have g1 : (0 : Int) ≤ (k : Int) := by omega
      have g2 : (k : Int) < (n : Int) := by omega
      clear hx hkl
      by_cases h1 : x = -1
      · subst h1
        go_wp2_with (first
          | (go_at_call 26; refine (isPhase_beam _ _).mono ?_; rintro e w' ⟨rfl, rfl⟩; simp only [withinB])
          | (at_builtin; go_loud (refine wpList_append_any _ rfl (.tmp 19) (.tmp 20) _ rfl (w.heap.size + 1) 9 i0 _ 1 16 Tryd.underlying64 hi0 hz0 hz1 hz2 rfl (by omega) _ k (svL ws) rfl (HROW.out.alloc _) (wr.heap.size + 1) (some ⟨wr.heap.size, 0, none⟩) 1 1 [strV (wdOf (-1))] rfl (reads_one wr (strV (wdOf (-1))) 9) (by simp [Value.oneCell', strV]) (by simp only [maxLen]; omega) (by omega) (by have := HBE.out.size; simp at this; simp; omega) ?_); intro v' w6 hown' hgrow _))
        obtain ⟨C2, q2, rfl⟩ := own_form hown'
        go_roundw
        case rel => exact ⟨k + 1, C2, q2, ws ++ [wdOf (-1)], by omega, by go_num, rfl, HWN.out.symm, by rw [svL_app]; exact hown', (HBE.out.alloc (by have := HBE.out.size; simpa using this) _).grown hgrow (by have := HBE.out.size; simp at this; simp; omega) (fun j hj => (HROW.out.lt j hj).1)⟩
        case measure => simp [intOf]; omega
      · by_cases h2 : 0 ≤ x ∧ x ≤ 7
        · have hdg := fun W => digit_of x h2 W
          obtain ⟨h3, h4⟩ := h2
          have h5 : withinB x (-1) 7 = true := by unfold withinB; simp; omega
          go_wp2_with (first
            | (go_at_call 26; refine (isPhase_beam _ _).mono ?_; rintro e w' ⟨rfl, rfl⟩; rw [h5]; simp only [])
            | (at_builtin; go_loud (refine wpList_append_any _ rfl (.tmp 25) (.tmp 30) _ rfl (w.heap.size + 1) 9 i0 _ 1 16 Tryd.underlying64 hi0 hz0 hz1 hz2 rfl (by omega) _ k (svL ws) rfl (HROW.out.alloc _) (wr.heap.size + 1) (some ⟨wr.heap.size, 0, none⟩) 1 1 [strV (wdOf x)] rfl (reads_one wr (strV (wdOf x)) 9) (by simp [Value.oneCell', strV]) (by simp only [maxLen]; omega) (by omega) (by have := HBE.out.size; simp at this; simp; omega) ?_); intro v' w6 hown' hgrow _))
          obtain ⟨C2, q2, rfl⟩ := own_form hown'
          go_roundw
          case rel => exact ⟨k + 1, C2, q2, ws ++ [wdOf x], by omega, by go_num, rfl, HWN.out.symm, by rw [svL_app]; exact hown', (HBE.out.alloc (by have := HBE.out.size; simpa using this) _).grown hgrow (by have := HBE.out.size; simp at this; simp; omega) (fun j hj => (HROW.out.lt j hj).1)⟩
          case measure => simp [intOf]; omega
        · have h5 : withinB x (-1) 7 = false := by
            cases hq : withinB x (-1) 7
            · rfl
            · exfalso
              have : -1 ≤ x ∧ x ≤ 7 := by simpa [withinB] using hq
              omega
          have h6 : wdOf x = [63] := by unfold wdOf; rw [if_neg h1, if_neg h2]
          rw [h6] at HWN
          clear h2 h6
          go_wp2_with (first
            | (go_at_call 26; refine (isPhase_beam _ _).mono ?_; rintro e w' ⟨rfl, rfl⟩; rw [h5]; simp only [])
            | (at_builtin; go_loud (refine wpList_append_any _ rfl (.tmp 13) (.tmp 14) _ rfl (w.heap.size + 1) 9 i0 _ 1 16 Tryd.underlying64 hi0 hz0 hz1 hz2 rfl (by omega) _ k (svL ws) rfl (HROW.out.alloc _) (wr.heap.size + 1) (some ⟨wr.heap.size, 0, none⟩) 1 1 [strV [63]] rfl (reads_one wr (strV [63]) 9) (by simp [Value.oneCell', strV]) (by simp only [maxLen]; omega) (by omega) (by have := HBE.out.size; simp at this; simp; omega) ?_); intro v' w6 hown' hgrow _))
          obtain ⟨C2, q2, rfl⟩ := own_form hown'
          go_roundw
          case rel => exact ⟨k + 1, C2, q2, ws ++ [[63]], by omega, by go_num, rfl, HWN.out.symm, by rw [svL_app]; exact hown', (HBE.out.alloc (by have := HBE.out.size; simpa using this) _).grown hgrow (by have := HBE.out.size; simp at this; simp; omega) (fun j hj => (HROW.out.lt j hj).1)⟩
          case measure => simp [intOf]; omega
    · obtain rfl : k = n := by omega
      have HWA := hide (show ws = l.map wdOf from by have h1 := HWS.out; have h2 := HN.out; rw [← h2, List.take_length] at h1; exact h1)
      have HJ := hide (show Calls Tryd.prog 27 #[.slice C k q, .string ⟨#[32]⟩] wr fun e w' => e = .returned (strV (fmtL l)) ∧ Below wr.heap.size wr w' from by
        have := HJN.out ws C q k _ wr HROW.out (by rw [HWA.out, List.length_map]; exact HN.out) (by omega) (by rw [HWA.out]; exact Nat.le_trans (fmt_len l (by rw [HN.out]; exact hl)) (by decide))
        rw [HWA.out] at this
        exact this)
      go_wp2_with (go_at_call 27; refine HJ.out.mono ?_; rintro e w2 ⟨rfl, hb2⟩; have HB2 := hide hb2; clear hb2; simp only [])
      go_ret
      exact ⟨rfl, ((Below.refl _ w).alloc (Nat.le_refl _) _).trans ((HBE.out.mono (by omega)).trans (HB2.out.mono (by have := HBE.out.size; simp at this; omega)))⟩
end Go.Proofs.YtamkannjdbodpaaDoor
