import Derived.Test.YtamkannjdbodpaaDoorTxN
import Derived.Test.YtamkannjdbodpaaDoorTxA
import Derived.Test.YtamkannjdbodpaaDoorShelf
import Derived.Deep.LoopGhost
namespace Go.Proofs.YtamkannjdbodpaaDoor
open Go.RowKit Go.WideShapes Go.ChangeShapes Go.Shelf

attribute [local go_sem] Oper.semAt_some
/-! a text cut at blanks, as a function to range over (strings.SplitSeq) -/
def strV (l : Bs) : Value := .string ⟨l.toArray⟩
theorem str_take (l : Bs) (k : Nat) : (ByteArray.mk l.toArray).extract 0 k = ⟨(l.take k).toArray⟩ := by rw [ByteArray.extract_mk]; rfl
theorem str_drop (l : Bs) (k : Nat) : (ByteArray.mk l.toArray).extract k l.length = ⟨(l.drop k).toArray⟩ := by
  rw [ByteArray.extract_mk]
  rw [List.take_of_length_le (by simp)]
theorem byte_pos : ∀ (l : Bs) (k : Nat), Lib.indexByte l 32 = (k : Int) → ∃ h : k < l.length, l[k] = 32 ∧ ∀ x ∈ l.take k, x ≠ 32
  | [], k, h => by simp [Lib.indexByte] at h
  | c :: r, k, h => by
    unfold Lib.indexByte at h
    by_cases hc : c = 32
    · subst hc
      obtain rfl : k = 0 := by simp at h; omega
      exact ⟨by simp, rfl, by simp⟩
    · have hc' : (c == 32) = false := by simpa using hc
      simp only [hc', Bool.false_eq_true, if_false] at h
      by_cases hm : Lib.indexByte r 32 = -1
      · simp [hm] at h
      · have hm' : (Lib.indexByte r 32 == -1) = false := by simpa using hm
        simp only [hm', Bool.false_eq_true, if_false] at h
        obtain ⟨k', hk'⟩ : ∃ k', k = k' + 1 := by
          refine ⟨k - 1, ?_⟩
          have := Lib.indexByte_ge r 32
          omega
        subst hk'
        obtain ⟨h1, h2, h3⟩ := byte_pos r k' (by omega)
        refine ⟨by simpa using h1, by simpa using h2, ?_⟩
        intro x hx
        rw [List.take_succ_cons] at hx
        rcases List.mem_cons.1 hx with rfl | hx
        · exact hc
        · exact h3 x hx
theorem byte_none : ∀ (l : Bs), Lib.indexByte l 32 < 0 → ∀ x ∈ l, x ≠ 32
  | [], _, x, hx => by simp at hx
  | c :: r, h, x, hx => by
    unfold Lib.indexByte at h
    by_cases hc : c = 32
    · subst hc; simp at h
    · have hc' : (c == 32) = false := by simpa using hc
      simp only [hc', Bool.false_eq_true, if_false] at h
      have hr : Lib.indexByte r 32 < 0 := by
        by_cases hm : Lib.indexByte r 32 = -1
        · omega
        · have hm' : (Lib.indexByte r 32 == -1) = false := by simpa using hm
          simp only [hm', Bool.false_eq_true, if_false] at h
          omega
      rcases List.mem_cons.1 hx with rfl | hx
      · exact hc
      · exact byte_none r hr x hx
/-- the three variables of the iterator -/
def KpS (g : Nat) (W W' : World) : Prop := ∀ k t cs, g ≤ k → k < g + 3 → Blk W k t cs → Blk W' k t cs
theorem KpS.trans {g : Nat} {A B C : World} (h : KpS g A B) (k : KpS g B C) : KpS g A C := fun j t cs h1 h2 hb => k j t cs h1 h2 (h j t cs h1 h2 hb)
theorem splitSeq_in (n : Nat) (s : ByteArray) (w : World) :
    CallsIn Fence.wide n Tryd.prog 54 #[.string s, .string ⟨#[32]⟩, .int .i64 0] w fun e w' => e = .returned (.func (.func 74) #[] #[.pointer (some ⟨w.heap.size + 1, 0, none⟩), .pointer (some ⟨w.heap.size, 0, none⟩), .pointer (some ⟨w.heap.size + 2, 0, none⟩)]) ∧
      w' = ((w.alloc (.cells #[.string s] 9)).alloc (.cells #[.string ⟨#[32]⟩] 9)).alloc (.cells #[.int .i64 0] 3) := by
  have hmf : ∀ (fn : Fn) (first cap : Array Value) (w : World), (Instr.makeFunc fn first cap).run Tryd.prog w = .ok (.func fn first cap) w := fun _ _ _ _ => rfl
  refine callsIn_of_wp Tryd.func54 rfl trivial ?_ rfl
  simp only [Tryd.ntmps54, List.size_toArray, List.length_cons, List.length_nil, Nat.reduceAdd, Nat.reduceSub, Array.replicate_succ, Array.replicate_zero, List.push_toArray, List.append_toArray, List.nil_append, List.cons_append]
  gi_wp2
  go_ret
  exact ⟨rfl, rfl⟩
theorem SplitSeq_in (n : Nat) (s : ByteArray) (w : World) :
    CallsIn Fence.wide n Tryd.prog 29 #[.string s, .string ⟨#[32]⟩] w fun e w' => e = .returned (.func (.func 74) #[] #[.pointer (some ⟨w.heap.size + 1, 0, none⟩), .pointer (some ⟨w.heap.size, 0, none⟩), .pointer (some ⟨w.heap.size + 2, 0, none⟩)]) ∧
      w' = ((w.alloc (.cells #[.string s] 9)).alloc (.cells #[.string ⟨#[32]⟩] 9)).alloc (.cells #[.int .i64 0] 3) := by
  refine callsIn_of_wp Tryd.func29 rfl trivial ?_ rfl
  simp only [Tryd.ntmps29, List.size_toArray, List.length_cons, List.length_nil, Nat.reduceAdd, Nat.reduceSub, Array.replicate_succ, Array.replicate_zero, List.push_toArray, List.append_toArray, List.nil_append, List.cons_append]
  gi_wp2_with (refine ⟨trivial, fun h => (by cases h), ?_⟩; refine (splitSeq_in _ s _).mono ?_; rintro e w' ⟨rfl, rfl⟩)
  go_ret
  exact ⟨rfl, rfl⟩
theorem slice_to (l : Bs) (k : Nat) (hk : k ≤ l.length) (W : World) : (Instr.slice 9 (strV l) none (some (.int .i64 (k : Int))) none).run Tryd.prog W = .ok (strV (l.take k)) W := by
  unfold strV
  rw [run_slice_string_to_if _ _ _ _ _ Tryd.underlying9, if_pos ⟨by omega, by show (k : Int) ≤ (l.toArray.size : Int); simp; omega⟩, Int.toNat_natCast, str_take]
theorem slice_from (l : Bs) (k : Nat) (i : Int) (hi : i = (k : Int)) (hk : k ≤ l.length) (W : World) : (Instr.slice 9 (strV l) (some (.int .i64 i)) none none).run Tryd.prog W = .ok (strV (l.drop k)) W := by
  subst hi
  unfold strV
  have e : (ByteArray.mk l.toArray).size = l.length := by show l.toArray.size = _; simp
  rw [run_slice_string_from_if _ _ _ _ _ Tryd.underlying9, if_pos ⟨by omega, by rw [e]; omega⟩, Int.toNat_natCast, e, str_drop]
theorem turns_set {t : TypeId} {g : Nat} {W : World} {cs : Array Value} (h : Blk W g t cs) (v : Value) : TurnsAt t g W (W.setCell ⟨g, 0, none⟩ v) :=
  ⟨some g, World.grownBy.mk rfl rfl rfl (by simp [World.setCell]) (fun k _ hk => Below.heap_setCell W ⟨g, 0, none⟩ v k (fun e' => hk (by rw [e']))), fun r e => by cases e; exact ⟨rfl, cs, h⟩⟩
def leftS (s : Bs) (g : Nat) (J : List Bs → World → Prop) (W : World) (r : Nat) : Prop :=
  ∃ pre rest, (rest.length = r ∧ rest.length ≤ s.length) ∧ cutL s = pre ++ cutL rest ∧ J pre W ∧ Blk W g 9 #[strV rest] ∧ Blk W (g + 1) 9 #[.string ⟨#[32]⟩] ∧ Blk W (g + 2) 3 #[.int .i64 0]
set_option maxRecDepth 100000 in
set_option maxHeartbeats 4000000 in
theorem split_seq (n : Nat) (hn : 1 ≤ n) (s : Bs) (hs : s.length ≤ 1000) (g : Nat) (w : World) (h0 : Blk w g 9 #[strV s]) (h1 : Blk w (g + 1) 9 #[.string ⟨#[32]⟩]) (h2 : Blk w (g + 2) 3 #[.int .i64 0]) :
    SeqTurns Fence.wide n Tryd.prog 74 #[.pointer (some ⟨g + 1, 0, none⟩), .pointer (some ⟨g, 0, none⟩), .pointer (some ⟨g + 2, 0, none⟩)] strV 9 g (KpS g) (fun ys => ys = cutL s) ((cutL s).length) w := fun l J Jx W hW hK hJ hJx hY hJ0 => by
  have HIX := hide (fun (S : ByteArray) W => Tryd.strings_Index_one S 32 W)
  have HB0 := hide (hK g _ _ (by omega) (by omega) h0)
  have HB1 := hide (hK (g + 1) _ _ (by omega) (by omega) h1)
  have HB2 := hide (hK (g + 2) _ _ (by omega) (by omega) h2)
  have HY := hide hY
  have HJ := hide hJ
  have HJ0 := hide hJ0
  clear hY hJ hJ0 h0 h1 h2 hK hJx
  have c1 := HB1.out.cell 0
  refine callsIn_of_wp Tryd.func74 rfl trivial ?_ rfl
  simp only [Tryd.ntmps74, List.size_toArray, List.length_cons, List.length_nil, Nat.reduceAdd, Nat.reduceSub, Array.replicate_succ, Array.replicate_zero, List.push_toArray, List.append_toArray, List.nil_append, List.cons_append]
  gi_wp2
  clear c1
  gi_loopw [7, 8] (fun _ _ wr => ∃ r, leftS s g J wr r) (fun _ _ wr => leastOf (leftS s g J wr))
  case atStart => exact ⟨s.length, [], s, ⟨rfl, Nat.le_refl _⟩, rfl, HJ0.out, HB0.out, HB1.out, HB2.out⟩
  case round =>
    obtain ⟨hsp, hmin⟩ := leastOf_spec hrel
    obtain ⟨pre, rest, ⟨hlen, hles⟩, hcut, hj, b0, b1, b2⟩ := hsp
    have HMIN := hide hmin
    have HLEN := hide hlen
    have HLES := hide hles
    have HCUT := hide hcut
    have hpl : pre.length < (cutL s).length := by
      rw [hcut, List.length_append]
      have := List.length_pos_iff.2 (cutL_ne rest)
      omega
    have c0 := b0.cell 0
    have c1 := b1.cell 0
    have c2 := b2.cell 0
    have HB0' := hide b0
    have HB1' := hide b1
    have HB2' := hide b2
    have HJW := hide hj
    have HIXr := hide (show ∀ W, Calls Tryd.prog 30 #[strV rest, .string ⟨#[32]⟩] W fun e w' => e = .returned (.int .i64 (Lib.indexByte rest 32)) ∧ w' = W from fun W => HIX.out ⟨rest.toArray⟩ W)
    clear hmin hlen hles hcut b0 b1 b2 hj HIX hrel
    by_cases hneg : Lib.indexByte rest 32 < 0
    · have HN := hide (byte_none rest hneg)
      obtain ⟨fn, tmps, assign, body, hy, hR⟩ := HY.out pre rest wr HJW.out hpl
      obtain ⟨ix, hix⟩ : ∃ ix, Lib.indexByte rest 32 = ix := ⟨_, rfl⟩
      rw [hix] at hneg HIXr
      clear hix hpl
      gi_wp2_with (refine ⟨trivial, ?_⟩; gi_at_call 30; refine (callsIn_wide.2 (HIXr.out _)).mono ?_; rintro e w2 ⟨rfl, rfl⟩)
      refine hR.mono ?_
      have hE := HCUT.out
      rw [cutL_end rest HN.out] at hE
      have HE := hide hE
      clear hE hR hy
      rintro e W3 (⟨rfl, hJ3, hk3⟩ | ⟨rfl, hJx3⟩)
      · have HJ3 := hide hJ3
        clear hk3 hJ3
        gi_wp2
        go_end0
        exact ⟨⟨_, rfl⟩, .inl ⟨_, HE.out.symm, HJ3.out⟩⟩
      · have HJx3 := hide hJx3
        clear hJx3
        gi_wp2
        go_end0
        exact ⟨⟨_, rfl⟩, .inr ⟨pre, rest, [], HE.out.symm, HJx3.out⟩⟩
    · obtain ⟨k, hk⟩ : ∃ k : Nat, Lib.indexByte rest 32 = (k : Int) := ⟨(Lib.indexByte rest 32).toNat, by omega⟩
      obtain ⟨hkl, h32, hno⟩ := byte_pos rest k hk
      have HE := hide (show cutL s = (pre ++ [rest.take k]) ++ cutL (rest.drop (k + 1)) from by rw [HCUT.out, cutL_hit hkl hno h32]; simp)
      have HE' := hide (show cutL s = pre ++ rest.take k :: cutL (rest.drop (k + 1)) from by rw [HCUT.out, cutL_hit hkl hno h32])
      have hs1 := fun W => slice_to rest k (by omega) W
      have hs2 := fun W => slice_from rest (k + 1) ((k : Int) + 1) (by omega) (by omega) W
      have HD := hide (show (rest.drop (k + 1)).length < rest.length from by rw [List.length_drop]; omega)
      have HKB := hide (show k < 1000000 from by have := HLES.out; omega)
      have HD2 := hide (show (rest.drop (k + 1)).length ≤ s.length from by rw [List.length_drop]; have := HLES.out; omega)
      obtain ⟨fn, tmps, assign, body, hy, hR⟩ := HY.out pre (rest.take k) wr HJW.out hpl
      obtain ⟨x1, hx1⟩ : ∃ x, rest.take k = x := ⟨_, rfl⟩
      obtain ⟨x2, hx2⟩ : ∃ x, rest.drop (k + 1) = x := ⟨_, rfl⟩
      rw [hx1] at HE HE' hs1 hy hR
      rw [hx2] at HE HE' hs2 HD HD2
      rw [hk] at HIXr
      have hkb := HKB.out
      clear hk hkl h32 hno hneg hpl hx1 hx2
      gi_wp2_with (refine ⟨trivial, ?_⟩; gi_at_call 30; refine (callsIn_wide.2 (HIXr.out _)).mono ?_; rintro e w2 ⟨rfl, rfl⟩)
      refine hR.mono ?_
      clear hR hy c0 c1 c2
      rintro e W3 (⟨rfl, hJ3, hk3⟩ | ⟨rfl, hJx3⟩)
      · have D0 := hide (hk3 g _ _ (by omega) (by omega) HB0'.out)
        have D1 := hide (hk3 (g + 1) _ _ (by omega) (by omega) HB1'.out)
        have D2 := hide (hk3 (g + 2) _ _ (by omega) (by omega) HB2'.out)
        have c0 := D0.out.cell 0
        have f0 := D0.out.frozen 0
        have c1 := D1.out.cell 0
        have HJ3 := hide hJ3
        have hs3 : ∀ W, (Instr.slice 9 (strV rest) (some (.int .i64 ((k : Int) + 1))) none none).run Tryd.prog W = .ok (.string ⟨x2.toArray⟩) W := hs2
        clear hk3 hJ3 hs2
        gi_wp2
        go_roundw
        case rel => exact ⟨x2.length, _, x2, ⟨rfl, HD2.out⟩, HE.out, HJ.out _ _ _ HJ3.out (turns_set D0.out _), D0.out.set_ 0 _, D1.out.far (p := ⟨g, 0, none⟩) (by show g + 1 ≠ g; omega) _, D2.out.far (p := ⟨g, 0, none⟩) (by show g + 2 ≠ g; omega) _⟩
        case measure =>
          have hl := (leastOf_spec (p := leftS s g J (W3.setCell ⟨g, 0, none⟩ (.string ⟨x2.toArray⟩))) ⟨x2.length, _, x2, ⟨rfl, HD2.out⟩, HE.out, HJ.out _ _ _ HJ3.out (turns_set D0.out _), D0.out.set_ 0 _, D1.out.far (p := ⟨g, 0, none⟩) (by show g + 1 ≠ g; omega) _, D2.out.far (p := ⟨g, 0, none⟩) (by show g + 2 ≠ g; omega) _⟩).2 x2.length
            ⟨_, x2, ⟨rfl, HD2.out⟩, HE.out, HJ.out _ _ _ HJ3.out (turns_set D0.out _), D0.out.set_ 0 _, D1.out.far (p := ⟨g, 0, none⟩) (by show g + 1 ≠ g; omega) _, D2.out.far (p := ⟨g, 0, none⟩) (by show g + 2 ≠ g; omega) _⟩
          have h1 := HLEN.out
          have h2 := HD.out
          omega
      · have HJx3 := hide hJx3
        clear hJx3
        gi_wp2
        refine bodyPost_ret (results_none rfl _ _ _) rfl ?_
        exact ⟨⟨_, rfl⟩, .inr ⟨pre, x1, cutL x2, HE'.out.symm, HJx3.out⟩⟩
end Go.Proofs.YtamkannjdbodpaaDoor
