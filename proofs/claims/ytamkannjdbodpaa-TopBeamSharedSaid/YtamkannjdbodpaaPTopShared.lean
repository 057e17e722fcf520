/- Of two users that share a resource the first one hears nothing of what is sent to the second one along its cleared channel, and the second one keeps at least what the greatest part leaves: for every two lists of whole complex numbers and every fraction. No condition. -/
import Derived.Test.YtamkannjdbodpaaMem2
import Derived.Test.YtamkannjdbodpaaRows
import Derived.WalkKit
import Derived.ProofKit
import Derived.OpenShut
import Derived.ShutString
import Derived.ChangeOld
import Derived.Below
import Derived.Lib.SmallJoins
import Derived.Test.YtamkannjdbodpaaChB
import Derived.Deep.SlicePairs
import Derived.Test.YtamkannjdbodpaaLShared
namespace Go.Proofs.Ytamkannjdbodpaa
open Go.ChangeShapes Go.WideShapes Go.ChangeAt Go.RowKit

theorem own : ownKnob Try.prog.godebug = none := by kernel_rfl
theorem laidOut : laidOutB Try.prog = true := by kernel_rfl

theorem array1 {α : Type} {cs : Array α} (h : cs.size = 1) : ∃ c0, cs = #[c0] := by
  obtain ⟨l⟩ := cs
  match l, h with
  | [c0], _ => exact ⟨c0, rfl⟩

theorem add_off (b off k : Nat) : (⟨b, off, none⟩ : Addr).add k = ⟨b, off + k, none⟩ := by
  by_cases h : k = 0
  · subst h; simp [Addr.add]
  · simp [Addr.add, h]

section
variable {H : Type} {enc : TypeId × Value → H} {W : World} {base : Nat} {sp : Nat → Bool} {hd : Bool}

/-- a slice of int, by its cells -/
theorem open_sl {t e : TypeId} {fuel : Nat} {v : Value} {x : DataW H × List MemPlace} (ht : Try.prog.underlying t = some (.slice e)) (he : Try.prog.underlying e = some (.int .i64)) (hc : Try.prog.cellsOf e = 1)
    (h : DataW.trod enc Try.prog W base sp hd fuel t [v] = some x) : ∃ A c l, v = .slice A l.length c ∧ Sl W A (iv l) ∧ ∀ n ∈ l, (Lit.int .i64 n).wf = true := by
  rcases open_ints ht he hc h with ⟨hcs, _⟩ | ⟨a, len, cap, zs, hcs, _, hl, hm, hz, _, hcell, hwz⟩
  · injection hcs with hcs _
    subst hcs
    exact ⟨none, 0, [], rfl, fun k hk => absurd hk (by simp [iv]), by simp⟩
  · injection hcs with hcs _
    subst hcs
    have hlen : len ≤ zs.length := by rw [hz]; split <;> omega
    have ht : (zs.take len).length = len := by rw [List.length_take]; omega
    refine ⟨some a, cap, zs.take len, by rw [ht], ?_, fun n hn => hwz n (List.mem_of_mem_take hn)⟩
    intro k hk
    have hk' : k < len := by rw [iv, List.length_map, ht] at hk; exact hk
    obtain ⟨b, off, spot⟩ := a
    have hc0 := hcell 0 (by omega)
    have hspot : spot = none := by simpa [Addr.add] using World.cell?_spot hc0
    subst hspot
    have hc := hcell k (by omega)
    refine ⟨b, off, rfl, ?_⟩
    have e1 := add_off b off k
    rw [e1] at hc
    rw [hc]
    have hkz : k < zs.length := by omega
    simp [iv, List.getD_eq_getElem?_getD, List.getElem?_eq_getElem hkz]
end
theorem int_one : Try.prog.cellsOf 3 = 1 := by kernel_rfl
theorem ints_one : Try.prog.cellsOf 22 = 1 := by kernel_rfl
theorem beam_one : Try.prog.cellsOf 24 = 1 := by kernel_rfl

set_option maxRecDepth 100000 in
/-- a beam as it comes in: a slice that reads as a list -/
theorem open_beam {H : Type} {enc : TypeId × Value → H} {W : World} {b0 base : Nat} {sp : Nat → Bool} {hd : Bool} {r : Reach} {v : Value} {d : DataW H} {p : List MemPlace}
    (hv : Value.okWide Try.prog W r b0 24 v) (h : DataW.Trod enc Try.prog W base sp hd 24 v d p) :
    ∃ A c l, v = .agg #[.slice A l.length c] ∧ Sl W A (iv l) ∧ ∀ n ∈ l, (Lit.int .i64 n).wf = true := by
  obtain ⟨cs, rfl, hsz⟩ := okWide_struct Try.underlying24 hv
  obtain ⟨c0, rfl⟩ := array1 (hsz.trans beam_one)
  obtain ⟨fuel, hf⟩ := h
  obtain ⟨y0, n, _, _, h0⟩ := trod_struct1 Try.underlying24 hf
  obtain ⟨A, c, l, rfl, hs, hw⟩ := open_sl Try.underlying22 Try.underlying3 int_one (by simpa [Value.cells, ints_one] using h0)
  exact ⟨A, c, l, rfl, hs, hw⟩
end Go.Proofs.Ytamkannjdbodpaa

namespace Go.Proofs.Ytamkannjdbodpaa
open Go.ChangeShapes Go.WideShapes Go.ChangeAt Go.RowKit

theorem array2 {α : Type} {cs : Array α} (h : cs.size = 2) : ∃ c0 c1, cs = #[c0, c1] := by
  obtain ⟨l⟩ := cs
  match l, h with
  | [c0, c1], _ => exact ⟨c0, c1, rfl⟩
theorem array3 {α : Type} {cs : Array α} (h : cs.size = 3) : ∃ c0 c1 c2, cs = #[c0, c1, c2] := by
  obtain ⟨l⟩ := cs
  match l, h with
  | [c0, c1, c2], _ => exact ⟨c0, c1, c2, rfl⟩

section
variable {H : Type} {enc : TypeId × Value → H} {W : World} {b0 base : Nat} {sp : Nat → Bool} {hd : Bool} {r : Reach} {v : Value} {d : DataW H} {p : List MemPlace}

set_option maxRecDepth 100000 in
/-- a struct of two ints as it comes in -/
theorem open_two {t : TypeId} {f0 f1 : Field} (ht : Try.prog.underlying t = some (.struct #[f0, f1])) (hc : Try.prog.cellsOf t = 2) (h0 : Try.prog.underlying f0.type = some (.int .i64)) (h1 : Try.prog.underlying f1.type = some (.int .i64))
    (o0 : f0.offset = 0) (o1 : f1.offset = 1) (s0 : Try.prog.cellsOf f0.type = 1) (s1 : Try.prog.cellsOf f1.type = 1)
    (hv : Value.okWide Try.prog W r b0 t v) (h : DataW.Trod enc Try.prog W base sp hd t v d p) :
    ∃ a b, v = .agg #[.int .i64 a, .int .i64 b] ∧ (Lit.int .i64 a).wf = true ∧ (Lit.int .i64 b).wf = true := by
  obtain ⟨cs, rfl, hsz⟩ := okWide_struct ht hv
  obtain ⟨c0, c1, rfl⟩ := array2 (hsz.trans hc)
  obtain ⟨fuel, hf⟩ := h
  obtain ⟨y0, y1, n, _, _, g0, g1⟩ := trod_struct2 ht hf
  obtain ⟨a, e0, _, w0⟩ := DataW.trod_int h0 g0
  obtain ⟨b, e1, _, w1⟩ := DataW.trod_int h1 g1
  rw [o0, s0] at e0
  rw [o1, s1] at e1
  simp [Value.cells] at e0 e1
  subst e0 e1
  exact ⟨a, b, rfl, w0, w1⟩

theorem trod_struct3 {t : TypeId} {f0 f1 f2 : Field} {fuel : Nat} {cs : List Value} {x : DataW H × List MemPlace} (ht : Try.prog.underlying t = some (.struct #[f0, f1, f2])) (h : DataW.trod enc Try.prog W base sp hd fuel t cs = some x) :
    ∃ y0 y1 y2 n, DataW.trod enc Try.prog W base sp hd n f0.type ((cs.drop f0.offset).take (Try.prog.cellsOf f0.type)) = some y0 ∧
      DataW.trod enc Try.prog W base sp hd n f1.type ((cs.drop f1.offset).take (Try.prog.cellsOf f1.type)) = some y1 ∧ DataW.trod enc Try.prog W base sp hd n f2.type ((cs.drop f2.offset).take (Try.prog.cellsOf f2.type)) = some y2 := by
  obtain ⟨xs, n, _, rfl, hl, hlen, hf⟩ := DataW.trod_struct ht h
  match xs, hlen with
  | [y0, y1, y2], _ => exact ⟨y0, y1, y2, n, by simpa using hf 0 f0 rfl, by simpa using hf 1 f1 rfl, by simpa using hf 2 f2 rfl⟩

set_option maxRecDepth 100000 in
/-- a struct of three ints as it comes in -/
theorem open_three {t : TypeId} {f0 f1 f2 : Field} (ht : Try.prog.underlying t = some (.struct #[f0, f1, f2])) (hc : Try.prog.cellsOf t = 3) (h0 : Try.prog.underlying f0.type = some (.int .i64)) (h1 : Try.prog.underlying f1.type = some (.int .i64)) (h2 : Try.prog.underlying f2.type = some (.int .i64))
    (o0 : f0.offset = 0) (o1 : f1.offset = 1) (o2 : f2.offset = 2) (s0 : Try.prog.cellsOf f0.type = 1) (s1 : Try.prog.cellsOf f1.type = 1) (s2 : Try.prog.cellsOf f2.type = 1)
    (hv : Value.okWide Try.prog W r b0 t v) (h : DataW.Trod enc Try.prog W base sp hd t v d p) :
    ∃ a b c, v = .agg #[.int .i64 a, .int .i64 b, .int .i64 c] ∧ (Lit.int .i64 a).wf = true ∧ (Lit.int .i64 b).wf = true ∧ (Lit.int .i64 c).wf = true := by
  obtain ⟨cs, rfl, hsz⟩ := okWide_struct ht hv
  obtain ⟨c0, c1, c2, rfl⟩ := array3 (hsz.trans hc)
  obtain ⟨fuel, hf⟩ := h
  obtain ⟨y0, y1, y2, n, g0, g1, g2⟩ := trod_struct3 ht hf
  obtain ⟨a, e0, _, w0⟩ := DataW.trod_int h0 g0
  obtain ⟨b, e1, _, w1⟩ := DataW.trod_int h1 g1
  obtain ⟨c, e2, _, w2⟩ := DataW.trod_int h2 g2
  rw [o0, s0] at e0
  rw [o1, s1] at e1
  rw [o2, s2] at e2
  simp [Value.cells] at e0 e1 e2
  subst e0 e1 e2
  exact ⟨a, b, c, rfl, w0, w1, w2⟩

set_option maxRecDepth 100000 in
/-- a slice of int as it comes in -/
theorem open_list {t e : TypeId} (ht : Try.prog.underlying t = some (.slice e)) (he : Try.prog.underlying e = some (.int .i64)) (hc : Try.prog.cellsOf e = 1)
    (hv : Value.okWide Try.prog W r b0 t v) (h : DataW.Trod enc Try.prog W base sp hd t v d p) : ∃ A c l, v = .slice A l.length c ∧ Sl W A (iv l) ∧ ∀ n ∈ l, (Lit.int .i64 n).wf = true := by
  obtain ⟨A, n, c, rfl⟩ := okWide_slice ht hv
  obtain ⟨fuel, hf⟩ := h
  obtain ⟨A', c', l, e, hs, hw⟩ := open_sl ht he hc (by simpa [Value.cells] using hf)
  exact ⟨A', c', l, e, hs, hw⟩
end
end Go.Proofs.Ytamkannjdbodpaa

namespace Go.Proofs.Ytamkannjdbodpaa
open Go.ChangeShapes Go.WideShapes Go.ChangeAt Go.RowKit Go.Deep

section
variable {H : Type} {enc : TypeId × Value → H} {W : World} {b0 base : Nat} {sp : Nat → Bool} {hd : Bool} {r : Reach} {v : Value}

theorem sl_pairs {b off len : Nat} (f : Nat → Int × Int) (h0 : ∀ i, i < len → W.cell? ⟨b, off + i * 2, none⟩ = some (.int .i64 (f i).1)) (h1 : ∀ i, i < len → W.cell? ⟨b, off + i * 2 + 1, none⟩ = some (.int .i64 (f i).2)) :
    Sl W (some ⟨b, off, none⟩) (gv ((List.range len).map f)) := by
  intro k hk
  have hl : ((List.range len).map f).length = len := by simp
  have hk2 : k < len * 2 := by rw [gv_len, hl] at hk; exact hk
  obtain ⟨g0, g1⟩ := gv_at ((List.range len).map f) (k / 2) (by rw [hl]; omega)
  have hq : ((List.range len).map f)[k / 2]'(by rw [hl]; omega) = f (k / 2) := by simp
  rw [hq] at g0 g1
  refine ⟨b, off, rfl, ?_⟩
  rcases Nat.mod_two_eq_zero_or_one k with hm | hm
  · have e : k / 2 * 2 = k := by omega
    have c := h0 (k / 2) (by omega)
    rw [e] at g0 c
    rw [List.getElem?_eq_getElem hk] at g0
    rw [c]; exact g0.symm
  · have e : k / 2 * 2 + 1 = k := by omega
    have c := h1 (k / 2) (by omega)
    rw [Nat.add_assoc, e] at c
    rw [e] at g1
    rw [List.getElem?_eq_getElem hk] at g1
    rw [c]; exact g1.symm
/-- a slice of structs of two ints, by its cells -/
theorem open_gl {t e : TypeId} {f0 f1 : Field} {fuel : Nat} {x : DataW H × List MemPlace} (ht : Try.prog.underlying t = some (.slice e)) (he : Try.prog.underlying e = some (.struct #[f0, f1]))
    (ce : Try.prog.cellsOf e = 2) (o0 : f0.offset = 0) (o1 : f1.offset = 1) (c0 : Try.prog.cellsOf f0.type = 1) (c1 : Try.prog.cellsOf f1.type = 1) (u0 : Try.prog.underlying f0.type = some (.int .i64)) (u1 : Try.prog.underlying f1.type = some (.int .i64))
    (h : DataW.trod enc Try.prog W base sp hd fuel t [v] = some x) : ∃ A c l, v = .slice A l.length c ∧ Sl W A (gv l) ∧ ∀ z ∈ l, (Lit.int .i64 z.1).wf = true ∧ (Lit.int .i64 z.2).wf = true := by
  rcases open_slice_pairs ht he ce o0 o1 c0 c1 h with ⟨hcs, _⟩ | ⟨a, len, cap, m, n, V0, V1, D0, D1, P0, P1, hcs, _, hl, _, hm, _, hx⟩
  · injection hcs with hcs _
    subst hcs
    exact ⟨none, 0, [], rfl, fun k hk => absurd hk (by simp [gv]), by simp⟩
  · injection hcs with hcs _
    subst hcs
    have hlm : len ≤ m := by rw [hm]; split <;> omega
    obtain ⟨f, hf⟩ := choose_lt (α := Int × Int) (n := len) (p := fun i z => V0 i = .int .i64 z.1 ∧ V1 i = .int .i64 z.2 ∧ (Lit.int .i64 z.1).wf = true ∧ (Lit.int .i64 z.2).wf = true) (fun i hi => by
      obtain ⟨_, _, g0, g1⟩ := hx i (by omega)
      obtain ⟨z0, e0, _, w0⟩ := DataW.trod_int u0 g0
      obtain ⟨z1, e1, _, w1⟩ := DataW.trod_int u1 g1
      injection e0 with e0 _
      injection e1 with e1 _
      exact ⟨(z0, z1), e0, e1, w0, w1⟩)
    refine ⟨some a, cap, (List.range len).map f, by simp, ?_, fun z hz => ?_⟩
    · rcases Nat.eq_zero_or_pos len with q | q
      · subst q; intro k hk; exact absurd hk (by simp [gv])
      · obtain ⟨b, off, spot⟩ := a
        have hspot : spot = none := by
          have := (hx 0 (by omega)).1
          simpa [Addr.add] using World.cell?_spot this
        subst hspot
        refine sl_pairs f (fun i hi => ?_) (fun i hi => ?_)
        · have := (hx i (by omega)).1
          rw [add_off, (hf i hi).1] at this
          exact this
        · have := (hx i (by omega)).2.1
          rw [add_off, (hf i hi).2.1] at this
          rw [Nat.add_assoc]; exact this
    · obtain ⟨i, hi, rfl⟩ := List.mem_map.1 hz
      exact (hf i (List.mem_range.1 hi)).2.2
set_option maxRecDepth 100000 in
/-- a channel as it comes in -/
theorem open_gs {d : DataW H} {p : List MemPlace} (hv : Value.okWide Try.prog W r b0 80 v) (h : DataW.Trod enc Try.prog W base sp hd 80 v d p) :
    ∃ A c l, v = .slice A l.length c ∧ Sl W A (gv l) ∧ ∀ z ∈ l, (Lit.int .i64 z.1).wf = true ∧ (Lit.int .i64 z.2).wf = true := by
  obtain ⟨A, n, c, rfl⟩ := okWide_slice Try.underlying80 hv
  obtain ⟨fuel, hf⟩ := h
  obtain ⟨A', c', l, e, hs, hw⟩ := open_gl Try.underlying80 Try.underlying90 (by kernel_rfl) rfl rfl int_one int_one Try.underlying3 Try.underlying3 (by simpa [Value.cells] using hf)
  exact ⟨A', c', l, e, hs, hw⟩
end
end Go.Proofs.Ytamkannjdbodpaa

namespace Go.Proofs.Ytamkannjdbodpaa
open Go.ChangeShapes Go.WideShapes Go.ChangeAt Go.RowKit
set_option linter.unusedVariables false

set_option maxRecDepth 100000 in
theorem topBeamShared_lifted (os : Os) (started : os.Started) (H : Type) (enc : TypeId × Value → H) :
    ReturnsInHanded {} Try.checked os 17 .any (Rows.topBeamSharedSpec.pre6 enc Try.prog Try.f17 Rows.topBeamSharedRow.domain false) (Rows.topBeamSharedSpec.post enc Try.prog Try.f17 false true false false) := by
  refine returnsInHanded_of_change (C := Try.checked) own started (by kernel_rfl) Try.func17
    (ChangeSpec.witness6 (enc := enc) (C := Try.checked) false ⟨#[], #[.slice none 0 0, .slice none 0 0, .agg #[.int .i64 0, .int .i64 0]], []⟩ 8 (by kernel_rfl) (by kernel_rfl) (by kernel_rfl) (by kernel_rfl)) ?_
  intro W base args ds gs before hval0 hW hcnd _
  have hval : ∀ (j : Nat) t v, Try.f17.params[j]? = some t → args[j]? = some v → Value.okWide Try.prog W .any base t v := hval0
  have hW' := hW
  obtain ⟨p, q, hA0, hV, rfl, hfz, hnd⟩ := hW
  have hA : DataW.TrodAll enc Try.prog W 0 (fun _ => true) true Try.f17.params.toList args.toList ds p := hA0
  rw [Try.params17] at hA hval
  obtain ⟨v0, vs0, d0, ds0, p0, q0, hargs, rfl, rfl, h0, r0⟩ := trodAll_cons hA
  obtain ⟨v1, vs1, d1, ds1, p1, q1, rfl, rfl, rfl, h1, r1⟩ := trodAll_cons r0
  obtain ⟨v2, vs2, d2, ds2, p2, q2, rfl, rfl, rfl, h2, r2⟩ := trodAll_cons r1
  obtain ⟨rfl, rfl, rfl⟩ := trodAll_nil r2
  obtain rfl : args = #[v0, v1, v2] := by cases args; simp_all
  obtain ⟨rfl, rfl⟩ := trodVars_none hV
  have k0 := h0
  have lt0 : ∀ x ∈ p0, x.block < W.heap.size := by obtain ⟨m, hm⟩ := k0; exact DataW.trod_lt m _ _ _ hm
  obtain ⟨A0, c0, l0, rfl, hs0, hw0⟩ := open_gs (hval 0 80 v0 rfl rfl) h0
  have k1 := h1
  have lt1 : ∀ x ∈ p1, x.block < W.heap.size := by obtain ⟨m, hm⟩ := k1; exact DataW.trod_lt m _ _ _ hm
  obtain ⟨A1, c1, l1, rfl, hs1, hw1⟩ := open_gs (hval 1 80 v1 rfl rfl) h1
  have k2 := h2
  have lt2 : ∀ x ∈ p2, x.block < W.heap.size := by obtain ⟨m, hm⟩ := k2; exact DataW.trod_lt m _ _ _ hm
  obtain ⟨a2, b2, rfl, wa2, wb2⟩ := open_two Try.underlying86 (by kernel_rfl) Try.underlying3 Try.underlying3 rfl rfl int_one int_one (hval 2 86 v2 rfl rfl) h2
  clear hA0 hval0
  refine (TopBeamShared_law A0 c0 l0 A1 c1 l1 a2 b2 W hs0 hs1 wa2 wb2).mono fun e W' ⟨he, bel⟩ => ?_
  subst he
  exact ⟨_, rfl, _, _, _, [], _, [], hW', trodAll_mk1 (shut_bool Try.underlying4 _), (trodAll_cons_mk (Below.trod laidOut (by kernel_rfl) (of_decide_eq_true (by kernel_rfl)) k0 bel lt0) (trodAll_cons_mk (Below.trod laidOut (by kernel_rfl) (of_decide_eq_true (by kernel_rfl)) k1 bel lt1) (trodAll_cons_mk (Below.trod laidOut (by kernel_rfl) (of_decide_eq_true (by kernel_rfl)) k2 bel lt2) trodAll_mk0))), rfl, bel.frame _, fun h => by cases h⟩

theorem topBeamShared_holds : Rows.TopBeamSharedSaid :=
  OpenClaim.holds_of_wide 17 Try.f17 rfl rfl rfl rfl rfl rfl rfl ⟨rfl, rfl, rfl, rfl, rfl⟩ rfl rfl rfl rfl rfl (by kernel_rfl) Try.func17 (by kernel_rfl)
    (of_decide_eq_true (by kernel_rfl)) (by unfold Func.isWrapper; first | (rw [if_pos (by decide +kernel)]; kernel_rfl) | (rw [if_neg (by decide +kernel)]; exact ⟨rfl, rfl⟩))
    (fun os started H enc _ => topBeamShared_lifted os started H enc)
#print axioms topBeamShared_holds
end Go.Proofs.Ytamkannjdbodpaa
