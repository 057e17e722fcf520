/- As many pairs as possible are accepted, no pairs that are accepted are more, and with a greater greatest part there are no fewer: for every list of users, every fraction and every list of pairs. No condition. -/
import Derived.Test.YtamkannjdbodpaaMem2
import Derived.Test.YtamkannjdbodpaaRows
import Derived.WalkKit
import Derived.ProofKit
import Derived.OpenShut
import Derived.ShutString
import Derived.ChangeOld
import Derived.Below
import Derived.Lib.SmallJoins
import Derived.Test.YtamkannjdbodpaaChB
import Derived.Deep.SlicePairs
import Derived.Test.YtamkannjdbodpaaUsr
import Derived.Test.YtamkannjdbodpaaChkP
import Derived.Test.YtamkannjdbodpaaStay
namespace Go.Proofs.Ytamkannjdbodpaa
open Go.ChangeShapes Go.WideShapes Go.ChangeAt Go.RowKit

theorem own : ownKnob Try.prog.godebug = none := by kernel_rfl
theorem laidOut : laidOutB Try.prog = true := by kernel_rfl

theorem array1 {α : Type} {cs : Array α} (h : cs.size = 1) : ∃ c0, cs = #[c0] := by
  obtain ⟨l⟩ := cs
  match l, h with
  | [c0], _ => exact ⟨c0, rfl⟩

theorem add_off (b off k : Nat) : (⟨b, off, none⟩ : Addr).add k = ⟨b, off + k, none⟩ := by
  by_cases h : k = 0
  · subst h; simp [Addr.add]
  · simp [Addr.add, h]

section
variable {H : Type} {enc : TypeId × Value → H} {W : World} {base : Nat} {sp : Nat → Bool} {hd : Bool}

/-- a slice of int, by its cells -/
theorem open_sl {t e : TypeId} {fuel : Nat} {v : Value} {x : DataW H × List MemPlace} (ht : Try.prog.underlying t = some (.slice e)) (he : Try.prog.underlying e = some (.int .i64)) (hc : Try.prog.cellsOf e = 1)
    (h : DataW.trod enc Try.prog W base sp hd fuel t [v] = some x) : ∃ A c l, v = .slice A l.length c ∧ Sl W A (iv l) ∧ ∀ n ∈ l, (Lit.int .i64 n).wf = true := by
  rcases open_ints ht he hc h with ⟨hcs, _⟩ | ⟨a, len, cap, zs, hcs, _, hl, hm, hz, _, hcell, hwz⟩
  · injection hcs with hcs _
    subst hcs
    exact ⟨none, 0, [], rfl, fun k hk => absurd hk (by simp [iv]), by simp⟩
  · injection hcs with hcs _
    subst hcs
    have hlen : len ≤ zs.length := by rw [hz]; split <;> omega
    have ht : (zs.take len).length = len := by rw [List.length_take]; omega
    refine ⟨some a, cap, zs.take len, by rw [ht], ?_, fun n hn => hwz n (List.mem_of_mem_take hn)⟩
    intro k hk
    have hk' : k < len := by rw [iv, List.length_map, ht] at hk; exact hk
    obtain ⟨b, off, spot⟩ := a
    have hc0 := hcell 0 (by omega)
    have hspot : spot = none := by simpa [Addr.add] using World.cell?_spot hc0
    subst hspot
    have hc := hcell k (by omega)
    refine ⟨b, off, rfl, ?_⟩
    have e1 := add_off b off k
    rw [e1] at hc
    rw [hc]
    have hkz : k < zs.length := by omega
    simp [iv, List.getD_eq_getElem?_getD, List.getElem?_eq_getElem hkz]
end
theorem int_one : Try.prog.cellsOf 3 = 1 := by kernel_rfl
theorem ints_one : Try.prog.cellsOf 22 = 1 := by kernel_rfl
theorem beam_one : Try.prog.cellsOf 24 = 1 := by kernel_rfl

set_option maxRecDepth 100000 in
/-- a beam as it comes in: a slice that reads as a list -/
theorem open_beam {H : Type} {enc : TypeId × Value → H} {W : World} {b0 base : Nat} {sp : Nat → Bool} {hd : Bool} {r : Reach} {v : Value} {d : DataW H} {p : List MemPlace}
    (hv : Value.okWide Try.prog W r b0 24 v) (h : DataW.Trod enc Try.prog W base sp hd 24 v d p) :
    ∃ A c l, v = .agg #[.slice A l.length c] ∧ Sl W A (iv l) ∧ ∀ n ∈ l, (Lit.int .i64 n).wf = true := by
  obtain ⟨cs, rfl, hsz⟩ := okWide_struct Try.underlying24 hv
  obtain ⟨c0, rfl⟩ := array1 (hsz.trans beam_one)
  obtain ⟨fuel, hf⟩ := h
  obtain ⟨y0, n, _, _, h0⟩ := trod_struct1 Try.underlying24 hf
  obtain ⟨A, c, l, rfl, hs, hw⟩ := open_sl Try.underlying22 Try.underlying3 int_one (by simpa [Value.cells, ints_one] using h0)
  exact ⟨A, c, l, rfl, hs, hw⟩
end Go.Proofs.Ytamkannjdbodpaa

namespace Go.Proofs.Ytamkannjdbodpaa
open Go.ChangeShapes Go.WideShapes Go.ChangeAt Go.RowKit

theorem array2 {α : Type} {cs : Array α} (h : cs.size = 2) : ∃ c0 c1, cs = #[c0, c1] := by
  obtain ⟨l⟩ := cs
  match l, h with
  | [c0, c1], _ => exact ⟨c0, c1, rfl⟩
theorem array3 {α : Type} {cs : Array α} (h : cs.size = 3) : ∃ c0 c1 c2, cs = #[c0, c1, c2] := by
  obtain ⟨l⟩ := cs
  match l, h with
  | [c0, c1, c2], _ => exact ⟨c0, c1, c2, rfl⟩

section
variable {H : Type} {enc : TypeId × Value → H} {W : World} {b0 base : Nat} {sp : Nat → Bool} {hd : Bool} {r : Reach} {v : Value} {d : DataW H} {p : List MemPlace}

set_option maxRecDepth 100000 in
/-- a struct of two ints as it comes in -/
theorem open_two {t : TypeId} {f0 f1 : Field} (ht : Try.prog.underlying t = some (.struct #[f0, f1])) (hc : Try.prog.cellsOf t = 2) (h0 : Try.prog.underlying f0.type = some (.int .i64)) (h1 : Try.prog.underlying f1.type = some (.int .i64))
    (o0 : f0.offset = 0) (o1 : f1.offset = 1) (s0 : Try.prog.cellsOf f0.type = 1) (s1 : Try.prog.cellsOf f1.type = 1)
    (hv : Value.okWide Try.prog W r b0 t v) (h : DataW.Trod enc Try.prog W base sp hd t v d p) :
    ∃ a b, v = .agg #[.int .i64 a, .int .i64 b] ∧ (Lit.int .i64 a).wf = true ∧ (Lit.int .i64 b).wf = true := by
  obtain ⟨cs, rfl, hsz⟩ := okWide_struct ht hv
  obtain ⟨c0, c1, rfl⟩ := array2 (hsz.trans hc)
  obtain ⟨fuel, hf⟩ := h
  obtain ⟨y0, y1, n, _, _, g0, g1⟩ := trod_struct2 ht hf
  obtain ⟨a, e0, _, w0⟩ := DataW.trod_int h0 g0
  obtain ⟨b, e1, _, w1⟩ := DataW.trod_int h1 g1
  rw [o0, s0] at e0
  rw [o1, s1] at e1
  simp [Value.cells] at e0 e1
  subst e0 e1
  exact ⟨a, b, rfl, w0, w1⟩

theorem trod_struct3 {t : TypeId} {f0 f1 f2 : Field} {fuel : Nat} {cs : List Value} {x : DataW H × List MemPlace} (ht : Try.prog.underlying t = some (.struct #[f0, f1, f2])) (h : DataW.trod enc Try.prog W base sp hd fuel t cs = some x) :
    ∃ y0 y1 y2 n, DataW.trod enc Try.prog W base sp hd n f0.type ((cs.drop f0.offset).take (Try.prog.cellsOf f0.type)) = some y0 ∧
      DataW.trod enc Try.prog W base sp hd n f1.type ((cs.drop f1.offset).take (Try.prog.cellsOf f1.type)) = some y1 ∧ DataW.trod enc Try.prog W base sp hd n f2.type ((cs.drop f2.offset).take (Try.prog.cellsOf f2.type)) = some y2 := by
  obtain ⟨xs, n, _, rfl, hl, hlen, hf⟩ := DataW.trod_struct ht h
  match xs, hlen with
  | [y0, y1, y2], _ => exact ⟨y0, y1, y2, n, by simpa using hf 0 f0 rfl, by simpa using hf 1 f1 rfl, by simpa using hf 2 f2 rfl⟩

set_option maxRecDepth 100000 in
/-- a struct of three ints as it comes in -/
theorem open_three {t : TypeId} {f0 f1 f2 : Field} (ht : Try.prog.underlying t = some (.struct #[f0, f1, f2])) (hc : Try.prog.cellsOf t = 3) (h0 : Try.prog.underlying f0.type = some (.int .i64)) (h1 : Try.prog.underlying f1.type = some (.int .i64)) (h2 : Try.prog.underlying f2.type = some (.int .i64))
    (o0 : f0.offset = 0) (o1 : f1.offset = 1) (o2 : f2.offset = 2) (s0 : Try.prog.cellsOf f0.type = 1) (s1 : Try.prog.cellsOf f1.type = 1) (s2 : Try.prog.cellsOf f2.type = 1)
    (hv : Value.okWide Try.prog W r b0 t v) (h : DataW.Trod enc Try.prog W base sp hd t v d p) :
    ∃ a b c, v = .agg #[.int .i64 a, .int .i64 b, .int .i64 c] ∧ (Lit.int .i64 a).wf = true ∧ (Lit.int .i64 b).wf = true ∧ (Lit.int .i64 c).wf = true := by
  obtain ⟨cs, rfl, hsz⟩ := okWide_struct ht hv
  obtain ⟨c0, c1, c2, rfl⟩ := array3 (hsz.trans hc)
  obtain ⟨fuel, hf⟩ := h
  obtain ⟨y0, y1, y2, n, g0, g1, g2⟩ := trod_struct3 ht hf
  obtain ⟨a, e0, _, w0⟩ := DataW.trod_int h0 g0
  obtain ⟨b, e1, _, w1⟩ := DataW.trod_int h1 g1
  obtain ⟨c, e2, _, w2⟩ := DataW.trod_int h2 g2
  rw [o0, s0] at e0
  rw [o1, s1] at e1
  rw [o2, s2] at e2
  simp [Value.cells] at e0 e1 e2
  subst e0 e1 e2
  exact ⟨a, b, c, rfl, w0, w1, w2⟩

set_option maxRecDepth 100000 in
/-- a slice of int as it comes in -/
theorem open_list {t e : TypeId} (ht : Try.prog.underlying t = some (.slice e)) (he : Try.prog.underlying e = some (.int .i64)) (hc : Try.prog.cellsOf e = 1)
    (hv : Value.okWide Try.prog W r b0 t v) (h : DataW.Trod enc Try.prog W base sp hd t v d p) : ∃ A c l, v = .slice A l.length c ∧ Sl W A (iv l) ∧ ∀ n ∈ l, (Lit.int .i64 n).wf = true := by
  obtain ⟨A, n, c, rfl⟩ := okWide_slice ht hv
  obtain ⟨fuel, hf⟩ := h
  obtain ⟨A', c', l, e, hs, hw⟩ := open_sl ht he hc (by simpa [Value.cells] using hf)
  exact ⟨A', c', l, e, hs, hw⟩
end
end Go.Proofs.Ytamkannjdbodpaa

namespace Go.Proofs.Ytamkannjdbodpaa
open Go.ChangeShapes Go.WideShapes Go.ChangeAt Go.RowKit Go.Deep

section
variable {H : Type} {enc : TypeId × Value → H} {W : World} {b0 base : Nat} {sp : Nat → Bool} {hd : Bool} {r : Reach} {v : Value}

theorem sl_pairs {b off len : Nat} (f : Nat → Int × Int) (h0 : ∀ i, i < len → W.cell? ⟨b, off + i * 2, none⟩ = some (.int .i64 (f i).1)) (h1 : ∀ i, i < len → W.cell? ⟨b, off + i * 2 + 1, none⟩ = some (.int .i64 (f i).2)) :
    Sl W (some ⟨b, off, none⟩) (gv ((List.range len).map f)) := by
  intro k hk
  have hl : ((List.range len).map f).length = len := by simp
  have hk2 : k < len * 2 := by rw [gv_len, hl] at hk; exact hk
  obtain ⟨g0, g1⟩ := gv_at ((List.range len).map f) (k / 2) (by rw [hl]; omega)
  have hq : ((List.range len).map f)[k / 2]'(by rw [hl]; omega) = f (k / 2) := by simp
  rw [hq] at g0 g1
  refine ⟨b, off, rfl, ?_⟩
  rcases Nat.mod_two_eq_zero_or_one k with hm | hm
  · have e : k / 2 * 2 = k := by omega
    have c := h0 (k / 2) (by omega)
    rw [e] at g0 c
    rw [List.getElem?_eq_getElem hk] at g0
    rw [c]; exact g0.symm
  · have e : k / 2 * 2 + 1 = k := by omega
    have c := h1 (k / 2) (by omega)
    rw [Nat.add_assoc, e] at c
    rw [e] at g1
    rw [List.getElem?_eq_getElem hk] at g1
    rw [c]; exact g1.symm
/-- a slice of structs of two ints, by its cells -/
theorem open_gl {t e : TypeId} {f0 f1 : Field} {fuel : Nat} {x : DataW H × List MemPlace} (ht : Try.prog.underlying t = some (.slice e)) (he : Try.prog.underlying e = some (.struct #[f0, f1]))
    (ce : Try.prog.cellsOf e = 2) (o0 : f0.offset = 0) (o1 : f1.offset = 1) (c0 : Try.prog.cellsOf f0.type = 1) (c1 : Try.prog.cellsOf f1.type = 1) (u0 : Try.prog.underlying f0.type = some (.int .i64)) (u1 : Try.prog.underlying f1.type = some (.int .i64))
    (h : DataW.trod enc Try.prog W base sp hd fuel t [v] = some x) : ∃ A c l, v = .slice A l.length c ∧ Sl W A (gv l) ∧ ∀ z ∈ l, (Lit.int .i64 z.1).wf = true ∧ (Lit.int .i64 z.2).wf = true := by
  rcases open_slice_pairs ht he ce o0 o1 c0 c1 h with ⟨hcs, _⟩ | ⟨a, len, cap, m, n, V0, V1, D0, D1, P0, P1, hcs, _, hl, _, hm, _, hx⟩
  · injection hcs with hcs _
    subst hcs
    exact ⟨none, 0, [], rfl, fun k hk => absurd hk (by simp [gv]), by simp⟩
  · injection hcs with hcs _
    subst hcs
    have hlm : len ≤ m := by rw [hm]; split <;> omega
    obtain ⟨f, hf⟩ := choose_lt (α := Int × Int) (n := len) (p := fun i z => V0 i = .int .i64 z.1 ∧ V1 i = .int .i64 z.2 ∧ (Lit.int .i64 z.1).wf = true ∧ (Lit.int .i64 z.2).wf = true) (fun i hi => by
      obtain ⟨_, _, g0, g1⟩ := hx i (by omega)
      obtain ⟨z0, e0, _, w0⟩ := DataW.trod_int u0 g0
      obtain ⟨z1, e1, _, w1⟩ := DataW.trod_int u1 g1
      injection e0 with e0 _
      injection e1 with e1 _
      exact ⟨(z0, z1), e0, e1, w0, w1⟩)
    refine ⟨some a, cap, (List.range len).map f, by simp, ?_, fun z hz => ?_⟩
    · rcases Nat.eq_zero_or_pos len with q | q
      · subst q; intro k hk; exact absurd hk (by simp [gv])
      · obtain ⟨b, off, spot⟩ := a
        have hspot : spot = none := by
          have := (hx 0 (by omega)).1
          simpa [Addr.add] using World.cell?_spot this
        subst hspot
        refine sl_pairs f (fun i hi => ?_) (fun i hi => ?_)
        · have := (hx i (by omega)).1
          rw [add_off, (hf i hi).1] at this
          exact this
        · have := (hx i (by omega)).2.1
          rw [add_off, (hf i hi).2.1] at this
          rw [Nat.add_assoc]; exact this
    · obtain ⟨i, hi, rfl⟩ := List.mem_map.1 hz
      exact (hf i (List.mem_range.1 hi)).2.2
set_option maxRecDepth 100000 in
/-- a channel as it comes in -/
theorem open_gs {d : DataW H} {p : List MemPlace} (hv : Value.okWide Try.prog W r b0 80 v) (h : DataW.Trod enc Try.prog W base sp hd 80 v d p) :
    ∃ A c l, v = .slice A l.length c ∧ Sl W A (gv l) ∧ ∀ z ∈ l, (Lit.int .i64 z.1).wf = true ∧ (Lit.int .i64 z.2).wf = true := by
  obtain ⟨A, n, c, rfl⟩ := okWide_slice Try.underlying80 hv
  obtain ⟨fuel, hf⟩ := h
  obtain ⟨A', c', l, e, hs, hw⟩ := open_gl Try.underlying80 Try.underlying90 (by kernel_rfl) rfl rfl int_one int_one Try.underlying3 Try.underlying3 (by simpa [Value.cells] using hf)
  exact ⟨A', c', l, e, hs, hw⟩
end
end Go.Proofs.Ytamkannjdbodpaa

namespace Go.Proofs.Ytamkannjdbodpaa
open Go.ChangeShapes Go.WideShapes Go.ChangeAt Go.RowKit Go.Deep

section
variable {H : Type} {enc : TypeId × Value → H} {W : World} {b0 base : Nat} {sp : Nat → Bool} {hd : Bool} {r : Reach} {v : Value}

set_option maxRecDepth 100000 in
/-- users as they come in -/
theorem open_users {d : DataW H} {p : List MemPlace} (hv : Value.okWide Try.prog W r b0 100 v) (h : DataW.Trod enc Try.prog W base sp hd 100 v d p) :
    ∃ A c us, v = .slice A us.length c ∧ RowsAt GR W A us := by
  obtain ⟨A, n, c, rfl⟩ := okWide_slice Try.underlying100 hv
  obtain ⟨fuel, hf⟩ := h
  have hf' : DataW.trod enc Try.prog W base sp hd fuel 100 [.slice A n c] = some (d, p) := by simpa [Value.cells] using hf
  rcases open_slice1 Try.underlying100 (by kernel_rfl) hf' with ⟨hcs, _⟩ | ⟨a, len, cap, m, k, V, D, Pl, hcs, _, hl, _, hm, _, hx⟩
  · injection hcs with hcs _
    injection hcs with h1 h2 h3
    subst h1 h2 h3
    exact ⟨none, 0, [], rfl, [], fun k hk => absurd hk (by simp), rfl, fun k hk => absurd hk (by simp)⟩
  · injection hcs with hcs _
    injection hcs with h1 h2 h3
    subst h1 h2 h3
    have hlm : n ≤ m := by rw [hm]; split <;> omega
    obtain ⟨f, hfx⟩ := choose_lt (α := Option Addr × Nat × List (Int × Int)) (n := n) (p := fun i y => V i = .slice y.1 y.2.2.length y.2.1 ∧ Sl W y.1 (gv y.2.2)) (fun i hi => by
      obtain ⟨_, g1⟩ := hx i (by omega)
      obtain ⟨B, q, l, e1, e2, _⟩ := open_gl Try.underlying80 Try.underlying90 (by kernel_rfl) rfl rfl int_one int_one Try.underlying3 Try.underlying3 g1
      exact ⟨(B, q, l), e1, e2⟩)
    refine ⟨some a, c, (List.range n).map (fun i => (f i).2.2), by simp, (List.range n).map V, ?_, by simp, fun k hk => ?_⟩
    · intro k hk
      have hk' : k < n := by simpa using hk
      obtain ⟨b, off, spot⟩ := a
      have hspot : spot = none := by
        have := (hx 0 (by omega)).1
        simpa [Addr.add] using World.cell?_spot this
      subst hspot
      refine ⟨b, off, rfl, ?_⟩
      have e1 := (hx k (by omega)).1
      rw [add_off] at e1
      rw [e1]
      simp
    · have hk' : k < n := by simpa using hk
      obtain ⟨e1, e2⟩ := hfx k hk'
      exact ⟨(f k).1, (f k).2.1, by simp [hk', e1], by simpa [GR] using e2⟩
set_option maxRecDepth 100000 in
/-- pairs as they come in -/
theorem open_pairs {d : DataW H} {p : List MemPlace} (hv : Value.okWide Try.prog W r b0 101 v) (h : DataW.Trod enc Try.prog W base sp hd 101 v d p) :
    ∃ A c l, v = .slice A l.length c ∧ Sl W A (gv l) ∧ ∀ z ∈ l, (Lit.int .i64 z.1).wf = true ∧ (Lit.int .i64 z.2).wf = true := by
  have ce : Try.prog.cellsOf 183 = 2 := by kernel_rfl
  obtain ⟨A, n, c, rfl⟩ := okWide_slice Try.underlying101 hv
  obtain ⟨fuel, hf⟩ := h
  have hf' : DataW.trod enc Try.prog W base sp hd fuel 101 [.slice A n c] = some (d, p) := by simpa [Value.cells] using hf
  rcases open_slice Try.underlying101 hf' with ⟨hcs, _⟩ | ⟨a, len, cap, m, k, D, Pl, hcs, _, hl, _, hm, _, hx⟩
  · injection hcs with hcs _
    injection hcs with h1 h2 h3
    subst h1 h2 h3
    exact ⟨none, 0, [], rfl, fun k hk => absurd hk (by simp [gv]), by simp⟩
  · injection hcs with hcs _
    injection hcs with h1 h2 h3
    subst h1 h2 h3
    have hlm : n ≤ m := by rw [hm]; split <;> omega
    obtain ⟨f, hfx⟩ := choose_lt (α := Int × Int) (n := n) (p := fun i z => W.cell? (a.add (i * 2)) = some (.int .i64 z.1) ∧ W.cell? (a.add (i * 2 + 1)) = some (.int .i64 z.2) ∧ (Lit.int .i64 z.1).wf = true ∧ (Lit.int .i64 z.2).wf = true) (fun i hi => by
      obtain ⟨cs', h1, h2⟩ := hx i (by omega)
      rw [ce] at h1
      obtain ⟨_, hlen, hcell⟩ := World.cells?_some h1
      obtain ⟨xs, q, _, _, _, hxl, hf2⟩ := DataW.trod_array Try.underlying183 h2
      match xs, hxl, cs', hlen with
      | [y0, y1], _, [v0, v1], _ =>
        have g0 := hf2 0 (by omega)
        have g1 := hf2 1 (by omega)
        rw [int_one] at g0 g1
        simp at g0 g1
        obtain ⟨z0, e0, _, w0⟩ := DataW.trod_int Try.underlying3 g0
        obtain ⟨z1, e1, _, w1⟩ := DataW.trod_int Try.underlying3 g1
        injection e0 with e0 _
        injection e1 with e1 _
        subst e0 e1
        have c0 := hcell 0 (by omega)
        have c1 := hcell 1 (by omega)
        rw [Go.Deep.add_add] at c0 c1
        exact ⟨(z0, z1), by simpa using c0, by simpa using c1, w0, w1⟩)
    refine ⟨some a, c, (List.range n).map f, by simp, ?_, fun z hz => ?_⟩
    · rcases Nat.eq_zero_or_pos n with q | q
      · subst q; intro k hk; exact absurd hk (by simp [gv])
      · obtain ⟨b, off, spot⟩ := a
        have hspot : spot = none := by
          have := (hfx 0 q).1
          simpa [Addr.add] using World.cell?_spot this
        subst hspot
        refine sl_pairs f (fun i hi => ?_) (fun i hi => ?_)
        · have := (hfx i hi).1
          rw [add_off] at this
          exact this
        · have := (hfx i hi).2.1
          rw [add_off] at this
          rw [Nat.add_assoc]; exact this
    · obtain ⟨i, hi, rfl⟩ := List.mem_map.1 hz
      exact (hfx i (List.mem_range.1 hi)).2.2
end
end Go.Proofs.Ytamkannjdbodpaa

namespace Go.Proofs.Ytamkannjdbodpaa
open Go.RowKit Go.WideShapes Go.ChangeShapes

theorem copyPairs_ref (A : Option Addr) (c n : Nat) (l : List (Int × Int)) (w : World) (hn : l.length = n) (hs : Sl w A (gv l)) (hl : n ≤ 1000000) :
    Calls Try.prog 73 #[.slice A n c] w fun e w' => ∃ A' c', e = .returned (.slice A' n c') ∧ Sl w' A' (gv l) ∧ Below w.heap.size w w' := by
  subst hn
  obtain ⟨i0, hi0, hz0, hz1, hz2⟩ := info_parts p2_info
  have hr := (hs.alloc (.cells #[] 183)).reads2
  have ho := World.ownsRow_made (e := 183) (size := 2) w #[] 0 (Nat.le_refl _) (by simp [maxLen]) rfl
  go_enter Try.func73, Try.ntmps73
  go_wp2_with (at_builtin
               refine wpList_append_any _ rfl (.tmp 3) (.tmp 4) _ rfl w.heap.size 183 i0 _ 2 16 Try.underlying101 hi0 hz0 hz1 hz2 rfl (by omega) _ 0 [] rfl
                 ho _ A l.length c (gv l) rfl hr (gv_one l) (by simp only [maxLen]; omega) (by omega) (by simp) ?_
               intro v1 w1 hown1 hg1 hat1)
  go_ret
  simp only [Nat.zero_add, List.nil_append] at hown1
  obtain ⟨A', c', rfl⟩ := own_form hown1
  refine ⟨A', c', rfl, Sl.of_ownN hown1, ((Below.refl _ w).alloc (Nat.le_refl _) _).grown hg1 (by simp) (fun k hk => ?_)⟩
  cases hk
  exact Nat.le_refl _
theorem whole_base (n : Int) (w : World) :
    Calls Try.prog 74 #[.int .i64 n] w fun e w' => e = .returned (.agg #[.int .i64 n, .int .i64 1]) ∧ Below w.heap.size w w' := by
  go_enter Try.func74, Try.ntmps74
  go_wp2
  go_returns
  exact ⟨rfl, by go_grown⟩
/-- few users, of few antennas -/
def fewB (us : List (List (Int × Int))) : Bool := !(decide (us.length = 6)) && decide (us.length ≤ 8) && us.all (fun u => decide ((u.length : Int) ≤ 10))
set_option maxRecDepth 100000 in
set_option maxHeartbeats 2000000 in
theorem users_law (A : Option Addr) (c : Nat) (us : List (List (Int × Int))) (w : World) (hs : RowsAt GR w A us) :
    Calls Try.prog 67 #[.slice A us.length c] w fun e w' => e = .returned (.bool (fewB us)) ∧ w = w' := by
  have HS := hide hs; clear hs
  by_cases h6 : us.length = 6
  · have HV := hide (show fewB us = false by unfold fewB; rw [decide_eq_true h6]; rfl)
    have hd : ((us.length : Int) == 6) = true := by rw [beq_iff_eq]; omega
    go_enter Try.func67, Try.ntmps67
    go_wp2
    go_ret
    exact ⟨by rw [HV.out]; rfl, rfl⟩
  · have hd : ((us.length : Int) == 6) = false := by rw [beq_eq_false_iff_ne]; omega
    by_cases h8 : us.length ≤ 8
    · have HV := hide (show fewB us = us.all (fun u => decide ((u.length : Int) ≤ 10)) by unfold fewB; rw [decide_eq_false h6, decide_eq_true h8]; rfl)
      go_enter Try.func67, Try.ntmps67
      go_wp2
      go_loop [3] (fun i => ∃ k : Nat, k ≤ us.length ∧ i = .int .i64 k ∧ (us.take k).all (fun u => decide ((u.length : Int) ≤ 10)) = true) (fun i => us.length - (intOf i).toNat)
      case atStart => exact ⟨0, Nat.zero_le _, rfl, rfl⟩
      case round =>
        obtain ⟨k, hk, rfl, ha⟩ := hrel
        have HA := hide ha; clear ha
        by_cases hlt : k < us.length
        · obtain ⟨b, off, B, ck, rfl, d1, _⟩ := HS.out.at_ hlt
          have htk := hide (show (us.take (k + 1)).all (fun u => decide ((u.length : Int) ≤ 10)) = decide ((us[k].length : Int) ≤ 10) by
            rw [List.take_succ_eq_append_getElem hlt, List.all_append, HA.out]; simp)
          have hmem : us[k] ∈ us := List.getElem_mem hlt
          by_cases hq : (us[k].length : Int) ≤ 10
          · have hq2 : decide ((us[k].length : Int) ≤ 10) = true := decide_eq_true hq
            have HT := hide (htk.out.trans hq2)
            clear hq htk hmem
            go_wp2_with (go_at_call 59; go_must (refine (numbers_law _ _ _ _).mono ?_; rintro e w' ⟨rfl, rfl⟩; simp only []))
            go_round
            case rel => exact ⟨k + 1, by omega, by go_num, HT.out⟩
            case measure => simp [intOf]; omega
          · have hq2 : decide ((us[k].length : Int) ≤ 10) = false := decide_eq_false hq
            have HF := hide (show us.all (fun u => decide ((u.length : Int) ≤ 10)) = false from List.all_eq_false.2 ⟨us[k], hmem, by simpa using hq⟩)
            clear hq htk hmem
            go_wp2_with (go_at_call 59; go_must (refine (numbers_law _ _ _ _).mono ?_; rintro e w' ⟨rfl, rfl⟩; simp only []))
            go_ret
            exact ⟨by rw [HV.out, HF.out]; rfl, rfl⟩
        · have HF := hide (show us.all (fun u => decide ((u.length : Int) ≤ 10)) = true by have := HA.out; rwa [List.take_of_length_le (by omega)] at this)
          go_wp2
          go_ret
          exact ⟨by rw [HV.out, HF.out]; rfl, rfl⟩
    · have HV := hide (show fewB us = false by unfold fewB; rw [decide_eq_false h6, decide_eq_false h8]; rfl)
      go_enter Try.func67, Try.ntmps67
      go_wp2
      go_ret
      exact ⟨by rw [HV.out]; rfl, rfl⟩

/-! what is found is accepted, and no more can be -/
theorem wf_small {z : Int} (h1 : 0 ≤ z) (h2 : z ≤ 100) : (Lit.int .i64 z).wf = true := WalkArith.wf_i64 (by omega)
theorem best_ok (n : Nat) (sh : Nat → Nat → Bool) : chkE n sh [] (bestF sh n 0 0) = 0 := chk_best n sh n 0 0 [] (by omega) (fun j _ => by rw [Nat.zero_testBit]; rfl)
theorem best_wf (n : Nat) (hn : n ≤ 6) (sh : Nat → Nat → Bool) : ∀ p ∈ bestF sh n 0 0, (Lit.int .i64 p.1).wf = true ∧ (Lit.int .i64 p.2).wf = true := fun p hp => by
  obtain ⟨h1, _⟩ := chk_val n sh _ [] (best_ok n sh)
  obtain ⟨a1, a2, a3, _⟩ := h1 p hp
  exact ⟨wf_small (by omega) (by omega), wf_small (by omega) (by omega)⟩
theorem share_one {us : List (List (Int × Int))} (hv : ∀ i j (hi : i < us.length) (hj : j < us.length), twoE us[i] us[j] = 0) (i j : Nat) (hi : i < us.length) (hj : j < us.length) : shU us 1 1 i j = true := by
  unfold shU shB
  rw [List.getElem?_eq_getElem hi, List.getElem?_eq_getElem hj]
  obtain ⟨_, _, _, hl, he, _⟩ := twoE_ok (hv i j hi hj)
  have := cauchy us[i] us[j] hl.symm he
  rw [decide_eq_true_iff]
  simpa using this
theorem one_half {us : List (List (Int × Int))} (hv : ∀ i j (hi : i < us.length) (hj : j < us.length), twoE us[i] us[j] = 0) (h5 : us.length < 6) (sh : Nat → Nat → Bool) :
    (bestF (shU us 1 1) us.length 0 0).length = us.length / 2 ∧ (bestF sh us.length 0 0).length ≤ (bestF (shU us 1 1) us.length 0 0).length := by
  have e : bestF (shU us 1 1) us.length 0 0 = bestF (fun _ _ => true) us.length 0 0 := best_same (n := us.length) (fun a b h1 h2 => share_one hv a b (by omega) h2) us.length 0 0 (by omega)
  rw [e]
  exact ⟨all_half _ h5, chk_max us.length (fun _ _ => true) _ (chk_mono us.length sh (fun _ _ => true) (fun _ _ _ _ _ => rfl) _ _ (best_ok us.length sh))⟩
end Go.Proofs.Ytamkannjdbodpaa

namespace Go.Proofs.Ytamkannjdbodpaa
open Go.RowKit Go.WideShapes Go.ChangeShapes

set_option maxRecDepth 100000 in
set_option maxHeartbeats 4000000 in
theorem BeamNoMorePairs_out (A : Option Addr) (c : Nat) (us : List (List (Int × Int))) (a b : Int) (PA : Option Addr) (pc m : Nat) (w : World) (hs : RowsAt GR w A us)
    (a1 : -9223372036854775808 ≤ a) (a2 : a ≤ 9223372036854775807) (b2 : b ≤ 9223372036854775807) (h : fewB us = false ∨ 8 < m ∨ usersE us ≠ 0 ∨ mostE a b ≠ 0) :
    Calls Try.prog 13 #[.slice A us.length c, .agg #[.int .i64 a, .int .i64 b], .slice PA m pc] w fun e w' => e = .returned (.bool true) ∧ Below w.heap.size w w' := by
  have HF := hide (fun W k => users_law A c us W k)
  have HU := hide (fun W k => usersErr_ref A c us W k)
  have HRM := hide (fun W => mostErr_ref a b W a1 a2 b2)
  have HS := hide hs; clear hs a1 a2 b2
  have HB := hide ((Below.refl w.heap.size w).alloc (Nat.le_refl _) (.cells #[.int .i64 a, .int .i64 b] 86))
  have HBX := hide (stay_new w 86 #[.int .i64 a, .int .i64 b])
  cases hf : fewB us
  · rw [hf] at HF
    clear h hf
    go_enter Try.func13, Try.ntmps13
    go_wp2_with (first
      | (go_at_call 18; go_must (refine (awake_ok _).mono ?_; rintro e w1 ⟨rfl, hb⟩; replace HB := hide (Below.step HB.out hb); clear hb; simp only []))
      | (go_at_call 67; go_must (refine (HF.out _ (HS.out.bel gr_lasts HB.out)).mono ?_; rintro e w' ⟨rfl, rfl⟩; simp only [])))
    go_ret
    exact ⟨rfl, HB.out⟩
  · rw [hf] at HF
    by_cases hm : 8 < m
    · have hmi : (8 : Int) < (m : Int) := by omega
      clear h hf
      go_enter Try.func13, Try.ntmps13
      go_wp2_with (first
        | (go_at_call 18; go_must (refine (awake_ok _).mono ?_; rintro e w1 ⟨rfl, hb⟩; replace HB := hide (Below.step HB.out hb); clear hb; simp only []))
        | (go_at_call 67; go_must (refine (HF.out _ (HS.out.bel gr_lasts HB.out)).mono ?_; rintro e w' ⟨rfl, rfl⟩; simp only [])))
      go_ret
      exact ⟨rfl, HB.out⟩
    · have hmd : decide ((8 : Int) < (m : Int)) = false := by rw [decide_eq_false_iff_not]; omega
      by_cases hu : usersE us = 0
      · have hne : (usersE us != 0) = false := by rw [bne_eq_false_iff_eq]; exact hu
        have hne2 : (mostE a b != 0) = true := by
          rw [bne_iff_ne]
          rcases h with h | h | h | h
          · exact absurd (hf.symm.trans h) (by decide)
          · exact absurd h hm
          · exact absurd hu h
          · exact h
        clear h hf hm hu
        go_enter Try.func13, Try.ntmps13
        go_wp2_with (first
          | (go_at_call 18; go_must (refine (awake_ok _).mono ?_; rintro e w1 ⟨rfl, hb⟩; replace HB := hide (Below.step HB.out hb); replace HBX := hide (HBX.out.step hb); clear hb; simp only []))
          | (go_at_call 67; go_must (refine (HF.out _ (HS.out.bel gr_lasts HB.out)).mono ?_; rintro e w' ⟨rfl, rfl⟩; simp only []))
          | (go_at_call 68; go_must (refine (HU.out _ (HS.out.bel gr_lasts HB.out)).mono ?_; rintro e w2 ⟨rfl, hb⟩; replace HB := hide (Below.step HB.out hb); replace HBX := hide (HBX.out.step hb); clear hb; have q0 : w2.cell? ⟨w.heap.size, 0, none⟩ = some (.int .i64 a) := HBX.out.now.cell 0; have q1 : w2.cell? ⟨w.heap.size, 1, none⟩ = some (.int .i64 b) := HBX.out.now.cell 1; simp only []))
          | (go_at_call 69; go_must (refine (HRM.out _).mono ?_; rintro e w3 ⟨rfl, hb⟩; replace HB := hide (Below.step HB.out hb); clear hb; simp only [])))
        go_ret
        exact ⟨rfl, HB.out⟩
      · have hne : (usersE us != 0) = true := by rw [bne_iff_ne]; exact hu
        clear h hf hm hu
        go_enter Try.func13, Try.ntmps13
        go_wp2_with (first
          | (go_at_call 18; go_must (refine (awake_ok _).mono ?_; rintro e w1 ⟨rfl, hb⟩; replace HB := hide (Below.step HB.out hb); clear hb; simp only []))
          | (go_at_call 67; go_must (refine (HF.out _ (HS.out.bel gr_lasts HB.out)).mono ?_; rintro e w' ⟨rfl, rfl⟩; simp only []))
          | (go_at_call 68; go_must (refine (HU.out _ (HS.out.bel gr_lasts HB.out)).mono ?_; rintro e w2 ⟨rfl, hb⟩; replace HB := hide (Below.step HB.out hb); clear hb; simp only [])))
        go_ret
        exact ⟨rfl, HB.out⟩

set_option maxRecDepth 100000 in
set_option maxHeartbeats 8000000 in
theorem BeamNoMorePairs_ok (A : Option Addr) (c : Nat) (us : List (List (Int × Int))) (a b : Int) (PA : Option Addr) (pc : Nat) (ps : List (Int × Int)) (w : World) (hs : RowsAt GR w A us) (hp : Sl w PA (gv ps)) (hwf : ∀ p ∈ ps, (Lit.int .i64 p.1).wf = true ∧ (Lit.int .i64 p.2).wf = true)
    (hf : fewB us = true) (hpl : ps.length ≤ 8) (hu : usersE us = 0) (hm : mostE a b = 0) :
    Calls Try.prog 13 #[.slice A us.length c, .agg #[.int .i64 a, .int .i64 b], .slice PA ps.length pc] w fun e w' => e = .returned (.bool true) ∧ Below w.heap.size w w' := by
  obtain ⟨hn6, hv⟩ := usersE_ok hu
  obtain ⟨m1, m2, m3, m4, -⟩ := mostE_ok hm
  have hf' := hf
  unfold fewB at hf'
  simp only [Bool.and_eq_true, Bool.not_eq_true', decide_eq_true_eq, decide_eq_false_iff_not, List.all_eq_true] at hf'
  obtain ⟨⟨hne6, _⟩, hten⟩ := hf'
  have hl : ∀ u ∈ us, u.length ≤ 100 := fun u hmem => by have := hten u hmem; omega
  have hn5 : us.length < 6 := by omega
  have h0 : firstOf [usersE us, mostE a b] = 0 := by rw [hu, hm]; rfl
  have h01 : firstOf [usersE us, mostE 1 1] = 0 := by rw [hu]; decide
  have HF := hide (fun W k => users_law A c us W k)
  have HU := hide (fun W k => usersErr_ref A c us W k)
  have HRM := hide (fun W => mostErr_ref a b W (by omega) (by omega) (by omega))
  rw [hf] at HF
  rw [hu] at HU
  rw [hm] at HRM
  have HCU := hide (fun W k => copyUsers_ref A c us W k hl (by omega))
  have HMP := hide (fun B d W k => mostPairs_beam B d us a b W k hl (by omega) (by omega) (by omega) (by omega))
  have HM1 := hide (fun B d W k => mostPairs_beam B d us 1 1 W k hl (by omega) (by omega) (by omega) (by omega))
  have hX : mostL us a b = bestF (shU us a b) us.length 0 0 := if_pos h0
  have hY : mostL us 1 1 = bestF (shU us 1 1) us.length 0 0 := if_pos h01
  rw [h0, hX] at HMP
  rw [h01, hY] at HM1
  obtain ⟨y1, y2⟩ := one_half hv hn5 (shU us a b)
  have hxl := best_len (shU us a b) us.length 0 0
  have HCK := hide (fun B d Q q qs W k kp kwf kl => checkPairs_ok B d us a b Q q qs W k hl h0 kp kwf kl)
  have hxok := best_ok us.length (shU us a b)
  have hxwf := best_wf us.length hn6 (shU us a b)
  have hmax : chkE us.length (shU us a b) [] ps = 0 → ps.length ≤ (bestF (shU us a b) us.length 0 0).length := chk_max us.length (shU us a b) ps
  have hCX : ∀ B d Q q W, RowsAt GR W B us → Sl W Q (gv (bestF (shU us a b) us.length 0 0)) → Calls Try.prog 72 #[.slice B us.length d, .agg #[.int .i64 a, .int .i64 b], .slice Q (bestF (shU us a b) us.length 0 0).length q] W fun e w' => e = .returned (.tuple #[.int .i64 ((bestF (shU us a b) us.length 0 0).length : Int), .int .i64 0]) ∧ Below W.heap.size W w' := fun B d Q q W k kp => by
    have := HCK.out B d Q q _ W k kp hxwf (by omega)
    rw [hxok, if_pos rfl] at this
    exact this
  have HCX := hide hCX
  obtain ⟨Z, hZ⟩ : ∃ Z, chkE us.length (shU us a b) [] ps = Z := ⟨_, rfl⟩
  obtain ⟨V, hV⟩ : ∃ V : Int, (if Z = 0 then (ps.length : Int) else 0) = V := ⟨_, rfl⟩
  have HCP := hide (fun B d Q q W k kp => HCK.out B d Q q ps W k kp hwf (by omega))
  rw [hZ, hV] at HCP
  rw [hZ] at hmax
  have HCPA := hide (fun Q q W k => copyPairs_ref Q q ps.length ps W rfl k (by omega))
  obtain ⟨X, hXX⟩ : ∃ X, bestF (shU us a b) us.length 0 0 = X := ⟨_, rfl⟩
  obtain ⟨Y, hYY⟩ : ∃ Y, bestF (shU us 1 1) us.length 0 0 = Y := ⟨_, rfl⟩
  rw [hXX] at HMP HCX hmax y2 hxl
  rw [hYY] at HM1 y1 y2
  have HCPX := hide (fun Q q W k => copyPairs_ref Q q X.length X W rfl k (by omega))
  have e1 : ((X.length : Int) != (X.length : Int)) = false := by simp
  have e2 : ((Y.length : Int) == Int.tdiv (us.length : Int) 2) = true := by
    rw [beq_iff_eq, y1, Int.tdiv_eq_ediv_of_nonneg (by omega)]; omega
  have e5 : ((Y.length : Int) == (us.length : Int) / 2) = true := by rw [beq_iff_eq, y1]; omega
  have e4 : decide (X.length ≤ Y.length) = true := by rw [decide_eq_true_iff]; exact y2
  have e3 : decide ((X.length : Int) ≤ (Y.length : Int)) = true := by rw [decide_eq_true_iff]; omega
  have hmd : decide ((8 : Int) < (ps.length : Int)) = false := by rw [decide_eq_false_iff_not]; omega
  have HS := hide hs; clear hs
  have HPS := hide hp; clear hp
  have HB := hide ((Below.refl w.heap.size w).alloc (Nat.le_refl _) (.cells #[.int .i64 a, .int .i64 b] 86))
  have HBX := hide (stay_new w 86 #[.int .i64 a, .int .i64 b])
  have hzz : (Z = 0 ∧ V = ps.length ∧ (ps.length : Int) ≤ X.length) ∨ Z ≠ 0 := by
    by_cases q : Z = 0
    · exact .inl ⟨q, by rw [← hV, if_pos q], by have := hmax q; omega⟩
    · exact .inr q
  obtain ⟨n, hn⟩ : ∃ n, us.length = n := ⟨_, rfl⟩
  have hn2 : (n : Int) ≤ 5 := by omega
  rw [hn] at HF HU HCU HMP HM1 HCX HCP e2 e5
  rw [hn]
  clear hf hpl hu hm hn6 hv m1 m2 m3 m4 hne6 hten hl hn5 h0 h01 hX hY y1 hxok hxwf hmax hCX HCK hV hZ hXX hYY hn hwf
  have HT := hide (Stay.triv (w.alloc (.cells #[.int .i64 a, .int .i64 b] 86)))
  go_enter Try.func13, Try.ntmps13
  go_wp2_with (first
    | (go_at_call 18; go_must (refine (awake_ok _).mono ?_; rintro e w1 ⟨rfl, hb⟩; replace HB := hide (Below.step HB.out hb); replace HBX := hide (HBX.out.step hb); replace HT := hide (HT.out.step hb); clear hb; simp only []))
    | (go_at_call 67; go_must (refine (HF.out _ (HS.out.bel gr_lasts HB.out)).mono ?_; rintro e w' ⟨rfl, rfl⟩; simp only []))
    | (go_at_call 68; go_must (refine (HU.out _ (HS.out.bel gr_lasts HB.out)).mono ?_; rintro e w2 ⟨rfl, hb⟩; replace HB := hide (Below.step HB.out hb); replace HBX := hide (HBX.out.step hb); replace HT := hide (HT.out.step hb); clear hb; have q0 : w2.cell? ⟨w.heap.size, 0, none⟩ = some (.int .i64 a) := HBX.out.now.cell 0; have q1 : w2.cell? ⟨w.heap.size, 1, none⟩ = some (.int .i64 b) := HBX.out.now.cell 1; simp only []))
    | (go_at_call 69; go_must (refine (HRM.out _).mono ?_; rintro e w3 ⟨rfl, hb⟩; replace HB := hide (Below.step HB.out hb); replace HBX := hide (HBX.out.step hb); replace HT := hide (HT.out.step hb); clear hb; have q0 : w3.cell? ⟨w.heap.size, 0, none⟩ = some (.int .i64 a) := HBX.out.now.cell 0; have q1 : w3.cell? ⟨w.heap.size, 1, none⟩ = some (.int .i64 b) := HBX.out.now.cell 1; simp only [])))
  go_region_held3 (fun w' => w'.cell? ⟨w.heap.size, 0, none⟩ = some (.int .i64 a) ∧ w'.cell? ⟨w.heap.size, 1, none⟩ = some (.int .i64 b)) (first | (simp [go_sem]; done) | (simp [go_sem, *]; done) | exact ⟨q0, q1⟩ | go_keep)
    (first
      | (go_at_call 71; go_must (refine (HCU.out _ (HS.out.bel gr_lasts (below_drew HB.out))).mono ?_; rintro e w4 ⟨B4, k4, rfl, hr4, hb⟩; have HR4 := hide hr4; replace HB := hide (Below.step (below_drew HB.out) hb); replace HBX := hide (HBX.out.drew.step hb); replace HT := hide (HT.out.drew.step hb); clear hb hr4; have q0 : w4.cell? ⟨w.heap.size, 0, none⟩ = some (.int .i64 a) := HBX.out.now.cell 0; have q1 : w4.cell? ⟨w.heap.size, 1, none⟩ = some (.int .i64 b) := HBX.out.now.cell 1))
      | (go_at_call 70; go_must (refine (HMP.out _ _ _ HR4.out).mono ?_; rintro e w5 ⟨P5, k5, rfl, hp5, hb⟩; replace HT := hide ((HT.out.step hb).and (stay_sl hp5)); replace HB := hide (Below.step HB.out hb); replace HBX := hide (HBX.out.step hb); clear hb hp5 HR4; have q0 : w5.cell? ⟨w.heap.size, 0, none⟩ = some (.int .i64 a) := HBX.out.now.cell 0; have q1 : w5.cell? ⟨w.heap.size, 1, none⟩ = some (.int .i64 b) := HBX.out.now.cell 1)))
  go_wp2_with fail
  go_region_held3 (fun w' => w'.cell? ⟨w.heap.size, 0, none⟩ = some (.int .i64 a) ∧ w'.cell? ⟨w.heap.size, 1, none⟩ = some (.int .i64 b)) (first | (simp [go_sem]; done) | (simp [go_sem, *]; done) | exact ⟨q0, q1⟩ | go_keep)
    (first
      | (go_at_call 71; go_must (refine (HCU.out _ (HS.out.bel gr_lasts (below_drew HB.out))).mono ?_; rintro e w6 ⟨B6, k6, rfl, hr6, hb⟩; have HR6 := hide hr6; replace HB := hide (Below.step (below_drew HB.out) hb); replace HBX := hide (HBX.out.drew.step hb); replace HT := hide (HT.out.drew.step hb); clear hb hr6; have q0 : w6.cell? ⟨w.heap.size, 0, none⟩ = some (.int .i64 a) := HBX.out.now.cell 0; have q1 : w6.cell? ⟨w.heap.size, 1, none⟩ = some (.int .i64 b) := HBX.out.now.cell 1))
      | (go_at_call 73; go_must (refine (HCPX.out _ _ _ HT.out.now.2).mono ?_; rintro e w7 ⟨P7, k7, rfl, hp7, hb⟩; have HR7 := hide (HR6.out.bel gr_lasts hb); have HP7 := hide hp7; replace HB := hide (Below.step HB.out hb); replace HBX := hide (HBX.out.step hb); replace HT := hide (HT.out.step hb); clear hb hp7 HR6; have q0 : w7.cell? ⟨w.heap.size, 0, none⟩ = some (.int .i64 a) := HBX.out.now.cell 0; have q1 : w7.cell? ⟨w.heap.size, 1, none⟩ = some (.int .i64 b) := HBX.out.now.cell 1))
      | (go_at_call 72; go_must (refine (HCX.out _ _ _ _ _ HR7.out HP7.out).mono ?_; rintro e w8 ⟨rfl, hb⟩; replace HB := hide (Below.step HB.out hb); replace HBX := hide (HBX.out.step hb); replace HT := hide (HT.out.step hb); clear hb HR7 HP7; have q0 : w8.cell? ⟨w.heap.size, 0, none⟩ = some (.int .i64 a) := HBX.out.now.cell 0; have q1 : w8.cell? ⟨w.heap.size, 1, none⟩ = some (.int .i64 b) := HBX.out.now.cell 1)))
  go_wp2_with fail
  go_region_held3 (fun w' => w'.cell? ⟨w.heap.size, 0, none⟩ = some (.int .i64 a) ∧ w'.cell? ⟨w.heap.size, 1, none⟩ = some (.int .i64 b)) (first | (simp [go_sem]; done) | (simp [go_sem, *]; done) | exact ⟨q0, q1⟩ | go_keep)
    (first
      | (go_at_call 71; go_must (refine (HCU.out _ (HS.out.bel gr_lasts (below_drew HB.out))).mono ?_; rintro e w9 ⟨B9, k9, rfl, hr9, hb⟩; have HR9 := hide hr9; replace HB := hide (Below.step (below_drew HB.out) hb); replace HBX := hide (HBX.out.drew.step hb); replace HT := hide (HT.out.drew.step hb); clear hb hr9; have q0 : w9.cell? ⟨w.heap.size, 0, none⟩ = some (.int .i64 a) := HBX.out.now.cell 0; have q1 : w9.cell? ⟨w.heap.size, 1, none⟩ = some (.int .i64 b) := HBX.out.now.cell 1))
      | (go_at_call 73; go_must (refine (HCPA.out _ _ _ (HPS.out.bel HB.out)).mono ?_; rintro e w10 ⟨P10, k10, rfl, hp10, hb⟩; have HR10 := hide (HR9.out.bel gr_lasts hb); have HP10 := hide hp10; replace HB := hide (Below.step HB.out hb); replace HBX := hide (HBX.out.step hb); replace HT := hide (HT.out.step hb); clear hb hp10 HR9; have q0 : w10.cell? ⟨w.heap.size, 0, none⟩ = some (.int .i64 a) := HBX.out.now.cell 0; have q1 : w10.cell? ⟨w.heap.size, 1, none⟩ = some (.int .i64 b) := HBX.out.now.cell 1))
      | (go_at_call 72; go_must (refine (HCP.out _ _ _ _ _ HR10.out HP10.out).mono ?_; rintro e w11 ⟨rfl, hb⟩; replace HB := hide (Below.step HB.out hb); replace HBX := hide (HBX.out.step hb); replace HT := hide (HT.out.step hb); clear hb HR10 HP10; have q0 : w11.cell? ⟨w.heap.size, 0, none⟩ = some (.int .i64 a) := HBX.out.now.cell 0; have q1 : w11.cell? ⟨w.heap.size, 1, none⟩ = some (.int .i64 b) := HBX.out.now.cell 1)))
  rcases hzz with ⟨rfl, rfl, hle⟩ | hzn
  · have hq1 : ((ps.length : Int) != (ps.length : Int)) = false := by simp
    have hq2 : decide ((X.length : Int) < (ps.length : Int)) = false := by rw [decide_eq_false_iff_not]; omega
    have hq3 : decide (X.length < ps.length) = false := by rw [decide_eq_false_iff_not]; omega
    have hq4 : ¬ X.length < ps.length := by omega
    clear hle
    go_wp2_with (first
      | (go_at_call 71; go_must (refine (HCU.out _ (HS.out.bel gr_lasts HB.out)).mono ?_; rintro e w12 ⟨B12, k12, rfl, hr12, hb⟩; have HR12 := hide hr12; replace HB := hide (Below.step HB.out hb); replace HBX := hide (HBX.out.step hb); replace HT := hide (HT.out.step hb); clear hb hr12; simp only []))
      | (go_at_call 74; go_must (refine (whole_base _ _).mono ?_; rintro e w13 ⟨rfl, hb⟩; have HR13 := hide (HR12.out.bel gr_lasts hb); replace HB := hide (Below.step HB.out hb); replace HBX := hide (HBX.out.step hb); replace HT := hide (HT.out.step hb); clear hb HR12; simp only []))
      | (go_at_call 70; go_must (refine (HM1.out _ _ _ HR13.out).mono ?_; rintro e w14 ⟨P14, k14, rfl, hp14, hb⟩; replace HB := hide (Below.step HB.out hb); replace HBX := hide (HBX.out.step hb); replace HT := hide (HT.out.step hb); clear hb hp14; simp only [])))
    go_ret
    exact ⟨by first | rfl | (simp; done) | (simp; omega), HB.out⟩
  · have hq1 : (Z == 0) = false := by rw [beq_eq_false_iff_ne]; exact hzn
    go_wp2_with (first
      | (go_at_call 71; go_must (refine (HCU.out _ (HS.out.bel gr_lasts HB.out)).mono ?_; rintro e w12 ⟨B12, k12, rfl, hr12, hb⟩; have HR12 := hide hr12; replace HB := hide (Below.step HB.out hb); replace HBX := hide (HBX.out.step hb); replace HT := hide (HT.out.step hb); clear hb hr12; simp only []))
      | (go_at_call 74; go_must (refine (whole_base _ _).mono ?_; rintro e w13 ⟨rfl, hb⟩; have HR13 := hide (HR12.out.bel gr_lasts hb); replace HB := hide (Below.step HB.out hb); replace HBX := hide (HBX.out.step hb); replace HT := hide (HT.out.step hb); clear hb HR12; simp only []))
      | (go_at_call 70; go_must (refine (HM1.out _ _ _ HR13.out).mono ?_; rintro e w14 ⟨P14, k14, rfl, hp14, hb⟩; replace HB := hide (Below.step HB.out hb); replace HBX := hide (HBX.out.step hb); replace HT := hide (HT.out.step hb); clear hb hp14; simp only [])))
    go_ret
    exact ⟨by first | rfl | (simp; done) | (simp; omega), HB.out⟩
theorem BeamNoMorePairs_law (A : Option Addr) (c : Nat) (us : List (List (Int × Int))) (a b : Int) (PA : Option Addr) (pc : Nat) (ps : List (Int × Int)) (w : World) (hs : RowsAt GR w A us) (wa : (Lit.int .i64 a).wf = true) (wb : (Lit.int .i64 b).wf = true) (hp : Sl w PA (gv ps)) (hwf : ∀ p ∈ ps, (Lit.int .i64 p.1).wf = true ∧ (Lit.int .i64 p.2).wf = true) :
    Calls Try.prog 13 #[.slice A us.length c, .agg #[.int .i64 a, .int .i64 b], .slice PA ps.length pc] w fun e w' => e = .returned (.bool true) ∧ Below w.heap.size w w' := by
  have ra := bounds_i64 wa
  have rb := bounds_i64 wb
  by_cases h : fewB us = false ∨ 8 < ps.length ∨ usersE us ≠ 0 ∨ mostE a b ≠ 0
  · exact BeamNoMorePairs_out A c us a b PA pc _ w hs ra.1 ra.2 rb.2 h
  · rw [not_or, not_or, not_or] at h
    exact BeamNoMorePairs_ok A c us a b PA pc ps w hs hp hwf (by cases q : fewB us; exact absurd q h.1; rfl) (by omega) (by have := h.2.2.1; omega) (by have := h.2.2.2; omega)
end Go.Proofs.Ytamkannjdbodpaa

namespace Go.Proofs.Ytamkannjdbodpaa
open Go.ChangeShapes Go.WideShapes Go.ChangeAt Go.RowKit
set_option linter.unusedVariables false

set_option maxRecDepth 100000 in
theorem beamNoMorePairs_lifted (os : Os) (started : os.Started) (H : Type) (enc : TypeId × Value → H) :
    ReturnsInHanded {} Try.checked os 13 .any (Rows.beamNoMorePairsSpec.pre6 enc Try.prog Try.f13 Rows.beamNoMorePairsRow.domain false) (Rows.beamNoMorePairsSpec.post enc Try.prog Try.f13 false true false false) := by
  refine returnsInHanded_of_change (C := Try.checked) own started (by kernel_rfl) Try.func13
    (ChangeSpec.witness6 (enc := enc) (C := Try.checked) false ⟨#[], #[.slice none 0 0, .agg #[.int .i64 0, .int .i64 0], .slice none 0 0], []⟩ 8 (by kernel_rfl) (by kernel_rfl) (by kernel_rfl) (by kernel_rfl)) ?_
  intro W base args ds gs before hval0 hW hcnd _
  have hval : ∀ (j : Nat) t v, Try.f13.params[j]? = some t → args[j]? = some v → Value.okWide Try.prog W .any base t v := hval0
  have hW' := hW
  obtain ⟨p, q, hA0, hV, rfl, hfz, hnd⟩ := hW
  have hA : DataW.TrodAll enc Try.prog W 0 (fun _ => true) true Try.f13.params.toList args.toList ds p := hA0
  rw [Try.params13] at hA hval
  obtain ⟨v0, vs0, d0, ds0, p0, q0, hargs, rfl, rfl, h0, r0⟩ := trodAll_cons hA
  obtain ⟨v1, vs1, d1, ds1, p1, q1, rfl, rfl, rfl, h1, r1⟩ := trodAll_cons r0
  obtain ⟨v2, vs2, d2, ds2, p2, q2, rfl, rfl, rfl, h2, r2⟩ := trodAll_cons r1
  obtain ⟨rfl, rfl, rfl⟩ := trodAll_nil r2
  obtain rfl : args = #[v0, v1, v2] := by cases args; simp_all
  obtain ⟨rfl, rfl⟩ := trodVars_none hV
  have k0 := h0
  have lt0 : ∀ x ∈ p0, x.block < W.heap.size := by obtain ⟨m, hm⟩ := k0; exact DataW.trod_lt m _ _ _ hm
  obtain ⟨A0, c0, l0, rfl, hs0⟩ := open_users (hval 0 100 v0 rfl rfl) h0
  have k1 := h1
  have lt1 : ∀ x ∈ p1, x.block < W.heap.size := by obtain ⟨m, hm⟩ := k1; exact DataW.trod_lt m _ _ _ hm
  obtain ⟨a1, b1, rfl, wa1, wb1⟩ := open_two Try.underlying86 (by kernel_rfl) Try.underlying3 Try.underlying3 rfl rfl int_one int_one (hval 1 86 v1 rfl rfl) h1
  have k2 := h2
  have lt2 : ∀ x ∈ p2, x.block < W.heap.size := by obtain ⟨m, hm⟩ := k2; exact DataW.trod_lt m _ _ _ hm
  obtain ⟨A2, c2, l2, rfl, hs2, hw2⟩ := open_pairs (hval 2 101 v2 rfl rfl) h2
  clear hA0 hval0
  refine (BeamNoMorePairs_law A0 c0 l0 a1 b1 A2 c2 l2 W hs0 wa1 wb1 hs2 hw2).mono fun e W' ⟨he, bel⟩ => ?_
  subst he
  exact ⟨_, rfl, _, _, _, [], _, [], hW', trodAll_mk1 (shut_bool Try.underlying4 _), (trodAll_cons_mk (Below.trod laidOut (by kernel_rfl) (of_decide_eq_true (by kernel_rfl)) k0 bel lt0) (trodAll_cons_mk (Below.trod laidOut (by kernel_rfl) (of_decide_eq_true (by kernel_rfl)) k1 bel lt1) (trodAll_cons_mk (Below.trod laidOut (by kernel_rfl) (of_decide_eq_true (by kernel_rfl)) k2 bel lt2) trodAll_mk0))), rfl, bel.frame _, fun h => by cases h⟩

theorem beamNoMorePairs_holds : Rows.BeamNoMorePairsSaid :=
  OpenClaim.holds_of_wide 13 Try.f13 rfl rfl rfl rfl rfl rfl rfl ⟨rfl, rfl, rfl, rfl, rfl⟩ rfl rfl rfl rfl rfl (by kernel_rfl) Try.func13 (by kernel_rfl)
    (of_decide_eq_true (by kernel_rfl)) (by unfold Func.isWrapper; first | (rw [if_pos (by decide +kernel)]; kernel_rfl) | (rw [if_neg (by decide +kernel)]; exact ⟨rfl, rfl⟩))
    (fun os started H enc _ => beamNoMorePairs_lifted os started H enc)
#print axioms beamNoMorePairs_holds
end Go.Proofs.Ytamkannjdbodpaa
