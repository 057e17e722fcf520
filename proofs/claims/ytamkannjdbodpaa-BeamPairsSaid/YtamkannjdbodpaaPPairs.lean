/- Whether two users may share, as many pairs as possible, and which pairs are accepted, or the errors, are as specified: for every list of users, every fraction and every list of pairs. No condition. -/
import Derived.Test.YtamkannjdbodpaaMem2
import Derived.Test.YtamkannjdbodpaaRows
import Derived.WalkKit
import Derived.ProofKit
import Derived.OpenShut
import Derived.ShutString
import Derived.ChangeOld
import Derived.Below
import Derived.Lib.SmallJoins
import Derived.Test.YtamkannjdbodpaaChB
import Derived.Deep.SlicePairs
import Derived.Test.YtamkannjdbodpaaUsrO
import Derived.Test.YtamkannjdbodpaaPairsW
namespace Go.Proofs.Ytamkannjdbodpaa
open Go.ChangeShapes Go.WideShapes Go.ChangeAt Go.RowKit

theorem own : ownKnob Try.prog.godebug = none := by kernel_rfl
theorem laidOut : laidOutB Try.prog = true := by kernel_rfl

theorem array1 {α : Type} {cs : Array α} (h : cs.size = 1) : ∃ c0, cs = #[c0] := by
  obtain ⟨l⟩ := cs
  match l, h with
  | [c0], _ => exact ⟨c0, rfl⟩

theorem add_off (b off k : Nat) : (⟨b, off, none⟩ : Addr).add k = ⟨b, off + k, none⟩ := by
  by_cases h : k = 0
  · subst h; simp [Addr.add]
  · simp [Addr.add, h]

section
variable {H : Type} {enc : TypeId × Value → H} {W : World} {base : Nat} {sp : Nat → Bool} {hd : Bool}

/-- a slice of int, by its cells -/
theorem open_sl {t e : TypeId} {fuel : Nat} {v : Value} {x : DataW H × List MemPlace} (ht : Try.prog.underlying t = some (.slice e)) (he : Try.prog.underlying e = some (.int .i64)) (hc : Try.prog.cellsOf e = 1)
    (h : DataW.trod enc Try.prog W base sp hd fuel t [v] = some x) : ∃ A c l, v = .slice A l.length c ∧ Sl W A (iv l) ∧ ∀ n ∈ l, (Lit.int .i64 n).wf = true := by
  rcases open_ints ht he hc h with ⟨hcs, _⟩ | ⟨a, len, cap, zs, hcs, _, hl, hm, hz, _, hcell, hwz⟩
  · injection hcs with hcs _
    subst hcs
    exact ⟨none, 0, [], rfl, fun k hk => absurd hk (by simp [iv]), by simp⟩
  · injection hcs with hcs _
    subst hcs
    have hlen : len ≤ zs.length := by rw [hz]; split <;> omega
    have ht : (zs.take len).length = len := by rw [List.length_take]; omega
    refine ⟨some a, cap, zs.take len, by rw [ht], ?_, fun n hn => hwz n (List.mem_of_mem_take hn)⟩
    intro k hk
    have hk' : k < len := by rw [iv, List.length_map, ht] at hk; exact hk
    obtain ⟨b, off, spot⟩ := a
    have hc0 := hcell 0 (by omega)
    have hspot : spot = none := by simpa [Addr.add] using World.cell?_spot hc0
    subst hspot
    have hc := hcell k (by omega)
    refine ⟨b, off, rfl, ?_⟩
    have e1 := add_off b off k
    rw [e1] at hc
    rw [hc]
    have hkz : k < zs.length := by omega
    simp [iv, List.getD_eq_getElem?_getD, List.getElem?_eq_getElem hkz]
end
theorem int_one : Try.prog.cellsOf 3 = 1 := by kernel_rfl
theorem ints_one : Try.prog.cellsOf 22 = 1 := by kernel_rfl
theorem beam_one : Try.prog.cellsOf 24 = 1 := by kernel_rfl

set_option maxRecDepth 100000 in
/-- a beam as it comes in: a slice that reads as a list -/
theorem open_beam {H : Type} {enc : TypeId × Value → H} {W : World} {b0 base : Nat} {sp : Nat → Bool} {hd : Bool} {r : Reach} {v : Value} {d : DataW H} {p : List MemPlace}
    (hv : Value.okWide Try.prog W r b0 24 v) (h : DataW.Trod enc Try.prog W base sp hd 24 v d p) :
    ∃ A c l, v = .agg #[.slice A l.length c] ∧ Sl W A (iv l) ∧ ∀ n ∈ l, (Lit.int .i64 n).wf = true := by
  obtain ⟨cs, rfl, hsz⟩ := okWide_struct Try.underlying24 hv
  obtain ⟨c0, rfl⟩ := array1 (hsz.trans beam_one)
  obtain ⟨fuel, hf⟩ := h
  obtain ⟨y0, n, _, _, h0⟩ := trod_struct1 Try.underlying24 hf
  obtain ⟨A, c, l, rfl, hs, hw⟩ := open_sl Try.underlying22 Try.underlying3 int_one (by simpa [Value.cells, ints_one] using h0)
  exact ⟨A, c, l, rfl, hs, hw⟩
end Go.Proofs.Ytamkannjdbodpaa

namespace Go.Proofs.Ytamkannjdbodpaa
open Go.ChangeShapes Go.WideShapes Go.ChangeAt Go.RowKit

theorem array2 {α : Type} {cs : Array α} (h : cs.size = 2) : ∃ c0 c1, cs = #[c0, c1] := by
  obtain ⟨l⟩ := cs
  match l, h with
  | [c0, c1], _ => exact ⟨c0, c1, rfl⟩
theorem array3 {α : Type} {cs : Array α} (h : cs.size = 3) : ∃ c0 c1 c2, cs = #[c0, c1, c2] := by
  obtain ⟨l⟩ := cs
  match l, h with
  | [c0, c1, c2], _ => exact ⟨c0, c1, c2, rfl⟩

section
variable {H : Type} {enc : TypeId × Value → H} {W : World} {b0 base : Nat} {sp : Nat → Bool} {hd : Bool} {r : Reach} {v : Value} {d : DataW H} {p : List MemPlace}

set_option maxRecDepth 100000 in
/-- a struct of two ints as it comes in -/
theorem open_two {t : TypeId} {f0 f1 : Field} (ht : Try.prog.underlying t = some (.struct #[f0, f1])) (hc : Try.prog.cellsOf t = 2) (h0 : Try.prog.underlying f0.type = some (.int .i64)) (h1 : Try.prog.underlying f1.type = some (.int .i64))
    (o0 : f0.offset = 0) (o1 : f1.offset = 1) (s0 : Try.prog.cellsOf f0.type = 1) (s1 : Try.prog.cellsOf f1.type = 1)
    (hv : Value.okWide Try.prog W r b0 t v) (h : DataW.Trod enc Try.prog W base sp hd t v d p) :
    ∃ a b, v = .agg #[.int .i64 a, .int .i64 b] ∧ (Lit.int .i64 a).wf = true ∧ (Lit.int .i64 b).wf = true := by
  obtain ⟨cs, rfl, hsz⟩ := okWide_struct ht hv
  obtain ⟨c0, c1, rfl⟩ := array2 (hsz.trans hc)
  obtain ⟨fuel, hf⟩ := h
  obtain ⟨y0, y1, n, _, _, g0, g1⟩ := trod_struct2 ht hf
  obtain ⟨a, e0, _, w0⟩ := DataW.trod_int h0 g0
  obtain ⟨b, e1, _, w1⟩ := DataW.trod_int h1 g1
  rw [o0, s0] at e0
  rw [o1, s1] at e1
  simp [Value.cells] at e0 e1
  subst e0 e1
  exact ⟨a, b, rfl, w0, w1⟩

theorem trod_struct3 {t : TypeId} {f0 f1 f2 : Field} {fuel : Nat} {cs : List Value} {x : DataW H × List MemPlace} (ht : Try.prog.underlying t = some (.struct #[f0, f1, f2])) (h : DataW.trod enc Try.prog W base sp hd fuel t cs = some x) :
    ∃ y0 y1 y2 n, DataW.trod enc Try.prog W base sp hd n f0.type ((cs.drop f0.offset).take (Try.prog.cellsOf f0.type)) = some y0 ∧
      DataW.trod enc Try.prog W base sp hd n f1.type ((cs.drop f1.offset).take (Try.prog.cellsOf f1.type)) = some y1 ∧ DataW.trod enc Try.prog W base sp hd n f2.type ((cs.drop f2.offset).take (Try.prog.cellsOf f2.type)) = some y2 := by
  obtain ⟨xs, n, _, rfl, hl, hlen, hf⟩ := DataW.trod_struct ht h
  match xs, hlen with
  | [y0, y1, y2], _ => exact ⟨y0, y1, y2, n, by simpa using hf 0 f0 rfl, by simpa using hf 1 f1 rfl, by simpa using hf 2 f2 rfl⟩

set_option maxRecDepth 100000 in
/-- a struct of three ints as it comes in -/
theorem open_three {t : TypeId} {f0 f1 f2 : Field} (ht : Try.prog.underlying t = some (.struct #[f0, f1, f2])) (hc : Try.prog.cellsOf t = 3) (h0 : Try.prog.underlying f0.type = some (.int .i64)) (h1 : Try.prog.underlying f1.type = some (.int .i64)) (h2 : Try.prog.underlying f2.type = some (.int .i64))
    (o0 : f0.offset = 0) (o1 : f1.offset = 1) (o2 : f2.offset = 2) (s0 : Try.prog.cellsOf f0.type = 1) (s1 : Try.prog.cellsOf f1.type = 1) (s2 : Try.prog.cellsOf f2.type = 1)
    (hv : Value.okWide Try.prog W r b0 t v) (h : DataW.Trod enc Try.prog W base sp hd t v d p) :
    ∃ a b c, v = .agg #[.int .i64 a, .int .i64 b, .int .i64 c] ∧ (Lit.int .i64 a).wf = true ∧ (Lit.int .i64 b).wf = true ∧ (Lit.int .i64 c).wf = true := by
  obtain ⟨cs, rfl, hsz⟩ := okWide_struct ht hv
  obtain ⟨c0, c1, c2, rfl⟩ := array3 (hsz.trans hc)
  obtain ⟨fuel, hf⟩ := h
  obtain ⟨y0, y1, y2, n, g0, g1, g2⟩ := trod_struct3 ht hf
  obtain ⟨a, e0, _, w0⟩ := DataW.trod_int h0 g0
  obtain ⟨b, e1, _, w1⟩ := DataW.trod_int h1 g1
  obtain ⟨c, e2, _, w2⟩ := DataW.trod_int h2 g2
  rw [o0, s0] at e0
  rw [o1, s1] at e1
  rw [o2, s2] at e2
  simp [Value.cells] at e0 e1 e2
  subst e0 e1 e2
  exact ⟨a, b, c, rfl, w0, w1, w2⟩

set_option maxRecDepth 100000 in
/-- a slice of int as it comes in -/
theorem open_list {t e : TypeId} (ht : Try.prog.underlying t = some (.slice e)) (he : Try.prog.underlying e = some (.int .i64)) (hc : Try.prog.cellsOf e = 1)
    (hv : Value.okWide Try.prog W r b0 t v) (h : DataW.Trod enc Try.prog W base sp hd t v d p) : ∃ A c l, v = .slice A l.length c ∧ Sl W A (iv l) ∧ ∀ n ∈ l, (Lit.int .i64 n).wf = true := by
  obtain ⟨A, n, c, rfl⟩ := okWide_slice ht hv
  obtain ⟨fuel, hf⟩ := h
  obtain ⟨A', c', l, e, hs, hw⟩ := open_sl ht he hc (by simpa [Value.cells] using hf)
  exact ⟨A', c', l, e, hs, hw⟩
end
end Go.Proofs.Ytamkannjdbodpaa

namespace Go.Proofs.Ytamkannjdbodpaa
open Go.ChangeShapes Go.WideShapes Go.ChangeAt Go.RowKit Go.Deep

section
variable {H : Type} {enc : TypeId × Value → H} {W : World} {b0 base : Nat} {sp : Nat → Bool} {hd : Bool} {r : Reach} {v : Value}

theorem sl_pairs {b off len : Nat} (f : Nat → Int × Int) (h0 : ∀ i, i < len → W.cell? ⟨b, off + i * 2, none⟩ = some (.int .i64 (f i).1)) (h1 : ∀ i, i < len → W.cell? ⟨b, off + i * 2 + 1, none⟩ = some (.int .i64 (f i).2)) :
    Sl W (some ⟨b, off, none⟩) (gv ((List.range len).map f)) := by
  intro k hk
  have hl : ((List.range len).map f).length = len := by simp
  have hk2 : k < len * 2 := by rw [gv_len, hl] at hk; exact hk
  obtain ⟨g0, g1⟩ := gv_at ((List.range len).map f) (k / 2) (by rw [hl]; omega)
  have hq : ((List.range len).map f)[k / 2]'(by rw [hl]; omega) = f (k / 2) := by simp
  rw [hq] at g0 g1
  refine ⟨b, off, rfl, ?_⟩
  rcases Nat.mod_two_eq_zero_or_one k with hm | hm
  · have e : k / 2 * 2 = k := by omega
    have c := h0 (k / 2) (by omega)
    rw [e] at g0 c
    rw [List.getElem?_eq_getElem hk] at g0
    rw [c]; exact g0.symm
  · have e : k / 2 * 2 + 1 = k := by omega
    have c := h1 (k / 2) (by omega)
    rw [Nat.add_assoc, e] at c
    rw [e] at g1
    rw [List.getElem?_eq_getElem hk] at g1
    rw [c]; exact g1.symm
/-- a slice of structs of two ints, by its cells -/
theorem open_gl {t e : TypeId} {f0 f1 : Field} {fuel : Nat} {x : DataW H × List MemPlace} (ht : Try.prog.underlying t = some (.slice e)) (he : Try.prog.underlying e = some (.struct #[f0, f1]))
    (ce : Try.prog.cellsOf e = 2) (o0 : f0.offset = 0) (o1 : f1.offset = 1) (c0 : Try.prog.cellsOf f0.type = 1) (c1 : Try.prog.cellsOf f1.type = 1) (u0 : Try.prog.underlying f0.type = some (.int .i64)) (u1 : Try.prog.underlying f1.type = some (.int .i64))
    (h : DataW.trod enc Try.prog W base sp hd fuel t [v] = some x) : ∃ A c l, v = .slice A l.length c ∧ Sl W A (gv l) ∧ ∀ z ∈ l, (Lit.int .i64 z.1).wf = true ∧ (Lit.int .i64 z.2).wf = true := by
  rcases open_slice_pairs ht he ce o0 o1 c0 c1 h with ⟨hcs, _⟩ | ⟨a, len, cap, m, n, V0, V1, D0, D1, P0, P1, hcs, _, hl, _, hm, _, hx⟩
  · injection hcs with hcs _
    subst hcs
    exact ⟨none, 0, [], rfl, fun k hk => absurd hk (by simp [gv]), by simp⟩
  · injection hcs with hcs _
    subst hcs
    have hlm : len ≤ m := by rw [hm]; split <;> omega
    obtain ⟨f, hf⟩ := choose_lt (α := Int × Int) (n := len) (p := fun i z => V0 i = .int .i64 z.1 ∧ V1 i = .int .i64 z.2 ∧ (Lit.int .i64 z.1).wf = true ∧ (Lit.int .i64 z.2).wf = true) (fun i hi => by
      obtain ⟨_, _, g0, g1⟩ := hx i (by omega)
      obtain ⟨z0, e0, _, w0⟩ := DataW.trod_int u0 g0
      obtain ⟨z1, e1, _, w1⟩ := DataW.trod_int u1 g1
      injection e0 with e0 _
      injection e1 with e1 _
      exact ⟨(z0, z1), e0, e1, w0, w1⟩)
    refine ⟨some a, cap, (List.range len).map f, by simp, ?_, fun z hz => ?_⟩
    · rcases Nat.eq_zero_or_pos len with q | q
      · subst q; intro k hk; exact absurd hk (by simp [gv])
      · obtain ⟨b, off, spot⟩ := a
        have hspot : spot = none := by
          have := (hx 0 (by omega)).1
          simpa [Addr.add] using World.cell?_spot this
        subst hspot
        refine sl_pairs f (fun i hi => ?_) (fun i hi => ?_)
        · have := (hx i (by omega)).1
          rw [add_off, (hf i hi).1] at this
          exact this
        · have := (hx i (by omega)).2.1
          rw [add_off, (hf i hi).2.1] at this
          rw [Nat.add_assoc]; exact this
    · obtain ⟨i, hi, rfl⟩ := List.mem_map.1 hz
      exact (hf i (List.mem_range.1 hi)).2.2
set_option maxRecDepth 100000 in
/-- a channel as it comes in -/
theorem open_gs {d : DataW H} {p : List MemPlace} (hv : Value.okWide Try.prog W r b0 80 v) (h : DataW.Trod enc Try.prog W base sp hd 80 v d p) :
    ∃ A c l, v = .slice A l.length c ∧ Sl W A (gv l) ∧ ∀ z ∈ l, (Lit.int .i64 z.1).wf = true ∧ (Lit.int .i64 z.2).wf = true := by
  obtain ⟨A, n, c, rfl⟩ := okWide_slice Try.underlying80 hv
  obtain ⟨fuel, hf⟩ := h
  obtain ⟨A', c', l, e, hs, hw⟩ := open_gl Try.underlying80 Try.underlying90 (by kernel_rfl) rfl rfl int_one int_one Try.underlying3 Try.underlying3 (by simpa [Value.cells] using hf)
  exact ⟨A', c', l, e, hs, hw⟩
end
end Go.Proofs.Ytamkannjdbodpaa

namespace Go.Proofs.Ytamkannjdbodpaa
open Go.ChangeShapes Go.WideShapes Go.ChangeAt Go.RowKit Go.Deep

section
variable {H : Type} {enc : TypeId × Value → H} {W : World} {b0 base : Nat} {sp : Nat → Bool} {hd : Bool} {r : Reach} {v : Value}

set_option maxRecDepth 100000 in
/-- users as they come in -/
theorem open_users {d : DataW H} {p : List MemPlace} (hv : Value.okWide Try.prog W r b0 100 v) (h : DataW.Trod enc Try.prog W base sp hd 100 v d p) :
    ∃ A c us, v = .slice A us.length c ∧ RowsAt GR W A us := by
  obtain ⟨A, n, c, rfl⟩ := okWide_slice Try.underlying100 hv
  obtain ⟨fuel, hf⟩ := h
  have hf' : DataW.trod enc Try.prog W base sp hd fuel 100 [.slice A n c] = some (d, p) := by simpa [Value.cells] using hf
  rcases open_slice1 Try.underlying100 (by kernel_rfl) hf' with ⟨hcs, _⟩ | ⟨a, len, cap, m, k, V, D, Pl, hcs, _, hl, _, hm, _, hx⟩
  · injection hcs with hcs _
    injection hcs with h1 h2 h3
    subst h1 h2 h3
    exact ⟨none, 0, [], rfl, [], fun k hk => absurd hk (by simp), rfl, fun k hk => absurd hk (by simp)⟩
  · injection hcs with hcs _
    injection hcs with h1 h2 h3
    subst h1 h2 h3
    have hlm : n ≤ m := by rw [hm]; split <;> omega
    obtain ⟨f, hfx⟩ := choose_lt (α := Option Addr × Nat × List (Int × Int)) (n := n) (p := fun i y => V i = .slice y.1 y.2.2.length y.2.1 ∧ Sl W y.1 (gv y.2.2)) (fun i hi => by
      obtain ⟨_, g1⟩ := hx i (by omega)
      obtain ⟨B, q, l, e1, e2, _⟩ := open_gl Try.underlying80 Try.underlying90 (by kernel_rfl) rfl rfl int_one int_one Try.underlying3 Try.underlying3 g1
      exact ⟨(B, q, l), e1, e2⟩)
    refine ⟨some a, c, (List.range n).map (fun i => (f i).2.2), by simp, (List.range n).map V, ?_, by simp, fun k hk => ?_⟩
    · intro k hk
      have hk' : k < n := by simpa using hk
      obtain ⟨b, off, spot⟩ := a
      have hspot : spot = none := by
        have := (hx 0 (by omega)).1
        simpa [Addr.add] using World.cell?_spot this
      subst hspot
      refine ⟨b, off, rfl, ?_⟩
      have e1 := (hx k (by omega)).1
      rw [add_off] at e1
      rw [e1]
      simp
    · have hk' : k < n := by simpa using hk
      obtain ⟨e1, e2⟩ := hfx k hk'
      exact ⟨(f k).1, (f k).2.1, by simp [hk', e1], by simpa [GR] using e2⟩
set_option maxRecDepth 100000 in
/-- pairs as they come in -/
theorem open_pairs {d : DataW H} {p : List MemPlace} (hv : Value.okWide Try.prog W r b0 101 v) (h : DataW.Trod enc Try.prog W base sp hd 101 v d p) :
    ∃ A c l, v = .slice A l.length c ∧ Sl W A (gv l) ∧ ∀ z ∈ l, (Lit.int .i64 z.1).wf = true ∧ (Lit.int .i64 z.2).wf = true := by
  have ce : Try.prog.cellsOf 183 = 2 := by kernel_rfl
  obtain ⟨A, n, c, rfl⟩ := okWide_slice Try.underlying101 hv
  obtain ⟨fuel, hf⟩ := h
  have hf' : DataW.trod enc Try.prog W base sp hd fuel 101 [.slice A n c] = some (d, p) := by simpa [Value.cells] using hf
  rcases open_slice Try.underlying101 hf' with ⟨hcs, _⟩ | ⟨a, len, cap, m, k, D, Pl, hcs, _, hl, _, hm, _, hx⟩
  · injection hcs with hcs _
    injection hcs with h1 h2 h3
    subst h1 h2 h3
    exact ⟨none, 0, [], rfl, fun k hk => absurd hk (by simp [gv]), by simp⟩
  · injection hcs with hcs _
    injection hcs with h1 h2 h3
    subst h1 h2 h3
    have hlm : n ≤ m := by rw [hm]; split <;> omega
    obtain ⟨f, hfx⟩ := choose_lt (α := Int × Int) (n := n) (p := fun i z => W.cell? (a.add (i * 2)) = some (.int .i64 z.1) ∧ W.cell? (a.add (i * 2 + 1)) = some (.int .i64 z.2) ∧ (Lit.int .i64 z.1).wf = true ∧ (Lit.int .i64 z.2).wf = true) (fun i hi => by
      obtain ⟨cs', h1, h2⟩ := hx i (by omega)
      rw [ce] at h1
      obtain ⟨_, hlen, hcell⟩ := World.cells?_some h1
      obtain ⟨xs, q, _, _, _, hxl, hf2⟩ := DataW.trod_array Try.underlying183 h2
      match xs, hxl, cs', hlen with
      | [y0, y1], _, [v0, v1], _ =>
        have g0 := hf2 0 (by omega)
        have g1 := hf2 1 (by omega)
        rw [int_one] at g0 g1
        simp at g0 g1
        obtain ⟨z0, e0, _, w0⟩ := DataW.trod_int Try.underlying3 g0
        obtain ⟨z1, e1, _, w1⟩ := DataW.trod_int Try.underlying3 g1
        injection e0 with e0 _
        injection e1 with e1 _
        subst e0 e1
        have c0 := hcell 0 (by omega)
        have c1 := hcell 1 (by omega)
        rw [Go.Deep.add_add] at c0 c1
        exact ⟨(z0, z1), by simpa using c0, by simpa using c1, w0, w1⟩)
    refine ⟨some a, c, (List.range n).map f, by simp, ?_, fun z hz => ?_⟩
    · rcases Nat.eq_zero_or_pos n with q | q
      · subst q; intro k hk; exact absurd hk (by simp [gv])
      · obtain ⟨b, off, spot⟩ := a
        have hspot : spot = none := by
          have := (hfx 0 q).1
          simpa [Addr.add] using World.cell?_spot this
        subst hspot
        refine sl_pairs f (fun i hi => ?_) (fun i hi => ?_)
        · have := (hfx i hi).1
          rw [add_off] at this
          exact this
        · have := (hfx i hi).2.1
          rw [add_off] at this
          rw [Nat.add_assoc]; exact this
    · obtain ⟨i, hi, rfl⟩ := List.mem_map.1 hz
      exact (hfx i (List.mem_range.1 hi)).2.2
end
end Go.Proofs.Ytamkannjdbodpaa

namespace Go.Proofs.Ytamkannjdbodpaa
open Go.RowKit Go.WideShapes Go.ChangeShapes

set_option maxRecDepth 100000 in
theorem BeamPairs_out (A : Option Addr) (c : Nat) (us : List (List (Int × Int))) (a b : Int) (PA : Option Addr) (pc m : Nat) (w : World) (hs : RowsAt GR w A us) (h : fewB us = false ∨ 8 < m) :
    Calls Try.prog 14 #[.slice A us.length c, .agg #[.int .i64 a, .int .i64 b], .slice PA m pc] w fun e w' => e = .returned (.bool true) ∧ Below w.heap.size w w' := by
  have HF := hide (fun W k => users_law A c us W k)
  have HS := hide hs; clear hs
  have HB := hide ((Below.refl w.heap.size w).alloc (Nat.le_refl _) (.cells #[.int .i64 a, .int .i64 b] 86))
  cases hf : fewB us
  · rw [hf] at HF
    clear h hf
    go_enter Try.func14, Try.ntmps14
    go_wp2_with (first
      | (go_at_call 18; go_must (refine (awake_ok _).mono ?_; rintro e w1 ⟨rfl, hb⟩; replace HB := hide (Below.step HB.out hb); clear hb; simp only []))
      | (go_at_call 67; go_must (refine (HF.out _ (HS.out.bel gr_lasts HB.out)).mono ?_; rintro e w' ⟨rfl, rfl⟩; simp only [])))
    go_ret
    exact ⟨rfl, HB.out⟩
  · rw [hf] at HF
    have hm : 8 < m := by
      rcases h with h | h
      · exact absurd (hf.symm.trans h) (by decide)
      · exact h
    have hmi : (8 : Int) < (m : Int) := by omega
    clear h hf
    go_enter Try.func14, Try.ntmps14
    go_wp2_with (first
      | (go_at_call 18; go_must (refine (awake_ok _).mono ?_; rintro e w1 ⟨rfl, hb⟩; replace HB := hide (Below.step HB.out hb); clear hb; simp only []))
      | (go_at_call 67; go_must (refine (HF.out _ (HS.out.bel gr_lasts HB.out)).mono ?_; rintro e w' ⟨rfl, rfl⟩; simp only [])))
    go_ret
    exact ⟨rfl, HB.out⟩

theorem neB {x : Int} (h : x ≠ 0) : (x != 0) = true ∧ (x == 0) = false := ⟨by rw [bne_iff_ne]; exact h, by rw [beq_eq_false_iff_ne]; exact h⟩
theorem firstOf_l {x y : Int} (h : x ≠ 0) : firstOf [x, y] = x := by unfold firstOf; rw [if_neg h]
theorem firstOf_r {y : Int} : firstOf [0, y] = y := by
  unfold firstOf firstOf firstOf
  by_cases h : y = 0
  · rw [h]; rfl
  · simp [h]

set_option maxRecDepth 100000 in
set_option maxHeartbeats 2000000 in
theorem BeamPairs_law (A : Option Addr) (c : Nat) (us : List (List (Int × Int))) (a b : Int) (PA : Option Addr) (pc : Nat) (ps : List (Int × Int)) (w : World) (hs : RowsAt GR w A us) (wa : (Lit.int .i64 a).wf = true) (wb : (Lit.int .i64 b).wf = true) (hp : Sl w PA (gv ps)) (hwf : ∀ p ∈ ps, (Lit.int .i64 p.1).wf = true ∧ (Lit.int .i64 p.2).wf = true) :
    Calls Try.prog 14 #[.slice A us.length c, .agg #[.int .i64 a, .int .i64 b], .slice PA ps.length pc] w fun e w' => e = .returned (.bool true) ∧ Below w.heap.size w w' := by
  have ra := bounds_i64 wa
  have rb := bounds_i64 wb
  by_cases hfo : fewB us = false ∨ 8 < ps.length
  · exact BeamPairs_out A c us a b PA pc _ w hs hfo
  rw [not_or] at hfo
  have hf : fewB us = true := by cases q : fewB us; exact absurd q hfo.1; rfl
  have hm8 : ps.length ≤ 8 := by omega
  have hf' := hf
  unfold fewB at hf'
  simp only [Bool.and_eq_true, Bool.not_eq_true', decide_eq_true_eq, decide_eq_false_iff_not, List.all_eq_true] at hf'
  obtain ⟨⟨_, hn8⟩, hten⟩ := hf'
  have hl : ∀ u ∈ us, u.length ≤ 100 := fun u hmem => by have := hten u hmem; omega
  have HF : ∀ A, Hid (∀ W, RowsAt GR W A us → Calls Try.prog 67 #[.slice A us.length c] W fun e w' => e = .returned (.bool true) ∧ W = w') := fun A => hide (fun W k => by have := users_law A c us W k; rwa [hf] at this)
  have HCU := fun A => hide (fun W k => copyUsers_ref A c us W k hl (by omega))
  have HCPA := hide (fun W k => copyPairs_ref PA pc ps.length ps W rfl k (by omega))
  have HU := fun A => hide (fun W k => usersErr_ref A c us W k)
  have HRM := hide (fun W => mostErr_ref a b W ra.1 ra.2 rb.2)
  have HMP := fun B d W k => mostPairs_beam B d us a b W k hl (by omega) ra.1 ra.2 rb.2
  have HCE := fun B d Q q W k (_ : Sl W Q (gv ps)) (h0 : firstOf [usersE us, mostE a b] ≠ 0) => checkPairs_err B d us a b Q q ps.length W k hl (by omega) ra.1 ra.2 rb.2 h0
  have HCO := fun (h0 : firstOf [usersE us, mostE a b] = 0) B d Q q W k kp => checkPairs_ok B d us a b Q q ps W k hl h0 kp hwf (by omega)
  have HRC := fun (h0 : firstOf [usersE us, mostE a b] = 0) A => hide (fun W k kp => checkPairs_ref A c us a b PA pc ps W k h0 kp (by omega))
  have HRP := fun (h0 : firstOf [usersE us, mostE a b] = 0) A => hide (fun W k => mostPairs_ref A c us a b W k h0)
  by_cases hn : us.length ≤ 1
  · have hn2 : ¬ (1 : Int) < (us.length : Int) := by omega
    by_cases hD : usersE us = 0
    · by_cases hM : mostE a b = 0
      · have h0 : firstOf [usersE us, mostE a b] = 0 := by rw [hD, hM]; rfl
        have hX : mostL us a b = bestF (shU us a b) us.length 0 0 := if_pos h0
        rw [h0, hX] at HMP
        rw [hD] at HU
        rw [hM] at HRM
        exact pairs_A_0 A c us a b PA pc ps w hs hp us.length ps.length hm8 (bestF (shU us a b) us.length 0 0) _ _ hn2 (HF A) (HCU A) (hide HMP) HCPA (hide (HCO h0)) (HU A) HRM (HRC h0 A) (HRP h0 A)
          (hide (fun P Q k k' W x y => by
            have hbl := best_len (shU us a b) us.length 0 0
            have := samePairs_ref P Q k k' _ _ W x y (by omega) (by omega)
            rwa [show gEq (bestF (shU us a b) us.length 0 0) (bestF (shU us a b) us.length 0 0) = true by unfold gEq; exact decide_eq_true rfl] at this))
      · have h0 : firstOf [usersE us, mostE a b] = mostE a b := by rw [hD]; exact firstOf_r
        have hX : mostL us a b = [] := if_neg (by rw [h0]; exact hM)
        have h1 : firstOf [usersE us, mostE a b] ≠ 0 := by rw [h0]; exact hM
        have HCE1 := fun B d Q q W k kp => HCE B d Q q W k kp h1
        rw [h0] at HCE1
        rw [h0, hX] at HMP
        rw [hD] at HU
        exact pairs_A_M A c us a b PA pc ps w hs hp us.length ps.length hm8 (mostE a b) (neB hM).1 (neB hM).2 hn2 (HF A) (HCU A) (hide HMP) HCPA (hide HCE1) (HU A) HRM
    · have h0 : firstOf [usersE us, mostE a b] = usersE us := firstOf_l hD
      have h1 : firstOf [usersE us, mostE a b] ≠ 0 := by rw [h0]; exact hD
      have hX : mostL us a b = [] := if_neg h1
      have HCE1 := fun B d Q q W k kp => HCE B d Q q W k kp h1
      rw [h0] at HCE1
      rw [h0, hX] at HMP
      exact pairs_A_D A c us a b PA pc ps w hs hp us.length ps.length hm8 (usersE us) (mostE a b) (neB hD).1 (neB hD).2 hn2 (HF A) (HCU A) (hide HMP) HCPA (hide HCE1) (HU A) HRM
  · have hn2 : (1 : Int) < (us.length : Int) := by omega
    have h0l : 0 < us.length := by omega
    have h1l : 1 < us.length := by omega
    obtain ⟨bb, oo, B0, k0, hA0, r0, g0⟩ := hs.at_ h0l
    obtain ⟨bb', oo', B1, k1, hA1, r1, g1⟩ := hs.at_ h1l
    subst hA0
    injection hA1 with hA1
    injection hA1 with e1 e2
    subst e1 e2
    have l0 : us[0].length ≤ 100 := hl _ (List.getElem_mem h0l)
    have l1 : us[1].length ≤ 100 := hl _ (List.getElem_mem h1l)
    have hUT : usersE us = 0 → twoE us[0] us[1] = 0 := fun e => (usersE_ok e).2 0 1 h0l h1l
    obtain ⟨g, hg⟩ : ∃ g, us[0] = g := ⟨_, rfl⟩
    obtain ⟨h, hh⟩ : ∃ h, us[1] = h := ⟨_, rfl⟩
    rw [hg] at r0 g0 l0 hUT
    rw [hh] at r1 g1 l1 hUT
    have HC0 := hide (fun W (k : Sl W B0 (gv g)) => copyG_at B0 k0 g.length g W rfl k (by omega))
    have HC1 := hide (fun W (k : Sl W B1 (gv h)) => copyG_at B1 k1 h.length h W rfl k (by omega))
    have HTE := hide (fun W (x : Sl W B0 (gv g)) (y : Sl W B1 (gv h)) => twoErr_ref B0 B1 k0 k1 g h W x y)
    have HME := fun (hme0 : mayE g h a b ≠ 0) P Q k k' W (x : Sl W P (gv g)) (y : Sl W Q (gv h)) => mayShare_err P Q k k' g h a b W hme0 x y l0 l1 ra.1 ra.2 rb.2
    by_cases hT : twoE g h = 0
    · have hll : h.length = g.length := by obtain ⟨-, -, -, hq, -, -⟩ := twoE_ok hT; exact hq.symm
      rw [hT] at HTE
      by_cases hM : mostE a b = 0
      · have HMO := hide (fun P Q k k' W (x : Sl W P (gv g)) (y : Sl W Q (gv h)) => by have := mayShare_ok P Q k k' g.length g h a b W hT hM rfl hll x y; exact this)
        have HMR := hide (fun W (x : Sl W B0 (gv g)) (y : Sl W B1 (gv h)) => by have := mayShare_ref B0 B1 k0 k1 g.length g h a b W hT hM rfl hll x y; exact this)
        rw [hM] at HRM
        rw [hll] at HTE HC1 r1
        by_cases hD : usersE us = 0
        · have h0 : firstOf [usersE us, mostE a b] = 0 := by rw [hD, hM]; rfl
          have hX : mostL us a b = bestF (shU us a b) us.length 0 0 := if_pos h0
          rw [h0, hX] at HMP
          rw [hD] at HU
          exact pairs_C_0 bb oo B0 B1 k0 k1 g.length g.length g h c us a b PA pc ps w hs hp us.length ps.length hm8 (shB g h a b) (bestF (shU us a b) us.length 0 0) _ _ hn2 (HF _) (HCU _) (hide HMP) HCPA (hide (HCO h0)) (HU _) HRM r0 r1 g0 g1 HC0 HC1 HMO HTE HMR (HRC h0 _) (HRP h0 _)
            (hide (fun P Q k k' W x y => by
              have hbl := best_len (shU us a b) us.length 0 0
              have := samePairs_ref P Q k k' _ _ W x y (by omega) (by omega)
              rwa [show gEq (bestF (shU us a b) us.length 0 0) (bestF (shU us a b) us.length 0 0) = true by unfold gEq; exact decide_eq_true rfl] at this))
        · have h0 : firstOf [usersE us, mostE a b] = usersE us := firstOf_l hD
          have h1 : firstOf [usersE us, mostE a b] ≠ 0 := by rw [h0]; exact hD
          have hX : mostL us a b = [] := if_neg h1
          have HCE1 := fun B d Q q W k kp => HCE B d Q q W k kp h1
          rw [h0] at HCE1
          rw [h0, hX] at HMP
          exact pairs_C_D bb oo B0 B1 k0 k1 g.length g.length g h c us a b PA pc ps w hs hp us.length ps.length hm8 (usersE us) (shB g h a b) (neB hD).1 (neB hD).2 hn2 (HF _) (HCU _) (hide HMP) HCPA (hide HCE1) (HU _) HRM r0 r1 g0 g1 HC0 HC1 HMO HTE HMR
      · have hme : mayE g h a b = mostE a b := by unfold mayE; rw [hT]; exact firstOf_r
        have HME1 := HME (by rw [hme]; exact hM)
        rw [hme] at HME1
        by_cases hD : usersE us = 0
        · have h0 : firstOf [usersE us, mostE a b] = mostE a b := by rw [hD]; exact firstOf_r
          have h1 : firstOf [usersE us, mostE a b] ≠ 0 := by rw [h0]; exact hM
          have hX : mostL us a b = [] := if_neg h1
          have HCE1 := fun B d Q q W k kp => HCE B d Q q W k kp h1
          rw [h0] at HCE1
          rw [h0, hX] at HMP
          rw [hD] at HU
          exact pairs_B2_M bb oo B0 B1 k0 k1 g.length h.length g h c us a b PA pc ps w hs hp us.length ps.length hm8 (mostE a b) (neB hM).1 (neB hM).2 hn2 (HF _) (HCU _) (hide HMP) HCPA (hide HCE1) (HU _) HRM r0 r1 g0 g1 HC0 HC1 (hide HME1) HTE
        · have h0 : firstOf [usersE us, mostE a b] = usersE us := firstOf_l hD
          have h1 : firstOf [usersE us, mostE a b] ≠ 0 := by rw [h0]; exact hD
          have hX : mostL us a b = [] := if_neg h1
          have HCE1 := fun B d Q q W k kp => HCE B d Q q W k kp h1
          rw [h0] at HCE1
          rw [h0, hX] at HMP
          exact pairs_B2_D bb oo B0 B1 k0 k1 g.length h.length g h c us a b PA pc ps w hs hp us.length ps.length hm8 (usersE us) (mostE a b) (neB hD).1 (neB hD).2 (neB hM).1 (neB hM).2 hn2 (HF _) (HCU _) (hide HMP) HCPA (hide HCE1) (HU _) HRM r0 r1 g0 g1 HC0 HC1 (hide HME1) HTE
    · have hme : mayE g h a b = twoE g h := firstOf_l hT
      have HME1 := HME (by rw [hme]; exact hT)
      rw [hme] at HME1
      have hD : usersE us ≠ 0 := fun e => hT (hUT e)
      have h0 : firstOf [usersE us, mostE a b] = usersE us := firstOf_l hD
      have h1 : firstOf [usersE us, mostE a b] ≠ 0 := by rw [h0]; exact hD
      have hX : mostL us a b = [] := if_neg h1
      have HCE1 := fun B d Q q W k kp => HCE B d Q q W k kp h1
      rw [h0] at HCE1
      rw [h0, hX] at HMP
      exact pairs_B1_D bb oo B0 B1 k0 k1 g.length h.length g h c us a b PA pc ps w hs hp us.length ps.length hm8 (usersE us) (mostE a b) (twoE g h) (neB hD).1 (neB hD).2 (neB hT).1 (neB hT).2 hn2 (HF _) (HCU _) (hide HMP) HCPA (hide HCE1) (HU _) HRM r0 r1 g0 g1 HC0 HC1 (hide HME1) HTE
end Go.Proofs.Ytamkannjdbodpaa

namespace Go.Proofs.Ytamkannjdbodpaa
open Go.ChangeShapes Go.WideShapes Go.ChangeAt Go.RowKit
set_option linter.unusedVariables false

set_option maxRecDepth 100000 in
theorem beamPairs_lifted (os : Os) (started : os.Started) (H : Type) (enc : TypeId × Value → H) :
    ReturnsInHanded {} Try.checked os 14 .any (Rows.beamPairsSpec.pre6 enc Try.prog Try.f14 Rows.beamPairsRow.domain false) (Rows.beamPairsSpec.post enc Try.prog Try.f14 false true false false) := by
  refine returnsInHanded_of_change (C := Try.checked) own started (by kernel_rfl) Try.func14
    (ChangeSpec.witness6 (enc := enc) (C := Try.checked) false ⟨#[], #[.slice none 0 0, .agg #[.int .i64 0, .int .i64 0], .slice none 0 0], []⟩ 8 (by kernel_rfl) (by kernel_rfl) (by kernel_rfl) (by kernel_rfl)) ?_
  intro W base args ds gs before hval0 hW hcnd _
  have hval : ∀ (j : Nat) t v, Try.f14.params[j]? = some t → args[j]? = some v → Value.okWide Try.prog W .any base t v := hval0
  have hW' := hW
  obtain ⟨p, q, hA0, hV, rfl, hfz, hnd⟩ := hW
  have hA : DataW.TrodAll enc Try.prog W 0 (fun _ => true) true Try.f14.params.toList args.toList ds p := hA0
  rw [Try.params14] at hA hval
  obtain ⟨v0, vs0, d0, ds0, p0, q0, hargs, rfl, rfl, h0, r0⟩ := trodAll_cons hA
  obtain ⟨v1, vs1, d1, ds1, p1, q1, rfl, rfl, rfl, h1, r1⟩ := trodAll_cons r0
  obtain ⟨v2, vs2, d2, ds2, p2, q2, rfl, rfl, rfl, h2, r2⟩ := trodAll_cons r1
  obtain ⟨rfl, rfl, rfl⟩ := trodAll_nil r2
  obtain rfl : args = #[v0, v1, v2] := by cases args; simp_all
  obtain ⟨rfl, rfl⟩ := trodVars_none hV
  have k0 := h0
  have lt0 : ∀ x ∈ p0, x.block < W.heap.size := by obtain ⟨m, hm⟩ := k0; exact DataW.trod_lt m _ _ _ hm
  obtain ⟨A0, c0, l0, rfl, hs0⟩ := open_users (hval 0 100 v0 rfl rfl) h0
  have k1 := h1
  have lt1 : ∀ x ∈ p1, x.block < W.heap.size := by obtain ⟨m, hm⟩ := k1; exact DataW.trod_lt m _ _ _ hm
  obtain ⟨a1, b1, rfl, wa1, wb1⟩ := open_two Try.underlying86 (by kernel_rfl) Try.underlying3 Try.underlying3 rfl rfl int_one int_one (hval 1 86 v1 rfl rfl) h1
  have k2 := h2
  have lt2 : ∀ x ∈ p2, x.block < W.heap.size := by obtain ⟨m, hm⟩ := k2; exact DataW.trod_lt m _ _ _ hm
  obtain ⟨A2, c2, l2, rfl, hs2, hw2⟩ := open_pairs (hval 2 101 v2 rfl rfl) h2
  clear hA0 hval0
  refine (BeamPairs_law A0 c0 l0 a1 b1 A2 c2 l2 W hs0 wa1 wb1 hs2 hw2).mono fun e W' ⟨he, bel⟩ => ?_
  subst he
  exact ⟨_, rfl, _, _, _, [], _, [], hW', trodAll_mk1 (shut_bool Try.underlying4 _), (trodAll_cons_mk (Below.trod laidOut (by kernel_rfl) (of_decide_eq_true (by kernel_rfl)) k0 bel lt0) (trodAll_cons_mk (Below.trod laidOut (by kernel_rfl) (of_decide_eq_true (by kernel_rfl)) k1 bel lt1) (trodAll_cons_mk (Below.trod laidOut (by kernel_rfl) (of_decide_eq_true (by kernel_rfl)) k2 bel lt2) trodAll_mk0))), rfl, bel.frame _, fun h => by cases h⟩

theorem beamPairs_holds : Rows.BeamPairsSaid :=
  OpenClaim.holds_of_wide 14 Try.f14 rfl rfl rfl rfl rfl rfl rfl ⟨rfl, rfl, rfl, rfl, rfl⟩ rfl rfl rfl rfl rfl (by kernel_rfl) Try.func14 (by kernel_rfl)
    (of_decide_eq_true (by kernel_rfl)) (by unfold Func.isWrapper; first | (rw [if_pos (by decide +kernel)]; kernel_rfl) | (rw [if_neg (by decide +kernel)]; exact ⟨rfl, rfl⟩))
    (fun os started H enc _ => beamPairs_lifted os started H enc)
#print axioms beamPairs_holds
end Go.Proofs.Ytamkannjdbodpaa
