/- A sweep has each beam of a book once, none with greater power than the one before, and of equal ones the lesser number first; the best one is the first: for every book and every channel. No condition. -/
import Derived.Test.YtamkannjdbodpaaMem2
import Derived.Test.YtamkannjdbodpaaRows
import Derived.WalkKit
import Derived.ProofKit
import Derived.OpenShut
import Derived.ShutString
import Derived.ChangeOld
import Derived.Below
import Derived.Lib.SmallJoins
import Derived.Test.YtamkannjdbodpaaChB
import Derived.Deep.SlicePairs
import Derived.Test.YtamkannjdbodpaaBookC
import Derived.Test.YtamkannjdbodpaaSwpR
namespace Go.Proofs.Ytamkannjdbodpaa
open Go.ChangeShapes Go.WideShapes Go.ChangeAt Go.RowKit

theorem own : ownKnob Try.prog.godebug = none := by kernel_rfl
theorem laidOut : laidOutB Try.prog = true := by kernel_rfl

theorem array1 {α : Type} {cs : Array α} (h : cs.size = 1) : ∃ c0, cs = #[c0] := by
  obtain ⟨l⟩ := cs
  match l, h with
  | [c0], _ => exact ⟨c0, rfl⟩

theorem add_off (b off k : Nat) : (⟨b, off, none⟩ : Addr).add k = ⟨b, off + k, none⟩ := by
  by_cases h : k = 0
  · subst h; simp [Addr.add]
  · simp [Addr.add, h]

section
variable {H : Type} {enc : TypeId × Value → H} {W : World} {base : Nat} {sp : Nat → Bool} {hd : Bool}

/-- a slice of int, by its cells -/
theorem open_sl {t e : TypeId} {fuel : Nat} {v : Value} {x : DataW H × List MemPlace} (ht : Try.prog.underlying t = some (.slice e)) (he : Try.prog.underlying e = some (.int .i64)) (hc : Try.prog.cellsOf e = 1)
    (h : DataW.trod enc Try.prog W base sp hd fuel t [v] = some x) : ∃ A c l, v = .slice A l.length c ∧ Sl W A (iv l) ∧ ∀ n ∈ l, (Lit.int .i64 n).wf = true := by
  rcases open_ints ht he hc h with ⟨hcs, _⟩ | ⟨a, len, cap, zs, hcs, _, hl, hm, hz, _, hcell, hwz⟩
  · injection hcs with hcs _
    subst hcs
    exact ⟨none, 0, [], rfl, fun k hk => absurd hk (by simp [iv]), by simp⟩
  · injection hcs with hcs _
    subst hcs
    have hlen : len ≤ zs.length := by rw [hz]; split <;> omega
    have ht : (zs.take len).length = len := by rw [List.length_take]; omega
    refine ⟨some a, cap, zs.take len, by rw [ht], ?_, fun n hn => hwz n (List.mem_of_mem_take hn)⟩
    intro k hk
    have hk' : k < len := by rw [iv, List.length_map, ht] at hk; exact hk
    obtain ⟨b, off, spot⟩ := a
    have hc0 := hcell 0 (by omega)
    have hspot : spot = none := by simpa [Addr.add] using World.cell?_spot hc0
    subst hspot
    have hc := hcell k (by omega)
    refine ⟨b, off, rfl, ?_⟩
    have e1 := add_off b off k
    rw [e1] at hc
    rw [hc]
    have hkz : k < zs.length := by omega
    simp [iv, List.getD_eq_getElem?_getD, List.getElem?_eq_getElem hkz]
end
theorem int_one : Try.prog.cellsOf 3 = 1 := by kernel_rfl
theorem ints_one : Try.prog.cellsOf 22 = 1 := by kernel_rfl
theorem beam_one : Try.prog.cellsOf 24 = 1 := by kernel_rfl

set_option maxRecDepth 100000 in
/-- a beam as it comes in: a slice that reads as a list -/
theorem open_beam {H : Type} {enc : TypeId × Value → H} {W : World} {b0 base : Nat} {sp : Nat → Bool} {hd : Bool} {r : Reach} {v : Value} {d : DataW H} {p : List MemPlace}
    (hv : Value.okWide Try.prog W r b0 24 v) (h : DataW.Trod enc Try.prog W base sp hd 24 v d p) :
    ∃ A c l, v = .agg #[.slice A l.length c] ∧ Sl W A (iv l) ∧ ∀ n ∈ l, (Lit.int .i64 n).wf = true := by
  obtain ⟨cs, rfl, hsz⟩ := okWide_struct Try.underlying24 hv
  obtain ⟨c0, rfl⟩ := array1 (hsz.trans beam_one)
  obtain ⟨fuel, hf⟩ := h
  obtain ⟨y0, n, _, _, h0⟩ := trod_struct1 Try.underlying24 hf
  obtain ⟨A, c, l, rfl, hs, hw⟩ := open_sl Try.underlying22 Try.underlying3 int_one (by simpa [Value.cells, ints_one] using h0)
  exact ⟨A, c, l, rfl, hs, hw⟩
end Go.Proofs.Ytamkannjdbodpaa

namespace Go.Proofs.Ytamkannjdbodpaa
open Go.ChangeShapes Go.WideShapes Go.ChangeAt Go.RowKit

theorem array2 {α : Type} {cs : Array α} (h : cs.size = 2) : ∃ c0 c1, cs = #[c0, c1] := by
  obtain ⟨l⟩ := cs
  match l, h with
  | [c0, c1], _ => exact ⟨c0, c1, rfl⟩
theorem array3 {α : Type} {cs : Array α} (h : cs.size = 3) : ∃ c0 c1 c2, cs = #[c0, c1, c2] := by
  obtain ⟨l⟩ := cs
  match l, h with
  | [c0, c1, c2], _ => exact ⟨c0, c1, c2, rfl⟩

section
variable {H : Type} {enc : TypeId × Value → H} {W : World} {b0 base : Nat} {sp : Nat → Bool} {hd : Bool} {r : Reach} {v : Value} {d : DataW H} {p : List MemPlace}

set_option maxRecDepth 100000 in
/-- a struct of two ints as it comes in -/
theorem open_two {t : TypeId} {f0 f1 : Field} (ht : Try.prog.underlying t = some (.struct #[f0, f1])) (hc : Try.prog.cellsOf t = 2) (h0 : Try.prog.underlying f0.type = some (.int .i64)) (h1 : Try.prog.underlying f1.type = some (.int .i64))
    (o0 : f0.offset = 0) (o1 : f1.offset = 1) (s0 : Try.prog.cellsOf f0.type = 1) (s1 : Try.prog.cellsOf f1.type = 1)
    (hv : Value.okWide Try.prog W r b0 t v) (h : DataW.Trod enc Try.prog W base sp hd t v d p) :
    ∃ a b, v = .agg #[.int .i64 a, .int .i64 b] ∧ (Lit.int .i64 a).wf = true ∧ (Lit.int .i64 b).wf = true := by
  obtain ⟨cs, rfl, hsz⟩ := okWide_struct ht hv
  obtain ⟨c0, c1, rfl⟩ := array2 (hsz.trans hc)
  obtain ⟨fuel, hf⟩ := h
  obtain ⟨y0, y1, n, _, _, g0, g1⟩ := trod_struct2 ht hf
  obtain ⟨a, e0, _, w0⟩ := DataW.trod_int h0 g0
  obtain ⟨b, e1, _, w1⟩ := DataW.trod_int h1 g1
  rw [o0, s0] at e0
  rw [o1, s1] at e1
  simp [Value.cells] at e0 e1
  subst e0 e1
  exact ⟨a, b, rfl, w0, w1⟩

theorem trod_struct3 {t : TypeId} {f0 f1 f2 : Field} {fuel : Nat} {cs : List Value} {x : DataW H × List MemPlace} (ht : Try.prog.underlying t = some (.struct #[f0, f1, f2])) (h : DataW.trod enc Try.prog W base sp hd fuel t cs = some x) :
    ∃ y0 y1 y2 n, DataW.trod enc Try.prog W base sp hd n f0.type ((cs.drop f0.offset).take (Try.prog.cellsOf f0.type)) = some y0 ∧
      DataW.trod enc Try.prog W base sp hd n f1.type ((cs.drop f1.offset).take (Try.prog.cellsOf f1.type)) = some y1 ∧ DataW.trod enc Try.prog W base sp hd n f2.type ((cs.drop f2.offset).take (Try.prog.cellsOf f2.type)) = some y2 := by
  obtain ⟨xs, n, _, rfl, hl, hlen, hf⟩ := DataW.trod_struct ht h
  match xs, hlen with
  | [y0, y1, y2], _ => exact ⟨y0, y1, y2, n, by simpa using hf 0 f0 rfl, by simpa using hf 1 f1 rfl, by simpa using hf 2 f2 rfl⟩

set_option maxRecDepth 100000 in
/-- a struct of three ints as it comes in -/
theorem open_three {t : TypeId} {f0 f1 f2 : Field} (ht : Try.prog.underlying t = some (.struct #[f0, f1, f2])) (hc : Try.prog.cellsOf t = 3) (h0 : Try.prog.underlying f0.type = some (.int .i64)) (h1 : Try.prog.underlying f1.type = some (.int .i64)) (h2 : Try.prog.underlying f2.type = some (.int .i64))
    (o0 : f0.offset = 0) (o1 : f1.offset = 1) (o2 : f2.offset = 2) (s0 : Try.prog.cellsOf f0.type = 1) (s1 : Try.prog.cellsOf f1.type = 1) (s2 : Try.prog.cellsOf f2.type = 1)
    (hv : Value.okWide Try.prog W r b0 t v) (h : DataW.Trod enc Try.prog W base sp hd t v d p) :
    ∃ a b c, v = .agg #[.int .i64 a, .int .i64 b, .int .i64 c] ∧ (Lit.int .i64 a).wf = true ∧ (Lit.int .i64 b).wf = true ∧ (Lit.int .i64 c).wf = true := by
  obtain ⟨cs, rfl, hsz⟩ := okWide_struct ht hv
  obtain ⟨c0, c1, c2, rfl⟩ := array3 (hsz.trans hc)
  obtain ⟨fuel, hf⟩ := h
  obtain ⟨y0, y1, y2, n, g0, g1, g2⟩ := trod_struct3 ht hf
  obtain ⟨a, e0, _, w0⟩ := DataW.trod_int h0 g0
  obtain ⟨b, e1, _, w1⟩ := DataW.trod_int h1 g1
  obtain ⟨c, e2, _, w2⟩ := DataW.trod_int h2 g2
  rw [o0, s0] at e0
  rw [o1, s1] at e1
  rw [o2, s2] at e2
  simp [Value.cells] at e0 e1 e2
  subst e0 e1 e2
  exact ⟨a, b, c, rfl, w0, w1, w2⟩

set_option maxRecDepth 100000 in
/-- a slice of int as it comes in -/
theorem open_list {t e : TypeId} (ht : Try.prog.underlying t = some (.slice e)) (he : Try.prog.underlying e = some (.int .i64)) (hc : Try.prog.cellsOf e = 1)
    (hv : Value.okWide Try.prog W r b0 t v) (h : DataW.Trod enc Try.prog W base sp hd t v d p) : ∃ A c l, v = .slice A l.length c ∧ Sl W A (iv l) ∧ ∀ n ∈ l, (Lit.int .i64 n).wf = true := by
  obtain ⟨A, n, c, rfl⟩ := okWide_slice ht hv
  obtain ⟨fuel, hf⟩ := h
  obtain ⟨A', c', l, e, hs, hw⟩ := open_sl ht he hc (by simpa [Value.cells] using hf)
  exact ⟨A', c', l, e, hs, hw⟩
end
end Go.Proofs.Ytamkannjdbodpaa

namespace Go.Proofs.Ytamkannjdbodpaa
open Go.ChangeShapes Go.WideShapes Go.ChangeAt Go.RowKit Go.Deep

section
variable {H : Type} {enc : TypeId × Value → H} {W : World} {b0 base : Nat} {sp : Nat → Bool} {hd : Bool} {r : Reach} {v : Value}

theorem sl_pairs {b off len : Nat} (f : Nat → Int × Int) (h0 : ∀ i, i < len → W.cell? ⟨b, off + i * 2, none⟩ = some (.int .i64 (f i).1)) (h1 : ∀ i, i < len → W.cell? ⟨b, off + i * 2 + 1, none⟩ = some (.int .i64 (f i).2)) :
    Sl W (some ⟨b, off, none⟩) (gv ((List.range len).map f)) := by
  intro k hk
  have hl : ((List.range len).map f).length = len := by simp
  have hk2 : k < len * 2 := by rw [gv_len, hl] at hk; exact hk
  obtain ⟨g0, g1⟩ := gv_at ((List.range len).map f) (k / 2) (by rw [hl]; omega)
  have hq : ((List.range len).map f)[k / 2]'(by rw [hl]; omega) = f (k / 2) := by simp
  rw [hq] at g0 g1
  refine ⟨b, off, rfl, ?_⟩
  rcases Nat.mod_two_eq_zero_or_one k with hm | hm
  · have e : k / 2 * 2 = k := by omega
    have c := h0 (k / 2) (by omega)
    rw [e] at g0 c
    rw [List.getElem?_eq_getElem hk] at g0
    rw [c]; exact g0.symm
  · have e : k / 2 * 2 + 1 = k := by omega
    have c := h1 (k / 2) (by omega)
    rw [Nat.add_assoc, e] at c
    rw [e] at g1
    rw [List.getElem?_eq_getElem hk] at g1
    rw [c]; exact g1.symm
/-- a slice of structs of two ints, by its cells -/
theorem open_gl {t e : TypeId} {f0 f1 : Field} {fuel : Nat} {x : DataW H × List MemPlace} (ht : Try.prog.underlying t = some (.slice e)) (he : Try.prog.underlying e = some (.struct #[f0, f1]))
    (ce : Try.prog.cellsOf e = 2) (o0 : f0.offset = 0) (o1 : f1.offset = 1) (c0 : Try.prog.cellsOf f0.type = 1) (c1 : Try.prog.cellsOf f1.type = 1) (u0 : Try.prog.underlying f0.type = some (.int .i64)) (u1 : Try.prog.underlying f1.type = some (.int .i64))
    (h : DataW.trod enc Try.prog W base sp hd fuel t [v] = some x) : ∃ A c l, v = .slice A l.length c ∧ Sl W A (gv l) ∧ ∀ z ∈ l, (Lit.int .i64 z.1).wf = true ∧ (Lit.int .i64 z.2).wf = true := by
  rcases open_slice_pairs ht he ce o0 o1 c0 c1 h with ⟨hcs, _⟩ | ⟨a, len, cap, m, n, V0, V1, D0, D1, P0, P1, hcs, _, hl, _, hm, _, hx⟩
  · injection hcs with hcs _
    subst hcs
    exact ⟨none, 0, [], rfl, fun k hk => absurd hk (by simp [gv]), by simp⟩
  · injection hcs with hcs _
    subst hcs
    have hlm : len ≤ m := by rw [hm]; split <;> omega
    obtain ⟨f, hf⟩ := choose_lt (α := Int × Int) (n := len) (p := fun i z => V0 i = .int .i64 z.1 ∧ V1 i = .int .i64 z.2 ∧ (Lit.int .i64 z.1).wf = true ∧ (Lit.int .i64 z.2).wf = true) (fun i hi => by
      obtain ⟨_, _, g0, g1⟩ := hx i (by omega)
      obtain ⟨z0, e0, _, w0⟩ := DataW.trod_int u0 g0
      obtain ⟨z1, e1, _, w1⟩ := DataW.trod_int u1 g1
      injection e0 with e0 _
      injection e1 with e1 _
      exact ⟨(z0, z1), e0, e1, w0, w1⟩)
    refine ⟨some a, cap, (List.range len).map f, by simp, ?_, fun z hz => ?_⟩
    · rcases Nat.eq_zero_or_pos len with q | q
      · subst q; intro k hk; exact absurd hk (by simp [gv])
      · obtain ⟨b, off, spot⟩ := a
        have hspot : spot = none := by
          have := (hx 0 (by omega)).1
          simpa [Addr.add] using World.cell?_spot this
        subst hspot
        refine sl_pairs f (fun i hi => ?_) (fun i hi => ?_)
        · have := (hx i (by omega)).1
          rw [add_off, (hf i hi).1] at this
          exact this
        · have := (hx i (by omega)).2.1
          rw [add_off, (hf i hi).2.1] at this
          rw [Nat.add_assoc]; exact this
    · obtain ⟨i, hi, rfl⟩ := List.mem_map.1 hz
      exact (hf i (List.mem_range.1 hi)).2.2
set_option maxRecDepth 100000 in
/-- a channel as it comes in -/
theorem open_gs {d : DataW H} {p : List MemPlace} (hv : Value.okWide Try.prog W r b0 80 v) (h : DataW.Trod enc Try.prog W base sp hd 80 v d p) :
    ∃ A c l, v = .slice A l.length c ∧ Sl W A (gv l) ∧ ∀ z ∈ l, (Lit.int .i64 z.1).wf = true ∧ (Lit.int .i64 z.2).wf = true := by
  obtain ⟨A, n, c, rfl⟩ := okWide_slice Try.underlying80 hv
  obtain ⟨fuel, hf⟩ := h
  obtain ⟨A', c', l, e, hs, hw⟩ := open_gl Try.underlying80 Try.underlying90 (by kernel_rfl) rfl rfl int_one int_one Try.underlying3 Try.underlying3 (by simpa [Value.cells] using hf)
  exact ⟨A', c', l, e, hs, hw⟩
end
end Go.Proofs.Ytamkannjdbodpaa

namespace Go.Proofs.Ytamkannjdbodpaa
open Go.ChangeShapes Go.WideShapes Go.ChangeAt Go.RowKit Go.Deep

section
variable {H : Type} {enc : TypeId × Value → H} {W : World} {b0 base : Nat} {sp : Nat → Bool} {hd : Bool} {r : Reach} {v : Value}

set_option maxRecDepth 100000 in
/-- a book as it comes in -/
theorem open_book {d : DataW H} {p : List MemPlace} (hv : Value.okWide Try.prog W r b0 118 v) (h : DataW.Trod enc Try.prog W base sp hd 118 v d p) :
    ∃ A c us, v = .slice A us.length c ∧ BookAt W A us := by
  obtain ⟨A, n, c, rfl⟩ := okWide_slice Try.underlying118 hv
  obtain ⟨fuel, hf⟩ := h
  have hf' : DataW.trod enc Try.prog W base sp hd fuel 118 [.slice A n c] = some (d, p) := by simpa [Value.cells] using hf
  rcases open_slice1 Try.underlying118 (by kernel_rfl) hf' with ⟨hcs, _⟩ | ⟨a, len, cap, m, k, V, D, Pl, hcs, _, hl, _, hm, _, hx⟩
  · injection hcs with hcs _
    injection hcs with h1 h2 h3
    subst h1 h2 h3
    exact ⟨none, 0, [], rfl, [], fun k hk => absurd hk (by simp), rfl, fun k hk => absurd hk (by simp)⟩
  · injection hcs with hcs _
    injection hcs with h1 h2 h3
    subst h1 h2 h3
    have hlm : n ≤ m := by rw [hm]; split <;> omega
    obtain ⟨f, hfx⟩ := choose_lt (α := Option Addr × Nat × List Int) (n := n) (p := fun i y => V i = .slice y.1 y.2.2.length y.2.1 ∧ Sl W y.1 (iv y.2.2)) (fun i hi => by
      obtain ⟨_, g1⟩ := hx i (by omega)
      obtain ⟨y0, n1, _, _, h0⟩ := trod_struct1 Try.underlying24 g1
      obtain ⟨B, q, l, e1, e2, _⟩ := open_sl Try.underlying22 Try.underlying3 int_one (by simpa [Value.cells, ints_one] using h0)
      exact ⟨(B, q, l), e1, e2⟩)
    refine ⟨some a, c, (List.range n).map (fun i => (f i).2.2), by simp, (List.range n).map V, ?_, by simp, fun k hk => ?_⟩
    · intro k hk
      have hk' : k < n := by simpa using hk
      obtain ⟨b, off, spot⟩ := a
      have hspot : spot = none := by
        have := (hx 0 (by omega)).1
        simpa [Addr.add] using World.cell?_spot this
      subst hspot
      refine ⟨b, off, rfl, ?_⟩
      have e1 := (hx k (by omega)).1
      rw [add_off] at e1
      rw [e1]
      simp
    · have hk' : k < n := by simpa using hk
      obtain ⟨e1, e2⟩ := hfx k hk'
      exact ⟨(f k).1, (f k).2.1, by simp [hk', e1], by simpa using e2⟩
end
end Go.Proofs.Ytamkannjdbodpaa

namespace Go.Proofs.Ytamkannjdbodpaa
open Go.RowKit Go.WideShapes Go.ChangeShapes

theorem copyGs (A : Option Addr) (c n : Nat) (l : List (Int × Int)) (w : World) (hn : l.length = n) (hs : Sl w A (gv l)) (hl : n ≤ 1000000) :
    Calls Try.prog 53 #[.slice A n c] w fun e w' => ∃ A' c', e = .returned (.slice A' n c') ∧ Sl w' A' (gv l) ∧ Below w.heap.size w w' := by
  subst hn
  exact (copyGausses A c l w hs hl).mono fun e w' ⟨A', c', h1, h2, h3⟩ => ⟨A', c', h1, Sl.of_ownN h2, h3⟩

set_option maxRecDepth 100000 in
theorem BeamBest_out (A : Option Addr) (c : Nat) (bs : List (List Int)) (B : Option Addr) (kc : Nat) (h : List (Int × Int)) (w : World) (hs : BookAt w A bs) (hs' : Sl w B (gv h)) (hq : bookB bs = false ∨ sweepE bs h ≠ 0) :
    Calls Try.prog 16 #[.slice A bs.length c, .slice B h.length kc] w fun e w' => e = .returned (.bool true) ∧ Below w.heap.size w w' := by
  have HF := hide (fun W k => book_law A c bs W k)
  have HSE := hide (fun (hb : bookB bs = true) W k k' => sweepErr_ref A c bs B h.length kc h W k k' (by
    unfold bookB at hb
    simp only [Bool.and_eq_true, Bool.not_eq_true', Bool.or_eq_false_iff, decide_eq_false_iff_not, List.all_eq_true, decide_eq_true_eq] at hb
    exact fun b hbm => by have := hb.2 b hbm; omega) (by
    unfold bookB at hb
    simp only [Bool.and_eq_true, Bool.not_eq_true', Bool.or_eq_false_iff, decide_eq_false_iff_not, List.all_eq_true, decide_eq_true_eq] at hb
    have := hb.1.2; omega) rfl)
  have HS := hide hs; clear hs
  have HS' := hide hs'; clear hs'
  cases hb : bookB bs
  · rw [hb] at HF
    clear hq hb HSE
    go_enter Try.func16, Try.ntmps16
    go_wp2_with (first
      | (go_at_call 18; go_must (refine (awake_ok _).mono ?_; rintro e w1 ⟨rfl, hb⟩; have B1 := hide hb; clear hb; simp only []))
      | (go_at_call 80; go_must (refine (HF.out _ (HS.out.bel B1.out)).mono ?_; rintro e w2 ⟨rfl, hb⟩; have B2 := hide (Below.step B1.out hb); clear hb; simp only [])))
    go_ret
    exact ⟨rfl, B2.out⟩
  · rw [hb] at HF
    replace HSE := hide (HSE.out hb)
    have he : sweepE bs h ≠ 0 := by
      rcases hq with q | q
      · exact absurd (hb.symm.trans q) (by decide)
      · exact q
    have hne : (sweepE bs h != 0) = true := by rw [bne_iff_ne]; exact he
    clear hq hb he
    go_enter Try.func16, Try.ntmps16
    go_wp2_with (first
      | (go_at_call 18; go_must (refine (awake_ok _).mono ?_; rintro e w1 ⟨rfl, hb⟩; have B1 := hide hb; clear hb; simp only []))
      | (go_at_call 80; go_must (refine (HF.out _ (HS.out.bel B1.out)).mono ?_; rintro e w2 ⟨rfl, hb⟩; have B2 := hide (Below.step B1.out hb); clear hb; simp only []))
      | (go_at_call 84; go_must (refine (HSE.out _ (HS.out.bel B2.out) (HS'.out.bel B2.out)).mono ?_; rintro e w3 ⟨rfl, hb⟩; have B3 := hide (Below.step B2.out hb); clear hb; simp only [])))
    go_ret
    exact ⟨rfl, B3.out⟩

/-- numbers of a sorted list -/
theorem Sorted.notin {gt : Nat → Nat → Bool} (W : Weak gt) {n : Nat} {S : List Nat} (h : Sorted gt n S) {k : Nat} (hk : k < S.length) : S[k] ∉ S.take k := fun hm => by
  have hnd := nodup_srt W h.srt
  rw [← List.take_append_drop k S, List.nodup_append] at hnd
  refine hnd.2.2 _ hm S[k] ?_ rfl
  rw [List.drop_eq_getElem_cons hk]
  exact List.mem_cons_self
theorem Sorted.next {gt : Nat → Nat → Bool} {n : Nat} {S : List Nat} (h : Sorted gt n S) {k : Nat} (hk : k + 1 < S.length) : bef gt S[k] S[k + 1] := by
  have := h.srt
  unfold Srt at this
  rw [List.pairwise_iff_getElem] at this
  exact this k (k + 1) (by omega) hk (by omega)
theorem sl_take {w : World} {A : Option Addr} {S : List Nat} (h : Sl w A (iv (zs S))) (k : Nat) : Sl w A (iv (zs (S.take k))) := fun j hj => by
  have hj' : j < k ∧ j < S.length := by simp [iv, zs] at hj; omega
  have hl : j < (iv (zs S)).length := by simp [iv, zs]; exact hj'.2
  obtain ⟨b, o, e1, e2⟩ := h j hl
  refine ⟨b, o, e1, ?_⟩
  rw [e2]
  simp [iv, zs]

set_option maxRecDepth 100000 in
set_option maxHeartbeats 8000000 in
theorem BeamBest_ok (A : Option Addr) (c : Nat) (bs : List (List Int)) (B : Option Addr) (kc : Nat) (h : List (Int × Int)) (w : World) (hs : BookAt w A bs) (hs' : Sl w B (gv h)) (hbk : bookB bs = true) (he : sweepE bs h = 0) :
    Calls Try.prog 16 #[.slice A bs.length c, .slice B h.length kc] w fun e w' => e = .returned (.bool true) ∧ Below w.heap.size w w' := by
  have hb2 := hbk
  unfold bookB at hb2
  simp only [Bool.and_eq_true, Bool.not_eq_true', Bool.or_eq_false_iff, decide_eq_false_iff_not, List.all_eq_true, decide_eq_true_eq] at hb2
  have hl : ∀ b ∈ bs, b.length ≤ 100 := fun b hb => by have := hb2.2 b hb; omega
  have hok := sweepE_ok he
  have hn16 := hok.few
  have hm8 := hok.n8
  have HF := hide (fun W k => book_law A c bs W k)
  rw [hbk] at HF
  have HCB := hide (fun W k => copyBook_ref A c bs W k hl (by omega))
  have HCG := hide (fun W k => copyGs B kc h.length h W rfl k (by omega))
  have HSE := hide (fun W k k' => sweepErr_ref A c bs B h.length kc h W k k' hl (by omega) rfl)
  obtain ⟨S, hS⟩ := sorted_ex (gtB_weak bs h) bs.length
  have HSW := hide (fun Q q P p W k k' => sweep_atc Q q bs P p h W k k' hl (by omega) he S hS)
  have HBO := hide (fun Q q P p W k k' => bestOf_at Q q bs P p h W k k' hl (by omega) he S hS)
  have hpos := hok.pos
  have hSn := hS.len
  have hSl : 0 < S.length := by omega
  have hz0 : S[0]?.getD 0 = S[0] := by rw [List.getElem?_eq_getElem hSl]; rfl
  rw [hz0] at HBO
  have HX := hide (show ∀ W P, Sl W P (iv (zs S)) → ∀ k (hk : k < S.length), ∃ b o, P = some ⟨b, o, none⟩ ∧ W.cell? ⟨b, o + k, none⟩ = some (.int .i64 (S[k] : Int)) from fun W P hp k hk => by
    obtain ⟨b, o, e1, e2⟩ := hp k (by simp [iv, zs, hk])
    exact ⟨b, o, e1, by rw [e2]; simp [iv, zs]⟩)
  have HIN := hide (fun k (hk : k < S.length) => (hS.mem _).1 (List.getElem_mem hk))
  have HNI := hide (fun k (hk : k < S.length) => hS.notin (gtB_weak bs h) hk)
  have HNX := hide (fun k (hk : k + 1 < S.length) => hS.next hk)
  have HPO := hide (show ∀ i (hi : i < bs.length) P p Q q W, Sl W P (iv bs[i]) → Sl W Q (gv h) → Calls Try.prog 86 #[.agg #[.slice P bs[i].length p], .slice Q h.length q] W fun e w' => e = .returned (.tuple #[.agg #[.int .i64 (pwP h (bs[i]?.getD [])).1, .int .i64 (pwP h (bs[i]?.getD [])).2], .int .i64 0]) ∧ Below W.heap.size W w' from fun i hi P p Q q W k k' => by
    have := powerOf_beam P p bs[i] Q q h W k k' (by have := hl _ (List.getElem_mem hi); omega) (by omega)
    have hli := hok.len _ (List.getElem_mem hi)
    have hpe : powE bs[i] h = 0 := by
      unfold powE
      rw [(bookE_ok (firstOf_ok he (bookE bs) (by simp))).2.2 _ (List.getElem_mem hi), firstOf_ok he (chE h) (by simp), decide_eq_true (by omega : h.length = bs[i].length)]
      rfl
    rw [hpe, show powV bs[i] h = ((pow bs[i] h).P, (pow bs[i] h).Q) from if_pos hpe] at this
    rw [List.getElem?_eq_getElem hi]
    exact this)
  have HLG := hide (show ∀ i (hi : i < bs.length) j (hj : j < bs.length), bef (gtB bs h) i j → ∃ v : Int, 0 ≤ v ∧ (v = 0 → i < j) ∧ ∀ W, Calls Try.prog 32 #[.agg #[.int .i64 (pwP h (bs[i]?.getD [])).1, .int .i64 (pwP h (bs[i]?.getD [])).2], .agg #[.int .i64 (pwP h (bs[j]?.getD [])).1, .int .i64 (pwP h (bs[j]?.getD [])).2]] W fun e w' => e = .returned (.tuple #[.int .i64 v, .int .i64 0]) ∧ Below W.heap.size W w' from fun i hi j hj hb => by
    have li := hok.len _ (List.getElem_mem hi)
    have lj := hok.len _ (List.getElem_mem hj)
    have bi := hok.bd bs[i] (by omega)
    have bj := hok.bd bs[j] (by omega)
    refine ⟨sgnPQ ((pwP h (bs[i]?.getD [])).1 - (pwP h (bs[j]?.getD [])).1) ((pwP h (bs[i]?.getD [])).2 - (pwP h (bs[j]?.getD [])).2), ?_, ?_, fun W => ?_⟩
    · rcases hb with hb | ⟨hb, _⟩
      · unfold gtB gtPQ at hb; rw [decide_eq_true_iff] at hb; omega
      · unfold gtB gtPQ at hb; rw [decide_eq_false_iff_not] at hb
        have := sgnneg ((pwP h (bs[j]?.getD [])).1 - (pwP h (bs[i]?.getD [])).1) ((pwP h (bs[j]?.getD [])).2 - (pwP h (bs[i]?.getD [])).2)
        rw [show -((pwP h (bs[j]?.getD [])).1 - (pwP h (bs[i]?.getD [])).1) = (pwP h (bs[i]?.getD [])).1 - (pwP h (bs[j]?.getD [])).1 by omega, show -((pwP h (bs[j]?.getD [])).2 - (pwP h (bs[i]?.getD [])).2) = (pwP h (bs[i]?.getD [])).2 - (pwP h (bs[j]?.getD [])).2 by omega] at this
        omega
    · intro h0
      rcases hb with hb | ⟨_, hb⟩
      · unfold gtB gtPQ at hb; rw [decide_eq_true_iff] at hb; omega
      · exact hb
    · rw [List.getElem?_eq_getElem hi, List.getElem?_eq_getElem hj]
      exact larger_ok _ _ _ _ (by unfold sqB withinB; simp; omega) (by unfold sqB withinB; simp; omega) W)
  rw [he] at HSE
  obtain ⟨PW, hPW⟩ : ∃ f : Nat → Int × Int, (fun i => pwP h (bs[i]?.getD [])) = f := ⟨_, rfl⟩
  have HPWE := hide (show ∀ i, pwP h (bs[i]?.getD []) = PW i from fun i => by rw [← hPW])
  simp only [HPWE.out] at HPO HLG
  obtain ⟨GT, hGT⟩ : ∃ g, gtB bs h = g := ⟨_, rfl⟩
  rw [hGT] at HLG HNX
  obtain ⟨n, hn⟩ : ∃ n, bs.length = n := ⟨_, rfl⟩
  obtain ⟨m, hm⟩ : ∃ m, h.length = m := ⟨_, rfl⟩
  rw [hn] at HF HCB HSW HBO HSE hn16 hSn hpos HIN
  rw [hm] at HCG HSW HBO HSE HPO
  rw [hn, hm]
  have HN := hide hn
  have HSN := hide hSn
  have HS := hide hs
  have HS' := hide hs'
  obtain ⟨z, hzz⟩ : ∃ z : Nat, S[0] = z := ⟨_, rfl⟩
  rw [hzz] at HBO
  have HZZ := hide hzz
  have hpi : (0 : Int) < (n : Int) := by omega
  have HB := hide (Below.refl w.heap.size w)
  have HT := hide (Stay.triv w)
  have HSL := hide hSl
  have HCPL := hide hl
  clear hs hs' hbk hb2 hl hn hm he hpos hS hSn hz0 hzz hGT hPW hok HPWE hm8
  go_enter Try.func16, Try.ntmps16

  go_wp2_with (first
    | (go_at_call 18; go_must (refine (awake_ok _).mono ?_; rintro e w1 ⟨rfl, hb⟩; replace HB := hide (Below.step HB.out hb); replace HT := hide (HT.out.step hb); clear hb; simp only []))
    | (go_at_call 80; go_must (refine (HF.out _ (HS.out.bel HB.out)).mono ?_; rintro e w2 ⟨rfl, hb⟩; replace HB := hide (Below.step HB.out hb); replace HT := hide (HT.out.step hb); clear hb; simp only []))
    | (go_at_call 84; go_must (refine (HSE.out _ (HS.out.bel HB.out) (HS'.out.bel HB.out)).mono ?_; rintro e w9 ⟨rfl, hb⟩; replace HB := hide (Below.step HB.out hb); replace HT := hide (HT.out.step hb); clear hb; simp only []))
    | (go_at_call 82; have qq := HX1; go_must (refine (HCB.out _ (HS.out.bel HB.out)).mono ?_; rintro e w6 ⟨C6, c6, rfl, hs6, hb⟩; have HC6 := hide hs6; replace HB := hide (Below.step HB.out hb); replace HT := hide (HT.out.step hb); clear hb; clear hs6; simp only []))
    | (go_at_call 82; go_must (refine (HCB.out _ (HS.out.bel HB.out)).mono ?_; rintro e w3 ⟨C3, c3, rfl, hs3, hb⟩; have HC3 := hide hs3; replace HB := hide (Below.step HB.out hb); replace HT := hide (HT.out.step hb); clear hb; clear hs3; simp only []))
    | (go_at_call 53; have qq := HX1; go_must (refine (HCG.out _ (HS'.out.bel HB.out)).mono ?_; rintro e w7 ⟨C7, c7, rfl, hs7, hb⟩; have HC7 := hide hs7; replace HC6 := hide (HC6.out.bel hb); replace HB := hide (Below.step HB.out hb); replace HT := hide (HT.out.step hb); clear hb; clear hs7; simp only []))
    | (go_at_call 53; go_must (refine (HCG.out _ (HS'.out.bel HB.out)).mono ?_; rintro e w4 ⟨C4, c4, rfl, hs4, hb⟩; have HC4 := hide hs4; replace HC3 := hide (HC3.out.bel hb); replace HB := hide (Below.step HB.out hb); replace HT := hide (HT.out.step hb); clear hb; clear hs4; simp only []))
    | (go_at_call 81; go_must (refine (HSW.out _ _ _ _ _ HC3.out HC4.out).mono ?_; rintro e w5 ⟨X5, x5, rfl, hx5, hb, hcap⟩; replace HT := hide ((HT.out.step hb).and (stay_sl hx5)); replace HB := hide (Below.step HB.out hb); have HCAP := hide hcap; clear hb hx5 hcap HC3 HC4; have HX1 := hide (Eq.refl 0); simp only []))
    | (go_at_call 83; go_must (refine (HBO.out _ _ _ _ _ HC6.out HC7.out).mono ?_; rintro e w8 ⟨rfl, hb⟩; replace HB := hide (Below.step HB.out hb); replace HT := hide (HT.out.step hb); clear hb; clear HC6 HC7; obtain ⟨xb, xo, hX5, xc0⟩ := HX.out _ _ HT.out.now.2 0 HSL.out; subst hX5; rw [HZZ.out] at xc0; have xc : w8.cell? ⟨xb, xo, none⟩ = some (.int .i64 (z : Int)) := xc0; clear xc0; simp only [])))
  clear HF HCB HSE HSW HBO HX1 xc
  go_loopw [9] (fun i wr => ∃ k : Nat, k ≤ n ∧ i = .int .i64 k ∧ Sl wr (some ⟨xb, xo, none⟩) (iv (zs S)) ∧ Below w.heap.size w wr) (fun i _ => n - (intOf i).toNat)
  case atStart => exact ⟨0, Nat.zero_le _, rfl, HT.out.now.2, HB.out⟩
  case round =>
    clear HB HT
    obtain ⟨k, hk, rfl, hx, hbel⟩ := hrel
    have HXX := hide hx; clear hx
    by_cases hlt : k < n
    · have hkS : k < S.length := by rw [HSN.out]; exact hlt
      obtain ⟨b', o', e', xk⟩ := HX.out _ _ HXX.out k hkS
      injection e' with e'
      injection e' with e1 e2
      subst e1 e2
      have hin := HIN.out k hkS
      have HNK := hide (HNI.out k hkS)
      have hcap := HCAP.out
      have hkc : k ≤ x5 := by omega
      have HTK := hide (sl_take HXX.out k)
      have htl : (zs (S.take k)).length = k := by rw [zs_len, List.length_take]; omega
      have hki : (k : Int) < (n : Int) := by omega
      have hkci : (k : Int) ≤ (x5 : Int) := by omega
      have hwn := IntWalk.i64_in ((n : Int) - 1) (by omega)
      obtain ⟨sk, hsk⟩ : ∃ s, S[k] = s := ⟨_, rfl⟩
      rw [hsk] at xk hin HNK
      have HQ1 := hide (show ∀ q, Calls Try.prog 24 #[.int .i64 (sk : Int), .int .i64 0, .int .i64 ((n : Int) - 1)] (wr.drewN q) fun x w' => x = .returned (.bool true) ∧ ∃ m, w' = wr.drewN m from fun q => (within_base _ _ _ _).mono fun e w' ⟨h1, h2⟩ => ⟨by rw [h1, show withinB (sk : Int) 0 ((n : Int) - 1) = true by unfold withinB; simp; omega], q, h2.symm⟩)
      have HQ2 := hide (show ∀ q p, Calls Try.prog 89 #[.slice (some ⟨xb, xo, none⟩) k p, .int .i64 (sk : Int)] (wr.drewN q) fun x w' => x = .returned (.bool false) ∧ ∃ m, w' = wr.drewN m from fun q p => by
        have := hasB (some ⟨xb, xo, none⟩) p k (zs (S.take k)) (sk : Int) (wr.drewN q) htl (HTK.out.bel (below_drewN (Below.refl _ _) q)) (by omega)
        rw [zs_has, decide_eq_false HNK.out] at this
        exact this.mono fun e w' ⟨h1, h2⟩ => ⟨h1, q, h2.symm⟩)
      have HSK := hide hsk
      clear htl hsk
      have HXK := hide xk
      rcases (by cases k; exact .inl rfl; exact .inr ⟨_, rfl⟩ : k = 0 ∨ ∃ j, k = j + 1) with rfl | ⟨j, rfl⟩
      · have xk1 : wr.cell? ⟨xb, xo, none⟩ = some (.int .i64 (sk : Int)) := xk
        have hkc0 : (0 : Int) ≤ (x5 : Int) := by omega
        clear xk hki hkci
        go_wp2
        go_quiet (first | (go_at_call 24; exact HQ1.out _) | (go_at_call 89; exact HQ2.out _ _))
        go_wp2
        go_roundw
        case rel => exact ⟨1, by omega, by go_num, HXX.out.bel (below_drewN (Below.refl _ _) _), below_drewN hbel _⟩
        case measure => simp [intOf]; omega
      · have hjS : j < S.length := by omega
        have hcast : ((j + 1 : Nat) : Int) = (j : Int) + 1 := by omega
        obtain ⟨b', o', e', xj⟩ := HX.out _ _ HXX.out j hjS
        injection e' with e'
        injection e' with e1 e2
        subst e1 e2
        have hinj := HIN.out j hjS
        have hbef := HNX.out j hkS
        rw [HSK.out] at hbef
        obtain ⟨sj, hsj⟩ : ∃ s, S[j] = s := ⟨_, rfl⟩
        rw [hsj] at xj hinj hbef
        clear hsj
        have hjb : sj < bs.length := by rw [HN.out]; exact hinj
        have hkb : sk < bs.length := by rw [HN.out]; exact hin
        obtain ⟨v, hv0, hvl, hLG⟩ := HLG.out sj hjb sk hkb hbef
        have HLL := hide hLG
        obtain ⟨bb, oo, Bj, kj, hA1, rj, gj⟩ := (HS.out.bel hbel).at_ hjb
        obtain ⟨bb', oo', Bk, kk, hA2, rk, gk⟩ := (HS.out.bel hbel).at_ hkb
        subst hA1
        injection hA2 with hA
        injection hA with hA1 hA2
        subst hA1 hA2
        have hlj := hide (HCPL.out _ (List.getElem_mem hjb))
        have hlk := hide (HCPL.out _ (List.getElem_mem hkb))
        have HPJ := hide (HPO.out sj hjb)
        have HPK := hide (HPO.out sk hkb)
        have HCJ := hide (fun W q => copy_ref Bj kj (bs[sj]'hjb) W q (by have := hlj.out; omega))
        have HCK := hide (fun W q => copy_ref Bk kk (bs[sk]'hkb) W q (by have := hlk.out; omega))
        obtain ⟨lj, hlj2⟩ : ∃ l, bs[sj].length = l := ⟨_, rfl⟩
        obtain ⟨lk, hlk2⟩ : ∃ l, bs[sk].length = l := ⟨_, rfl⟩
        rw [hlj2] at rj HPJ HCJ
        rw [hlk2] at rk HPK HCK
        obtain ⟨Lj, hLj⟩ : ∃ l, bs[sj] = l := ⟨_, rfl⟩
        obtain ⟨Lk, hLk⟩ : ∃ l, bs[sk] = l := ⟨_, rfl⟩
        rw [hLj] at gj HPJ HCJ
        rw [hLk] at gk HPK HCK
        obtain ⟨Pj, hPj⟩ : ∃ p, PW sj = p := ⟨_, rfl⟩
        obtain ⟨Pk, hPk⟩ : ∃ p, PW sk = p := ⟨_, rfl⟩
        rw [hPj] at HPJ
        rw [hPk] at HPK
        rw [hPj, hPk] at HLL
        have GJ := hide gj
        have GK := hide gk
        have RJ := hide rj
        have RK := hide rk
        have XJ := hide xj
        have hw1 := IntWalk.i64_in ((j : Int) + 1 - 1) (by omega)
        have hw2 := IntWalk.i64_in (j : Int) (by omega)
        have gi1 : (sj : Int) < (n : Int) := by omega
        have gi2 : (sk : Int) < (n : Int) := by omega
        have gi3 : (j : Int) + 1 < (n : Int) := by omega
        have gi4 : (j : Int) < (n : Int) := by omega
        have gi5 : ((j : Int) + 1 == 0) = false := by rw [beq_eq_false_iff_ne]; omega
        rw [hcast] at hki hkci
        have HB := hide hbel
        clear hlj hlk hlj2 hlk2 hLj hLk hPj hPk gj gk hbef hjb hkb hinj hin
        go_wp2
        go_quiet (first | (go_at_call 24; exact HQ1.out _) | (go_at_call 89; exact HQ2.out _ _))
        replace HB := hide (below_drewN HB.out nq)
        have b0 : Below wr.heap.size wr (wr.drewN nq) := below_drewN (Below.refl _ _) nq
        have rj0 : (wr.drewN nq).cell? ⟨bb, oo + sj, none⟩ = some (.slice Bj lj kj) := rj
        have rk0 : (wr.drewN nq).cell? ⟨bb, oo + sk, none⟩ = some (.slice Bk lk kk) := rk
        have xj0 : (wr.drewN nq).cell? ⟨xb, xo + j, none⟩ = some (.int .i64 (sj : Int)) := xj
        have xk0 : (wr.drewN nq).cell? ⟨xb, xo + (j + 1), none⟩ = some (.int .i64 (sk : Int)) := xk
        generalize wr.drewN nq = W0 at *
        clear rj rk xj xk
        go_wp2_with (first
          | (go_at_call 21; have qq := HP1; go_must (refine (HCK.out _ (GK.out.bel b0)).mono ?_; rintro e w15 ⟨A15, c15, rfl, hs15, hb⟩; have HS15 := hide hs15; replace b0 := Below.step b0 hb; replace HB := hide (Below.step HB.out hb); replace HBX1 := hide (HBX1.out.step hb); clear hb hs15; simp only []))
          | (go_at_call 21; go_must (refine (HCJ.out _ (GJ.out.bel b0)).mono ?_; rintro e w12 ⟨A12, c12, rfl, hs12, hb⟩; have HS12 := hide hs12; replace b0 := Below.step b0 hb; replace HB := hide (Below.step HB.out hb); clear hb hs12; simp only []))
          | (go_at_call 53; have qq := HP1; go_must (refine (HCG.out _ (HS'.out.bel HB.out)).mono ?_; rintro e w16 ⟨A16, c16, rfl, hs16, hb⟩; have HS16 := hide hs16; replace HS15 := hide (HS15.out.bel hb); replace b0 := Below.step b0 hb; replace HB := hide (Below.step HB.out hb); replace HBX1 := hide (HBX1.out.step hb); clear hb hs16; simp only []))
          | (go_at_call 53; go_must (refine (HCG.out _ (HS'.out.bel HB.out)).mono ?_; rintro e w13 ⟨A13, c13, rfl, hs13, hb⟩; have HS13 := hide hs13; replace HS12 := hide (HS12.out.bel hb); replace b0 := Below.step b0 hb; replace HB := hide (Below.step HB.out hb); clear hb hs13; simp only []))
          | (go_at_call 86; have qq := HP1; go_must (refine (HPK.out _ _ _ _ _ HS15.out HS16.out).mono ?_; rintro e w17 ⟨rfl, hb⟩; replace b0 := Below.step b0 hb; replace HB := hide (Below.step HB.out hb); replace HBX1 := hide (HBX1.out.step hb); have HBX2 := hide (stay_new w17 42 #[.int .i64 Pk.1, .int .i64 Pk.2]); replace b0 := Below.step b0 ((Below.refl w17.heap.size w17).alloc (Nat.le_refl _) (.cells #[.int .i64 Pk.1, .int .i64 Pk.2] 42)); replace HB := hide (HB.out.alloc HB.out.size (.cells #[.int .i64 Pk.1, .int .i64 Pk.2] 42)); replace HBX1 := hide (HBX1.out.alloc (.cells #[.int .i64 Pk.1, .int .i64 Pk.2] 42)); have x0 : (w17.alloc (.cells #[.int .i64 Pk.1, .int .i64 Pk.2] 42)).cell? ⟨w14.heap.size, 0, none⟩ = some (.int .i64 Pj.1) := HBX1.out.now.cell 0; have x1 : (w17.alloc (.cells #[.int .i64 Pk.1, .int .i64 Pk.2] 42)).cell? ⟨w14.heap.size, 1, none⟩ = some (.int .i64 Pj.2) := HBX1.out.now.cell 1; have HX0 := hide x0; have HX1 := hide x1; have y14 := HBX1.out.now.lt; clear hb HS15 HS16; have xj1 := b0.keeps XJ.out; have xk1 := b0.keeps HXK.out; clear xj0 xk0; simp only []))
          | (go_at_call 86; go_must (refine (HPJ.out _ _ _ _ _ HS12.out HS13.out).mono ?_; rintro e w14 ⟨rfl, hb⟩; replace b0 := Below.step b0 hb; replace HB := hide (Below.step HB.out hb); have HBX1 := hide (stay_new w14 42 #[.int .i64 Pj.1, .int .i64 Pj.2]); replace b0 := Below.step b0 ((Below.refl w14.heap.size w14).alloc (Nat.le_refl _) (.cells #[.int .i64 Pj.1, .int .i64 Pj.2] 42)); replace HB := hide (HB.out.alloc HB.out.size (.cells #[.int .i64 Pj.1, .int .i64 Pj.2] 42)); clear hb HS12 HS13; have rk1 := b0.keeps RK.out; have xk1 := b0.keeps HXK.out; clear rk0 rj0; have HP1 := hide (Eq.refl 0); simp only []))
          | (go_at_call 32; go_must (refine (HLL.out _).mono ?_; rintro e w18 ⟨rfl, hb⟩; replace b0 := Below.step b0 hb; replace HB := hide (Below.step HB.out hb); clear hb; replace xj1 := b0.keeps XJ.out; replace xk1 := b0.keeps HXK.out; simp only [])))
        have hv1 : decide (v < 0) = false := by rw [decide_eq_false_iff_not]; omega
        by_cases hvz : v = 0
        · have hsl := hvl hvz
          have hvz1 : (v == 0) = true := by rw [beq_iff_eq]; exact hvz
          have hgt : decide ((sk : Int) < (sj : Int)) = false := by rw [decide_eq_false_iff_not]; omega
          have hgt2 : decide (sk < sj) = false := by rw [decide_eq_false_iff_not]; omega
          clear hvl hvz hv0 hsl
          go_quiet (fail)
          go_wp2
          go_roundw
          case rel => exact ⟨j + 2, by omega, by go_num, HXX.out.bel (below_drewN b0 _), below_drewN HB.out _⟩
          case measure => simp [intOf]; omega
        · have hvz1 : (v == 0) = false := by rw [beq_eq_false_iff_ne]; exact hvz
          clear hvl hvz hv0
          go_quiet (fail)
          go_wp2
          go_roundw
          case rel => exact ⟨j + 2, by omega, by go_num, HXX.out.bel (below_drewN b0 _), below_drewN HB.out _⟩
          case measure => simp [intOf]; omega
    · go_wp2
      go_ret
      exact ⟨rfl, hbel⟩
theorem BeamBest_law (A : Option Addr) (c : Nat) (bs : List (List Int)) (B : Option Addr) (kc : Nat) (h : List (Int × Int)) (w : World) (hs : BookAt w A bs) (hs' : Sl w B (gv h)) :
    Calls Try.prog 16 #[.slice A bs.length c, .slice B h.length kc] w fun e w' => e = .returned (.bool true) ∧ Below w.heap.size w w' := by
  by_cases q : bookB bs = false ∨ sweepE bs h ≠ 0
  · exact BeamBest_out A c bs B kc h w hs hs' q
  · rw [not_or] at q
    exact BeamBest_ok A c bs B kc h w hs hs' (by cases e : bookB bs; exact absurd e q.1; rfl) (by have := q.2; omega)
end Go.Proofs.Ytamkannjdbodpaa

namespace Go.Proofs.Ytamkannjdbodpaa
open Go.ChangeShapes Go.WideShapes Go.ChangeAt Go.RowKit
set_option linter.unusedVariables false

set_option maxRecDepth 100000 in
theorem beamBest_lifted (os : Os) (started : os.Started) (H : Type) (enc : TypeId × Value → H) :
    ReturnsInHanded {} Try.checked os 16 .any (Rows.beamBestSpec.pre6 enc Try.prog Try.f16 Rows.beamBestRow.domain false) (Rows.beamBestSpec.post enc Try.prog Try.f16 false true false false) := by
  refine returnsInHanded_of_change (C := Try.checked) own started (by kernel_rfl) Try.func16
    (ChangeSpec.witness6 (enc := enc) (C := Try.checked) false ⟨#[], #[.slice none 0 0, .slice none 0 0], []⟩ 8 (by kernel_rfl) (by kernel_rfl) (by kernel_rfl) (by kernel_rfl)) ?_
  intro W base args ds gs before hval0 hW hcnd _
  have hval : ∀ (j : Nat) t v, Try.f16.params[j]? = some t → args[j]? = some v → Value.okWide Try.prog W .any base t v := hval0
  have hW' := hW
  obtain ⟨p, q, hA0, hV, rfl, hfz, hnd⟩ := hW
  have hA : DataW.TrodAll enc Try.prog W 0 (fun _ => true) true Try.f16.params.toList args.toList ds p := hA0
  rw [Try.params16] at hA hval
  obtain ⟨v0, vs0, d0, ds0, p0, q0, hargs, rfl, rfl, h0, r0⟩ := trodAll_cons hA
  obtain ⟨v1, vs1, d1, ds1, p1, q1, rfl, rfl, rfl, h1, r1⟩ := trodAll_cons r0
  obtain ⟨rfl, rfl, rfl⟩ := trodAll_nil r1
  obtain rfl : args = #[v0, v1] := by cases args; simp_all
  obtain ⟨rfl, rfl⟩ := trodVars_none hV
  have k0 := h0
  have lt0 : ∀ x ∈ p0, x.block < W.heap.size := by obtain ⟨m, hm⟩ := k0; exact DataW.trod_lt m _ _ _ hm
  obtain ⟨A0, c0, l0, rfl, hs0⟩ := open_book (hval 0 118 v0 rfl rfl) h0
  have k1 := h1
  have lt1 : ∀ x ∈ p1, x.block < W.heap.size := by obtain ⟨m, hm⟩ := k1; exact DataW.trod_lt m _ _ _ hm
  obtain ⟨A1, c1, l1, rfl, hs1, hw1⟩ := open_gs (hval 1 80 v1 rfl rfl) h1
  clear hA0 hval0
  refine (BeamBest_law A0 c0 l0 A1 c1 l1 W hs0 hs1).mono fun e W' ⟨he, bel⟩ => ?_
  subst he
  exact ⟨_, rfl, _, _, _, [], _, [], hW', trodAll_mk1 (shut_bool Try.underlying4 _), (trodAll_cons_mk (Below.trod laidOut (by kernel_rfl) (of_decide_eq_true (by kernel_rfl)) k0 bel lt0) (trodAll_cons_mk (Below.trod laidOut (by kernel_rfl) (of_decide_eq_true (by kernel_rfl)) k1 bel lt1) trodAll_mk0)), rfl, bel.frame _, fun h => by cases h⟩

theorem beamBest_holds : Rows.BeamBestSaid :=
  OpenClaim.holds_of_wide 16 Try.f16 rfl rfl rfl rfl rfl rfl rfl ⟨rfl, rfl, rfl, rfl, rfl⟩ rfl rfl rfl rfl rfl (by kernel_rfl) Try.func16 (by kernel_rfl)
    (of_decide_eq_true (by kernel_rfl)) (by unfold Func.isWrapper; first | (rw [if_pos (by decide +kernel)]; kernel_rfl) | (rw [if_neg (by decide +kernel)]; exact ⟨rfl, rfl⟩))
    (fun os started H enc _ => beamBest_lifted os started H enc)
#print axioms beamBest_holds
end Go.Proofs.Ytamkannjdbodpaa
