/- The power of a beam for a channel, all beams of a book by their power, and the best one, or the errors, are as specified: for every book and every channel. No condition. -/
import Derived.Test.YtamkannjdbodpaaMem2
import Derived.Test.YtamkannjdbodpaaRows
import Derived.WalkKit
import Derived.ProofKit
import Derived.OpenShut
import Derived.ShutString
import Derived.ChangeOld
import Derived.Below
import Derived.Lib.SmallJoins
import Derived.Test.YtamkannjdbodpaaChB
import Derived.Deep.SlicePairs
import Derived.Test.YtamkannjdbodpaaBookC
import Derived.Test.YtamkannjdbodpaaSwpR
namespace Go.Proofs.Ytamkannjdbodpaa
open Go.ChangeShapes Go.WideShapes Go.ChangeAt Go.RowKit

theorem own : ownKnob Try.prog.godebug = none := by kernel_rfl
theorem laidOut : laidOutB Try.prog = true := by kernel_rfl

theorem array1 {α : Type} {cs : Array α} (h : cs.size = 1) : ∃ c0, cs = #[c0] := by
  obtain ⟨l⟩ := cs
  match l, h with
  | [c0], _ => exact ⟨c0, rfl⟩

theorem add_off (b off k : Nat) : (⟨b, off, none⟩ : Addr).add k = ⟨b, off + k, none⟩ := by
  by_cases h : k = 0
  · subst h; simp [Addr.add]
  · simp [Addr.add, h]

section
variable {H : Type} {enc : TypeId × Value → H} {W : World} {base : Nat} {sp : Nat → Bool} {hd : Bool}

/-- a slice of int, by its cells -/
theorem open_sl {t e : TypeId} {fuel : Nat} {v : Value} {x : DataW H × List MemPlace} (ht : Try.prog.underlying t = some (.slice e)) (he : Try.prog.underlying e = some (.int .i64)) (hc : Try.prog.cellsOf e = 1)
    (h : DataW.trod enc Try.prog W base sp hd fuel t [v] = some x) : ∃ A c l, v = .slice A l.length c ∧ Sl W A (iv l) ∧ ∀ n ∈ l, (Lit.int .i64 n).wf = true := by
  rcases open_ints ht he hc h with ⟨hcs, _⟩ | ⟨a, len, cap, zs, hcs, _, hl, hm, hz, _, hcell, hwz⟩
  · injection hcs with hcs _
    subst hcs
    exact ⟨none, 0, [], rfl, fun k hk => absurd hk (by simp [iv]), by simp⟩
  · injection hcs with hcs _
    subst hcs
    have hlen : len ≤ zs.length := by rw [hz]; split <;> omega
    have ht : (zs.take len).length = len := by rw [List.length_take]; omega
    refine ⟨some a, cap, zs.take len, by rw [ht], ?_, fun n hn => hwz n (List.mem_of_mem_take hn)⟩
    intro k hk
    have hk' : k < len := by rw [iv, List.length_map, ht] at hk; exact hk
    obtain ⟨b, off, spot⟩ := a
    have hc0 := hcell 0 (by omega)
    have hspot : spot = none := by simpa [Addr.add] using World.cell?_spot hc0
    subst hspot
    have hc := hcell k (by omega)
    refine ⟨b, off, rfl, ?_⟩
    have e1 := add_off b off k
    rw [e1] at hc
    rw [hc]
    have hkz : k < zs.length := by omega
    simp [iv, List.getD_eq_getElem?_getD, List.getElem?_eq_getElem hkz]
end
theorem int_one : Try.prog.cellsOf 3 = 1 := by kernel_rfl
theorem ints_one : Try.prog.cellsOf 22 = 1 := by kernel_rfl
theorem beam_one : Try.prog.cellsOf 24 = 1 := by kernel_rfl

set_option maxRecDepth 100000 in
/-- a beam as it comes in: a slice that reads as a list -/
theorem open_beam {H : Type} {enc : TypeId × Value → H} {W : World} {b0 base : Nat} {sp : Nat → Bool} {hd : Bool} {r : Reach} {v : Value} {d : DataW H} {p : List MemPlace}
    (hv : Value.okWide Try.prog W r b0 24 v) (h : DataW.Trod enc Try.prog W base sp hd 24 v d p) :
    ∃ A c l, v = .agg #[.slice A l.length c] ∧ Sl W A (iv l) ∧ ∀ n ∈ l, (Lit.int .i64 n).wf = true := by
  obtain ⟨cs, rfl, hsz⟩ := okWide_struct Try.underlying24 hv
  obtain ⟨c0, rfl⟩ := array1 (hsz.trans beam_one)
  obtain ⟨fuel, hf⟩ := h
  obtain ⟨y0, n, _, _, h0⟩ := trod_struct1 Try.underlying24 hf
  obtain ⟨A, c, l, rfl, hs, hw⟩ := open_sl Try.underlying22 Try.underlying3 int_one (by simpa [Value.cells, ints_one] using h0)
  exact ⟨A, c, l, rfl, hs, hw⟩
end Go.Proofs.Ytamkannjdbodpaa

namespace Go.Proofs.Ytamkannjdbodpaa
open Go.ChangeShapes Go.WideShapes Go.ChangeAt Go.RowKit

theorem array2 {α : Type} {cs : Array α} (h : cs.size = 2) : ∃ c0 c1, cs = #[c0, c1] := by
  obtain ⟨l⟩ := cs
  match l, h with
  | [c0, c1], _ => exact ⟨c0, c1, rfl⟩
theorem array3 {α : Type} {cs : Array α} (h : cs.size = 3) : ∃ c0 c1 c2, cs = #[c0, c1, c2] := by
  obtain ⟨l⟩ := cs
  match l, h with
  | [c0, c1, c2], _ => exact ⟨c0, c1, c2, rfl⟩

section
variable {H : Type} {enc : TypeId × Value → H} {W : World} {b0 base : Nat} {sp : Nat → Bool} {hd : Bool} {r : Reach} {v : Value} {d : DataW H} {p : List MemPlace}

set_option maxRecDepth 100000 in
/-- a struct of two ints as it comes in -/
theorem open_two {t : TypeId} {f0 f1 : Field} (ht : Try.prog.underlying t = some (.struct #[f0, f1])) (hc : Try.prog.cellsOf t = 2) (h0 : Try.prog.underlying f0.type = some (.int .i64)) (h1 : Try.prog.underlying f1.type = some (.int .i64))
    (o0 : f0.offset = 0) (o1 : f1.offset = 1) (s0 : Try.prog.cellsOf f0.type = 1) (s1 : Try.prog.cellsOf f1.type = 1)
    (hv : Value.okWide Try.prog W r b0 t v) (h : DataW.Trod enc Try.prog W base sp hd t v d p) :
    ∃ a b, v = .agg #[.int .i64 a, .int .i64 b] ∧ (Lit.int .i64 a).wf = true ∧ (Lit.int .i64 b).wf = true := by
  obtain ⟨cs, rfl, hsz⟩ := okWide_struct ht hv
  obtain ⟨c0, c1, rfl⟩ := array2 (hsz.trans hc)
  obtain ⟨fuel, hf⟩ := h
  obtain ⟨y0, y1, n, _, _, g0, g1⟩ := trod_struct2 ht hf
  obtain ⟨a, e0, _, w0⟩ := DataW.trod_int h0 g0
  obtain ⟨b, e1, _, w1⟩ := DataW.trod_int h1 g1
  rw [o0, s0] at e0
  rw [o1, s1] at e1
  simp [Value.cells] at e0 e1
  subst e0 e1
  exact ⟨a, b, rfl, w0, w1⟩

theorem trod_struct3 {t : TypeId} {f0 f1 f2 : Field} {fuel : Nat} {cs : List Value} {x : DataW H × List MemPlace} (ht : Try.prog.underlying t = some (.struct #[f0, f1, f2])) (h : DataW.trod enc Try.prog W base sp hd fuel t cs = some x) :
    ∃ y0 y1 y2 n, DataW.trod enc Try.prog W base sp hd n f0.type ((cs.drop f0.offset).take (Try.prog.cellsOf f0.type)) = some y0 ∧
      DataW.trod enc Try.prog W base sp hd n f1.type ((cs.drop f1.offset).take (Try.prog.cellsOf f1.type)) = some y1 ∧ DataW.trod enc Try.prog W base sp hd n f2.type ((cs.drop f2.offset).take (Try.prog.cellsOf f2.type)) = some y2 := by
  obtain ⟨xs, n, _, rfl, hl, hlen, hf⟩ := DataW.trod_struct ht h
  match xs, hlen with
  | [y0, y1, y2], _ => exact ⟨y0, y1, y2, n, by simpa using hf 0 f0 rfl, by simpa using hf 1 f1 rfl, by simpa using hf 2 f2 rfl⟩

set_option maxRecDepth 100000 in
/-- a struct of three ints as it comes in -/
theorem open_three {t : TypeId} {f0 f1 f2 : Field} (ht : Try.prog.underlying t = some (.struct #[f0, f1, f2])) (hc : Try.prog.cellsOf t = 3) (h0 : Try.prog.underlying f0.type = some (.int .i64)) (h1 : Try.prog.underlying f1.type = some (.int .i64)) (h2 : Try.prog.underlying f2.type = some (.int .i64))
    (o0 : f0.offset = 0) (o1 : f1.offset = 1) (o2 : f2.offset = 2) (s0 : Try.prog.cellsOf f0.type = 1) (s1 : Try.prog.cellsOf f1.type = 1) (s2 : Try.prog.cellsOf f2.type = 1)
    (hv : Value.okWide Try.prog W r b0 t v) (h : DataW.Trod enc Try.prog W base sp hd t v d p) :
    ∃ a b c, v = .agg #[.int .i64 a, .int .i64 b, .int .i64 c] ∧ (Lit.int .i64 a).wf = true ∧ (Lit.int .i64 b).wf = true ∧ (Lit.int .i64 c).wf = true := by
  obtain ⟨cs, rfl, hsz⟩ := okWide_struct ht hv
  obtain ⟨c0, c1, c2, rfl⟩ := array3 (hsz.trans hc)
  obtain ⟨fuel, hf⟩ := h
  obtain ⟨y0, y1, y2, n, g0, g1, g2⟩ := trod_struct3 ht hf
  obtain ⟨a, e0, _, w0⟩ := DataW.trod_int h0 g0
  obtain ⟨b, e1, _, w1⟩ := DataW.trod_int h1 g1
  obtain ⟨c, e2, _, w2⟩ := DataW.trod_int h2 g2
  rw [o0, s0] at e0
  rw [o1, s1] at e1
  rw [o2, s2] at e2
  simp [Value.cells] at e0 e1 e2
  subst e0 e1 e2
  exact ⟨a, b, c, rfl, w0, w1, w2⟩

set_option maxRecDepth 100000 in
/-- a slice of int as it comes in -/
theorem open_list {t e : TypeId} (ht : Try.prog.underlying t = some (.slice e)) (he : Try.prog.underlying e = some (.int .i64)) (hc : Try.prog.cellsOf e = 1)
    (hv : Value.okWide Try.prog W r b0 t v) (h : DataW.Trod enc Try.prog W base sp hd t v d p) : ∃ A c l, v = .slice A l.length c ∧ Sl W A (iv l) ∧ ∀ n ∈ l, (Lit.int .i64 n).wf = true := by
  obtain ⟨A, n, c, rfl⟩ := okWide_slice ht hv
  obtain ⟨fuel, hf⟩ := h
  obtain ⟨A', c', l, e, hs, hw⟩ := open_sl ht he hc (by simpa [Value.cells] using hf)
  exact ⟨A', c', l, e, hs, hw⟩
end
end Go.Proofs.Ytamkannjdbodpaa

namespace Go.Proofs.Ytamkannjdbodpaa
open Go.ChangeShapes Go.WideShapes Go.ChangeAt Go.RowKit Go.Deep

section
variable {H : Type} {enc : TypeId × Value → H} {W : World} {b0 base : Nat} {sp : Nat → Bool} {hd : Bool} {r : Reach} {v : Value}

theorem sl_pairs {b off len : Nat} (f : Nat → Int × Int) (h0 : ∀ i, i < len → W.cell? ⟨b, off + i * 2, none⟩ = some (.int .i64 (f i).1)) (h1 : ∀ i, i < len → W.cell? ⟨b, off + i * 2 + 1, none⟩ = some (.int .i64 (f i).2)) :
    Sl W (some ⟨b, off, none⟩) (gv ((List.range len).map f)) := by
  intro k hk
  have hl : ((List.range len).map f).length = len := by simp
  have hk2 : k < len * 2 := by rw [gv_len, hl] at hk; exact hk
  obtain ⟨g0, g1⟩ := gv_at ((List.range len).map f) (k / 2) (by rw [hl]; omega)
  have hq : ((List.range len).map f)[k / 2]'(by rw [hl]; omega) = f (k / 2) := by simp
  rw [hq] at g0 g1
  refine ⟨b, off, rfl, ?_⟩
  rcases Nat.mod_two_eq_zero_or_one k with hm | hm
  · have e : k / 2 * 2 = k := by omega
    have c := h0 (k / 2) (by omega)
    rw [e] at g0 c
    rw [List.getElem?_eq_getElem hk] at g0
    rw [c]; exact g0.symm
  · have e : k / 2 * 2 + 1 = k := by omega
    have c := h1 (k / 2) (by omega)
    rw [Nat.add_assoc, e] at c
    rw [e] at g1
    rw [List.getElem?_eq_getElem hk] at g1
    rw [c]; exact g1.symm
/-- a slice of structs of two ints, by its cells -/
theorem open_gl {t e : TypeId} {f0 f1 : Field} {fuel : Nat} {x : DataW H × List MemPlace} (ht : Try.prog.underlying t = some (.slice e)) (he : Try.prog.underlying e = some (.struct #[f0, f1]))
    (ce : Try.prog.cellsOf e = 2) (o0 : f0.offset = 0) (o1 : f1.offset = 1) (c0 : Try.prog.cellsOf f0.type = 1) (c1 : Try.prog.cellsOf f1.type = 1) (u0 : Try.prog.underlying f0.type = some (.int .i64)) (u1 : Try.prog.underlying f1.type = some (.int .i64))
    (h : DataW.trod enc Try.prog W base sp hd fuel t [v] = some x) : ∃ A c l, v = .slice A l.length c ∧ Sl W A (gv l) ∧ ∀ z ∈ l, (Lit.int .i64 z.1).wf = true ∧ (Lit.int .i64 z.2).wf = true := by
  rcases open_slice_pairs ht he ce o0 o1 c0 c1 h with ⟨hcs, _⟩ | ⟨a, len, cap, m, n, V0, V1, D0, D1, P0, P1, hcs, _, hl, _, hm, _, hx⟩
  · injection hcs with hcs _
    subst hcs
    exact ⟨none, 0, [], rfl, fun k hk => absurd hk (by simp [gv]), by simp⟩
  · injection hcs with hcs _
    subst hcs
    have hlm : len ≤ m := by rw [hm]; split <;> omega
    obtain ⟨f, hf⟩ := choose_lt (α := Int × Int) (n := len) (p := fun i z => V0 i = .int .i64 z.1 ∧ V1 i = .int .i64 z.2 ∧ (Lit.int .i64 z.1).wf = true ∧ (Lit.int .i64 z.2).wf = true) (fun i hi => by
      obtain ⟨_, _, g0, g1⟩ := hx i (by omega)
      obtain ⟨z0, e0, _, w0⟩ := DataW.trod_int u0 g0
      obtain ⟨z1, e1, _, w1⟩ := DataW.trod_int u1 g1
      injection e0 with e0 _
      injection e1 with e1 _
      exact ⟨(z0, z1), e0, e1, w0, w1⟩)
    refine ⟨some a, cap, (List.range len).map f, by simp, ?_, fun z hz => ?_⟩
    · rcases Nat.eq_zero_or_pos len with q | q
      · subst q; intro k hk; exact absurd hk (by simp [gv])
      · obtain ⟨b, off, spot⟩ := a
        have hspot : spot = none := by
          have := (hx 0 (by omega)).1
          simpa [Addr.add] using World.cell?_spot this
        subst hspot
        refine sl_pairs f (fun i hi => ?_) (fun i hi => ?_)
        · have := (hx i (by omega)).1
          rw [add_off, (hf i hi).1] at this
          exact this
        · have := (hx i (by omega)).2.1
          rw [add_off, (hf i hi).2.1] at this
          rw [Nat.add_assoc]; exact this
    · obtain ⟨i, hi, rfl⟩ := List.mem_map.1 hz
      exact (hf i (List.mem_range.1 hi)).2.2
set_option maxRecDepth 100000 in
/-- a channel as it comes in -/
theorem open_gs {d : DataW H} {p : List MemPlace} (hv : Value.okWide Try.prog W r b0 80 v) (h : DataW.Trod enc Try.prog W base sp hd 80 v d p) :
    ∃ A c l, v = .slice A l.length c ∧ Sl W A (gv l) ∧ ∀ z ∈ l, (Lit.int .i64 z.1).wf = true ∧ (Lit.int .i64 z.2).wf = true := by
  obtain ⟨A, n, c, rfl⟩ := okWide_slice Try.underlying80 hv
  obtain ⟨fuel, hf⟩ := h
  obtain ⟨A', c', l, e, hs, hw⟩ := open_gl Try.underlying80 Try.underlying90 (by kernel_rfl) rfl rfl int_one int_one Try.underlying3 Try.underlying3 (by simpa [Value.cells] using hf)
  exact ⟨A', c', l, e, hs, hw⟩
end
end Go.Proofs.Ytamkannjdbodpaa

namespace Go.Proofs.Ytamkannjdbodpaa
open Go.ChangeShapes Go.WideShapes Go.ChangeAt Go.RowKit Go.Deep

section
variable {H : Type} {enc : TypeId × Value → H} {W : World} {b0 base : Nat} {sp : Nat → Bool} {hd : Bool} {r : Reach} {v : Value}

set_option maxRecDepth 100000 in
/-- a book as it comes in -/
theorem open_book {d : DataW H} {p : List MemPlace} (hv : Value.okWide Try.prog W r b0 118 v) (h : DataW.Trod enc Try.prog W base sp hd 118 v d p) :
    ∃ A c us, v = .slice A us.length c ∧ BookAt W A us := by
  obtain ⟨A, n, c, rfl⟩ := okWide_slice Try.underlying118 hv
  obtain ⟨fuel, hf⟩ := h
  have hf' : DataW.trod enc Try.prog W base sp hd fuel 118 [.slice A n c] = some (d, p) := by simpa [Value.cells] using hf
  rcases open_slice1 Try.underlying118 (by kernel_rfl) hf' with ⟨hcs, _⟩ | ⟨a, len, cap, m, k, V, D, Pl, hcs, _, hl, _, hm, _, hx⟩
  · injection hcs with hcs _
    injection hcs with h1 h2 h3
    subst h1 h2 h3
    exact ⟨none, 0, [], rfl, [], fun k hk => absurd hk (by simp), rfl, fun k hk => absurd hk (by simp)⟩
  · injection hcs with hcs _
    injection hcs with h1 h2 h3
    subst h1 h2 h3
    have hlm : n ≤ m := by rw [hm]; split <;> omega
    obtain ⟨f, hfx⟩ := choose_lt (α := Option Addr × Nat × List Int) (n := n) (p := fun i y => V i = .slice y.1 y.2.2.length y.2.1 ∧ Sl W y.1 (iv y.2.2)) (fun i hi => by
      obtain ⟨_, g1⟩ := hx i (by omega)
      obtain ⟨y0, n1, _, _, h0⟩ := trod_struct1 Try.underlying24 g1
      obtain ⟨B, q, l, e1, e2, _⟩ := open_sl Try.underlying22 Try.underlying3 int_one (by simpa [Value.cells, ints_one] using h0)
      exact ⟨(B, q, l), e1, e2⟩)
    refine ⟨some a, c, (List.range n).map (fun i => (f i).2.2), by simp, (List.range n).map V, ?_, by simp, fun k hk => ?_⟩
    · intro k hk
      have hk' : k < n := by simpa using hk
      obtain ⟨b, off, spot⟩ := a
      have hspot : spot = none := by
        have := (hx 0 (by omega)).1
        simpa [Addr.add] using World.cell?_spot this
      subst hspot
      refine ⟨b, off, rfl, ?_⟩
      have e1 := (hx k (by omega)).1
      rw [add_off] at e1
      rw [e1]
      simp
    · have hk' : k < n := by simpa using hk
      obtain ⟨e1, e2⟩ := hfx k hk'
      exact ⟨(f k).1, (f k).2.1, by simp [hk', e1], by simpa using e2⟩
end
end Go.Proofs.Ytamkannjdbodpaa

namespace Go.Proofs.Ytamkannjdbodpaa
open Go.RowKit Go.WideShapes Go.ChangeShapes

theorem numbers_at (A : Option Addr) (n c : Nat) (w : World) :
    Calls Try.prog 59 #[.slice A n c] w fun e w' => e = .returned (.bool (decide ((n : Int) ≤ 10))) ∧ w = w' := by
  go_enter Try.func59, Try.ntmps59
  go_wp2
  go_ret
  exact ⟨by simp, rfl⟩
theorem copyGs (A : Option Addr) (c n : Nat) (l : List (Int × Int)) (w : World) (hn : l.length = n) (hs : Sl w A (gv l)) (hl : n ≤ 1000000) :
    Calls Try.prog 53 #[.slice A n c] w fun e w' => ∃ A' c', e = .returned (.slice A' n c') ∧ Sl w' A' (gv l) ∧ Below w.heap.size w w' := by
  subst hn
  exact (copyGausses A c l w hs hl).mono fun e w' ⟨A', c', h1, h2, h3⟩ => ⟨A', c', h1, Sl.of_ownN h2, h3⟩
set_option maxRecDepth 100000 in
theorem sqr_neq (a b a' b' : Int) (w : World) : (binOp .neq 42 (.agg #[.int .i64 a, .int .i64 b]) (.agg #[.int .i64 a', .int .i64 b'])).run Try.prog w = .ok (.bool (!(a == a' && b == b'))) w := by
  rw [run_neq_struct, run_equalIn_agg (d := 9999) (ht := sq_under) (hp := sq_held)]
  simp [go_sem]
  (repeat' split) <;> simp_all

theorem BeamSweeps_book (A : Option Addr) (c : Nat) (bs : List (List Int)) (B : Option Addr) (m kc : Nat) (w : World) (hs : BookAt w A bs) (h : bookB bs = false ∨ 10 < m) :
    Calls Try.prog 15 #[.slice A bs.length c, .slice B m kc] w fun e w' => e = .returned (.bool true) ∧ Below w.heap.size w w' := by
  have HF := hide (fun W k => book_law A c bs W k)
  have HS := hide hs; clear hs
  cases hb : bookB bs
  · rw [hb] at HF
    clear h hb
    go_enter Try.func15, Try.ntmps15
    go_wp2_with (first
      | (go_at_call 18; go_must (refine (awake_ok _).mono ?_; rintro e w1 ⟨rfl, hb⟩; have B1 := hide hb; clear hb; simp only []))
      | (go_at_call 80; go_must (refine (HF.out _ (HS.out.bel B1.out)).mono ?_; rintro e w2 ⟨rfl, hb⟩; have B2 := hide (Below.step B1.out hb); clear hb; simp only [])))
    go_ret
    exact ⟨rfl, B2.out⟩
  · rw [hb] at HF
    have hm : 10 < m := by
      rcases h with h | h
      · exact absurd (hb.symm.trans h) (by decide)
      · exact h
    have hd : decide ((m : Int) ≤ 10) = false := by rw [decide_eq_false_iff_not]; omega
    clear h hb
    go_enter Try.func15, Try.ntmps15
    go_wp2_with (first
      | (go_at_call 18; go_must (refine (awake_ok _).mono ?_; rintro e w1 ⟨rfl, hb⟩; have B1 := hide hb; clear hb; simp only []))
      | (go_at_call 80; go_must (refine (HF.out _ (HS.out.bel B1.out)).mono ?_; rintro e w2 ⟨rfl, hb⟩; have B2 := hide (Below.step B1.out hb); clear hb; simp only []))
      | (go_at_call 59; go_must (refine (numbers_at _ _ _ _).mono ?_; rintro e w' ⟨rfl, rfl⟩; simp only [])))
    go_ret
    exact ⟨rfl, B2.out⟩

theorem powE_of {bs : List (List Int)} {h : List (Int × Int)} (e : sweepE bs h = 0) {u : List Int} (hu : u ∈ bs) : (chk u).2 = 0 ∧ chE h = 0 :=
  ⟨(bookE_ok (firstOf_ok e (bookE bs) (by simp))).2.2 u hu, firstOf_ok e (chE h) (by simp)⟩

set_option maxRecDepth 100000 in
set_option maxHeartbeats 8000000 in
theorem BeamSweeps_ok (A : Option Addr) (c : Nat) (bs : List (List Int)) (B : Option Addr) (kc : Nat) (h : List (Int × Int)) (w : World) (hs : BookAt w A bs) (hs' : Sl w B (gv h)) (hbk : bookB bs = true) (hm10 : h.length ≤ 10) (he : sweepE bs h = 0) :
    Calls Try.prog 15 #[.slice A bs.length c, .slice B h.length kc] w fun e w' => e = .returned (.bool true) ∧ Below w.heap.size w w' := by
  have hb2 := hbk
  unfold bookB at hb2
  simp only [Bool.and_eq_true, Bool.not_eq_true', Bool.or_eq_false_iff, decide_eq_false_iff_not, List.all_eq_true, decide_eq_true_eq] at hb2
  have hn18 : bs.length ≤ 18 := by have := hb2.1.2; omega
  have hl : ∀ b ∈ bs, b.length ≤ 100 := fun b hb => by have := hb2.2 b hb; omega
  have HF := hide (fun W k => book_law A c bs W k)
  rw [hbk] at HF
  have HCB := hide (fun W k => copyBook_ref A c bs W k hl (by omega))
  have HCG := hide (fun W k => copyGs B kc h.length h W rfl k (by omega))
  have HSE := hide (fun W k k' => sweepErr_ref A c bs B h.length kc h W k k' hl (by omega) rfl)
  have HCE := hide (fun W k => channelErr_ref B kc h W k)
  obtain ⟨S, hS⟩ := sorted_ex (gtB_weak bs h) bs.length
  have HSW := hide (fun Q q P p W k k' => sweep_at Q q bs P p h W k k' hl (by omega) he S hS)
  have HBO := hide (fun Q q P p W k k' => bestOf_at Q q bs P p h W k k' hl (by omega) he S hS)
  have HRS := hide (fun W k k' => sweep_ref A c bs B kc h W k k' he S hS)
  have hpos := (sweepE_ok he).pos
  have hSl : 0 < S.length := by rw [hS.len]; exact hpos
  have hSn := hS.len
  have hz : (iv (zs S))[0]? = some (.int .i64 ((S[0]?.getD 0 : Nat) : Int)) := by rw [zs_at S 0 hSl, List.getElem?_eq_getElem hSl]; rfl
  have hl0 : 0 < (iv (zs S)).length := by simp [iv, zs, hSl]
  obtain ⟨z, hzz⟩ : ∃ z : Nat, S[0]?.getD 0 = z := ⟨_, rfl⟩
  rw [hzz] at hz HBO
  have HZ := hide hz
  have HL0 := hide hl0
  have hzl : (zs S).length = bs.length := by rw [zs_len, hSn]
  have HIS := hide (fun P Q p q W k k' => ints_same P Q p q bs.length (zs S) W k k' hzl (by omega))
  rw [he] at HSE
  clear hzl hz hzz hSl hS hSn hl0
  have HE0 := hide he
  have HLN := hide hl
  obtain ⟨n, hn⟩ : ∃ n, bs.length = n := ⟨_, rfl⟩
  obtain ⟨m, hm⟩ : ∃ m, h.length = m := ⟨_, rfl⟩
  have hd : decide ((m : Int) ≤ 10) = true := by rw [decide_eq_true_iff]; omega
  rw [hn] at HF HCB HSW HBO HSE hn18 HRS HIS hpos
  rw [hm] at HCG HSW HBO HSE HCE hm10 HRS
  rw [hn, hm]
  have HN := hide hn
  have HM := hide hm
  have HS := hide hs
  have HS' := hide hs'
  have hpi : (0 : Int) < (n : Int) := by omega
  have HB := hide (Below.refl w.heap.size w)
  have HT := hide (Stay.triv w)
  clear hs hs' hbk hb2 hl hn hm he hpos
  go_enter Try.func15, Try.ntmps15
  go_wp2_with (first
    | (go_at_call 18; go_must (refine (awake_ok _).mono ?_; rintro e w1 ⟨rfl, hb⟩; replace HB := hide (Below.step HB.out hb); replace HT := hide (HT.out.step hb); clear hb; simp only []))
    | (go_at_call 80; go_must (refine (HF.out _ (HS.out.bel HB.out)).mono ?_; rintro e w2 ⟨rfl, hb⟩; replace HB := hide (Below.step HB.out hb); replace HT := hide (HT.out.step hb); clear hb; simp only []))
    | (go_at_call 59; go_must (refine (numbers_at _ _ _ _).mono ?_; rintro e w' ⟨rfl, rfl⟩; simp only []))
    | (go_at_call 82; have qq := HX1; go_must (refine (HCB.out _ (HS.out.bel HB.out)).mono ?_; rintro e w6 ⟨C6, c6, rfl, hs6, hb⟩; have HC6 := hide hs6; replace HB := hide (Below.step HB.out hb); replace HT := hide (HT.out.step hb); clear hb; clear hs6; simp only []))
    | (go_at_call 82; go_must (refine (HCB.out _ (HS.out.bel HB.out)).mono ?_; rintro e w3 ⟨C3, c3, rfl, hs3, hb⟩; have HC3 := hide hs3; replace HB := hide (Below.step HB.out hb); replace HT := hide (HT.out.step hb); clear hb; clear hs3; simp only []))
    | (go_at_call 53; have qq := HX1; go_must (refine (HCG.out _ (HS'.out.bel HB.out)).mono ?_; rintro e w7 ⟨C7, c7, rfl, hs7, hb⟩; have HC7 := hide hs7; replace HC6 := hide (HC6.out.bel hb); replace HB := hide (Below.step HB.out hb); replace HT := hide (HT.out.step hb); clear hb; clear hs7; simp only []))
    | (go_at_call 53; go_must (refine (HCG.out _ (HS'.out.bel HB.out)).mono ?_; rintro e w4 ⟨C4, c4, rfl, hs4, hb⟩; have HC4 := hide hs4; replace HC3 := hide (HC3.out.bel hb); replace HB := hide (Below.step HB.out hb); replace HT := hide (HT.out.step hb); clear hb; clear hs4; simp only []))
    | (go_at_call 81; go_must (refine (HSW.out _ _ _ _ _ HC3.out HC4.out).mono ?_; rintro e w5 ⟨X5, x5, rfl, hx5, hb⟩; replace HT := hide ((HT.out.step hb).and (stay_sl hx5)); replace HB := hide (Below.step HB.out hb); clear hb hx5 HC3 HC4; have HX1 := hide (Eq.refl 0); simp only []))
    | (go_at_call 83; go_must (refine (HBO.out _ _ _ _ _ HC6.out HC7.out).mono ?_; rintro e w8 ⟨rfl, hb⟩; replace HB := hide (Below.step HB.out hb); replace HT := hide (HT.out.step hb); clear hb; clear HC6 HC7; simp only []))
    | (go_at_call 84; go_must (refine (HSE.out _ (HS.out.bel HB.out) (HS'.out.bel HB.out)).mono ?_; rintro e w9 ⟨rfl, hb⟩; replace HB := hide (Below.step HB.out hb); replace HT := hide (HT.out.step hb); clear hb; simp only []))
    | (go_at_call 85; go_must (refine (HRS.out _ (HS.out.bel HB.out) (HS'.out.bel HB.out)).mono ?_; rintro e w10 ⟨X10, x10, rfl, hx10, hb⟩; replace HB := hide (Below.step HB.out hb); replace HT := hide (HT.out.step hb); clear hb; have HX10 := hide hx10; obtain ⟨xb, xo, rfl, hc⟩ := hx10 0 HL0.out; have xc : w10.cell? ⟨xb, xo, none⟩ = some (.int .i64 (z : Int)) := (by have h2 := HZ.out; rw [List.getElem?_eq_getElem HL0.out] at h2; rw [← h2]; simpa using hc); clear hc; simp only []))
    | (go_at_call 26; go_must (refine (HIS.out _ _ _ _ _ HT.out.now.2 HX10.out).mono ?_; rintro e w' ⟨rfl, nq, rfl⟩; have xd : (w10.drewN nq).cell? ⟨xb, xo, none⟩ = some (.int .i64 (z : Int)) := xc; replace HB := hide (below_drewN HB.out nq); replace HT := hide (HT.out.drewN nq); simp only [])))
  go_wp2
  go_loopw [11] (fun i wr => ∃ k : Nat, k ≤ n ∧ i = .int .i64 k ∧ Below w.heap.size w wr) (fun i _ => n - (intOf i).toNat)
  case atStart => exact ⟨0, Nat.zero_le _, rfl, by first | exact HB.out | exact below_drewN HB.out _⟩
  case round =>
    clear HB HT
    obtain ⟨k, hk, rfl, hbel⟩ := hrel
    by_cases hlt : k < n
    · have hki : k < bs.length := by rw [HN.out]; exact hlt
      have hkl := HLN.out _ (List.getElem_mem hki)
      obtain ⟨bb, oo, Bi, ki, rfl, ri, gi⟩ := (HS.out.bel hbel).at_ hki
      have hmem := List.getElem_mem hki
      have HOKK := hide (fun (e : sweepE bs h = 0) => (sweepE_ok e).len _ hmem)
      have HOKP := hide (fun (e : sweepE bs h = 0) => powE_of e hmem)
      obtain ⟨u, hu⟩ : ∃ u, bs[k] = u := ⟨_, rfl⟩
      rw [hu] at ri gi hkl HOKK HOKP
      have HCP := hide (fun W k => copy_ref Bi ki u W k (by omega))
      have HPO := hide (fun P Q q q' W k k' => powerOf_beam P q u Q q' h W k k' (by omega) (by have := HM.out; omega))
      have HER := hide (fun W k => beamErr_ref Bi ki u W k (by omega))
      obtain ⟨lu, hlu⟩ : ∃ l, u.length = l := ⟨_, rfl⟩
      rw [hlu] at ri HCP HPO HER
      rw [HM.out] at HPO
      have RI := hide ri
      have GI := hide gi
      have HB := hide hbel
      have HLU := hide hlu
      have hg1 : (k : Int) < (n : Int) := by omega
      clear hmem gi hu hlu hki hkl
      obtain ⟨q1, q2⟩ := HOKP.out HE0.out
      have q3 := HOKK.out HE0.out
      have q3 : h.length = u.length := q3.symm
      have hpe : powE u h = 0 := by unfold powE; rw [q1, q2, decide_eq_true q3]; rfl
      have hpv : powV u h = ((pow u h).P, (pow u h).Q) := if_pos hpe
      obtain ⟨p1, p2, p3, p4, _⟩ := powE_ok hpe
      rw [hpv, hpe] at HPO
      dsimp only at HPO
      have HPR := hide (fun W k k' => powerOf_ref Bi ki u B m kc h W k k' (by have := HM.out; omega) HM.out (by have := HM.out; omega) p1 p4.2)
      obtain ⟨PV1, hPV1⟩ : ∃ z : Int, (pow u h).P = z := ⟨_, rfl⟩
      obtain ⟨PV2, hPV2⟩ : ∃ z : Int, (pow u h).Q = z := ⟨_, rfl⟩
      rw [hPV1, hPV2] at HPO HPR
      have hlm : lu = m := by have := HM.out; have := HLU.out; omega
      subst hlm
      rw [q1] at HER
      rw [q2] at HCE
      clear hpe hpv p1 p2 p3 p4 hPV1 hPV2 q1 q2 q3 HOKK HOKP
      have hq : ∀ w, (binOp .neq 42 (.agg #[.int .i64 PV1, .int .i64 PV2]) (.agg #[.int .i64 PV1, .int .i64 PV2])).run Try.prog w = .ok (.bool false) w := fun w => (sqr_neq _ _ _ _ w).trans (by simp)
      have hlll : ((lu : Int) != (lu : Int)) = false := by simp
      go_wp2_with (first
        | (go_at_call 21; go_must (refine (HCP.out _ (GI.out.bel (by first | exact Below.refl _ _ | go_grown))).mono ?_; rintro e w15 ⟨A15, c15, rfl, hs15, hb⟩; have HS15 := hide hs15; have b15 : Below wr.heap.size wr w15 := hb; replace HB := hide (Below.step HB.out hb); clear hb hs15; simp only []))
        | (go_at_call 53; go_must (refine (HCG.out _ (HS'.out.bel HB.out)).mono ?_; rintro e w16 ⟨A16, c16, rfl, hs16, hb⟩; have HS16 := hide hs16; replace HS15 := hide (HS15.out.bel hb); replace HB := hide (Below.step HB.out hb); replace b15 := Below.step b15 hb; clear hb hs16; simp only []))
        | (go_at_call 86; go_must (refine (HPO.out _ _ _ _ _ HS15.out HS16.out).mono ?_; rintro e w17 ⟨rfl, hb⟩; replace HB := hide (Below.step HB.out hb); replace b15 := Below.step b15 hb; have HBX := hide (stay_new w17 42 #[.int .i64 PV1, .int .i64 PV2]); have b17 := Below.step b15 ((Below.refl w17.heap.size w17).alloc (Nat.le_refl _) (.cells #[.int .i64 PV1, .int .i64 PV2] 42)); have y17 := b15.size; replace ri := b17.keeps RI.out; replace HB := hide (HB.out.alloc HB.out.size (.cells #[.int .i64 PV1, .int .i64 PV2] 42)); clear hb HS15 HS16 b15; simp only []))
        | (go_at_call 28; go_must (refine (HER.out _ (GI.out.bel b17)).mono ?_; rintro e w18 ⟨rfl, hb⟩; replace b17 := Below.step b17 hb; replace HB := hide (Below.step HB.out hb); replace HBX := hide (HBX.out.step hb); replace ri := b17.keeps RI.out; clear hb; have x0 : w18.cell? ⟨w17.heap.size, 0, none⟩ = some (.int .i64 PV1) := HBX.out.now.cell 0; have x1 : w18.cell? ⟨w17.heap.size, 1, none⟩ = some (.int .i64 PV2) := HBX.out.now.cell 1; simp only []))
        | (go_at_call 87; go_must (refine (HCE.out _ (HS'.out.bel HB.out)).mono ?_; rintro e w19 ⟨rfl, hb⟩; replace b17 := Below.step b17 hb; replace HB := hide (Below.step HB.out hb); replace HBX := hide (HBX.out.step hb); replace ri := b17.keeps RI.out; clear hb x0 x1; have x0 : w19.cell? ⟨w17.heap.size, 0, none⟩ = some (.int .i64 PV1) := HBX.out.now.cell 0; have x1 : w19.cell? ⟨w17.heap.size, 1, none⟩ = some (.int .i64 PV2) := HBX.out.now.cell 1; simp only [])))
      refine wp_region_held_drew (S := (fun w' => w'.cell? ⟨w17.heap.size, 0, none⟩ = some (.int .i64 PV1) ∧ w'.cell? ⟨w17.heap.size, 1, none⟩ = some (.int .i64 PV2) ∧ w'.cell? ⟨bb, oo + k, none⟩ = some (.slice Bi lu ki))) (by kernel_rfl) ?_ (fun hHeld => ?_)
      · exact ⟨x0, x1, ri⟩
      refine wpAnyH_take (i := 0) (v := ?_) rfl (by kernel_rfl) (by kernel_rfl) (by kernel_rfl) (fun _ _ _ h => h) (Or.inl ⟨by kernel_rfl, ?_⟩) (by assumption) ?_
      rotate_left
      · intro w' hSw; (try dsimp only at hSw); go_simp; try with_reducible rfl
      try simp only [Act.put, List.setIfInBounds_toArray]
      refine wpAnyH_take (i := 1) (v := ?_) rfl (by kernel_rfl) (by kernel_rfl) (by kernel_rfl) (fun _ _ _ h => h) (Or.inl ⟨by kernel_rfl, ?_⟩) (by assumption) ?_
      rotate_left
      · intro w' hSw; (try dsimp only at hSw); go_simp; try with_reducible rfl
      try simp only [Act.put]
      refine wpAnyH_take (i := 2) (v := ?_) rfl (by kernel_rfl) (by kernel_rfl) (by kernel_rfl) (fun _ _ _ h => h) (Or.inl ⟨by kernel_rfl, ?_⟩) (by assumption) ?_
      rotate_left
      · intro w' hSw; (try dsimp only at hSw); go_simp; try with_reducible rfl
      try simp only [Act.put]
      refine wpAnyH_take (i := 3) (v := undef) rfl (by kernel_rfl) (by kernel_rfl) (by kernel_rfl) (fun _ _ _ h => h) (Or.inr ⟨by kernel_rfl, rfl⟩) (by assumption) ?_
      try simp only [Act.put]
      refine wpAnyH_take (i := 4) (v := undef) rfl (by kernel_rfl) (by kernel_rfl) (by kernel_rfl) (fun _ _ _ h => h) (Or.inr ⟨by kernel_rfl, rfl⟩) (by assumption) ?_
      try simp only [Act.put]
      refine wpAnyH_take (i := 5) (v := undef) rfl (by kernel_rfl) (by kernel_rfl) (by kernel_rfl) (fun _ _ _ h => h) (Or.inr ⟨by kernel_rfl, rfl⟩) (by assumption) ?_
      try simp only [Act.put]
      refine wpAnyH_take (i := 6) (v := undef) rfl (by kernel_rfl) (by kernel_rfl) (by kernel_rfl) (fun _ _ _ h => h) (Or.inr ⟨by kernel_rfl, rfl⟩) (by assumption) ?_
      try simp only [Act.put]
      refine wpAnyH_take (i := 7) (v := undef) rfl (by kernel_rfl) (by kernel_rfl) (by kernel_rfl) (fun _ _ _ h => h) (Or.inr ⟨by kernel_rfl, rfl⟩) (by assumption) ?_
      try simp only [Act.put]
      refine wpAnyH_take (i := 8) (v := undef) rfl (by kernel_rfl) (by kernel_rfl) (by kernel_rfl) (fun _ _ _ h => h) (Or.inr ⟨by kernel_rfl, rfl⟩) (by assumption) ?_
      try simp only [Act.put]
      refine wpAnyH_take (i := 9) (v := undef) rfl (by kernel_rfl) (by kernel_rfl) (by kernel_rfl) (fun _ _ _ h => h) (Or.inr ⟨by kernel_rfl, rfl⟩) (by assumption) ?_
      try simp only [Act.put]
      refine wpAnyH_take (i := 10) (v := undef) rfl (by kernel_rfl) (by kernel_rfl) (by kernel_rfl) (fun _ _ _ h => h) (Or.inr ⟨by kernel_rfl, rfl⟩) (by assumption) ?_
      try simp only [Act.put]
      refine wpAnyH_take (i := 11) (v := ?_) rfl (by kernel_rfl) (by kernel_rfl) (by kernel_rfl) (fun _ _ _ h => h) (Or.inl ⟨by kernel_rfl, ?_⟩) (by assumption) ?_
      rotate_left
      · intro w' hSw; (try dsimp only at hSw); go_simp; try with_reducible rfl
      try simp only [Act.put]
      refine wpAnyH_take (i := 12) (v := ?_) rfl (by kernel_rfl) (by kernel_rfl) (by kernel_rfl) (fun _ _ _ h => h) (Or.inl ⟨by kernel_rfl, ?_⟩) (by assumption) ?_
      rotate_left
      · intro w' hSw; (try dsimp only at hSw); go_simp; try with_reducible rfl
      try simp only [Act.put]
      refine wpAnyH_take (i := 13) (v := ?_) rfl (by kernel_rfl) (by kernel_rfl) (by kernel_rfl) (fun _ _ _ h => h) (Or.inl ⟨by kernel_rfl, ?_⟩) (by assumption) ?_
      rotate_left
      · intro w' hSw; (try dsimp only at hSw); go_simp; try with_reducible rfl
      try simp only [Act.put]
      refine wpAnyH_take (i := 14) (v := ?_) rfl (by kernel_rfl) (by kernel_rfl) (by kernel_rfl) (fun _ _ _ h => h) (Or.inl ⟨by kernel_rfl, ?_⟩) (by assumption) ?_
      rotate_left
      · intro w' hSw; (try dsimp only at hSw); go_simp; try with_reducible rfl
      try simp only [Act.put]
      refine wpAnyH_take (i := 15) (v := ?_) rfl (by kernel_rfl) (by kernel_rfl) (by kernel_rfl) (fun _ _ _ h => h) (Or.inl ⟨by kernel_rfl, ?_⟩) (by assumption) ?_
      rotate_left
      · intro w' hSw; (try dsimp only at hSw); go_simp; try with_reducible rfl
      try simp only [Act.put]
      refine wpAnyH_take (i := 16) (v := ?_) rfl (by kernel_rfl) (by kernel_rfl) (by kernel_rfl) (fun _ _ _ h => h) (Or.inl ⟨by kernel_rfl, ?_⟩) (by assumption) ?_
      rotate_left
      · intro w' hSw; (try dsimp only at hSw); go_simp; try with_reducible rfl
      try simp only [Act.put]
      refine wpAnyH_take (i := 17) (v := ?_) rfl (by kernel_rfl) (by kernel_rfl) (by kernel_rfl) (fun _ _ _ h => h) (Or.inl ⟨by kernel_rfl, ?_⟩) (by assumption) ?_
      rotate_left
      · intro w' hSw; (try dsimp only at hSw); go_simp; try with_reducible rfl
      try simp only [Act.put]
      refine wpAnyH_take (i := 18) (v := ?_) rfl (by kernel_rfl) (by kernel_rfl) (by kernel_rfl) (fun _ _ _ h => h) (Or.inl ⟨by kernel_rfl, ?_⟩) (by assumption) ?_
      rotate_left
      · intro w' hSw; (try dsimp only at hSw); go_simp; try with_reducible rfl
      try simp only [Act.put]
      refine wpAnyH_take (i := 19) (v := ?_) rfl (by kernel_rfl) (by kernel_rfl) (by kernel_rfl) (fun _ _ _ h => h) (Or.inl ⟨by kernel_rfl, ?_⟩) (by assumption) ?_
      rotate_left
      · intro w' hSw; (try dsimp only at hSw); go_simp; try with_reducible rfl
      try simp only [Act.put]
      refine wpAnyH_take (i := 20) (v := ?_) rfl (by kernel_rfl) (by kernel_rfl) (by kernel_rfl) (fun _ _ _ h => h) (Or.inl ⟨by kernel_rfl, ?_⟩) (by assumption) ?_
      rotate_left
      · intro w' hSw; (try dsimp only at hSw); go_simp; try with_reducible rfl
      try simp only [Act.put]
      refine wpAnyH_take (i := 21) (v := ?_) rfl (by kernel_rfl) (by kernel_rfl) (by kernel_rfl) (fun _ _ _ h => h) (Or.inl ⟨by kernel_rfl, ?_⟩) (by assumption) ?_
      rotate_left
      · intro w' hSw; (try dsimp only at hSw); go_simp; try with_reducible rfl
      try simp only [Act.put]
      refine wpAnyH_take (i := 22) (v := ?_) rfl (by kernel_rfl) (by kernel_rfl) (by kernel_rfl) (fun _ _ _ h => h) (Or.inl ⟨by kernel_rfl, ?_⟩) (by assumption) ?_
      rotate_left
      · intro w' hSw; (try dsimp only at hSw); go_simp; try with_reducible rfl
      try simp only [Act.put]
      refine wpAnyH_take (i := 23) (v := ?_) rfl (by kernel_rfl) (by kernel_rfl) (by kernel_rfl) (fun _ _ _ h => h) (Or.inl ⟨by kernel_rfl, ?_⟩) (by assumption) ?_
      rotate_left
      · intro w' hSw; (try dsimp only at hSw); go_simp; try with_reducible rfl
      try simp only [Act.put]
      refine wpAnyH_take (i := 24) (v := ?_) rfl (by kernel_rfl) (by kernel_rfl) (by kernel_rfl) (fun _ _ _ h => h) (Or.inl ⟨by kernel_rfl, ?_⟩) (by assumption) ?_
      rotate_left
      · intro w' hSw; (try dsimp only at hSw); go_simp; try with_reducible rfl
      try simp only [Act.put]
      refine wpAnyH_ready (rs := [25]) (by kernel_rfl) (by simp) ?_
      refine AllReadyH.cons rfl (fun K hK => ?_) AllReadyH.nil
      go_simp
      go_at_call 88
      refine (HPR.out _ (GI.out.bel (below_drew b17)) (HS'.out.bel (below_drew HB.out))).mono ?_
      rintro e w20 ⟨rfl, hb⟩; replace b17 := Below.step (below_drew b17) hb; replace HB := hide (Below.step (below_drew HB.out) hb); replace HBX := hide (HBX.out.drew.step hb); replace ri := b17.keeps RI.out; clear hb x0 x1; have x0 : w20.cell? ⟨w17.heap.size, 0, none⟩ = some (.int .i64 PV1) := HBX.out.now.cell 0; have x1 : w20.cell? ⟨w17.heap.size, 1, none⟩ = some (.int .i64 PV2) := HBX.out.now.cell 1
      try simp only []
      refine hK.out _ _ ?_ (fun hHeld => ?_)
      · exact ⟨x0, x1, ri⟩
      clear hK K
      try simp only [Act.put, List.setIfInBounds_toArray, List.set_cons_zero, List.set_cons_succ]
      refine wpAnyH_take (i := 26) (v := ?_) rfl (by kernel_rfl) (by kernel_rfl) (by kernel_rfl) (fun _ _ _ h => h) (Or.inl ⟨by kernel_rfl, ?_⟩) (by assumption) ?_
      rotate_left
      · intro w' hSw; (try dsimp only at hSw); go_simp; try with_reducible rfl
      try simp only [Act.put, List.setIfInBounds_toArray]
      refine wpAnyH_take (i := 27) (v := ?_) rfl (by kernel_rfl) (by kernel_rfl) (by kernel_rfl) (fun _ _ _ h => h) (Or.inl ⟨by kernel_rfl, ?_⟩) (by assumption) ?_
      rotate_left
      · intro w' hSw; (try dsimp only at hSw); go_simp; try with_reducible rfl
      try simp only [Act.put]
      refine wpAnyH_take (i := 28) (v := ?_) rfl (by kernel_rfl) (by kernel_rfl) (by kernel_rfl) (fun _ _ _ h => h) (Or.inl ⟨by kernel_rfl, ?_⟩) (by assumption) ?_
      rotate_left
      · intro w' hSw; (try dsimp only at hSw); go_simp; try with_reducible rfl
      try simp only [Act.put]
      refine wpAnyH_take (i := 29) (v := ?_) rfl (by kernel_rfl) (by kernel_rfl) (by kernel_rfl) (fun _ _ _ h => h) (Or.inl ⟨by kernel_rfl, ?_⟩) (by assumption) ?_
      rotate_left
      · intro w' hSw; (try dsimp only at hSw); go_simp; try with_reducible rfl
      try simp only [Act.put]
      refine wpAnyH_done (by kernel_rfl) ?_ _
      clear hHeld
      go_wp2
      go_roundw
      case rel => exact ⟨k + 1, by omega, by go_num, HB.out⟩
      case measure => simp [intOf]; omega
    · go_wp2
      go_ret
      exact ⟨rfl, hbel⟩

set_option maxRecDepth 100000 in
set_option maxHeartbeats 8000000 in
theorem BeamSweeps_err (A : Option Addr) (c : Nat) (bs : List (List Int)) (B : Option Addr) (kc : Nat) (h : List (Int × Int)) (w : World) (hs : BookAt w A bs) (hs' : Sl w B (gv h)) (hbk : bookB bs = true) (hm10 : h.length ≤ 10) (he : sweepE bs h ≠ 0) :
    Calls Try.prog 15 #[.slice A bs.length c, .slice B h.length kc] w fun e w' => e = .returned (.bool true) ∧ Below w.heap.size w w' := by
  have hb2 := hbk
  unfold bookB at hb2
  simp only [Bool.and_eq_true, Bool.not_eq_true', Bool.or_eq_false_iff, decide_eq_false_iff_not, List.all_eq_true, decide_eq_true_eq] at hb2
  have hn18 : bs.length ≤ 18 := by have := hb2.1.2; omega
  have hl : ∀ b ∈ bs, b.length ≤ 100 := fun b hb => by have := hb2.2 b hb; omega
  have HF := hide (fun W k => book_law A c bs W k)
  rw [hbk] at HF
  have HCB := hide (fun W k => copyBook_ref A c bs W k hl (by omega))
  have HCG := hide (fun W k => copyGs B kc h.length h W rfl k (by omega))
  have HSE := hide (fun W k k' => sweepErr_ref A c bs B h.length kc h W k k' hl (by omega) rfl)
  have HCE := hide (fun W k => channelErr_ref B kc h W k)
  have HSW := hide (fun Q q P p W k k' => sweep_err Q q bs P p h W k k' hl (by omega) (by omega) he)
  have HBO := hide (fun Q q P p W k k' => bestOf_err Q q bs P p h W k k' hl (by omega) (by omega) he)
  have hne : (sweepE bs h != 0) = true := by rw [bne_iff_ne]; exact he
  have hne0 : (sweepE bs h == 0) = false := by rw [beq_eq_false_iff_ne]; exact he
  obtain ⟨D, hD⟩ : ∃ D, sweepE bs h = D := ⟨_, rfl⟩
  rw [hD] at HSW HBO HSE hne hne0
  have HE0 := hide he
  have HLN := hide hl
  obtain ⟨n, hn⟩ : ∃ n, bs.length = n := ⟨_, rfl⟩
  obtain ⟨m, hm⟩ : ∃ m, h.length = m := ⟨_, rfl⟩
  have hd : decide ((m : Int) ≤ 10) = true := by rw [decide_eq_true_iff]; omega
  rw [hn] at HF HCB HSW HBO HSE hn18
  rw [hm] at HCG HSW HBO HSE HCE hm10
  rw [hn, hm]
  have HN := hide hn
  have HM := hide hm
  have HS := hide hs
  have HS' := hide hs'
  have HB := hide (Below.refl w.heap.size w)
  have HT := hide (Stay.triv w)
  clear hs hs' hbk hb2 hl hn hm he hD
  go_enter Try.func15, Try.ntmps15
  go_wp2_with (first
    | (go_at_call 18; go_must (refine (awake_ok _).mono ?_; rintro e w1 ⟨rfl, hb⟩; replace HB := hide (Below.step HB.out hb); replace HT := hide (HT.out.step hb); clear hb; simp only []))
    | (go_at_call 80; go_must (refine (HF.out _ (HS.out.bel HB.out)).mono ?_; rintro e w2 ⟨rfl, hb⟩; replace HB := hide (Below.step HB.out hb); replace HT := hide (HT.out.step hb); clear hb; simp only []))
    | (go_at_call 59; go_must (refine (numbers_at _ _ _ _).mono ?_; rintro e w' ⟨rfl, rfl⟩; simp only []))
    | (go_at_call 82; have qq := HX1; go_must (refine (HCB.out _ (HS.out.bel HB.out)).mono ?_; rintro e w6 ⟨C6, c6, rfl, hs6, hb⟩; have HC6 := hide hs6; replace HB := hide (Below.step HB.out hb); replace HT := hide (HT.out.step hb); clear hb; clear hs6; simp only []))
    | (go_at_call 82; go_must (refine (HCB.out _ (HS.out.bel HB.out)).mono ?_; rintro e w3 ⟨C3, c3, rfl, hs3, hb⟩; have HC3 := hide hs3; replace HB := hide (Below.step HB.out hb); replace HT := hide (HT.out.step hb); clear hb; clear hs3; simp only []))
    | (go_at_call 53; have qq := HX1; go_must (refine (HCG.out _ (HS'.out.bel HB.out)).mono ?_; rintro e w7 ⟨C7, c7, rfl, hs7, hb⟩; have HC7 := hide hs7; replace HC6 := hide (HC6.out.bel hb); replace HB := hide (Below.step HB.out hb); replace HT := hide (HT.out.step hb); clear hb; clear hs7; simp only []))
    | (go_at_call 53; go_must (refine (HCG.out _ (HS'.out.bel HB.out)).mono ?_; rintro e w4 ⟨C4, c4, rfl, hs4, hb⟩; have HC4 := hide hs4; replace HC3 := hide (HC3.out.bel hb); replace HB := hide (Below.step HB.out hb); replace HT := hide (HT.out.step hb); clear hb; clear hs4; simp only []))
    | (go_at_call 81; go_must (refine (HSW.out _ _ _ _ _ HC3.out HC4.out).mono ?_; rintro e w5 ⟨rfl, hb⟩; replace HB := hide (Below.step HB.out hb); replace HT := hide (HT.out.step hb); clear hb; clear HC3 HC4; have HX1 := hide (Eq.refl 0); simp only []))
    | (go_at_call 83; go_must (refine (HBO.out _ _ _ _ _ HC6.out HC7.out).mono ?_; rintro e w8 ⟨rfl, hb⟩; replace HB := hide (Below.step HB.out hb); replace HT := hide (HT.out.step hb); clear hb; clear HC6 HC7; simp only []))
    | (go_at_call 84; go_must (refine (HSE.out _ (HS.out.bel HB.out) (HS'.out.bel HB.out)).mono ?_; rintro e w9 ⟨rfl, hb⟩; replace HB := hide (Below.step HB.out hb); replace HT := hide (HT.out.step hb); clear hb; simp only [])))
  go_wp2
  go_loopw [11] (fun i wr => ∃ k : Nat, k ≤ n ∧ i = .int .i64 k ∧ Below w.heap.size w wr) (fun i _ => n - (intOf i).toNat)
  case atStart => exact ⟨0, Nat.zero_le _, rfl, by first | exact HB.out | exact below_drewN HB.out _⟩
  case round =>
    clear HB HT
    obtain ⟨k, hk, rfl, hbel⟩ := hrel
    by_cases hlt : k < n
    · have hki : k < bs.length := by rw [HN.out]; exact hlt
      have hkl := HLN.out _ (List.getElem_mem hki)
      obtain ⟨bb, oo, Bi, ki, rfl, ri, gi⟩ := (HS.out.bel hbel).at_ hki
      have hmem := List.getElem_mem hki
      have HOKK := hide (fun (e : sweepE bs h = 0) => (sweepE_ok e).len _ hmem)
      have HOKP := hide (fun (e : sweepE bs h = 0) => powE_of e hmem)
      obtain ⟨u, hu⟩ : ∃ u, bs[k] = u := ⟨_, rfl⟩
      rw [hu] at ri gi hkl HOKK HOKP
      have HCP := hide (fun W k => copy_ref Bi ki u W k (by omega))
      have HPO := hide (fun P Q q q' W k k' => powerOf_beam P q u Q q' h W k k' (by omega) (by have := HM.out; omega))
      have HER := hide (fun W k => beamErr_ref Bi ki u W k (by omega))
      obtain ⟨lu, hlu⟩ : ∃ l, u.length = l := ⟨_, rfl⟩
      rw [hlu] at ri HCP HPO HER
      rw [HM.out] at HPO
      have RI := hide ri
      have GI := hide gi
      have HB := hide hbel
      have HLU := hide hlu
      have hg1 : (k : Int) < (n : Int) := by omega
      clear hmem gi hu hlu hki hkl
      by_cases q1 : (chk u).2 = 0
      · by_cases q2 : chE h = 0
        · by_cases q3 : h.length = u.length
          · have hpe : powE u h = 0 := by unfold powE; rw [q1, q2, decide_eq_true q3]; rfl
            have hpv : powV u h = ((pow u h).P, (pow u h).Q) := if_pos hpe
            obtain ⟨p1, p2, p3, p4, _⟩ := powE_ok hpe
            rw [hpv, hpe] at HPO
            dsimp only at HPO
            have HPR := hide (fun W k k' => powerOf_ref Bi ki u B m kc h W k k' (by have := HM.out; omega) HM.out (by have := HM.out; omega) p1 p4.2)
            obtain ⟨PV1, hPV1⟩ : ∃ z : Int, (pow u h).P = z := ⟨_, rfl⟩
            obtain ⟨PV2, hPV2⟩ : ∃ z : Int, (pow u h).Q = z := ⟨_, rfl⟩
            rw [hPV1, hPV2] at HPO HPR
            have hlm : lu = m := by have := HM.out; have := HLU.out; omega
            subst hlm
            rw [q1] at HER
            rw [q2] at HCE
            clear hpe hpv p1 p2 p3 p4 hPV1 hPV2 q1 q2 q3 HOKK HOKP
            have hq : ∀ w, (binOp .neq 42 (.agg #[.int .i64 PV1, .int .i64 PV2]) (.agg #[.int .i64 PV1, .int .i64 PV2])).run Try.prog w = .ok (.bool false) w := fun w => (sqr_neq _ _ _ _ w).trans (by simp)
            have hlll : ((lu : Int) != (lu : Int)) = false := by simp
            go_wp2_with (first
              | (go_at_call 21; go_must (refine (HCP.out _ (GI.out.bel (by first | exact Below.refl _ _ | go_grown))).mono ?_; rintro e w15 ⟨A15, c15, rfl, hs15, hb⟩; have HS15 := hide hs15; have b15 : Below wr.heap.size wr w15 := hb; replace HB := hide (Below.step HB.out hb); clear hb hs15; simp only []))
              | (go_at_call 53; go_must (refine (HCG.out _ (HS'.out.bel HB.out)).mono ?_; rintro e w16 ⟨A16, c16, rfl, hs16, hb⟩; have HS16 := hide hs16; replace HS15 := hide (HS15.out.bel hb); replace HB := hide (Below.step HB.out hb); replace b15 := Below.step b15 hb; clear hb hs16; simp only []))
              | (go_at_call 86; go_must (refine (HPO.out _ _ _ _ _ HS15.out HS16.out).mono ?_; rintro e w17 ⟨rfl, hb⟩; replace HB := hide (Below.step HB.out hb); replace b15 := Below.step b15 hb; have HBX := hide (stay_new w17 42 #[.int .i64 PV1, .int .i64 PV2]); have b17 := Below.step b15 ((Below.refl w17.heap.size w17).alloc (Nat.le_refl _) (.cells #[.int .i64 PV1, .int .i64 PV2] 42)); have y17 := b15.size; replace ri := b17.keeps RI.out; replace HB := hide (HB.out.alloc HB.out.size (.cells #[.int .i64 PV1, .int .i64 PV2] 42)); clear hb HS15 HS16 b15; simp only []))
              | (go_at_call 28; go_must (refine (HER.out _ (GI.out.bel b17)).mono ?_; rintro e w18 ⟨rfl, hb⟩; replace b17 := Below.step b17 hb; replace HB := hide (Below.step HB.out hb); replace HBX := hide (HBX.out.step hb); replace ri := b17.keeps RI.out; clear hb; have x0 : w18.cell? ⟨w17.heap.size, 0, none⟩ = some (.int .i64 PV1) := HBX.out.now.cell 0; have x1 : w18.cell? ⟨w17.heap.size, 1, none⟩ = some (.int .i64 PV2) := HBX.out.now.cell 1; simp only []))
              | (go_at_call 87; go_must (refine (HCE.out _ (HS'.out.bel HB.out)).mono ?_; rintro e w19 ⟨rfl, hb⟩; replace b17 := Below.step b17 hb; replace HB := hide (Below.step HB.out hb); replace HBX := hide (HBX.out.step hb); replace ri := b17.keeps RI.out; clear hb x0 x1; have x0 : w19.cell? ⟨w17.heap.size, 0, none⟩ = some (.int .i64 PV1) := HBX.out.now.cell 0; have x1 : w19.cell? ⟨w17.heap.size, 1, none⟩ = some (.int .i64 PV2) := HBX.out.now.cell 1; simp only [])))
            refine wp_region_held_drew (S := (fun w' => w'.cell? ⟨w17.heap.size, 0, none⟩ = some (.int .i64 PV1) ∧ w'.cell? ⟨w17.heap.size, 1, none⟩ = some (.int .i64 PV2) ∧ w'.cell? ⟨bb, oo + k, none⟩ = some (.slice Bi lu ki))) (by kernel_rfl) ?_ (fun hHeld => ?_)
            · exact ⟨x0, x1, ri⟩
            refine wpAnyH_take (i := 0) (v := ?_) rfl (by kernel_rfl) (by kernel_rfl) (by kernel_rfl) (fun _ _ _ h => h) (Or.inl ⟨by kernel_rfl, ?_⟩) (by assumption) ?_
            rotate_left
            · intro w' hSw; (try dsimp only at hSw); go_simp; try with_reducible rfl
            try simp only [Act.put, List.setIfInBounds_toArray]
            refine wpAnyH_take (i := 1) (v := ?_) rfl (by kernel_rfl) (by kernel_rfl) (by kernel_rfl) (fun _ _ _ h => h) (Or.inl ⟨by kernel_rfl, ?_⟩) (by assumption) ?_
            rotate_left
            · intro w' hSw; (try dsimp only at hSw); go_simp; try with_reducible rfl
            try simp only [Act.put]
            refine wpAnyH_take (i := 2) (v := ?_) rfl (by kernel_rfl) (by kernel_rfl) (by kernel_rfl) (fun _ _ _ h => h) (Or.inl ⟨by kernel_rfl, ?_⟩) (by assumption) ?_
            rotate_left
            · intro w' hSw; (try dsimp only at hSw); go_simp; try with_reducible rfl
            try simp only [Act.put]
            refine wpAnyH_take (i := 3) (v := undef) rfl (by kernel_rfl) (by kernel_rfl) (by kernel_rfl) (fun _ _ _ h => h) (Or.inr ⟨by kernel_rfl, rfl⟩) (by assumption) ?_
            try simp only [Act.put]
            refine wpAnyH_take (i := 4) (v := undef) rfl (by kernel_rfl) (by kernel_rfl) (by kernel_rfl) (fun _ _ _ h => h) (Or.inr ⟨by kernel_rfl, rfl⟩) (by assumption) ?_
            try simp only [Act.put]
            refine wpAnyH_take (i := 5) (v := undef) rfl (by kernel_rfl) (by kernel_rfl) (by kernel_rfl) (fun _ _ _ h => h) (Or.inr ⟨by kernel_rfl, rfl⟩) (by assumption) ?_
            try simp only [Act.put]
            refine wpAnyH_take (i := 6) (v := undef) rfl (by kernel_rfl) (by kernel_rfl) (by kernel_rfl) (fun _ _ _ h => h) (Or.inr ⟨by kernel_rfl, rfl⟩) (by assumption) ?_
            try simp only [Act.put]
            refine wpAnyH_take (i := 7) (v := undef) rfl (by kernel_rfl) (by kernel_rfl) (by kernel_rfl) (fun _ _ _ h => h) (Or.inr ⟨by kernel_rfl, rfl⟩) (by assumption) ?_
            try simp only [Act.put]
            refine wpAnyH_take (i := 8) (v := undef) rfl (by kernel_rfl) (by kernel_rfl) (by kernel_rfl) (fun _ _ _ h => h) (Or.inr ⟨by kernel_rfl, rfl⟩) (by assumption) ?_
            try simp only [Act.put]
            refine wpAnyH_take (i := 9) (v := undef) rfl (by kernel_rfl) (by kernel_rfl) (by kernel_rfl) (fun _ _ _ h => h) (Or.inr ⟨by kernel_rfl, rfl⟩) (by assumption) ?_
            try simp only [Act.put]
            refine wpAnyH_take (i := 10) (v := undef) rfl (by kernel_rfl) (by kernel_rfl) (by kernel_rfl) (fun _ _ _ h => h) (Or.inr ⟨by kernel_rfl, rfl⟩) (by assumption) ?_
            try simp only [Act.put]
            refine wpAnyH_take (i := 11) (v := ?_) rfl (by kernel_rfl) (by kernel_rfl) (by kernel_rfl) (fun _ _ _ h => h) (Or.inl ⟨by kernel_rfl, ?_⟩) (by assumption) ?_
            rotate_left
            · intro w' hSw; (try dsimp only at hSw); go_simp; try with_reducible rfl
            try simp only [Act.put]
            refine wpAnyH_take (i := 12) (v := ?_) rfl (by kernel_rfl) (by kernel_rfl) (by kernel_rfl) (fun _ _ _ h => h) (Or.inl ⟨by kernel_rfl, ?_⟩) (by assumption) ?_
            rotate_left
            · intro w' hSw; (try dsimp only at hSw); go_simp; try with_reducible rfl
            try simp only [Act.put]
            refine wpAnyH_take (i := 13) (v := ?_) rfl (by kernel_rfl) (by kernel_rfl) (by kernel_rfl) (fun _ _ _ h => h) (Or.inl ⟨by kernel_rfl, ?_⟩) (by assumption) ?_
            rotate_left
            · intro w' hSw; (try dsimp only at hSw); go_simp; try with_reducible rfl
            try simp only [Act.put]
            refine wpAnyH_take (i := 14) (v := ?_) rfl (by kernel_rfl) (by kernel_rfl) (by kernel_rfl) (fun _ _ _ h => h) (Or.inl ⟨by kernel_rfl, ?_⟩) (by assumption) ?_
            rotate_left
            · intro w' hSw; (try dsimp only at hSw); go_simp; try with_reducible rfl
            try simp only [Act.put]
            refine wpAnyH_take (i := 15) (v := ?_) rfl (by kernel_rfl) (by kernel_rfl) (by kernel_rfl) (fun _ _ _ h => h) (Or.inl ⟨by kernel_rfl, ?_⟩) (by assumption) ?_
            rotate_left
            · intro w' hSw; (try dsimp only at hSw); go_simp; try with_reducible rfl
            try simp only [Act.put]
            refine wpAnyH_take (i := 16) (v := ?_) rfl (by kernel_rfl) (by kernel_rfl) (by kernel_rfl) (fun _ _ _ h => h) (Or.inl ⟨by kernel_rfl, ?_⟩) (by assumption) ?_
            rotate_left
            · intro w' hSw; (try dsimp only at hSw); go_simp; try with_reducible rfl
            try simp only [Act.put]
            refine wpAnyH_take (i := 17) (v := ?_) rfl (by kernel_rfl) (by kernel_rfl) (by kernel_rfl) (fun _ _ _ h => h) (Or.inl ⟨by kernel_rfl, ?_⟩) (by assumption) ?_
            rotate_left
            · intro w' hSw; (try dsimp only at hSw); go_simp; try with_reducible rfl
            try simp only [Act.put]
            refine wpAnyH_take (i := 18) (v := ?_) rfl (by kernel_rfl) (by kernel_rfl) (by kernel_rfl) (fun _ _ _ h => h) (Or.inl ⟨by kernel_rfl, ?_⟩) (by assumption) ?_
            rotate_left
            · intro w' hSw; (try dsimp only at hSw); go_simp; try with_reducible rfl
            try simp only [Act.put]
            refine wpAnyH_take (i := 19) (v := ?_) rfl (by kernel_rfl) (by kernel_rfl) (by kernel_rfl) (fun _ _ _ h => h) (Or.inl ⟨by kernel_rfl, ?_⟩) (by assumption) ?_
            rotate_left
            · intro w' hSw; (try dsimp only at hSw); go_simp; try with_reducible rfl
            try simp only [Act.put]
            refine wpAnyH_take (i := 20) (v := ?_) rfl (by kernel_rfl) (by kernel_rfl) (by kernel_rfl) (fun _ _ _ h => h) (Or.inl ⟨by kernel_rfl, ?_⟩) (by assumption) ?_
            rotate_left
            · intro w' hSw; (try dsimp only at hSw); go_simp; try with_reducible rfl
            try simp only [Act.put]
            refine wpAnyH_take (i := 21) (v := ?_) rfl (by kernel_rfl) (by kernel_rfl) (by kernel_rfl) (fun _ _ _ h => h) (Or.inl ⟨by kernel_rfl, ?_⟩) (by assumption) ?_
            rotate_left
            · intro w' hSw; (try dsimp only at hSw); go_simp; try with_reducible rfl
            try simp only [Act.put]
            refine wpAnyH_take (i := 22) (v := ?_) rfl (by kernel_rfl) (by kernel_rfl) (by kernel_rfl) (fun _ _ _ h => h) (Or.inl ⟨by kernel_rfl, ?_⟩) (by assumption) ?_
            rotate_left
            · intro w' hSw; (try dsimp only at hSw); go_simp; try with_reducible rfl
            try simp only [Act.put]
            refine wpAnyH_take (i := 23) (v := ?_) rfl (by kernel_rfl) (by kernel_rfl) (by kernel_rfl) (fun _ _ _ h => h) (Or.inl ⟨by kernel_rfl, ?_⟩) (by assumption) ?_
            rotate_left
            · intro w' hSw; (try dsimp only at hSw); go_simp; try with_reducible rfl
            try simp only [Act.put]
            refine wpAnyH_take (i := 24) (v := ?_) rfl (by kernel_rfl) (by kernel_rfl) (by kernel_rfl) (fun _ _ _ h => h) (Or.inl ⟨by kernel_rfl, ?_⟩) (by assumption) ?_
            rotate_left
            · intro w' hSw; (try dsimp only at hSw); go_simp; try with_reducible rfl
            try simp only [Act.put]
            refine wpAnyH_ready (rs := [25]) (by kernel_rfl) (by simp) ?_
            refine AllReadyH.cons rfl (fun K hK => ?_) AllReadyH.nil
            go_simp
            go_at_call 88
            refine (HPR.out _ (GI.out.bel (below_drew b17)) (HS'.out.bel (below_drew HB.out))).mono ?_
            rintro e w20 ⟨rfl, hb⟩; replace b17 := Below.step (below_drew b17) hb; replace HB := hide (Below.step (below_drew HB.out) hb); replace HBX := hide (HBX.out.drew.step hb); replace ri := b17.keeps RI.out; clear hb x0 x1; have x0 : w20.cell? ⟨w17.heap.size, 0, none⟩ = some (.int .i64 PV1) := HBX.out.now.cell 0; have x1 : w20.cell? ⟨w17.heap.size, 1, none⟩ = some (.int .i64 PV2) := HBX.out.now.cell 1
            try simp only []
            refine hK.out _ _ ?_ (fun hHeld => ?_)
            · exact ⟨x0, x1, ri⟩
            clear hK K
            try simp only [Act.put, List.setIfInBounds_toArray, List.set_cons_zero, List.set_cons_succ]
            refine wpAnyH_take (i := 26) (v := ?_) rfl (by kernel_rfl) (by kernel_rfl) (by kernel_rfl) (fun _ _ _ h => h) (Or.inl ⟨by kernel_rfl, ?_⟩) (by assumption) ?_
            rotate_left
            · intro w' hSw; (try dsimp only at hSw); go_simp; try with_reducible rfl
            try simp only [Act.put, List.setIfInBounds_toArray]
            refine wpAnyH_take (i := 27) (v := ?_) rfl (by kernel_rfl) (by kernel_rfl) (by kernel_rfl) (fun _ _ _ h => h) (Or.inl ⟨by kernel_rfl, ?_⟩) (by assumption) ?_
            rotate_left
            · intro w' hSw; (try dsimp only at hSw); go_simp; try with_reducible rfl
            try simp only [Act.put]
            refine wpAnyH_take (i := 28) (v := ?_) rfl (by kernel_rfl) (by kernel_rfl) (by kernel_rfl) (fun _ _ _ h => h) (Or.inl ⟨by kernel_rfl, ?_⟩) (by assumption) ?_
            rotate_left
            · intro w' hSw; (try dsimp only at hSw); go_simp; try with_reducible rfl
            try simp only [Act.put]
            refine wpAnyH_take (i := 29) (v := ?_) rfl (by kernel_rfl) (by kernel_rfl) (by kernel_rfl) (fun _ _ _ h => h) (Or.inl ⟨by kernel_rfl, ?_⟩) (by assumption) ?_
            rotate_left
            · intro w' hSw; (try dsimp only at hSw); go_simp; try with_reducible rfl
            try simp only [Act.put]
            refine wpAnyH_done (by kernel_rfl) ?_ _
            clear hHeld
            go_wp2
            go_roundw
            case rel => exact ⟨k + 1, by omega, by go_num, HB.out⟩
            case measure => simp [intOf]; omega
          · have hpe : powE u h = 13 := by unfold powE; rw [q1, q2, decide_eq_false q3]; rfl
            have hpe0 : powE u h ≠ 0 := by rw [hpe]; first | exact q1 | exact q2 | decide
            have hpv : powV u h = (0, 0) := if_neg hpe0
            rw [hpv, hpe] at HPO
            dsimp only at HPO
            have hlm : ((lu : Int) != (m : Int)) = true := by have := HM.out; have := HLU.out; rw [bne_iff_ne]; omega
            rw [q1] at HER
            rw [q2] at HCE
            clear q1 q2 q3
            clear hpe hpe0 hpv HOKK HOKP
            have hq0 : ∀ w, (binOp .neq 42 (.agg #[.int .i64 0, .int .i64 0]) (.agg #[.int .i64 0, .int .i64 0])).run Try.prog w = .ok (.bool false) w := fun w => (sqr_neq _ _ _ _ w).trans (by simp)
            go_wp2_with (first
              | (go_at_call 21; go_must (refine (HCP.out _ (GI.out.bel (by first | exact Below.refl _ _ | go_grown))).mono ?_; rintro e w15 ⟨A15, c15, rfl, hs15, hb⟩; have HS15 := hide hs15; have b15 : Below wr.heap.size wr w15 := hb; replace HB := hide (Below.step HB.out hb); clear hb hs15; simp only []))
              | (go_at_call 53; go_must (refine (HCG.out _ (HS'.out.bel HB.out)).mono ?_; rintro e w16 ⟨A16, c16, rfl, hs16, hb⟩; have HS16 := hide hs16; replace HS15 := hide (HS15.out.bel hb); replace HB := hide (Below.step HB.out hb); replace b15 := Below.step b15 hb; clear hb hs16; simp only []))
              | (go_at_call 86; go_must (refine (HPO.out _ _ _ _ _ HS15.out HS16.out).mono ?_; rintro e w17 ⟨rfl, hb⟩; replace HB := hide (Below.step HB.out hb); replace b15 := Below.step b15 hb; have HBX := hide (stay_new w17 42 #[.int .i64 0, .int .i64 0]); have b17 := Below.step b15 ((Below.refl w17.heap.size w17).alloc (Nat.le_refl _) (.cells #[.int .i64 0, .int .i64 0] 42)); have y17 := b15.size; replace ri := b17.keeps RI.out; replace HB := hide (HB.out.alloc HB.out.size (.cells #[.int .i64 0, .int .i64 0] 42)); clear hb HS15 HS16 b15; simp only []))
              | (go_at_call 28; go_must (refine (HER.out _ (GI.out.bel b17)).mono ?_; rintro e w18 ⟨rfl, hb⟩; replace b17 := Below.step b17 hb; replace HB := hide (Below.step HB.out hb); replace HBX := hide (HBX.out.step hb); replace ri := b17.keeps RI.out; clear hb; have x0 : w18.cell? ⟨w17.heap.size, 0, none⟩ = some (.int .i64 0) := HBX.out.now.cell 0; have x1 : w18.cell? ⟨w17.heap.size, 1, none⟩ = some (.int .i64 0) := HBX.out.now.cell 1; simp only []))
              | (go_at_call 87; go_must (refine (HCE.out _ (HS'.out.bel HB.out)).mono ?_; rintro e w19 ⟨rfl, hb⟩; replace b17 := Below.step b17 hb; replace HB := hide (Below.step HB.out hb); replace HBX := hide (HBX.out.step hb); replace ri := b17.keeps RI.out; clear hb x0 x1; have x0 : w19.cell? ⟨w17.heap.size, 0, none⟩ = some (.int .i64 0) := HBX.out.now.cell 0; have x1 : w19.cell? ⟨w17.heap.size, 1, none⟩ = some (.int .i64 0) := HBX.out.now.cell 1; simp only [])))
            go_quiet (fail)
            go_wp2
            go_roundw
            case rel => exact ⟨k + 1, by omega, by go_num, below_drewN HB.out _⟩
            case measure => simp [intOf]; omega
        · have hpe : powE u h = chE h := by unfold powE firstOf firstOf; rw [q1, if_pos rfl, if_neg q2]
          have hpe0 : powE u h ≠ 0 := by rw [hpe]; first | exact q1 | exact q2 | decide
          have hpv : powV u h = (0, 0) := if_neg hpe0
          rw [hpv, hpe] at HPO
          dsimp only at HPO
          have hne : (chE h != 0) = true := by rw [bne_iff_ne]; exact q2
          have hne2 : (chE h == 0) = false := by rw [beq_eq_false_iff_ne]; exact q2
          rw [q1] at HER
          obtain ⟨E1, hE1⟩ : ∃ z, chE h = z := ⟨_, rfl⟩
          rw [hE1] at HCE HPO hne hne2
          clear q1 q2 hE1
          clear hpe hpe0 hpv HOKK HOKP
          have hq0 : ∀ w, (binOp .neq 42 (.agg #[.int .i64 0, .int .i64 0]) (.agg #[.int .i64 0, .int .i64 0])).run Try.prog w = .ok (.bool false) w := fun w => (sqr_neq _ _ _ _ w).trans (by simp)
          go_wp2_with (first
            | (go_at_call 21; go_must (refine (HCP.out _ (GI.out.bel (by first | exact Below.refl _ _ | go_grown))).mono ?_; rintro e w15 ⟨A15, c15, rfl, hs15, hb⟩; have HS15 := hide hs15; have b15 : Below wr.heap.size wr w15 := hb; replace HB := hide (Below.step HB.out hb); clear hb hs15; simp only []))
            | (go_at_call 53; go_must (refine (HCG.out _ (HS'.out.bel HB.out)).mono ?_; rintro e w16 ⟨A16, c16, rfl, hs16, hb⟩; have HS16 := hide hs16; replace HS15 := hide (HS15.out.bel hb); replace HB := hide (Below.step HB.out hb); replace b15 := Below.step b15 hb; clear hb hs16; simp only []))
            | (go_at_call 86; go_must (refine (HPO.out _ _ _ _ _ HS15.out HS16.out).mono ?_; rintro e w17 ⟨rfl, hb⟩; replace HB := hide (Below.step HB.out hb); replace b15 := Below.step b15 hb; have HBX := hide (stay_new w17 42 #[.int .i64 0, .int .i64 0]); have b17 := Below.step b15 ((Below.refl w17.heap.size w17).alloc (Nat.le_refl _) (.cells #[.int .i64 0, .int .i64 0] 42)); have y17 := b15.size; replace ri := b17.keeps RI.out; replace HB := hide (HB.out.alloc HB.out.size (.cells #[.int .i64 0, .int .i64 0] 42)); clear hb HS15 HS16 b15; simp only []))
            | (go_at_call 28; go_must (refine (HER.out _ (GI.out.bel b17)).mono ?_; rintro e w18 ⟨rfl, hb⟩; replace b17 := Below.step b17 hb; replace HB := hide (Below.step HB.out hb); replace HBX := hide (HBX.out.step hb); replace ri := b17.keeps RI.out; clear hb; have x0 : w18.cell? ⟨w17.heap.size, 0, none⟩ = some (.int .i64 0) := HBX.out.now.cell 0; have x1 : w18.cell? ⟨w17.heap.size, 1, none⟩ = some (.int .i64 0) := HBX.out.now.cell 1; simp only []))
            | (go_at_call 87; go_must (refine (HCE.out _ (HS'.out.bel HB.out)).mono ?_; rintro e w19 ⟨rfl, hb⟩; replace b17 := Below.step b17 hb; replace HB := hide (Below.step HB.out hb); replace HBX := hide (HBX.out.step hb); replace ri := b17.keeps RI.out; clear hb x0 x1; have x0 : w19.cell? ⟨w17.heap.size, 0, none⟩ = some (.int .i64 0) := HBX.out.now.cell 0; have x1 : w19.cell? ⟨w17.heap.size, 1, none⟩ = some (.int .i64 0) := HBX.out.now.cell 1; simp only [])))
          go_quiet (fail)
          go_wp2
          go_roundw
          case rel => exact ⟨k + 1, by omega, by go_num, below_drewN HB.out _⟩
          case measure => simp [intOf]; omega
      · have hpe : powE u h = (chk u).2 := by unfold powE firstOf; rw [if_neg q1]
        have hpe0 : powE u h ≠ 0 := by rw [hpe]; first | exact q1 | exact q2 | decide
        have hpv : powV u h = (0, 0) := if_neg hpe0
        rw [hpv, hpe] at HPO
        dsimp only at HPO
        have hne : ((chk u).2 != 0) = true := by rw [bne_iff_ne]; exact q1
        have hne2 : ((chk u).2 == 0) = false := by rw [beq_eq_false_iff_ne]; exact q1
        obtain ⟨E1, hE1⟩ : ∃ z, (chk u).2 = z := ⟨_, rfl⟩
        rw [hE1] at HER HPO hne hne2
        clear q1 hE1
        clear hpe hpe0 hpv HOKK HOKP
        have hq0 : ∀ w, (binOp .neq 42 (.agg #[.int .i64 0, .int .i64 0]) (.agg #[.int .i64 0, .int .i64 0])).run Try.prog w = .ok (.bool false) w := fun w => (sqr_neq _ _ _ _ w).trans (by simp)
        go_wp2_with (first
          | (go_at_call 21; go_must (refine (HCP.out _ (GI.out.bel (by first | exact Below.refl _ _ | go_grown))).mono ?_; rintro e w15 ⟨A15, c15, rfl, hs15, hb⟩; have HS15 := hide hs15; have b15 : Below wr.heap.size wr w15 := hb; replace HB := hide (Below.step HB.out hb); clear hb hs15; simp only []))
          | (go_at_call 53; go_must (refine (HCG.out _ (HS'.out.bel HB.out)).mono ?_; rintro e w16 ⟨A16, c16, rfl, hs16, hb⟩; have HS16 := hide hs16; replace HS15 := hide (HS15.out.bel hb); replace HB := hide (Below.step HB.out hb); replace b15 := Below.step b15 hb; clear hb hs16; simp only []))
          | (go_at_call 86; go_must (refine (HPO.out _ _ _ _ _ HS15.out HS16.out).mono ?_; rintro e w17 ⟨rfl, hb⟩; replace HB := hide (Below.step HB.out hb); replace b15 := Below.step b15 hb; have HBX := hide (stay_new w17 42 #[.int .i64 0, .int .i64 0]); have b17 := Below.step b15 ((Below.refl w17.heap.size w17).alloc (Nat.le_refl _) (.cells #[.int .i64 0, .int .i64 0] 42)); have y17 := b15.size; replace ri := b17.keeps RI.out; replace HB := hide (HB.out.alloc HB.out.size (.cells #[.int .i64 0, .int .i64 0] 42)); clear hb HS15 HS16 b15; simp only []))
          | (go_at_call 28; go_must (refine (HER.out _ (GI.out.bel b17)).mono ?_; rintro e w18 ⟨rfl, hb⟩; replace b17 := Below.step b17 hb; replace HB := hide (Below.step HB.out hb); replace HBX := hide (HBX.out.step hb); replace ri := b17.keeps RI.out; clear hb; have x0 : w18.cell? ⟨w17.heap.size, 0, none⟩ = some (.int .i64 0) := HBX.out.now.cell 0; have x1 : w18.cell? ⟨w17.heap.size, 1, none⟩ = some (.int .i64 0) := HBX.out.now.cell 1; simp only [])))
        go_quiet (fail)
        go_wp2
        go_roundw
        case rel => exact ⟨k + 1, by omega, by go_num, below_drewN HB.out _⟩
        case measure => simp [intOf]; omega
    · go_wp2
      go_ret
      exact ⟨rfl, hbel⟩

theorem BeamSweeps_law (A : Option Addr) (c : Nat) (bs : List (List Int)) (B : Option Addr) (kc : Nat) (h : List (Int × Int)) (w : World) (hs : BookAt w A bs) (hs' : Sl w B (gv h)) :
    Calls Try.prog 15 #[.slice A bs.length c, .slice B h.length kc] w fun e w' => e = .returned (.bool true) ∧ Below w.heap.size w w' := by
  by_cases q : bookB bs = false ∨ 10 < h.length
  · exact BeamSweeps_book A c bs B _ kc w hs q
  · rw [not_or] at q
    have hb : bookB bs = true := by cases e : bookB bs; exact absurd e q.1; rfl
    by_cases he : sweepE bs h = 0
    · exact BeamSweeps_ok A c bs B kc h w hs hs' hb (by omega) he
    · exact BeamSweeps_err A c bs B kc h w hs hs' hb (by omega) he
end Go.Proofs.Ytamkannjdbodpaa

namespace Go.Proofs.Ytamkannjdbodpaa
open Go.ChangeShapes Go.WideShapes Go.ChangeAt Go.RowKit
set_option linter.unusedVariables false

set_option maxRecDepth 100000 in
theorem beamSweeps_lifted (os : Os) (started : os.Started) (H : Type) (enc : TypeId × Value → H) :
    ReturnsInHanded {} Try.checked os 15 .any (Rows.beamSweepsSpec.pre6 enc Try.prog Try.f15 Rows.beamSweepsRow.domain false) (Rows.beamSweepsSpec.post enc Try.prog Try.f15 false true false false) := by
  refine returnsInHanded_of_change (C := Try.checked) own started (by kernel_rfl) Try.func15
    (ChangeSpec.witness6 (enc := enc) (C := Try.checked) false ⟨#[], #[.slice none 0 0, .slice none 0 0], []⟩ 8 (by kernel_rfl) (by kernel_rfl) (by kernel_rfl) (by kernel_rfl)) ?_
  intro W base args ds gs before hval0 hW hcnd _
  have hval : ∀ (j : Nat) t v, Try.f15.params[j]? = some t → args[j]? = some v → Value.okWide Try.prog W .any base t v := hval0
  have hW' := hW
  obtain ⟨p, q, hA0, hV, rfl, hfz, hnd⟩ := hW
  have hA : DataW.TrodAll enc Try.prog W 0 (fun _ => true) true Try.f15.params.toList args.toList ds p := hA0
  rw [Try.params15] at hA hval
  obtain ⟨v0, vs0, d0, ds0, p0, q0, hargs, rfl, rfl, h0, r0⟩ := trodAll_cons hA
  obtain ⟨v1, vs1, d1, ds1, p1, q1, rfl, rfl, rfl, h1, r1⟩ := trodAll_cons r0
  obtain ⟨rfl, rfl, rfl⟩ := trodAll_nil r1
  obtain rfl : args = #[v0, v1] := by cases args; simp_all
  obtain ⟨rfl, rfl⟩ := trodVars_none hV
  have k0 := h0
  have lt0 : ∀ x ∈ p0, x.block < W.heap.size := by obtain ⟨m, hm⟩ := k0; exact DataW.trod_lt m _ _ _ hm
  obtain ⟨A0, c0, l0, rfl, hs0⟩ := open_book (hval 0 118 v0 rfl rfl) h0
  have k1 := h1
  have lt1 : ∀ x ∈ p1, x.block < W.heap.size := by obtain ⟨m, hm⟩ := k1; exact DataW.trod_lt m _ _ _ hm
  obtain ⟨A1, c1, l1, rfl, hs1, hw1⟩ := open_gs (hval 1 80 v1 rfl rfl) h1
  clear hA0 hval0
  refine (BeamSweeps_law A0 c0 l0 A1 c1 l1 W hs0 hs1).mono fun e W' ⟨he, bel⟩ => ?_
  subst he
  exact ⟨_, rfl, _, _, _, [], _, [], hW', trodAll_mk1 (shut_bool Try.underlying4 _), (trodAll_cons_mk (Below.trod laidOut (by kernel_rfl) (of_decide_eq_true (by kernel_rfl)) k0 bel lt0) (trodAll_cons_mk (Below.trod laidOut (by kernel_rfl) (of_decide_eq_true (by kernel_rfl)) k1 bel lt1) trodAll_mk0)), rfl, bel.frame _, fun h => by cases h⟩

theorem beamSweeps_holds : Rows.BeamSweepsSaid :=
  OpenClaim.holds_of_wide 15 Try.f15 rfl rfl rfl rfl rfl rfl rfl ⟨rfl, rfl, rfl, rfl, rfl⟩ rfl rfl rfl rfl rfl (by kernel_rfl) Try.func15 (by kernel_rfl)
    (of_decide_eq_true (by kernel_rfl)) (by unfold Func.isWrapper; first | (rw [if_pos (by decide +kernel)]; kernel_rfl) | (rw [if_neg (by decide +kernel)]; exact ⟨rfl, rfl⟩))
    (fun os started H enc _ => beamSweeps_lifted os started H enc)
#print axioms beamSweeps_holds
end Go.Proofs.Ytamkannjdbodpaa
