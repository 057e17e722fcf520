import Derived.Test.YtamkannjdbodpaaOpens2
import Derived.Test.YtamkannjdbodpaaChB
import Derived.Deep.SlicePairs
namespace Go.Proofs.Ytamkannjdbodpaa
open Go.ChangeShapes Go.WideShapes Go.ChangeAt Go.RowKit Go.Deep

section
variable {H : Type} {enc : TypeId × Value → H} {W : World} {b0 base : Nat} {sp : Nat → Bool} {hd : Bool} {r : Reach} {v : Value}

theorem sl_pairs {b off len : Nat} (f : Nat → Int × Int) (h0 : ∀ i, i < len → W.cell? ⟨b, off + i * 2, none⟩ = some (.int .i64 (f i).1)) (h1 : ∀ i, i < len → W.cell? ⟨b, off + i * 2 + 1, none⟩ = some (.int .i64 (f i).2)) :
    Sl W (some ⟨b, off, none⟩) (gv ((List.range len).map f)) := by
  intro k hk
  have hl : ((List.range len).map f).length = len := by simp
  have hk2 : k < len * 2 := by rw [gv_len, hl] at hk; exact hk
  obtain ⟨g0, g1⟩ := gv_at ((List.range len).map f) (k / 2) (by rw [hl]; omega)
  have hq : ((List.range len).map f)[k / 2]'(by rw [hl]; omega) = f (k / 2) := by simp
  rw [hq] at g0 g1
  refine ⟨b, off, rfl, ?_⟩
  rcases Nat.mod_two_eq_zero_or_one k with hm | hm
  · have e : k / 2 * 2 = k := by omega
    have c := h0 (k / 2) (by omega)
    rw [e] at g0 c
    rw [List.getElem?_eq_getElem hk] at g0
    rw [c]; exact g0.symm
  · have e : k / 2 * 2 + 1 = k := by omega
    have c := h1 (k / 2) (by omega)
    rw [Nat.add_assoc, e] at c
    rw [e] at g1
    rw [List.getElem?_eq_getElem hk] at g1
    rw [c]; exact g1.symm
/-- a slice of structs of two ints, by its cells -/
theorem open_gl {t e : TypeId} {f0 f1 : Field} {fuel : Nat} {x : DataW H × List MemPlace} (ht : Try.prog.underlying t = some (.slice e)) (he : Try.prog.underlying e = some (.struct #[f0, f1]))
    (ce : Try.prog.cellsOf e = 2) (o0 : f0.offset = 0) (o1 : f1.offset = 1) (c0 : Try.prog.cellsOf f0.type = 1) (c1 : Try.prog.cellsOf f1.type = 1) (u0 : Try.prog.underlying f0.type = some (.int .i64)) (u1 : Try.prog.underlying f1.type = some (.int .i64))
    (h : DataW.trod enc Try.prog W base sp hd fuel t [v] = some x) : ∃ A c l, v = .slice A l.length c ∧ Sl W A (gv l) ∧ ∀ z ∈ l, (Lit.int .i64 z.1).wf = true ∧ (Lit.int .i64 z.2).wf = true := by
  rcases open_slice_pairs ht he ce o0 o1 c0 c1 h with ⟨hcs, _⟩ | ⟨a, len, cap, m, n, V0, V1, D0, D1, P0, P1, hcs, _, hl, _, hm, _, hx⟩
  · injection hcs with hcs _
    subst hcs
    exact ⟨none, 0, [], rfl, fun k hk => absurd hk (by simp [gv]), by simp⟩
  · injection hcs with hcs _
    subst hcs
    have hlm : len ≤ m := by rw [hm]; split <;> omega
    obtain ⟨f, hf⟩ := choose_lt (α := Int × Int) (n := len) (p := fun i z => V0 i = .int .i64 z.1 ∧ V1 i = .int .i64 z.2 ∧ (Lit.int .i64 z.1).wf = true ∧ (Lit.int .i64 z.2).wf = true) (fun i hi => by
      obtain ⟨_, _, g0, g1⟩ := hx i (by omega)
      obtain ⟨z0, e0, _, w0⟩ := DataW.trod_int u0 g0
      obtain ⟨z1, e1, _, w1⟩ := DataW.trod_int u1 g1
      injection e0 with e0 _
      injection e1 with e1 _
      exact ⟨(z0, z1), e0, e1, w0, w1⟩)
    refine ⟨some a, cap, (List.range len).map f, by simp, ?_, fun z hz => ?_⟩
    · rcases Nat.eq_zero_or_pos len with q | q
      · subst q; intro k hk; exact absurd hk (by simp [gv])
      · obtain ⟨b, off, spot⟩ := a
        have hspot : spot = none := by
          have := (hx 0 (by omega)).1
          simpa [Addr.add] using World.cell?_spot this
        subst hspot
        refine sl_pairs f (fun i hi => ?_) (fun i hi => ?_)
        · have := (hx i (by omega)).1
          rw [add_off, (hf i hi).1] at this
          exact this
        · have := (hx i (by omega)).2.1
          rw [add_off, (hf i hi).2.1] at this
          rw [Nat.add_assoc]; exact this
    · obtain ⟨i, hi, rfl⟩ := List.mem_map.1 hz
      exact (hf i (List.mem_range.1 hi)).2.2
set_option maxRecDepth 100000 in
/-- a channel as it comes in -/
theorem open_gs {d : DataW H} {p : List MemPlace} (hv : Value.okWide Try.prog W r b0 80 v) (h : DataW.Trod enc Try.prog W base sp hd 80 v d p) :
    ∃ A c l, v = .slice A l.length c ∧ Sl W A (gv l) ∧ ∀ z ∈ l, (Lit.int .i64 z.1).wf = true ∧ (Lit.int .i64 z.2).wf = true := by
  obtain ⟨A, n, c, rfl⟩ := okWide_slice Try.underlying80 hv
  obtain ⟨fuel, hf⟩ := h
  obtain ⟨A', c', l, e, hs, hw⟩ := open_gl Try.underlying80 Try.underlying90 (by kernel_rfl) rfl rfl int_one int_one Try.underlying3 Try.underlying3 (by simpa [Value.cells] using hf)
  exact ⟨A', c', l, e, hs, hw⟩
end
end Go.Proofs.Ytamkannjdbodpaa
