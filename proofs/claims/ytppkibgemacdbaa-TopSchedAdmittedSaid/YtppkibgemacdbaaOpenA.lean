import Derived.Test.YtppkibgemacdbaaOpenQ
import Derived.Test.YtppkibgemacdbaaMgd
import Derived.Deep.Slices
namespace Go.Proofs.Ytppkibgemacdbaa
open Go.ChangeShapes Go.WideShapes Go.ChangeAt Go.RowKit Go.Deep

/-! a list of bearers as it comes in -/
section
variable {H : Type} {enc : TypeId × Value → H} {W : World} {b0 base : Nat} {sp : Nat → Bool} {hd : Bool} {r : Reach} {v : Value} {d : DataW H} {p : List MemPlace}
set_option maxRecDepth 100000 in
theorem trod_ber {fuel : Nat} {cs : List Value} {x : DataW H × List MemPlace} (h : DataW.trod enc Try.prog W base sp hd fuel 32 cs = some x) (hsz : cs.length = 9) : ∃ y : Ber, cs = Ber.cs y := by
  match cs, hsz with
  | [c0, c1, c2, c3, c4, c5, c6, c7, c8], _ =>
    obtain ⟨xs, n, _, _, hl, hlen, hf⟩ := DataW.trod_struct Try.underlying32 h
    match xs, hlen with
    | [y0, y1, y2, y3, y4, y5, y6, y7, y8], _ =>
      obtain ⟨s, e0, _, _⟩ := DataW.trod_string Try.underlying9 (show DataW.trod enc Try.prog W base sp hd n 9 (([c0, c1, c2, c3, c4, c5, c6, c7, c8].drop 0).take (Try.prog.cellsOf 9)) = some y0 from hf 0 _ rfl)
      obtain ⟨kd, e1, _, _⟩ := DataW.trod_int Try.underlying3 (show DataW.trod enc Try.prog W base sp hd n 3 (([c0, c1, c2, c3, c4, c5, c6, c7, c8].drop 1).take (Try.prog.cellsOf 3)) = some y1 from hf 1 _ rfl)
      obtain ⟨pr, e2, _, _⟩ := DataW.trod_int Try.underlying3 (show DataW.trod enc Try.prog W base sp hd n 3 (([c0, c1, c2, c3, c4, c5, c6, c7, c8].drop 2).take (Try.prog.cellsOf 3)) = some y2 from hf 2 _ rfl)
      obtain ⟨wt, e3, _, _⟩ := DataW.trod_int Try.underlying3 (show DataW.trod enc Try.prog W base sp hd n 3 (([c0, c1, c2, c3, c4, c5, c6, c7, c8].drop 3).take (Try.prog.cellsOf 3)) = some y3 from hf 3 _ rfl)
      obtain ⟨pw, e4, _, _⟩ := DataW.trod_int Try.underlying3 (show DataW.trod enc Try.prog W base sp hd n 3 (([c0, c1, c2, c3, c4, c5, c6, c7, c8].drop 4).take (Try.prog.cellsOf 3)) = some y4 from hf 4 _ rfl)
      obtain ⟨le, e5, _, _⟩ := DataW.trod_int Try.underlying3 (show DataW.trod enc Try.prog W base sp hd n 3 (([c0, c1, c2, c3, c4, c5, c6, c7, c8].drop 5).take (Try.prog.cellsOf 3)) = some y5 from hf 5 _ rfl)
      obtain ⟨bu, e6, _, _⟩ := DataW.trod_int Try.underlying3 (show DataW.trod enc Try.prog W base sp hd n 3 (([c0, c1, c2, c3, c4, c5, c6, c7, c8].drop 6).take (Try.prog.cellsOf 3)) = some y6 from hf 6 _ rfl)
      obtain ⟨ra, e7, _, _⟩ := DataW.trod_int Try.underlying3 (show DataW.trod enc Try.prog W base sp hd n 3 (([c0, c1, c2, c3, c4, c5, c6, c7, c8].drop 7).take (Try.prog.cellsOf 3)) = some y7 from hf 7 _ rfl)
      obtain ⟨de, e8, _, _⟩ := DataW.trod_int Try.underlying3 (show DataW.trod enc Try.prog W base sp hd n 3 (([c0, c1, c2, c3, c4, c5, c6, c7, c8].drop 8).take (Try.prog.cellsOf 3)) = some y8 from hf 8 _ rfl)
      rw [int_one] at e1 e2 e3 e4 e5 e6 e7 e8
      rw [str_one] at e0
      simp at e0 e1 e2 e3 e4 e5 e6 e7 e8
      subst e0 e1 e2 e3 e4 e5 e6 e7 e8
      exact ⟨⟨s.data.toList, kd, pr, wt, pw, le, bu, ra, de⟩, by simp [Ber.cs, strV]⟩
theorem ber_cells : Try.prog.cellsOf 32 = 9 := by kernel_rfl
set_option maxRecDepth 100000 in
/-- a slice of bearers -/
theorem open_bers (hv : Value.okWide Try.prog W r b0 25 v) (h : DataW.Trod enc Try.prog W base sp hd 25 v d p) :
    ∃ A c L, v = .slice A (List.length L) c ∧ Brs W A L := by
  obtain ⟨A, len, c, rfl⟩ := okWide_slice Try.underlying25 hv
  obtain ⟨fuel, hh⟩ := h
  rcases open_slice Try.underlying25 (by simpa [Value.cells] using hh) with ⟨hcs, _⟩ | ⟨a, len', cap, m, k, D, Pl, hcs, _, hl, _, hm, _, hx⟩
  · injection hcs with hcs _
    injection hcs with h1 h2 h3
    subst h1 h2 h3
    exact ⟨none, 0, [], rfl, Brs.nil _ _⟩
  · injection hcs with hcs _
    injection hcs with h1 h2 h3
    subst h1 h2 h3
    have hlm : len ≤ m := by rw [hm]; split <;> omega
    have hk : ∀ j, j ≤ len → ∃ L : List Ber, L.length = j ∧ ∀ i u, (bvs L)[i]? = some u → W.cell? (a.add i) = some u := by
      intro j
      induction j with
      | zero => intro _; exact ⟨[], by simp, by simp [bvs]⟩
      | succ j ih =>
        intro hj
        obtain ⟨L, hz, hc⟩ := ih (by omega)
        obtain ⟨cs', g1, g2⟩ := hx j (by omega)
        rw [ber_cells] at g1
        obtain ⟨_, hlen, hcell⟩ := World.cells?_some g1
        obtain ⟨y, e1⟩ := trod_ber g2 hlen
        refine ⟨L ++ [y], by simp [hz], fun i u hu => ?_⟩
        rw [bvs_append] at hu
        rcases Nat.lt_or_ge i (bvs L).length with q | q
        · rw [List.getElem?_append_left q] at hu
          exact hc i u hu
        · rw [List.getElem?_append_right q] at hu
          have hb : bvs [y] = Ber.cs y := by simp [bvs]
          rw [hb] at hu
          have hiy : i - (bvs L).length < 9 := (List.getElem?_eq_some_iff.1 hu).1
          have := hcell _ hiy
          rw [e1, hu, add_of_add, bvs_length, hz] at this
          rw [bvs_length, hz] at q
          rw [show j * 9 + (i - j * 9) = i by omega] at this
          exact this
    obtain ⟨L, hz, hc⟩ := hk len (Nat.le_refl _)
    refine ⟨some a, c, L, by rw [hz], fun k hkl => ?_⟩
    have h0 := hc (0 * 9 + 0) _ (by rw [bvs_get L 0 0 (by omega) (by omega)]; rfl)
    obtain ⟨b, off, spot⟩ := a
    have hspot : spot = none := by
      have := World.cell?_spot h0
      simpa [Addr.add] using this
    subst hspot
    refine ⟨b, off, rfl, fun j u hu => ?_⟩
    have hj : j < 9 := (List.getElem?_eq_some_iff.1 hu).1
    have := hc (k * 9 + j) u (by rw [bvs_get L k j hkl hj]; exact hu)
    rw [add_off, ← Nat.add_assoc] at this
    exact this
end
end Go.Proofs.Ytppkibgemacdbaa
