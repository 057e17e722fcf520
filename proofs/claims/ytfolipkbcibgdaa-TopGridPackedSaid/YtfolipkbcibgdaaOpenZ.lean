import Derived.Test.YtfolipkbcibgdaaWOpens
import Derived.Test.YtfolipkbcibgdaaGrR
import Derived.Test.YtfolipkbcibgdaaGrD
import Derived.Deep.Slices
namespace Go.Proofs.Ytfolipkbcibgdaa
open Go.ChangeShapes Go.WideShapes Go.ChangeAt Go.RowKit Go.Deep

/-! carriers and what is looked for, as they come in -/
theorem array5 {α : Type} {cs : Array α} (h : cs.size = 5) : ∃ c0 c1 c2 c3 c4, cs = #[c0, c1, c2, c3, c4] := by
  obtain ⟨l⟩ := cs
  match l, h with
  | [c0, c1, c2, c3, c4], _ => exact ⟨c0, c1, c2, c3, c4, rfl⟩
theorem array6 {α : Type} {cs : Array α} (h : cs.size = 6) : ∃ c0 c1 c2 c3 c4 c5, cs = #[c0, c1, c2, c3, c4, c5] := by
  obtain ⟨l⟩ := cs
  match l, h with
  | [c0, c1, c2, c3, c4, c5], _ => exact ⟨c0, c1, c2, c3, c4, c5, rfl⟩
theorem str_one : Try.prog.cellsOf 9 = 1 := by kernel_rfl
theorem prt_cells : Try.prog.cellsOf 56 = 3 := by kernel_rfl
theorem sig_cells : Try.prog.cellsOf 82 = 11 := by kernel_rfl
theorem prts_one : Try.prog.cellsOf 22 = 1 := by kernel_rfl
theorem sigs_one : Try.prog.cellsOf 23 = 1 := by kernel_rfl
section
variable {H : Type} {enc : TypeId × Value → H} {W : World} {b0 base : Nat} {sp : Nat → Bool} {hd : Bool} {r : Reach} {v : Value} {d : DataW H} {p : List MemPlace}
set_option maxRecDepth 100000 in
theorem trod_prt {fuel : Nat} {cs : List Value} {x : DataW H × List MemPlace} (h : DataW.trod enc Try.prog W base sp hd fuel 56 cs = some x) (hsz : cs.length = 3) : ∃ y : Prt, cs = Prt.cs y := by
  match cs, hsz with
  | [c0, c1, c2], _ =>
    obtain ⟨xs, n, _, _, hl, hlen, hf⟩ := DataW.trod_struct Try.underlying56 h
    match xs, hlen with
    | [y0, y1, y2], _ =>
      obtain ⟨a0, e0, _, _⟩ := DataW.trod_int Try.underlying3 (show DataW.trod enc Try.prog W base sp hd n 3 (([c0, c1, c2].drop 0).take (Try.prog.cellsOf 3)) = some y0 from hf 0 _ rfl)
      obtain ⟨a1, e1, _, _⟩ := DataW.trod_int Try.underlying3 (show DataW.trod enc Try.prog W base sp hd n 3 (([c0, c1, c2].drop 1).take (Try.prog.cellsOf 3)) = some y1 from hf 1 _ rfl)
      obtain ⟨a2, e2, _, _⟩ := DataW.trod_int Try.underlying3 (show DataW.trod enc Try.prog W base sp hd n 3 (([c0, c1, c2].drop 2).take (Try.prog.cellsOf 3)) = some y2 from hf 2 _ rfl)
      rw [int_one] at e0 e1 e2
      simp at e0 e1 e2
      subst e0 e1 e2
      exact ⟨⟨a0, a1, a2⟩, by simp [Prt.cs]⟩
set_option maxRecDepth 100000 in
theorem trod_sig {fuel : Nat} {cs : List Value} {x : DataW H × List MemPlace} (h : DataW.trod enc Try.prog W base sp hd fuel 82 cs = some x) (hsz : cs.length = 11) : ∃ y : Sig, cs = Sig.cs y := by
  match cs, hsz with
  | [c0, c1, c2, c3, c4, c5, c6, c7, c8, c9, c10], _ =>
    obtain ⟨xs, n, _, _, hl, hlen, hf⟩ := DataW.trod_struct Try.underlying82 h
    match xs, hlen with
    | [y0, y1, y2, y3, y4, y5, y6, y7, y8, y9, y10], _ =>
      obtain ⟨a0, e0, _, _⟩ := DataW.trod_int Try.underlying3 (show DataW.trod enc Try.prog W base sp hd n 3 (([c0, c1, c2, c3, c4, c5, c6, c7, c8, c9, c10].drop 0).take (Try.prog.cellsOf 3)) = some y0 from hf 0 _ rfl)
      obtain ⟨a1, e1, _, _⟩ := DataW.trod_int Try.underlying3 (show DataW.trod enc Try.prog W base sp hd n 3 (([c0, c1, c2, c3, c4, c5, c6, c7, c8, c9, c10].drop 1).take (Try.prog.cellsOf 3)) = some y1 from hf 1 _ rfl)
      obtain ⟨a2, e2, _, _⟩ := DataW.trod_int Try.underlying3 (show DataW.trod enc Try.prog W base sp hd n 3 (([c0, c1, c2, c3, c4, c5, c6, c7, c8, c9, c10].drop 2).take (Try.prog.cellsOf 3)) = some y2 from hf 2 _ rfl)
      obtain ⟨a3, e3, _, _⟩ := DataW.trod_int Try.underlying3 (show DataW.trod enc Try.prog W base sp hd n 3 (([c0, c1, c2, c3, c4, c5, c6, c7, c8, c9, c10].drop 3).take (Try.prog.cellsOf 3)) = some y3 from hf 3 _ rfl)
      obtain ⟨a4, e4, _, _⟩ := DataW.trod_int Try.underlying3 (show DataW.trod enc Try.prog W base sp hd n 3 (([c0, c1, c2, c3, c4, c5, c6, c7, c8, c9, c10].drop 4).take (Try.prog.cellsOf 3)) = some y4 from hf 4 _ rfl)
      obtain ⟨a5, e5, _, _⟩ := DataW.trod_int Try.underlying3 (show DataW.trod enc Try.prog W base sp hd n 3 (([c0, c1, c2, c3, c4, c5, c6, c7, c8, c9, c10].drop 5).take (Try.prog.cellsOf 3)) = some y5 from hf 5 _ rfl)
      obtain ⟨a6, e6, _, _⟩ := DataW.trod_int Try.underlying3 (show DataW.trod enc Try.prog W base sp hd n 3 (([c0, c1, c2, c3, c4, c5, c6, c7, c8, c9, c10].drop 6).take (Try.prog.cellsOf 3)) = some y6 from hf 6 _ rfl)
      obtain ⟨a7, e7, _, _⟩ := DataW.trod_int Try.underlying3 (show DataW.trod enc Try.prog W base sp hd n 3 (([c0, c1, c2, c3, c4, c5, c6, c7, c8, c9, c10].drop 7).take (Try.prog.cellsOf 3)) = some y7 from hf 7 _ rfl)
      obtain ⟨a8, e8, _, _⟩ := DataW.trod_int Try.underlying3 (show DataW.trod enc Try.prog W base sp hd n 3 (([c0, c1, c2, c3, c4, c5, c6, c7, c8, c9, c10].drop 8).take (Try.prog.cellsOf 3)) = some y8 from hf 8 _ rfl)
      obtain ⟨a9, e9, _, _⟩ := DataW.trod_int Try.underlying3 (show DataW.trod enc Try.prog W base sp hd n 3 (([c0, c1, c2, c3, c4, c5, c6, c7, c8, c9, c10].drop 9).take (Try.prog.cellsOf 3)) = some y9 from hf 9 _ rfl)
      obtain ⟨a10, e10, _, _⟩ := DataW.trod_int Try.underlying3 (show DataW.trod enc Try.prog W base sp hd n 3 (([c0, c1, c2, c3, c4, c5, c6, c7, c8, c9, c10].drop 10).take (Try.prog.cellsOf 3)) = some y10 from hf 10 _ rfl)
      rw [int_one] at e0 e1 e2 e3 e4 e5 e6 e7 e8 e9 e10
      simp at e0 e1 e2 e3 e4 e5 e6 e7 e8 e9 e10
      subst e0 e1 e2 e3 e4 e5 e6 e7 e8 e9 e10
      exact ⟨⟨a0, a1, a2, a3, a4, a5, a6, a7, a8, a9, a10⟩, by simp [Sig.cs]⟩
set_option maxRecDepth 100000 in
/-- a slice of records -/
theorem open_rws {α : Type} {n : Nat} {cs : α → List Value} (hn : ∀ x, (cs x).length = n) (hn0 : 0 < n) {t e : TypeId} (ht : Try.prog.underlying t = some (.slice e)) (he : Try.prog.cellsOf e = n)
    (htr : ∀ (fuel : Nat) (zs : List Value) (x : DataW H × List MemPlace), DataW.trod enc Try.prog W base sp hd fuel e zs = some x → zs.length = n → ∃ y, zs = cs y) {fuel : Nat} {x : DataW H × List MemPlace} (h : DataW.trod enc Try.prog W base sp hd fuel t [v] = some x) :
    ∃ A c L, v = .slice A (List.length L) c ∧ Rws n cs W A L := by
  rcases open_slice ht h with ⟨hcs, _⟩ | ⟨a, len, cap, m, k, D, Pl, hcs, _, hl, _, hm, _, hx⟩
  · injection hcs with hcs _
    subst hcs
    exact ⟨none, 0, [], rfl, Rws.nil _ _⟩
  · injection hcs with hcs _
    subst hcs
    have hlm : len ≤ m := by rw [hm]; split <;> omega
    have hk : ∀ j, j ≤ len → ∃ L : List α, L.length = j ∧ ∀ i u, (flatC cs L)[i]? = some u → W.cell? (a.add i) = some u := by
      intro j
      induction j with
      | zero => intro _; exact ⟨[], by simp, by simp [flatC]⟩
      | succ j ih =>
        intro hj
        obtain ⟨L, hz, hc⟩ := ih (by omega)
        obtain ⟨cs', g1, g2⟩ := hx j (by omega)
        rw [he] at g1
        obtain ⟨_, hlen, hcell⟩ := World.cells?_some g1
        obtain ⟨y, e1⟩ := htr _ _ _ g2 hlen
        refine ⟨L ++ [y], by simp [hz], fun i u hu => ?_⟩
        rw [flatC_append] at hu
        rcases Nat.lt_or_ge i (flatC cs L).length with q | q
        · rw [List.getElem?_append_left q] at hu
          exact hc i u hu
        · rw [List.getElem?_append_right q] at hu
          have hb : flatC cs [y] = cs y := by simp [flatC]
          rw [hb] at hu
          have hiy : i - (flatC cs L).length < n := by have := (List.getElem?_eq_some_iff.1 hu).1; rw [hn] at this; exact this
          have := hcell _ hiy
          rw [e1, hu, add_of_add, flatC_length hn, hz] at this
          rw [flatC_length hn, hz] at q
          rw [show j * n + (i - j * n) = i by omega] at this
          exact this
    obtain ⟨L, hz, hc⟩ := hk len (Nat.le_refl _)
    refine ⟨some a, cap, L, by rw [hz], fun k hkl => ?_⟩
    have hl0 : 0 < L.length := by omega
    have h0 : ∃ u, (cs L[0])[0]? = some u := ⟨_, List.getElem?_eq_getElem (by rw [hn]; exact hn0)⟩
    obtain ⟨u0, hu0⟩ := h0
    have h0 := hc (0 * n + 0) u0 (by rw [flatC_get hn L 0 0 hl0 hn0]; exact hu0)
    obtain ⟨b, off, spot⟩ := a
    have hspot : spot = none := by
      have := World.cell?_spot h0
      simpa [Addr.add] using this
    subst hspot
    refine ⟨b, off, rfl, fun j u hu => ?_⟩
    have hj : j < n := by have := (List.getElem?_eq_some_iff.1 hu).1; rw [hn] at this; exact this
    have := hc (k * n + j) u (by rw [flatC_get hn L k j hkl hj]; exact hu)
    rw [add_off, ← Nat.add_assoc] at this
    exact this
set_option maxRecDepth 100000 in
/-- a carrier as it comes in -/
theorem open_carrier (hv : Value.okWide Try.prog W r b0 25 v) (h : DataW.Trod enc Try.prog W base sp hd 25 v d p) :
    ∃ (nm : List UInt8) (ce wi : Int) (A B : Option Addr) (j k : Nat) (L : List Prt) (M : List Sig), v = .agg #[strV nm, .int .i64 ce, .int .i64 wi, .slice A L.length j, .slice B M.length k] ∧ Prts W A L ∧ Sigs W B M := by
  obtain ⟨cs, rfl, hsz⟩ := okWide_struct Try.underlying25 hv
  obtain ⟨c0, c1, c2, c3, c4, rfl⟩ := array5 (hsz.trans (by kernel_rfl))
  obtain ⟨fuel, hf⟩ := h
  obtain ⟨xs, n, _, _, hl, hlen, hf⟩ := DataW.trod_struct Try.underlying25 hf
  match xs, hlen with
  | [y0, y1, y2, y3, y4], _ =>
    obtain ⟨s, e0, _, _⟩ := DataW.trod_string Try.underlying9 (show DataW.trod enc Try.prog W base sp hd n 9 (((Value.agg #[c0, c1, c2, c3, c4]).cells.toList.drop 0).take (Try.prog.cellsOf 9)) = some y0 from hf 0 _ rfl)
    obtain ⟨a, e1, _, _⟩ := DataW.trod_int Try.underlying3 (show DataW.trod enc Try.prog W base sp hd n 3 (((Value.agg #[c0, c1, c2, c3, c4]).cells.toList.drop 1).take (Try.prog.cellsOf 3)) = some y1 from hf 1 _ rfl)
    obtain ⟨b, e2, _, _⟩ := DataW.trod_int Try.underlying3 (show DataW.trod enc Try.prog W base sp hd n 3 (((Value.agg #[c0, c1, c2, c3, c4]).cells.toList.drop 2).take (Try.prog.cellsOf 3)) = some y2 from hf 2 _ rfl)
    obtain ⟨A, j, L, e3, hs⟩ := open_rws (v := c3) (x := y3) prt_n (by omega) Try.underlying22 prt_cells (fun _ _ _ g q => trod_prt g q) (by have g := (show DataW.trod enc Try.prog W base sp hd n 22 (((Value.agg #[c0, c1, c2, c3, c4]).cells.toList.drop 3).take (Try.prog.cellsOf 22)) = some y3 from hf 3 _ rfl); simpa [Value.cells, prts_one] using g)
    obtain ⟨B, k, M, e4, ht⟩ := open_rws (v := c4) (x := y4) sig_n (by omega) Try.underlying23 sig_cells (fun _ _ _ g q => trod_sig g q) (by have g := (show DataW.trod enc Try.prog W base sp hd n 23 (((Value.agg #[c0, c1, c2, c3, c4]).cells.toList.drop 4).take (Try.prog.cellsOf 23)) = some y4 from hf 4 _ rfl); simpa [Value.cells, sigs_one] using g)
    rw [int_one] at e1 e2
    rw [str_one] at e0
    simp [Value.cells] at e0 e1 e2
    subst e0 e1 e2 e3 e4
    exact ⟨s.data.toList, a, b, A, B, j, k, L, M, by simp [strV], hs, ht⟩
set_option maxRecDepth 100000 in
/-- what is looked for, as it comes in -/
theorem open_want (hv : Value.okWide Try.prog W r b0 27 v) (h : DataW.Trod enc Try.prog W base sp hd 27 v d p) :
    ∃ (pa fr te sy sn bn : Int), v = .agg #[.int .i64 pa, .int .i64 fr, .int .i64 te, .int .i64 sy, .int .i64 sn, .int .i64 bn] := by
  obtain ⟨cs, rfl, hsz⟩ := okWide_struct Try.underlying27 hv
  obtain ⟨c0, c1, c2, c3, c4, c5, rfl⟩ := array6 (hsz.trans (by kernel_rfl))
  obtain ⟨fuel, hf⟩ := h
  obtain ⟨xs, n, _, _, hl, hlen, hf⟩ := DataW.trod_struct Try.underlying27 hf
  match xs, hlen with
  | [y0, y1, y2, y3, y4, y5], _ =>
    obtain ⟨a0, e0, _, _⟩ := DataW.trod_int Try.underlying3 (show DataW.trod enc Try.prog W base sp hd n 3 (((Value.agg #[c0, c1, c2, c3, c4, c5]).cells.toList.drop 0).take (Try.prog.cellsOf 3)) = some y0 from hf 0 _ rfl)
    obtain ⟨a1, e1, _, _⟩ := DataW.trod_int Try.underlying3 (show DataW.trod enc Try.prog W base sp hd n 3 (((Value.agg #[c0, c1, c2, c3, c4, c5]).cells.toList.drop 1).take (Try.prog.cellsOf 3)) = some y1 from hf 1 _ rfl)
    obtain ⟨a2, e2, _, _⟩ := DataW.trod_int Try.underlying3 (show DataW.trod enc Try.prog W base sp hd n 3 (((Value.agg #[c0, c1, c2, c3, c4, c5]).cells.toList.drop 2).take (Try.prog.cellsOf 3)) = some y2 from hf 2 _ rfl)
    obtain ⟨a3, e3, _, _⟩ := DataW.trod_int Try.underlying3 (show DataW.trod enc Try.prog W base sp hd n 3 (((Value.agg #[c0, c1, c2, c3, c4, c5]).cells.toList.drop 3).take (Try.prog.cellsOf 3)) = some y3 from hf 3 _ rfl)
    obtain ⟨a4, e4, _, _⟩ := DataW.trod_int Try.underlying3 (show DataW.trod enc Try.prog W base sp hd n 3 (((Value.agg #[c0, c1, c2, c3, c4, c5]).cells.toList.drop 4).take (Try.prog.cellsOf 3)) = some y4 from hf 4 _ rfl)
    obtain ⟨a5, e5, _, _⟩ := DataW.trod_int Try.underlying3 (show DataW.trod enc Try.prog W base sp hd n 3 (((Value.agg #[c0, c1, c2, c3, c4, c5]).cells.toList.drop 5).take (Try.prog.cellsOf 3)) = some y5 from hf 5 _ rfl)
    rw [int_one] at e0 e1 e2 e3 e4 e5
    simp [Value.cells] at e0 e1 e2 e3 e4 e5
    subst e0 e1 e2 e3 e4 e5
    exact ⟨a0, a1, a2, a3, a4, a5, rfl⟩
end
end Go.Proofs.Ytfolipkbcibgdaa
