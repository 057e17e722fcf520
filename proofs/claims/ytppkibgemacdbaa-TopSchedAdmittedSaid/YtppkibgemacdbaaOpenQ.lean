import Derived.Test.YtppkibgemacdbaaWOpens
import Derived.Test.YtppkibgemacdbaaMga
namespace Go.Proofs.Ytppkibgemacdbaa
open Go.ChangeShapes Go.WideShapes Go.ChangeAt Go.RowKit

theorem array4 {α : Type} {cs : Array α} (h : cs.size = 4) : ∃ c0 c1 c2 c3, cs = #[c0, c1, c2, c3] := by
  obtain ⟨l⟩ := cs
  match l, h with
  | [c0, c1, c2, c3], _ => exact ⟨c0, c1, c2, c3, rfl⟩
theorem array9 {α : Type} {cs : Array α} (h : cs.size = 9) : ∃ c0 c1 c2 c3 c4 c5 c6 c7 c8, cs = #[c0, c1, c2, c3, c4, c5, c6, c7, c8] := by
  obtain ⟨l⟩ := cs
  match l, h with
  | [c0, c1, c2, c3, c4, c5, c6, c7, c8], _ => exact ⟨c0, c1, c2, c3, c4, c5, c6, c7, c8, rfl⟩
section
variable {H : Type} {enc : TypeId × Value → H} {W : World} {b0 base : Nat} {sp : Nat → Bool} {hd : Bool} {r : Reach} {v : Value} {d : DataW H} {p : List MemPlace}

set_option maxRecDepth 100000 in
/-- a site as it comes in -/
theorem open_site (hv : Value.okWide Try.prog W r b0 24 v) (h : DataW.Trod enc Try.prog W base sp hd 24 v d p) :
    ∃ a b c A j l, v = .agg #[.int .i64 a, .int .i64 b, .int .i64 c, .slice A l.length j] ∧ Sl W A (iv l) := by
  obtain ⟨cs, rfl, hsz⟩ := okWide_struct Try.underlying24 hv
  obtain ⟨c0, c1, c2, c3, rfl⟩ := array4 (hsz.trans (by kernel_rfl))
  obtain ⟨fuel, hf⟩ := h
  obtain ⟨xs, n, _, _, hl, hlen, hf⟩ := DataW.trod_struct Try.underlying24 hf
  match xs, hlen with
  | [y0, y1, y2, y3], _ =>
    obtain ⟨a, e0, _, _⟩ := DataW.trod_int Try.underlying3 (show DataW.trod enc Try.prog W base sp hd n 3 (((Value.agg #[c0, c1, c2, c3]).cells.toList.drop 0).take (Try.prog.cellsOf 3)) = some y0 from hf 0 _ rfl)
    obtain ⟨b, e1, _, _⟩ := DataW.trod_int Try.underlying3 (show DataW.trod enc Try.prog W base sp hd n 3 (((Value.agg #[c0, c1, c2, c3]).cells.toList.drop 1).take (Try.prog.cellsOf 3)) = some y1 from hf 1 _ rfl)
    obtain ⟨c, e2, _, _⟩ := DataW.trod_int Try.underlying3 (show DataW.trod enc Try.prog W base sp hd n 3 (((Value.agg #[c0, c1, c2, c3]).cells.toList.drop 2).take (Try.prog.cellsOf 3)) = some y2 from hf 2 _ rfl)
    obtain ⟨A, j, l, e3, hs, _⟩ := open_sl (v := c3) (x := y3) Try.underlying22 Try.underlying3 int_one (by have g := (show DataW.trod enc Try.prog W base sp hd n 22 (((Value.agg #[c0, c1, c2, c3]).cells.toList.drop 3).take (Try.prog.cellsOf 22)) = some y3 from hf 3 _ rfl); simpa [Value.cells, ints_one] using g)
    rw [int_one] at e0 e1 e2
    simp [Value.cells] at e0 e1 e2
    subst e0 e1 e2 e3
    exact ⟨a, b, c, A, j, l, rfl, hs⟩

theorem str_one : Try.prog.cellsOf 9 = 1 := by kernel_rfl
set_option maxRecDepth 100000 in
/-- a bearer as it comes in -/
theorem open_bearer (hv : Value.okWide Try.prog W r b0 32 v) (h : DataW.Trod enc Try.prog W base sp hd 32 v d p) :
    ∃ (nm : List UInt8) (kd pr wt pw le bu ra de : Int), v = .agg #[strV nm, .int .i64 kd, .int .i64 pr, .int .i64 wt, .int .i64 pw, .int .i64 le, .int .i64 bu, .int .i64 ra, .int .i64 de] := by
  obtain ⟨cs, rfl, hsz⟩ := okWide_struct Try.underlying32 hv
  obtain ⟨c0, c1, c2, c3, c4, c5, c6, c7, c8, rfl⟩ := array9 (hsz.trans (by kernel_rfl))
  obtain ⟨fuel, hf⟩ := h
  obtain ⟨xs, n, _, _, hl, hlen, hf⟩ := DataW.trod_struct Try.underlying32 hf
  match xs, hlen with
  | [y0, y1, y2, y3, y4, y5, y6, y7, y8], _ =>
    obtain ⟨s, e0, _, _⟩ := DataW.trod_string Try.underlying9 (show DataW.trod enc Try.prog W base sp hd n 9 (((Value.agg #[c0, c1, c2, c3, c4, c5, c6, c7, c8]).cells.toList.drop 0).take (Try.prog.cellsOf 9)) = some y0 from hf 0 _ rfl)
    obtain ⟨kd, e1, _, _⟩ := DataW.trod_int Try.underlying3 (show DataW.trod enc Try.prog W base sp hd n 3 (((Value.agg #[c0, c1, c2, c3, c4, c5, c6, c7, c8]).cells.toList.drop 1).take (Try.prog.cellsOf 3)) = some y1 from hf 1 _ rfl)
    obtain ⟨pr, e2, _, _⟩ := DataW.trod_int Try.underlying3 (show DataW.trod enc Try.prog W base sp hd n 3 (((Value.agg #[c0, c1, c2, c3, c4, c5, c6, c7, c8]).cells.toList.drop 2).take (Try.prog.cellsOf 3)) = some y2 from hf 2 _ rfl)
    obtain ⟨wt, e3, _, _⟩ := DataW.trod_int Try.underlying3 (show DataW.trod enc Try.prog W base sp hd n 3 (((Value.agg #[c0, c1, c2, c3, c4, c5, c6, c7, c8]).cells.toList.drop 3).take (Try.prog.cellsOf 3)) = some y3 from hf 3 _ rfl)
    obtain ⟨pw, e4, _, _⟩ := DataW.trod_int Try.underlying3 (show DataW.trod enc Try.prog W base sp hd n 3 (((Value.agg #[c0, c1, c2, c3, c4, c5, c6, c7, c8]).cells.toList.drop 4).take (Try.prog.cellsOf 3)) = some y4 from hf 4 _ rfl)
    obtain ⟨le, e5, _, _⟩ := DataW.trod_int Try.underlying3 (show DataW.trod enc Try.prog W base sp hd n 3 (((Value.agg #[c0, c1, c2, c3, c4, c5, c6, c7, c8]).cells.toList.drop 5).take (Try.prog.cellsOf 3)) = some y5 from hf 5 _ rfl)
    obtain ⟨bu, e6, _, _⟩ := DataW.trod_int Try.underlying3 (show DataW.trod enc Try.prog W base sp hd n 3 (((Value.agg #[c0, c1, c2, c3, c4, c5, c6, c7, c8]).cells.toList.drop 6).take (Try.prog.cellsOf 3)) = some y6 from hf 6 _ rfl)
    obtain ⟨ra, e7, _, _⟩ := DataW.trod_int Try.underlying3 (show DataW.trod enc Try.prog W base sp hd n 3 (((Value.agg #[c0, c1, c2, c3, c4, c5, c6, c7, c8]).cells.toList.drop 7).take (Try.prog.cellsOf 3)) = some y7 from hf 7 _ rfl)
    obtain ⟨de, e8, _, _⟩ := DataW.trod_int Try.underlying3 (show DataW.trod enc Try.prog W base sp hd n 3 (((Value.agg #[c0, c1, c2, c3, c4, c5, c6, c7, c8]).cells.toList.drop 8).take (Try.prog.cellsOf 3)) = some y8 from hf 8 _ rfl)
    rw [int_one] at e1 e2 e3 e4 e5 e6 e7 e8
    rw [str_one] at e0
    simp [Value.cells] at e0 e1 e2 e3 e4 e5 e6 e7 e8
    subst e0 e1 e2 e3 e4 e5 e6 e7 e8
    exact ⟨s.data.toList, kd, pr, wt, pw, le, bu, ra, de, by simp [strV]⟩
end
end Go.Proofs.Ytppkibgemacdbaa
