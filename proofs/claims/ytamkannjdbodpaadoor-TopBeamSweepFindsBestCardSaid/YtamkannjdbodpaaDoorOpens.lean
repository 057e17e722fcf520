import Derived.Test.YtamkannjdbodpaaDoorMem2
import Derived.Test.YtamkannjdbodpaaDoorRows
import Derived.WalkKit
import Derived.ProofKit
import Derived.OpenShut
import Derived.ShutString
import Derived.ChangeOld
import Derived.Below
import Derived.Lib.SmallJoins
namespace Go.Proofs.YtamkannjdbodpaaDoor
open Go.ChangeShapes Go.WideShapes Go.ChangeAt Go.RowKit

theorem own : ownKnob Tryd.prog.godebug = none := by kernel_rfl
theorem laidOut : laidOutB Tryd.prog = true := by kernel_rfl

theorem array1 {α : Type} {cs : Array α} (h : cs.size = 1) : ∃ c0, cs = #[c0] := by
  obtain ⟨l⟩ := cs
  match l, h with
  | [c0], _ => exact ⟨c0, rfl⟩

theorem add_off (b off k : Nat) : (⟨b, off, none⟩ : Addr).add k = ⟨b, off + k, none⟩ := by
  by_cases h : k = 0
  · subst h; simp [Addr.add]
  · simp [Addr.add, h]

section
variable {H : Type} {enc : TypeId × Value → H} {W : World} {base : Nat} {sp : Nat → Bool} {hd : Bool}

/-- a slice of int, by its cells -/
theorem open_sl {t e : TypeId} {fuel : Nat} {v : Value} {x : DataW H × List MemPlace} (ht : Tryd.prog.underlying t = some (.slice e)) (he : Tryd.prog.underlying e = some (.int .i64)) (hc : Tryd.prog.cellsOf e = 1)
    (h : DataW.trod enc Tryd.prog W base sp hd fuel t [v] = some x) : ∃ A c l, v = .slice A l.length c ∧ Sl W A (iv l) ∧ ∀ n ∈ l, (Lit.int .i64 n).wf = true := by
  rcases open_ints ht he hc h with ⟨hcs, _⟩ | ⟨a, len, cap, zs, hcs, _, hl, hm, hz, _, hcell, hwz⟩
  · injection hcs with hcs _
    subst hcs
    exact ⟨none, 0, [], rfl, fun k hk => absurd hk (by simp [iv]), by simp⟩
  · injection hcs with hcs _
    subst hcs
    have hlen : len ≤ zs.length := by rw [hz]; split <;> omega
    have ht : (zs.take len).length = len := by rw [List.length_take]; omega
    refine ⟨some a, cap, zs.take len, by rw [ht], ?_, fun n hn => hwz n (List.mem_of_mem_take hn)⟩
    intro k hk
    have hk' : k < len := by rw [iv, List.length_map, ht] at hk; exact hk
    obtain ⟨b, off, spot⟩ := a
    have hc0 := hcell 0 (by omega)
    have hspot : spot = none := by simpa [Addr.add] using World.cell?_spot hc0
    subst hspot
    have hc := hcell k (by omega)
    refine ⟨b, off, rfl, ?_⟩
    have e1 := add_off b off k
    rw [e1] at hc
    rw [hc]
    have hkz : k < zs.length := by omega
    simp [iv, List.getD_eq_getElem?_getD, List.getElem?_eq_getElem hkz]
end
theorem int_one : Tryd.prog.cellsOf 3 = 1 := by kernel_rfl
theorem ints_one : Tryd.prog.cellsOf 22 = 1 := by kernel_rfl
theorem beam_one : Tryd.prog.cellsOf 24 = 1 := by kernel_rfl

set_option maxRecDepth 100000 in
/-- a beam as it comes in: a slice that reads as a list -/
theorem open_beam {H : Type} {enc : TypeId × Value → H} {W : World} {b0 base : Nat} {sp : Nat → Bool} {hd : Bool} {r : Reach} {v : Value} {d : DataW H} {p : List MemPlace}
    (hv : Value.okWide Tryd.prog W r b0 24 v) (h : DataW.Trod enc Tryd.prog W base sp hd 24 v d p) :
    ∃ A c l, v = .agg #[.slice A l.length c] ∧ Sl W A (iv l) ∧ ∀ n ∈ l, (Lit.int .i64 n).wf = true := by
  obtain ⟨cs, rfl, hsz⟩ := okWide_struct Tryd.underlying24 hv
  obtain ⟨c0, rfl⟩ := array1 (hsz.trans beam_one)
  obtain ⟨fuel, hf⟩ := h
  obtain ⟨y0, n, _, _, h0⟩ := trod_struct1 Tryd.underlying24 hf
  obtain ⟨A, c, l, rfl, hs, hw⟩ := open_sl Tryd.underlying22 Tryd.underlying3 int_one (by simpa [Value.cells, ints_one] using h0)
  exact ⟨A, c, l, rfl, hs, hw⟩
end Go.Proofs.YtamkannjdbodpaaDoor
