import Derived.Test.YtamkannjdbodpaaDoorGainsA
namespace Go.Proofs.YtamkannjdbodpaaDoor
open Go.RowKit Go.WideShapes Go.ChangeShapes

theorem _root_.Go.RowKit.Below.keeps {w w1 : World} (hb : Below w.heap.size w w1) {b o : Nat} {v : Value} (h : w.cell? ⟨b, o, none⟩ = some v) : w1.cell? ⟨b, o, none⟩ = some v := (hb.cell (p := ⟨b, o, none⟩) (lt_of_cell h)).trans h
def oneN : Q4 := ⟨1, 0, 0, 0⟩
theorem add_plus (x : Q4) (p : Int) : x.plus (oneN.rotN (p % 8).toNat) = x.add 1 p := by
  rcases mod8_cases p with h | h | h | h | h | h | h | h <;> simp [Q4.add, h, Q4.plus, Q4.rotN, Q4.rot, oneN]
theorem respU_on (l : List Int) (d : Int) (k : Nat) (hk : k < l.length) (hb : k ≤ 1000 ∧ 0 ≤ l[k] ∧ l[k] ≤ 7) : respU l d (k + 1) = (respU l d k).add 1 (l[k] + (k : Int) * d) := by
  rw [respU, onUpto_on l k hk hb, respS_snoc]; rfl
theorem respU_off (l : List Int) (d : Int) (k : Nat) (hk : k < l.length) (h : l[k] = -1) : respU l d (k + 1) = respU l d k := by
  rw [respU, onUpto_off l k hk h]; rfl
theorem respU_le (l : List Int) (d : Int) (k : Nat) : (respU l d k).le k :=
  (respS_le d (onUpto l k)).mono (by have := onUpto_len l k; omega)

end Go.Proofs.YtamkannjdbodpaaDoor
