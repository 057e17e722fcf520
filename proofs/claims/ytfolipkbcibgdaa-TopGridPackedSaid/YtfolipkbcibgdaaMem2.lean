import Derived.Test.YtfolipkbcibgdaaMem
namespace Go.Proofs.Ytfolipkbcibgdaa
open Go.RowKit Go.WideShapes Go.ChangeShapes

/-- behind an append onto a row of the call's own: another block is as it was -/
theorem Blk.app {wr w1 : World} {base e n g t : Nat} {v : Value} {xs : List Value} {cs : Array Value} {o : Obj} (hb : Blk wr g t cs) (hown : wr.ownsRow base e 1 v n xs) (hgrow : (wr.alloc o).grownBy w1 v.ownBlock) (hne : e ≠ t) : Blk w1 g t cs :=
  (hb.alloc o).grown hgrow (fun h => own_blk_ne (hown.alloc o) (hb.alloc o) hne h.symm)
theorem Blk.app' {wr w1 : World} {base e size n g t : Nat} {v : Value} {xs : List Value} {cs : Array Value} (hb : Blk wr g t cs) (hown : wr.ownsRow base e size v n xs) (hgrow : wr.grownBy w1 v.ownBlock) (hne : e ≠ t) : Blk w1 g t cs :=
  hb.grown hgrow (fun h => own_blk_ne hown hb hne h.symm)
theorem Below.app {w wr w1 : World} {e size n : Nat} {v : Value} {xs : List Value} {o : Obj} (hbel : Below w.heap.size w wr) (hown : wr.ownsRow w.heap.size e size v n xs) (hgrow : (wr.alloc o).grownBy w1 v.ownBlock) : Below w.heap.size w w1 :=
  (hbel.alloc hbel.size o).grown hgrow (by have := hbel.size; simp; omega) (fun k h => (hown.lt k h).1)
theorem Below.app' {w wr w1 : World} {e size n : Nat} {v : Value} {xs : List Value} (hbel : Below w.heap.size w wr) (hown : wr.ownsRow w.heap.size e size v n xs) (hgrow : wr.grownBy w1 v.ownBlock) : Below w.heap.size w w1 :=
  hbel.grown hgrow hbel.size (fun k h => (hown.lt k h).1)
theorem grown_drew {X w1 : World} {row : Option Nat} (h : X.drew.grownBy w1 row) : X.grownBy w1 row := ⟨h.os, h.tape, h.output, h.size, h.block⟩
theorem _root_.Go.World.ownsRow.weaken {w : World} {base base' e size n : Nat} {v : Value} {xs : List Value} (h : w.ownsRow base e size v n xs) (hb : base' ≤ base) : w.ownsRow base' e size v n xs := by
  refine ⟨h.1, ?_⟩
  rcases h.2 with h2 | ⟨g, cap, cur, hv, hg, r⟩
  · exact .inl h2
  · exact .inr ⟨g, cap, cur, hv, Nat.le_trans hb hg, r⟩
/-- an owned row is kept by a store into another block -/
theorem own_far {w : World} {base e size n g i t : Nat} {v u : Value} {xs : List Value} {cs : Array Value} (h : w.ownsRow base e size v n xs) (hb : Blk w g t cs) (hne : e ≠ t) : (w.setCell ⟨g, i, none⟩ u).ownsRow base e size v n xs := by
  refine h.kept (row := some g) (World.grownBy.mk rfl rfl rfl (by simp [World.setCell]) (fun k _ hk => Below.heap_setCell w ⟨g, i, none⟩ u k (fun e' => hk (by rw [e'])))) ?_
  cases hv : v.ownBlock with
  | none => exact .inl rfl
  | some k => exact .inr (by rw [← hv]; exact own_blk_ne h hb hne)
end Go.Proofs.Ytfolipkbcibgdaa
