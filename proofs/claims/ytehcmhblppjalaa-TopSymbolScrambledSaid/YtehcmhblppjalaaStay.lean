import Derived.Test.YtehcmhblppjalaaMem2
namespace Go.Proofs.Ytehcmhblppjalaa
open Go.RowKit Go.WideShapes Go.ChangeShapes

/-! what stays so in every later world -/
def Stay (w : World) (P : World → Prop) : Prop := ∀ W, Below w.heap.size w W → P W
theorem Stay.now {w : World} {P : World → Prop} (h : Stay w P) : P w := h w (Below.refl _ _)
theorem Stay.step {w w' : World} {P : World → Prop} (h : Stay w P) (hb : Below w.heap.size w w') : Stay w' P := fun W hW => h W (Below.step hb hW)
theorem Stay.alloc {w : World} {P : World → Prop} (h : Stay w P) (o : Obj) : Stay (w.alloc o) P := h.step ((Below.refl _ _).alloc (Nat.le_refl _) o)
theorem Stay.and {w : World} {P Q : World → Prop} (h : Stay w P) (h' : Stay w Q) : Stay w (fun W => P W ∧ Q W) := fun W hW => ⟨h W hW, h' W hW⟩
theorem Stay.triv (w : World) : Stay w (fun _ => True) := fun _ _ => trivial
theorem stay_blk {w : World} {g t : Nat} {cs : Array Value} (h : Blk w g t cs) : Stay w (fun W => Blk W g t cs) := fun _ hW => h.below hW h.lt
theorem stay_new (w : World) (t : Nat) (cs : Array Value) : Stay (w.alloc (.cells cs t)) (fun W => Blk W w.heap.size t cs) := stay_blk (Blk.new w t cs)
theorem stay_sl {w : World} {A : Option Addr} {xs : List Value} (h : Sl w A xs) : Stay w (fun W => Sl W A xs) := fun _ hW => h.bel hW
theorem stay_below {w W : World} (h : Below w.heap.size w W) : Stay W (fun W' => Below w.heap.size w W') := fun _ hW => Below.step h hW
theorem below_drew {B : Nat} {a w : World} (h : Below B a w) : Below B a w.drew := ⟨h.os, h.tape, h.output, h.size, h.block⟩
theorem Stay.drew {w : World} {P : World → Prop} (h : Stay w P) : Stay w.drew P := h.step (below_drew (Below.refl _ _))
theorem Stay.drewN {w : World} {P : World → Prop} (h : Stay w P) (n : Nat) : Stay (w.drewN n) P := h.step (below_drewN (Below.refl _ _) n)
end Go.Proofs.Ytehcmhblppjalaa
