import Derived.Test.YtfolipkbcibgdaaGrX
namespace Go.Proofs.Ytfolipkbcibgdaa
open Go.RowKit Go.WideShapes Go.ChangeShapes

/-! facts that later worlds keep -/
def Stay (w : World) (P : World → Prop) : Prop := ∀ W, Below w.heap.size w W → P W
theorem Stay.now {w : World} {P : World → Prop} (h : Stay w P) : P w := h w (Below.refl _ _)
theorem Stay.step {w w' : World} {P : World → Prop} (h : Stay w P) (hb : Below w.heap.size w w') : Stay w' P := fun W hW => h W (Below.step hb hW)
theorem Stay.alloc {w : World} {P : World → Prop} (h : Stay w P) (o : Obj) : Stay (w.alloc o) P := h.step ((Below.refl _ _).alloc (Nat.le_refl _) o)
theorem Stay.and {w : World} {P Q : World → Prop} (h : Stay w P) (h' : Stay w Q) : Stay w (fun W => P W ∧ Q W) := fun W hW => ⟨h W hW, h' W hW⟩
theorem stay_blk {w : World} {g t : Nat} {cs : Array Value} (h : Blk w g t cs) : Stay w (fun W => Blk W g t cs) := fun _ hW => h.below hW h.lt
theorem stay_sl {w : World} {A : Option Addr} {xs : List Value} (h : Sl w A xs) : Stay w (fun W => Sl W A xs) := fun _ hW => h.bel hW
theorem stay_own {w : World} {base e size n : Nat} {v : Value} {xs : List Value} (h : w.ownsRow base e size v n xs) : Stay w (fun W => W.ownsRow base e size v n xs) := fun _ hW => own_bel h hW
theorem stay_at {w : World} {b o : Nat} {v : Value} (h : w.cell? ⟨b, o, none⟩ = some v) : Stay w (fun W => W.cell? ⟨b, o, none⟩ = some v) := fun _ hW => (hW.cell (lt_of_cell h)).trans h
theorem stay_below {w W : World} (h : Below w.heap.size w W) : Stay W (fun W' => Below w.heap.size w W') := fun _ hW => Below.step h hW
theorem Stay.drewN {w : World} {P : World → Prop} (h : Stay w P) (n : Nat) : Stay (w.drewN n) P := h.step (below_drewN (Below.refl _ _) n)
theorem blk_up (w : World) (t t' : TypeId) (cs cs' : Array Value) : Blk ((w.alloc (.cells cs t)).alloc (.cells cs' t')) (w.heap.size + 1) t' cs' := by
  have h := Blk.new (w.alloc (.cells cs t)) t' cs'
  rw [World.size_alloc] at h
  exact h
end Go.Proofs.Ytfolipkbcibgdaa
