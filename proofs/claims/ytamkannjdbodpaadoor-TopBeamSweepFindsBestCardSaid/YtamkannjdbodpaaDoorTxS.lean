import Derived.Test.YtamkannjdbodpaaDoorMem2
import Derived.Test.YtamkannjdbodpaaDoorBase
namespace Go.Proofs.YtamkannjdbodpaaDoor
open Go.RowKit Go.WideShapes Go.ChangeShapes

/-! what stays so in every later world; copies of beams (these stand in PowD, BookC, SwpC elsewhere) -/
def Stay (w : World) (P : World → Prop) : Prop := ∀ W, Below w.heap.size w W → P W
theorem Stay.now {w : World} {P : World → Prop} (h : Stay w P) : P w := h w (Below.refl _ _)
theorem Stay.step {w w' : World} {P : World → Prop} (h : Stay w P) (hb : Below w.heap.size w w') : Stay w' P := fun W hW => h W (Below.step hb hW)
theorem Stay.alloc {w : World} {P : World → Prop} (h : Stay w P) (o : Obj) : Stay (w.alloc o) P := h.step ((Below.refl _ _).alloc (Nat.le_refl _) o)
theorem Stay.and {w : World} {P Q : World → Prop} (h : Stay w P) (h' : Stay w Q) : Stay w (fun W => P W ∧ Q W) := fun W hW => ⟨h W hW, h' W hW⟩
theorem Stay.triv (w : World) : Stay w (fun _ => True) := fun _ _ => trivial
theorem stay_blk {w : World} {g t : Nat} {cs : Array Value} (h : Blk w g t cs) : Stay w (fun W => Blk W g t cs) := fun _ hW => h.below hW h.lt
theorem stay_new (w : World) (t : Nat) (cs : Array Value) : Stay (w.alloc (.cells cs t)) (fun W => Blk W w.heap.size t cs) := stay_blk (Blk.new w t cs)
theorem stay_sl {w : World} {A : Option Addr} {xs : List Value} (h : Sl w A xs) : Stay w (fun W => Sl W A xs) := fun _ hW => h.bel hW
theorem stay_below {w W : World} (h : Below w.heap.size w W) : Stay W (fun W' => Below w.heap.size w W') := fun _ hW => Below.step h hW
theorem below_drew {B : Nat} {a w : World} (h : Below B a w) : Below B a w.drew := ⟨h.os, h.tape, h.output, h.size, h.block⟩
theorem Stay.drew {w : World} {P : World → Prop} (h : Stay w P) : Stay w.drew P := h.step (below_drew (Below.refl _ _))
theorem Stay.drewN {w : World} {P : World → Prop} (h : Stay w P) (n : Nat) : Stay (w.drewN n) P := h.step (below_drewN (Below.refl _ _) n)
theorem copy_own (A : Option Addr) (c : Nat) (l : List Int) (w : World) (hs : Sl w A (iv l)) (hl : l.length ≤ 1000000) :
    Calls Tryd.prog 8 #[.agg #[.slice A l.length c]] w fun e w' => ∃ A' c', e = .returned (.agg #[.slice A' l.length c']) ∧ w'.ownsRow w.heap.size 3 1 (.slice A' l.length c') l.length (iv l) ∧ Below w.heap.size w w' := by
  have HS := hide hs; clear hs
  go_enter Tryd.func8, Tryd.ntmps8
  go_wp2_with (go_at_call 28; go_must (refine (copyInts A c l _ (HS.out.bel (by go_grown)) hl).mono ?_; rintro e w1 ⟨A', c', rfl, ho, hb1⟩; have b1 : Below w.heap.size w w1 := Below.step (by go_grown) hb1; obtain ⟨hc1, hf1, y10, y11⟩ := bloc2 w hb1 (by first | omega | (simp; done) | (simp; omega)); simp only []))
  have hblk : Blk w1 (w.heap.size + 1) 24 #[.slice none 0 0] := (by rw [show w.heap.size + 1 = (w.alloc (.cells #[.slice A l.length c] 24)).heap.size by simp]; exact Blk.new _ _ _ : Blk ((w.alloc (.cells #[.slice A l.length c] 24)).alloc (.cells #[.slice none 0 0] 24)) (w.heap.size + 1) 24 #[.slice none 0 0]).below hb1 (by first | omega | (simp; done) | (simp; omega))
  refine bodyPost_ret (v := .agg #[.slice A' l.length c']) (by simp [results, Tryd.results8, go_sem, hc1]) rfl ⟨A', c', rfl, ?_, by go_grown⟩
  exact (own_far (u := .slice A' l.length c') (i := 0) ho hblk (by decide)).weaken (by simp; omega)
theorem cap_of_own {w : World} {base e size n c : Nat} {A : Option Addr} {xs : List Value} (h : w.ownsRow base e size (.slice A n c) n xs) : n ≤ c := by
  rcases h.2 with ⟨h1, h2⟩ | ⟨g, cap, cur, hv, _, _, hc, _⟩
  · omega
  · injection hv with _ _ hv
    omega
end Go.Proofs.YtamkannjdbodpaaDoor
