import Derived.Test.YtamkannjdbodpaaDoorAwake
namespace Go.Proofs.YtamkannjdbodpaaDoor
open Go.RowKit Go.WideShapes Go.ChangeShapes

theorem intsEq_self (l : List Int) : intsEq l l = true := by simp [intsEq]

theorem ints_same (A B : Option Addr) (c d n : Nat) (l : List Int) (w : World) (ha : Sl w A (iv l)) (hb : Sl w B (iv l)) (hl : l.length = n) (hn : n ≤ 1000000) :
    Calls Tryd.prog 12 #[.slice A n c, .slice B n d] w fun x w' => x = .returned (.bool true) ∧ ∃ n, w' = w.drewN n := by
  subst hl
  have h := ints_base A B c d l l w ha hb hn hn
  rwa [intsEq_self] at h

theorem field_beam (A : Option Addr) (n c : Nat) (w : World) : (Instr.field 24 (.agg #[.slice A n c]) 0).run Tryd.prog w = .ok (.slice A n c) w := by kernel_rfl

theorem antennas_law (A : Option Addr) (n c : Nat) (w : World) :
    Calls Tryd.prog 6 #[.agg #[.slice A n c]] w fun e w' => e = .returned (.bool (decide ((n : Int) ≤ 10))) ∧ Below w.heap.size w w' := by
  go_enter Tryd.func6, Tryd.ntmps6
  go_wp2
  go_ret
  exact ⟨by simp, by go_grown⟩

theorem copy_ref (A : Option Addr) (c : Nat) (l : List Int) (w : World) (hs : Sl w A (iv l)) (hl : l.length ≤ 1000000) :
    Calls Tryd.prog 8 #[.agg #[.slice A l.length c]] w fun e w' => ∃ A' c', e = .returned (.agg #[.slice A' l.length c']) ∧ Sl w' A' (iv l) ∧ Below w.heap.size w w' := by
  have HS := hide hs; clear hs
  go_enter Tryd.func8, Tryd.ntmps8
  go_wp2_with (go_at_call 28; go_must (refine (copyInts A c l _ (HS.out.bel (by go_grown)) hl).mono ?_; rintro e w1 ⟨A', c', rfl, ho, hb1⟩; have b1 : Below w.heap.size w w1 := Below.step (by go_grown) hb1; obtain ⟨hc1, hf1, y10, y11⟩ := bloc2 w hb1 (by first | omega | (simp; done) | (simp; omega)); simp only []))
  have hblk : Blk w1 (w.heap.size + 1) 24 #[.slice none 0 0] := (by rw [show w.heap.size + 1 = (w.alloc (.cells #[.slice A l.length c] 24)).heap.size by simp]; exact Blk.new _ _ _ : Blk ((w.alloc (.cells #[.slice A l.length c] 24)).alloc (.cells #[.slice none 0 0] 24)) (w.heap.size + 1) 24 #[.slice none 0 0]).below hb1 (by first | omega | (simp; done) | (simp; omega))
  refine bodyPost_ret (v := .agg #[.slice A' l.length c']) (by simp [results, Tryd.results8, go_sem, hc1]) rfl ⟨A', c', rfl, ?_, by go_grown⟩
  exact Sl.of_own (own_far (u := .slice A' l.length c') (i := 0) ho hblk (by decide))
end Go.Proofs.YtamkannjdbodpaaDoor
