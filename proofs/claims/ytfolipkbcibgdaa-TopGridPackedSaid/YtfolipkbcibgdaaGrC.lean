import Derived.Test.YtfolipkbcibgdaaGrE
namespace Go.Proofs.Ytfolipkbcibgdaa
open Go.RowKit Go.WideShapes Go.ChangeShapes

/-! covers: a row of 112 ticks and 600 units -/
def CovAt (w : World) (g : Nat) (tk un : Nat → Bool) : Prop := ∃ cs : Array Value, Blk w g 114 cs ∧ cs.size = 712 ∧ (∀ i, i < 112 → cs[i]? = some (.bool (tk i))) ∧ ∀ i, i < 600 → cs[112 + i]? = some (.bool (un i))
/-- so in a range, too -/
def inR (a b : Nat) (f : Nat → Bool) : Nat → Bool := fun j => f j || (decide (a ≤ j) && decide (j < b))
theorem inR_none (a : Nat) (f : Nat → Bool) : inR a a f = f := by funext j; simp [inR]; omega
theorem inR_succ (a b : Nat) (h : a ≤ b) (f : Nat → Bool) : (fun j => inR a b f j || decide (j = b)) = inR a (b + 1) f := by
  funext j
  unfold inR
  cases f j
  · simp only [Bool.false_or]
    by_cases h1 : j = b
    · subst h1; simp [h]
    · have : decide (j < b + 1) = decide (j < b) := by rw [decide_eq_decide]; omega
      rw [this]; simp [h1]
  · simp
theorem CovAt.lt {w : World} {g : Nat} {tk un : Nat → Bool} (h : CovAt w g tk un) : g < w.heap.size := by obtain ⟨cs, hb, _⟩ := h; exact hb.lt
theorem CovAt.keep {w w' : World} {g : Nat} {tk un : Nat → Bool} (h : CovAt w g tk un) (hk : w'.heap[g]? = w.heap[g]?) : CovAt w' g tk un := by
  obtain ⟨cs, hb, hr⟩ := h
  exact ⟨cs, hk.trans hb, hr⟩
theorem CovAt.bel {w w' : World} {g : Nat} {tk un : Nat → Bool} (h : CovAt w g tk un) (hb : Below w.heap.size w w') : CovAt w' g tk un := h.keep (hb.block g h.lt)
theorem stay_cov {w : World} {g : Nat} {tk un : Nat → Bool} (h : CovAt w g tk un) : Stay w (fun W => CovAt W g tk un) := fun _ hW => h.bel hW
theorem CovAt.tick {w : World} {g : Nat} {tk un : Nat → Bool} (h : CovAt w g tk un) (i : Nat) (hi : i < 112) : w.cell? ⟨g, i, none⟩ = some (.bool (tk i)) := by
  obtain ⟨cs, hb, _, h1, _⟩ := h
  rw [hb.cell]; exact h1 i hi
theorem CovAt.unit {w : World} {g : Nat} {tk un : Nat → Bool} (h : CovAt w g tk un) (i : Nat) (hi : i < 600) : w.cell? ⟨g, 112 + i, none⟩ = some (.bool (un i)) := by
  obtain ⟨cs, hb, _, _, h1⟩ := h
  rw [hb.cell]; exact h1 i hi
theorem CovAt.frozen {w : World} {g : Nat} {tk un : Nat → Bool} (h : CovAt w g tk un) (i : Nat) : w.frozen? ⟨g, i, none⟩ = false := by
  obtain ⟨cs, hb, _⟩ := h
  exact hb.frozen i
theorem CovAt.setT {w : World} {g : Nat} {tk un : Nat → Bool} (h : CovAt w g tk un) (i : Nat) (hi : i < 112) : CovAt (w.setCell ⟨g, i, none⟩ (.bool true)) g (fun j => tk j || decide (j = i)) un := by
  obtain ⟨cs, hb, hs, h1, h2⟩ := h
  refine ⟨_, hb.set_ i (.bool true), by simpa using hs, fun j hj => ?_, fun j hj => ?_⟩
  · rw [Array.getElem?_setIfInBounds]
    by_cases e : i = j
    · subst e; simp [hs]; omega
    · rw [if_neg e, h1 j hj]; simp [show ¬ j = i from fun x => e x.symm]
  · rw [Array.getElem?_setIfInBounds, if_neg (by omega), h2 j hj]
theorem CovAt.setU {w : World} {g : Nat} {tk un : Nat → Bool} (h : CovAt w g tk un) (i : Nat) (hi : i < 600) : CovAt (w.setCell ⟨g, 112 + i, none⟩ (.bool true)) g tk (fun j => un j || decide (j = i)) := by
  obtain ⟨cs, hb, hs, h1, h2⟩ := h
  refine ⟨_, hb.set_ (112 + i) (.bool true), by simpa using hs, fun j hj => ?_, fun j hj => ?_⟩
  · rw [Array.getElem?_setIfInBounds, if_neg (by omega), h1 j hj]
  · rw [Array.getElem?_setIfInBounds]
    by_cases e : i = j
    · subst e; simp [hs]; omega
    · rw [if_neg (by omega), h2 j hj]; simp [show ¬ j = i from fun x => e x.symm]
theorem grown_one {w0 w : World} {g : Nat} (h : w0.grownBy w (some g)) (i : Nat) (u : Value) : w0.grownBy (w.setCell ⟨g, i, none⟩ u) (some g) :=
  ⟨h.os, h.tape, h.output, by simpa [World.setCell] using h.size, fun k hk hn => (Below.heap_setCell w ⟨g, i, none⟩ u k (fun e => hn (by rw [e]))).trans (h.block k hk hn)⟩
/-! numerologies -/
theorem slotsOf_grid (mu : Nat) (w : World) (h : mu ≤ 3) : Calls Try.prog 25 #[.int .i64 (mu : Int)] w fun e w' => e = .returned (.int .i64 ((2 ^ mu : Nat) : Int)) ∧ w = w' := by
  rcases (by omega : mu = 0 ∨ mu = 1 ∨ mu = 2 ∨ mu = 3) with rfl | rfl | rfl | rfl <;> (go_enter Try.func25, Try.ntmps25; go_wp2; go_ret; exact ⟨rfl, rfl⟩)
def las (mu : Nat) : Nat := 8 / 2 ^ mu
theorem lastsOf_grid (mu : Nat) (w : World) (h : mu ≤ 3) : Calls Try.prog 70 #[.int .i64 (mu : Int)] w fun e w' => e = .returned (.int .i64 ((las mu : Nat) : Int)) ∧ w = w' := by
  have hS := hide (fun W => slotsOf_grid mu W h)
  rcases (by omega : mu = 0 ∨ mu = 1 ∨ mu = 2 ∨ mu = 3) with rfl | rfl | rfl | rfl <;> (go_enter Try.func70, Try.ntmps70; go_wp2_with (go_at_call 25; go_must (refine (hS.out _).mono ?_; rintro e w' ⟨rfl, rfl⟩; simp only [])); go_ret; exact ⟨rfl, rfl⟩)
theorem las_bd (mu : Nat) (h : mu ≤ 3) : 1 ≤ las mu ∧ las mu ≤ 8 := by
  rcases (by omega : mu = 0 ∨ mu = 1 ∨ mu = 2 ∨ mu = 3) with rfl | rfl | rfl | rfl <;> simp [las]
theorem pw_bd (mu : Nat) (h : mu ≤ 3) : 1 ≤ 2 ^ mu ∧ 2 ^ mu ≤ 8 := by
  rcases (by omega : mu = 0 ∨ mu = 1 ∨ mu = 2 ∨ mu = 3) with rfl | rfl | rfl | rfl <;> simp
theorem las_pw (mu : Nat) (h : mu ≤ 3) : las mu * 2 ^ mu = 8 := by
  rcases (by omega : mu = 0 ∨ mu = 1 ∨ mu = 2 ∨ mu = 3) with rfl | rfl | rfl | rfl <;> simp [las]
theorem tickOf_grid (mu sl sy : Nat) (w : World) (h : mu ≤ 3) (h1 : sl ≤ 8) (h2 : sy ≤ 14) : Calls Try.prog 69 #[.int .i64 (mu : Int), .int .i64 (sl : Int), .int .i64 (sy : Int)] w fun e w' => e = .returned (.int .i64 (((sl * 14 + sy) * las mu : Nat) : Int)) ∧ w = w' := by
  have hL := hide (fun W => lastsOf_grid mu W h)
  have hb := las_bd mu h
  obtain ⟨D, hD⟩ : ∃ D, las mu = D := ⟨_, rfl⟩
  rw [hD] at hL hb ⊢
  have hm := Nat.mul_le_mul (show sl * 14 + sy ≤ 126 by omega) hb.2
  obtain ⟨X, hX⟩ : ∃ X, (sl * 14 + sy) * D = X := ⟨_, rfl⟩
  have w1 : IntKind.i64.wrap ((sl : Int) * 14) = (sl : Int) * 14 := IntWalk.i64_in _ (by omega)
  have w2 : IntKind.i64.wrap ((sl : Int) * 14 + (sy : Int)) = (sl : Int) * 14 + (sy : Int) := IntWalk.i64_in _ (by omega)
  have e : ((sl : Int) * 14 + (sy : Int)) * (D : Int) = (X : Int) := by rw [← hX]; push_cast; rfl
  have w3 : IntKind.i64.wrap (((sl : Int) * 14 + (sy : Int)) * (D : Int)) = (X : Int) := by rw [e]; exact IntWalk.i64_in _ (by omega)
  rw [hX]
  clear hX hD e hm
  go_enter Try.func69, Try.ntmps69
  go_wp2_with (go_at_call 70; go_must (refine (hL.out _).mono ?_; rintro e w' ⟨rfl, rfl⟩; simp only []))
  go_ret
  exact ⟨rfl, rfl⟩
end Go.Proofs.Ytfolipkbcibgdaa
