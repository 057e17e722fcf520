import Derived.Test.YtfolipkbcibgdaaGpO
import Derived.Test.YtfolipkbcibgdaaGrS
namespace Go.Proofs.Ytfolipkbcibgdaa
open Go.RowKit Go.WideShapes Go.ChangeShapes

/-! the first place for three blocks of the example: behind the synchronization -/
theorem ex_no : ∀ s b : Nat, s < slN exP 0 → b < blN exP 0 3 → freeB 4 exP exS [] ⟨0, 0, (s : Nat), 2, 2, (b : Nat), 3⟩ = false := by
  intro s b hs hb
  have h1 : slN exP 0 = 1 := by decide
  have h2 : blN exP 0 3 = 2 := by decide
  rw [h1] at hs
  rw [h2] at hb
  obtain rfl : s = 0 := by omega
  rcases (by omega : b = 0 ∨ b = 1) with rfl | rfl <;> decide +kernel
theorem ex_yes : freeB 4 exP exS [] ⟨0, 1, ((0 : Nat) : Int), 2, 2, ((0 : Nat) : Int), 3⟩ = true := by decide +kernel
theorem ex_want : OkWn exP 0 0 20 2 2 3 := ⟨by decide, by decide, fun _ => ⟨of_decide_eq_true (by kernel_rfl), of_decide_eq_true (by kernel_rfl)⟩⟩
theorem fit_ex (A3 A4 : Option Addr) (c3 c4 : Nat) (w : World) (hP : Prts w A3 exP) (hS : Sigs w A4 exS) :
    Calls Try.prog 8 #[.agg #[strV [99], .int .i64 4, .int .i64 48, .slice A3 1 c3, .slice A4 4 c4], .slice none 0 0, .agg #[.int .i64 0, .int .i64 0, .int .i64 20, .int .i64 2, .int .i64 2, .int .i64 3]] w fun e w' => e = .returned (.tuple #[.agg #[.int .i64 0, .int .i64 1, .int .i64 0, .int .i64 2, .int .i64 2, .int .i64 0, .int .i64 3], .int .i64 0]) ∧ Below w.heap.size w w' :=
  (firstFit_ok [99] 4 48 A3 A4 c3 c4 exP exS [] none 0 0 0 20 2 2 3 w ex_okN ex_okC (AccL.nil _ _ _) (Nat.le_refl _) ex_want hP hS (Rws.nil _ _)).mono fun e w' h => by
    obtain ⟨⟨n, sl, bk, rfl, ⟨h1, h2, h3, h4⟩, hf, g1, g2, g3⟩ | ⟨rfl, hno⟩, hb⟩ := h
    · have hn1 : 1 ≤ n := by
        rcases Int.lt_or_le n 1 with h | h
        · obtain rfl : n = 0 := by omega
          have := ex_no sl bk h3 h4
          exact absurd (this.symm.trans hf) (by decide)
        · exact h
      have hn2 : n ≤ 1 := by
        rcases Int.lt_or_le 1 n with h | h
        · have := g1 1 (by omega) h 0 0 (by decide) (by decide)
          exact absurd (this.symm.trans ex_yes) (by decide)
        · exact h
      obtain rfl : n = 1 := by omega
      have hs0 : slN exP 0 = 1 := by decide
      rw [hs0] at h3
      obtain rfl : sl = 0 := by omega
      have hb0 : bk = 0 := by
        rcases Nat.eq_zero_or_pos bk with h | h
        · exact h
        · have := g3 0 h
          exact absurd (this.symm.trans ex_yes) (by decide)
      subst hb0
      exact ⟨rfl, hb⟩
    · exfalso
      have := hno 1 (by omega) (by omega) 0 0 (by decide) (by decide)
      exact absurd (this.symm.trans ex_yes) (by decide)
end Go.Proofs.Ytfolipkbcibgdaa
