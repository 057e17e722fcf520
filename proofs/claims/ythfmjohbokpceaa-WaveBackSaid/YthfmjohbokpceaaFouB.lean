import Derived.Test.YthfmjohbokpceaaFouA
namespace Go.Proofs.Ythfmjohbokpceaa
open Go.RowKit Go.WideShapes Go.ChangeShapes

/-! four sums of turned entries (program) -/
def foV (x : List (Int × Int)) (s : Bool) (k i j : Nat) : Int × Int := if j < k then fo x s j 4 else if j = k then fo x s k i else (0, 0)
theorem foV_next (x : List (Int × Int)) (s : Bool) (k j : Nat) : foV x s k 4 j = foV x s (k + 1) 0 j := by
  unfold foV
  by_cases h : j < k
  · rw [if_pos h, if_pos (by omega)]
  · rw [if_neg h]
    by_cases e : j = k
    · subst e; rw [if_pos rfl, if_pos (by omega)]
    · rw [if_neg e, if_neg (by omega)]
      by_cases e2 : j = k + 1
      · rw [if_pos e2]; rfl
      · rw [if_neg e2]
def Vis (x : List (Int × Int)) (s : Bool) (V : Array Value) (k i : Nat) : Prop := V.size = 4 ∧ ∀ j, j < 4 → ∃ a b, V[j]? = some (.complex .f64 a b) ∧ IsC a b (foV x s k i j)
theorem Vis.next {x : List (Int × Int)} {s : Bool} {V : Array Value} {k : Nat} (h : Vis x s V k 4) : Vis x s V (k + 1) 0 :=
  ⟨h.1, fun j hj => by obtain ⟨a, b, h1, h2⟩ := h.2 j hj; exact ⟨a, b, h1, by rw [← foV_next]; exact h2⟩⟩
theorem Vis.set {x : List (Int × Int)} {s : Bool} {V : Array Value} {k i a b : Nat} (h : Vis x s V k i) (hk : k < 4) (hc : IsC a b (fo x s k (i + 1))) : Vis x s (V.setIfInBounds k (.complex .f64 a b)) k (i + 1) := by
  refine ⟨by rw [Array.size_setIfInBounds]; exact h.1, fun j hj => ?_⟩
  by_cases e : j = k
  · subst e
    refine ⟨a, b, by rw [Array.getElem?_setIfInBounds_self_of_lt (by rw [h.1]; exact hk)], ?_⟩
    unfold foV; rw [if_neg (by omega), if_pos rfl]; exact hc
  · obtain ⟨a', b', h1, h2⟩ := h.2 j hj
    refine ⟨a', b', by rw [Array.getElem?_setIfInBounds_ne (fun h => e h.symm)]; exact h1, ?_⟩
    unfold foV at h2 ⊢
    by_cases e2 : j < k
    · rw [if_pos e2] at h2 ⊢; exact h2
    · rw [if_neg e2, if_neg e] at h2 ⊢; exact h2
theorem Vis.zero (x : List (Int × Int)) (s : Bool) : Vis x s #[.complex .f64 0 0, .complex .f64 0 0, .complex .f64 0 0, .complex .f64 0 0] 0 0 := by
  refine ⟨rfl, fun j hj => ⟨0, 0, ?_, ?_⟩⟩
  · match j, hj with
    | 0, _ => rfl
    | 1, _ => rfl
    | 2, _ => rfl
    | 3, _ => rfl
  · unfold foV
    rw [if_neg (by omega)]
    by_cases e : j = 0
    · rw [if_pos e]; exact ⟨fzero_is, fzero_is⟩
    · rw [if_neg e]; exact ⟨fzero_is, fzero_is⟩
theorem fo_le {x : List (Int × Int)} (hx : ∀ i, cle 1000000000 (kg x i)) (s : Bool) (k : Nat) (hk : k < 5) : ∀ i : Nat, i < 5 → cle ((i : Int) * 2000000000) (fo x s k i)
  | 0, _ => by unfold fo cle; simp
  | i + 1, hi => by
    have h1 := fo_le hx s k hk i (by omega)
    have h2 := cp_bd s k i hk (by omega)
    have h3 := hx i
    show cle _ (cadd (fo x s k i) (cmul (kg x i) (cp (cp (uI s) k) i)))
    generalize fo x s k i = f at h1 ⊢
    generalize cp (cp (uI s) k) i = c at h2 ⊢
    generalize kg x i = g at h3 ⊢
    unfold cle cadd cmul at *
    obtain ⟨p1, q1⟩ := mul_bd2 h3.1 h3.2.1 h2.1 h2.2.1
    obtain ⟨p2, q2⟩ := mul_bd2 h3.2.2.1 h3.2.2.2 h2.2.2.1 h2.2.2.2
    obtain ⟨p3, q3⟩ := mul_bd2 h3.1 h3.2.1 h2.2.2.1 h2.2.2.2
    obtain ⟨p4, q4⟩ := mul_bd2 h3.2.2.1 h3.2.2.2 h2.1 h2.2.1
    dsimp only
    push_cast
    omega
end Go.Proofs.Ythfmjohbokpceaa
