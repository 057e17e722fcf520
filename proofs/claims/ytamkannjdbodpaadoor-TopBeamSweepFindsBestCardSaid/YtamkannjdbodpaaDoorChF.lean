import Derived.Test.YtamkannjdbodpaaDoorChE
namespace Go.Proofs.YtamkannjdbodpaaDoor
open Go.RowKit Go.WideShapes Go.ChangeShapes

theorem firstOf_ok : ∀ {l : List Int}, firstOf l = 0 → ∀ x ∈ l, x = 0
  | [], _, x, h => absurd h (by simp)
  | a :: r, e, x, h => by
    unfold firstOf at e
    by_cases q : a = 0
    · rcases List.mem_cons.1 h with rfl | h
      · exact q
      · refine firstOf_ok (l := r) ?_ x h
        simpa [q] using e
    · simp [q] at e
theorem firstOf3_ok {a b c : Int} (h : firstOf [a, b, c] = 0) : a = 0 ∧ b = 0 ∧ c = 0 := ⟨firstOf_ok h a (by simp), firstOf_ok h b (by simp), firstOf_ok h c (by simp)⟩
theorem chE_ok {g : List (Int × Int)} (h : chE g = 0) : 1 ≤ g.length ∧ Ch30 g := by
  unfold chE at h
  obtain ⟨h1, h2, h3⟩ := firstOf3_ok h
  unfold unlessE at h1 h2 h3
  have a1 : 0 < (g.length : Int) := by
    by_cases q : 0 < (g.length : Int)
    · exact q
    · rw [decide_eq_false q] at h1; simp at h1
  have a2 : (g.length : Int) ≤ 8 := by
    by_cases q : (g.length : Int) ≤ 8
    · exact q
    · rw [decide_eq_false q] at h2; simp at h2
  have a3 : g.any greatG = false := by
    cases q : g.any greatG
    · rfl
    · rw [q] at h3; simp at h3
  refine ⟨by omega, by omega, fun z hz => ?_⟩
  have := List.any_eq_false.1 a3 z hz
  unfold greatG withinB at this
  unfold cle
  simp at this
  omega
theorem lenE_ok {g h : List (Int × Int)} (e : lenE g h = 0) : g.length = h.length := by
  unfold lenE unlessE at e
  by_cases q : g.length = h.length
  · exact q
  · rw [decide_eq_false q] at e; simp at e
theorem bothE_ok {g h : List (Int × Int)} (e : bothE g h = 0) : 1 ≤ g.length ∧ Ch30 g ∧ Ch30 h ∧ g.length = h.length := by
  obtain ⟨h1, h2, h3⟩ := firstOf3_ok e
  exact ⟨(chE_ok h1).1, (chE_ok h1).2, (chE_ok h2).2, lenE_ok h3⟩
theorem channelErr_at (A : Option Addr) (c n : Nat) (h : List (Int × Int)) (w : World) (hn : h.length = n) (hs : Sl w A (gv h)) (hl : n ≤ 1000) :
    Calls Tryd.prog 44 #[.slice A n c] w fun e w' => e = .returned (.int .i64 (chE h)) ∧ Below w.heap.size w w' := by
  subst hn; exact channelErr_beam A c h w hs hl
def inV (g h : List (Int × Int)) : Int × Int := if bothE g h = 0 then innerZ g h g.length else (0, 0)
end Go.Proofs.YtamkannjdbodpaaDoor
