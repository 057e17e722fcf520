import Derived.Test.YtamkannjdbodpaaMPairs
import Derived.Maps.OwnSet
namespace Go.Proofs.Ytamkannjdbodpaa
open Go.RowKit Go.WideShapes Go.ChangeShapes

/-! a map of taken users, that the call makes -/
theorem intK : Go.Maps.Keyed Try.prog 3 := Go.Maps.int_keyed Try.underlying3
theorem zeroB (w : World) : (zeroValue 4).run Try.prog w = .ok (.bool false) w := by kernel_rfl
theorem plainElem_bool_inv {H : Type} {P : Program} {e : TypeId} (he : P.underlying e = some .bool) {v : Value} {z : DataW H × List MemPlace} (h : plainElem P e v = some z) : ∃ a, v = .bool a ∧ z = (.lit (.bool a), []) := by
  unfold plainElem at h
  rw [he] at h
  cases v <;> simp at h
  exact ⟨_, rfl, h.symm⟩
/-- block g is a map, of at most n entries, in which just the listed numbers are true -/
def MapIs (w : World) (g n : Nat) (T : List Int) : Prop :=
  ∃ D : DataW Unit, w.ownsMap Try.prog 3 (plainElem Try.prog 4) g n D ∧ ∀ k : Int, (Lit.int .i64 k).wf = true → D.atKey (.int .i64 k) (.lit (.bool false)) = .lit (.bool (T.contains k))
theorem mapis_made (w : World) : MapIs (w.alloc (.map #[] 0)) w.heap.size 0 [] :=
  ⟨.map [], World.ownsMap_made w _ _ _, fun _ _ => rfl⟩
theorem MapIs.lt {w : World} {g n : Nat} {T : List Int} (h : MapIs w g n T) : g < w.heap.size := by
  obtain ⟨D, h1, _⟩ := h; exact h1.lt
theorem MapIs.below {w w' : World} {g n : Nat} {T : List Int} (h : MapIs w g n T) (hb : Below w.heap.size w w') : MapIs w' g n T := by
  obtain ⟨D, h1, h2⟩ := h
  exact ⟨D, h1.kept (only_of_below hb none) (by simp), h2⟩
theorem MapIs.drew {w : World} {g n : Nat} {T : List Int} (h : MapIs w g n T) : MapIs w.drew g n T := h
theorem MapIs.setCell {w : World} {g n : Nat} {T : List Int} (h : MapIs w g n T) {a : Addr} (ha : g ≠ a.block) (u : Value) : MapIs (w.setCell a u) g n T := by
  obtain ⟨D, h1, h2⟩ := h
  exact ⟨D, h1.setCell ha u, h2⟩
set_option maxRecDepth 100000 in
theorem MapIs.look {w : World} {g n : Nat} {T : List Int} (h : MapIs w g n T) {k : Int} (hk : (Lit.int .i64 k).wf = true) :
    (Instr.lookup 182 (.map (some g)) (.int .i64 k) false).run Try.prog w = .ok (.bool (T.contains k)) w := by
  obtain ⟨D, h1, h2⟩ := h
  obtain ⟨v, ps, hrun, hv⟩ := h1.lookup intK Try.underlying182 (zeroB w) (plainElem_bool Try.underlying4 false) (Go.Maps.keyOf_int_mk Try.underlying3 hk)
  obtain ⟨a, rfl, ha⟩ := plainElem_bool_inv Try.underlying4 hv
  rw [h2 k hk] at ha
  injection ha with ha _
  injection ha with ha
  injection ha with ha
  rw [ha]; exact hrun
set_option maxRecDepth 100000 in
theorem MapIs.put {w : World} {g n : Nat} {T : List Int} (h : MapIs w g n T) {k : Int} (hk : (Lit.int .i64 k).wf = true) (hn : n < maxLen) :
    ∃ w', (Instr.mapUpdate 182 (.map (some g)) (.int .i64 k) (.bool true)).run Try.prog w = .ok () w' ∧ MapIs w' g (n + 1) (T ++ [k]) ∧ w.grownBy w' (some g) := by
  obtain ⟨D, h1, h2⟩ := h
  obtain ⟨w', e1, e2, e3⟩ := h1.update intK Try.underlying182 hn (Go.Maps.keyOf_int_mk Try.underlying3 hk) (plainElem_bool Try.underlying4 true)
  refine ⟨w', e1, ⟨_, e2, fun k' hk' => ?_⟩, e3⟩
  by_cases q : k' = k
  · subst q
    rw [Go.Maps.atKey_put_same h1.isMap (by first | exact hk | trivial | simp [WideAt.IsKeyLit])]
    simp
  · rw [Go.Maps.atKey_put_other (by intro e; injection e with _ e; exact q e), h2 k' hk']
    have : (T ++ [k]).contains k' = T.contains k' := by
      have hq : (k' == k) = false := by rw [beq_eq_false_iff_ne]; exact q
      rw [List.contains_eq_any_beq, List.contains_eq_any_beq, List.any_append]
      simp [hq]
    rw [this]
end Go.Proofs.Ytamkannjdbodpaa
