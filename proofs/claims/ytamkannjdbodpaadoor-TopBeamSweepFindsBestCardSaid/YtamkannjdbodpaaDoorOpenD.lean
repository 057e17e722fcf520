import Derived.Test.YtamkannjdbodpaaDoorOpens
import Derived.Shelf.LaysM
import Derived.LaidMore
import Derived.LaidLaws
namespace Go.Proofs.YtamkannjdbodpaaDoor
open Go.ChangeShapes Go.WideShapes Go.ChangeAt Go.RowKit

/-- whatever the first world is, the variable MaxLen holds an int -/
theorem maxLen_int : ∀ w : World, w.ShapedOpen Tryd.prog → ∃ m, w.cell? ⟨0, 0, none⟩ = some (.int .i64 m) :=
  fun _ h => Go.Proofs.cell_of_shapedOpen_int (zero := #[.int .i64 0]) (t := 3) h (of_decide_eq_true (by kernel_rfl)) (by kernel_rfl) rfl (by kernel_rfl) (by kernel_rfl) Tryd.underlying3
/-- a law's contract, told the first world's shape and what the row lists -/
theorem handed_shaped {H : Type} {enc : TypeId × Value → H} {a : Assume} {C : Checked} {os : Os} {f : FuncId} {fn : Func} {s : ChangeSpec} {conds : List PathCond} {apart fresh handsOn again : Bool} {X : World → Array Value → Prop}
    (hX : ∀ (w w' : World) (args : Array Value), w.heap = w'.heap → X w args → X w' args) (own : ownKnob C.prog.godebug = none) (started : os.Started) (noInit : C.prog.inits.idxOf? f = none) (hfn : C.prog.funcs[f]? = some fn)
    (witness : ∃ (w : World) (tape : Tape) (i : Input), w.os = os ∧ (w.forCall tape i).Shaped C.prog ∧ i.vars = [] ∧ Input.okWide C.prog (w.forCall tape i) .any w.heap.size f i ∧
      ((s.pre enc C.prog fn conds apart (w.forCall tape i).memory i.args ∧ X (w.forCall tape i).memory i.args) ∧ sizedMet enc C.prog fn (OpenSpec.ofChange s) apart (w.forCall tape i).memory i.args) ∧ a.holds C.prog (lone (Frame.enter C.prog f i.args .normal) [] (w.forCall tape i)))
    (contract : ∀ (W : World) (base : Nat) (args : Array Value) (ds gs : List (DataW H)) (before : List MemPlace),
      (∀ (j : Nat) t v, fn.params[j]? = some t → args[j]? = some v → Value.okWide C.prog W .any base t v) → DataW.Whole enc C.prog fn.params.toList s.vars apart W args.toList ds gs before →
      conds.all (PathCond.test C.prog ⟨fn.params.toList, ds, s.plain.varTypes C.prog, gs⟩) = true → X W args → W.ShapedOpen C.prog →
      Calls C.prog f args W fun e W' => ∃ v, e = .returned v ∧ s.post enc C.prog fn apart fresh handsOn again W args v W') :
    ReturnsInHanded a C os f .any (fun w args => (s.pre enc C.prog fn conds apart w args ∧ X w args) ∧ sizedMet enc C.prog fn (OpenSpec.ofChange s) apart w args) (s.post enc C.prog fn apart fresh handsOn again) := by
  refine returnsInHanded_of_calls own started noInit witness fun w tape i _ hshape _ hin hp _ => ?_
  obtain ⟨_, _, _, fn2, hfn2, _, _, _, _, hv⟩ := hin
  obtain rfl : fn2 = fn := Option.some.inj (hfn2.symm.trans hfn)
  obtain ⟨⟨⟨ds, gs, before, hwh, hc⟩, hx⟩, _⟩ := hp
  refine (contract (w.forCall tape i) w.heap.size i.args ds gs before hv (DataW.Whole.of_heap (w' := w.forCall tape i) (by rfl) hwh) hc (hX _ _ _ (by rfl) hx) hshape).mono fun e W2 ⟨v, he, hpost⟩ => ?_
  subst he
  exact ChangeSpec.post_blind hpost
section
variable {H : Type} {enc : TypeId × Value → H} {W : World} {b0 base : Nat} {sp : Nat → Bool} {hd : Bool} {r : Reach} {v : Value} {d : DataW H} {p : List MemPlace}
set_option maxRecDepth 100000 in
/-- a text as it comes in -/
theorem open_str (hv : Value.okWide Tryd.prog W r b0 9 v) (h : DataW.Trod enc Tryd.prog W base sp hd 9 v d p) : ∃ s : List UInt8, v = .string ⟨s.toArray⟩ := by
  obtain ⟨s, rfl⟩ := okWide_string Tryd.underlying9 hv
  exact ⟨s.data.toList, by simp⟩
end
end Go.Proofs.YtamkannjdbodpaaDoor
