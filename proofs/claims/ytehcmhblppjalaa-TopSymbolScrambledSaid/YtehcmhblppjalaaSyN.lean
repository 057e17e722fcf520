import Derived.Test.YtehcmhblppjalaaSyM
import Derived.RangeFuncNested
import Derived.RangeFuncBound
import Derived.RangeFuncCalls
import Derived.RangeFuncLeaves
import Derived.RangeFuncBox
import Derived.Shelf.Abstract
import Derived.OwnWalkIn
import Derived.TacticsInMore
import Derived.LoopNIn
import Derived.LoopIn
namespace Go.Proofs.Ytehcmhblppjalaa
open Go.RowKit Go.WideShapes Go.ChangeShapes Go.Shelf

/-! a range over a function that gives elements without an end: the body counts them and breaks -/
section
variable {P : Program} {F : Fence} {n : Nat}
/-- one block of a type is turned, or none, and new ones are laid -/
def Turns (t : TypeId) (b : Nat) (A B : World) : Prop := ∃ row, A.grownBy B row ∧ ∀ r, row = some r → b ≤ r ∧ ∃ cs, Blk A r t cs
def AbidesT {β : Type} (t : TypeId) (b : Nat) (J : β → World → Prop) : Prop := ∀ s A B, J s A → Turns t b A B → J s B
/-- blocks of a type lie as they lay -/
def KeepsT (t : TypeId) (A B : World) : Prop := ∀ g cs, Blk A g t cs → Blk B g t cs
theorem KeepsT.trans {t : TypeId} {A B C : World} (h : KeepsT t A B) (k : KeepsT t B C) : KeepsT t A C := fun g cs hg => k g cs (h g cs hg)
theorem keepsT_putObj {t : TypeId} (W : World) {l : Nat} {o o' : Obj} (hl : W.heap[l]? = some o) (ho : o.isCells = false) : KeepsT t W (W.putObj l o') := fun g cs hg =>
  hg.grown (grownBy_putObj' W l o') (fun e => by
    injection e with e
    unfold Blk at hg
    rw [e, hl] at hg
    injection hg with hg
    subst hg
    cases ho)
/-- what the iterator owes: it asks for one element behind another until the body says that it wants no more -/
def Endless (F : Fence) (n : Nat) (P : Program) (gf : FuncId) (fs : Array Value) (enc : Nat → Value) (t : TypeId) (N : Nat) (w : World) : Prop :=
  ∀ (l : Nat) (J : Nat → World → Prop) (Jx : Unit → World → Prop) (W : World), Below w.heap.size w W → AbidesT t w.heap.size J → AbidesT t w.heap.size Jx →
    (∀ k W1, J k W1 → k < N ∧ YieldAt F (n - 1) P l #[enc k] W1 fun e W' => (e = .returned (.bool true) ∧ J (k + 1) W' ∧ KeepsT t W1 W') ∨ (e = .returned (.bool false) ∧ Jx () W')) →
    J 0 W → CallsIn F n P gf (fs ++ #[.func (.yield l) #[] #[]]) W fun e W' => (∃ v, e = .returned v) ∧ Jx () W'
/-- how a round is left -/
def LeftBy (B : Nat) (t : TypeId) (id : Nat) (I : Nat → World → Prop) (Ix : Unit → World → Prop) (k : Nat) (W : World) : Exit → Act → World → Prop := fun e _ W' =>
  KeepsFrom B W W' ∧ ((e = .normal ∧ KeepsT t W W' ∧ I (k + 1) W') ∨ (e = .exit id ∧ Ix () W'))
theorem wpIn_rangeFunc_endless {g : Operand} {p : Tmp} {assign body : Code} {Q : Exit → Act → World → Prop} {a : Act} {w w0 : World} {gf : FuncId} {fs : Array Value} {enc : Nat → Value} {t : TypeId} {N id : Nat}
    (hro : F.round = none) (h1 : 1 ≤ n) (hg : a.eval g = .func (.func gf) fs #[]) (hFg : F.fn gf) (eg : ∀ args w, (callFunc gf args).run P w = .ok (.enter gf args) w)
    (hseq : Endless F (n - 1) P gf fs enc t N w0) (hb0 : Below w0.heap.size w0 w)
    (I : Nat → World → Prop) (Ix : Unit → World → Prop) (hI : OwnFrom w.heap.size I) (hIx : OwnFrom w.heap.size Ix) (hIt : AbidesT t w0.heap.size I) (hIxt : AbidesT t w0.heap.size Ix) (hN : ∀ k W, I k W → k < N) (h0 : I 0 w) (a1 : Nat → Act)
    (hassign : ∀ (l k : Nat) (W : World) (K : Act → World → Prop), K (a1 k) W → assign.wpIn (F.inRound l) (n - 1 - 1) P (Exit.then K (fun _ _ _ => False)) { tmps := a.tmps.setIfInBounds p (enc k), defers := [] } W)
    (hbody : ∀ (l k : Nat) (W : World), I k W → body.wpIn (F.inRound l) (n - 1 - 1) P (LeftBy w.heap.size t id I Ix k W) (a1 k) W)
    (hstop : ∀ (D : Nat) (W : World), w.heap.size ≤ D → Ix () W → W.heap[D]? = some (.deferred (some [])) → (Code.exit id).wpIn F n P Q { a with defers := { target := .collected D, args := #[] } :: a.defers } W) :
    (Code.rangeFunc g #[p] assign body).wpIn F n P Q a w := by
  refine wpIn_rangeFunc fun fn hfn => ?_
  rw [hro]
  -- the loop's record in its states
  let R : LoopState → Option Code → Loop := fun st pe => { state := st, pending := pe, fn := fn, tmps := a.tmps, params := #[p], assign := assign, body := body, defers := w.heap.size }
  let s := w.heap.size
  obtain ⟨V, hV⟩ : ∃ V, (w.alloc (.deferred (some []))).alloc (.loop (R .ready none)) = V := ⟨_, rfl⟩
  have zV : V.heap.size = s + 2 := by rw [← hV]; simp [s]
  have vL : V.heap[s + 1]? = some (.loop (R .ready none)) := by
    have h := World.alloc_heap_new (w.alloc (.deferred (some []))) (.loop (R .ready none))
    rw [World.size_alloc] at h
    rw [← hV]; exact h
  have vD : V.heap[s]? = some (.deferred (some [])) := by
    rw [← hV]; exact (Below.heap_alloc _ _ _ (by simp [s])).trans (World.alloc_heap_new w _)
  have vI : I 0 V := by rw [← hV]; exact hI.alloc _ (hI.alloc _ h0)
  have vB : Below w0.heap.size w0 V := by
    rw [← hV]
    exact hb0.trans ((((Below.refl _ w).alloc (Nat.le_refl _) _).alloc (by simp) _).mono hb0.size)
  refine ⟨s + 1, [{ target := .collected s, args := #[] }], V, { target := .fn (.func gf) #[], args := fs ++ #[.func (.yield (s + 1)) #[] #[]] }, V, gf, fs ++ #[.func (.yield (s + 1)) #[] #[]], V, ?_, ?_, ?_, ?_, fun _ => h1, ?_⟩
  · rw [← hV]; exact run_enterLoop_outer _ _ _ _ _
  · simp only [resolve, hg]
    simp [go_sem]
  · intro f' hf'
    simp [Target.leads] at hf'
    subst hf'
    exact hFg
  · simp [invoke, go_sem, eg]
  · have stays : ∀ {A B : World} {k : Nat} {o : Obj}, Turns t w0.heap.size A B → A.heap[k]? = some o → o.isCells = false → B.heap[k]? = some o := fun ⟨row, hg', hr⟩ ho hc =>
      (hg'.block _ (Array.getElem?_eq_some_iff.1 ho).1 (fun e => by
        obtain ⟨_, cs, hb⟩ := hr _ e.symm
        unfold Blk at hb
        rw [ho] at hb
        injection hb with hb
        subst hb
        cases hc)).trans ho
    refine (hseq (s + 1) (fun k W => I k W ∧ W.heap[s + 1]? = some (.loop (R .ready none)) ∧ W.heap[s]? = some (.deferred (some [])))
      (fun _ W => Ix () W ∧ W.heap[s + 1]? = some (.loop (R .done (some (.exit id)))) ∧ W.heap[s]? = some (.deferred (some []))) V vB
      (fun k A B h hT => ⟨hIt k A B h.1 hT, stays hT h.2.1 rfl, stays hT h.2.2 rfl⟩)
      (fun k A B h hT => ⟨hIxt k A B h.1 hT, stays hT h.2.1 rfl, stays hT h.2.2 rfl⟩) ?_ ⟨vI, vL, vD⟩).mono ?_
    · rintro k W ⟨hi, hl, hd⟩
      have hy : (Instr.yield (s + 1) #[enc k]).run P W = .ok (.round (s + 1) fn (a.tmps.setIfInBounds p (enc k)) assign body) W := by
        rw [run_yield (P := P) (args := #[enc k]) hl rfl]
        simp [R]
      refine ⟨hN k W hi, fn, _, assign, body, hy, roundIn_of_wpIn hfn (hassign _ k W _ ?_)⟩
      refine ⟨_, run_beginRound hl rfl, ?_⟩
      have wl : s + 1 < W.heap.size := (Array.getElem?_eq_some_iff.1 hl).1
      obtain ⟨X, hX⟩ : ∃ X, W.putObj (s + 1) (.loop { R .ready none with state := .busy }) = X := ⟨_, rfl⟩
      have xl : X.heap[s + 1]? = some (.loop { R .ready none with state := .busy }) := by rw [← hX]; exact World.putObj_heap_same wl
      have xd : X.heap[s]? = some (.deferred (some [])) := by rw [← hX]; exact (World.putObj_heap_other (by omega)).trans hd
      have xi : I k X := by rw [← hX]; exact hI.putObj _ hi (by show s ≤ s + 1; omega) hl rfl
      have xb : KeepsT t W X := by rw [← hX]; exact keepsT_putObj W hl rfl
      rw [hX]
      refine wpIn_mono (hbody _ k X xi) ?_
      rintro e a3 Y ⟨hk, hcase⟩
      have yl := hk.same (s + 1) _ (by show s ≤ s + 1; omega) xl rfl
      have yd := hk.same s _ (Nat.le_refl _) xd rfl
      have ylt : s + 1 < Y.heap.size := (Array.getElem?_eq_some_iff.1 yl).1
      rcases hcase with ⟨rfl, hb, hi3⟩ | ⟨rfl, hx⟩
      · refine ⟨_, _, run_endRound (P := P) none yl, .inl ⟨rfl, ⟨hI.putObj _ hi3 (by show s ≤ s + 1; omega) yl rfl, World.putObj_heap_same ylt, (World.putObj_heap_other (by omega)).trans yd⟩, ?_⟩⟩
        exact (xb.trans hb).trans (keepsT_putObj Y yl rfl)
      · exact ⟨_, _, run_endRound (P := P) (some (.exit id)) yl, .inr ⟨rfl, hIx.putObj _ hx (by show s ≤ s + 1; omega) yl rfl, World.putObj_heap_same ylt, (World.putObj_heap_other (by omega)).trans yd⟩⟩
    · rintro e W2 ⟨⟨v, rfl⟩, hx, hl, hd⟩
      exact ⟨some (.exit id), _, run_endLoop (P := P) hl (by simp [R]), hstop _ _ (Nat.le_refl _) (hIx.putObj _ hx (by show s ≤ s + 1; omega) hl rfl) ((World.putObj_heap_other (by omega)).trans hd)⟩
end
end Go.Proofs.Ytehcmhblppjalaa
