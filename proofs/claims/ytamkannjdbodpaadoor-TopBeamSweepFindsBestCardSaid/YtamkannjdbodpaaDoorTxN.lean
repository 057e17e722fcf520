import Derived.Test.YtamkannjdbodpaaDoorMem2
import Derived.RangeFuncNested
import Derived.RangeFuncBound
import Derived.RangeFuncCalls
import Derived.RangeFuncLeaves
import Derived.RangeFuncBox
import Derived.Shelf.Abstract
import Derived.OwnWalkIn
import Derived.TacticsInMore
import Derived.LoopNIn
import Derived.LoopIn
namespace Go.Proofs.YtamkannjdbodpaaDoor
open Go.RowKit Go.WideShapes Go.ChangeShapes Go.Shelf

/-! a range over a function that turns a variable of its own between two rounds; the body may return -/
section
variable {P : Program} {F : Fence} {n : Nat} {α : Type}
/-- one block of a type, at this place, is turned, or none, and new ones are laid -/
def TurnsAt (t : TypeId) (g : Nat) (A B : World) : Prop := ∃ row, A.grownBy B row ∧ ∀ r, row = some r → r = g ∧ ∃ cs, Blk A r t cs
theorem TurnsAt.stays {t : TypeId} {g : Nat} {A B : World} (h : TurnsAt t g A B) {k : Nat} {o : Obj} (ho : A.heap[k]? = some o) (hc : o.isCells = false) : B.heap[k]? = some o := by
  obtain ⟨row, hg, hr⟩ := h
  refine (hg.block _ (Array.getElem?_eq_some_iff.1 ho).1 (fun e => ?_)).trans ho
  obtain ⟨_, cs, hb⟩ := hr _ e.symm
  unfold Blk at hb
  rw [ho] at hb
  injection hb with hb
  subst hb
  cases hc
theorem TurnsAt.blk {t u : TypeId} {g k : Nat} {A B : World} (h : TurnsAt t g A B) {cs : Array Value} (hb : Blk A k u cs) (hk : k ≠ g) : Blk B k u cs := by
  obtain ⟨row, hg, hr⟩ := h
  exact hb.grown hg (fun e => hk (hr k e.symm).1)
def AbidesAt {β : Type} (t : TypeId) (g : Nat) (J : β → World → Prop) : Prop := ∀ s A B, J s A → TurnsAt t g A B → J s B
/-- what the iterator owes -/
def SeqTurns (F : Fence) (n : Nat) (P : Program) (gf : FuncId) (lb : Array Value) (enc : α → Value) (t : TypeId) (g : Nat) (Kp : World → World → Prop) (S : List α → Prop) (N : Nat) (w : World) : Prop :=
  ∀ (l : Nat) (J Jx : List α → World → Prop) (W : World), Below w.heap.size w W → Kp w W → AbidesAt t g J → AbidesAt t g Jx →
    (∀ pre x W1, J pre W1 → pre.length < N → YieldAt F (n - 1) P l #[enc x] W1 fun e W' => (e = .returned (.bool true) ∧ J (pre ++ [x]) W' ∧ Kp W1 W') ∨ (e = .returned (.bool false) ∧ Jx (pre ++ [x]) W')) →
    J [] W → CallsIn F n P gf (#[.func (.yield l) #[] #[]] ++ lb) W fun e W' => (∃ v, e = .returned v) ∧ ((∃ xs, S xs ∧ J xs W') ∨ (∃ pre x r, S (pre ++ x :: r) ∧ Jx (pre ++ [x]) W'))
/-- how a round is left -/
def LeftSo (B : Nat) (Kp : World → World → Prop) (I Ix : List α → World → Prop) (xs : List α) (W : World) : Exit → Act → World → Prop := fun e _ W' =>
  KeepsFrom B W W' ∧ ((e = .normal ∧ Kp W W' ∧ I xs W') ∨ (e = .ret ∧ Ix xs W'))
theorem wpIn_rangeFunc_turns {q : Operand} {p : Tmp} {assign body : Code} {Q : Exit → Act → World → Prop} {a : Act} {w w0 : World} {gf : FuncId} {lb : Array Value} {enc : α → Value} {t : TypeId} {g N : Nat} {Kp : World → World → Prop} {S : List α → Prop}
    (hro : F.round = none) (h1 : 1 ≤ n) (hg : a.eval q = .func (.func gf) #[] lb) (hFg : F.fn gf) (eg : ∀ args w, (callFunc gf args).run P w = .ok (.enter gf args) w)
    (hseq : SeqTurns F (n - 1) P gf lb enc t g Kp S N w0) (hb0 : Below w0.heap.size w0 w) (hk0 : Kp w0 w) (hKt : ∀ {A B C : World}, Kp A B → Kp B C → Kp A C)
    (hKa : ∀ (W : World) (o : Obj), Kp W (W.alloc o)) (hKb : ∀ (W : World) (l : Nat) (o o' : Obj), W.heap[l]? = some o → o.isCells = false → Kp W (W.putObj l o'))
    (I Ix : List α → World → Prop) (hI : OwnFrom w.heap.size I) (hIx : OwnFrom w.heap.size Ix) (hIt : AbidesAt t g I) (hIxt : AbidesAt t g Ix) (h0 : I [] w) (a1 : α → Act)
    (hassign : ∀ (l : Nat) (x : α) (W : World) (K : Act → World → Prop), K (a1 x) W → assign.wpIn (F.inRound l) (n - 1 - 1) P (Exit.then K (fun _ _ _ => False)) { tmps := a.tmps.setIfInBounds p (enc x), defers := [] } W)
    (hbody : ∀ (l : Nat) (pre : List α) (x : α) (W : World), I pre W → pre.length < N → body.wpIn (F.inRound l) (n - 1 - 1) P (LeftSo w.heap.size Kp I Ix (pre ++ [x]) W) (a1 x) W)
    (hdone : ∀ (D : Nat) (xs : List α) (W : World), w.heap.size ≤ D → S xs → I xs W → W.heap[D]? = some (.deferred (some [])) → Q .normal { a with defers := { target := .collected D, args := #[] } :: a.defers } W)
    (hstop : ∀ (D : Nat) (pre : List α) (x : α) (r : List α) (W : World), w.heap.size ≤ D → S (pre ++ x :: r) → Ix (pre ++ [x]) W → W.heap[D]? = some (.deferred (some [])) → Code.ret.wpIn F n P Q { a with defers := { target := .collected D, args := #[] } :: a.defers } W) :
    (Code.rangeFunc q #[p] assign body).wpIn F n P Q a w := by
  refine wpIn_rangeFunc fun fn hfn => ?_
  rw [hro]
  let R : LoopState → Option Code → Loop := fun st pe => { state := st, pending := pe, fn := fn, tmps := a.tmps, params := #[p], assign := assign, body := body, defers := w.heap.size }
  let s := w.heap.size
  obtain ⟨V, hV⟩ : ∃ V, (w.alloc (.deferred (some []))).alloc (.loop (R .ready none)) = V := ⟨_, rfl⟩
  have vL : V.heap[s + 1]? = some (.loop (R .ready none)) := by
    have h := World.alloc_heap_new (w.alloc (.deferred (some []))) (.loop (R .ready none))
    rw [World.size_alloc] at h
    rw [← hV]; exact h
  have vD : V.heap[s]? = some (.deferred (some [])) := by
    rw [← hV]; exact (Below.heap_alloc _ _ _ (by simp [s])).trans (World.alloc_heap_new w _)
  have vI : I [] V := by rw [← hV]; exact hI.alloc _ (hI.alloc _ h0)
  have vK : Kp w0 V := by rw [← hV]; exact hKt hk0 (hKt (hKa _ _) (hKa _ _))
  have vB : Below w0.heap.size w0 V := by
    rw [← hV]
    exact hb0.trans ((((Below.refl _ w).alloc (Nat.le_refl _) _).alloc (by simp) _).mono hb0.size)
  refine ⟨s + 1, [{ target := .collected s, args := #[] }], V, { target := .fn (.func gf) lb, args := #[.func (.yield (s + 1)) #[] #[]] }, V, gf, #[.func (.yield (s + 1)) #[] #[]] ++ lb, V, ?_, ?_, ?_, ?_, fun _ => h1, ?_⟩
  · rw [← hV]; exact run_enterLoop_outer _ _ _ _ _
  · simp only [resolve, hg]
    simp [go_sem]
  · intro f' hf'
    simp [Target.leads] at hf'
    subst hf'
    exact hFg
  · simp [invoke, go_sem, eg]
  · refine (hseq (s + 1) (fun pre W => I pre W ∧ W.heap[s + 1]? = some (.loop (R .ready none)) ∧ W.heap[s]? = some (.deferred (some [])))
      (fun pre W => Ix pre W ∧ W.heap[s + 1]? = some (.loop (R .done (some .ret))) ∧ W.heap[s]? = some (.deferred (some []))) V vB vK
      (fun k A B h hT => ⟨hIt k A B h.1 hT, hT.stays h.2.1 rfl, hT.stays h.2.2 rfl⟩)
      (fun k A B h hT => ⟨hIxt k A B h.1 hT, hT.stays h.2.1 rfl, hT.stays h.2.2 rfl⟩) ?_ ⟨vI, vL, vD⟩).mono ?_
    · rintro pre x W ⟨hi, hl, hd⟩ hlen
      have hy : (Instr.yield (s + 1) #[enc x]).run P W = .ok (.round (s + 1) fn (a.tmps.setIfInBounds p (enc x)) assign body) W := by
        rw [run_yield (P := P) (args := #[enc x]) hl rfl]
        simp [R]
      refine ⟨fn, _, assign, body, hy, roundIn_of_wpIn hfn (hassign _ x W _ ?_)⟩
      refine ⟨_, run_beginRound hl rfl, ?_⟩
      have wl : s + 1 < W.heap.size := (Array.getElem?_eq_some_iff.1 hl).1
      obtain ⟨X, hX⟩ : ∃ X, W.putObj (s + 1) (.loop { R .ready none with state := .busy }) = X := ⟨_, rfl⟩
      have xl : X.heap[s + 1]? = some (.loop { R .ready none with state := .busy }) := by rw [← hX]; exact World.putObj_heap_same wl
      have xd : X.heap[s]? = some (.deferred (some [])) := by rw [← hX]; exact (World.putObj_heap_other (by omega)).trans hd
      have xi : I pre X := by rw [← hX]; exact hI.putObj _ hi (by show s ≤ s + 1; omega) hl rfl
      have xb : Kp W X := by rw [← hX]; exact hKb W _ _ _ hl rfl
      rw [hX]
      refine wpIn_mono (hbody _ pre x X xi hlen) ?_
      rintro e a3 Y ⟨hk, hcase⟩
      have yl := hk.same (s + 1) _ (by show s ≤ s + 1; omega) xl rfl
      have yd := hk.same s _ (Nat.le_refl _) xd rfl
      have ylt : s + 1 < Y.heap.size := (Array.getElem?_eq_some_iff.1 yl).1
      rcases hcase with ⟨rfl, hb, hi3⟩ | ⟨rfl, hx⟩
      · refine ⟨_, _, run_endRound (P := P) none yl, .inl ⟨rfl, ⟨hI.putObj _ hi3 (by show s ≤ s + 1; omega) yl rfl, World.putObj_heap_same ylt, (World.putObj_heap_other (by omega)).trans yd⟩, ?_⟩⟩
        exact hKt (hKt xb hb) (hKb Y _ _ _ yl rfl)
      · exact ⟨_, _, run_endRound (P := P) (some .ret) yl, .inr ⟨rfl, hIx.putObj _ hx (by show s ≤ s + 1; omega) yl rfl, World.putObj_heap_same ylt, (World.putObj_heap_other (by omega)).trans yd⟩⟩
    · rintro e W2 ⟨⟨v, rfl⟩, ⟨xs, hS, hi, hl, hd⟩ | ⟨pre, x, r, hS, hx, hl, hd⟩⟩
      · exact ⟨none, _, run_endLoop (P := P) hl (by simp [R]), hdone _ xs _ (Nat.le_refl _) hS (hI.putObj _ hi (by show s ≤ s + 1; omega) hl rfl) ((World.putObj_heap_other (by omega)).trans hd)⟩
      · exact ⟨some .ret, _, run_endLoop (P := P) hl (by simp [R]), hstop _ pre x r _ (Nat.le_refl _) hS (hIx.putObj _ hx (by show s ≤ s + 1; omega) hl rfl) ((World.putObj_heap_other (by omega)).trans hd)⟩
end
end Go.Proofs.YtamkannjdbodpaaDoor
