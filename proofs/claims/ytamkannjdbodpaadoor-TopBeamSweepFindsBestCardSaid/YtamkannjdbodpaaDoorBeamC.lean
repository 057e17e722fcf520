import Derived.Test.YtamkannjdbodpaaDoorBeamB
import Derived.RangeFuncNested
import Derived.RangeFuncBound
import Derived.RangeFuncCalls
import Derived.RangeFuncLeaves
import Derived.RangeFuncBox
import Derived.Shelf.Abstract
import Derived.OwnWalkIn
import Derived.TacticsInMore
import Derived.LoopNIn
import Derived.LoopIn
namespace Go.Proofs.YtamkannjdbodpaaDoor
open Go.RowKit Go.WideShapes Go.ChangeShapes Go.Shelf

attribute [local go_sem] Oper.semAt_some
/-- w to the powers phase + i step, added up -/
def respS (step : Int) (ps : List Ant) : Q4 := ps.foldl (fun s p => s.add 1 (p.1.2 + (p.1.1 : Int) * step)) ⟨0, 0, 0, 0⟩
def resp (l : List Int) (step : Int) : Q4 := respS step (onUpto l l.length)
theorem respS_snoc (step : Int) (ps : List Ant) (p : Ant) : respS step (ps ++ [p]) = (respS step ps).add 1 (p.1.2 + (p.1.1 : Int) * step) := by
  simp [respS, List.foldl_append]
theorem respS_le_aux (step : Int) (ps : List Ant) : ∀ (s : Q4) (m : Int), s.le m → (ps.foldl (fun s p => s.add 1 (p.1.2 + (p.1.1 : Int) * step)) s).le (m + ps.length) := by
  induction ps with
  | nil => intro s m h; simpa using h
  | cons p r ih =>
    intro s m h
    have := ih _ _ (Q4.add_le h 1 (p.1.2 + (p.1.1 : Int) * step) (s := 1) (by omega) (by omega) (by omega))
    rw [List.foldl_cons, List.length_cons]
    have e : m + 1 + (r.length : Int) = m + ((r.length + 1 : Nat) : Int) := by omega
    rwa [e] at this
theorem respS_le (step : Int) (ps : List Ant) : (respS step ps).le ps.length := by
  have := respS_le_aux step ps ⟨0, 0, 0, 0⟩ 0 (by simp [Q4.le])
  simpa [respS] using this
theorem Blk.frozen0 {w : World} {g : Nat} {t : TypeId} {cs : Array Value} (h : Blk w g t cs) (o : Nat) : w.frozen? ⟨g, o, none⟩ = false := h.frozen o
theorem Blk.putObj {w : World} {g : Nat} {t : TypeId} {cs : Array Value} (h : Blk w g t cs) {row : Option Nat} {W' : World} (hg : w.grownBy W' row) (hr : ∀ r, row = some r → ∃ o : Obj, w.heap[r]? = some o ∧ o.isCells = false) : Blk W' g t cs :=
  h.grown hg (fun e => by
    obtain ⟨o, ho, hc⟩ := hr g e.symm
    unfold Blk at h
    rw [h] at ho
    injection ho with ho
    subst ho
    cases hc)

set_option maxHeartbeats 1000000 in
theorem response_beam (A : Option Addr) (c : Nat) (l : List Int) (step : Int) (w : World) (hs : Sl w A (iv l)) (hl : l.length ≤ 1000) (hok : OnOk l) (h0 : 0 ≤ step) (h7 : step ≤ 1000) :
    Calls Tryd.prog 41 #[.agg #[.slice A l.length c], .int .i64 step] w fun e w' => e = .returned (.agg (resp l step).cells) ∧ Below w.heap.size w w' := by
  have hbA : ∀ b off, A = some ⟨b, off, none⟩ → 0 < l.length → b < w.heap.size := by
    intro b off e hne
    obtain ⟨b', off', e', hc⟩ := hs.int (k := 0) (by omega)
    rw [e] at e'
    injection e' with e'
    injection e' with e1
    subst e1
    exact lt_of_cell hc
  have HOK := hide hok; clear hok
  refine (callsIn_wide (n := 5)).1 ?_
  refine callsIn_of_wp_marks Tryd.func41 rfl trivial ?_ rfl
  simp only [Tryd.ntmps41, List.size_toArray, List.length_cons, List.length_nil, Nat.reduceAdd, Nat.reduceSub, Array.replicate_succ, Array.replicate_zero, List.push_toArray, List.append_toArray, List.nil_append, List.cons_append]
  gi_wp2_with (refine ⟨trivial, ?_⟩; gi_at_call 64; refine (on_in Fence.wide _ trivial rfl A l.length c _).mono ?_; rintro e w' ⟨rfl, rfl⟩)
  have hs4 : Sl ((((((w.alloc (.cells #[.slice A l.length c] 24)).alloc (.cells #[.int .i64 step] 3)).alloc (.cells #[.int .i64 0, .int .i64 0, .int .i64 0, .int .i64 0] 84)).alloc (.cells #[.int .i64 0, .int .i64 0, .int .i64 0, .int .i64 0] 84)).alloc (.cells #[.slice A l.length c] 24))) A (iv l) := ((((hs.alloc _).alloc _).alloc _).alloc _).alloc _
  refine wpIn_rangeFunc_ownF rfl (by omega) (gf := 84) (lb := #[.pointer (some ⟨w.heap.size + 1 + 1 + 1 + 1, 0, none⟩)]) rfl trivial (enters Tryd.func84 (by kernel_rfl) rfl)
    (on_stops Fence.wide (5 - 1) trivial rfl (by omega) (w.heap.size + 1 + 1 + 1 + 1) w.heap.size c A l hl HOK.out _ (by simp) (by simp; omega) (by simp [go_sem]) hs4 hbA) belowK_t (belowK_b (by simp; omega)) (Below.refl _ _) (fun _ => rfl)
    (fun pre W => (Blk W (w.heap.size + 1 + 1 + 1) 84 (respS step pre).cells ∧ Blk W (w.heap.size + 1) 3 #[.int .i64 step] ∧ Blk W (w.heap.size + 1 + 1) 84 #[.int .i64 0, .int .i64 0, .int .i64 0, .int .i64 0]) ∧ Below w.heap.size w W)
    (fun _ _ _ => False)
    ?hI (fun _ _ _ _ _ h _ _ => h) ?h0
    (fun x => { tmps := #[.agg #[.slice A l.length c], .int .i64 step, .pointer (some ⟨w.heap.size, 0, none⟩), .pointer (some ⟨w.heap.size + 1, 0, none⟩), .pointer (some ⟨w.heap.size + 1 + 1, 0, none⟩), .pointer (some ⟨w.heap.size + 1 + 1 + 1, 0, none⟩),
      .int .i64 (x.1.1 : Int), .int .i64 x.1.2, .agg #[.slice A l.length c], .func (.func 84) #[] #[.pointer (some ⟨w.heap.size + 1 + 1 + 1 + 1, 0, none⟩)], .int .i64 (x.1.1 : Int), .int .i64 x.1.2, undef, undef, undef, undef, undef, undef, undef], defers := [] }) ?assign ?body ?done ?stop
  case hI =>
    refine OwnFrom.and (Own.from (fun s W W' row hs hg hr => ⟨hs.1.putObj hg hr, hs.2.1.putObj hg hr, hs.2.2.putObj hg hr⟩) _) (ownFrom_below (Nat.le_refl _) (by simp; omega))
  case h0 =>
    refine ⟨⟨?_, ?_, ?_⟩, by go_grown⟩
    · refine Blk.alloc ?_ _
      have h := Blk.new (((w.alloc (.cells #[.slice A l.length c] 24)).alloc (.cells #[.int .i64 step] 3)).alloc (.cells #[.int .i64 0, .int .i64 0, .int .i64 0, .int .i64 0] 84)) 84 #[.int .i64 0, .int .i64 0, .int .i64 0, .int .i64 0]
      rw [World.size_alloc, World.size_alloc, World.size_alloc] at h
      exact h
    · refine Blk.alloc (Blk.alloc (Blk.alloc ?_ _) _) _
      have h := Blk.new (w.alloc (.cells #[.slice A l.length c] 24)) 3 #[.int .i64 step]
      rw [World.size_alloc] at h
      exact h
    · refine Blk.alloc (Blk.alloc ?_ _) _
      have h := Blk.new ((w.alloc (.cells #[.slice A l.length c] 24)).alloc (.cells #[.int .i64 step] 3)) 84 #[.int .i64 0, .int .i64 0, .int .i64 0, .int .i64 0]
      rw [World.size_alloc, World.size_alloc] at h
      exact h
  case assign =>
    intro lp x W K hK
    gi_wp2
    exact hK
  case body =>
    rintro lp pre ⟨⟨i, ph⟩, hi, hp0, hp7⟩ W ⟨⟨hb1, hb2, hb3⟩, hbel⟩ hlen
    dsimp only at hi hp0 hp7
    have c1 : W.cell? ⟨w.heap.size + 1, 0, none⟩ = some (.int .i64 step) := hb2.cell 0
    have hm1 : 0 ≤ (i : Int) * step := Int.mul_nonneg (by omega) h0
    have hm2 : (i : Int) * step ≤ 1000 * 1000 := Int.mul_le_mul (by omega) h7 h0 (by omega)
    have hq : (respS step pre).le 1000000000000 := (respS_le step pre).mono (by omega)
    gi_wp2_with (refine ⟨trivial, ?_⟩; gi_at_call 65; refine (CallsIn.inRound lp (callsIn_wide.2 (add_beam _ 84 _ 1 _ _ hb1 hq (by omega) (by omega) (by omega) (by omega)))).mono ?_; rintro e W3 ⟨rfl, k, n, v, rfl, hst⟩)
    have hk : KeepsOthers W ((W.setCell ⟨w.heap.size + 1 + 1 + 1, k, none⟩ (.int .i64 v)).drewN n) := ⟨(KeepsOthers.setCell W _ _).1, (KeepsOthers.setCell W _ _).2⟩
    have hbw : Below w.heap.size W ((W.setCell ⟨w.heap.size + 1 + 1 + 1, k, none⟩ (.int .i64 v)).drewN n) := below_drewN ((Below.refl _ W).setCell (by simp; omega) _) n
    refine ⟨hk, hbw, ⟨?_, ?_, ?_⟩, hbel.trans hbw⟩
    · refine Blk.drewN ?_ _
      rw [respS_snoc, ← hst]
      exact hb1.set_ k _
    · exact (hb2.far (by simp) _).drewN _
    · exact (hb3.far (by simp) _).drewN _
  case done =>
    rintro D ys W hD rfl ⟨⟨hb1, hb2, hb3⟩, hbel⟩ hK
    have c0 : W.cell? ⟨w.heap.size + 1 + 1 + 1, 0, none⟩ = some (.int .i64 (resp l step).a) := hb1.cell 0
    have c1 : W.cell? ⟨w.heap.size + 1 + 1 + 1, 1, none⟩ = some (.int .i64 (resp l step).b) := hb1.cell 1
    have c2 : W.cell? ⟨w.heap.size + 1 + 1 + 1, 2, none⟩ = some (.int .i64 (resp l step).c) := hb1.cell 2
    have c3 : W.cell? ⟨w.heap.size + 1 + 1 + 1, 3, none⟩ = some (.int .i64 (resp l step).d) := hb1.cell 3
    have e0 : W.cell? ⟨w.heap.size + 1 + 1, 0, none⟩ = some (.int .i64 0) := hb3.cell 0
    have e1 : W.cell? ⟨w.heap.size + 1 + 1, 1, none⟩ = some (.int .i64 0) := hb3.cell 1
    have e2 : W.cell? ⟨w.heap.size + 1 + 1, 2, none⟩ = some (.int .i64 0) := hb3.cell 2
    have e3 : W.cell? ⟨w.heap.size + 1 + 1, 3, none⟩ = some (.int .i64 0) := hb3.cell 3
    have f0 := hb3.frozen 0
    have f1 := hb3.frozen 1
    have f2 := hb3.frozen 2
    have f3 := hb3.frozen 3
    gi_wp2
    have hD' : w.heap.size + 1 + 1 < D := by simp at hD; omega
    have hb4 := (((hb3.set_ 0 (.int .i64 (resp l step).a)).set_ 1 (.int .i64 (resp l step).b)).set_ 2 (.int .i64 (resp l step).c)).set_ 3 (.int .i64 (resp l step).d)
    have hbe := (((hbel.setCell (p := ⟨w.heap.size + 1 + 1, 0, none⟩) (by simp; omega) (.int .i64 (resp l step).a)).setCell (p := ⟨w.heap.size + 1 + 1, 1, none⟩) (by simp; omega) (.int .i64 (resp l step).b)).setCell (p := ⟨w.heap.size + 1 + 1, 2, none⟩) (by simp; omega) (.int .i64 (resp l step).c)).setCell (p := ⟨w.heap.size + 1 + 1, 3, none⟩) (by simp; omega) (.int .i64 (resp l step).d)
    have hK4 := ((((KeepsOthers.setCell W ⟨w.heap.size + 1 + 1, 0, none⟩ (.int .i64 (resp l step).a)).trans (KeepsOthers.setCell _ ⟨w.heap.size + 1 + 1, 1, none⟩ (.int .i64 (resp l step).b))).trans (KeepsOthers.setCell _ ⟨w.heap.size + 1 + 1, 2, none⟩ (.int .i64 (resp l step).c))).trans (KeepsOthers.setCell _ ⟨w.heap.size + 1 + 1, 3, none⟩ (.int .i64 (resp l step).d))).same D _ hK rfl
    generalize (((W.setCell ⟨w.heap.size + 1 + 1, 0, none⟩ (.int .i64 (resp l step).a)).setCell ⟨w.heap.size + 1 + 1, 1, none⟩ (.int .i64 (resp l step).b)).setCell ⟨w.heap.size + 1 + 1, 2, none⟩ (.int .i64 (resp l step).c)).setCell ⟨w.heap.size + 1 + 1, 3, none⟩ (.int .i64 (resp l step).d) = W4 at *
    refine ⟨by simp, .inl ⟨_, _, rfl, run_takeDeferred hK4, ?_⟩⟩
    have hb5 := Blk.putObj hb4 (grownBy_putObj' W4 D (.deferred none)) (fun r e => by cases e; exact ⟨_, hK4, rfl⟩)
    have g0 := hb5.cell 0
    have g1 := hb5.cell 1
    have g2 := hb5.cell 2
    have g3 := hb5.cell 3
    simp at g0 g1 g2 g3
    refine ⟨.agg (resp l step).cells, ?_, rfl, hbe.trans (belowK_b (w := w) (Nat.le_refl _) W4 D _ _ (by omega) hK4 rfl rfl)⟩
    simp [results, Tryd.f41, go_sem, g0, g1, g2, g3, Q4.cells]
  case stop =>
    rintro D c' pre W _ _ h _
    exact h.elim
end Go.Proofs.YtamkannjdbodpaaDoor
