import Derived.Test.YtehcmhblppjalaaSyY
import Derived.RangeFuncNested
import Derived.RangeFuncBound
import Derived.RangeFuncCalls
import Derived.RangeFuncLeaves
import Derived.RangeFuncBox
import Derived.Shelf.Abstract
import Derived.OwnWalkIn
import Derived.TacticsInMore
import Derived.LoopNIn
import Derived.LoopIn
import Derived.Sort.QuietIn
namespace Go.Proofs.Ytehcmhblppjalaa
open Go.RowKit Go.WideShapes Go.ChangeShapes Go.Shelf

attribute [local go_sem] Oper.semAt_some
/-! four bits in one piece (program: slices.Chunk) -/
theorem chunk_in (F : Fence) (n : Nat) (h30 : F.fn 30) (hro : F.round = none) (A : Option Addr) (m c : Nat) (w : World) :
    CallsIn F n Try.prog 30 #[.slice A m c, .int .i64 4] w fun e w' => e = .returned (.func (.func 38) #[] #[.pointer (some ⟨w.heap.size, 0, none⟩), .pointer (some ⟨w.heap.size + 1, 0, none⟩)]) ∧ w' = (w.alloc (.cells #[.slice A m c] 22)).alloc (.cells #[.int .i64 4] 3) := by
  have hmf : ∀ (fn : Fn) (first cap : Array Value) (w : World), (Instr.makeFunc fn first cap).run Try.prog w = .ok (.func fn first cap) w := fun _ _ _ _ => rfl
  refine callsIn_of_wp Try.func30 rfl h30 ?_ hro
  simp only [Try.ntmps30, List.size_toArray, List.length_cons, List.length_nil, Nat.reduceAdd, Nat.reduceSub, Array.replicate_succ, Array.replicate_zero, List.push_toArray, List.append_toArray, List.nil_append, List.cons_append]
  gi_wp2
  go_ret
  exact ⟨rfl, rfl⟩
/-- the two variables of a Chunk are left alone -/
def Two2 (B1 B2 : Nat) (W W' : World) : Prop := W'.cell? ⟨B1, 0, none⟩ = W.cell? ⟨B1, 0, none⟩ ∧ W'.cell? ⟨B2, 0, none⟩ = W.cell? ⟨B2, 0, none⟩
set_option maxRecDepth 100000 in
set_option maxHeartbeats 2000000 in
theorem chunk1_in (n : Nat) (hn : 1 ≤ n) (lp B1 B2 bx cap : Nat) (hcap : 4 ≤ cap) (J Jx : List Unit → World → Prop)
    (hY : ∀ pre x W, J pre W → pre.length < 1 → YieldAt Fence.wide (n - 1) Try.prog lp #[.slice (some ⟨bx, 0, none⟩) 4 4] W fun e W' =>
      (e = .returned (.bool true) ∧ J (pre ++ [x]) W' ∧ Two2 B1 B2 W W') ∨ (e = .returned (.bool false) ∧ Jx (pre ++ [x]) W'))
    (W : World) (hB1 : W.cell? ⟨B1, 0, none⟩ = some (.slice (some ⟨bx, 0, none⟩) 4 cap)) (hB2 : W.cell? ⟨B2, 0, none⟩ = some (.int .i64 4)) (h0 : J [] W) (hJd : ∀ k, J [] W → J [] (W.drewN k)) :
    CallsIn Fence.wide n Try.prog 38 #[.func (.yield lp) #[] #[], .pointer (some ⟨B1, 0, none⟩), .pointer (some ⟨B2, 0, none⟩)] W fun e W' => (∃ v, e = .returned v) ∧
      (J [()] W' ∨ Jx [()] W') := by
  refine callsIn_of_wp Try.func38 rfl trivial ?_ rfl
  simp only [Try.ntmps38, List.size_toArray, List.length_cons, List.length_nil, Nat.reduceAdd, Nat.reduceSub, Array.replicate_succ, Array.replicate_zero, List.push_toArray, List.append_toArray, List.nil_append, List.cons_append]
  gi_wp2
  refine wpIn_loop_rounds 2 ?_
  simp only [Code.roundsIn]
  gi_wp2
  gi_quiet (fail)
  obtain ⟨fn, tmps, assign, body, hy, hR⟩ := hY _ () (W.drewN nq) (hJd nq h0) (by simp)
  gi_wp2
  refine hR.mono ?_
  rintro e W3 (⟨rfl, hJ3, hk3⟩ | ⟨rfl, hJx3⟩)
  · have c1 : W3.cell? ⟨B1, 0, none⟩ = some (.slice (some ⟨bx, 0, none⟩) 4 cap) := hk3.1.trans hB1
    have c2 : W3.cell? ⟨B2, 0, none⟩ = some (.int .i64 4) := hk3.2.trans hB2
    gi_wp2
    try simp only [Code.roundsIn]
    gi_wp2
    go_end0
    exact ⟨⟨_, rfl⟩, .inl hJ3⟩
  · gi_wp2
    refine bodyPost_ret (results_none rfl _ _ _) rfl ?_
    exact ⟨⟨_, rfl⟩, .inr hJx3⟩
theorem chunk_stops (n : Nat) (hn : 1 ≤ n) (B1 B2 bx cap : Nat) (hcap : 4 ≤ cap) (w : World) (hB1 : w.cell? ⟨B1, 0, none⟩ = some (.slice (some ⟨bx, 0, none⟩) 4 cap)) (hB2 : w.cell? ⟨B2, 0, none⟩ = some (.int .i64 4)) :
    SeqStopsK Fence.wide n Try.prog 38 #[.pointer (some ⟨B1, 0, none⟩), .pointer (some ⟨B2, 0, none⟩)] (fun _ : Unit => #[Value.slice (some ⟨bx, 0, none⟩) 4 4]) (Two2 B1 B2) (fun ys => ys = [()]) (fun _ => True) 1 w := fun lp J Jx W hW hJ _ hY h0 => by
  have q1 := (hW.cell (lt_of_cell hB1)).trans hB1
  have q2 := (hW.cell (lt_of_cell hB2)).trans hB2
  refine (chunk1_in n hn lp B1 B2 bx cap hcap J Jx hY W q1 q2 h0 (fun k h => hJ [] W _ none h ⟨rfl, rfl, rfl, Nat.le_refl _, fun _ _ _ => rfl⟩ (fun _ e => by cases e))).mono ?_
  rintro e W' ⟨he, hj | hj⟩
  · exact ⟨he, .inl ⟨_, rfl, hj⟩⟩
  · exact ⟨he, .inr ⟨_, trivial, hj⟩⟩
end Go.Proofs.Ytehcmhblppjalaa
