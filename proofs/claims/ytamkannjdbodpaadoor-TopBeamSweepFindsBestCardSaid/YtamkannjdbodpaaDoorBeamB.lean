import Derived.Test.YtamkannjdbodpaaDoorBeamA
import Derived.RangeFuncNested
import Derived.RangeFuncBound
import Derived.RangeFuncCalls
import Derived.RangeFuncLeaves
import Derived.RangeFuncBox
import Derived.Shelf.Abstract
import Derived.OwnWalkIn
import Derived.TacticsInMore
import Derived.LoopNIn
import Derived.LoopIn
namespace Go.Proofs.YtamkannjdbodpaaDoor
open Go.RowKit Go.WideShapes Go.ChangeShapes Go.Shelf

/-- a number A + B w + C w^2 + D w^3 -/
structure Q4 where
  a : Int
  b : Int
  c : Int
  d : Int
deriving DecidableEq

def Q4.cells (x : Q4) : Array Value := #[.int .i64 x.a, .int .i64 x.b, .int .i64 x.c, .int .i64 x.d]
/-- t times w to the power p, for p % 8 = r -/
def Q4.add (x : Q4) (t p : Int) : Q4 :=
  if p % 8 = 0 then { x with a := x.a + t } else if p % 8 = 1 then { x with b := x.b + t } else if p % 8 = 2 then { x with c := x.c + t } else if p % 8 = 3 then { x with d := x.d + t }
  else if p % 8 = 4 then { x with a := x.a + -t } else if p % 8 = 5 then { x with b := x.b + -t } else if p % 8 = 6 then { x with c := x.c + -t } else { x with d := x.d + -t }
def Q4.le (x : Q4) (m : Int) : Prop := -m ≤ x.a ∧ x.a ≤ m ∧ -m ≤ x.b ∧ x.b ≤ m ∧ -m ≤ x.c ∧ x.c ≤ m ∧ -m ≤ x.d ∧ x.d ≤ m
theorem Q4.le.mono {x : Q4} {m m' : Int} (h : x.le m) (hm : m ≤ m') : x.le m' := by unfold Q4.le at *; omega
theorem Q4.add_le {x : Q4} {m s : Int} (h : x.le m) (t p : Int) (ht : -s ≤ t) (ht' : t ≤ s) (hs : 0 ≤ s) : (x.add t p).le (m + s) := by
  unfold Q4.le at *
  unfold Q4.add
  (repeat' split) <;> dsimp only <;> omega

set_option maxHeartbeats 1000000 in
theorem add_beam (B T : Nat) (x : Q4) (t p : Int) (w : World) (hB : Blk w B T x.cells) (hx : x.le 1000000000000) (ht : -1000000000000 ≤ t) (ht' : t ≤ 1000000000000) (hp : 0 ≤ p) (hp' : p ≤ 1000000000000) :
    Calls Tryd.prog 65 #[.pointer (some ⟨B, 0, none⟩), .int .i64 t, .int .i64 p] w fun e w' => e = .returned (.tuple #[]) ∧ ∃ (k n : Nat) (v : Int), w' = (w.setCell ⟨B, k, none⟩ (.int .i64 v)).drewN n ∧ x.cells.setIfInBounds k (.int .i64 v) = (x.add t p).cells := by
  have f0 := hB.frozen 0
  have f1 := hB.frozen 1
  have f2 := hB.frozen 2
  have f3 := hB.frozen 3
  have c0 : w.cell? ⟨B, 0, none⟩ = some (.int .i64 x.a) := hB.cell 0
  have c1 : w.cell? ⟨B, 1, none⟩ = some (.int .i64 x.b) := hB.cell 1
  have c2 : w.cell? ⟨B, 2, none⟩ = some (.int .i64 x.c) := hB.cell 2
  have c3 : w.cell? ⟨B, 3, none⟩ = some (.int .i64 x.d) := hB.cell 3
  obtain ⟨xa, xb, xc, xd⟩ := x
  unfold Q4.le at hx
  dsimp only at *
  obtain ⟨a1, a2, a3, a4, a5, a6, a7, a8⟩ := hx
  have h8 : p % 8 = 0 ∨ p % 8 = 1 ∨ p % 8 = 2 ∨ p % 8 = 3 ∨ p % 8 = 4 ∨ p % 8 = 5 ∨ p % 8 = 6 ∨ p % 8 = 7 := by omega
  clear hB
  have hA := hide h8; clear h8
  rcases hA.out with h | h | h | h | h | h | h | h
  all_goals
    have H := hide h
    go_enter Tryd.func65, Tryd.ntmps65
    go_wp2
    go_region
    all_goals go_end0
    all_goals exact ⟨rfl, _, 1, _, rfl, by simp [Q4.cells, Q4.add, h]⟩

/-! ### the antennas that are on, with their phases: a range over a function -/
/-- an antenna's number and phase -/
abbrev Ant := { x : Nat × Int // x.1 ≤ 1000 ∧ 0 ≤ x.2 ∧ x.2 ≤ 7 }
def antAt (l : List Int) (k : Nat) : List Ant := if h : k ≤ 1000 ∧ 0 ≤ l[k]?.getD (-1) ∧ l[k]?.getD (-1) ≤ 7 then [⟨(k, l[k]?.getD (-1)), h⟩] else []
/-- what has come when k antennas were looked at -/
def onUpto (l : List Int) : Nat → List Ant
  | 0 => []
  | k + 1 => onUpto l k ++ antAt l k
/-- all phases are from -1 to 7 -/
def OnOk (l : List Int) : Prop := ∀ x ∈ l, -1 ≤ x ∧ x ≤ 7
theorem onUpto_off (l : List Int) (k : Nat) (hk : k < l.length) (h : l[k] = -1) : onUpto l (k + 1) = onUpto l k := by
  simp [onUpto, antAt, hk, h]
theorem onUpto_on (l : List Int) (k : Nat) (hk : k < l.length) (hb : k ≤ 1000 ∧ 0 ≤ l[k] ∧ l[k] ≤ 7) : onUpto l (k + 1) = onUpto l k ++ [⟨(k, l[k]), hb⟩] := by
  simp [onUpto, antAt, hk, hb]
theorem onUpto_len (l : List Int) (k : Nat) : (onUpto l k).length ≤ k := by
  induction k with
  | zero => simp [onUpto]
  | succ k ih => simp only [onUpto, List.length_append, antAt]; split <;> simp <;> omega

attribute [local go_sem] Oper.semAt_some

theorem on_in (F : Fence) (n : Nat) (h5 : F.fn 64) (hro : F.round = none) (A : Option Addr) (m c : Nat) (w : World) :
    CallsIn F n Tryd.prog 64 #[.agg #[.slice A m c]] w fun e w' => e = .returned (.func (.func 84) #[] #[.pointer (some ⟨w.heap.size, 0, none⟩)]) ∧ w' = w.alloc (.cells #[.slice A m c] 24) := by
  have hmf : ∀ (fn : Fn) (first cap : Array Value) (w : World), (Instr.makeFunc fn first cap).run Tryd.prog w = .ok (.func fn first cap) w := fun _ _ _ _ => rfl
  refine callsIn_of_wp Tryd.func64 rfl h5 ?_ hro
  simp only [Tryd.ntmps64, List.size_toArray, List.length_cons, List.length_nil, Nat.reduceAdd, Nat.reduceSub, Array.replicate_succ, Array.replicate_zero, List.push_toArray, List.append_toArray, List.nil_append, List.cons_append]
  gi_wp2
  go_ret
  exact ⟨rfl, rfl⟩

set_option maxRecDepth 100000 in
set_option maxHeartbeats 2000000 in
theorem on1_in (F : Fence) (n : Nat) (h7 : F.fn 84) (hro : F.round = none) (hn : 1 ≤ n) (lp Bs n₀ cap : Nat) (A : Option Addr) (l : List Int) (hl : l.length ≤ 1000) (hok : OnOk l) (J Jx : List Ant → World → Prop)
    (hY : ∀ pre x W, J pre W → pre.length < l.length → YieldAt F (n - 1) Tryd.prog lp #[.int .i64 (x.1.1 : Int), .int .i64 x.1.2] W fun e W' =>
      (e = .returned (.bool true) ∧ J (pre ++ [x]) W' ∧ Below n₀ W W') ∨ (e = .returned (.bool false) ∧ Jx (pre ++ [x]) W'))
    (W : World) (hBs : W.cell? ⟨Bs, 0, none⟩ = some (.slice A l.length cap)) (hs : Sl W A (iv l)) (hb : ∀ b off, A = some ⟨b, off, none⟩ → 0 < l.length → b < n₀) (h0 : J [] W) :
    CallsIn F n Tryd.prog 84 #[.func (.yield lp) #[] #[], .pointer (some ⟨Bs, 0, none⟩)] W fun e W' => (∃ v, e = .returned v) ∧
      ((∃ ys, ys = onUpto l l.length ∧ J ys W') ∨ (∃ pre, (∃ k, k ≤ l.length ∧ pre = onUpto l k) ∧ Jx pre W')) := by
  refine callsIn_of_wp Tryd.func84 rfl h7 ?_ hro
  simp only [Tryd.ntmps84, List.size_toArray, List.length_cons, List.length_nil, Nat.reduceAdd, Nat.reduceSub, Array.replicate_succ, Array.replicate_zero, List.push_toArray, List.append_toArray, List.nil_append, List.cons_append]
  have HS := hide hs; clear hs
  have HB := hide hb; clear hb
  have HOK := hide hok; clear hok
  gi_wp2
  gi_loopw [8] (fun i wr => ∃ k : Nat, k ≤ l.length ∧ i = .int .i64 k ∧ J (onUpto l k) wr ∧ Below n₀ W wr)
    (fun i _ => l.length - (intOf i).toNat)
  case atStart => exact ⟨0, Nat.zero_le _, rfl, h0, Below.refl _ _⟩
  case round =>
    obtain ⟨k, hk, rfl, hJs, hnx⟩ := hrel
    by_cases hlt : k < l.length
    · obtain ⟨b, off, rfl, hc⟩ := HS.out.int hlt
      have hcx : wr.cell? ⟨b, off + k, none⟩ = some (.int .i64 l[k]) := (hnx.cell (p := ⟨b, off + k, none⟩) (HB.out b off rfl (by omega))).trans hc
      by_cases hz : l[k] = -1
      · have hz' : (l[k] != -1) = false := by simp [hz]
        have HZ := hide hz; clear hz
        gi_wp2
        refine ⟨fun _ h => (by cases h), ?_⟩
        gi_wp2
        go_roundw
        case rel => exact ⟨k + 1, by omega, by simp, by rw [onUpto_off l k hlt HZ.out]; exact hJs, hnx⟩
        case measure => simp [intOf]; omega
      · have hz' : (l[k] != -1) = true := by simp [hz]
        have hv : k ≤ 1000 ∧ 0 ≤ l[k] ∧ l[k] ≤ 7 := by have := HOK.out l[k] (List.getElem_mem hlt); omega
        have HV := hide (onUpto_on l k hlt hv)
        clear hz
        obtain ⟨fn, tmps, assign, body, hy, hR⟩ := hY _ ⟨(k, l[k]), hv⟩ wr hJs (by have := onUpto_len l k; omega)
        dsimp only at hy
        gi_wp2
        refine hR.mono ?_
        rintro e W3 (⟨rfl, hJ3, hk3⟩ | ⟨rfl, hJx3⟩)
        · gi_wp2
          go_roundw
          case rel => exact ⟨k + 1, by omega, by simp, by rw [HV.out]; exact hJ3, hnx.trans hk3⟩
          case measure => simp [intOf]; omega
        · gi_wp2
          refine bodyPost_ret (results_none rfl _ _ _) rfl ?_
          exact ⟨⟨_, rfl⟩, .inr ⟨_, ⟨k + 1, by omega, HV.out.symm⟩, hJx3⟩⟩
    · obtain rfl : k = l.length := by omega
      gi_wp2
      go_end0
      exact ⟨⟨_, rfl⟩, .inl ⟨_, rfl, hJs⟩⟩

theorem on_stops (F : Fence) (n : Nat) (h7 : F.fn 84) (hro : F.round = none) (hn : 1 ≤ n) (Bs n₀ cap : Nat) (A : Option Addr) (l : List Int) (hl : l.length ≤ 1000) (hok : OnOk l) (w : World) (hBs : Bs < w.heap.size) (_hn₀ : n₀ ≤ w.heap.size)
    (hc : w.cell? ⟨Bs, 0, none⟩ = some (.slice A l.length cap)) (hs : Sl w A (iv l)) (hb : ∀ b off, A = some ⟨b, off, none⟩ → 0 < l.length → b < n₀) :
    SeqStopsK F n Tryd.prog 84 #[.pointer (some ⟨Bs, 0, none⟩)] (fun x : Ant => #[Value.int .i64 (x.1.1 : Int), Value.int .i64 x.1.2]) (Below n₀) (fun ys => ys = onUpto l l.length) (fun _ => True) l.length w := fun lp J Jx W hW _ _ hY h0 => by
  have hc' := (hW.cell (p := ⟨Bs, 0, none⟩) hBs).trans hc
  refine (on1_in F n h7 hro hn lp Bs n₀ cap A l hl hok J Jx hY W hc' (hs.bel hW) hb h0).mono ?_
  rintro e W' ⟨he, ⟨ys, rfl, hj⟩ | ⟨pre, _, hj⟩⟩
  · exact ⟨he, .inl ⟨_, rfl, hj⟩⟩
  · exact ⟨he, .inr ⟨_, trivial, hj⟩⟩

end Go.Proofs.YtamkannjdbodpaaDoor
