import Derived.Test.YtehcmhblppjalaaSyN
import Derived.Deep.LoopGhost
namespace Go.Proofs.Ytehcmhblppjalaa
open Go.RowKit Go.WideShapes Go.ChangeShapes Go.Shelf

/-! what a register gives out, as a function to range over -/
def outW (tp top x k : Nat) : Value := .int .i64 ((itW tp top x k % 2 : Nat) : Int)
def togo (N tp top x g : Nat) (J : Nat → World → Prop) (W : World) (r : Nat) : Prop := ∃ k, k + r = N ∧ J k W ∧ Blk W g 55 (wrA (itW tp top x k) tp top)
set_option maxRecDepth 100000 in
set_option maxHeartbeats 2000000 in
theorem given_endless (n : Nat) (x tp top : Nat) (hx : x < 2 ^ (top + 1)) (htp : tp < 1024) (htop : top < 10) (N : Nat) (w : World) :
    Endless Fence.wide n Try.prog 26 #[.agg (wrA x tp top)] (outW tp top x) 55 N w := fun l J Jx W hW hJ hJx hY h0 => by
  have HST := hide (fun g n W (h : Blk W g 55 (wrA (itW tp top x n) tp top)) => step_sy g (itW tp top x n) tp top W (itW_lt hx n) htp htop h)
  have HIT := hide (show ∀ n, stepW tp top (itW tp top x n) = itW tp top x (n + 1) from fun _ => rfl)
  have HY := hide hY
  have HJ := hide hJ
  clear hY hJ hx
  refine callsIn_of_wp Try.func26 rfl trivial ?_ rfl
  simp only [Try.ntmps26, List.size_toArray, List.length_cons, List.length_nil, Nat.reduceAdd, Nat.reduceSub, Array.replicate_succ, Array.replicate_zero, List.push_toArray, List.append_toArray, List.nil_append, List.cons_append]
  gi_wp2
  have HJ0 := hide (show J 0 (W.alloc (.cells (wrA x tp top) 55)) from HJ.out 0 W _ h0 ⟨none, World.grownBy_alloc W _ none, fun r e => by cases e⟩)
  have HB0 := hide (Blk.new W 55 (wrA x tp top))
  gi_loopw [] (fun wr => ∃ r, togo N tp top x W.heap.size J wr r) (fun wr => leastOf (togo N tp top x W.heap.size J wr))
  case atStart => exact ⟨N, 0, by omega, HJ0.out, HB0.out⟩
  case round =>
    clear HJ0 HB0
    obtain ⟨hsp, hmin⟩ := leastOf_spec hrel
    obtain ⟨k, hkr, hj, hb⟩ := hsp
    have HMIN := hide hmin
    have HSK := hide (fun W' (h : Blk W' W.heap.size 55 (wrA (itW tp top x k) tp top)) => by have := HST.out W.heap.size k W' h; rw [HIT.out] at this; exact this)
    have HYK := hide (fun W' (h : J k W') => HY.out k W' h)
    have HJK := hide (fun A B (h : J k A) (hT : Turns 55 w.heap.size A B) => HJ.out k A B h hT)
    have HWS := hide hW.size
    have HBW := hide hb
    have HJW := hide hj
    obtain ⟨o, ho⟩ : ∃ o, itW tp top x k % 2 = o := ⟨_, rfl⟩
    have HOUT := hide (show outW tp top x k = .int .i64 (o : Int) from by unfold outW; rw [ho])
    rw [ho] at HSK
    obtain ⟨R, hR⟩ : ∃ R, leastOf (togo N tp top x W.heap.size J wr) = R := ⟨_, rfl⟩
    rw [hR] at hkr HMIN
    have HRR := hide hR
    clear hmin hb hj hrel ho HST HJ HY hR
    gi_wp2_with (refine ⟨trivial, fun h => (by cases h), ?_⟩; refine (callsIn_wide.2 (HSK.out _ HBW.out)).mono ?_; rintro e w2 ⟨rfl, hn2, hg2⟩; have HT2 := hide (HJK.out _ _ HJW.out ⟨_, hg2, fun r e => by cases e; exact ⟨HWS.out, _, HBW.out⟩⟩); have HN2 := hide hn2; clear hn2 hg2)
    obtain ⟨hkN, fn, tmps, assign, body, hy, hR⟩ := HYK.out w2 HT2.out
    rw [HOUT.out] at hy
    gi_wp2
    rw [hy]
    gi_wp2
    refine ⟨fun h => (by cases h), hR.mono ?_⟩
    rintro e W3 (⟨rfl, hJ3, hk3⟩ | ⟨rfl, hJx3⟩)
    · have HN3 := hide (hk3 _ _ HN2.out)
      have HJ3 := hide hJ3
      clear hk3 hJ3 hR hy
      gi_wp2
      go_roundw
      case rel => exact ⟨N - (k + 1), k + 1, by omega, HJ3.out, HN3.out⟩
      case measure =>
        rw [HRR.out]
        have hl := (leastOf_spec (p := togo N tp top x W.heap.size J W3) ⟨R - 1, k + 1, by omega, HJ3.out, HN3.out⟩).2 (R - 1) ⟨k + 1, by omega, HJ3.out, HN3.out⟩
        omega
    · gi_wp2
      go_end0
      exact ⟨⟨_, rfl⟩, hJx3⟩
end Go.Proofs.Ytehcmhblppjalaa
