import Derived.Test.YtamkannjdbodpaaGainLaw
import Derived.Test.YtamkannjdbodpaaLawA
namespace Go.Proofs.Ytamkannjdbodpaa
open Go.RowKit Go.WideShapes Go.ChangeShapes

/-! the reference's response -/
def Q4.rot (x : Q4) : Q4 := ⟨-x.d, x.a, x.b, x.c⟩
def Q4.rotN (x : Q4) : Nat → Q4
  | 0 => x
  | n + 1 => (x.rotN n).rot
def Q4.plus (x y : Q4) : Q4 := ⟨x.a + y.a, x.b + y.b, x.c + y.c, x.d + y.d⟩
theorem Q4.rot_le {x : Q4} {m : Int} (h : x.le m) : x.rot.le m := by unfold Q4.le Q4.rot at *; dsimp only; omega
theorem Q4.rotN_le {x : Q4} {m : Int} (h : x.le m) : ∀ n, (x.rotN n).le m
  | 0 => h
  | n + 1 => Q4.rot_le (Q4.rotN_le h n)

set_option maxHeartbeats 1000000 in
theorem turn_ref (x : Q4) (n : Int) (hx : x.le 1000000000) (h1 : -1000000000 ≤ n) (h2 : n ≤ 1000000000) (w : World) :
    Calls Try.prog 123 #[.agg x.cells, .int .i64 n] w fun e w' => e = .returned (.agg (x.rotN (n % 8).toNat).cells) ∧ Below w.heap.size w w' := by
  obtain ⟨N, hN⟩ : ∃ N : Nat, n % 8 = N := ⟨(n % 8).toNat, by omega⟩
  have hN8 : N < 8 := by omega
  have e8 : (n % 8).toNat = N := by omega
  rw [e8]
  clear e8
  have HN := hide hN; clear hN
  have hblk : Blk (w.alloc (.cells x.cells 73)) w.heap.size 73 x.cells := Blk.new w _ _
  go_enter Try.func123, Try.ntmps123
  go_wp2
  go_loopw [5] (fun i wr => ∃ k : Nat, k ≤ N ∧ i = .int .i64 k ∧ Blk wr w.heap.size 73 (x.rotN k).cells ∧ Blk wr (w.heap.size + 1) 73 #[.int .i64 0, .int .i64 0, .int .i64 0, .int .i64 0] ∧ Below w.heap.size w wr) (fun i _ => N - (intOf i).toNat)
  case atStart => exact ⟨0, Nat.zero_le _, rfl, hblk.alloc _, by first | exact Blk.new _ _ _ | (have := Blk.new (w.alloc (.cells x.cells 73)) 73 #[.int .i64 0, .int .i64 0, .int .i64 0, .int .i64 0]; simpa using this), by go_grown⟩
  case round =>
    obtain ⟨k, hk, rfl, hb, hb1, hbel⟩ := hrel
    have hle := Q4.rotN_le hx k
    have d0 : wr.cell? ⟨w.heap.size, 0, none⟩ = some (.int .i64 (x.rotN k).a) := hb.cell 0
    have d1 : wr.cell? ⟨w.heap.size, 1, none⟩ = some (.int .i64 (x.rotN k).b) := hb.cell 1
    have d2 : wr.cell? ⟨w.heap.size, 2, none⟩ = some (.int .i64 (x.rotN k).c) := hb.cell 2
    have d3 : wr.cell? ⟨w.heap.size, 3, none⟩ = some (.int .i64 (x.rotN k).d) := hb.cell 3
    have f0 := hb.frozen 0
    have f1 := hb.frozen 1
    have f2 := hb.frozen 2
    have f3 := hb.frozen 3
    have g0 := hb1.frozen 0
    have e0 : wr.cell? ⟨w.heap.size + 1, 0, none⟩ = some (.int .i64 0) := hb1.cell 0
    have g1 := hb1.frozen 1
    have e1 : wr.cell? ⟨w.heap.size + 1, 1, none⟩ = some (.int .i64 0) := hb1.cell 1
    have g2 := hb1.frozen 2
    have e2 : wr.cell? ⟨w.heap.size + 1, 2, none⟩ = some (.int .i64 0) := hb1.cell 2
    have g3 := hb1.frozen 3
    have e3 : wr.cell? ⟨w.heap.size + 1, 3, none⟩ = some (.int .i64 0) := hb1.cell 3
    have yl := hb.lt
    have yl1 := hb1.lt
    unfold Q4.le at hle
    obtain ⟨a1, a2, a3, a4, a5, a6, a7, a8⟩ := hle
    by_cases hlt : k < N
    · go_wp2_with (go_at_call 103; refine (mod_base _ _ (by omega) (by omega) (by omega) (by omega) _).mono ?_; rintro e w' ⟨rfl, rfl⟩; rw [HN.out]; simp only [])
      go_roundw
      case rel => exact ⟨k + 1, by omega, by go_num, by simpa [Q4.cells, Q4.rotN, Q4.rot] using (((hb.set_ 0 (.int .i64 (-(x.rotN k).d))).set_ 1 (.int .i64 (x.rotN k).a)).set_ 2 (.int .i64 (x.rotN k).b)).set_ 3 (.int .i64 (x.rotN k).c), (((hb1.far (by simp) _).far (by simp) _).far (by simp) _).far (by simp) _, by go_grown⟩
      case measure => simp [intOf]; omega
    · go_wp2_with (go_at_call 103; refine (mod_base _ _ (by omega) (by omega) (by omega) (by omega) _).mono ?_; rintro e w' ⟨rfl, rfl⟩; rw [HN.out]; simp only [])
      obtain rfl : k = N := by omega
      have hb2 := (((hb1.set_ 0 (.int .i64 (x.rotN k).a)).set_ 1 (.int .i64 (x.rotN k).b)).set_ 2 (.int .i64 (x.rotN k).c)).set_ 3 (.int .i64 (x.rotN k).d)
      have hbel2 := (((hbel.setCell (p := ⟨w.heap.size + 1, 0, none⟩) (by simp) (.int .i64 (x.rotN k).a)).setCell (p := ⟨w.heap.size + 1, 1, none⟩) (by simp) (.int .i64 (x.rotN k).b)).setCell (p := ⟨w.heap.size + 1, 2, none⟩) (by simp) (.int .i64 (x.rotN k).c)).setCell (p := ⟨w.heap.size + 1, 3, none⟩) (by simp) (.int .i64 (x.rotN k).d)
      clear hb1 hb hbel e0 e1 e2 e3 g0 g1 g2 g3 f0 f1 f2 f3 d0 d1 d2 d3
      revert hb2 hbel2
      generalize World.setCell _ _ _ = W
      intro hb2 hbel2
      have e0 : W.cell? ⟨w.heap.size + 1, 0, none⟩ = some (.int .i64 (x.rotN k).a) := hb2.cell 0
      have e1 : W.cell? ⟨w.heap.size + 1, 1, none⟩ = some (.int .i64 (x.rotN k).b) := hb2.cell 1
      have e2 : W.cell? ⟨w.heap.size + 1, 2, none⟩ = some (.int .i64 (x.rotN k).c) := hb2.cell 2
      have e3 : W.cell? ⟨w.heap.size + 1, 3, none⟩ = some (.int .i64 (x.rotN k).d) := hb2.cell 3
      refine bodyPost_ret (v := .agg (x.rotN k).cells) (by simp [results, Try.results123, go_sem, e0, e1, e2, e3, Q4.cells]) rfl ⟨rfl, hbel2⟩

set_option maxHeartbeats 1000000 in
theorem plus_ref (x y : Q4) (hx : x.le 1000000000) (hy : y.le 1000000000) (w : World) :
    Calls Try.prog 122 #[.agg x.cells, .agg y.cells] w fun e w' => e = .returned (.agg (x.plus y).cells) ∧ Below w.heap.size w w' := by
  unfold Q4.le at hx hy
  unfold Q4.cells Q4.plus
  obtain ⟨a, b, c, d⟩ := x
  obtain ⟨a', b', c', d'⟩ := y
  dsimp only at *
  obtain ⟨a1, a2, a3, a4, a5, a6, a7, a8⟩ := hx
  obtain ⟨b1, b2, b3, b4, b5, b6, b7, b8⟩ := hy
  go_enter Try.func122, Try.ntmps122
  go_wp2
  go_returns
  exact ⟨rfl, by go_grown⟩

set_option maxHeartbeats 2000000 in
theorem squareOf_ref (x : Q4) (hx : x.le 1000000000) (w : World) :
    Calls Try.prog 50 #[.agg x.cells] w fun e w' => e = .returned (.agg #[.int .i64 x.P, .int .i64 x.Q]) ∧ Below w.heap.size w w' := by
  have hb := Q4.bds hx (Int.le_refl _)
  have aa := hb x.a (by simp) x.a (by simp)
  have bb := hb x.b (by simp) x.b (by simp)
  have cc := hb x.c (by simp) x.c (by simp)
  have dd := hb x.d (by simp) x.d (by simp)
  have ab := hb x.a (by simp) x.b (by simp)
  have bc := hb x.b (by simp) x.c (by simp)
  have cd := hb x.c (by simp) x.d (by simp)
  have ad := hb x.a (by simp) x.d (by simp)
  have eq : x.a * x.b + x.b * x.c + x.c * x.d - x.a * x.d = x.Q := by unfold Q4.Q; grind
  clear hb
  have EQ := hide eq; clear eq
  unfold Q4.le at hx
  unfold Q4.P Q4.cells
  obtain ⟨a, b, c, d⟩ := x
  dsimp only at *
  obtain ⟨a1, a2, a3, a4, a5, a6, a7, a8⟩ := hx
  go_enter Try.func50, Try.ntmps50
  go_wp2
  go_returns
  exact ⟨by rw [← EQ.out], by go_grown⟩
end Go.Proofs.Ytamkannjdbodpaa
