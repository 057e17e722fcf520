import Derived.Test.YtamkannjdbodpaaDoorChC
namespace Go.Proofs.YtamkannjdbodpaaDoor
open Go.RowKit Go.WideShapes Go.ChangeShapes

def enG (g : List (Int × Int)) (n : Nat) : Int := (innerZ g g n).1
def Ch30 (g : List (Int × Int)) : Prop := g.length ≤ 8 ∧ Small 30 g
theorem Ch30.in_ {g h : List (Int × Int)} (hg : Ch30 g) (hh : Ch30 h) : cle 14400 (innerZ g h g.length) := by
  have h1 := innerZ_le hg.2 hh.2 (by decide) (by decide) g.length
  have h2 := hg.1
  unfold cle at *
  have e : (g.length : Int) * (2 * (30 * 30)) ≤ 14400 := by omega
  omega
theorem inner_im : ∀ (g : List (Int × Int)) (n : Nat), (innerZ g g n).2 = 0
  | _, 0 => rfl
  | g, n + 1 => by
    unfold innerZ cadd cmul cconj
    dsimp only
    rw [inner_im g n]
    grind
theorem en_step (g : List (Int × Int)) (n : Nat) : enG g (n + 1) = enG g n + nrm (g[n]?.getD (0, 0)) := by
  unfold enG
  rw [innerZ]
  unfold cadd cmul cconj nrm
  dsimp only
  grind
theorem nrm_nn (z : Int × Int) : 0 ≤ nrm z := by
  have h1 : 0 ≤ z.1 * z.1 := by rw [← Int.natAbs_mul_self]; omega
  have h2 : 0 ≤ z.2 * z.2 := by rw [← Int.natAbs_mul_self]; omega
  unfold nrm; omega
theorem en_nn (g : List (Int × Int)) : ∀ n : Nat, 0 ≤ enG g n
  | 0 => by simp [enG, innerZ]
  | n + 1 => by rw [en_step]; have := en_nn g n; have := nrm_nn (g[n]?.getD (0, 0)); omega
theorem Ch30.en {g : List (Int × Int)} (hg : Ch30 g) : 0 ≤ enG g g.length ∧ enG g g.length ≤ 14400 := by
  have h1 := Ch30.in_ hg hg
  have h2 := en_nn g g.length
  unfold cle at h1
  unfold enG at *
  omega
theorem Small.mono {m n : Int} {g : List (Int × Int)} (h : Small m g) (hm : m ≤ n) : Small n g := fun z hz => by have := h z hz; unfold cle at *; omega

theorem ga_re (a b : Int) (w : World) : (Instr.field 38 (.agg #[.int .i64 a, .int .i64 b]) 0).run Tryd.prog w = .ok (.int .i64 a) w := by kernel_rfl
end Go.Proofs.YtamkannjdbodpaaDoor
