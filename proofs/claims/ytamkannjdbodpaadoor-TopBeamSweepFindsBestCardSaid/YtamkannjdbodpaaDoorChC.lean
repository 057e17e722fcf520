import Derived.Test.YtamkannjdbodpaaDoorChB
namespace Go.Proofs.YtamkannjdbodpaaDoor
open Go.RowKit Go.WideShapes Go.ChangeShapes

def nrm (z : Int × Int) : Int := z.1 * z.1 + z.2 * z.2
theorem nrm_bd {z : Int × Int} {m : Int} (h : cle m z) : 0 ≤ nrm z ∧ nrm z ≤ 2 * (m * m) := by
  unfold cle at h
  have p1 := mul_bd2 h.1 h.2.1 h.1 h.2.1
  have p2 := mul_bd2 h.2.2.1 h.2.2.2 h.2.2.1 h.2.2.2
  have q1 : 0 ≤ z.1 * z.1 := by rw [← Int.natAbs_mul_self]; omega
  have q2 : 0 ≤ z.2 * z.2 := by rw [← Int.natAbs_mul_self]; omega
  unfold nrm; omega
/-! the greatest common divisor -/
theorem gcd_step (a b : Int) : Int.gcd b (a.tmod b) = Int.gcd a b := by
  unfold Int.gcd
  rw [Int.natAbs_tmod, Nat.gcd_comm a.natAbs b.natAbs, Nat.gcd_rec b.natAbs a.natAbs, Nat.gcd_comm]
def lowN (num den : Int) : Int := num.tdiv (Int.gcd num den)
def lowD (num den : Int) : Int := den.tdiv (Int.gcd num den)
end Go.Proofs.YtamkannjdbodpaaDoor
