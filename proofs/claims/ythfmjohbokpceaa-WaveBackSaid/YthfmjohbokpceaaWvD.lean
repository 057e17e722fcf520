import Derived.Test.YthfmjohbokpceaaWvC
namespace Go.Proofs.Ythfmjohbokpceaa
open Go.RowKit Go.WideShapes Go.ChangeShapes

/-! products (program) -/
def npart (y : Nm) (k : Nat) : Int := if k = 0 then y.1 else if k = 1 then y.2.1 else if k = 2 then y.2.2.1 else y.2.2.2
theorem npart_le {m : Int} {y : Nm} (h : nle m y) (k : Nat) : -m ≤ npart y k ∧ npart y k ≤ m := by
  unfold nle at h
  unfold npart
  (repeat' split) <;> omega
theorem npart_idx (y : Nm) (k : Nat) (h : k < 4) (w : World) : (Instr.index 162 (nv y) (.int .i64 (k : Int))).run Try.prog w = .ok (.int .i64 (npart y k)) w := by
  obtain ⟨a, b, c, d⟩ := y
  obtain ⟨i0, i1, i2, i3⟩ := idx_num a b c d
  rcases (by omega : k = 0 ∨ k = 1 ∨ k = 2 ∨ k = 3) with rfl | rfl | rfl | rfl
  · exact i0 w
  · exact i1 w
  · exact i2 w
  · exact i3 w
/-- the product as the program sums it -/
def tsum (x y : Nm) : Nat → Nm := nsum fun j => tni (nsc (npart y j) x) j
theorem tsum_4 (x y : Nm) : tsum x y 4 = nmul x y := by
  obtain ⟨a, b, c, d⟩ := x
  obtain ⟨a', b', c', d'⟩ := y
  simp [tsum, nsum, n0, nadd, tni, nsc, npart, tn, t1, nmul]
  refine ⟨?_, ?_, ?_, ?_⟩ <;> grind
theorem tsum_le {m n : Int} {x y : Nm} (hx : nle m x) (hy : nle n y) (k : Nat) : nle (k * (m * n)) (tsum x y k) :=
  nle_nsum k fun j _ => nle_tni (nle_sc (npart_le hy j) hx) _

theorem Blk.bel2 {w w' : World} {B g : Nat} {t : TypeId} {cs : Array Value} (hb : Below B w w') (h : Blk w g t cs) (hg : g < B) : Blk w' g t cs := h.below hb hg
theorem Blk.newN (w : World) (t : TypeId) (cs : Array Value) {g : Nat} (h : w.heap.size = g) : Blk (w.alloc (.cells cs t)) g t cs := by subst h; exact Blk.new w t cs
def ncells (x : Nm) : Array Value := #[.int .i64 x.1, .int .i64 x.2.1, .int .i64 x.2.2.1, .int .i64 x.2.2.2]
theorem Blk.n4 {w : World} {g : Nat} {t : TypeId} {x : Nm} (h : Blk w g t (ncells x)) : w.cell? ⟨g, 0, none⟩ = some (.int .i64 x.1) ∧ w.cell? ⟨g, 1, none⟩ = some (.int .i64 x.2.1) ∧ w.cell? ⟨g, 2, none⟩ = some (.int .i64 x.2.2.1) ∧ w.cell? ⟨g, 3, none⟩ = some (.int .i64 x.2.2.2) ∧
    w.frozen? ⟨g, 0, none⟩ = false ∧ w.frozen? ⟨g, 1, none⟩ = false ∧ w.frozen? ⟨g, 2, none⟩ = false ∧ w.frozen? ⟨g, 3, none⟩ = false :=
  ⟨h.cell 0, h.cell 1, h.cell 2, h.cell 3, h.frozen 0, h.frozen 1, h.frozen 2, h.frozen 3⟩
set_option maxRecDepth 100000 in
set_option maxHeartbeats 4000000 in
theorem times_wave (x y : Nm) (w : World) {m n : Int} (hx : nle m x) (hy : nle n y) (hm : 0 ≤ m) (hn : 0 ≤ n) (hmn : m * n ≤ 1000000000000000000) :
    Calls Try.prog 111 #[nv x, nv y] w fun e w' => e = .returned (nv (nmul x y)) ∧ Below w.heap.size w w' := by
  have H4 := hide (tsum_4 x y)
  have HL := hide (tsum_le hx hy)
  have HP := hide (fun k => npart_le hy k)
  have HI := hide (npart_idx y)
  have HX := hide hx
  have hnm : 0 ≤ m * n := Int.mul_nonneg hm hn
  have HS := hide (fun k => nle_sc (npart_le hy k) hx)
  clear hx hy
  go_enter Try.func111, Try.ntmps111
  go_wp2
  go_loopw [11] (fun i wr => ∃ k : Nat, k ≤ 4 ∧ i = .int .i64 k ∧ Blk wr w.heap.size 162 (ncells x) ∧ Blk wr (w.heap.size + 2) 162 (ncells n0) ∧ Blk wr (w.heap.size + 3) 162 (ncells (tsum x y k)) ∧ Below w.heap.size w wr) (fun i _ => 4 - (intOf i).toNat)
  case atStart =>
    refine ⟨0, by omega, rfl, ?_, ?_, ?_, by go_grown⟩
    · exact ((((Blk.new w 162 (ncells x)).alloc _).alloc _).alloc _)
    · exact ((Blk.newN ((w.alloc (.cells (ncells x) 162)).alloc (.cells (ncells y) 162)) 162 (ncells n0) (by simp)).alloc _)
    · exact Blk.newN (((w.alloc (.cells (ncells x) 162)).alloc (.cells (ncells y) 162)).alloc (.cells (ncells n0) 162)) 162 (ncells n0) (by simp)
  case round =>
    obtain ⟨k, hk, rfl, hX, hR, hO, hbel⟩ := hrel
    by_cases hlt : k < 4
    · have hi := HI.out k hlt
      have hd : decide ((k : Int) < 4) = true := by rw [decide_eq_true_iff]; omega
      have hz := hbel.size
      obtain ⟨x0, x1, x2, x3, _, _, _, _⟩ := hX.n4
      have hsc := HS.out k
      have hks := HL.out k
      have hts := hide (show tsum x y (k + 1) = nadd (tsum x y k) (tni (nsc (npart y k) x) k) from rfl)
      have hkm : (k : Int) * (m * n) ≤ 3 * (m * n) := Int.mul_le_mul_of_nonneg_right (by omega) hnm
      have HSC := hide (nle_mono hsc (show m * n ≤ 4000000000000000000 by omega))
      have HTN := hide (nle_tni (HSC.out) (k : Int))
      have HKS := hide (nle_mono hks (show (k : Int) * (m * n) ≤ 4000000000000000000 by omega))
      have HO := hide hO
      obtain ⟨S, hS⟩ : ∃ S, tsum x y k = S := ⟨_, rfl⟩
      obtain ⟨z, hz'⟩ : ∃ z, npart y k = z := ⟨_, rfl⟩
      rw [hS] at HKS hts HO
      rw [hz'] at HTN HSC hts hi hsc
      unfold nle nsc at hsc
      dsimp only at hsc
      obtain ⟨s0, s1, s2, s3, s4, s5, s6, s7⟩ := hsc
      clear hS hz' hks hO HI HP HL HS HX H4
      go_wp2
      go_rounds 5
      have hO1 := (HO.out).alloc (.cells (ncells (nsc z x)) 162)
      obtain ⟨y0, y1, y2, y3, _, _, _, _⟩ := hO1.n4
      simp [ncells, nsc] at y0 y1 y2 y3
      go_region_with (first
        | (go_at_call 128; go_must (refine (turned_wave (nsc z x) k _ HSC.out (by omega) (by omega)).mono ?_; rintro e w1 ⟨rfl, hb1⟩; have hO2 := Blk.bel2 hb1 hO1 (by have := HO.out.lt; simp; omega); obtain ⟨p0, p1, p2, p3, _, _, _, _⟩ := hO2.n4; have b1 : Below w.heap.size w w1 := Below.step (by go_grown) hb1; have hX2 := Blk.bel2 hb1 (hX.alloc (.cells (ncells (nsc z x)) 162)) (by have := HO.out.lt; simp; omega); have hR2 := Blk.bel2 hb1 (hR.alloc (.cells (ncells (nsc z x)) 162)) (by have := HO.out.lt; simp; omega); clear hb1))
        | (go_at_call 109; go_must (refine (plus_wave S (tni (nsc z x) k) _ HKS.out HTN.out).mono ?_; rintro e w2 ⟨rfl, hb2⟩; have hO3 := Blk.bel2 hb2 hO2 hO2.lt; obtain ⟨r0, r1, r2, r3, f0, f1, f2, f3⟩ := hO3.n4; have b2 : Below w.heap.size w w2 := Below.step (by go_grown) hb2; have hX3 := hide (Blk.bel2 hb2 hX2 hX2.lt); have hR3 := hide (Blk.bel2 hb2 hR2 hR2.lt); have HO3 := hide hO3; have hl3 := hO3.lt; clear hb2 hX2 hR2 hO2 hO3)))
      all_goals
        go_wp2
        go_roundw
        case rel =>
          refine ⟨k + 1, by omega, by go_num, ?_, ?_, ?_, ?_⟩
          · exact (((hX3.out.far (by simp; omega) _).far (by simp; omega) _).far (by simp; omega) _).far (by simp; omega) _
          · exact (((hR3.out.far (by simp) _).far (by simp) _).far (by simp) _).far (by simp) _
          · rw [hts.out]
            exact (((HO3.out.set_ 0 _).set_ 1 _).set_ 2 _).set_ 3 _
          · go_grown
        case measure => simp [intOf]; omega
    · have hO : Blk wr (w.heap.size + 3) 162 (ncells (nmul x y)) := by rw [← H4.out, ← (by omega : k = 4)]; exact hO
      obtain ⟨c0, c1, c2, c3, _, _, _, _⟩ := hO.n4
      obtain ⟨r0, r1, r2, r3, f0, f1, f2, f3⟩ := hR.n4
      have hl := hR.lt
      have hd : decide ((k : Int) < 4) = false := by rw [decide_eq_false_iff_not]; omega
      go_wp2
      have hfin := (((hR.set_ 0 (.int .i64 (nmul x y).1)).set_ 1 (.int .i64 (nmul x y).2.1)).set_ 2 (.int .i64 (nmul x y).2.2.1)).set_ 3 (.int .i64 (nmul x y).2.2.2)
      exact bodyPost_ret (results_cell_row rfl _ _ (w.heap.size + 2) 162 (ncells (nmul x y)) (0, 0) _ rfl hfin Try.underlying162 rfl (by kernel_rfl)) rfl ⟨rfl, by go_grown⟩
end Go.Proofs.Ythfmjohbokpceaa
