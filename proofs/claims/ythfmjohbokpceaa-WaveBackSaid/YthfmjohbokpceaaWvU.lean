import Derived.Test.YthfmjohbokpceaaWvT
import Derived.Test.YthfmjohbokpceaaWvZ
namespace Go.Proofs.Ythfmjohbokpceaa
open Go.RowKit Go.WideShapes Go.ChangeShapes

/-! the reference's product -/
/-- the sum so far: each part of a times b turned so often -/
def psum (a b : Nm) : Nat → Nm := nsum fun j => nsc (npart a j) (tni b j)
def nscl (c : Int) (x : Nm) : Nm := (c * x.1, c * x.2.1, c * x.2.2.1, c * x.2.2.2)
theorem nscl_eq (c : Int) (x : Nm) : nscl c x = nsc c x := by unfold nscl nsc; simp only [Int.mul_comm]
theorem psum_4 (x y : Nm) : psum x y 4 = nmul x y := by
  obtain ⟨a, b, c, d⟩ := x
  obtain ⟨a', b', c', d'⟩ := y
  simp [psum, nsum, n0, nadd, tni, nsc, npart, tn, t1, nmul]
  refine ⟨?_, ?_, ?_, ?_⟩ <;> grind
theorem psum_le {m n : Int} {a b : Nm} (ha : nle m a) (hb : nle n b) (k : Nat) : nle (k * (n * m)) (psum a b k) :=
  nle_nsum k fun j _ => nle_sc (npart_le ha j) (nle_tni hb _)
theorem ncells_at (a : Nm) (k : Nat) (hk : k < 4) : (ncells a)[k]? = some (.int .i64 (npart a k)) := by
  rcases (by omega : k = 0 ∨ k = 1 ∨ k = 2 ∨ k = 3) with rfl | rfl | rfl | rfl <;> rfl
set_option maxRecDepth 100000 in
set_option maxHeartbeats 4000000 in
theorem product_ref (a b : Nm) (w : World) (ha : nle 1000000000 a) (hb : nle 1000000000 b) :
    Calls Try.prog 39 #[nv a, nv b] w fun e w' => e = .returned (nv (nmul a b)) ∧ Below w.heap.size w w' := by
  have H4 := hide (psum_4 a b)
  have HL := hide (psum_le ha hb)
  have HP := hide (fun k => npart_le ha k)
  have HS := hide (fun k : Nat => nle_sc (npart_le ha k) (nle_tni hb (k : Int)))
  have HB := hide hb
  have HC := hide (ncells_at a)
  clear ha hb
  go_enter Try.func39, Try.ntmps39
  go_wp2
  go_loopw [7] (fun i wr => ∃ k : Nat, k ≤ 4 ∧ i = .int .i64 k ∧ Blk wr (w.heap.size + 1) 38 (ncells b) ∧ Blk wr (w.heap.size + 2) 38 (ncells n0) ∧ Blk wr (w.heap.size + 3) 38 (ncells (psum a b k)) ∧ Blk wr (w.heap.size + 4) 161 (ncells a) ∧ Below w.heap.size w wr) (fun i _ => 4 - (intOf i).toNat)
  case atStart =>
    refine ⟨0, by omega, rfl, ?_, ?_, ?_, ?_, ?_⟩
    · exact ((((Blk.newN (w.alloc (.cells (ncells a) 38)) 38 (ncells b) (by simp)).alloc _).alloc _).alloc _)
    · exact (((Blk.newN ((w.alloc (.cells (ncells a) 38)).alloc (.cells (ncells b) 38)) 38 (ncells n0) (by simp)).alloc _).alloc _)
    · exact ((Blk.newN (((w.alloc (.cells (ncells a) 38)).alloc (.cells (ncells b) 38)).alloc (.cells (ncells n0) 38)) 38 (ncells n0) (by simp)).alloc _)
    · exact Blk.newN ((((w.alloc (.cells (ncells a) 38)).alloc (.cells (ncells b) 38)).alloc (.cells (ncells n0) 38)).alloc (.cells (ncells n0) 38)) 161 (ncells a) (by simp)
    · go_grown
  case round =>
    obtain ⟨k, hk, rfl, hX, hR, hO, hA, hbel⟩ := hrel
    by_cases hlt : k < 4
    · have hd : decide ((k : Int) < 4) = true := by rw [decide_eq_true_iff]; omega
      have hz := hbel.size
      obtain ⟨x0, x1, x2, x3, _, _, _, _⟩ := hX.n4
      have hpa : wr.cell? ⟨w.heap.size + 4, k, none⟩ = some (.int .i64 (npart a k)) := (hA.cell k).trans (HC.out k hlt)
      have hsc := HS.out k
      rw [← nscl_eq] at hsc
      have hks := HL.out k
      have hts := hide (show psum a b (k + 1) = nadd (psum a b k) (nscl (npart a k) (tni b k)) from by rw [nscl_eq]; rfl)
      have HKS := hide (nle_mono hks (show (k : Int) * (1000000000 * 1000000000) ≤ 4000000000000000000 by omega))
      have HSC := hide (nle_mono hsc (show (1000000000 : Int) * 1000000000 ≤ 4000000000000000000 by omega))
      have HT := hide (fun W => turn_ref b k W (nle_mono HB.out (by omega)) (by omega) (by omega))
      have HO := hide hO
      have HX := hide hX
      have HA := hide hA
      have HR := hide hR
      obtain ⟨S, hS⟩ : ∃ S, psum a b k = S := ⟨_, rfl⟩
      obtain ⟨z, hz'⟩ : ∃ z, npart a k = z := ⟨_, rfl⟩
      obtain ⟨y, hy⟩ : ∃ y, tni b (k : Int) = y := ⟨_, rfl⟩
      rw [hS] at HKS hts HO
      rw [hz'] at HSC hts hsc hpa
      rw [hy] at HSC hts hsc HT
      unfold nle nscl at hsc
      dsimp only at hsc
      obtain ⟨s0, s1, s2, s3, s4, s5, s6, s7⟩ := hsc
      have HPL := hide (plus_ref S (nscl z y) · HKS.out HSC.out)
      have HZ := hide (show (ncells a)[k]? = some (.int .i64 z) by rw [← hz']; exact HC.out k hlt)
      have g0 : IntKind.i64.wrap (z * y.1) = z * y.1 := IntWalk.i64_in _ (by omega)
      have g1 : IntKind.i64.wrap (z * y.2.1) = z * y.2.1 := IntWalk.i64_in _ (by omega)
      have g2 : IntKind.i64.wrap (z * y.2.2.1) = z * y.2.2.1 := IntWalk.i64_in _ (by omega)
      have g3 : IntKind.i64.wrap (z * y.2.2.2) = z * y.2.2.2 := IntWalk.i64_in _ (by omega)
      have hk4 : (k : Int) < 4 := by omega
      have hk0 : (0 : Int) ≤ (k : Int) := by omega
      clear hS hz' hy hks hO HP HL HS H4 HC hX hR hA HB
      go_wp2_with (go_at_call 38; go_must (refine (HT.out _).mono ?_; rintro e w1 ⟨rfl, hb1⟩; have b1 : Below w.heap.size w w1 := Below.step (by go_grown) hb1; have HX1 := hide (Blk.bel2 hb1 HX.out HX.out.lt); have HO1 := hide (Blk.bel2 hb1 HO.out HO.out.lt); have HA1 := hide (Blk.bel2 hb1 HA.out HA.out.lt); have HR1 := hide (Blk.bel2 hb1 HR.out HR.out.lt); clear hb1; simp only []))
      clear s0 s1 s2 s3 s4 s5 s6 s7 hpa x0 x1 x2 x3
      -- region 7
      have HH0 := hide (show (fun w' => Blk w' (w.heap.size + 3) 38 (ncells S) ∧ Blk w' (w.heap.size + 4) 161 (ncells a) ∧ Blk w' w1.heap.size 38 (ncells y) ∧ Blk w' (w.heap.size + 1) 38 (ncells b) ∧ Blk w' (w.heap.size + 2) 38 (ncells n0) ∧ Below w.heap.size w w') (w1.alloc (.cells (ncells y) 38)).drew from ⟨HO1.out.alloc _, HA1.out.alloc _, Blk.new w1 _ _, HX1.out.alloc _, HR1.out.alloc _, (b1.alloc b1.size (.cells (ncells y) 38)).drew⟩)
      go_wp2
      refine UpTo.start (z := 27) (S := fun w' => Blk w' (w.heap.size + 3) 38 (ncells S) ∧ Blk w' (w.heap.size + 4) 161 (ncells a) ∧ Blk w' w1.heap.size 38 (ncells y) ∧ Blk w' (w.heap.size + 1) 38 (ncells b) ∧ Blk w' (w.heap.size + 2) 38 (ncells n0) ∧ Below w.heap.size w w') (by kernel_rfl) ?_
      refine UpTo.take (i := 0) 25 (v := nv S) rfl rfl (by kernel_rfl) (by kernel_rfl) (by kernel_rfl) (by kernel_rfl) (fun _ _ _ h => h) HH0.out (Or.inl ⟨by rfl, by intro w hSw; obtain ⟨q0, q1, q2, q3, _, _, _, _⟩ := hSw.1.n4; go_simp⟩) ?_
      try simp only [Act.put, List.setIfInBounds_toArray, List.set_cons_zero, List.set_cons_succ]
      refine UpTo.take (i := 1) 26 (v := .int .i64 (k : Int)) rfl rfl (by kernel_rfl) (by kernel_rfl) (by kernel_rfl) (by kernel_rfl) (fun _ _ _ h => h) HH0.out (Or.inl ⟨by rfl, by intro w hSw; go_simp⟩) ?_
      try simp only [Act.put, List.setIfInBounds_toArray, List.set_cons_zero, List.set_cons_succ]
      refine UpTo.take (i := 2) 27 (v := .pointer (some ⟨w.heap.size + 4, k, none⟩)) rfl rfl (by kernel_rfl) (by kernel_rfl) (by kernel_rfl) (by kernel_rfl) (fun _ _ _ h => h) HH0.out (Or.inl ⟨by rfl, by intro w hSw; go_simp⟩) ?_
      try simp only [Act.put, List.setIfInBounds_toArray, List.set_cons_zero, List.set_cons_succ]
      refine UpTo.take (i := 3) 28 (v := .int .i64 z) rfl rfl (by kernel_rfl) (by kernel_rfl) (by kernel_rfl) (by kernel_rfl) (fun _ _ _ h => h) HH0.out (Or.inl ⟨by rfl, by intro w hSw; have q := (hSw.2.1.cell k).trans HZ.out; go_simp⟩) ?_
      try simp only [Act.put, List.setIfInBounds_toArray, List.set_cons_zero, List.set_cons_succ]
      refine UpTo.take (i := 4) 29 (v := .pointer (some ⟨w1.heap.size, 0, none⟩)) rfl rfl (by kernel_rfl) (by kernel_rfl) (by kernel_rfl) (by kernel_rfl) (fun _ _ _ h => h) HH0.out (Or.inl ⟨by rfl, by intro w hSw; go_simp⟩) ?_
      try simp only [Act.put, List.setIfInBounds_toArray, List.set_cons_zero, List.set_cons_succ]
      refine UpTo.take (i := 5) 30 (v := .int .i64 y.1) rfl rfl (by kernel_rfl) (by kernel_rfl) (by kernel_rfl) (by kernel_rfl) (fun _ _ _ h => h) HH0.out (Or.inl ⟨by rfl, by intro w hSw; obtain ⟨q0, q1, q2, q3, _, _, _, _⟩ := hSw.2.2.1.n4; go_simp⟩) ?_
      try simp only [Act.put, List.setIfInBounds_toArray, List.set_cons_zero, List.set_cons_succ]
      refine UpTo.take (i := 6) 31 (v := .int .i64 (z * y.1)) rfl rfl (by kernel_rfl) (by kernel_rfl) (by kernel_rfl) (by kernel_rfl) (fun _ _ _ h => h) HH0.out (Or.inl ⟨by rfl, by intro w hSw; go_simp⟩) ?_
      try simp only [Act.put, List.setIfInBounds_toArray, List.set_cons_zero, List.set_cons_succ]
      refine UpTo.take (i := 7) 32 (v := .int .i64 (k : Int)) rfl rfl (by kernel_rfl) (by kernel_rfl) (by kernel_rfl) (by kernel_rfl) (fun _ _ _ h => h) HH0.out (Or.inl ⟨by rfl, by intro w hSw; go_simp⟩) ?_
      try simp only [Act.put, List.setIfInBounds_toArray, List.set_cons_zero, List.set_cons_succ]
      refine UpTo.take (i := 8) 33 (v := .pointer (some ⟨w.heap.size + 4, k, none⟩)) rfl rfl (by kernel_rfl) (by kernel_rfl) (by kernel_rfl) (by kernel_rfl) (fun _ _ _ h => h) HH0.out (Or.inl ⟨by rfl, by intro w hSw; go_simp⟩) ?_
      try simp only [Act.put, List.setIfInBounds_toArray, List.set_cons_zero, List.set_cons_succ]
      refine UpTo.take (i := 9) 34 (v := .int .i64 z) rfl rfl (by kernel_rfl) (by kernel_rfl) (by kernel_rfl) (by kernel_rfl) (fun _ _ _ h => h) HH0.out (Or.inl ⟨by rfl, by intro w hSw; have q := (hSw.2.1.cell k).trans HZ.out; go_simp⟩) ?_
      try simp only [Act.put, List.setIfInBounds_toArray, List.set_cons_zero, List.set_cons_succ]
      refine UpTo.take (i := 10) 35 (v := .pointer (some ⟨w1.heap.size, 1, none⟩)) rfl rfl (by kernel_rfl) (by kernel_rfl) (by kernel_rfl) (by kernel_rfl) (fun _ _ _ h => h) HH0.out (Or.inl ⟨by rfl, by intro w hSw; go_simp⟩) ?_
      try simp only [Act.put, List.setIfInBounds_toArray, List.set_cons_zero, List.set_cons_succ]
      refine UpTo.take (i := 11) 36 (v := .int .i64 y.2.1) rfl rfl (by kernel_rfl) (by kernel_rfl) (by kernel_rfl) (by kernel_rfl) (fun _ _ _ h => h) HH0.out (Or.inl ⟨by rfl, by intro w hSw; obtain ⟨q0, q1, q2, q3, _, _, _, _⟩ := hSw.2.2.1.n4; go_simp⟩) ?_
      try simp only [Act.put, List.setIfInBounds_toArray, List.set_cons_zero, List.set_cons_succ]
      refine UpTo.take (i := 12) 37 (v := .int .i64 (z * y.2.1)) rfl rfl (by kernel_rfl) (by kernel_rfl) (by kernel_rfl) (by kernel_rfl) (fun _ _ _ h => h) HH0.out (Or.inl ⟨by rfl, by intro w hSw; go_simp⟩) ?_
      try simp only [Act.put, List.setIfInBounds_toArray, List.set_cons_zero, List.set_cons_succ]
      refine UpTo.take (i := 13) 38 (v := .int .i64 (k : Int)) rfl rfl (by kernel_rfl) (by kernel_rfl) (by kernel_rfl) (by kernel_rfl) (fun _ _ _ h => h) HH0.out (Or.inl ⟨by rfl, by intro w hSw; go_simp⟩) ?_
      try simp only [Act.put, List.setIfInBounds_toArray, List.set_cons_zero, List.set_cons_succ]
      refine UpTo.take (i := 14) 39 (v := .pointer (some ⟨w.heap.size + 4, k, none⟩)) rfl rfl (by kernel_rfl) (by kernel_rfl) (by kernel_rfl) (by kernel_rfl) (fun _ _ _ h => h) HH0.out (Or.inl ⟨by rfl, by intro w hSw; go_simp⟩) ?_
      try simp only [Act.put, List.setIfInBounds_toArray, List.set_cons_zero, List.set_cons_succ]
      refine UpTo.take (i := 15) 40 (v := .int .i64 z) rfl rfl (by kernel_rfl) (by kernel_rfl) (by kernel_rfl) (by kernel_rfl) (fun _ _ _ h => h) HH0.out (Or.inl ⟨by rfl, by intro w hSw; have q := (hSw.2.1.cell k).trans HZ.out; go_simp⟩) ?_
      try simp only [Act.put, List.setIfInBounds_toArray, List.set_cons_zero, List.set_cons_succ]
      refine UpTo.take (i := 16) 41 (v := .pointer (some ⟨w1.heap.size, 2, none⟩)) rfl rfl (by kernel_rfl) (by kernel_rfl) (by kernel_rfl) (by kernel_rfl) (fun _ _ _ h => h) HH0.out (Or.inl ⟨by rfl, by intro w hSw; go_simp⟩) ?_
      try simp only [Act.put, List.setIfInBounds_toArray, List.set_cons_zero, List.set_cons_succ]
      refine UpTo.take (i := 17) 42 (v := .int .i64 y.2.2.1) rfl rfl (by kernel_rfl) (by kernel_rfl) (by kernel_rfl) (by kernel_rfl) (fun _ _ _ h => h) HH0.out (Or.inl ⟨by rfl, by intro w hSw; obtain ⟨q0, q1, q2, q3, _, _, _, _⟩ := hSw.2.2.1.n4; go_simp⟩) ?_
      try simp only [Act.put, List.setIfInBounds_toArray, List.set_cons_zero, List.set_cons_succ]
      refine UpTo.take (i := 18) 43 (v := .int .i64 (z * y.2.2.1)) rfl rfl (by kernel_rfl) (by kernel_rfl) (by kernel_rfl) (by kernel_rfl) (fun _ _ _ h => h) HH0.out (Or.inl ⟨by rfl, by intro w hSw; go_simp⟩) ?_
      try simp only [Act.put, List.setIfInBounds_toArray, List.set_cons_zero, List.set_cons_succ]
      refine UpTo.take (i := 19) 44 (v := .int .i64 (k : Int)) rfl rfl (by kernel_rfl) (by kernel_rfl) (by kernel_rfl) (by kernel_rfl) (fun _ _ _ h => h) HH0.out (Or.inl ⟨by rfl, by intro w hSw; go_simp⟩) ?_
      try simp only [Act.put, List.setIfInBounds_toArray, List.set_cons_zero, List.set_cons_succ]
      refine UpTo.take (i := 20) 45 (v := .pointer (some ⟨w.heap.size + 4, k, none⟩)) rfl rfl (by kernel_rfl) (by kernel_rfl) (by kernel_rfl) (by kernel_rfl) (fun _ _ _ h => h) HH0.out (Or.inl ⟨by rfl, by intro w hSw; go_simp⟩) ?_
      try simp only [Act.put, List.setIfInBounds_toArray, List.set_cons_zero, List.set_cons_succ]
      refine UpTo.take (i := 21) 46 (v := .int .i64 z) rfl rfl (by kernel_rfl) (by kernel_rfl) (by kernel_rfl) (by kernel_rfl) (fun _ _ _ h => h) HH0.out (Or.inl ⟨by rfl, by intro w hSw; have q := (hSw.2.1.cell k).trans HZ.out; go_simp⟩) ?_
      try simp only [Act.put, List.setIfInBounds_toArray, List.set_cons_zero, List.set_cons_succ]
      refine UpTo.take (i := 22) 47 (v := .pointer (some ⟨w1.heap.size, 3, none⟩)) rfl rfl (by kernel_rfl) (by kernel_rfl) (by kernel_rfl) (by kernel_rfl) (fun _ _ _ h => h) HH0.out (Or.inl ⟨by rfl, by intro w hSw; go_simp⟩) ?_
      try simp only [Act.put, List.setIfInBounds_toArray, List.set_cons_zero, List.set_cons_succ]
      refine UpTo.take (i := 23) 48 (v := .int .i64 y.2.2.2) rfl rfl (by kernel_rfl) (by kernel_rfl) (by kernel_rfl) (by kernel_rfl) (fun _ _ _ h => h) HH0.out (Or.inl ⟨by rfl, by intro w hSw; obtain ⟨q0, q1, q2, q3, _, _, _, _⟩ := hSw.2.2.1.n4; go_simp⟩) ?_
      try simp only [Act.put, List.setIfInBounds_toArray, List.set_cons_zero, List.set_cons_succ]
      refine UpTo.take (i := 24) 49 (v := .int .i64 (z * y.2.2.2)) rfl rfl (by kernel_rfl) (by kernel_rfl) (by kernel_rfl) (by kernel_rfl) (fun _ _ _ h => h) HH0.out (Or.inl ⟨by rfl, by intro w hSw; go_simp⟩) ?_
      try simp only [Act.put, List.setIfInBounds_toArray, List.set_cons_zero, List.set_cons_succ]
      refine UpTo.take (i := 25) 50 (v := .agg #[.int .i64 (z * y.1), .int .i64 (z * y.2.1), .int .i64 (z * y.2.2.1), .int .i64 (z * y.2.2.2)]) rfl rfl (by kernel_rfl) (by kernel_rfl) (by kernel_rfl) (by kernel_rfl) (fun _ _ _ h => h) HH0.out (Or.inl ⟨by rfl, by intro w hSw; first | (go_simp; done) | rfl⟩) ?_
      try simp only [Act.put, List.setIfInBounds_toArray, List.set_cons_zero, List.set_cons_succ]
      refine UpTo.next (i := 26) (by kernel_rfl) rfl (fun K hK => ?_)
      go_simp
      refine (HPL.out _).mono ?_
      rintro e v6 ⟨rfl, hb⟩
      have HH6 := hide (show (fun w' => Blk w' (w.heap.size + 3) 38 (ncells S) ∧ Blk w' (w.heap.size + 4) 161 (ncells a) ∧ Blk w' w1.heap.size 38 (ncells y) ∧ Blk w' (w.heap.size + 1) 38 (ncells b) ∧ Blk w' (w.heap.size + 2) 38 (ncells n0) ∧ Below w.heap.size w w') v6 from ⟨HH0.out.1.below hb HH0.out.1.lt, HH0.out.2.1.below hb HH0.out.2.1.lt, HH0.out.2.2.1.below hb HH0.out.2.2.1.lt, HH0.out.2.2.2.1.below hb HH0.out.2.2.2.1.lt, HH0.out.2.2.2.2.1.below hb HH0.out.2.2.2.2.1.lt, Below.step HH0.out.2.2.2.2.2 hb⟩)
      clear hb
      simp only []
      refine hK.out _ _ (fun _ => HH6.out) ?_
      clear hK K
      try simp only [Act.put, List.setIfInBounds_toArray, List.set_cons_zero, List.set_cons_succ]
      obtain ⟨u0, u1, u2, u3, f0, f1, f2, f3⟩ := HH6.out.1.n4
      have hz6 := HH6.out.2.2.2.2.2.size
      refine UpTo.next (i := 27) (by kernel_rfl) rfl (fun K hK => ?_)
      go_simp
      refine hK.out _ _ (fun h => absurd rfl h) ?_
      clear hK K
      refine UpTo.done (by kernel_rfl) ?_ _
      have b6 := HH6.out.2.2.2.2.2
      go_wp2
      go_roundw
      case rel => exact ⟨k + 1, by omega, by go_num, (((HH6.out.2.2.2.1.far (by simp) _).far (by simp) _).far (by simp) _).far (by simp) _, (((HH6.out.2.2.2.2.1.far (by simp) _).far (by simp) _).far (by simp) _).far (by simp) _, by rw [hts.out]; exact (((HH6.out.1.set_ 0 _).set_ 1 _).set_ 2 _).set_ 3 _, (((HH6.out.2.1.far (by simp) _).far (by simp) _).far (by simp) _).far (by simp) _, by go_grown⟩
      case measure => simp [intOf]; omega
      -- region 7 end
    · have hO : Blk wr (w.heap.size + 3) 38 (ncells (nmul a b)) := by rw [← H4.out, ← (by omega : k = 4)]; exact hO
      obtain ⟨c0, c1, c2, c3, _, _, _, _⟩ := hO.n4
      obtain ⟨r0, r1, r2, r3, f0, f1, f2, f3⟩ := hR.n4
      have hl := hR.lt
      have hd : decide ((k : Int) < 4) = false := by rw [decide_eq_false_iff_not]; omega
      clear HL HP HS HB HC H4
      go_wp2
      have hfin := (((hR.set_ 0 (.int .i64 (nmul a b).1)).set_ 1 (.int .i64 (nmul a b).2.1)).set_ 2 (.int .i64 (nmul a b).2.2.1)).set_ 3 (.int .i64 (nmul a b).2.2.2)
      exact bodyPost_ret (results_cell_row rfl _ _ (w.heap.size + 2) 38 (ncells (nmul a b)) (0, 0) _ rfl hfin Try.underlying38 rfl (by kernel_rfl)) rfl ⟨rfl, by go_grown⟩
end Go.Proofs.Ythfmjohbokpceaa
