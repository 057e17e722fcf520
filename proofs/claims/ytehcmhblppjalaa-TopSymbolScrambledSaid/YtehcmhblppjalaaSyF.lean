import Derived.Test.YtehcmhblppjalaaSyE
namespace Go.Proofs.Ytehcmhblppjalaa
open Go.RowKit Go.WideShapes Go.ChangeShapes

/-! the word of a register (program) -/
def bN (B : List Int) (k : Nat) : Nat := (B[k]?.getD 0).toNat
def wdB (B : List Int) : Nat → Nat
  | 0 => 0
  | k + 1 => wdB B k ||| bN B k * 2 ^ k
def tpW (T : List Int) : Nat → Nat
  | 0 => 0
  | k + 1 => tpW T k ||| 2 ^ bN T k
/-- what is right of a register -/
structure RgOk (top : Nat) (T B : List Int) : Prop where
  lo : 1 ≤ top
  hi : top < 10
  nonempty : 0 < T.length
  few : T.length ≤ 1000
  tap : ∀ k : Nat, k < T.length → 0 ≤ T[k]?.getD 0 ∧ T[k]?.getD 0 ≤ top
  rise : ∀ k : Nat, k < T.length → lst T k < T[k]?.getD 0
  zero : T[0]?.getD 0 = 0
  len : B.length = top + 1
  bit : ∀ k : Nat, B[k]?.getD 0 = 0 ∨ B[k]?.getD 0 = 1
theorem bN_le {top : Nat} {T B : List Int} (h : RgOk top T B) (k : Nat) : bN B k ≤ 1 := by unfold bN; rcases h.bit k with e | e <;> rw [e] <;> decide
theorem wdB_lt {top : Nat} {T B : List Int} (h : RgOk top T B) : ∀ k, wdB B k < 2 ^ k
  | 0 => by show 0 < 1; decide
  | k + 1 => by
    refine Nat.or_lt_two_pow (Nat.lt_of_lt_of_le (wdB_lt h k) (Nat.pow_le_pow_right (by decide) (by omega))) ?_
    have : bN B k * 2 ^ k ≤ 1 * 2 ^ k := Nat.mul_le_mul_right _ (bN_le h k)
    have := Nat.pow_pos (n := k) (show 0 < 2 by decide)
    rw [Nat.pow_succ]; omega
theorem tpW_lt {top : Nat} {T B : List Int} (h : RgOk top T B) : ∀ k, k ≤ T.length → tpW T k < 1024
  | 0, _ => by show 0 < 1024; decide
  | k + 1, hk => by
    refine Nat.or_lt_two_pow (n := 10) (tpW_lt h k (by omega)) ?_
    have h1 := h.tap k (by omega)
    have h2 : bN T k ≤ 9 := by unfold bN; have := h.hi; omega
    exact Nat.lt_of_le_of_lt (Nat.pow_le_pow_right (by decide) h2) (by decide)
theorem or_mod2 (a b : Nat) (h : a % 2 = 1) : (a ||| b) % 2 = 1 := by
  have h1 : a.testBit 0 = true := by rw [Nat.testBit_zero, h]; rfl
  have h2 : (a ||| b).testBit 0 = true := by rw [Nat.testBit_or, h1]; rfl
  rw [Nat.testBit_zero] at h2
  exact of_decide_eq_true h2
theorem tpW_odd {T : List Int} (hz : T[0]?.getD 0 = 0) : ∀ k, 0 < k → tpW T k % 2 = 1
  | 1, _ => by show (0 ||| 2 ^ bN T 0) % 2 = 1; unfold bN; rw [hz]; rfl
  | k + 2, _ => or_mod2 _ _ (tpW_odd hz (k + 1) (by omega))
set_option maxRecDepth 100000 in
set_option maxHeartbeats 4000000 in
theorem wireOf_sy (top : Nat) (A1 A2 : Option Addr) (m c1 c2 : Nat) (T B : List Int) (w : World) (hm : T.length = m) (hs1 : Sl w A1 (iv T)) (hs2 : Sl w A2 (iv B)) (hr : RgOk top T B) :
    Calls Try.prog 22 #[.agg (rgA ((top : Int) + 1) A1 A2 m (top + 1) c1 c2)] w fun e w' => e = .returned (.agg (wrA (wdB B (top + 1)) (tpW T m) top)) ∧ Below w.heap.size w w' := by
  have HS1 := hide (stay_sl hs1)
  have HS2 := hide (stay_sl hs2)
  have HBN := hide (bN_le hr)
  have HWL := hide (wdB_lt hr)
  have HTL := hide (tpW_lt hr)
  have HTP := hide hr.tap
  have HBT := hide hr.bit
  have HLB := hide hr.len
  have HM := hide hm
  have HW1 := hide (show ∀ k, wdB B (k + 1) = wdB B k ||| bN B k * 2 ^ k from fun _ => rfl)
  have HT1 := hide (show ∀ k, tpW T (k + 1) = tpW T k ||| 2 ^ bN T k from fun _ => rfl)
  have ht1 := hr.lo
  have ht2 := hr.hi
  have hfew := hr.few
  have HW0 := hide (show wdB B 0 = 0 ∧ tpW T 0 = 0 from ⟨rfl, rfl⟩)
  rw [hm] at hfew
  unfold rgA
  clear hs1 hs2 hr hm
  obtain ⟨WX, hWX⟩ : ∃ X, wdB B (top + 1) = X := ⟨_, rfl⟩
  obtain ⟨TX, hTX⟩ : ∃ X, tpW T m = X := ⟨_, rfl⟩
  rw [hWX, hTX]
  have HWX := hide hWX
  have HTX := hide hTX
  clear hWX hTX
  have HX := hide (show Stay (((w.alloc (.cells #[.int .i64 ((top : Int) + 1), .slice A1 m c1, .slice A2 (top + 1) c2] 24)).alloc (.cells (wrA 0 0 0) 55)).alloc (.cells (wrA 0 0 top) 55)) (fun W => Blk W w.heap.size 24 #[.int .i64 ((top : Int) + 1), .slice A1 m c1, .slice A2 (top + 1) c2] ∧ Below w.heap.size w W) from
    ((((stay_new w 24 #[.int .i64 ((top : Int) + 1), .slice A1 m c1, .slice A2 (top + 1) c2]).alloc _).alloc _).and (stay_below (by go_grown))))
  go_enter Try.func22, Try.ntmps22
  go_wp2
  go_loopw [15] (fun i wr => ∃ k : Nat, k ≤ top + 1 ∧ i = .int .i64 k ∧ Blk wr (w.heap.size + 2) 55 (wrA (wdB B k) 0 top) ∧ Blk wr (w.heap.size + 1) 55 (wrA 0 0 0) ∧ Blk wr w.heap.size 24 #[.int .i64 ((top : Int) + 1), .slice A1 m c1, .slice A2 (top + 1) c2] ∧ Below w.heap.size w wr) (fun i _ => top + 1 - (intOf i).toNat)
  case atStart =>
    refine ⟨0, Nat.zero_le _, rfl, ?_, ?_, HX.out.now.1, HX.out.now.2⟩
    · rw [HW0.out.1]; exact Blk.newN ((w.alloc _).alloc _) 55 (wrA 0 0 top) (by simp)
    · exact (Blk.newN (w.alloc _) 55 (wrA 0 0 0) (by simp)).alloc _
  case round =>
    clear HX
    obtain ⟨k, hk, rfl, hW, hR, hX, hbel⟩ := hrel
    have HWW := hide hW
    have HRR := hide hR
    have HXX := hide hX
    have HBE := hide hbel
    have c0 := hX.cell 0
    have c1' := hX.cell 1
    have c2' := hX.cell 2
    clear hW hR hX hbel
    by_cases hlt : k < top + 1
    · obtain ⟨b1, o1, rfl, d1⟩ := (HS2.out wr HBE.out).int (show k < B.length by rw [HLB.out]; exact hlt)
      have hbv : B[k]'(by rw [HLB.out]; exact hlt) = (bN B k : Int) := by
        have := HBT.out k
        unfold bN
        rw [List.getElem?_eq_getElem (by rw [HLB.out]; exact hlt)] at this ⊢
        show _ = ((B[k]'_).toNat : Int)
        have : B[k]'(by rw [HLB.out]; exact hlt) = 0 ∨ B[k]'(by rw [HLB.out]; exact hlt) = 1 := this
        omega
      rw [hbv] at d1
      have hb1 := HBN.out k
      have hw1 := HWL.out k
      have hst := HW1.out k
      have hpk : 2 ^ k ≤ 512 := Nat.pow_le_pow_right (by decide) (show k ≤ 9 by omega)
      obtain ⟨b, hb⟩ : ∃ b, bN B k = b := ⟨_, rfl⟩
      obtain ⟨x, hx⟩ : ∃ b, wdB B k = b := ⟨_, rfl⟩
      rw [hb] at d1 hb1 hst
      rw [hx] at hw1 hst HWW
      have s1 : b * 2 ^ k < 65536 := by have : b * 2 ^ k ≤ 1 * 2 ^ k := Nat.mul_le_mul_right _ hb1; omega
      obtain ⟨P, hP⟩ : ∃ P, b * 2 ^ k = P := ⟨_, rfl⟩
      rw [hP] at s1 hst
      obtain ⟨N, hN⟩ : ∃ N, wdB B (k + 1) = N := ⟨_, rfl⟩
      rw [hN] at hst
      have HN := hide hN
      have m1 : min k 16 = k := by omega
      have u1 : IntKind.u16.wrap (b : Int) = (b : Int) := u16_wrap b (by omega)
      have s2 : IntKind.u16.wrap ((b : Int) * 2 ^ k) = (P : Int) := by rw [← u16_wrap P s1, ← hP]; push_cast; rfl
      have b3 : bits .or .u16 (x : Int) (P : Int) = (N : Int) := by rw [or_u16 (by omega) s1, ← hst]
      have g1 : (0 : Int) ≤ (k : Int) := by omega
      have g2 : (k : Int) < (top : Int) + 1 := by omega
      clear hb hx hst hP hN hbv HW1 HT1 HBN HWL HTL HTP HBT HW0
      go_wp2
      clear c0 c1' c2' d1
      have HH1 := hide (show Blk wr.drew (w.heap.size + 2) 55 (wrA x 0 top) from HWW.out)
      have hHeld := HH1.out
      refine UpTo.start (z := 8) (S := fun w' => Blk w' (w.heap.size + 2) 55 (wrA x 0 top)) (by kernel_rfl) ?_
      refine UpTo.take (i := 0) 20 (v := .pointer (some ⟨w.heap.size + 2, 0, none⟩)) rfl rfl (by kernel_rfl) (by kernel_rfl) (by kernel_rfl) (by kernel_rfl) (fun _ _ _ h => h) hHeld (Or.inl ⟨by rfl, by intro w hSw; go_simp⟩) ?_
      try simp only [Act.put, List.setIfInBounds_toArray, List.set_cons_zero, List.set_cons_succ]
      refine UpTo.take (i := 1) 21 (v := .int .u16 (x : Int)) rfl rfl (by kernel_rfl) (by kernel_rfl) (by kernel_rfl) (by kernel_rfl) (fun _ _ _ h => h) hHeld (Or.inl ⟨by rfl, by intro w1 hSw; have q := hSw.cell 0; go_simp⟩) ?_
      try simp only [Act.put, List.setIfInBounds_toArray, List.set_cons_zero, List.set_cons_succ]
      refine UpTo.take (i := 2) 22 (v := .int .i64 (b : Int)) rfl rfl (by kernel_rfl) (by kernel_rfl) (by kernel_rfl) (by kernel_rfl) (fun _ _ _ h => h) hHeld (Or.inl ⟨by rfl, by intro w hSw; go_simp⟩) ?_
      try simp only [Act.put, List.setIfInBounds_toArray, List.set_cons_zero, List.set_cons_succ]
      refine UpTo.take (i := 3) 23 (v := .int .u16 (b : Int)) rfl rfl (by kernel_rfl) (by kernel_rfl) (by kernel_rfl) (by kernel_rfl) (fun _ _ _ h => h) hHeld (Or.inl ⟨by rfl, by intro w hSw; go_simp⟩) ?_
      try simp only [Act.put, List.setIfInBounds_toArray, List.set_cons_zero, List.set_cons_succ]
      refine UpTo.take (i := 4) 24 (v := .int .i64 (k : Int)) rfl rfl (by kernel_rfl) (by kernel_rfl) (by kernel_rfl) (by kernel_rfl) (fun _ _ _ h => h) hHeld (Or.inl ⟨by rfl, by intro w hSw; go_simp⟩) ?_
      try simp only [Act.put, List.setIfInBounds_toArray, List.set_cons_zero, List.set_cons_succ]
      refine UpTo.take (i := 5) 25 (v := .int .u16 (P : Int)) rfl rfl (by kernel_rfl) (by kernel_rfl) (by kernel_rfl) (by kernel_rfl) (fun _ _ _ h => h) hHeld (Or.inl ⟨by rfl, by intro w hSw; go_simp⟩) ?_
      try simp only [Act.put, List.setIfInBounds_toArray, List.set_cons_zero, List.set_cons_succ]
      refine UpTo.take (i := 6) 26 (v := .int .u16 (N : Int)) rfl rfl (by kernel_rfl) (by kernel_rfl) (by kernel_rfl) (by kernel_rfl) (fun _ _ _ h => h) hHeld (Or.inl ⟨by rfl, by intro w hSw; go_simp⟩) ?_
      try simp only [Act.put, List.setIfInBounds_toArray, List.set_cons_zero, List.set_cons_succ]
      obtain ⟨v1, hv1⟩ : ∃ W, wr.drew = W := ⟨_, rfl⟩
      have HV := hide (show Blk v1 (w.heap.size + 2) 55 (wrA x 0 top) ∧ Blk v1 (w.heap.size + 1) 55 (wrA 0 0 0) ∧ Blk v1 w.heap.size 24 #[.int .i64 ((top : Int) + 1), .slice A1 m c1, .slice (some ⟨b1, o1, none⟩) (top + 1) c2] ∧ Below w.heap.size w v1 from hv1 ▸ ⟨HWW.out, HRR.out, HXX.out, below_drewN HBE.out 1⟩)
      rw [hv1] at HH1 hHeld ⊢
      clear hv1
      refine UpTo.next (i := 7) (by kernel_rfl) rfl (fun K hK => ?_)
      go_simp
      refine hK.out _ _ (fun _ => HH1.out) ?_
      clear hK K
      try simp only [Act.put, List.setIfInBounds_toArray, List.set_cons_zero, List.set_cons_succ]
      have u0 := HH1.out.cell 0
      have f0 := HH1.out.frozen 0
      refine UpTo.next (i := 8) (by kernel_rfl) rfl (fun K hK => ?_)
      go_simp
      refine hK.out _ _ (fun h => absurd rfl h) ?_
      clear hK K
      refine UpTo.done (by kernel_rfl) ?_ _
      go_wp2
      go_roundw
      case rel =>
        refine ⟨k + 1, by omega, by go_num, ?_, ?_, ?_, ?_⟩
        · rw [HN.out]; exact HH1.out.set_ 0 _
        · exact HV.out.2.1.far (p := ⟨w.heap.size + 1 + 1, 0, none⟩) (by show w.heap.size + 1 ≠ w.heap.size + 1 + 1; omega) _
        · exact HV.out.2.2.1.far (p := ⟨w.heap.size + 1 + 1, 0, none⟩) (by show w.heap.size ≠ w.heap.size + 1 + 1; omega) _
        · exact HV.out.2.2.2.setCell (p := ⟨w.heap.size + 1 + 1, 0, none⟩) (by show w.heap.size ≤ w.heap.size + 1 + 1; omega) _
      case measure => simp [intOf]; omega
    · obtain rfl : k = top + 1 := by omega
      rw [HWX.out] at HWW
      clear HS2 HBN HWL HBT HLB HW1 HWX
      go_wp2
      obtain ⟨wo, rfl⟩ : ∃ wo : World, wo = wr := ⟨_, rfl⟩
      clear c0 c1' c2'
      go_loopw [32] (fun i wr => ∃ k : Nat, k ≤ m ∧ i = .int .i64 k ∧ Blk wr (w.heap.size + 2) 55 (wrA WX (tpW T k) top) ∧ Blk wr (w.heap.size + 1) 55 (wrA 0 0 0) ∧ Blk wr w.heap.size 24 #[.int .i64 ((top : Int) + 1), .slice A1 m c1, .slice A2 (top + 1) c2] ∧ Below w.heap.size w wr) (fun i _ => m - (intOf i).toNat)
      case atStart => exact ⟨0, Nat.zero_le _, rfl, by rw [HW0.out.2]; exact HWW.out, HRR.out, HXX.out, HBE.out⟩
      case round =>
        clear HWW HRR HXX HBE
        obtain ⟨k, hk, rfl, hW, hR, hX, hbel⟩ := hrel
        have HWW := hide hW
        have HRR := hide hR
        have HXX := hide hX
        have HBE := hide hbel
        clear hW hR hX hbel
        by_cases hlt : k < m
        · have hlt' : k < T.length := by rw [HM.out]; exact hlt
          obtain ⟨b1, o1, rfl, d1⟩ := (HS1.out wr HBE.out).int hlt'
          have htp := HTP.out k hlt'
          have hbv : T[k] = (bN T k : Int) := by
            unfold bN
            rw [List.getElem?_eq_getElem hlt'] at htp ⊢
            have : 0 ≤ T[k] := htp.1
            show _ = ((T[k]).toNat : Int)
            omega
          rw [hbv] at d1
          have hb9 : bN T k ≤ 9 := by unfold bN; omega
          have hw1 := HTL.out k (by omega)
          have hst := HT1.out k
          obtain ⟨b, hb⟩ : ∃ b, bN T k = b := ⟨_, rfl⟩
          obtain ⟨x, hx⟩ : ∃ b, tpW T k = b := ⟨_, rfl⟩
          rw [hb] at d1 hb9 hst
          rw [hx] at hw1 hst HWW
          have s1 : 2 ^ b < 65536 := Nat.lt_of_le_of_lt (Nat.pow_le_pow_right (by decide) hb9) (by decide)
          obtain ⟨P, hP⟩ : ∃ P, 2 ^ b = P := ⟨_, rfl⟩
          rw [hP] at s1 hst
          obtain ⟨N, hN⟩ : ∃ N, tpW T (k + 1) = N := ⟨_, rfl⟩
          rw [hN] at hst
          have HN := hide hN
          have m1 : min b 16 = b := by omega
          have s2 : IntKind.u16.wrap (2 ^ b) = (P : Int) := by rw [← u16_wrap P s1, ← hP]; push_cast; rfl
          have b3 : bits .or .u16 (x : Int) (P : Int) = (N : Int) := by rw [or_u16 (by omega) s1, ← hst]
          have g1 : (0 : Int) ≤ (k : Int) := by omega
          have g2 : (k : Int) < (m : Int) := by omega
          clear hb hx hst hP hN hbv htp hlt' HT1 HTL HTP HW0
          go_wp2
          clear d1
          have HH1 := hide (show Blk wr.drew (w.heap.size + 2) 55 (wrA WX x top) from HWW.out)
          have hHeld := HH1.out
          refine UpTo.start (z := 6) (S := fun w' => Blk w' (w.heap.size + 2) 55 (wrA WX x top)) (by kernel_rfl) ?_
          refine UpTo.take (i := 0) 36 (v := .pointer (some ⟨w.heap.size + 2, 1, none⟩)) rfl rfl (by kernel_rfl) (by kernel_rfl) (by kernel_rfl) (by kernel_rfl) (fun _ _ _ h => h) hHeld (Or.inl ⟨by rfl, by intro w hSw; go_simp⟩) ?_
          try simp only [Act.put, List.setIfInBounds_toArray, List.set_cons_zero, List.set_cons_succ]
          refine UpTo.take (i := 1) 37 (v := .int .u16 (x : Int)) rfl rfl (by kernel_rfl) (by kernel_rfl) (by kernel_rfl) (by kernel_rfl) (fun _ _ _ h => h) hHeld (Or.inl ⟨by rfl, by intro w1 hSw; have q := hSw.cell 1; go_simp⟩) ?_
          try simp only [Act.put, List.setIfInBounds_toArray, List.set_cons_zero, List.set_cons_succ]
          refine UpTo.take (i := 2) 38 (v := .int .i64 (b : Int)) rfl rfl (by kernel_rfl) (by kernel_rfl) (by kernel_rfl) (by kernel_rfl) (fun _ _ _ h => h) hHeld (Or.inl ⟨by rfl, by intro w hSw; go_simp⟩) ?_
          try simp only [Act.put, List.setIfInBounds_toArray, List.set_cons_zero, List.set_cons_succ]
          refine UpTo.take (i := 3) 39 (v := .int .u16 (P : Int)) rfl rfl (by kernel_rfl) (by kernel_rfl) (by kernel_rfl) (by kernel_rfl) (fun _ _ _ h => h) hHeld (Or.inl ⟨by rfl, by intro w hSw; go_simp⟩) ?_
          try simp only [Act.put, List.setIfInBounds_toArray, List.set_cons_zero, List.set_cons_succ]
          refine UpTo.take (i := 4) 40 (v := .int .u16 (N : Int)) rfl rfl (by kernel_rfl) (by kernel_rfl) (by kernel_rfl) (by kernel_rfl) (fun _ _ _ h => h) hHeld (Or.inl ⟨by rfl, by intro w hSw; go_simp⟩) ?_
          try simp only [Act.put, List.setIfInBounds_toArray, List.set_cons_zero, List.set_cons_succ]
          obtain ⟨v1, hv1⟩ : ∃ W, wr.drew = W := ⟨_, rfl⟩
          have HV := hide (show Blk v1 (w.heap.size + 2) 55 (wrA WX x top) ∧ Blk v1 (w.heap.size + 1) 55 (wrA 0 0 0) ∧ Blk v1 w.heap.size 24 #[.int .i64 ((top : Int) + 1), .slice (some ⟨b1, o1, none⟩) m c1, .slice A2 (top + 1) c2] ∧ Below w.heap.size w v1 from hv1 ▸ ⟨HWW.out, HRR.out, HXX.out, below_drewN HBE.out 1⟩)
          rw [hv1] at HH1 hHeld ⊢
          clear hv1
          refine UpTo.next (i := 5) (by kernel_rfl) rfl (fun K hK => ?_)
          go_simp
          refine hK.out _ _ (fun _ => HH1.out) ?_
          clear hK K
          try simp only [Act.put, List.setIfInBounds_toArray, List.set_cons_zero, List.set_cons_succ]
          have u0 := HH1.out.cell 1
          have f0 := HH1.out.frozen 1
          refine UpTo.next (i := 6) (by kernel_rfl) rfl (fun K hK => ?_)
          go_simp
          refine hK.out _ _ (fun h => absurd rfl h) ?_
          clear hK K
          refine UpTo.done (by kernel_rfl) ?_ _
          go_wp2
          go_roundw
          case rel =>
            have r1 : Blk (v1.setCell ⟨w.heap.size + 1 + 1, 1, none⟩ (.int .u16 (N : Int))) (w.heap.size + 2) 55 (wrA WX (tpW T (k + 1)) top) := by rw [HN.out]; exact HH1.out.set_ 1 _
            have r2 := HV.out.2.1.far (p := ⟨w.heap.size + 1 + 1, 1, none⟩) (by show w.heap.size + 1 ≠ w.heap.size + 1 + 1; omega) (.int .u16 (N : Int))
            have r3 := HV.out.2.2.1.far (p := ⟨w.heap.size + 1 + 1, 1, none⟩) (by show w.heap.size ≠ w.heap.size + 1 + 1; omega) (.int .u16 (N : Int))
            have r4 := HV.out.2.2.2.setCell (p := ⟨w.heap.size + 1 + 1, 1, none⟩) (by show w.heap.size ≤ w.heap.size + 1 + 1; omega) (.int .u16 (N : Int))
            (repeat apply Exists.intro)
            exact ⟨⟨k + 1, by omega, by go_num, r1, r2, r3, r4⟩, rfl⟩
          case measure => simp [intOf]; omega
        · obtain rfl : k = m := by omega
          rw [HTX.out] at HWW
          clear HTX HTL HT1
          have e0 := HWW.out.cell 0
          have e1 := HWW.out.cell 1
          have e2 := HWW.out.cell 2
          go_wp2_with (first
            | (refine wpList_store_row rfl 55 (.tmp 2) (.tmp 43) rfl (w.heap.size + 1) (wrA WX TX top) rfl rfl 55 (wrA 0 0 0) HRR.out (by kernel_rfl) rfl (by simp [Value.oneCell']) ?_))
          exact bodyPost_ret (results_cell_row rfl _ _ (w.heap.size + 1) 55 (wrA WX TX top) (0, 0) _ rfl (HRR.out.row _) Try.underlying55 rfl (by kernel_rfl)) rfl ⟨rfl, Below.row HBE.out (by omega) _⟩
end Go.Proofs.Ytehcmhblppjalaa
