import Derived.Test.YthfmjohbokpceaaWvX
namespace Go.Proofs.Ythfmjohbokpceaa
open Go.RowKit Go.WideShapes Go.ChangeShapes

/-! received values and correlations: the reference -/
theorem vE_cases (n : Int) : (withinB n (-100000) 100000 = true ∧ vE n = 0) ∨ (withinB n (-100000) 100000 = false ∧ vE n = 2) := by
  unfold vE unlessE; cases withinB n (-100000) 100000 <;> simp
theorem valuesErr_ref (A : Option Addr) (c : Nat) (l : List Int) (w : World) (hs : Sl w A (iv l)) (hl : l.length ≤ 1000000) :
    Calls Try.prog 46 #[.slice A l.length c] w fun e w' => e = .returned (.int .i64 (rcvE l)) ∧ w = w' := by
  have HS := hide hs; clear hs
  unfold rcvE
  by_cases h : 120 < l.length
  · rw [if_pos h]
    go_enter Try.func46, Try.ntmps46
    go_wp2
    go_ret
    exact ⟨rfl, rfl⟩
  · rw [if_neg h]
    have h' : l.length ≤ 120 := by omega
    go_enter Try.func46, Try.ntmps46
    go_wp2
    go_loop [3] (fun i => ∃ k : Nat, k ≤ l.length ∧ i = .int .i64 k ∧ eachE vE l = eachE vE (l.drop k)) (fun i => l.length - (intOf i).toNat)
    case atStart => exact ⟨0, Nat.zero_le _, rfl, by simp⟩
    case round =>
      obtain ⟨k, hk, rfl, he⟩ := hrel
      have HE := hide he; clear he
      by_cases hlt : k < l.length
      · obtain ⟨b, off, rfl, c0⟩ := HS.out.int hlt
        rcases vE_cases l[k] with ⟨hw, h0⟩ | ⟨hw, h0⟩
        · have HH := hide (eachE_skip vE l k hlt h0)
          have HW := hide hw
          clear h0 hw
          go_wp2_with (go_at_call 24; refine (within_base _ _ _ _).mono ?_; rintro e w' ⟨rfl, rfl⟩; rw [HW.out])
          go_round
          case rel => exact ⟨k + 1, by omega, by go_num, by rw [HE.out, HH.out]⟩
          case measure => simp [intOf]; omega
        · have HH := hide (eachE_hit vE l k hlt (by rw [h0]; decide))
          have HW := hide hw
          have H0 := hide h0
          clear h0 hw
          go_wp2_with (go_at_call 24; refine (within_base _ _ _ _).mono ?_; rintro e w' ⟨rfl, rfl⟩; rw [HW.out])
          go_ret
          exact ⟨by rw [HE.out, HH.out, H0.out]; rfl, rfl⟩
      · go_wp2
        go_ret
        exact ⟨by rw [HE.out, List.drop_eq_nil_of_le (by omega)]; rfl, rfl⟩
set_option maxRecDepth 100000 in
set_option maxHeartbeats 2000000 in
theorem CorrelationOf_ref (n : Nat) (hn : n < 1008) (A : Option Addr) (c m : Nat) (x : List Int) (w : World) (hm : x.length = m) (hs : Sl w A (iv x)) (h62 : m = 62) (hr : rcvE x = 0) :
    Calls Try.prog 47 #[.int .i64 (n : Int), .slice A m c] w fun e w' => e = .returned (.int .i64 (innS (seqL n) x 62)) ∧ Below w.heap.size w w' := by
  subst h62
  have HQ := hide (fun W => SequenceOf_ref n hn W)
  obtain ⟨_, hv⟩ := rcvE_ok hr
  have HI := hide (innS_bd (by omega) (seqL_bd n) hv)
  have K1 := hide (fun k (hk : k < 62) => seqL_bd n _ (List.getElem_mem (show k < (seqL n).length by rw [seqL_len]; exact hk)))
  have K2 := hide (fun k (hk : k < x.length) => hv _ (List.getElem_mem hk))
  have HL := hide (seqL_len n)
  have HX := hide hm
  have HST := hide (fun k (hk : k < (seqL n).length) (hk' : k < x.length) => show innS (seqL n) x (k + 1) = innS (seqL n) x k + (seqL n)[k] * x[k] by show innS (seqL n) x k + ((seqL n)[k]?.getD 0) * (x[k]?.getD 0) = _; rw [List.getElem?_eq_getElem hk, List.getElem?_eq_getElem hk']; rfl)
  have HS := hide hs
  clear hs hr hv hm hn
  go_enter Try.func47, Try.ntmps47
  go_wp2_with (go_at_call 45; go_must (refine (HQ.out _).mono ?_; rintro e w2 ⟨C, k2, rfl, ho, hb⟩; have b2 := hide hb; have S2 := hide (Sl.of_own ho); have S1 := hide (HS.out.bel hb); clear ho hb; simp only []))
  go_loopw [6, 7] (fun s i wr => ∃ k : Nat, k ≤ 62 ∧ i = .int .i64 k ∧ s = .int .i64 (innS (seqL n) x k) ∧ ∃ q, wr = w2.drewN q) (fun _ i _ => 62 - (intOf i).toNat)
  case atStart => exact ⟨0, Nat.zero_le _, rfl, rfl, 0, rfl⟩
  case round =>
    obtain ⟨k, hk, rfl, rfl, q, rfl⟩ := hrel
    by_cases hlt : k < 62
    · have hd : decide ((k : Int) < 62) = true := by rw [decide_eq_true_iff]; omega
      have hk1 : k < (seqL n).length := by rw [HL.out]; exact hlt
      have hk2 : k < x.length := by rw [HX.out]; exact hlt
      obtain ⟨b, off, rfl, c0⟩ := S2.out.int hk1
      obtain ⟨b', off', rfl, c1⟩ := S1.out.int hk2
      have hst := HST.out k hk1 hk2
      have hb0 := HI.out k
      have hb1 := HI.out (k + 1)
      rw [hst] at hb1
      obtain ⟨q1, q2⟩ := mul_le_size (K1.out k hlt).1 (K1.out k hlt).2 (K2.out k hk2).1 (K2.out k hk2).2
      obtain ⟨b1, b3⟩ := hb0
      have HSTP := hide hst
      obtain ⟨s, hs⟩ : ∃ s, innS (seqL n) x k = s := ⟨_, rfl⟩
      rw [hs] at b1 b3 HSTP
      obtain ⟨y, hy⟩ : ∃ y, (seqL n)[k] = y := ⟨_, rfl⟩
      obtain ⟨z, hz⟩ : ∃ z, x[k] = z := ⟨_, rfl⟩
      rw [hy] at c0 q1 q2 HSTP
      rw [hz] at c1 q1 q2 HSTP
      have w1 : IntKind.i64.wrap (y * z) = y * z := IntWalk.i64_in _ (by omega)
      have w3 : IntKind.i64.wrap (s + y * z) = s + y * z := IntWalk.i64_in _ (by omega)
      have g1 : (0 : Int) ≤ (k : Int) := by omega
      have g2 : (k : Int) < 62 := by omega
      rw [hs]
      clear hst hb1 hs b1 b3 q1 q2 hy hz hk1 hk2
      go_wp2
      go_quiet (fail)
      go_wp2
      go_roundw
      case rel => exact ⟨k + 1, by omega, by go_num, by rw [HSTP.out], ⟨_, rfl⟩⟩
      case measure => simp [intOf]; omega
    · have hd : decide ((k : Int) < 62) = false := by rw [decide_eq_false_iff_not]; omega
      obtain rfl : k = 62 := by omega
      go_wp2
      go_ret
      exact ⟨rfl, below_drewN b2.out _⟩
end Go.Proofs.Ythfmjohbokpceaa
