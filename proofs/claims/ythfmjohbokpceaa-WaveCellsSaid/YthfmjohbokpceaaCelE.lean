import Derived.Test.YthfmjohbokpceaaCelD
import Derived.Test.YthfmjohbokpceaaWvY
namespace Go.Proofs.Ythfmjohbokpceaa
open Go.RowKit Go.WideShapes Go.ChangeShapes

/-! the identity at a place, and at all places: the reference -/
def rst (g : Nat → Int) (k : Nat) : Nat × Int := if k = 0 then (0, 0) else bst g k
theorem rst_zero (g : Nat → Int) : rst g 0 = (0, 0) := rfl
theorem rst_one (g : Nat → Int) : rst g 1 = (0, g 0) := by
  show bst g 1 = (0, g 0)
  unfold bst
  split
  · rfl
  · rfl
theorem rst_succ (g : Nat → Int) (k : Nat) : rst g (k + 1 + 1) = if (rst g (k + 1)).2 < g (k + 1) then (k + 1, g (k + 1)) else rst g (k + 1) := rfl
theorem innS_congr {l l' : List Int} (m : List Int) : ∀ k : Nat, (∀ i, i < k → l[i]?.getD 0 = l'[i]?.getD 0) → innS l m k = innS l' m k
  | 0, _ => rfl
  | k + 1, h => by unfold innS; rw [innS_congr m k (fun i hi => h i (by omega)), h k (by omega)]
set_option maxRecDepth 100000 in
set_option maxHeartbeats 8000000 in
theorem best_ref (B : Option Addr) (cx : Nat) (xs : List Int) (w : World) (count fr step : Nat) (f : Nat → List Int) (h0 : 0 < count) (hx : xs.length = 31) (hB : Sl w B (iv xs)) (hb : ∀ x ∈ xs, -100000 ≤ x ∧ x ≤ 100000)
    (hlen : ∀ j, (f j).length = 31) (hf1 : ∀ j, ∀ x ∈ f j, -1 ≤ x ∧ x ≤ 1) (hfr : fr + 31 ≤ 62) (hst : ∀ n, n < count → step * n < 1008) (hsc : step * count ≤ 1008) (hc : count ≤ 1008) (hf : ∀ n, n < count → ∀ i, i < 31 → (seqL (step * n))[fr + i]?.getD 0 = (f n)[i]?.getD 0) :
    Calls Try.prog 159 #[.slice B 31 cx, .int .i64 (count : Int), .int .i64 (fr : Int), .int .i64 (step : Int)] w fun e w' => e = .returned (.tuple #[.int .i64 ((bst (fun j => innS (f j) xs 31) count).1 : Int), .int .i64 (bst (fun j => innS (f j) xs 31) count).2]) ∧ Below w.heap.size w w' := by
  have HST0 := hide (stay_sl hB)
  have HRES := hide (show rst (fun j => innS (f j) xs 31) count = bst (fun j => innS (f j) xs 31) count from if_neg (by omega))
  have HBD := hide (fun j => innS_bd (B := 100000) (by omega) (hf1 j) hb)
  have HX := hide (fun i (hi : i < xs.length) => hb _ (List.getElem_mem hi))
  have HXL := hide hx
  have HSQ := hide hst
  have HF := hide hf
  have HF1 := hide hf1
  have HFL := hide hlen
  have hcast : ∀ n : Nat, n < count → (step : Int) * (n : Int) = ((step * n : Nat) : Int) := fun n _ => by push_cast; rfl
  have HCAST := hide hcast
  rw [← HRES.out]
  obtain ⟨G, hG⟩ : ∃ G : Nat → Int, G = fun j => innS (f j) xs 31 := ⟨_, rfl⟩
  have HG := hide (show ∀ j, innS (f j) xs 31 = G j from fun j => by rw [hG])
  rw [← hG]
  clear hB hb hf hf1 hlen hx hst hG HRES hcast
  go_enter Try.func159, Try.ntmps159
  go_wp2
  go_loopw [10, 11, 12] (fun a m i wr => ∃ k : Nat, k ≤ count ∧ i = .int .i64 k ∧ a = .int .i64 ((rst G k).1 : Int) ∧ m = .int .i64 (rst G k).2 ∧ Below w.heap.size w wr) (fun _ _ i _ => count - (intOf i).toNat)
  case atStart => exact ⟨0, Nat.zero_le _, rfl, rfl, rfl, Below.refl _ _⟩
  case round =>
    obtain ⟨k, hk, rfl, rfl, rfl, hbel⟩ := hrel
    by_cases hlt : k < count
    · have hsn := HSQ.out k hlt
      have HSN := hide (fun W => SequenceOf_ref (step * k) hsn W)
      have hwm : IntKind.i64.wrap ((step : Int) * (k : Int)) = ((step * k : Nat) : Int) := by rw [HCAST.out k hlt]; exact IntWalk.i64_in _ (by omega)
      have HFK := hide (HF.out k hlt)
      have HBEL := hide hbel
      obtain ⟨P, hP⟩ : ∃ P, rst G k = P := ⟨_, rfl⟩
      have HP := hide hP
      simp only [hP]
      clear hP hsn hbel
      go_wp2_with (go_at_call 45; go_must (refine (HSN.out _).mono ?_; rintro e w2 ⟨C, k2, rfl, ho, hb⟩; have b2 := hide (Below.step HBEL.out hb); have S2 := hide (Sl.of_own ho); clear ho hb; simp only []))
      have S1 := hide (HST0.out.step b2.out).now
      clear hwm HSN
      go_loopw [14, 15] (fun s i wr => ∃ j : Nat, j ≤ 31 ∧ i = .int .i64 j ∧ s = .int .i64 (innS (f k) xs j) ∧ ∃ q, wr = w2.drewN q) (fun _ i _ => 31 - (intOf i).toNat)
      case atStart => exact ⟨0, Nat.zero_le _, rfl, rfl, 0, rfl⟩
      case round =>
        obtain ⟨j, hj, rfl, rfl, q, rfl⟩ := hrel
        by_cases hjt : j < 31
        · have hd : decide ((j : Int) < 31) = true := by rw [decide_eq_true_iff]; omega
          have hk1 : fr + j < (seqL (step * k)).length := by rw [seqL_len]; omega
          have hk2 : j < xs.length := by rw [HXL.out]; exact hjt
          obtain ⟨b, off, rfl, c0⟩ := S2.out.int hk1
          obtain ⟨b', off', rfl, c1⟩ := S1.out.int hk2
          have hfk := HFK.out j hjt
          have hfl : j < (f k).length := by rw [HFL.out]; exact hjt
          have hst : innS (f k) xs (j + 1) = innS (f k) xs j + (seqL (step * k))[fr + j] * xs[j] := by
            show innS (f k) xs j + ((f k)[j]?.getD 0) * (xs[j]?.getD 0) = _
            rw [← hfk, List.getElem?_eq_getElem hk1, List.getElem?_eq_getElem hk2]; rfl
          have hyb : -1 ≤ (seqL (step * k))[fr + j] ∧ (seqL (step * k))[fr + j] ≤ 1 := seqL_bd _ _ (List.getElem_mem hk1)
          have hzb := HX.out j hk2
          obtain ⟨b1, b3⟩ := HBD.out k j
          obtain ⟨s, hs⟩ : ∃ s, innS (f k) xs j = s := ⟨_, rfl⟩
          rw [hs] at b1 b3 hst
          obtain ⟨y, hy⟩ : ∃ y, (seqL (step * k))[fr + j] = y := ⟨_, rfl⟩
          obtain ⟨z, hz⟩ : ∃ z, xs[j] = z := ⟨_, rfl⟩
          rw [hy] at c0 hyb hst
          rw [hz] at c1 hzb hst
          obtain ⟨q1, q2⟩ := mul_le_size hyb.1 hyb.2 hzb.1 hzb.2
          have HSTP := hide hst
          have w0 : IntKind.i64.wrap ((fr : Int) + (j : Int)) = (fr : Int) + (j : Int) := IntWalk.i64_in _ (by omega)
          have w1 : IntKind.i64.wrap (y * z) = y * z := IntWalk.i64_in _ (by omega)
          have w3 : IntKind.i64.wrap (s + y * z) = s + y * z := IntWalk.i64_in _ (by omega)
          have t1 : ((fr : Int) + (j : Int)).toNat = fr + j := by omega
          have g1 : (0 : Int) ≤ (j : Int) := by omega
          have g2 : (j : Int) < 31 := by omega
          have g3 : (0 : Int) ≤ (fr : Int) + (j : Int) := by omega
          have g4 : (fr : Int) + (j : Int) < 62 := by omega
          rw [hs]
          clear hst hs b1 b3 q1 q2 hy hz hk1 hk2 hyb hzb hfk hfl
          go_wp2
          go_quiet (fail)
          go_wp2
          go_roundw
          case rel => exact ⟨j + 1, by omega, by go_num, by rw [HSTP.out], ⟨_, rfl⟩⟩
          case measure => simp [intOf]; omega
        · have hd : decide ((j : Int) < 31) = false := by rw [decide_eq_false_iff_not]; omega
          obtain rfl : j = 31 := by omega
          obtain ⟨g, hg⟩ : ∃ g, innS (f k) xs 31 = g := ⟨_, rfl⟩
          have HGK := hide ((HG.out k).symm.trans hg)
          rw [hg]
          clear hg
          have HB4 := hide (below_drewN b2.out q)
          by_cases hk0 : k = 0
          · subst hk0
            have HP2 := hide (show rst G (0 + 1) = (0, g) by rw [rst_one, HGK.out])
            go_wp2
            go_roundw
            case rel => exact ⟨0 + 1, by omega, by go_num, by rw [HP2.out], by rw [HP2.out], HB4.out⟩
            case measure => simp [intOf]; omega
          · obtain ⟨k', rfl⟩ : ∃ k', k = k' + 1 := ⟨k - 1, by omega⟩
            have hkz : ((((k' + 1 : Nat) : Int)) == 0) = false := by rw [beq_eq_false_iff_ne]; omega
            have hkz' : (((k' : Int) + 1) == 0) = false := by rw [beq_eq_false_iff_ne]; omega
            by_cases hgt : P.2 < g
            · have HP2 := hide (show rst G (k' + 1 + 1) = (k' + 1, g) by rw [rst_succ, HGK.out, HP.out, if_pos hgt])
              go_wp2
              go_roundw
              case rel => exact ⟨k' + 1 + 1, by omega, by go_num, by rw [HP2.out], by rw [HP2.out], HB4.out⟩
              case measure => simp [intOf]; omega
            · have HP2 := hide (show rst G (k' + 1 + 1) = P by rw [rst_succ, HGK.out, HP.out, if_neg hgt])
              have hle : g ≤ P.2 := by omega
              go_wp2
              go_roundw
              case rel => exact ⟨k' + 1 + 1, by omega, by go_num, by rw [HP2.out], by rw [HP2.out], HB4.out⟩
              case measure => simp [intOf]; omega
    · obtain rfl : k = count := by omega
      go_wp2
      go_ret2
      exact ⟨rfl, hbel⟩
end Go.Proofs.Ythfmjohbokpceaa
