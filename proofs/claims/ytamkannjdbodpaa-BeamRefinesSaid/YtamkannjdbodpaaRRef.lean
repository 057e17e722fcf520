import Derived.Test.YtamkannjdbodpaaRLook
import Derived.Test.YtamkannjdbodpaaLargB
namespace Go.Proofs.Ytamkannjdbodpaa
open Go.RowKit Go.WideShapes Go.ChangeShapes

def mulAt : Nat → Int
  | 0 => 4
  | 1 => 2
  | 2 => 1
  | _ => 0

set_option maxRecDepth 100000 in
set_option maxHeartbeats 4000000 in
theorem refined_ref (step : Int) (w : World) (h0 : 0 ≤ step) (h7 : step ≤ 7) :
    Calls Try.prog 35 #[.int .i64 step] w fun e w' => ∃ A c xs, e = .returned (.tuple #[.slice A 6 c, .int .i64 step]) ∧ w'.ownsRow w.heap.size 150 3 (.slice A 6 c) 6 xs ∧ LooksAt w' w.heap.size xs (looksAt step 3) ∧ Below w.heap.size w w' := by
  obtain ⟨i0, hi0, hz0, hz1, hz2⟩ := info_parts look_info
  have HE := hide (looks_end step h0 h7)
  go_enter Try.func35, Try.ntmps35
  go_wp2
  go_loopw [4, 5, 6, 7] (fun o kk mo mu wr => ∃ (s n : Nat) (A : Option Addr) (c : Nat) (xs : List Value), s ≤ 3 ∧ n = 2 * s ∧ mu = .int .i64 (mulAt s) ∧ mo = .int .i64 (2 ^ s) ∧ kk = .int .i64 (kAt step s) ∧ o = .slice A n c ∧ wr.ownsRow w.heap.size 150 3 (.slice A n c) n xs ∧ LooksAt wr w.heap.size xs (looksAt step s) ∧ Below w.heap.size w wr) (fun _ _ _ mu _ => (intOf mu).toNat)
  case atStart => exact ⟨0, 0, none, 0, [], by omega, rfl, rfl, rfl, rfl, rfl, World.ownsRow_nil _ _ _ _, trivial, by go_grown⟩
  case round =>
    obtain ⟨s, n, A, c, xs, hs, hn, rfl, rfl, rfl, rfl, hown, hlk, hbel⟩ := hrel
    have hkb := kAt_bd step s hs
    by_cases hlt : s < 3
    · have hm : (mulAt s = 4 ∨ mulAt s = 2 ∨ mulAt s = 1) ∧ (mulAt s).tdiv 2 = mulAt (s + 1) ∧ mulAt (s + 1) < mulAt s ∧ 0 ≤ mulAt (s + 1) ∧ (2 : Int) ^ (2 - s) = mulAt s ∧ (1 ≤ (2 : Int) ^ s ∧ (2 : Int) ^ s ≤ 4) ∧ (2 : Int) * 2 ^ s = 2 ^ (s + 1) := by
        rcases (by omega : s = 0 ∨ s = 1 ∨ s = 2) with rfl | rfl | rfl <;> decide
      obtain ⟨hm1, hm2, hm3, hm4, hm5, ⟨hm6, hm7⟩, hm8⟩ := hm
      have hlook : lookOf (2 ^ (2 - s)) = lookOf (mulAt s) := by rw [hm5]
      have hkS : kAt step (s + 1) = if 0 < sgnPQ ((lookOf (2 ^ (2 - s)) (kAt step s + 2 ^ s) step).P - (lookOf (2 ^ (2 - s)) (kAt step s) step).P) ((lookOf (2 ^ (2 - s)) (kAt step s + 2 ^ s) step).Q - (lookOf (2 ^ (2 - s)) (kAt step s) step).Q) then kAt step s + 2 ^ s else kAt step s := rfl
      have hLS : looksAt step (s + 1) = looksAt step s ++ [lookOf (2 ^ (2 - s)) (kAt step s) step, lookOf (2 ^ (2 - s)) (kAt step s + 2 ^ s) step] := rfl
      rw [hlook] at hkS hLS
      have HMN := hide hm2
      have HMO := hide hm8
      clear hlook hm5
      obtain ⟨kv, hkv⟩ : ∃ kv, kAt step s = kv := ⟨_, rfl⟩
      obtain ⟨mo, hmo⟩ : ∃ mo : Int, (2 : Int) ^ s = mo := ⟨_, rfl⟩
      obtain ⟨mu, hmu⟩ : ∃ mu, mulAt s = mu := ⟨_, rfl⟩
      obtain ⟨mn, hmn⟩ : ∃ mn, mulAt (s + 1) = mn := ⟨_, rfl⟩
      rw [hkv, hmo] at hkb hkS hLS
      rw [hmu] at hm1 hm2 hm3 hkS hLS
      rw [hmo] at hm6 hm7 hm8
      rw [hmn] at hm2 hm3 hm4
      rw [hkv, hmo, hmu]
      have KS := hide hkS; clear hkS
      have LS := hide hLS; clear hLS
      have HMNE := hide hmn
      have HM8 := hide hm8
      clear hkv hmo hmu hmn hm8 HMN HMO
      have hmu4 : 1 ≤ mu ∧ mu ≤ 4 := by omega
      obtain ⟨mu1, mu4⟩ := hmu4
      obtain ⟨kb0, kb1⟩ := hkb
      have hbz := hbel.size
      obtain ⟨⟨q1, q2⟩, q3, q4⟩ := resp8_pq kv mu step
      obtain ⟨⟨q5, q6⟩, q7, q8⟩ := resp8_pq (kv + mo) mu step
      have hl1 : lookOf mu kv step = ⟨steerL kv mu 8, (resp (steerL kv mu 8) step).P, (resp (steerL kv mu 8) step).Q⟩ := rfl
      have hl2 : lookOf mu (kv + mo) step = ⟨steerL (kv + mo) mu 8, (resp (steerL (kv + mo) mu 8) step).P, (resp (steerL (kv + mo) mu 8) step).Q⟩ := rfl
      obtain ⟨P1, hP1⟩ : ∃ P1, (resp (steerL kv mu 8) step).P = P1 := ⟨_, rfl⟩
      obtain ⟨Q1, hQ1⟩ : ∃ Q1, (resp (steerL kv mu 8) step).Q = Q1 := ⟨_, rfl⟩
      obtain ⟨P2, hP2⟩ : ∃ P2, (resp (steerL (kv + mo) mu 8) step).P = P2 := ⟨_, rfl⟩
      obtain ⟨Q2, hQ2⟩ : ∃ Q2, (resp (steerL (kv + mo) mu 8) step).Q = Q2 := ⟨_, rfl⟩
      rw [hP1, hQ1] at hl1
      rw [hP2, hQ2] at hl2
      rw [hP1] at q1 q2
      rw [hQ1] at q3 q4
      rw [hP2] at q5 q6
      rw [hQ2] at q7 q8
      have HV := hide (And.intro hP1 (And.intro hQ1 (And.intro hP2 hQ2)))
      have HL1 := hide hl1
      have HL2 := hide hl2
      clear hP1 hQ1 hP2 hQ2 hl1 hl2
      have hsq1 := hide (show sqB P1 Q1 = true by simp [sqB, withinB]; omega)
      have hsq2 := hide (show sqB P2 Q2 = true by simp [sqB, withinB]; omega)
      obtain ⟨sg, hsg⟩ : ∃ sg, sgnPQ (P2 - P1) (Q2 - Q1) = sg := ⟨_, rfl⟩
      have HSG := hide hsg; clear hsg
      cases hgt : decide (0 < sg)
      all_goals
        go_wp2_with fail
        refine (look_ref mu kv step _ hm1 (by omega) (by omega) h0 h7).mono ?_
        rintro e v1 ⟨A1, c1, rfl, ho1, hb1⟩
        rw [HV.out.1, HV.out.2.1]
        have b1 : Below w.heap.size w v1 := Below.step hbel hb1
        have hown1 := own_bel hown hb1
        have hlk1 := hlk.bel hb1
        have r1 := ho1.weaken (base' := w.heap.size) (by first | omega | (simp; done) | (simp; omega))
        clear hb1 ho1
        simp only []
        go_wp2_with fail
        refine (look_ref mu (kv + mo) step _ hm1 (by omega) (by omega) h0 h7).mono ?_
        rintro e v2 ⟨A2, c2, rfl, ho2, hb2⟩
        rw [HV.out.2.2.1, HV.out.2.2.2]
        have b2 : Below w.heap.size w v2 := Below.step b1 hb2
        have hown2 := own_bel hown1 hb2
        have hlk2 := hide (hlk1.bel hb2)
        have r12 := hide (own_bel r1 hb2)
        have b2z := b2.size
        have r2 := hide (ho2.weaken (base' := w.heap.size) (by have := b1.size; omega))
        clear hb2 ho2 hlk1 r1 hown1
        simp only []
        have T1 := hide ((Blk.new v2 150 #[.slice A1 8 c1, .int .i64 P1, .int .i64 Q1]).alloc (.cells #[.slice A2 8 c2, .int .i64 P2, .int .i64 Q2] 150))
        have T2 := Blk.new (v2.alloc (.cells #[.slice A1 8 c1, .int .i64 P1, .int .i64 Q1] 150)) 150 #[.slice A2 8 c2, .int .i64 P2, .int .i64 Q2]
        have T3 := Blk.new ((v2.alloc (.cells #[.slice A1 8 c1, .int .i64 P1, .int .i64 Q1] 150)).alloc (.cells #[.slice A2 8 c2, .int .i64 P2, .int .i64 Q2] 150)) 150 #[.slice A1 8 c1, .int .i64 P1, .int .i64 Q1, .slice A2 8 c2, .int .i64 P2, .int .i64 Q2]
        simp only [World.size_alloc] at T2 T3
        have HT2 := hide T2; clear T2
        have HT3 := hide T3; clear T3
        have HOWN2 := hide hown2
        clear hown hlk
        go_wp2_with (first
          | (at_builtin; go_must (
              refine wpList_append_own _ rfl _ _ 50 rfl w.heap.size 150 i0 _ 3 40 Try.underlying50 hi0 hz0 hz1 hz2 rfl (by decide) (.slice A n c) n xs ?_ (((HOWN2.out.alloc _).alloc _).alloc _) ⟨v2.heap.size + 1 + 1, 0, none⟩ 2 2 [.slice A1 8 c1, .int .i64 P1, .int .i64 Q1, .slice A2 8 c2, .int .i64 P2, .int .i64 Q2] ?_ ?_ ?_ ?_ ?_ ?_ ?_ ?_
              · rfl
              · rfl
              · rfl
              · exact World.news_of_block HT3.out
              · intro u hu; simp only [List.mem_cons, List.not_mem_nil, or_false] at hu; rcases hu with rfl | rfl | rfl | rfl | rfl | rfl <;> rfl
              · simp only [maxLen]; omega
              · omega
              · simp; omega
              intro v' w1 hown' hgrow _
              obtain ⟨An, cn, rfl⟩ := own_form hown'
              have hneq : ∀ j, j = v2.heap.size ∨ j = v2.heap.size + 1 → some j ≠ (Value.slice A n c).ownBlock := fun j hj e => by have := (HOWN2.out.lt j e.symm).2; omega
              have U1 := (T1.out.alloc (.cells #[.slice A1 8 c1, .int .i64 P1, .int .i64 Q1, .slice A2 8 c2, .int .i64 P2, .int .i64 Q2] 150)).grown hgrow (hneq _ (.inl rfl))
              have U2 := (HT2.out.alloc (.cells #[.slice A1 8 c1, .int .i64 P1, .int .i64 Q1, .slice A2 8 c2, .int .i64 P2, .int .i64 Q2] 150)).grown hgrow (hneq _ (.inr rfl))
              have b3 : Below w.heap.size w w1 := Below.app' (((b2.alloc b2.size _).alloc (by have := b2.size; simp; omega) _).alloc (by have := b2.size; simp; omega) _) (((HOWN2.out.alloc _).alloc _).alloc _) hgrow
              have i0 : w1.cell? ⟨v2.heap.size, 1, none⟩ = some (.int .i64 P1) := U1.cell 1
              have i1 : w1.cell? ⟨v2.heap.size, 2, none⟩ = some (.int .i64 Q1) := U1.cell 2
              have i2 : w1.cell? ⟨v2.heap.size + 1, 1, none⟩ = some (.int .i64 P2) := U2.cell 1
              have i3 : w1.cell? ⟨v2.heap.size + 1, 2, none⟩ = some (.int .i64 Q2) := U2.cell 2
              have z1 := U1.lt
              have z2 := U2.lt
              have HNEW := hide hown'
              have HG := hide hgrow
              clear hown' U1 U2 hneq hgrow))
          | (go_at_call 33; go_must (refine (larger_ref P2 Q2 P1 Q1 hsq2.out hsq1.out _).mono ?_; rw [HSG.out]; rintro e v4 ⟨rfl, hb4⟩; have b4 : Below w.heap.size w v4 := Below.step b3 hb4; have NEW4 := hide (own_bel HNEW.out hb4); have HB4 := hide hb4; clear hb4; simp only [])))
        go_roundw
        case rel =>
          have hgrow := HG.out
          have keep : ∀ (u : Value) (m : Nat) (zs : List Value), v2.ownsRow w.heap.size 3 1 u m zs → w1.ownsRow w.heap.size 3 1 u m zs := fun u m zs h => by
            have h3 := ((h.alloc (.cells #[.slice A1 8 c1, .int .i64 P1, .int .i64 Q1] 150)).alloc (.cells #[.slice A2 8 c2, .int .i64 P2, .int .i64 Q2] 150)).alloc (.cells #[.slice A1 8 c1, .int .i64 P1, .int .i64 Q1, .slice A2 8 c2, .int .i64 P2, .int .i64 Q2] 150)
            exact World.ownsRow.kept h3 hgrow (rows_ne h3 (((HOWN2.out.alloc _).alloc _).alloc _) (by decide))
          have LK4 := ((hlk2.out.append ((LooksAt.one (l := steerL kv mu 8) (P := P1) (Q := Q1) (by simpa [steerL_len] using r12.out)).append (LooksAt.one (l := steerL (kv + mo) mu 8) (P := P2) (Q := Q2) (by simpa [steerL_len] using r2.out)))).imp keep).bel HB4.out
          refine ⟨s + 1, 2 * s + 2, An, cn, _, by omega, by omega, by rw [HMNE.out], by rw [HM8.out], ?_, rfl, (by have h5 := NEW4.out; rw [hn] at h5; exact h5), ?_, b4⟩
          · rw [KS.out, HL1.out, HL2.out]
            simp only [HSG.out]
            simp only [decide_eq_true_eq, decide_eq_false_iff_not] at hgt
            first | rw [if_pos hgt] | rw [if_neg hgt]
          · rw [LS.out, HL1.out, HL2.out]
            simpa [steerL_len] using LK4
        case measure => simp [intOf]; omega
    · obtain rfl : s = 3 := by omega
      obtain rfl : n = 6 := hn
      have hz : mulAt 3 = 0 := rfl
      rw [hz]
      clear hz
      go_wp2
      go_ret2
      exact ⟨A, c, xs, by rw [HE.out]; rfl, hown, hlk, hbel⟩
end Go.Proofs.Ytamkannjdbodpaa
