import Derived.Test.YtamkannjdbodpaaLargA
import Derived.Test.YtamkannjdbodpaaGainLaw
import Derived.Test.YtamkannjdbodpaaEqs
import Derived.Test.YtamkannjdbodpaaBeamE
namespace Go.Proofs.Ytamkannjdbodpaa
open Go.RowKit Go.WideShapes Go.ChangeShapes

theorem steer_chk : ∀ n, n < 9 → 0 < n → ∀ s, s < 8 → (chk (steerL ((s : Nat) : Int) 1 n)).2 = 0 := by decide +kernel
theorem le_pq {x : Q4} (h : x.le 8) : (-1000 ≤ x.P ∧ x.P ≤ 1000) ∧ -1000 ≤ x.Q ∧ x.Q ≤ 1000 := by
  unfold Q4.le at h
  obtain ⟨a1, a2, a3, a4, a5, a6, a7, a8⟩ := h
  have aa := mul_bd a1 a2 a1 a2
  have bb := mul_bd a3 a4 a3 a4
  have cc := mul_bd a5 a6 a5 a6
  have dd := mul_bd a7 a8 a7 a8
  have ab := mul_bd a1 a2 a3 a4
  have bc := mul_bd a3 a4 a5 a6
  have cd := mul_bd a5 a6 a7 a8
  have da := mul_bd a7 a8 a1 a2
  have e : x.d * -x.a = -(x.d * x.a) := Int.mul_neg _ _
  unfold Q4.P Q4.Q
  rw [e]
  omega
theorem sumN_bd (f : Int → Int) (h : ∀ d, -1000 ≤ f d ∧ f d ≤ 1000) : ∀ n : Nat, -1000 * (n : Int) ≤ sumN f n ∧ sumN f n ≤ 1000 * n
  | 0 => by simp [sumN]
  | n + 1 => by have := sumN_bd f h n; have := h n; simp only [sumN]; omega

theorem checkBeam_long (A : Option Addr) (c n : Nat) (w : World) (hn : 8 < n) :
    Calls Try.prog 23 #[.agg #[.slice A n c]] w fun x w' => x = .returned (.tuple #[.int .i64 0, .int .i64 8]) ∧ Below w.heap.size w w' := by
  have h0 : ((n : Int) == 0) = false := by rw [beq_eq_false_iff_ne]; omega
  go_enter Try.func23, Try.ntmps23
  go_wp2
  go_ret2
  exact ⟨rfl, by go_grown⟩
theorem beamErr_any (A : Option Addr) (c : Nat) (l : List Int) (w : World) (hs : Sl w A (iv l)) :
    Calls Try.prog 28 #[.agg #[.slice A l.length c]] w fun x w' => x = .returned (.int .i64 (chk l).2) ∧ Below w.heap.size w w' := by
  rcases Nat.lt_or_ge 8 l.length with h | h
  · have e : (chk l).2 = 8 := by unfold chk; rw [if_neg (by omega), if_pos h]
    rw [e]
    clear e hs
    go_enter Try.func28, Try.ntmps28
    go_wp2_with (go_at_call 23; go_must (refine (checkBeam_long A c _ _ h).mono ?_; rintro e w1 ⟨rfl, hb1⟩; have b1 : Below w.heap.size w w1 := Below.step (by go_grown) hb1; clear hb1; try simp only []))
    go_ret
    exact ⟨rfl, by go_grown⟩
  · exact beamErr_ref A c l w hs (by omega)
theorem gainOf_len (A : Option Addr) (c : Nat) (l : List Int) (n : Nat) (step : Int) (w : World) (hn : l.length = n) (hs : Sl w A (iv l)) (hl : n ≤ 1000000) :
    Calls Try.prog 30 #[.agg #[.slice A n c], .int .i64 step] w fun e w' => e = .returned (.tuple #[.agg #[.int .i64 (respR l step).P, .int .i64 (respR l step).Q], .int .i64 (gainE l step)]) ∧ Below w.heap.size w w' := by
  subst hn
  exact gainOf_beam A c l step w hs hl
theorem BeamNoMore_A (A : Option Addr) (c : Nat) (l : List Int) (step : Int) (w : World) (hs : Sl w A (iv l)) (h : (chk l).2 ≠ 0) :
    Calls Try.prog 4 #[.agg #[.slice A l.length c], .int .i64 step] w fun e w' => e = .returned (.bool true) ∧ Below w.heap.size w w' := by
  have HS := hide hs; clear hs
  have hq : ((chk l).2 != 0) = true := by simp [h]
  clear h
  go_enter Try.func4, Try.ntmps4
  go_wp2_with (first
    | (go_at_call 18; go_must (refine (awake_ok _).mono ?_; rintro e w1 ⟨rfl, hb1⟩; have b1 : Below w.heap.size w w1 := Below.step (by go_grown) hb1; obtain ⟨hc1, hf1, y10⟩ := bloc1 w hb1 (by first | omega | (simp; done) | (simp; omega)); clear hb1; simp only []))
    | (go_at_call 28; go_must (refine (beamErr_any A c l _ (HS.out.bel (by go_grown))).mono ?_; rintro e w2 ⟨rfl, hb2⟩; have b2 : Below w.heap.size w w2 := Below.step (by go_grown) hb2; obtain ⟨hc2, hf2, y20⟩ := bloc1 w hb2 (by first | omega | (simp; done) | (simp; omega)); clear hb2; simp only [])))
  go_ret
  exact ⟨rfl, by go_grown⟩
theorem BeamNoMore_B (A : Option Addr) (c : Nat) (l : List Int) (step : Int) (w : World) (hs : Sl w A (iv l)) (hl : l.length ≤ 1000000) (h : (chk l).2 = 0) (hst : withinB step 0 7 = false) :
    Calls Try.prog 4 #[.agg #[.slice A l.length c], .int .i64 step] w fun e w' => e = .returned (.bool true) ∧ Below w.heap.size w w' := by
  have HS := hide hs; clear hs
  have H := hide h; clear h
  have hS := hide (show unlessE (withinB step 0 7) 2 = 2 by rw [hst]; rfl)
  clear hst
  go_enter Try.func4, Try.ntmps4
  go_wp2_with (first
    | (go_at_call 18; go_must (refine (awake_ok _).mono ?_; rintro e w1 ⟨rfl, hb1⟩; have b1 : Below w.heap.size w w1 := Below.step (by go_grown) hb1; obtain ⟨hc1, hf1, y10⟩ := bloc1 w hb1 (by first | omega | (simp; done) | (simp; omega)); clear hb1; simp only []))
    | (go_at_call 28; go_must (refine (beamErr_ref A c l _ (HS.out.bel (by go_grown)) hl).mono ?_; rintro e w2 ⟨rfl, hb2⟩; rw [H.out]; have b2 : Below w.heap.size w w2 := Below.step (by go_grown) hb2; obtain ⟨hc2, hf2, y20⟩ := bloc1 w hb2 (by first | omega | (simp; done) | (simp; omega)); clear hb2; try simp only []))
    | (go_at_call 25; refine (stepErr_ref _ _).mono ?_; rintro e w' ⟨rfl, rfl⟩; rw [hS.out]; simp only []))
  go_ret
  exact ⟨rfl, by go_grown⟩

set_option maxRecDepth 100000 in
set_option maxHeartbeats 4000000 in
theorem BeamNoMore_C (A : Option Addr) (c : Nat) (l : List Int) (step : Int) (w : World) (hs : Sl w A (iv l)) (h : (chk l).2 = 0) (hst : withinB step 0 7 = true) :
    Calls Try.prog 4 #[.agg #[.slice A l.length c], .int .i64 step] w fun e w' => e = .returned (.bool true) ∧ Below w.heap.size w w' := by
  have HS := hide hs; clear hs
  obtain ⟨hl0, hl8, hok, hon⟩ := chk_ok l h
  have hon8 := (onC_bd l).2
  obtain ⟨s0, s7⟩ : 0 ≤ step ∧ step ≤ 7 := by simpa [withinB] using hst
  have hS := hide (show unlessE (withinB step 0 7) 2 = 0 by rw [hst]; rfl)
  have hR := hide (show ∀ d : Int, 0 ≤ d → d ≤ 7 → gainE l d = 0 ∧ respR l d = resp l d from fun d d0 d7 => by
    have e : gainE l d = 0 := by unfold gainE; rw [h, show withinB d 0 7 = true by simp [withinB]; omega]; rfl
    exact ⟨e, if_pos e⟩)
  have hle := hide (fun d : Int => le_pq ((respS_le d (onUpto l l.length)).mono (m' := 8) (by have := onUpto_len l l.length; omega)))
  have hle2 : Hid (∀ d : Int, (-1000 ≤ (resp l d).P ∧ (resp l d).P ≤ 1000) ∧ -1000 ≤ (resp l d).Q ∧ (resp l d).Q ≤ 1000) := hle
  have hsm := hide (gains_sum l hok hl8)
  have hsg := hide (fun d => gain_sgn l hok (by omega) d)
  have hnn : 1 ≤ onC l * onC l ∧ onC l * onC l ≤ 64 := by
    have h1 : 1 * 1 ≤ onC l * onC l := Int.mul_le_mul (by omega) (by omega) (by omega) (by omega)
    have h2 : onC l * onC l ≤ 8 * 8 := Int.mul_le_mul (by omega) (by omega) (by omega) (by omega)
    omega
  obtain ⟨N, hN⟩ : ∃ N, onC l = N := ⟨_, rfl⟩
  rw [hN] at hsm hsg hnn hon hon8
  have HN := hide hN
  have H := hide h
  have hstE := hide (show steE (l.length : Int) step = 0 by unfold steE; rw [hst, show withinB (l.length : Int) 1 8 = true by simp [withinB]; omega]; rfl)
  obtain ⟨s, rfl⟩ := Int.eq_ofNat_of_zero_le s0
  have hsc := steer_chk l.length (by omega) (by omega) s (by omega)
  have hsgE : gainE (steerL (s : Int) 1 l.length) (s : Int) = 0 := by unfold gainE; rw [hsc, hst]; rfl
  have hsgR : respR (steerL (s : Int) 1 l.length) (s : Int) = resp (steerL (s : Int) 1 l.length) (s : Int) := if_pos hsgE
  have hsgG := steer_gain l.length (by omega) s (by omega)
  have HSG := hide (show gainE (steerL (s : Int) 1 l.length) (s : Int) = 0 ∧ (respR (steerL (s : Int) 1 l.length) (s : Int)).P = (l.length : Int) * l.length ∧ (respR (steerL (s : Int) 1 l.length) (s : Int)).Q = 0 from ⟨hsgE, by rw [hsgR]; exact hsgG.1, by rw [hsgR]; exact hsgG.2⟩)
  obtain ⟨n1, n2⟩ := hnn
  have hll : 1 ≤ (l.length : Int) * l.length ∧ (l.length : Int) * l.length ≤ 64 := by
    have h1 : 1 * 1 ≤ (l.length : Int) * l.length := Int.mul_le_mul (by omega) (by omega) (by omega) (by omega)
    have h2 : (l.length : Int) * l.length ≤ 8 * 8 := Int.mul_le_mul (by omega) (by omega) (by omega) (by omega)
    omega
  obtain ⟨l1, l2⟩ := hll
  have hq2 : ∀ w, (binOp .eql 42 (.agg #[.int .i64 ((l.length : Int) * l.length), .int .i64 0]) (.agg #[.int .i64 ((l.length : Int) * l.length), .int .i64 0])).run Try.prog w = .ok (.bool true) w := fun w => (sq_eql _ _ _ _ w).trans (by simp)
  clear hok hN h hst hle hsc hsgE hsgR hsgG s0
  go_enter Try.func4, Try.ntmps4
  go_wp2_with (first
    | (go_at_call 18; go_must (refine (awake_ok _).mono ?_; rintro e w1 ⟨rfl, hb1⟩; have b1 : Below w.heap.size w w1 := Below.step (by go_grown) hb1; obtain ⟨hc1, hf1, y10⟩ := bloc1 w hb1 (by first | omega | (simp; done) | (simp; omega)); clear hb1; simp only []))
    | (go_at_call 28; go_must (refine (beamErr_ref A c l _ (HS.out.bel (by go_grown)) (by omega)).mono ?_; rintro e w2 ⟨rfl, hb2⟩; rw [H.out]; have b2 : Below w.heap.size w w2 := Below.step (by go_grown) hb2; obtain ⟨hc2, hf2, y20⟩ := bloc1 w hb2 (by first | omega | (simp; done) | (simp; omega)); clear hb2; try simp only []))
    | (go_at_call 25; refine (stepErr_ref _ _).mono ?_; rintro e w' ⟨rfl, rfl⟩; rw [hS.out]; simp only [])
    | (go_at_call 29; go_must (refine (on_ref A c l _ (HS.out.bel (by go_grown)) (by omega)).mono ?_; rintro e w3 ⟨rfl, hb3⟩; rw [HN.out]; have b3 : Below w.heap.size w w3 := Below.step (by go_grown) hb3; obtain ⟨hc3, hf3, y30⟩ := bloc1 w hb3 (by first | omega | (simp; done) | (simp; omega)); clear hb3; try simp only [])))
  have hc30 : w3.cell? ⟨w.heap.size, 0, none⟩ = some (.slice A l.length c) := by simp [go_sem, *]
  clear hc1 hc2 hc3 hf1 hf2 hf3
  go_loopw [6, 7, 8] (fun p q i wr => ∃ k : Nat, k ≤ 8 ∧ i = .int .i64 k ∧ p = .int .i64 (sumN (fun d => (resp l d).P) k) ∧ q = .int .i64 (sumN (fun d => (resp l d).Q) k) ∧ wr.cell? ⟨w.heap.size, 0, none⟩ = some (.slice A l.length c) ∧ w.heap.size < wr.heap.size ∧ Below w.heap.size w wr) (fun _ _ i _ => 8 - (intOf i).toNat)
  case atStart => exact ⟨0, by omega, rfl, rfl, rfl, hc30, y30, b3⟩
  case round =>
    obtain ⟨k, hk, rfl, rfl, rfl, d0, y0, hbel⟩ := hrel
    have p1 := sumN_bd (fun d => (resp l d).P) (fun d => (hle2.out d).1) k
    have q1 := sumN_bd (fun d => (resp l d).Q) (fun d => (hle2.out d).2) k
    by_cases hlt : k < 8
    · obtain ⟨⟨pp1, pp2⟩, pq1, pq2⟩ := hle2.out (k : Int)
      have hsB : sqB (resp l (k : Int)).P (resp l (k : Int)).Q = true := by simp [sqB, withinB]; omega
      have hsN : sqB (N * N) 0 = true := by simp [sqB, withinB]; omega
      have hg := hsg.out (k : Int)
      rw [Int.sub_zero] at hg
      have hRk := hide (hR.out (k : Int) (by omega) (by omega))
      have hps := hide (show sumN (fun d => (resp l d).P) (k + 1) = sumN (fun d => (resp l d).P) k + (resp l (k : Int)).P from rfl)
      have hqs := hide (show sumN (fun d => (resp l d).Q) (k + 1) = sumN (fun d => (resp l d).Q) k + (resp l (k : Int)).Q from rfl)
      obtain ⟨SP, hSP⟩ : ∃ SP, sumN (fun d => (resp l d).P) k = SP := ⟨_, rfl⟩
      obtain ⟨SQ, hSQ⟩ : ∃ SQ, sumN (fun d => (resp l d).Q) k = SQ := ⟨_, rfl⟩
      rw [hSP] at hps p1 ⊢
      rw [hSQ] at hqs q1 ⊢
      clear hSP hSQ
      obtain ⟨X, hX⟩ : ∃ X, resp l (k : Int) = X := ⟨_, rfl⟩
      rw [hX] at pp1 pp2 pq1 pq2 hsB hg hRk hps hqs
      clear hX
      have HSB := hide hsB; clear hsB
      have HSN := hide hsN; clear hsN
      have hu := hide (show unlessE (sqB X.P X.Q) 2 = 0 by rw [HSB.out]; rfl)
      go_wp2_with (first
        | (go_at_call 21; go_must (refine (copy_ref A c l _ (HS.out.bel (by go_grown)) (by omega)).mono ?_; rintro e w4 ⟨A4, c4, rfl, hs4, hb4⟩; have HS4 := hide hs4; clear hs4; have b4 : Below w.heap.size w w4 := Below.step (by go_grown) hb4; obtain ⟨hc4, hf4, y40⟩ := bloc1 w hb4 (by first | omega | (simp; done) | (simp; omega)); clear hb4; try simp only []))
        | (go_at_call 30; go_must (refine (gainOf_beam A4 c4 l k _ HS4.out (by omega)).mono ?_; rintro e w5 ⟨rfl, hb5⟩; rw [hRk.out.1, hRk.out.2]; have b5 : Below w.heap.size w w5 := Below.step (by go_grown) hb5; obtain ⟨hc5, hf5, y50⟩ := bloc1 w hb5 (by first | omega | (simp; done) | (simp; omega)); clear hb5; try simp only []))
        | (go_at_call 31; go_must (refine (squareErr_ref X.P X.Q _).mono ?_; rintro e w6 ⟨rfl, hb6⟩; rw [hu.out]; have b6 : Below w.heap.size w w6 := Below.step (by go_grown) hb6; obtain ⟨hc6, hf6, y60⟩ := bloc1 w hb6 (by first | omega | (simp; done) | (simp; omega)); obtain ⟨hc65, hf65, y65⟩ := bloc1 w5 hb6 (by first | omega | (simp; done) | (simp; omega)); clear hb6; try simp only []))
        | (go_at_call 32; go_must (refine (larger_ok X.P X.Q (N * N) 0 HSB.out HSN.out _).mono ?_; rintro e w7 ⟨rfl, hb7⟩; have b7 : Below w.heap.size w w7 := Below.step (by go_grown) hb7; obtain ⟨hc7, hf7, y70⟩ := bloc1 w hb7 (by first | omega | (simp; done) | (simp; omega)); obtain ⟨hc75, hf75, y75⟩ := bloc1 w5 hb7 (by first | omega | (simp; done) | (simp; omega)); clear hb7; try simp only [])))
      go_quiet (fail)
      go_wp2
      go_roundw
      case rel => exact ⟨k + 1, by omega, by go_num, by rw [hps.out], by rw [hqs.out], by simp [go_sem, *], by simp [go_sem, *], by first | exact below_drewN b7 _ | go_grown⟩
      case measure => simp [intOf]; omega
    · obtain rfl : k = 8 := by omega
      rw [hsm.out.1, hsm.out.2]
      clear p1 q1
      go_wp2_with (first
        | (go_at_call 22; go_must (refine (Steering_ok l.length s _ hstE.out).mono ?_; rw [Int.toNat_natCast]; rintro e w5 ⟨A5, c5, rfl, ho5, hb5⟩; rw [OwnI, steerL_len] at ho5; have HS5 := hide (Sl.of_own ho5); clear ho5; have b5 : Below w.heap.size w w5 := Below.step hbel hb5; obtain ⟨hc5, hf5, y50⟩ := bloc1 w hb5 (by first | omega | (simp; done) | (simp; omega)); clear hb5; try simp only []))
        | (go_at_call 30; go_must (refine (gainOf_len A5 c5 (steerL s 1 l.length) l.length s _ (steerL_len _ _ _) (HS5.out.bel (by go_grown)) (by omega)).mono ?_; rintro e w6 ⟨rfl, hb6⟩; rw [HSG.out.1, HSG.out.2.1, HSG.out.2.2]; have b65 : Below w5.heap.size w5 w6 := Below.step (by go_grown) hb6; have b6 : Below w.heap.size w w6 := Below.step b5 b65; obtain ⟨hc6, hf6, y60⟩ := bloc1 w hb6 (by first | omega | (simp; done) | (simp; omega)); clear hb6; try simp only [])))
      go_ret
      exact ⟨rfl, by go_grown⟩

theorem BeamNoMore_law (A : Option Addr) (c : Nat) (l : List Int) (step : Int) (w : World) (hs : Sl w A (iv l)) :
    Calls Try.prog 4 #[.agg #[.slice A l.length c], .int .i64 step] w fun e w' => e = .returned (.bool true) ∧ Below w.heap.size w w' := by
  by_cases hc : (chk l).2 = 0
  · cases hst : withinB step 0 7
    · exact BeamNoMore_B A c l step w hs (by have := chk_ok l hc; omega) hc hst
    · exact BeamNoMore_C A c l step w hs hc hst
  · exact BeamNoMore_A A c l step w hs hc
end Go.Proofs.Ytamkannjdbodpaa
