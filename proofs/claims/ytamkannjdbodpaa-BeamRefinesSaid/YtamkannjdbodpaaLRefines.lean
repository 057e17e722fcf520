import Derived.Test.YtamkannjdbodpaaRSame
import Derived.Test.YtamkannjdbodpaaLNoMore
namespace Go.Proofs.Ytamkannjdbodpaa
open Go.RowKit Go.WideShapes Go.ChangeShapes

theorem Sl.of_rows {w : World} {base n c size : Nat} {e : TypeId} {A : Option Addr} {xs : List Value} (h : w.ownsRow base e size (.slice A n c) n xs) : Sl w A xs := by
  intro k hk
  have hl : k < n * size := by have := h.1; omega
  have hn : 0 < n := by rcases Nat.eq_zero_or_pos n with h0 | h0
                        · subst h0; simp at hl
                        · exact h0
  obtain ⟨g, cap, hv, _, _⟩ := h.form hn
  injection hv with hA h2 h3
  subst hA h3
  refine ⟨g, 0, rfl, ?_⟩
  rw [Nat.zero_add]
  exact (h.cellAt k hl).trans (List.getElem?_eq_getElem hk)
theorem looksAt_len (step : Int) : (looksAt step 3).length = 6 := by simp [looksAt]
theorem looksAt_8 (step : Int) : ∀ s, ∀ x ∈ looksAt step s, x.l.length = 8
  | 0, x, h => by simp [looksAt] at h
  | s + 1, x, h => by
    simp only [looksAt, List.mem_append, List.mem_cons, List.not_mem_nil, or_false] at h
    rcases h with h | rfl | rfl
    · exact looksAt_8 step s x h
    · exact steerL_len _ _ _
    · exact steerL_len _ _ _
theorem sameLooks_n (A B : Option Addr) (c c' n : Nat) (xs ys : List Value) (L : List Look) (base base' : Nat) (w : World) (hn : L.length = n) (hs : Sl w A xs) (hs' : Sl w B ys) (hx : LooksAt w base xs L) (hy : LooksAt w base' ys L) (hl : n ≤ 100) (hll : ∀ i (h : i < L.length), L[i].l.length = 8) :
    Calls Try.prog 36 #[.slice A n c, .slice B n c'] w fun e w' => e = .returned (.bool true) ∧ ∃ n, w' = w.drewN n := by
  subst hn
  exact sameLooks_ref A B c c' xs ys L base base' w hs hs' hx hy hl hll
theorem others_less : ∀ s, s < 8 → ∀ d, d < 8 → d ≠ s → 0 < sgnPQ (64 - (resp (steerL ((d : Nat) : Int) 1 8) ((s : Nat) : Int)).P) (0 - (resp (steerL ((d : Nat) : Int) 1 8) ((s : Nat) : Int)).Q) := by decide +kernel

theorem refined_bad (step : Int) (w : World) (h : withinB step 0 7 = false) :
    Calls Try.prog 34 #[.int .i64 step] w fun e w' => e = .returned (.tuple #[.slice none 0 0, .int .i64 0, .int .i64 2]) ∧ Below w.heap.size w w' := by
  have hS := hide (show unlessE (withinB step 0 7) 2 = 2 by rw [h]; rfl)
  clear h
  go_enter Try.func34, Try.ntmps34
  go_wp2_with (go_at_call 101; refine (stepErr_beam _ _).mono ?_; rintro e w' ⟨rfl, rfl⟩; rw [hS.out]; simp only [])
  refine bodyPost_ret (v := .tuple #[.slice none 0 0, .int .i64 0, .int .i64 2]) (by simp [results, Try.results34, go_sem]) rfl ⟨rfl, by go_grown⟩

theorem BeamRefines_A (step : Int) (w : World) (h : withinB step 0 7 = false) :
    Calls Try.prog 6 #[.int .i64 step] w fun e w' => e = .returned (.bool true) ∧ Below w.heap.size w w' := by
  have hS := hide (show unlessE (withinB step 0 7) 2 = 2 by rw [h]; rfl)
  have H := hide h
  clear h
  go_enter Try.func6, Try.ntmps6
  go_wp2_with (first
    | (go_at_call 18; go_must (refine (awake_ok _).mono ?_; rintro e w1 ⟨rfl, hb1⟩; have b1 : Below w.heap.size w w1 := Below.step (by go_grown) hb1; clear hb1; simp only []))
    | (go_at_call 34; go_must (refine (refined_bad step _ H.out).mono ?_; rintro e w2 ⟨rfl, hb2⟩; have b2 : Below w.heap.size w w2 := Below.step (by go_grown) hb2; clear hb2; simp only []))
    | (go_at_call 25; refine (stepErr_ref _ _).mono ?_; rintro e w' ⟨rfl, rfl⟩; rw [hS.out]; simp only []))
  go_ret
  exact ⟨rfl, by go_grown⟩

set_option maxRecDepth 100000 in
set_option maxHeartbeats 4000000 in
theorem BeamRefines_B (s : Nat) (w : World) (h : s < 8) :
    Calls Try.prog 6 #[.int .i64 s] w fun e w' => e = .returned (.bool true) ∧ Below w.heap.size w w' := by
  have hst : withinB (s : Int) 0 7 = true := by simp [withinB]; omega
  have hS := hide (show unlessE (withinB (s : Int) 0 7) 2 = 0 by rw [hst]; rfl)
  have hE := hide (show ∀ d : Nat, d < 8 → steE 8 (d : Int) = 0 from fun d hd => by unfold steE; rw [show withinB (d : Int) 0 7 = true by simp [withinB]; omega]; rfl)
  have hG := hide (show ∀ d : Nat, d < 8 → gainE (steerL (d : Int) 1 8) (s : Int) = 0 ∧ respR (steerL (d : Int) 1 8) (s : Int) = resp (steerL (d : Int) 1 8) (s : Int) from fun d hd => by
    have e : gainE (steerL (d : Int) 1 8) (s : Int) = 0 := by unfold gainE; rw [steer_chk 8 (by omega) (by omega) d hd, hst]; rfl
    exact ⟨e, if_pos e⟩)
  have hP : (resp (steerL (s : Int) 1 8) (s : Int)).P = 64 ∧ (resp (steerL (s : Int) 1 8) (s : Int)).Q = 0 := steer_gain 8 (by omega) s h
  have HP := hide hP
  have HO := hide (fun d => others_less s h d)
  have hsB := hide (show sqB 64 0 = true by decide)
  clear hst hP
  go_enter Try.func6, Try.ntmps6
  go_wp2_with (first
    | (go_at_call 18; go_must (refine (awake_ok _).mono ?_; rintro e w1 ⟨rfl, hb1⟩; have b1 : Below w.heap.size w w1 := Below.step (by go_grown) hb1; clear hb1; simp only []))
    | (go_at_call 34; go_must (refine (refined_ok s _ (by omega) (by omega)).mono ?_; rintro e w2 ⟨A2, c2, xs2, rfl, ho2, hl2, hb2⟩; have b2 : Below w.heap.size w w2 := Below.step (by go_grown) hb2; have S2 := hide (Sl.of_rows ho2); have L2 := hide hl2; clear hb2 ho2 hl2; simp only []))
    | (go_at_call 25; refine (stepErr_ref _ _).mono ?_; rintro e w' ⟨rfl, rfl⟩; rw [hS.out]; simp only [])
    | (go_at_call 35; go_must (refine (refined_ref s _ (by omega) (by omega)).mono ?_; rintro e w3 ⟨A3, c3, xs3, rfl, ho3, hl3, hb3⟩; have b3 : Below w.heap.size w w3 := Below.step (by go_grown) hb3; have S3 := hide (Sl.of_rows ho3); have L3 := hide hl3; have S23 := hide (S2.out.bel hb3); have L23 := hide (L2.out.bel hb3); clear hb3 ho3 hl3; simp only []))
    | (go_at_call 36; go_must (refine (sameLooks_n A2 A3 c2 c3 6 xs2 xs3 (looksAt s 3) _ _ _ (looksAt_len _) S23.out S3.out L23.out L3.out (by omega) (fun i hi => looksAt_8 _ _ _ (List.getElem_mem hi))).mono ?_; rintro e w4 ⟨rfl, n4, rfl⟩; have b4 := below_drewN b3 n4; simp only []))
    | (go_at_call 22; go_must (refine (Steering_ok 8 s _ (hE.out s h)).mono ?_; rw [show (8 : Int).toNat = 8 from rfl]; rintro e w5 ⟨A5, c5, rfl, ho5, hb5⟩; rw [OwnI, steerL_len] at ho5; have S5 := hide (Sl.of_own ho5); have b5 : Below w.heap.size w w5 := Below.step b4 hb5; clear ho5 hb5; simp only []))
    | (go_at_call 30; go_must (refine (gainOf_len A5 c5 (steerL s 1 8) 8 s _ (steerL_len _ _ _) (S5.out.bel (by go_grown)) (by omega)).mono ?_; rw [(hG.out s h).1, (hG.out s h).2, HP.out.1, HP.out.2]; rintro e w6 ⟨rfl, hb6⟩; have b6 : Below w.heap.size w w6 := Below.step (b5.alloc b5.size _) hb6; clear hb6; simp only [])))
  have y6 := b6.size
  go_loopw [13] (fun i wr => ∃ d : Nat, d ≤ 8 ∧ i = .int .i64 d ∧ wr.cell? ⟨w6.heap.size, 0, none⟩ = some (.int .i64 64) ∧ wr.cell? ⟨w6.heap.size, 1, none⟩ = some (.int .i64 0) ∧ w6.heap.size < wr.heap.size ∧ Below w.heap.size w wr) (fun i _ => 8 - (intOf i).toNat)
  case atStart => exact ⟨0, by omega, rfl, by simp [go_sem], by simp [go_sem], by simp, b6.alloc b6.size _⟩
  case round =>
    obtain ⟨d, hd, rfl, d0, d1, yr, hbel⟩ := hrel
    by_cases hlt : d < 8
    · have hEd := hide (hE.out d hlt)
      have hGd := hide (hG.out d hlt)
      have hpq := le_pq ((respS_le (s : Int) (onUpto (steerL (d : Int) 1 8) (steerL (d : Int) 1 8).length)).mono (m' := 8) (by have := onUpto_len (steerL (d : Int) 1 8) (steerL (d : Int) 1 8).length; rw [steerL_len] at this ⊢; omega))
      have hpq2 : (-1000 ≤ (resp (steerL (d : Int) 1 8) (s : Int)).P ∧ (resp (steerL (d : Int) 1 8) (s : Int)).P ≤ 1000) ∧ -1000 ≤ (resp (steerL (d : Int) 1 8) (s : Int)).Q ∧ (resp (steerL (d : Int) 1 8) (s : Int)).Q ≤ 1000 := hpq
      clear hpq
      have hlar := HO.out d hlt
      obtain ⟨X, hX⟩ : ∃ X, resp (steerL (d : Int) 1 8) (s : Int) = X := ⟨_, rfl⟩
      rw [hX] at hGd hpq2 hlar
      clear hX
      have hsX := hide (show sqB X.P X.Q = true by simp [sqB, withinB]; omega)
      obtain ⟨sg, hsg⟩ : ∃ sg, sgnPQ (64 - X.P) (0 - X.Q) = sg := ⟨_, rfl⟩
      rw [hsg] at hlar
      have HSG := hide hsg
      clear hsg hpq2
      rcases (by by_cases e : d = s
                 · exact .inl e
                 · exact .inr ⟨e, hlar e⟩ : (d = s) ∨ (d ≠ s ∧ 0 < sg)) with e | ⟨e, hpos⟩
      all_goals
        first | have hds : ((d : Int) != s) = false := by simp [e] | have hds : ((d : Int) != s) = true := by simp; omega
        have HE' := hide e
        clear e hlar
        go_wp2_with (first
          | (go_at_call 22; go_must (refine (Steering_ok 8 d _ hEd.out).mono ?_; rw [show (8 : Int).toNat = 8 from rfl]; rintro e v1 ⟨A5, c5, rfl, ho5, hb5⟩; rw [OwnI, steerL_len] at ho5; have S5 := hide (Sl.of_own ho5); have c1 : Below w.heap.size w v1 := Below.step hbel hb5; have yc1 := c1.size; obtain ⟨hc1, hf1, y1⟩ := bloc1 w6 hb5 (by first | omega | (simp; done) | (simp; omega)); clear ho5 hb5; simp only []))
          | (go_at_call 30; go_must (refine (gainOf_len A5 c5 (steerL d 1 8) 8 s _ (steerL_len _ _ _) (S5.out.bel (by go_grown)) (by omega)).mono ?_; rw [hGd.out.1, hGd.out.2]; rintro e v2 ⟨rfl, hb6⟩; have c2 : Below w.heap.size w v2 := Below.step (c1.alloc c1.size _) hb6; have yc2 := c2.size; obtain ⟨hc2, hf2, y2⟩ := bloc1 w6 hb6 (by first | omega | (simp; done) | (simp; omega)); clear hb6; simp only []))
          | (go_at_call 32; go_must (refine (larger_ok 64 0 X.P X.Q hsB.out hsX.out _).mono ?_; rw [HSG.out]; rintro e v3 ⟨rfl, hb7⟩; have c3 : Below w.heap.size w v3 := Below.step (c2.alloc c2.size _) hb7; obtain ⟨hc3, hf3, y3⟩ := bloc1 w6 hb7 (by first | omega | (simp; done) | (simp; omega)); clear hb7; simp only [])))
        go_roundw
        case rel => exact ⟨d + 1, by omega, by go_num, by simp [go_sem, *], by simp [go_sem, *], y3, c3⟩
        case measure => simp [intOf]; omega
    · obtain rfl : d = 8 := by omega
      go_wp2
      go_ret
      exact ⟨rfl, hbel⟩
theorem BeamRefines_law (step : Int) (w : World) :
    Calls Try.prog 6 #[.int .i64 step] w fun e w' => e = .returned (.bool true) ∧ Below w.heap.size w w' := by
  rcases Bool.eq_false_or_eq_true (withinB step 0 7) with h | h
  · have h2 : 0 ≤ step ∧ step ≤ 7 := by simpa [withinB] using h
    obtain ⟨s, rfl⟩ := Int.eq_ofNat_of_zero_le h2.1
    exact BeamRefines_B s w (by omega)
  · exact BeamRefines_A step w h
end Go.Proofs.Ytamkannjdbodpaa
