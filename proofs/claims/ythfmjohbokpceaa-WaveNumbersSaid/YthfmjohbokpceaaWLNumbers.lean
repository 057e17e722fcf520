import Derived.Test.YthfmjohbokpceaaWvU
import Derived.Test.YthfmjohbokpceaaWvQ
import Derived.Test.YthfmjohbokpceaaStay
namespace Go.Proofs.Ythfmjohbokpceaa
open Go.RowKit Go.WideShapes Go.ChangeShapes

/-! the statement WaveNumbers -/
theorem max_two (c : Int) (h : c = 0 ∨ c = 2) : (if (2 : Int) < c then c else 2) = 2 := by rcases h with rfl | rfl <;> rfl

set_option maxRecDepth 100000 in
set_option maxHeartbeats 8000000 in
theorem WaveNumbers_law (a b : Nm) (n : Int) (w : World) (hn : -9223372036854775808 ≤ n ∧ n ≤ 9223372036854775807) :
    Calls Try.prog 6 #[nv a, nv b, .int .i64 n] w fun e w' => e = .returned (.bool true) ∧ Below w.heap.size w w' := by
  have HIA := hide (fun W => isSmall_ref a W)
  have HIB := hide (fun W => isSmall_ref b W)
  have HIM := hide (fun W => isSmall_ref (nmul a b) W)
  have HEI := hide (fun W => eighthsErr_ref n W)
  have HTu := hide (fun W => turnedE_wave a n W)
  have HPr := hide (fun W => product_wave a b W)
  have hq1 : ∀ (x : Nm) w, (binOp .neq 38 (nv x) (nv x)).run Try.prog w = .ok (.bool false) w := fun x w => (wn_neq x x w).trans (by simp)
  have hq2 : ∀ (x : Nm) w, (binOp .eql 38 (nv x) (nv x)).run Try.prog w = .ok (.bool true) w := fun x w => (wn_eql x x w).trans (by simp)
  have ne0 : w.heap.size + 1 ≠ w.heap.size := by omega
  cases fa : fitsB 1000000000 a
  · have ea : numE a = 2 := by unfold numE; rw [fa]; rfl
    have t1 : trnE a n = 2 := by unfold trnE firstOf; rw [ea]; rfl
    have t2 : trnV a n = n0 := by unfold trnV; rw [t1]; rfl
    have p0 : prdE0 a b = 2 := by unfold prdE0 firstOf; rw [ea]; rfl
    have p1 : prdE a b = 2 := by unfold prdE; rw [p0]; rfl
    have p2 : prdV a b = n0 := by unfold prdV; rw [p1]; rfl
    rw [t1, t2] at HTu
    rw [p1, p2] at HPr
    rw [fa] at HIA
    cases fe : withinB n 0 7
    all_goals
      rw [fe] at HEI
      clear fa fe ea t1 t2 p0 p1 p2
      go_enter Try.func6, Try.ntmps6
      go_wp2_with (first
        | (go_at_call 20; go_must (refine (awake_ok _).mono ?_; rintro e w1 ⟨rfl, hb1⟩; have b1 : Below w.heap.size w w1 := Below.step (by go_grown) hb1; obtain ⟨hc1, hf1, y10, y11⟩ := bloc2 w hb1 (by first | omega | (simp; done) | (simp; omega)); clear hb1; simp only []))
        | (go_at_call 34; go_must (refine (HTu.out _).mono ?_; rintro e w2 ⟨rfl, hb2⟩; have b2 : Below w.heap.size w w2 := Below.step b1 hb2; obtain ⟨hc2, hf2, y20, y21⟩ := bloc2 w hb2 (by first | omega | (simp; done) | (simp; omega)); have HT2 := hide (stay_new w2 38 (ncells n0)); clear hb2; simp only []))
        | (go_at_call 35; go_must (refine (HPr.out _).mono ?_; rintro e w3 ⟨rfl, hb3⟩; have b3 : Below w.heap.size w w3 := Below.step (by go_grown) hb3; obtain ⟨hc3, hf3, y30, y31⟩ := bloc2 w hb3 (by first | omega | (simp; done) | (simp; omega)); have HT3 := hide (((HT2.out.step hb3).alloc (.cells (ncells n0) 38)).and (stay_new w3 38 (ncells n0))); clear hb3; simp only []))
        | (go_at_call 36; go_must (refine (HIA.out _).mono ?_; rintro e w4 ⟨rfl, hb4⟩; have b4 : Below w.heap.size w w4 := Below.step (by go_grown) hb4; obtain ⟨hc4, hf4, y40, y41⟩ := bloc2 w hb4 (by first | omega | (simp; done) | (simp; omega)); have HT4 := hide (HT3.out.step hb4); obtain ⟨z0, z1, z2, z3, _, _, _, _⟩ := HT4.out.now.1.n4; obtain ⟨v0, v1, v2, v3, _, _, _, _⟩ := HT4.out.now.2.n4; clear hb4; simp only []))
        | (go_at_call 37; go_must (refine (HEI.out _).mono ?_; rintro e w' ⟨rfl, rfl⟩; simp only [])))
      go_ret
      exact ⟨rfl, by go_grown⟩
  · have ea : numE a = 0 := by unfold numE; rw [fa]; rfl
    have la : nle 1000000000 a := (fitsB_iff _ _).1 fa
    rw [fa] at HIA
    obtain ⟨X, E, HTX, HEX, hx⟩ : ∃ (X : Nm) (E : Int), Hid (∀ W, Calls Try.prog 34 #[nv a, .int .i64 n] W fun e w' => e = .returned (.tuple #[nv X, .int .i64 E]) ∧ Below W.heap.size W w') ∧
        Hid (∀ W, Calls Try.prog 37 #[.int .i64 n] W fun e w' => e = .returned (.int .i64 E) ∧ W = w') ∧
        ((E = 0 ∧ Hid (∀ W, Calls Try.prog 38 #[nv a, .int .i64 n] W fun e w' => e = .returned (nv X) ∧ Below W.heap.size W w')) ∨ (E = 2 ∧ X = n0)) := by
      cases fe : withinB n 0 7
      · have t1 : trnE a n = 2 := by unfold trnE firstOf; rw [ea, fe]; rfl
        have t2 : trnV a n = n0 := by unfold trnV; rw [t1]; rfl
        rw [t1, t2] at HTu
        rw [fe] at HEI
        exact ⟨n0, 2, HTu, HEI, .inr ⟨rfl, rfl⟩⟩
      · have t1 : trnE a n = 0 := by unfold trnE firstOf; rw [ea, fe]; rfl
        have t2 : trnV a n = tni a n := by unfold trnV; rw [t1]; rfl
        rw [t1, t2] at HTu
        rw [fe] at HEI
        exact ⟨tni a n, 0, HTu, HEI, .inl ⟨rfl, hide (fun W => turn_ref a n W (nle_mono la (by omega)) hn.1 hn.2)⟩⟩
    obtain ⟨Y, F, HPX, hy⟩ : ∃ (Y : Nm) (F : Int), Hid (∀ W, Calls Try.prog 35 #[nv a, nv b] W fun e w' => e = .returned (.tuple #[nv Y, .int .i64 F]) ∧ Below W.heap.size W w') ∧
        ((F = 2 ∧ Y = n0 ∧ Hid (∀ W, Calls Try.prog 36 #[nv b] W fun e w' => e = .returned (.bool false) ∧ Below W.heap.size W w')) ∨
         (Hid (∀ W, Calls Try.prog 36 #[nv b] W fun e w' => e = .returned (.bool true) ∧ Below W.heap.size W w') ∧
           ∃ M : Nm, Hid (∀ W, Calls Try.prog 39 #[nv a, nv b] W fun e w' => e = .returned (nv M) ∧ Below W.heap.size W w') ∧
             ((F = 8 ∧ Y = n0 ∧ Hid (∀ W, Calls Try.prog 36 #[nv M] W fun e w' => e = .returned (.bool false) ∧ Below W.heap.size W w')) ∨
              (F = 0 ∧ Y = M ∧ Hid (∀ W, Calls Try.prog 36 #[nv M] W fun e w' => e = .returned (.bool true) ∧ Below W.heap.size W w'))))) := by
      cases fb : fitsB 1000000000 b
      · have eb : numE b = 2 := by unfold numE; rw [fb]; rfl
        have p0 : prdE0 a b = 2 := by unfold prdE0 firstOf; rw [ea, eb]; rfl
        have p1 : prdE a b = 2 := by unfold prdE; rw [p0]; rfl
        have p2 : prdV a b = n0 := by unfold prdV; rw [p1]; rfl
        rw [p1, p2] at HPr
        rw [fb] at HIB
        exact ⟨n0, 2, HPr, .inl ⟨rfl, rfl, HIB⟩⟩
      · have eb : numE b = 0 := by unfold numE; rw [fb]; rfl
        have p0 : prdE0 a b = 0 := by unfold prdE0 firstOf; rw [ea, eb]; rfl
        have HPP := hide (fun W => product_ref a b W la ((fitsB_iff _ _).1 fb))
        rw [fb] at HIB
        cases fp : fitsB 1000000000 (nmul a b)
        · have p1 : prdE a b = 8 := by unfold prdE; rw [p0, fp]; rfl
          have p2 : prdV a b = n0 := by unfold prdV; rw [p1]; rfl
          rw [p1, p2] at HPr
          rw [fp] at HIM
          exact ⟨n0, 8, HPr, .inr ⟨HIB, nmul a b, HPP, .inl ⟨rfl, rfl, HIM⟩⟩⟩
        · have p1 : prdE a b = 0 := by unfold prdE; rw [p0, fp]; rfl
          have p2 : prdV a b = nmul a b := by unfold prdV; rw [p1]; rfl
          rw [p1, p2] at HPr
          rw [fp] at HIM
          exact ⟨nmul a b, 0, HPr, .inr ⟨HIB, nmul a b, HPP, .inr ⟨rfl, rfl, HIM⟩⟩⟩
    clear fa ea la HTu HPr HEI HIB HIM hn
    rcases hx with ⟨rfl, HTR⟩ | ⟨rfl, rfl⟩
    · rcases hy with ⟨rfl, rfl, HSB⟩ | ⟨HSB, M, HPR, ⟨rfl, rfl, HSM⟩ | ⟨rfl, rfl, HSM⟩⟩
      · go_enter Try.func6, Try.ntmps6
        go_wp2_with (first
          | (go_at_call 20; go_must (refine (awake_ok _).mono ?_; rintro e w1 ⟨rfl, hb1⟩; have b1 : Below w.heap.size w w1 := Below.step (by go_grown) hb1; obtain ⟨hc1, hf1, y10, y11⟩ := bloc2 w hb1 (by first | omega | (simp; done) | (simp; omega)); clear hb1; simp only []))
          | (go_at_call 34; go_must (refine (HTX.out _).mono ?_; rintro e w2 ⟨rfl, hb2⟩; have b2 : Below w.heap.size w w2 := Below.step b1 hb2; obtain ⟨hc2, hf2, y20, y21⟩ := bloc2 w hb2 (by first | omega | (simp; done) | (simp; omega)); have HT2 := hide (stay_new w2 38 (ncells X)); clear hb2; simp only []))
          | (go_at_call 35; go_must (refine (HPX.out _).mono ?_; rintro e w3 ⟨rfl, hb3⟩; have b3 : Below w.heap.size w w3 := Below.step (by go_grown) hb3; obtain ⟨hc3, hf3, y30, y31⟩ := bloc2 w hb3 (by first | omega | (simp; done) | (simp; omega)); have HT3 := hide (((HT2.out.step hb3).alloc (.cells (ncells n0) 38)).and (stay_new w3 38 (ncells n0))); clear hb3; simp only []))
          | (go_at_call 36; go_must (refine (HIA.out _).mono ?_; rintro e w4 ⟨rfl, hb4⟩; have b4 : Below w.heap.size w w4 := Below.step (by go_grown) hb4; obtain ⟨hc4, hf4, y40, y41⟩ := bloc2 w hb4 (by first | omega | (simp; done) | (simp; omega)); have HT4 := hide (HT3.out.step hb4); obtain ⟨z0, z1, z2, z3, _, _, _, _⟩ := HT4.out.now.1.n4; obtain ⟨v0, v1, v2, v3, _, _, _, _⟩ := HT4.out.now.2.n4; clear hb4; simp only []))
          | (go_at_call 37; go_must (refine (HEX.out _).mono ?_; rintro e w' ⟨rfl, rfl⟩; simp only [])))
        go_region_held3 (fun w' => w'.cell? ⟨w2.heap.size, 0, none⟩ = some (.int .i64 X.1) ∧ w'.cell? ⟨w2.heap.size, 1, none⟩ = some (.int .i64 X.2.1) ∧ w'.cell? ⟨w2.heap.size, 2, none⟩ = some (.int .i64 X.2.2.1) ∧ w'.cell? ⟨w2.heap.size, 3, none⟩ = some (.int .i64 X.2.2.2) ∧ w'.cell? ⟨w.heap.size, 0, none⟩ = some (.int .i64 a.1) ∧ w'.cell? ⟨w.heap.size, 1, none⟩ = some (.int .i64 a.2.1) ∧ w'.cell? ⟨w.heap.size, 2, none⟩ = some (.int .i64 a.2.2.1) ∧ w'.cell? ⟨w.heap.size, 3, none⟩ = some (.int .i64 a.2.2.2)) (first | (simp [go_sem]; done) | (simp [go_sem, *]; done) | go_keep)
          (first
            | (go_at_call 38; go_must (refine (HTR.out _).mono ?_; rintro e w5 ⟨rfl, hb5⟩; have b5 : Below w.heap.size w w5 := Below.step (by go_grown) hb5; obtain ⟨hc5, hf5, y50, y51⟩ := bloc2 w hb5 (by first | omega | (simp; done) | (simp; omega)); have HT5 := hide (HT4.out.drew.step hb5); obtain ⟨z4, z5, z6, z7, _, _, _, _⟩ := HT5.out.now.1.n4; obtain ⟨v4, v5, v6, v7, _, _, _, _⟩ := HT5.out.now.2.n4; clear hb5)))
        go_wp2_with (first
          | (go_at_call 36; have qq := b7; go_must (refine (HSM.out _).mono ?_; rintro e w8 ⟨rfl, hb8⟩; have b8 : Below w.heap.size w w8 := Below.step (by go_grown) hb8; obtain ⟨hc8, hf8, y80, y81⟩ := bloc2 w hb8 (by first | omega | (simp; done) | (simp; omega)); have HT8 := hide (HT7.out.step hb8); obtain ⟨s0, s1, s2, s3, _, _, _, _⟩ := HT8.out.now.1.2.n4; obtain ⟨s4, s5, s6, s7, _, _, _, _⟩ := HT8.out.now.2.n4; clear hb8 qq; simp only []))
          | (go_at_call 36; go_must (refine (HSB.out _).mono ?_; rintro e w6 ⟨rfl, hb6⟩; have b6 : Below w.heap.size w w6 := Below.step (by go_grown) hb6; obtain ⟨hc6, hf6, y60, y61⟩ := bloc2 w hb6 (by first | omega | (simp; done) | (simp; omega)); have HT6 := hide (HT5.out.step hb6); obtain ⟨q0, q1, q2, q3, _, _, _, _⟩ := HT6.out.now.2.n4; clear hb6; simp only []))
          | (go_at_call 39; go_must (refine (HPR.out _).mono ?_; rintro e w7 ⟨rfl, hb7⟩; have b7 : Below w.heap.size w w7 := Below.step (by go_grown) hb7; obtain ⟨hc7, hf7, y70, y71⟩ := bloc2 w hb7 (by first | omega | (simp; done) | (simp; omega)); have HT7 := hide (((HT6.out.step hb7).alloc (.cells (ncells M) 38)).and (stay_new w7 38 (ncells M))); clear hb7; simp only [])))
        go_ret
        exact ⟨rfl, by go_grown⟩
      · go_enter Try.func6, Try.ntmps6
        go_wp2_with (first
          | (go_at_call 20; go_must (refine (awake_ok _).mono ?_; rintro e w1 ⟨rfl, hb1⟩; have b1 : Below w.heap.size w w1 := Below.step (by go_grown) hb1; obtain ⟨hc1, hf1, y10, y11⟩ := bloc2 w hb1 (by first | omega | (simp; done) | (simp; omega)); clear hb1; simp only []))
          | (go_at_call 34; go_must (refine (HTX.out _).mono ?_; rintro e w2 ⟨rfl, hb2⟩; have b2 : Below w.heap.size w w2 := Below.step b1 hb2; obtain ⟨hc2, hf2, y20, y21⟩ := bloc2 w hb2 (by first | omega | (simp; done) | (simp; omega)); have HT2 := hide (stay_new w2 38 (ncells X)); clear hb2; simp only []))
          | (go_at_call 35; go_must (refine (HPX.out _).mono ?_; rintro e w3 ⟨rfl, hb3⟩; have b3 : Below w.heap.size w w3 := Below.step (by go_grown) hb3; obtain ⟨hc3, hf3, y30, y31⟩ := bloc2 w hb3 (by first | omega | (simp; done) | (simp; omega)); have HT3 := hide (((HT2.out.step hb3).alloc (.cells (ncells n0) 38)).and (stay_new w3 38 (ncells n0))); clear hb3; simp only []))
          | (go_at_call 36; go_must (refine (HIA.out _).mono ?_; rintro e w4 ⟨rfl, hb4⟩; have b4 : Below w.heap.size w w4 := Below.step (by go_grown) hb4; obtain ⟨hc4, hf4, y40, y41⟩ := bloc2 w hb4 (by first | omega | (simp; done) | (simp; omega)); have HT4 := hide (HT3.out.step hb4); obtain ⟨z0, z1, z2, z3, _, _, _, _⟩ := HT4.out.now.1.n4; obtain ⟨v0, v1, v2, v3, _, _, _, _⟩ := HT4.out.now.2.n4; clear hb4; simp only []))
          | (go_at_call 37; go_must (refine (HEX.out _).mono ?_; rintro e w' ⟨rfl, rfl⟩; simp only [])))
        go_region_held3 (fun w' => w'.cell? ⟨w2.heap.size, 0, none⟩ = some (.int .i64 X.1) ∧ w'.cell? ⟨w2.heap.size, 1, none⟩ = some (.int .i64 X.2.1) ∧ w'.cell? ⟨w2.heap.size, 2, none⟩ = some (.int .i64 X.2.2.1) ∧ w'.cell? ⟨w2.heap.size, 3, none⟩ = some (.int .i64 X.2.2.2) ∧ w'.cell? ⟨w.heap.size, 0, none⟩ = some (.int .i64 a.1) ∧ w'.cell? ⟨w.heap.size, 1, none⟩ = some (.int .i64 a.2.1) ∧ w'.cell? ⟨w.heap.size, 2, none⟩ = some (.int .i64 a.2.2.1) ∧ w'.cell? ⟨w.heap.size, 3, none⟩ = some (.int .i64 a.2.2.2)) (first | (simp [go_sem]; done) | (simp [go_sem, *]; done) | go_keep)
          (first
            | (go_at_call 38; go_must (refine (HTR.out _).mono ?_; rintro e w5 ⟨rfl, hb5⟩; have b5 : Below w.heap.size w w5 := Below.step (by go_grown) hb5; obtain ⟨hc5, hf5, y50, y51⟩ := bloc2 w hb5 (by first | omega | (simp; done) | (simp; omega)); have HT5 := hide (HT4.out.drew.step hb5); obtain ⟨z4, z5, z6, z7, _, _, _, _⟩ := HT5.out.now.1.n4; obtain ⟨v4, v5, v6, v7, _, _, _, _⟩ := HT5.out.now.2.n4; clear hb5)))
        go_wp2_with (first
          | (go_at_call 36; have qq := b7; go_must (refine (HSM.out _).mono ?_; rintro e w8 ⟨rfl, hb8⟩; have b8 : Below w.heap.size w w8 := Below.step (by go_grown) hb8; obtain ⟨hc8, hf8, y80, y81⟩ := bloc2 w hb8 (by first | omega | (simp; done) | (simp; omega)); have HT8 := hide (HT7.out.step hb8); obtain ⟨s0, s1, s2, s3, _, _, _, _⟩ := HT8.out.now.1.2.n4; obtain ⟨s4, s5, s6, s7, _, _, _, _⟩ := HT8.out.now.2.n4; clear hb8 qq; simp only []))
          | (go_at_call 36; go_must (refine (HSB.out _).mono ?_; rintro e w6 ⟨rfl, hb6⟩; have b6 : Below w.heap.size w w6 := Below.step (by go_grown) hb6; obtain ⟨hc6, hf6, y60, y61⟩ := bloc2 w hb6 (by first | omega | (simp; done) | (simp; omega)); have HT6 := hide (HT5.out.step hb6); obtain ⟨q0, q1, q2, q3, _, _, _, _⟩ := HT6.out.now.2.n4; clear hb6; simp only []))
          | (go_at_call 39; go_must (refine (HPR.out _).mono ?_; rintro e w7 ⟨rfl, hb7⟩; have b7 : Below w.heap.size w w7 := Below.step (by go_grown) hb7; obtain ⟨hc7, hf7, y70, y71⟩ := bloc2 w hb7 (by first | omega | (simp; done) | (simp; omega)); have HT7 := hide (((HT6.out.step hb7).alloc (.cells (ncells M) 38)).and (stay_new w7 38 (ncells M))); clear hb7; simp only [])))
        go_ret
        exact ⟨rfl, by go_grown⟩
      · go_enter Try.func6, Try.ntmps6
        go_wp2_with (first
          | (go_at_call 20; go_must (refine (awake_ok _).mono ?_; rintro e w1 ⟨rfl, hb1⟩; have b1 : Below w.heap.size w w1 := Below.step (by go_grown) hb1; obtain ⟨hc1, hf1, y10, y11⟩ := bloc2 w hb1 (by first | omega | (simp; done) | (simp; omega)); clear hb1; simp only []))
          | (go_at_call 34; go_must (refine (HTX.out _).mono ?_; rintro e w2 ⟨rfl, hb2⟩; have b2 : Below w.heap.size w w2 := Below.step b1 hb2; obtain ⟨hc2, hf2, y20, y21⟩ := bloc2 w hb2 (by first | omega | (simp; done) | (simp; omega)); have HT2 := hide (stay_new w2 38 (ncells X)); clear hb2; simp only []))
          | (go_at_call 35; go_must (refine (HPX.out _).mono ?_; rintro e w3 ⟨rfl, hb3⟩; have b3 : Below w.heap.size w w3 := Below.step (by go_grown) hb3; obtain ⟨hc3, hf3, y30, y31⟩ := bloc2 w hb3 (by first | omega | (simp; done) | (simp; omega)); have HT3 := hide (((HT2.out.step hb3).alloc (.cells (ncells Y) 38)).and (stay_new w3 38 (ncells Y))); clear hb3; simp only []))
          | (go_at_call 36; go_must (refine (HIA.out _).mono ?_; rintro e w4 ⟨rfl, hb4⟩; have b4 : Below w.heap.size w w4 := Below.step (by go_grown) hb4; obtain ⟨hc4, hf4, y40, y41⟩ := bloc2 w hb4 (by first | omega | (simp; done) | (simp; omega)); have HT4 := hide (HT3.out.step hb4); obtain ⟨z0, z1, z2, z3, _, _, _, _⟩ := HT4.out.now.1.n4; obtain ⟨v0, v1, v2, v3, _, _, _, _⟩ := HT4.out.now.2.n4; clear hb4; simp only []))
          | (go_at_call 37; go_must (refine (HEX.out _).mono ?_; rintro e w' ⟨rfl, rfl⟩; simp only [])))
        go_region_held3 (fun w' => w'.cell? ⟨w2.heap.size, 0, none⟩ = some (.int .i64 X.1) ∧ w'.cell? ⟨w2.heap.size, 1, none⟩ = some (.int .i64 X.2.1) ∧ w'.cell? ⟨w2.heap.size, 2, none⟩ = some (.int .i64 X.2.2.1) ∧ w'.cell? ⟨w2.heap.size, 3, none⟩ = some (.int .i64 X.2.2.2) ∧ w'.cell? ⟨w.heap.size, 0, none⟩ = some (.int .i64 a.1) ∧ w'.cell? ⟨w.heap.size, 1, none⟩ = some (.int .i64 a.2.1) ∧ w'.cell? ⟨w.heap.size, 2, none⟩ = some (.int .i64 a.2.2.1) ∧ w'.cell? ⟨w.heap.size, 3, none⟩ = some (.int .i64 a.2.2.2)) (first | (simp [go_sem]; done) | (simp [go_sem, *]; done) | go_keep)
          (first
            | (go_at_call 38; go_must (refine (HTR.out _).mono ?_; rintro e w5 ⟨rfl, hb5⟩; have b5 : Below w.heap.size w w5 := Below.step (by go_grown) hb5; obtain ⟨hc5, hf5, y50, y51⟩ := bloc2 w hb5 (by first | omega | (simp; done) | (simp; omega)); have HT5 := hide (HT4.out.drew.step hb5); obtain ⟨z4, z5, z6, z7, _, _, _, _⟩ := HT5.out.now.1.n4; obtain ⟨v4, v5, v6, v7, _, _, _, _⟩ := HT5.out.now.2.n4; clear hb5)))
        go_wp2_with (first
          | (go_at_call 36; have qq := b7; go_must (refine (HSM.out _).mono ?_; rintro e w8 ⟨rfl, hb8⟩; have b8 : Below w.heap.size w w8 := Below.step (by go_grown) hb8; obtain ⟨hc8, hf8, y80, y81⟩ := bloc2 w hb8 (by first | omega | (simp; done) | (simp; omega)); have HT8 := hide (HT7.out.step hb8); obtain ⟨s0, s1, s2, s3, _, _, _, _⟩ := HT8.out.now.1.2.n4; obtain ⟨s4, s5, s6, s7, _, _, _, _⟩ := HT8.out.now.2.n4; clear hb8 qq; simp only []))
          | (go_at_call 36; go_must (refine (HSB.out _).mono ?_; rintro e w6 ⟨rfl, hb6⟩; have b6 : Below w.heap.size w w6 := Below.step (by go_grown) hb6; obtain ⟨hc6, hf6, y60, y61⟩ := bloc2 w hb6 (by first | omega | (simp; done) | (simp; omega)); have HT6 := hide (HT5.out.step hb6); obtain ⟨q0, q1, q2, q3, _, _, _, _⟩ := HT6.out.now.2.n4; clear hb6; simp only []))
          | (go_at_call 39; go_must (refine (HPR.out _).mono ?_; rintro e w7 ⟨rfl, hb7⟩; have b7 : Below w.heap.size w w7 := Below.step (by go_grown) hb7; obtain ⟨hc7, hf7, y70, y71⟩ := bloc2 w hb7 (by first | omega | (simp; done) | (simp; omega)); have HT7 := hide (((HT6.out.step hb7).alloc (.cells (ncells Y) 38)).and (stay_new w7 38 (ncells Y))); clear hb7; simp only [])))
        go_ret
        exact ⟨rfl, by go_grown⟩
    · rcases hy with ⟨rfl, rfl, HSB⟩ | ⟨HSB, M, HPR, ⟨rfl, rfl, HSM⟩ | ⟨rfl, rfl, HSM⟩⟩
      · go_enter Try.func6, Try.ntmps6
        go_wp2_with (first
          | (go_at_call 36; have qq := b7; go_must (refine (HSM.out _).mono ?_; rintro e w8 ⟨rfl, hb8⟩; have b8 : Below w.heap.size w w8 := Below.step (by go_grown) hb8; obtain ⟨hc8, hf8, y80, y81⟩ := bloc2 w hb8 (by first | omega | (simp; done) | (simp; omega)); have HT8 := hide (HT7.out.step hb8); obtain ⟨s0, s1, s2, s3, _, _, _, _⟩ := HT8.out.now.1.2.n4; obtain ⟨s4, s5, s6, s7, _, _, _, _⟩ := HT8.out.now.2.n4; clear hb8 qq; simp only []))
          | (go_at_call 36; have qq := b4; go_must (refine (HSB.out _).mono ?_; rintro e w6 ⟨rfl, hb6⟩; have b6 : Below w.heap.size w w6 := Below.step (by go_grown) hb6; obtain ⟨hc6, hf6, y60, y61⟩ := bloc2 w hb6 (by first | omega | (simp; done) | (simp; omega)); have HT6 := hide (HT4.out.step hb6); obtain ⟨q0, q1, q2, q3, _, _, _, _⟩ := HT6.out.now.2.n4; clear hb6 qq; simp only []))
          | (go_at_call 39; go_must (refine (HPR.out _).mono ?_; rintro e w7 ⟨rfl, hb7⟩; have b7 : Below w.heap.size w w7 := Below.step (by go_grown) hb7; obtain ⟨hc7, hf7, y70, y71⟩ := bloc2 w hb7 (by first | omega | (simp; done) | (simp; omega)); have HT7 := hide (((HT6.out.step hb7).alloc (.cells (ncells M) 38)).and (stay_new w7 38 (ncells M))); clear hb7; simp only []))
          | (go_at_call 20; go_must (refine (awake_ok _).mono ?_; rintro e w1 ⟨rfl, hb1⟩; have b1 : Below w.heap.size w w1 := Below.step (by go_grown) hb1; obtain ⟨hc1, hf1, y10, y11⟩ := bloc2 w hb1 (by first | omega | (simp; done) | (simp; omega)); clear hb1; simp only []))
          | (go_at_call 34; go_must (refine (HTX.out _).mono ?_; rintro e w2 ⟨rfl, hb2⟩; have b2 : Below w.heap.size w w2 := Below.step b1 hb2; obtain ⟨hc2, hf2, y20, y21⟩ := bloc2 w hb2 (by first | omega | (simp; done) | (simp; omega)); have HT2 := hide (stay_new w2 38 (ncells n0)); clear hb2; simp only []))
          | (go_at_call 35; go_must (refine (HPX.out _).mono ?_; rintro e w3 ⟨rfl, hb3⟩; have b3 : Below w.heap.size w w3 := Below.step (by go_grown) hb3; obtain ⟨hc3, hf3, y30, y31⟩ := bloc2 w hb3 (by first | omega | (simp; done) | (simp; omega)); have HT3 := hide (((HT2.out.step hb3).alloc (.cells (ncells n0) 38)).and (stay_new w3 38 (ncells n0))); clear hb3; simp only []))
          | (go_at_call 36; go_must (refine (HIA.out _).mono ?_; rintro e w4 ⟨rfl, hb4⟩; have b4 : Below w.heap.size w w4 := Below.step (by go_grown) hb4; obtain ⟨hc4, hf4, y40, y41⟩ := bloc2 w hb4 (by first | omega | (simp; done) | (simp; omega)); have HT4 := hide (HT3.out.step hb4); obtain ⟨z0, z1, z2, z3, _, _, _, _⟩ := HT4.out.now.1.n4; obtain ⟨v0, v1, v2, v3, _, _, _, _⟩ := HT4.out.now.2.n4; clear hb4; simp only []))
          | (go_at_call 37; go_must (refine (HEX.out _).mono ?_; rintro e w' ⟨rfl, rfl⟩; simp only [])))
        go_ret
        exact ⟨rfl, by go_grown⟩
      · go_enter Try.func6, Try.ntmps6
        go_wp2_with (first
          | (go_at_call 36; have qq := b7; go_must (refine (HSM.out _).mono ?_; rintro e w8 ⟨rfl, hb8⟩; have b8 : Below w.heap.size w w8 := Below.step (by go_grown) hb8; obtain ⟨hc8, hf8, y80, y81⟩ := bloc2 w hb8 (by first | omega | (simp; done) | (simp; omega)); have HT8 := hide (HT7.out.step hb8); obtain ⟨s0, s1, s2, s3, _, _, _, _⟩ := HT8.out.now.1.2.n4; obtain ⟨s4, s5, s6, s7, _, _, _, _⟩ := HT8.out.now.2.n4; clear hb8 qq; simp only []))
          | (go_at_call 36; have qq := b4; go_must (refine (HSB.out _).mono ?_; rintro e w6 ⟨rfl, hb6⟩; have b6 : Below w.heap.size w w6 := Below.step (by go_grown) hb6; obtain ⟨hc6, hf6, y60, y61⟩ := bloc2 w hb6 (by first | omega | (simp; done) | (simp; omega)); have HT6 := hide (HT4.out.step hb6); obtain ⟨q0, q1, q2, q3, _, _, _, _⟩ := HT6.out.now.2.n4; clear hb6 qq; simp only []))
          | (go_at_call 39; go_must (refine (HPR.out _).mono ?_; rintro e w7 ⟨rfl, hb7⟩; have b7 : Below w.heap.size w w7 := Below.step (by go_grown) hb7; obtain ⟨hc7, hf7, y70, y71⟩ := bloc2 w hb7 (by first | omega | (simp; done) | (simp; omega)); have HT7 := hide (((HT6.out.step hb7).alloc (.cells (ncells M) 38)).and (stay_new w7 38 (ncells M))); clear hb7; simp only []))
          | (go_at_call 20; go_must (refine (awake_ok _).mono ?_; rintro e w1 ⟨rfl, hb1⟩; have b1 : Below w.heap.size w w1 := Below.step (by go_grown) hb1; obtain ⟨hc1, hf1, y10, y11⟩ := bloc2 w hb1 (by first | omega | (simp; done) | (simp; omega)); clear hb1; simp only []))
          | (go_at_call 34; go_must (refine (HTX.out _).mono ?_; rintro e w2 ⟨rfl, hb2⟩; have b2 : Below w.heap.size w w2 := Below.step b1 hb2; obtain ⟨hc2, hf2, y20, y21⟩ := bloc2 w hb2 (by first | omega | (simp; done) | (simp; omega)); have HT2 := hide (stay_new w2 38 (ncells n0)); clear hb2; simp only []))
          | (go_at_call 35; go_must (refine (HPX.out _).mono ?_; rintro e w3 ⟨rfl, hb3⟩; have b3 : Below w.heap.size w w3 := Below.step (by go_grown) hb3; obtain ⟨hc3, hf3, y30, y31⟩ := bloc2 w hb3 (by first | omega | (simp; done) | (simp; omega)); have HT3 := hide (((HT2.out.step hb3).alloc (.cells (ncells n0) 38)).and (stay_new w3 38 (ncells n0))); clear hb3; simp only []))
          | (go_at_call 36; go_must (refine (HIA.out _).mono ?_; rintro e w4 ⟨rfl, hb4⟩; have b4 : Below w.heap.size w w4 := Below.step (by go_grown) hb4; obtain ⟨hc4, hf4, y40, y41⟩ := bloc2 w hb4 (by first | omega | (simp; done) | (simp; omega)); have HT4 := hide (HT3.out.step hb4); obtain ⟨z0, z1, z2, z3, _, _, _, _⟩ := HT4.out.now.1.n4; obtain ⟨v0, v1, v2, v3, _, _, _, _⟩ := HT4.out.now.2.n4; clear hb4; simp only []))
          | (go_at_call 37; go_must (refine (HEX.out _).mono ?_; rintro e w' ⟨rfl, rfl⟩; simp only [])))
        go_ret
        exact ⟨rfl, by go_grown⟩
      · go_enter Try.func6, Try.ntmps6
        go_wp2_with (first
          | (go_at_call 36; have qq := b7; go_must (refine (HSM.out _).mono ?_; rintro e w8 ⟨rfl, hb8⟩; have b8 : Below w.heap.size w w8 := Below.step (by go_grown) hb8; obtain ⟨hc8, hf8, y80, y81⟩ := bloc2 w hb8 (by first | omega | (simp; done) | (simp; omega)); have HT8 := hide (HT7.out.step hb8); obtain ⟨s0, s1, s2, s3, _, _, _, _⟩ := HT8.out.now.1.2.n4; obtain ⟨s4, s5, s6, s7, _, _, _, _⟩ := HT8.out.now.2.n4; clear hb8 qq; simp only []))
          | (go_at_call 36; have qq := b4; go_must (refine (HSB.out _).mono ?_; rintro e w6 ⟨rfl, hb6⟩; have b6 : Below w.heap.size w w6 := Below.step (by go_grown) hb6; obtain ⟨hc6, hf6, y60, y61⟩ := bloc2 w hb6 (by first | omega | (simp; done) | (simp; omega)); have HT6 := hide (HT4.out.step hb6); obtain ⟨q0, q1, q2, q3, _, _, _, _⟩ := HT6.out.now.2.n4; clear hb6 qq; simp only []))
          | (go_at_call 39; go_must (refine (HPR.out _).mono ?_; rintro e w7 ⟨rfl, hb7⟩; have b7 : Below w.heap.size w w7 := Below.step (by go_grown) hb7; obtain ⟨hc7, hf7, y70, y71⟩ := bloc2 w hb7 (by first | omega | (simp; done) | (simp; omega)); have HT7 := hide (((HT6.out.step hb7).alloc (.cells (ncells Y) 38)).and (stay_new w7 38 (ncells Y))); clear hb7; simp only []))
          | (go_at_call 20; go_must (refine (awake_ok _).mono ?_; rintro e w1 ⟨rfl, hb1⟩; have b1 : Below w.heap.size w w1 := Below.step (by go_grown) hb1; obtain ⟨hc1, hf1, y10, y11⟩ := bloc2 w hb1 (by first | omega | (simp; done) | (simp; omega)); clear hb1; simp only []))
          | (go_at_call 34; go_must (refine (HTX.out _).mono ?_; rintro e w2 ⟨rfl, hb2⟩; have b2 : Below w.heap.size w w2 := Below.step b1 hb2; obtain ⟨hc2, hf2, y20, y21⟩ := bloc2 w hb2 (by first | omega | (simp; done) | (simp; omega)); have HT2 := hide (stay_new w2 38 (ncells n0)); clear hb2; simp only []))
          | (go_at_call 35; go_must (refine (HPX.out _).mono ?_; rintro e w3 ⟨rfl, hb3⟩; have b3 : Below w.heap.size w w3 := Below.step (by go_grown) hb3; obtain ⟨hc3, hf3, y30, y31⟩ := bloc2 w hb3 (by first | omega | (simp; done) | (simp; omega)); have HT3 := hide (((HT2.out.step hb3).alloc (.cells (ncells Y) 38)).and (stay_new w3 38 (ncells Y))); clear hb3; simp only []))
          | (go_at_call 36; go_must (refine (HIA.out _).mono ?_; rintro e w4 ⟨rfl, hb4⟩; have b4 : Below w.heap.size w w4 := Below.step (by go_grown) hb4; obtain ⟨hc4, hf4, y40, y41⟩ := bloc2 w hb4 (by first | omega | (simp; done) | (simp; omega)); have HT4 := hide (HT3.out.step hb4); obtain ⟨z0, z1, z2, z3, _, _, _, _⟩ := HT4.out.now.1.n4; obtain ⟨v0, v1, v2, v3, _, _, _, _⟩ := HT4.out.now.2.n4; clear hb4; simp only []))
          | (go_at_call 37; go_must (refine (HEX.out _).mono ?_; rintro e w' ⟨rfl, rfl⟩; simp only [])))
        go_ret
        exact ⟨rfl, by go_grown⟩
end Go.Proofs.Ythfmjohbokpceaa
