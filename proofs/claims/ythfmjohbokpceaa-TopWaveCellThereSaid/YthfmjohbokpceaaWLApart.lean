import Derived.Test.YthfmjohbokpceaaWvQ
namespace Go.Proofs.Ythfmjohbokpceaa
open Go.RowKit Go.WideShapes Go.ChangeShapes

/-! the statement WaveApart -/
theorem identityErr_ref (n : Int) (w : World) : Calls Try.prog 21 #[.int .i64 n] w fun x w' => x = .returned (.int .i64 (unlessE (withinB n 0 1007) 2)) ∧ w = w' := by
  cases h : withinB n 0 1007
  all_goals
    go_enter Try.func21, Try.ntmps21
    go_wp2_with (go_at_call 24; refine (within_base _ _ _ _).mono ?_; rintro e w' ⟨rfl, rfl⟩; rw [h])
    go_ret
    exact ⟨rfl, rfl⟩
theorem idE_cases (n : Int) : (unlessE (withinB n 0 1007) 2 = 0 ∧ ∃ k : Nat, n = k ∧ k < 1008) ∨ (unlessE (withinB n 0 1007) 2 = 2) := by
  unfold unlessE withinB
  by_cases h1 : 0 ≤ n
  · by_cases h2 : n ≤ 1007
    · rw [decide_eq_true h1, decide_eq_true h2]
      exact .inl ⟨rfl, n.toNat, by omega, by omega⟩
    · rw [decide_eq_false h2, Bool.and_false]; exact .inr rfl
  · rw [decide_eq_false h1]; exact .inr rfl
theorem WaveApart_err (a b : Int) (w : World) (h : unlessE (withinB a 0 1007) 2 ≠ 0 ∨ unlessE (withinB b 0 1007) 2 ≠ 0) :
    Calls Try.prog 3 #[.int .i64 a, .int .i64 b] w fun e w' => e = .returned (.bool true) ∧ Below w.heap.size w w' := by
  by_cases h1 : unlessE (withinB a 0 1007) 2 = 0
  · have h2 : (unlessE (withinB b 0 1007) 2 != 0) = true := by rw [bne_iff_ne]; omega
    have h1' : (unlessE (withinB a 0 1007) 2 != 0) = false := by rw [h1]; rfl
    clear h1 h
    go_enter Try.func3, Try.ntmps3
    go_wp2_with (first
      | (go_at_call 20; go_must (refine (awake_ok _).mono ?_; rintro e w1 ⟨rfl, hb1⟩; simp only []))
      | (go_at_call 21; refine (identityErr_ref _ _).mono ?_; rintro e w' ⟨rfl, rfl⟩; simp only []))
    go_ret
    exact ⟨rfl, hb1⟩
  · have h1' : (unlessE (withinB a 0 1007) 2 != 0) = true := by rw [bne_iff_ne]; exact h1
    clear h1 h
    go_enter Try.func3, Try.ntmps3
    go_wp2_with (first
      | (go_at_call 20; go_must (refine (awake_ok _).mono ?_; rintro e w1 ⟨rfl, hb1⟩; simp only []))
      | (go_at_call 21; refine (identityErr_ref _ _).mono ?_; rintro e w' ⟨rfl, rfl⟩; simp only []))
    go_ret
    exact ⟨rfl, hb1⟩
theorem seq_lo (n k : Nat) (hk : k < 31) : (iv (seqL n))[k]? = some (.int .i64 (vb (sbit (n % 3) k))) := by
  have h : k < (seqL n).length := by rw [seqL_len]; omega
  rw [List.getElem?_eq_getElem (by rw [iv_length]; exact h), iv_get]
  simp only [seqL, secL, grpL]
  rw [List.getElem_append_left (by simp; omega)]
  simp
theorem seq_hi (n k : Nat) (hk : k < 31) : (iv (seqL n))[31 + k]? = some (.int .i64 (vb (gbit (n / 3) k))) := by
  have h : 31 + k < (seqL n).length := by rw [seqL_len]; omega
  rw [List.getElem?_eq_getElem (by rw [iv_length]; exact h), iv_get]
  simp only [seqL, secL, grpL]
  rw [List.getElem_append_right (by simp)]
  simp
theorem vb_ne (p q : Bool) : (vb p != vb q) = (p != q) := by cases p <;> cases q <;> rfl
theorem cnt_self (p : Nat → Bool) (n : Nat) : cnt (fun i => p i != p i) n = 0 := by
  rw [cnt_congr (q := fun _ => false) (fun k _ => by simp), cnt_false]

set_option maxRecDepth 100000 in
set_option maxHeartbeats 8000000 in
theorem WaveApart_ok (n m : Nat) (hn : n < 1008) (hm : m < 1008) (w : World) :
    Calls Try.prog 3 #[.int .i64 (n : Int), .int .i64 (m : Int)] w fun e w' => e = .returned (.bool true) ∧ Below w.heap.size w w' := by
  have hE : ∀ k : Nat, k < 1008 → unlessE (withinB (k : Int) 0 1007) 2 = 0 := fun k hk => by
    rcases idE_cases (k : Int) with ⟨h, _⟩ | h
    · exact h
    · unfold unlessE withinB at h; rw [decide_eq_true (by omega : (0 : Int) ≤ k), decide_eq_true (by omega : (k : Int) ≤ 1007)] at h; exact absurd h (by decide)
  have HI1 := hide (fun W => hE n hn ▸ identityErr_ref (n : Int) W)
  have HI2 := hide (fun W => hE m hm ▸ identityErr_ref (m : Int) W)
  have HS1 := hide (fun W => SequenceOf_ok n hn W)
  have HS2 := hide (fun W => SequenceOf_ok m hm W)
  have HX := hide (fun k hk => seq_lo n k hk)
  have HX2 := hide (fun k hk => seq_hi n k hk)
  have HY := hide (fun k hk => seq_lo m k hk)
  have HY2 := hide (fun k hk => seq_hi m k hk)
  have HC1 := hide (show (n % 3 = m % 3 → cnt (fun i => sbit (n % 3) i != sbit (m % 3) i) 31 = 0) ∧ (n % 3 ≠ m % 3 → cnt (fun i => sbit (n % 3) i != sbit (m % 3) i) 31 = 16) from ⟨fun h => by rw [h]; exact cnt_self _ _, fun h => far_sector _ (Nat.mod_lt _ (by omega)) _ (Nat.mod_lt _ (by omega)) h⟩)
  have HC2 := hide (show (n / 3 = m / 3 → cnt (fun i => gbit (n / 3) i != gbit (m / 3) i) 31 = 0) ∧ (n / 3 ≠ m / 3 → 12 ≤ cnt (fun i => gbit (n / 3) i != gbit (m / 3) i) 31) from ⟨fun h => by rw [h]; exact cnt_self _ _, fun h => far_group (by omega) (by omega) h⟩)
  have HL1 := hide (fun k => cnt_le (fun i => sbit (n % 3) i != sbit (m % 3) i) k)
  have HL2 := hide (fun k => cnt_le (fun i => gbit (n / 3) i != gbit (m / 3) i) k)
  clear hE
  go_enter Try.func3, Try.ntmps3
  go_wp2_with (first
    | (go_at_call 20; go_must (refine (awake_ok _).mono ?_; rintro e w1 ⟨rfl, hb1⟩; have b1 := hb1; clear hb1; simp only []))
    | (go_at_call 21; have qq := tk; refine (HI2.out _).mono ?_; rintro e w' ⟨rfl, rfl⟩; simp only [])
    | (go_at_call 21; refine (HI1.out _).mono ?_; rintro e w' ⟨rfl, rfl⟩; have tk := hide trivial; simp only [])
    | (go_at_call 22; have qq := b2; go_must (refine (HS2.out _).mono ?_; rintro e w3 ⟨A3, c3, rfl, ho, hb⟩; have b3 : Below w.heap.size w w3 := Below.step b2 hb; have S2' := hide (S2.out.bel hb); have S3 := hide (Sl.of_own ho); clear ho hb qq S2; simp only []))
    | (go_at_call 22; go_must (refine (HS1.out _).mono ?_; rintro e w2 ⟨A2, c2, rfl, ho, hb⟩; have b2 : Below w.heap.size w w2 := Below.step b1 hb; have S2 := hide (Sl.of_own ho); clear ho hb; simp only [])))
  clear HS1 HS2 HI1 HI2 tk b1 b2
  go_loopw [9, 10, 11] (fun x y i wr => ∃ k : Nat, k ≤ 31 ∧ i = .int .i64 k ∧ x = .int .i64 ((cnt (fun i => sbit (n % 3) i != sbit (m % 3) i) k : Nat) : Int) ∧ y = .int .i64 ((cnt (fun i => gbit (n / 3) i != gbit (m / 3) i) k : Nat) : Int) ∧ ∃ q, wr = w3.drewN q) (fun _ _ i _ => 31 - (intOf i).toNat)
  case atStart => exact ⟨0, by omega, rfl, rfl, rfl, 0, rfl⟩
  case round =>
    obtain ⟨k, hk, rfl, rfl, rfl, q, rfl⟩ := hrel
    by_cases hlt : k < 31
    · have hd : decide ((k : Int) < 31) = true := by rw [decide_eq_true_iff]; omega
      obtain ⟨b, o, hA, x1⟩ := S2'.out.val (HX.out k hlt)
      subst hA
      have x2 := S2'.out.one rfl (HX2.out k hlt)
      obtain ⟨b', o', hA, y1⟩ := S3.out.val (HY.out k hlt)
      subst hA
      have y2 := S3.out.one rfl (HY2.out k hlt)
      have l1 := HL1.out k
      have l2 := HL2.out k
      have HN1 := hide (show cnt (fun i => sbit (n % 3) i != sbit (m % 3) i) (k + 1) = cnt (fun i => sbit (n % 3) i != sbit (m % 3) i) k + (sbit (n % 3) k != sbit (m % 3) k).toNat from rfl)
      have HN2 := hide (show cnt (fun i => gbit (n / 3) i != gbit (m / 3) i) (k + 1) = cnt (fun i => gbit (n / 3) i != gbit (m / 3) i) k + (gbit (n / 3) k != gbit (m / 3) k).toNat from rfl)
      obtain ⟨C, hC⟩ : ∃ C, cnt (fun i => sbit (n % 3) i != sbit (m % 3) i) k = C := ⟨_, rfl⟩
      obtain ⟨D, hD⟩ : ∃ D, cnt (fun i => gbit (n / 3) i != gbit (m / 3) i) k = D := ⟨_, rfl⟩
      rw [hC] at l1 HN1
      rw [hD] at l2 HN2
      rw [hC, hD]
      obtain ⟨p1, hp1⟩ : ∃ p, sbit (n % 3) k = p := ⟨_, rfl⟩
      obtain ⟨p2, hp2⟩ : ∃ p, sbit (m % 3) k = p := ⟨_, rfl⟩
      obtain ⟨p3, hp3⟩ : ∃ p, gbit (n / 3) k = p := ⟨_, rfl⟩
      obtain ⟨p4, hp4⟩ : ∃ p, gbit (m / 3) k = p := ⟨_, rfl⟩
      rw [hp1] at x1 HN1
      rw [hp2] at y1 HN1
      rw [hp3] at x2 HN2
      rw [hp4] at y2 HN2
      have v1 := vb_ne p1 p2
      have v2 := vb_ne p3 p4
      obtain ⟨e1, he1⟩ : ∃ e, vb p1 = e := ⟨_, rfl⟩
      obtain ⟨e2, he2⟩ : ∃ e, vb p2 = e := ⟨_, rfl⟩
      obtain ⟨e3, he3⟩ : ∃ e, vb p3 = e := ⟨_, rfl⟩
      obtain ⟨e4, he4⟩ : ∃ e, vb p4 = e := ⟨_, rfl⟩
      rw [he1] at x1 v1
      rw [he2] at y1 v1
      rw [he3] at x2 v2
      rw [he4] at y2 v2
      have g1 : (0 : Int) ≤ (k : Int) := by omega
      have g2 : (k : Int) < 62 := by omega
      have g3 : (0 : Int) ≤ 31 + (k : Int) := by omega
      have g4 : 31 + (k : Int) < 62 := by omega
      have g5 : (31 + (k : Int)).toNat = 31 + k := by omega
      have g6 : IntKind.i64.wrap (31 + (k : Int)) = 31 + (k : Int) := IntWalk.i64_in _ (by omega)
      have W3 := hide b3
      clear hC hD hp1 hp2 hp3 hp4 he1 he2 he3 he4 HX HX2 HY HY2 HL1 HL2 HC1 HC2
      cases hz1 : (p1 != p2) <;> cases hz2 : (p3 != p4)
      all_goals
        rw [hz1] at v1 HN1
        rw [hz2] at v2 HN2
        clear hz1 hz2
        go_wp2
        go_quiet (fail)
        go_wp2
        go_quiet (fail)
        go_wp2
        go_roundw
        case rel => exact ⟨k + 1, by omega, by go_num, by rw [HN1.out]; go_num, by rw [HN2.out]; go_num, ⟨_, rfl⟩⟩
        case measure => simp [intOf]; omega
    · have hd : decide ((k : Int) < 31) = false := by rw [decide_eq_false_iff_not]; omega
      have hk31 : k = 31 := by omega
      obtain ⟨a1, a2⟩ := HC1.out
      obtain ⟨a3, a4⟩ := HC2.out
      rw [← hk31] at a1 a2 a3 a4
      obtain ⟨C, hC⟩ : ∃ C, cnt (fun i => sbit (n % 3) i != sbit (m % 3) i) k = C := ⟨_, rfl⟩
      obtain ⟨D, hD⟩ : ∃ D, cnt (fun i => gbit (n / 3) i != gbit (m / 3) i) k = D := ⟨_, rfl⟩
      rw [hC] at a1 a2
      rw [hD] at a3 a4
      rw [hC, hD]
      have e1 : (n : Int) / 3 = ((n / 3 : Nat) : Int) := by omega
      have e2 : (m : Int) / 3 = ((m / 3 : Nat) : Int) := by omega
      have e3 : (n : Int) % 3 = ((n % 3 : Nat) : Int) := by omega
      have e4 : (m : Int) % 3 = ((m % 3 : Nat) : Int) := by omega
      have W3 := hide b3
      clear hC hD hk31 HX HX2 HY HY2 HL1 HL2 HC1 HC2
      by_cases q1 : n / 3 = m / 3 <;> by_cases q2 : n % 3 = m % 3
      · have h1 : ((n : Int) / 3 != (m : Int) / 3) = false := by rw [e1, e2, q1]; simp
        have h2 : ((n : Int) % 3 != (m : Int) % 3) = false := by rw [e3, e4, q2]; simp
        obtain rfl := a1 q2
        obtain rfl := a3 q1
        clear a2 a4 e1 e2 e3 e4 q1 q2
        go_wp2
        go_ret
        exact ⟨rfl, below_drewN W3.out _⟩
      · have h1 : ((n : Int) / 3 != (m : Int) / 3) = false := by rw [e1, e2, q1]; simp
        have h2 : ((n : Int) % 3 != (m : Int) % 3) = true := by rw [e3, e4, bne_iff_ne]; omega
        obtain rfl := a2 q2
        obtain rfl := a3 q1
        clear a1 a4 e1 e2 e3 e4 q1 q2
        go_wp2
        go_ret
        exact ⟨rfl, below_drewN W3.out _⟩
      · have h1 : ((n : Int) / 3 != (m : Int) / 3) = true := by rw [e1, e2, bne_iff_ne]; omega
        have h2 : ((n : Int) % 3 != (m : Int) % 3) = false := by rw [e3, e4, q2]; simp
        obtain rfl := a1 q2
        have hD := a4 q1
        have hd2 : decide ((D : Int) ≥ 11) = true := by rw [decide_eq_true_iff]; omega
        have hd3 : decide (11 ≤ (D : Int)) = true := by rw [decide_eq_true_iff]; omega
        clear a2 a3 a4 e1 e2 e3 e4 q1 q2
        go_wp2
        go_ret
        exact ⟨rfl, below_drewN W3.out _⟩
      · have h1 : ((n : Int) / 3 != (m : Int) / 3) = true := by rw [e1, e2, bne_iff_ne]; omega
        have h2 : ((n : Int) % 3 != (m : Int) % 3) = true := by rw [e3, e4, bne_iff_ne]; omega
        obtain rfl := a2 q2
        have hD := a4 q1
        have hd2 : decide ((D : Int) ≥ 11) = true := by rw [decide_eq_true_iff]; omega
        have hd3 : decide (11 ≤ (D : Int)) = true := by rw [decide_eq_true_iff]; omega
        clear a1 a3 a4 e1 e2 e3 e4 q1 q2
        go_wp2
        go_ret
        exact ⟨rfl, below_drewN W3.out _⟩
theorem WaveApart_law (a b : Int) (w : World) : Calls Try.prog 3 #[.int .i64 a, .int .i64 b] w fun e w' => e = .returned (.bool true) ∧ Below w.heap.size w w' := by
  rcases idE_cases a with ⟨_, n, rfl, hn⟩ | ha
  · rcases idE_cases b with ⟨_, m, rfl, hm⟩ | hb
    · exact WaveApart_ok n m hn hm w
    · exact WaveApart_err _ _ w (.inr (by omega))
  · exact WaveApart_err _ _ w (.inl (by omega))
end Go.Proofs.Ythfmjohbokpceaa
