import Derived.Test.YthfmjohbokpceaaCelF
import Derived.Test.YthfmjohbokpceaaWvQ
namespace Go.Proofs.Ythfmjohbokpceaa
open Go.RowKit Go.WideShapes Go.ChangeShapes

/-! the statement WaveCells -/
abbrev fv (x : Int × Int × Int) : Value := .agg #[.int .i64 x.1, .int .i64 x.2.1, .int .i64 x.2.2]
theorem fd_under : Try.prog.underlying 42 = some (.struct (Try.prog.fieldsOf 42)) := by kernel_rfl
theorem fd_held : Try.prog.stoodInHeld 42 = false := by kernel_rfl
set_option maxRecDepth 100000 in
theorem fd_eql (a b c : Int) (w : World) : (binOp .eql 42 (.agg #[.int .i64 a, .int .i64 b, .int .i64 c]) (.agg #[.int .i64 a, .int .i64 b, .int .i64 c])).run Try.prog w = .ok (.bool true) w := by
  rw [run_eql_struct, run_equalIn_agg (d := 9999) (ht := fd_under) (hp := fd_held)]
  simp [go_sem]
set_option maxRecDepth 100000 in
theorem fd_neq (a b c : Int) (w : World) : (binOp .neq 42 (.agg #[.int .i64 a, .int .i64 b, .int .i64 c]) (.agg #[.int .i64 a, .int .i64 b, .int .i64 c])).run Try.prog w = .ok (.bool false) w := by
  rw [run_neq_struct, run_equalIn_agg (d := 9999) (ht := fd_under) (hp := fd_held)]
  simp [go_sem]
theorem own_cap3 {w : World} {base e size n m c : Nat} {A : Option Addr} {xs : List Value} (h : w.ownsRow base e size (.slice A n c) m xs) : n ≤ c := by
  rcases h.2 with ⟨h1, _⟩ | ⟨g, cap, cur, hv, _, _, h1, _⟩
  · injection h1 with _ h2 h3; omega
  · injection hv with _ h2 h3; omega
theorem unlessE_cases (b : Bool) (e : Int) : (b = true ∧ unlessE b e = 0) ∨ (b = false ∧ unlessE b e = e) := by cases b <;> simp [unlessE]
theorem firstOf_2 (a b : Int) : firstOf [a, b] = if a = 0 then b else a := by
  unfold firstOf
  split
  · unfold firstOf; split
    · rename_i h; rw [h]; rfl
    · rfl
  · rfl
theorem cells_key (A : Option Addr) (c : Nat) (x : List Int) (t : Int) (hc : x.length ≤ c) (hl : x.length ≤ 1000000) : ∃ (V E1 E2 : Int) (F1 F2 : Int × Int × Int),
    Hid (∀ D k W, x.length ≤ k → Sl W D (iv x) → Calls Try.prog 85 #[.slice D x.length k, .int .i64 t] W fun e w' => e = .returned (.tuple #[fv F1, .int .i64 E1]) ∧ Below W.heap.size W w') ∧
    Hid (∀ D k W, x.length ≤ k → Sl W D (iv x) → Calls Try.prog 27 #[.slice D x.length k] W fun e w' => e = .returned (.tuple #[fv F2, .int .i64 E2]) ∧ Below W.heap.size W w') ∧
    Hid (∀ W, Sl W A (iv x) → Calls Try.prog 46 #[.slice A x.length c] W fun e w' => e = .returned (.int .i64 V) ∧ W = w') ∧
    (((V != 0) = true ∧ E1 = V ∧ E2 = V ∧ F1 = (0, 0, 0) ∧ F2 = (0, 0, 0)) ∨
     (V = 0 ∧ Hid (∀ W, Sl W A (iv x) → Calls Try.prog 86 #[.slice A x.length c, .int .i64 t] W fun e w' => e = .returned (.tuple #[fv F1, .int .i64 E1]) ∧ Below W.heap.size W w') ∧
       Hid (∀ W, Sl W A (iv x) → Calls Try.prog 87 #[.slice A x.length c] W fun e w' => e = .returned (.tuple #[fv F2, .int .i64 E2]) ∧ Below W.heap.size W w'))) := by
  have HV := hide (fun W (h : Sl W A (iv x)) => valuesErr_ref A c x W h hl)
  by_cases h : rcvE x = 0
  · rw [h] at HV
    have e1 : idE x t = unlessE (withinB t 0 ((x.length : Int) - 62)) 6 := by unfold idE; rw [firstOf_2, if_pos h]
    have e2 : srE x = unlessE (decide (62 ≤ (x.length : Int))) 10 := by unfold srE; rw [firstOf_2, if_pos h]
    obtain ⟨E1, F1, p1, r1⟩ : ∃ (E1 : Int) (F1 : Int × Int × Int), Hid (∀ D k W, x.length ≤ k → Sl W D (iv x) → Calls Try.prog 85 #[.slice D x.length k, .int .i64 t] W fun e w' => e = .returned (.tuple #[fv F1, .int .i64 E1]) ∧ Below W.heap.size W w') ∧
        Hid (∀ W, Sl W A (iv x) → Calls Try.prog 86 #[.slice A x.length c, .int .i64 t] W fun e w' => e = .returned (.tuple #[fv F1, .int .i64 E1]) ∧ Below W.heap.size W w') := by
      rcases unlessE_cases (withinB t 0 ((x.length : Int) - 62)) 6 with ⟨hb, he⟩ | ⟨hb, he⟩
      · have h0 := e1.trans he
        obtain ⟨_, ht, _⟩ := idE_ok' h0
        obtain ⟨n, rfl⟩ : ∃ n : Nat, t = n := ⟨t.toNat, by omega⟩
        exact ⟨0, ((n : Int), (idAt x n).1, (idAt x n).2), hide (fun D k W hk hs => IdentityAt_ok D k x n W hs hk h0), hide (fun W hs => IdentityAt_ref A c x n W hs hc h0)⟩
      · have h0 : idE x t ≠ 0 := by rw [e1, he]; decide
        exact ⟨6, (0, 0, 0), hide (fun D k W hk hs => by have := IdentityAt_err D k x t W hs hl h0; rw [e1, he] at this; exact this), hide (fun W _ => IdentityAt_ref_bad A c x t W hl hb)⟩
    obtain ⟨E2, F2, p2, r2⟩ : ∃ (E2 : Int) (F2 : Int × Int × Int), Hid (∀ D k W, x.length ≤ k → Sl W D (iv x) → Calls Try.prog 27 #[.slice D x.length k] W fun e w' => e = .returned (.tuple #[fv F2, .int .i64 E2]) ∧ Below W.heap.size W w') ∧
        Hid (∀ W, Sl W A (iv x) → Calls Try.prog 87 #[.slice A x.length c] W fun e w' => e = .returned (.tuple #[fv F2, .int .i64 E2]) ∧ Below W.heap.size W w') := by
      rcases unlessE_cases (decide (62 ≤ (x.length : Int))) 10 with ⟨hb, he⟩ | ⟨hb, he⟩
      · have h0 := e2.trans he
        have h62 := of_decide_eq_true hb
        obtain ⟨N, hN⟩ : ∃ N, x.length = N + 62 := ⟨x.length - 62, by omega⟩
        exact ⟨0, (((srch (idAt x) N).1 : Int), (srch (idAt x) N).2.1, (srch (idAt x) N).2.2), hide (fun D k W hk hs => Search_ok D k N x W hs hk h0 hN), hide (fun W hs => Search_ref A c N x W hs hc h0 hN)⟩
      · have h0 : srE x ≠ 0 := by rw [e2, he]; decide
        have h62 := of_decide_eq_false hb
        exact ⟨10, (0, 0, 0), hide (fun D k W hk hs => by have := Search_err D k x W hs hl h0; rw [e2, he] at this; exact this), hide (fun W _ => Search_ref_bad A c x W (by omega))⟩
    exact ⟨0, E1, E2, F1, F2, p1, p2, HV, .inr ⟨rfl, r1, r2⟩⟩
  · have e1 : idE x t = rcvE x := by unfold idE; rw [firstOf_2, if_neg h]
    have e2 : srE x = rcvE x := by unfold srE; rw [firstOf_2, if_neg h]
    exact ⟨rcvE x, rcvE x, rcvE x, (0, 0, 0), (0, 0, 0), hide (fun D k W _ hs => by have := IdentityAt_err D k x t W hs hl (by rw [e1]; exact h); rw [e1] at this; exact this),
      hide (fun D k W _ hs => by have := Search_err D k x W hs hl (by rw [e2]; exact h); rw [e2] at this; exact this), HV, .inl ⟨by rw [bne_iff_ne]; exact h, rfl, rfl, rfl, rfl⟩⟩
set_option maxRecDepth 100000 in
set_option maxHeartbeats 20000000 in
theorem WaveCells_law (A : Option Addr) (c : Nat) (x : List Int) (t : Int) (w : World) (hs0 : Sl w A (iv x)) (hc : x.length ≤ c) :
    Calls Try.prog 14 #[.slice A x.length c, .int .i64 t] w fun e w' => e = .returned (.bool true) ∧ Below w.heap.size w w' := by
  have HT := hide ((stay_sl hs0).and (stay_below (Below.refl w.heap.size w)))
  clear hs0
  by_cases hl0 : 66 < x.length ∧ x.length ≤ 120
  · obtain ⟨q0, q1⟩ := hl0
    go_enter Try.func14, Try.ntmps14
    go_wp2_with (first | (go_at_call 20; go_must (refine (awake_ok _).mono ?_; rintro e w1 ⟨rfl, hb⟩; replace HT := hide (HT.out.step hb); clear hb; simp only [])))
    go_ret
    exact ⟨rfl, HT.out.now.2⟩
  by_cases hl1 : 122 < x.length
  · clear hl0
    go_enter Try.func14, Try.ntmps14
    go_wp2_with (first | (go_at_call 20; go_must (refine (awake_ok _).mono ?_; rintro e w1 ⟨rfl, hb⟩; replace HT := hide (HT.out.step hb); clear hb; simp only [])))
    go_ret
    exact ⟨rfl, HT.out.now.2⟩
  have hl2 : x.length ≤ 122 := by omega
  obtain ⟨V, E1, E2, ⟨a1, b1, c1⟩, ⟨a2, b2, c2⟩, HIA, HSE, HVE, key⟩ := cells_key A c x t hc (by omega)
  have HCI := hide (fun W (h : Sl W A (iv x)) => copyInts A c x W h (by omega))
  have hq1 := fd_eql
  have hq2 := fd_neq
  clear hl1 hc
  have hl3 : x.length ≤ 66 ∨ 120 < x.length := by omega
  clear hl0
  rcases key with ⟨hv, rfl, rfl, e1, e2⟩ | ⟨rfl, HIR, HSR⟩
  · injection e1 with e1 e3
    injection e3 with e3 e4
    injection e2 with e2 e5
    injection e5 with e5 e6
    subst e1 e3 e4 e2 e5 e6
    rcases hl3 with hl3 | hl3
    all_goals
      go_enter Try.func14, Try.ntmps14
      go_wp2_with (first
        | (go_at_call 20; go_must (refine (awake_ok _).mono ?_; rintro e w1 ⟨rfl, hb⟩; replace HT := hide (HT.out.step hb); clear hb; simp only []))
        | (go_at_call 42; go_must (refine (HCI.out _ HT.out.now.1).mono ?_; rintro e wc ⟨D, kd, rfl, ho, hb⟩; have HD := hide (Sl.of_own ho); have HK := hide (own_cap3 ho); clear ho; replace HT := hide (HT.out.step hb); (try replace H5 := hide (H5.out.step hb)); (try replace H7 := hide (H7.out.step hb)); (try replace H10 := hide (H10.out.step hb)); clear hb; simp only []))
        | (go_at_call 85; go_must (refine (HIA.out _ _ _ HK.out HD.out).mono ?_; rintro e w3 ⟨rfl, hb⟩; replace HT := hide (HT.out.step hb); (try replace H5 := hide (H5.out.step hb)); (try replace H7 := hide (H7.out.step hb)); (try replace H10 := hide (H10.out.step hb)); clear hb; simp only []))
        | (refine wpList_store_row rfl 42 (.tmp 5) (.tmp 33) rfl w3.heap.size #[.int .i64 0, .int .i64 0, .int .i64 0] rfl rfl 42 #[.int .i64 0, .int .i64 0, .int .i64 0] (Blk.new w3 _ _) (by kernel_rfl) rfl (by simp [Value.oneCell']) ?_; have hb : Below w3.heap.size w3 ((w3.alloc (.cells #[.int .i64 0, .int .i64 0, .int .i64 0] 42)).setRow w3.heap.size #[.int .i64 0, .int .i64 0, .int .i64 0]) := Below.row ((Below.refl _ _).alloc (Nat.le_refl _) _) (Nat.le_refl _) _; have H5 := hide (stay_blk ((Blk.new w3 42 #[.int .i64 0, .int .i64 0, .int .i64 0]).row #[.int .i64 0, .int .i64 0, .int .i64 0])); replace HT := hide (HT.out.step hb); (try replace H5 := hide (H5O.out.step hb)); (try replace H7 := hide (H7O.out.step hb)); clear hb)
        | (go_at_call 27; go_must (refine (HSE.out _ _ _ HK.out HD.out).mono ?_; rintro e w4 ⟨rfl, hb⟩; replace HT := hide (HT.out.step hb); (try replace H5 := hide (H5.out.step hb)); (try replace H7 := hide (H7.out.step hb)); (try replace H10 := hide (H10.out.step hb)); clear hb; simp only []))
        | (refine wpList_store_row rfl 42 (.tmp 7) (.tmp 39) rfl w4.heap.size #[.int .i64 0, .int .i64 0, .int .i64 0] rfl rfl 42 #[.int .i64 0, .int .i64 0, .int .i64 0] (Blk.new w4 _ _) (by kernel_rfl) rfl (by simp [Value.oneCell']) ?_; have hb : Below w4.heap.size w4 ((w4.alloc (.cells #[.int .i64 0, .int .i64 0, .int .i64 0] 42)).setRow w4.heap.size #[.int .i64 0, .int .i64 0, .int .i64 0]) := Below.row ((Below.refl _ _).alloc (Nat.le_refl _) _) (Nat.le_refl _) _; have H7 := hide (stay_blk ((Blk.new w4 42 #[.int .i64 0, .int .i64 0, .int .i64 0]).row #[.int .i64 0, .int .i64 0, .int .i64 0])); replace HT := hide (HT.out.step hb); (try replace H5 := hide (H5.out.step hb)); (try replace H7 := hide (H7O.out.step hb)); clear hb)
        | (go_at_call 46; go_must (refine (HVE.out _ HT.out.now.1).mono ?_; rintro e w5 ⟨rfl, rfl⟩; simp only []))
        | (refine wpList_load_rowG 42 (.tmp 5) rfl (by rfl) w3.heap.size rfl 42 #[.int .i64 0, .int .i64 0, .int .i64 0] _ H5.out.now Try.underlying42 rfl (by kernel_rfl) ?_)
        | (refine wpList_load_rowG 42 (.tmp 7) rfl (by rfl) w4.heap.size rfl 42 #[.int .i64 0, .int .i64 0, .int .i64 0] _ H7.out.now Try.underlying42 rfl (by kernel_rfl) ?_))
      go_ret
      exact ⟨rfl, HT.out.now.2⟩
  · rcases hl3 with hl3 | hl3
    all_goals
      go_enter Try.func14, Try.ntmps14
      go_wp2_with (first
        | (go_at_call 20; go_must (refine (awake_ok _).mono ?_; rintro e w1 ⟨rfl, hb⟩; replace HT := hide (HT.out.step hb); clear hb; simp only []))
        | (go_at_call 42; go_must (refine (HCI.out _ HT.out.now.1).mono ?_; rintro e wc ⟨D, kd, rfl, ho, hb⟩; have HD := hide (Sl.of_own ho); have HK := hide (own_cap3 ho); clear ho; replace HT := hide (HT.out.step hb); (try replace H5 := hide (H5.out.step hb)); (try replace H7 := hide (H7.out.step hb)); (try replace H10 := hide (H10.out.step hb)); clear hb; simp only []))
        | (go_at_call 85; go_must (refine (HIA.out _ _ _ HK.out HD.out).mono ?_; rintro e w3 ⟨rfl, hb⟩; replace HT := hide (HT.out.step hb); (try replace H5 := hide (H5.out.step hb)); (try replace H7 := hide (H7.out.step hb)); (try replace H10 := hide (H10.out.step hb)); clear hb; simp only []))
        | (refine wpList_store_row rfl 42 (.tmp 5) (.tmp 33) rfl w3.heap.size #[.int .i64 a1, .int .i64 b1, .int .i64 c1] rfl rfl 42 #[.int .i64 0, .int .i64 0, .int .i64 0] (Blk.new w3 _ _) (by kernel_rfl) rfl (by simp [Value.oneCell']) ?_; have hb : Below w3.heap.size w3 ((w3.alloc (.cells #[.int .i64 0, .int .i64 0, .int .i64 0] 42)).setRow w3.heap.size #[.int .i64 a1, .int .i64 b1, .int .i64 c1]) := Below.row ((Below.refl _ _).alloc (Nat.le_refl _) _) (Nat.le_refl _) _; have H5 := hide (stay_blk ((Blk.new w3 42 #[.int .i64 0, .int .i64 0, .int .i64 0]).row #[.int .i64 a1, .int .i64 b1, .int .i64 c1])); replace HT := hide (HT.out.step hb); (try replace H5 := hide (H5O.out.step hb)); (try replace H7 := hide (H7O.out.step hb)); clear hb)
        | (go_at_call 27; go_must (refine (HSE.out _ _ _ HK.out HD.out).mono ?_; rintro e w4 ⟨rfl, hb⟩; replace HT := hide (HT.out.step hb); (try replace H5 := hide (H5.out.step hb)); (try replace H7 := hide (H7.out.step hb)); (try replace H10 := hide (H10.out.step hb)); clear hb; simp only []))
        | (refine wpList_store_row rfl 42 (.tmp 7) (.tmp 39) rfl w4.heap.size #[.int .i64 a2, .int .i64 b2, .int .i64 c2] rfl rfl 42 #[.int .i64 0, .int .i64 0, .int .i64 0] (Blk.new w4 _ _) (by kernel_rfl) rfl (by simp [Value.oneCell']) ?_; have hb : Below w4.heap.size w4 ((w4.alloc (.cells #[.int .i64 0, .int .i64 0, .int .i64 0] 42)).setRow w4.heap.size #[.int .i64 a2, .int .i64 b2, .int .i64 c2]) := Below.row ((Below.refl _ _).alloc (Nat.le_refl _) _) (Nat.le_refl _) _; have H7 := hide (stay_blk ((Blk.new w4 42 #[.int .i64 0, .int .i64 0, .int .i64 0]).row #[.int .i64 a2, .int .i64 b2, .int .i64 c2])); replace HT := hide (HT.out.step hb); (try replace H5 := hide (H5.out.step hb)); (try replace H7 := hide (H7O.out.step hb)); clear hb)
        | (go_at_call 46; go_must (refine (HVE.out _ HT.out.now.1).mono ?_; rintro e w5 ⟨rfl, rfl⟩; simp only []))
        | (refine wpList_load_rowG 42 (.tmp 5) rfl (by rfl) w3.heap.size rfl 42 #[.int .i64 a1, .int .i64 b1, .int .i64 c1] _ H5.out.now Try.underlying42 rfl (by kernel_rfl) ?_)
        | (refine wpList_load_rowG 42 (.tmp 7) rfl (by rfl) w4.heap.size rfl 42 #[.int .i64 a2, .int .i64 b2, .int .i64 c2] _ H7.out.now Try.underlying42 rfl (by kernel_rfl) ?_)
        | (go_at_call 86; go_must (refine (HIR.out _ HT.out.now.1).mono ?_; rintro e w6 ⟨rfl, hb⟩; replace HT := hide (HT.out.step hb); (try replace H5 := hide (H5.out.step hb)); (try replace H7 := hide (H7.out.step hb)); (try replace H10 := hide (H10.out.step hb)); clear hb; simp only []))
        | (refine wpList_store_row rfl 42 (.tmp 10) (.tmp 67) rfl w6.heap.size #[.int .i64 a1, .int .i64 b1, .int .i64 c1] rfl rfl 42 #[.int .i64 0, .int .i64 0, .int .i64 0] (Blk.new w6 _ _) (by kernel_rfl) rfl (by simp [Value.oneCell']) ?_; have hb : Below w6.heap.size w6 ((w6.alloc (.cells #[.int .i64 0, .int .i64 0, .int .i64 0] 42)).setRow w6.heap.size #[.int .i64 a1, .int .i64 b1, .int .i64 c1]) := Below.row ((Below.refl _ _).alloc (Nat.le_refl _) _) (Nat.le_refl _) _; have H10 := hide (stay_blk ((Blk.new w6 42 #[.int .i64 0, .int .i64 0, .int .i64 0]).row #[.int .i64 a1, .int .i64 b1, .int .i64 c1])); replace HT := hide (HT.out.step hb); (try replace H5 := hide (H5.out.step hb)); (try replace H7 := hide (H7.out.step hb)); clear hb)
        | (refine wpList_load_rowG 42 (.tmp 10) rfl (by rfl) w6.heap.size rfl 42 #[.int .i64 a1, .int .i64 b1, .int .i64 c1] _ H10.out.now Try.underlying42 rfl (by kernel_rfl) ?_)
        | (go_at_call 87; go_must (refine (HSR.out _ HT.out.now.1).mono ?_; rintro e w7 ⟨rfl, hb⟩; replace HT := hide (HT.out.step hb); (try replace H5 := hide (H5.out.step hb)); (try replace H7 := hide (H7.out.step hb)); (try replace H10 := hide (H10.out.step hb)); clear hb; simp only []))
        | (refine wpList_store_row rfl 42 (.tmp 12) (.tmp 80) rfl w7.heap.size #[.int .i64 a2, .int .i64 b2, .int .i64 c2] rfl rfl 42 #[.int .i64 0, .int .i64 0, .int .i64 0] (Blk.new w7 _ _) (by kernel_rfl) rfl (by simp [Value.oneCell']) ?_; have hb : Below w7.heap.size w7 ((w7.alloc (.cells #[.int .i64 0, .int .i64 0, .int .i64 0] 42)).setRow w7.heap.size #[.int .i64 a2, .int .i64 b2, .int .i64 c2]) := Below.row ((Below.refl _ _).alloc (Nat.le_refl _) _) (Nat.le_refl _) _; have H12 := hide (stay_blk ((Blk.new w7 42 #[.int .i64 0, .int .i64 0, .int .i64 0]).row #[.int .i64 a2, .int .i64 b2, .int .i64 c2])); replace HT := hide (HT.out.step hb); (try replace H5 := hide (H5.out.step hb)); (try replace H7 := hide (H7.out.step hb)); clear hb)
        | (refine wpList_load_rowG 42 (.tmp 12) rfl (by rfl) w7.heap.size rfl 42 #[.int .i64 a2, .int .i64 b2, .int .i64 c2] _ H12.out.now Try.underlying42 rfl (by kernel_rfl) ?_))
      go_ret
      exact ⟨rfl, HT.out.now.2⟩
end Go.Proofs.Ythfmjohbokpceaa
