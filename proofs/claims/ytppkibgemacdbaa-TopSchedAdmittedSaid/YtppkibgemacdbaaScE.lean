import Derived.Test.YtppkibgemacdbaaScD
namespace Go.Proofs.Ytppkibgemacdbaa
open Go.RowKit Go.WideShapes Go.ChangeShapes

/-! the reference finds no error in what is right -/
set_option maxRecDepth 100000 in
set_option maxHeartbeats 4000000 in
theorem isName_yes (s : Bs) (w : World) (hs : OkN s) :
    Calls Try.prog 23 #[strV s] w fun e w' => e = .returned (.bool true) ∧ w = w' := by
  have hlen := fun t W => len_str s t W
  have g0 : ¬ (s.length : Int) < 1 := by have := hs.pos; omega
  have g1 : ¬ (12 : Int) < (s.length : Int) := by have := hs.few; omega
  have h12 := hs.few
  have HN := hide hs; clear hs
  go_enter Try.func23, Try.ntmps23
  go_wp2
  go_loopw [3] (fun i wr => ∃ k : Nat, k ≤ s.length ∧ i = .int .i64 k ∧ w = wr) (fun i _ => s.length - (intOf i).toNat)
  case atStart => exact ⟨0, Nat.zero_le _, rfl, rfl⟩
  case round =>
    obtain ⟨k, hk, rfl, rfl⟩ := hrel
    by_cases hlt : k < s.length
    · have hidx := fun W => idx_str s k hlt W
      have hc := HN.out.in_ k hlt
      obtain ⟨x, hx⟩ : ∃ x : Int, (s[k].toNat : Int) = x := ⟨_, rfl⟩
      rw [hx] at hidx hc
      have HC := hide hc
      have hki : (k : Int) < (s.length : Int) := by omega
      clear hx hc
      have hkk : k = 0 ∨ k ≠ 0 := by omega
      rcases hkk with hk0 | hk0
      · have hkz : ((k : Int) == 0) = true := by simp [hk0]
        have HK := hide hk0; clear hk0
        rcases nm_cases x with ⟨c1, c2⟩ | ⟨c1, c2, c3⟩ | ⟨c1, c2, c3, c4, c5⟩ | ⟨c1, c2, c3, c4, c5⟩ | ⟨c1, c2, c3, c4⟩ | ⟨c1, c2, c3⟩ | ⟨c1, c2, c3, c4, c5, c6⟩ | ⟨c1, c2, c3, c4, c5, c6, c7⟩
        all_goals
          first
            | (exfalso; have h := HC.out; have h0 := HK.out; unfold nmC at h; simp at h; omega)
            | (go_wp2
               go_roundw
               case rel => exact ⟨k + 1, by omega, by go_num, by first | rfl | trivial⟩
               case measure => simp [intOf]; omega)
      · have hkz : ((k : Int) == 0) = false := by rw [beq_eq_false_iff_ne]; omega
        have HK := hide hk0; clear hk0
        rcases nm_cases x with ⟨c1, c2⟩ | ⟨c1, c2, c3⟩ | ⟨c1, c2, c3, c4, c5⟩ | ⟨c1, c2, c3, c4, c5⟩ | ⟨c1, c2, c3, c4⟩ | ⟨c1, c2, c3⟩ | ⟨c1, c2, c3, c4, c5, c6⟩ | ⟨c1, c2, c3, c4, c5, c6, c7⟩
        all_goals
          first
            | (exfalso; have h := HC.out; have h0 := HK.out; unfold nmC at h; simp at h; omega)
            | (go_wp2
               go_roundw
               case rel => exact ⟨k + 1, by omega, by go_num, by first | rfl | trivial⟩
               case measure => simp [intOf]; omega)
    · go_wp2
      go_ret
      exact ⟨rfl, rfl⟩
set_option maxRecDepth 100000 in
set_option maxHeartbeats 8000000 in
theorem bearerErr_yes (B C P : Int) (A : Option Addr) (c n : Nat) (T : List Int) (nm : Bs) (kd pr wt pw le bu ra de : Int) (w : World) (hn : T.length = n) (hs : Sl w A (iv T)) (h0 : 0 < n) (hl : n ≤ 1000) (ho : OkB T nm kd pr wt pw le bu ra de) :
    Calls Try.prog 9 #[.agg #[.int .i64 B, .int .i64 C, .int .i64 P, .slice A n c], .agg #[strV nm, .int .i64 kd, .int .i64 pr, .int .i64 wt, .int .i64 pw, .int .i64 le, .int .i64 bu, .int .i64 ra, .int .i64 de]] w fun e w' => e = .returned (.int .i64 0) ∧ Below w.heap.size w w' := by
  have HNM := hide (fun W => isName_yes nm W ho.nm_)
  have HIR := hide (fun W => isReport_ref B C P A c n le W h0 (by omega))
  have HT := hide ((((stay_blk (Blk.new w 24 #[.int .i64 B, .int .i64 C, .int .i64 P, .slice A n c])).alloc (.cells #[strV nm, .int .i64 kd, .int .i64 pr, .int .i64 wt, .int .i64 pw, .int .i64 le, .int .i64 bu, .int .i64 ra, .int .i64 de] 32)).and (stay_blk (blk_up w 24 32 #[.int .i64 B, .int .i64 C, .int .i64 P, .slice A n c] #[strV nm, .int .i64 kd, .int .i64 pr, .int .i64 wt, .int .i64 pw, .int .i64 le, .int .i64 bu, .int .i64 ra, .int .i64 de]))).and ((stay_sl (hs.alloc (.cells #[.int .i64 B, .int .i64 C, .int .i64 P, .slice A n c] 24))).alloc (.cells #[strV nm, .int .i64 kd, .int .i64 pr, .int .i64 wt, .int .i64 pw, .int .i64 le, .int .i64 bu, .int .i64 ra, .int .i64 de] 32)) |>.and (stay_below (((Below.refl _ w).alloc (Nat.le_refl _) (.cells #[.int .i64 B, .int .i64 C, .int .i64 P, .slice A n c] 24)).alloc (by simp) (.cells #[strV nm, .int .i64 kd, .int .i64 pr, .int .i64 wt, .int .i64 pw, .int .i64 le, .int .i64 bu, .int .i64 ra, .int .i64 de] 32))))
  have HN := hide hn
  have HO := hide ho
  have C1 := hide (show withinB kd 0 2 = true from by have := ho.kd_; simp [withinB]; omega)
  have C2 := hide (show withinB pr 0 100 = true from by have := ho.pr_; simp [withinB]; omega)
  have C3 := hide (show withinB wt 1 100 = true from by have := ho.wt_; simp [withinB]; omega)
  have C4 := hide (show withinB pw 0 100000 = true from by have := ho.pw_; simp [withinB]; omega)
  clear hn hs ho
  go_enter Try.func9, Try.ntmps9
  go_wp2_with fail
  go_at_call 23
  refine (HNM.out _).mono ?_
  rintro e w' ⟨rfl, rfl⟩
  clear HNM
  simp only []
  by_cases k0 : kd = 0
  · have hk : (kd == 0) = true := by rw [k0]; rfl
    obtain ⟨z0, z1, z2, z3⟩ := HO.out.best k0
    have y0 : (le != 0) = false := by rw [z0]; rfl
    have y1 : (bu != 0) = false := by rw [z1]; rfl
    have y2 : (ra != 0) = false := by rw [z2]; rfl
    have y3 : (de != 0) = false := by rw [z3]; rfl
    clear z0 z1 z2 z3 k0
    go_wp2_with (go_at_call 8; go_must (refine (within_base _ _ _ _).mono ?_; rintro e w' ⟨rfl, rfl⟩; (first | rw [C1.out] | rw [C2.out] | rw [C3.out] | rw [C4.out]); simp only []))
    go_ret
    exact ⟨rfl, HT.out.now.2⟩
  have hk : (kd == 0) = false := by rw [beq_eq_false_iff_ne]; exact k0
  obtain ⟨s1, s2, s3, s4, s5⟩ := HO.out.sure k0
  have C5 := hide (show withinB le 0 ((n : Int) - 1) = true from by have := HN.out; simp [withinB]; omega)
  have C6 := hide (show withinB bu 1 1000000 = true from by simp [withinB]; omega)
  have C7 := hide (show withinB ra 0 1000000 = true from by simp [withinB]; omega)
  have C8 := hide (show withinB de 1 1000 = true from by simp [withinB]; omega)
  obtain ⟨t, ht⟩ := Int.eq_ofNat_of_zero_le s1.1
  have htT : t < T.length := by omega
  have htn : t < n := by have := HN.out; omega
  obtain ⟨b, off, rfl, hd0⟩ := HT.out.now.1.2.int htT
  clear hd0
  have HTB := hide (fun W (h : Sl W (some ⟨b, off, none⟩) (iv T)) => show W.cell? ⟨b, off + t, none⟩ = some (.int .i64 T[t]) from by
    obtain ⟨b', off', e, d⟩ := h.int htT
    injection e with e
    injection e with e1 e2
    subst e1 e2
    exact d)
  obtain ⟨x, hx⟩ : ∃ x, T[t] = x := ⟨_, rfl⟩
  rw [hx] at HTB
  rw [ht, Int.toNat_natCast, List.getElem?_eq_getElem htT] at s5
  have hx0 : (x == 0) = false := by rw [beq_eq_false_iff_ne]; rw [← hx]; simpa using s5
  have g1 : (t : Int) < (n : Int) := by omega
  subst ht
  clear htT hx s1 s2 s3 s4 s5 k0 HO
  go_wp2_with (first
      | (go_at_call 8; go_must (refine (within_base _ _ _ _).mono ?_; rintro e w' ⟨rfl, rfl⟩; (first | rw [C1.out] | rw [C2.out] | rw [C3.out] | rw [C4.out] | rw [C6.out] | rw [C7.out] | rw [C8.out]); simp only []))
      | (go_at_call 24; go_must (refine (HIR.out _).mono ?_; rintro e w2 ⟨rfl, hb⟩; rw [C5.out]; replace HT := hide (HT.out.step hb); clear hb; have z5 : w2.cell? ⟨w.heap.size + 1, 5, none⟩ = some (.int .i64 (t : Int)) := HT.out.now.1.1.2.cell 5; have z6 : w2.cell? ⟨w.heap.size + 1, 6, none⟩ = some (.int .i64 bu) := HT.out.now.1.1.2.cell 6; have z7 : w2.cell? ⟨w.heap.size + 1, 7, none⟩ = some (.int .i64 ra) := HT.out.now.1.1.2.cell 7; have z8 : w2.cell? ⟨w.heap.size + 1, 8, none⟩ = some (.int .i64 de) := HT.out.now.1.1.2.cell 8; have z3 : w2.cell? ⟨w.heap.size, 3, none⟩ = some (.slice (some ⟨b, off, none⟩) n c) := HT.out.now.1.1.1.cell 3; have zt : w2.cell? ⟨b, off + t, none⟩ = some (.int .i64 x) := HTB.out _ HT.out.now.1.2; simp only [])))
  go_ret
  exact ⟨rfl, HT.out.now.2⟩
set_option maxRecDepth 100000 in
set_option maxHeartbeats 4000000 in
theorem siteErr_yes (B C P : Int) (A : Option Addr) (c n : Nat) (T : List Int) (w : World) (hn : T.length = n) (hs : Sl w A (iv T)) (hs2 : OkS B C P T) :
    Calls Try.prog 7 #[.agg #[.int .i64 B, .int .i64 C, .int .i64 P, .slice A n c]] w fun e w' => e = .returned (.int .i64 0) ∧ Below w.heap.size w w' := by
  have HS := hide hs; clear hs
  have h16 := hs2.few
  have hpos := hs2.pos
  have HO := hide hs2
  have HN := hide hn
  have HB0 := hide (show Below w.heap.size w (w.alloc (.cells #[.int .i64 B, .int .i64 C, .int .i64 P, .slice A n c] 24)) from (Below.refl _ _).alloc (Nat.le_refl _) _)
  have HX0 := hide (Blk.new w 24 #[.int .i64 B, .int .i64 C, .int .i64 P, .slice A n c])
  have H1 := hide (show withinB B 1 20 = true from by have := hs2.b; simp [withinB]; omega)
  have H2 := hide (show withinB C 1 8 = true from by have := hs2.c; simp [withinB]; omega)
  have H3 := hide (show withinB P 0 100000 = true from by have := hs2.p; simp [withinB]; omega)
  have hz : ((n : Int) == 0) = false := by rw [beq_eq_false_iff_ne]; omega
  have hg : ¬ (16 : Int) < (n : Int) := by omega
  have hn16 : n ≤ 16 := by omega
  clear hn hs2 h16 hpos
  go_enter Try.func7, Try.ntmps7
  go_wp2_with (go_at_call 8; go_must (refine (within_base _ _ _ _).mono ?_; rintro e w' ⟨rfl, rfl⟩; (first | rw [H1.out] | rw [H2.out] | rw [H3.out])))
  go_loopw [3] (fun i wr => ∃ k : Nat, k ≤ n ∧ i = .int .i64 k ∧ Blk wr w.heap.size 24 #[.int .i64 B, .int .i64 C, .int .i64 P, .slice A n c] ∧ Below w.heap.size w wr) (fun i _ => n - (intOf i).toNat)
  case atStart => exact ⟨0, Nat.zero_le _, rfl, HX0.out, HB0.out⟩
  case round =>
    obtain ⟨k, hk, rfl, hbx, hbel⟩ := hrel
    have HBX := hide hbx
    have HBE := hide hbel
    have z0 : wr.cell? ⟨w.heap.size, 3, none⟩ = some (.slice A n c) := hbx.cell 3
    clear hbx hbel
    by_cases hlt : k < n
    · have hkT : k < T.length := by rw [HN.out]; exact hlt
      obtain ⟨b, off, rfl, d0⟩ := HS.out.int hkT
      have d1 : wr.cell? ⟨b, off + k, none⟩ = some (.int .i64 T[k]) := (HBE.out.cell (lt_of_cell d0)).trans d0
      have hki : (k : Int) < (n : Int) := by omega
      have hR := HO.out.in_ k hkT
      obtain ⟨x, hx⟩ : ∃ x, T[k] = x := ⟨_, rfl⟩
      rw [hx] at d1 hR
      have H4 := hide (show withinB x 0 1000 = true from by simp [withinB]; omega)
      have HX := hide hx
      clear hx d0
      rcases (by cases k; exact .inl rfl; exact .inr ⟨_, rfl⟩ : k = 0 ∨ ∃ j, k = j + 1) with hk0 | ⟨j, hj⟩
      · have hd : decide (0 < k) = false := decide_eq_false (by omega)
        have HK0 := hide hk0; clear hk0
        go_wp2_with (go_at_call 8; go_must (refine (within_base _ _ _ _).mono ?_; rintro e w' ⟨rfl, rfl⟩; rw [H4.out]))
        go_quiet (fail)
        go_wp2
        go_roundw
        case rel => exact ⟨k + 1, by omega, by go_num, HBX.out.drewN _, below_drewN HBE.out _⟩
        case measure => simp [intOf]; omega
      · have hjT : j < T.length := by rw [HN.out]; omega
        obtain ⟨b', off', e, d2⟩ := HS.out.int hjT
        injection e with e
        injection e with e1 e2
        subst e1 e2
        have d3 : wr.cell? ⟨b, off + j, none⟩ = some (.int .i64 T[j]) := (HBE.out.cell (lt_of_cell d2)).trans d2
        have hasc : T[j] ≤ x := by
          subst hj
          rw [← HX.out]
          exact HO.out.asc j hkT
        obtain ⟨y, hy⟩ : ∃ y, T[j] = y := ⟨_, rfl⟩
        rw [hy] at d3 hasc
        have HJ := hide hj
        have hd : decide (0 < k) = true := decide_eq_true (by omega)
        have e1 : IntKind.i64.wrap ((k : Int) - 1) = (j : Int) := by rw [IntWalk.i64_in _ (by omega)]; omega
        have hji : (j : Int) < (n : Int) := by omega
        clear hy hj d2
        have hxy : ¬ x < y := by omega
        have hd2 : decide (x < y) = false := decide_eq_false hxy
        go_wp2_with (go_at_call 8; go_must (refine (within_base _ _ _ _).mono ?_; rintro e w' ⟨rfl, rfl⟩; rw [H4.out]))
        go_quiet (fail)
        go_wp2
        go_roundw
        case rel => exact ⟨k + 1, by omega, by go_num, HBX.out.drewN _, below_drewN HBE.out _⟩
        case measure => simp [intOf]; omega
    · go_wp2
      go_ret
      exact ⟨rfl, HBE.out⟩
end Go.Proofs.Ytppkibgemacdbaa
