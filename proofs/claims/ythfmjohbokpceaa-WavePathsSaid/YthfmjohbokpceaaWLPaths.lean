import Derived.Test.YthfmjohbokpceaaWvDD
import Derived.Test.YthfmjohbokpceaaGuards
namespace Go.Proofs.Ythfmjohbokpceaa
open Go.RowKit Go.WideShapes Go.ChangeShapes

/-! the statement WavePaths -/
theorem small_all (l : List Nm) : (eachE numE l == 0) = l.all (fitsB 1000000000) := by
  cases h : l.all (fitsB 1000000000)
  · rw [beq_eq_false_iff_ne]
    intro h0
    have : l.all (fitsB 1000000000) = true := by
      rw [List.all_eq_true]
      intro x hx
      exact (fitsB_iff _ _).2 (numE_ok (eachE_ok h0 x hx))
    rw [h] at this
    exact absurd this (by decide)
  · rw [beq_iff_eq]
    refine eachE_zero fun x hx => ?_
    rw [List.all_eq_true] at h
    unfold numE unlessE
    rw [h x hx]; rfl
set_option maxRecDepth 100000 in
set_option maxHeartbeats 20000000 in
theorem WavePaths_law (A : Option Addr) (c : Nat) (l : List Pth) (B : Option Addr) (d : Nat) (x : List Nm) (w : World) (hs0 : Sl w A (pvs l)) (hs1 : Sl w B (nvs x)) :
    Calls Try.prog 10 #[.slice A l.length c, .slice B x.length d] w fun e w' => e = .returned (.bool true) ∧ Below w.heap.size w w' := by
  have HT := hide (((stay_sl hs0).and (stay_sl hs1)).and (stay_below (Below.refl w.heap.size w)))
  by_cases hl0 : 8 < l.length
  · clear HT hs0 hs1
    go_enter Try.func10, Try.ntmps10
    go_wp2_with (go_at_call 20; go_must (refine (awake_ok _).mono ?_; rintro e w1 ⟨rfl, hb1⟩; simp only []))
    go_ret
    exact ⟨rfl, hb1⟩
  have hl0' : l.length ≤ 8 := by omega
  by_cases hl1 : 122 < x.length
  · clear HT hs0 hs1
    go_enter Try.func10, Try.ntmps10
    go_wp2_with (go_at_call 20; go_must (refine (awake_ok _).mono ?_; rintro e w1 ⟨rfl, hb1⟩; simp only []))
    go_ret
    exact ⟨rfl, hb1⟩
  have hl1' : x.length ≤ 122 := by omega
  have hl : l.length ≤ 1000000 := by omega
  have hl' : x.length ≤ 1000000 := by omega
  clear hl0 hl1
  obtain ⟨p0, hp0⟩ : ∃ z, (pthV l).1 = z := ⟨_, rfl⟩
  obtain ⟨V, hV⟩ : ∃ z, (pthV l).2 = z := ⟨_, rfl⟩
  have HCP := hide (fun C k W (h : Sl W C (pvs l)) => by have := checkPaths_wave C k l W h hl; rw [hp0, hV] at this; exact this)
  have HCR := hide (fun W (h : Sl W A (pvs l)) => by have := checkPaths_ref A c l W h; rw [hp0, hV] at this; exact this)
  clear hp0
  by_cases hv : V = 0
  · subst hv
    obtain ⟨cs, hcs, hsz, hone, hq⟩ : ∃ cs, numArr (rspL l 8) 8 = cs ∧ cs.size = 32 ∧ cs.all (·.oneCell') = true ∧ ∀ w, (binOp .neq 96 (.agg cs) (.agg cs)).run Try.prog w = .ok (.bool false) w :=
      ⟨_, rfl, numArr_size _ 8 (by rw [rspL_len]; omega), numArr_one _ _, arr8_neq _ (by rw [rspL_len]; omega)⟩
    have HRP := hide (fun C k W (h : Sl W C (pvs l)) => by have := responseOf_ok C k l.length l W rfl h hV; rw [hcs] at this; exact this)
    have HRR := hide (fun W (h : Sl W A (pvs l)) => by have := responseOf_ref A c l.length l W rfl h hV; rw [hcs] at this; exact this)
    have HSZ := hide hsz
    obtain ⟨S, HSM, E, m, L, HTH, hcase⟩ : ∃ S : Int, Hid (∀ W, Sl W B (nvs x) → Calls Try.prog 51 #[.slice B x.length d] W fun e w' => e = .returned (.int .i64 S) ∧ Below W.heap.size W w') ∧
      ∃ (E : Int) (m : Nat) (L : List Nm), Hid (∀ C D k k' W, Sl W C (pvs l) → Sl W D (nvs x) → Calls Try.prog 26 #[.slice C l.length k, .slice D x.length k'] W fun e w' => ∃ G q, e = .returned (.tuple #[.slice G m q, .int .i64 E]) ∧ Sl w' G (nvs L) ∧ Below W.heap.size W w') ∧
      ((E = S ∧ (S != 0) = true ∧ m = 0) ∨ (S = 0 ∧ ∃ L2 : List Nm, Hid (∀ W, Sl W A (pvs l) → Sl W B (nvs x) → Calls Try.prog 68 #[.slice A l.length c, .slice B x.length d] W fun e w' => ∃ G q, e = .returned (.slice G x.length q) ∧ Sl w' G (nvs L2) ∧ Below W.heap.size W w') ∧
        ((E = 8 ∧ m = 0 ∧ Hid (∀ G q W, Sl W G (nvs L2) → Calls Try.prog 69 #[.slice G x.length q] W fun e w' => e = .returned (.bool false) ∧ Below W.heap.size W w')) ∨
         (E = 0 ∧ m = x.length ∧ Hid (∀ G q W, Sl W G (nvs L2) → Calls Try.prog 69 #[.slice G x.length q] W fun e w' => e = .returned (.bool true) ∧ Below W.heap.size W w') ∧
           Hid (∀ G q G' q' W, Sl W G (nvs L) → Sl W G' (nvs L2) → Calls Try.prog 52 #[.slice G x.length q, .slice G' x.length q'] W fun e w' => e = .returned (.bool true) ∧ ∃ q, w' = W.drewN q))))) := by
      refine ⟨smpE x, hide (fun W h => samplesErr_ref B d x W h hl'), ?_⟩
      have hth : thE l x = smpE x := by
        unfold thE firstOf
        rw [if_pos hV, firstOf]
        split
        · rename_i h; rw [h]; rfl
        · rfl
      by_cases hS : smpE x = 0
      · have h0 := hth.trans hS
        have hLl : (thL l x x.length).length = x.length := tab_len _ _
        cases hall : (thL l x x.length).all (fitsB 1000000000)
        · refine ⟨8, 0, [], hide (fun C D k k' W h h' => (Through_ok C D k k' l.length x.length l x W rfl rfl h h' h0).mono fun e w' ⟨wt, ht, hb⟩ => ?_), .inr ⟨hS, thL l x x.length, hide (fun W h h' => through_ref A B c d l.length x.length l x W rfl rfl h h' h0), .inl ⟨rfl, rfl, hide (fun G q W h => ?_)⟩⟩⟩
          · rcases ht with ⟨h1, _, _⟩ | ⟨_, h2, h3⟩
            · rw [hall] at h1; exact absurd h1 (by decide)
            · exact ⟨none, 0, h2, fun k hk => absurd hk (by simp [nvs]), Below.step hb h3⟩
          · have := areSmall_ref G q _ W h (by omega)
            rw [small_all, hall, hLl] at this
            exact this
        · refine ⟨0, x.length, thL l x x.length, hide (fun C D k k' W h h' => (Through_ok C D k k' l.length x.length l x W rfl rfl h h' h0).mono fun e w' ⟨wt, ht, hb⟩ => ?_), .inr ⟨hS, thL l x x.length, hide (fun W h h' => through_ref A B c d l.length x.length l x W rfl rfl h h' h0), .inr ⟨rfl, rfl, hide (fun G q W h => ?_), hide (fun G q G' q' W h h' => ?_)⟩⟩⟩
          · rcases ht with ⟨_, ⟨G, q, h2, h4⟩, h3⟩ | ⟨h1, _, _⟩
            · rw [hLl] at h2
              exact ⟨G, q, h2, h4, Below.step hb h3⟩
            · rw [hall] at h1; exact absurd h1 (by decide)
          · have := areSmall_ref G q _ W h (by omega)
            rw [small_all, hall, hLl] at this
            exact this
          · have := sameNum G G' q q' _ _ W h h' (by omega) (by omega)
            rw [hLl, decide_eq_true rfl] at this
            exact this
      · refine ⟨smpE x, 0, [], hide (fun C D k k' W h h' => ?_), .inl ⟨rfl, by rw [bne_iff_ne]; exact hS, rfl⟩⟩
        have := Through_err C D k k' l x W h h' hl hl' (by rw [hth]; exact hS)
        rw [hth] at this
        exact this.mono fun e w' ⟨h3, h4⟩ => ⟨none, 0, h3, fun k hk => absurd hk (by simp [nvs]), h4⟩
    clear hs0 hs1 hcs hsz hV
    rcases hcase with ⟨rfl, hS1, rfl⟩ | ⟨rfl, L2, HTR, ⟨rfl, rfl, HSA⟩ | ⟨rfl, rfl, HSA, HSAME⟩⟩
    all_goals
      go_enter Try.func10, Try.ntmps10
      go_wp2_with (first
        | (go_at_call 20; go_must (refine (awake_ok _).mono ?_; rintro e w1 ⟨rfl, hb⟩; replace HT := hide (HT.out.step hb); clear hb; simp only []))
        | (go_at_call 64; go_must (refine (copyPath _ c l _ HT.out.now.1.1 hl).mono ?_; rintro e w2 ⟨D, kd, rfl, ho, hb⟩; replace HT := hide (HT.out.step hb); have HDL := hide (Sl.of_ownN ho); (try replace HSL := hide (HSL.out.step hb)); clear hb ho; simp only []))
        | (go_at_call 49; go_must (refine (copyNum _ d x _ HT.out.now.1.2 hl').mono ?_; rintro e w3 ⟨D', kd', rfl, ho, hb⟩; replace HT := hide (HT.out.step hb); replace HDL := hide (HDL.out.bel hb); have HDX := hide (Sl.of_ownN ho); clear hb ho; simp only []))
        | (go_at_call 63; go_must (refine (HCP.out _ _ _ HDL.out).mono ?_; rintro e w4 ⟨rfl, hb⟩; replace HT := hide (HT.out.step hb); clear hb HDL; simp only []))
        | (go_at_call 26; go_must (refine (HTH.out _ _ _ _ _ HDL.out HDX.out).mono ?_; rintro e w5 ⟨G, q, rfl, hg, hb⟩; replace HT := hide (HT.out.step hb); have HSL := hide (stay_sl hg); clear hb hg HDL HDX; simp only []))
        | (go_at_call 65; go_must (refine (HRP.out _ _ _ HDL.out).mono ?_; rintro e w8 ⟨rfl, hb⟩; replace HT := hide (HT.out.step hb); replace HSL := hide (HSL.out.step hb); clear hb HDL; simp only []))
        | (refine wpList_store_row rfl 96 (.tmp 9) (.tmp 42) rfl w8.heap.size cs rfl rfl 96 (numArr [] 8) (Blk.new w8 _ _) (by rw [HSZ.out]; kernel_rfl) (by rw [HSZ.out]; rfl) hone ?_; have hrow : Below w8.heap.size w8 ((w8.alloc (.cells (numArr [] 8) 96)).setRow w8.heap.size cs) := Below.row ((Below.refl _ _).alloc (Nat.le_refl _) _) (Nat.le_refl _) _; replace HT := hide (HT.out.step hrow); replace HSL := hide (HSL.out.step hrow); have HB := hide (stay_blk ((Blk.new w8 96 (numArr [] 8)).row cs)); clear hrow)
        | (go_at_call 66; go_must (refine (HCR.out _ (by exact HT.out.now.1.1)).mono ?_; rintro e w9 ⟨rfl, hb⟩; replace HT := hide (HT.out.step hb); replace HSL := hide (HSL.out.step hb); replace HB := hide (HB.out.step hb); clear hb; simp only [])))
      have HH0 := hide (show (fun w' => Blk w' w8.heap.size 96 cs ∧ Below w9.heap.size w9 w') w9.drew from ⟨HB.out.now, below_drewN (Below.refl _ _) 1⟩)
      refine wp_region_held_drew (S := fun w' => Blk w' w8.heap.size 96 cs ∧ Below w9.heap.size w9 w') (by kernel_rfl) HH0.out (fun hHeld => ?_)
      refine take_at (i := 0) 77 (v := .int .i64 0) rfl rfl (by kernel_rfl) (by kernel_rfl) (by kernel_rfl) (fun _ _ _ h => h) (Or.inl ⟨by rfl, by intro w hSw; go_simp⟩) (by assumption) ?_
      try simp only [Act.put, List.setIfInBounds_toArray, List.set_cons_zero, List.set_cons_succ]
      refine take_at (i := 1) 78 (v := .bool false) rfl rfl (by kernel_rfl) (by kernel_rfl) (by kernel_rfl) (fun _ _ _ h => h) (Or.inl ⟨by rfl, by intro w hSw; go_simp⟩) (by assumption) ?_
      try simp only [Act.put, List.setIfInBounds_toArray, List.set_cons_zero, List.set_cons_succ]
      refine take_at (i := 2) 79 (v := .bool false) rfl rfl (by kernel_rfl) (by kernel_rfl) (by kernel_rfl) (fun _ _ _ h => h) (Or.inl ⟨by rfl, by intro w hSw; go_simp⟩) (by assumption) ?_
      try simp only [Act.put, List.setIfInBounds_toArray, List.set_cons_zero, List.set_cons_succ]
      refine take_at (i := 3) 80 (v := .agg cs) rfl rfl (by kernel_rfl) (by kernel_rfl) (by kernel_rfl) (fun _ _ _ h => h) (yields_arr w8.heap.size (by rfl) (.tmp 9) rfl rfl (fun _ h => h.1) Try.underlying96 rfl (by rw [HSZ.out]; kernel_rfl)) (by assumption) ?_
      try simp only [Act.put, List.setIfInBounds_toArray, List.set_cons_zero, List.set_cons_succ]
      refine take_at (i := 4) 81 (v := .slice A l.length c) rfl rfl (by kernel_rfl) (by kernel_rfl) (by kernel_rfl) (fun _ _ _ h => h) (Or.inl ⟨by rfl, by intro w hSw; go_simp⟩) (by assumption) ?_
      try simp only [Act.put, List.setIfInBounds_toArray, List.set_cons_zero, List.set_cons_succ]
      refine wpAnyH_ready (rs := [5]) (by kernel_rfl) (by simp) ?_
      refine AllReadyH.cons rfl (fun K hK => ?_) AllReadyH.nil
      go_simp
      refine (HRR.out _ ((HT.out.step HH0.out.2).now.1.1)).mono ?_
      rintro e w10 ⟨rfl, hb⟩
      have HH1 := hide (show (fun w' => Blk w' w8.heap.size 96 cs ∧ Below w9.heap.size w9 w') w10 from ⟨HH0.out.1.below hb HH0.out.1.lt, Below.step HH0.out.2 hb⟩)
      clear hb
      simp only []
      refine hK.out _ _ HH1.out (fun hHeld => ?_)
      clear hK K
      try simp only [Act.put, List.setIfInBounds_toArray, List.set_cons_zero, List.set_cons_succ]
      refine take_at (i := 6) 83 (v := .bool false) rfl rfl (by kernel_rfl) (by kernel_rfl) (by kernel_rfl) (fun _ _ _ h => h) (Or.inl ⟨by rfl, by intro w hSw; go_simp⟩) (by assumption) ?_
      try simp only [Act.put, List.setIfInBounds_toArray, List.set_cons_zero, List.set_cons_succ]
      refine take_at (i := 7) 84 (v := .bool false) rfl rfl (by kernel_rfl) (by kernel_rfl) (by kernel_rfl) (fun _ _ _ h => h) (Or.inl ⟨by rfl, by intro w hSw; go_simp⟩) (by assumption) ?_
      try simp only [Act.put, List.setIfInBounds_toArray, List.set_cons_zero, List.set_cons_succ]
      refine wpAnyH_done (by kernel_rfl) ?_ _
      replace HT := hide (HT.out.step HH1.out.2)
      replace HSL := hide (HSL.out.step HH1.out.2)
      go_wp2_with (first
        | (go_at_call 51; go_must (refine (HSM.out _ HT.out.now.1.2).mono ?_; rintro e w11 ⟨rfl, hb⟩; replace HT := hide (HT.out.step hb); replace HSL := hide (HSL.out.step hb); clear hb; simp only []))
        | (go_at_call 68; go_must (refine (HTR.out _ HT.out.now.1.1 HT.out.now.1.2).mono ?_; rintro e w12 ⟨G2, q2, rfl, hg, hb⟩; replace HT := hide (HT.out.step hb); replace HSL := hide (HSL.out.step hb); have HW := hide (stay_sl hg); clear hb hg; simp only []))
        | (go_at_call 69; go_must (refine (HSA.out _ _ _ HW.out.now).mono ?_; rintro e w13 ⟨rfl, hb⟩; replace HT := hide (HT.out.step hb); replace HSL := hide (HSL.out.step hb); replace HW := hide (HW.out.step hb); clear hb; simp only []))
        | (go_at_call 52; go_must (refine (HSAME.out _ _ _ _ _ HSL.out.now HW.out.now).mono ?_; rintro e w14 ⟨rfl, q9, rfl⟩; replace HT := hide (HT.out.drewN q9); simp only [])))
      go_ret
      exact ⟨rfl, HT.out.now.2⟩
  · have HTH := hide (show ∀ C D k k' W, Sl W C (pvs l) → Sl W D (nvs x) → Calls Try.prog 26 #[.slice C l.length k, .slice D x.length k'] W fun e w' => ∃ G q, e = .returned (.tuple #[.slice G 0 q, .int .i64 V]) ∧ Sl w' G (nvs []) ∧ Below W.heap.size W w' from fun C D k k' W h h' => by
      have hth : thE l x = V := by unfold thE firstOf; rw [hV, if_neg hv]
      have := Through_err C D k k' l x W h h' hl hl' (by rw [hth]; exact hv)
      rw [hth] at this
      exact this.mono fun e w' ⟨h3, h4⟩ => ⟨none, 0, h3, fun k hk => absurd hk (by simp [nvs]), h4⟩)
    have HRP := hide (fun C k W (h : Sl W C (pvs l)) => by have := ResponseOf_err C k l W h hl (by rw [hV]; exact hv); rw [hV] at this; exact this)
    have hq : ∀ w, (binOp .eql 96 (.agg (numArr [] 8)) (.agg #[.int .i64 0, .int .i64 0, .int .i64 0, .int .i64 0, .int .i64 0, .int .i64 0, .int .i64 0, .int .i64 0, .int .i64 0, .int .i64 0, .int .i64 0, .int .i64 0, .int .i64 0, .int .i64 0, .int .i64 0, .int .i64 0, .int .i64 0, .int .i64 0, .int .i64 0, .int .i64 0, .int .i64 0, .int .i64 0, .int .i64 0, .int .i64 0, .int .i64 0, .int .i64 0, .int .i64 0, .int .i64 0, .int .i64 0, .int .i64 0, .int .i64 0, .int .i64 0])).run Try.prog w = .ok (.bool true) w := fun w => arr8_eql [] (by simp) w
    obtain ⟨cs, hcs, hsz, hone⟩ : ∃ cs, numArr [] 8 = cs ∧ cs.size = 32 ∧ cs.all (·.oneCell') = true := ⟨_, rfl, numArr_size _ 8 (by simp), numArr_one _ _⟩
    rw [hcs] at HRP hq
    have HSZ := hide hsz
    have hv1 : (V != 0) = true := by rw [bne_iff_ne]; exact hv
    have hv2 : (V == 0) = false := by rw [beq_eq_false_iff_ne]; exact hv
    clear hs0 hs1 hcs hsz hV hv
    go_enter Try.func10, Try.ntmps10
    go_wp2_with (first
      | (go_at_call 20; go_must (refine (awake_ok _).mono ?_; rintro e w1 ⟨rfl, hb⟩; replace HT := hide (HT.out.step hb); clear hb; simp only []))
      | (go_at_call 64; go_must (refine (copyPath _ c l _ HT.out.now.1.1 hl).mono ?_; rintro e w2 ⟨D, kd, rfl, ho, hb⟩; replace HT := hide (HT.out.step hb); have HDL := hide (Sl.of_ownN ho); (try replace HSL := hide (HSL.out.step hb)); clear hb ho; simp only []))
      | (go_at_call 49; go_must (refine (copyNum _ d x _ HT.out.now.1.2 hl').mono ?_; rintro e w3 ⟨D', kd', rfl, ho, hb⟩; replace HT := hide (HT.out.step hb); replace HDL := hide (HDL.out.bel hb); have HDX := hide (Sl.of_ownN ho); clear hb ho; simp only []))
      | (go_at_call 63; go_must (refine (HCP.out _ _ _ HDL.out).mono ?_; rintro e w4 ⟨rfl, hb⟩; replace HT := hide (HT.out.step hb); clear hb HDL; simp only []))
      | (go_at_call 26; go_must (refine (HTH.out _ _ _ _ _ HDL.out HDX.out).mono ?_; rintro e w5 ⟨G, q, rfl, hg, hb⟩; replace HT := hide (HT.out.step hb); have HSL := hide (stay_sl hg); clear hb hg HDL HDX; simp only []))
      | (go_at_call 65; go_must (refine (HRP.out _ _ _ HDL.out).mono ?_; rintro e w8 ⟨rfl, hb⟩; replace HT := hide (HT.out.step hb); replace HSL := hide (HSL.out.step hb); clear hb HDL; simp only []))
      | (refine wpList_store_row rfl 96 (.tmp 9) (.tmp 42) rfl w8.heap.size cs rfl rfl 96 (numArr [] 8) (Blk.new w8 _ _) (by rw [HSZ.out]; kernel_rfl) (by rw [HSZ.out]; rfl) hone ?_; have hrow : Below w8.heap.size w8 ((w8.alloc (.cells (numArr [] 8) 96)).setRow w8.heap.size cs) := Below.row ((Below.refl _ _).alloc (Nat.le_refl _) _) (Nat.le_refl _) _; replace HT := hide (HT.out.step hrow); replace HSL := hide (HSL.out.step hrow); have HB := hide (stay_blk ((Blk.new w8 96 (numArr [] 8)).row cs)); clear hrow)
      | (go_at_call 66; go_must (refine (HCR.out _ (by exact HT.out.now.1.1)).mono ?_; rintro e w9 ⟨rfl, hb⟩; replace HT := hide (HT.out.step hb); replace HSL := hide (HSL.out.step hb); replace HB := hide (HB.out.step hb); clear hb; simp only []))
      | (refine wpList_load_rowG 96 (.tmp 9) rfl (by rfl) w8.heap.size rfl 96 cs _ HB.out.now Try.underlying96 rfl (by rw [HSZ.out]; kernel_rfl) ?_))
    go_ret
    exact ⟨rfl, HT.out.now.2⟩
end Go.Proofs.Ythfmjohbokpceaa
