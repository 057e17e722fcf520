import Derived.Test.YtppkibgemacdbaaSbD
namespace Go.Proofs.Ytppkibgemacdbaa
open Go.RowKit Go.WideShapes Go.ChangeShapes

/-! bearersErr, CheckBearers, openAll of right bearers -/
theorem brs_take {w : World} {D : Option Addr} {L : List Ber} (h : Brs w D L) (k : Nat) : Brs w D (L.take k) := fun j hj => by
  rw [List.length_take] at hj
  have hj' : j < L.length := by omega
  obtain ⟨b, o, e, hc⟩ := h j hj'
  refine ⟨b, o, e, ?_⟩
  rw [List.getElem_take]
  exact hc
theorem nm_new {L : List Ber} (h : (L.map (·.nm)).Nodup) (k : Nat) (hk : k < L.length) : nmIn (L.take k) L[k].nm = false := by
  unfold nmIn
  rw [List.any_eq_false]
  intro x hx
  obtain ⟨j, hj, rfl⟩ := List.getElem_of_mem hx
  rw [List.length_take] at hj
  rw [List.getElem_take]
  intro e
  have e' : L[j].nm = L[k].nm := by simpa using e
  have hjl : j < L.length := by omega
  have hn := (List.getElem_inj (xs := L.map (·.nm)) (i := j) (j := k) (h₀ := by simpa using hjl) (h₁ := by simpa using hk) h).1 (by simpa using e')
  omega
theorem bers_u : Try.prog.underlying 25 = some (.slice (Try.prog.elem 25)) := by kernel_rfl
theorem size_ber (w : World) : (sizeOf 32).run Try.prog w = .ok 9 w := by kernel_rfl
theorem slice_bers (b off len c k : Nat) (hk : k ≤ c) (hc : 0 < c) (w : World) : (Instr.sliceAt 25 (.slice (some ⟨b, off, none⟩) len c) none (some (.int .i64 (k : Int))) none).run Try.prog w = .ok (.slice (some ⟨b, off, none⟩) k c) w := by
  rw [run_sliceAt_slice w _ _ _ _ _ bers_u, run_slice_h w _ _ _ _ bers_u .i64 (k : Int) (by omega) (by omega), show Try.prog.elem 25 = 32 by kernel_rfl, size_ber]
  simp only [Result.andThen_ok, sliced, if_neg (show ¬ c = 0 by omega), Option.map_some, add_lit, Nat.zero_mul, Nat.add_zero, Nat.sub_zero, Int.toNat_natCast]
set_option maxRecDepth 100000 in
set_option maxHeartbeats 8000000 in
theorem bearersErr_all (B C P : Int) (A : Option Addr) (c n : Nat) (T : List Int) (L : List Ber) (D : Option Addr) (d m : Nat) (w : World) (hn : T.length = n) (hm : L.length = m) (hs : Sl w A (iv T)) (hs2 : OkS B C P T) (hL : OkL B C P T L) (hmd : m ≤ d) (hD : Brs w D L) :
    Calls Try.prog 60 #[.agg #[.int .i64 B, .int .i64 C, .int .i64 P, .slice A n c], .slice D m d] w fun e w' => e = .returned (.tuple #[.int .i64 0, .int .i64 0]) ∧ Below w.heap.size w w' := by
  have hl8 := hL.few
  have HF := hide (fun W k k2 => fit_all B C P A c n T L D d m W hn hm k hs2 hL.ok (by omega) k2)
  rw [hL.fit] at HF
  have HBE := hide (fun x W (hx : x ∈ L) k => bearerErr_all B C P A c n T x W hn k hs2 (hL.ok x hx))
  have HNN := hide (fun k (hk : k < L.length) => nm_new hL.names k hk)
  have HNA := hide (fun W k nm k2 => named_all (L.take k) nm D d (min k m) W (by rw [List.length_take, hm]) (by omega) k2)
  have HT := hide ((stay_sl hs).and (stay_brs hD))
  have hx0 := Blk.new w 74 #[.int .i64 B, .int .i64 C, .int .i64 P, .slice A n c]
  have hb0 : Below w.heap.size w (w.alloc (.cells #[.int .i64 B, .int .i64 C, .int .i64 P, .slice A n c] 74)) := (Below.refl _ w).alloc (Nat.le_refl _) _
  have HI := hide (And.intro hb0 hx0)
  clear hs hs2 hL hn hD hx0 hb0
  have hm8 : ¬ (8 : Int) < (m : Int) := by omega
  go_enter Try.func60, Try.ntmps60
  go_wp2_with fail
  obtain ⟨W3, hW3⟩ : ∃ W3, w.alloc (.cells #[.int .i64 B, .int .i64 C, .int .i64 P, .slice A n c] 74) = W3 := ⟨_, rfl⟩
  rw [hW3] at HI ⊢
  clear hW3
  go_loopw [14] (fun i wr => ∃ k : Nat, k ≤ m ∧ i = .int .i64 k ∧ (Below w.heap.size w wr ∧ Blk wr w.heap.size 74 #[.int .i64 B, .int .i64 C, .int .i64 P, .slice A n c])) (fun i _ => m - (intOf i).toNat)
  case atStart => exact ⟨0, Nat.zero_le _, rfl, HI.out⟩
  case round =>
    obtain ⟨k, hkm, rfl, hF⟩ := hrel
    clear HI
    replace hF := hide hF
    by_cases hlt : k < m
    · have hkl : k < L.length := by omega
      have hki : (k : Int) < (m : Int) := by omega
      obtain ⟨b, o, rfl, b0, b1, b2, b3, b4, b5, b6, b7, b8⟩ := (HT.out _ hF.out.1).2.at_ k hkl
      have hmem : L[k] ∈ L := List.getElem_mem hkl
      have HB1 := hide (fun W q => HBE.out L[k] W hmem q)
      have HN1 := hide (fun W q => HNA.out W k L[k].nm q)
      rw [HNN.out k hkl, Nat.min_eq_left (Nat.le_of_lt hlt)] at HN1
      have hsl := hide (fun W => slice_bers b o m d k (by omega) (by omega) W)
      obtain ⟨x, hx⟩ : ∃ x, L[k] = x := ⟨_, rfl⟩
      rw [hx] at HB1 HN1 b0 b1 b2 b3 b4 b5 b6 b7 b8
      have hzz := hF.out.2.lt
      clear hx hmem
      go_wp2_with (refine wpList_store_row rfl 32 (.tmp 7) (.tmp 18) rfl wr.heap.size #[strV x.nm, .int .i64 x.kd, .int .i64 x.pr, .int .i64 x.wt, .int .i64 x.pw, .int .i64 x.le, .int .i64 x.bu, .int .i64 x.ra, .int .i64 x.de] rfl rfl 32 #[.string ⟨#[]⟩, .int .i64 0, .int .i64 0, .int .i64 0, .int .i64 0, .int .i64 0, .int .i64 0, .int .i64 0, .int .i64 0] (Blk.new wr 32 #[.string ⟨#[]⟩, .int .i64 0, .int .i64 0, .int .i64 0, .int .i64 0, .int .i64 0, .int .i64 0, .int .i64 0, .int .i64 0]) (by kernel_rfl) rfl (by simp [Value.oneCell', strV]) ?_; have HZ := (Blk.new wr 32 #[.string ⟨#[]⟩, .int .i64 0, .int .i64 0, .int .i64 0, .int .i64 0, .int .i64 0, .int .i64 0, .int .i64 0, .int .i64 0]).row #[strV x.nm, .int .i64 x.kd, .int .i64 x.pr, .int .i64 x.wt, .int .i64 x.pw, .int .i64 x.le, .int .i64 x.bu, .int .i64 x.ra, .int .i64 x.de]; have hbz : Below wr.heap.size wr ((wr.alloc (.cells #[.string ⟨#[]⟩, .int .i64 0, .int .i64 0, .int .i64 0, .int .i64 0, .int .i64 0, .int .i64 0, .int .i64 0, .int .i64 0] 32)).setRow wr.heap.size #[strV x.nm, .int .i64 x.kd, .int .i64 x.pr, .int .i64 x.wt, .int .i64 x.pw, .int .i64 x.le, .int .i64 x.bu, .int .i64 x.ra, .int .i64 x.de]) := Below.row (g := wr.heap.size) ((Below.refl wr.heap.size wr).alloc (Nat.le_refl _) (.cells #[.string ⟨#[]⟩, .int .i64 0, .int .i64 0, .int .i64 0, .int .i64 0, .int .i64 0, .int .i64 0, .int .i64 0, .int .i64 0] 32)) (Nat.le_refl _) #[strV x.nm, .int .i64 x.kd, .int .i64 x.pr, .int .i64 x.wt, .int .i64 x.pw, .int .i64 x.le, .int .i64 x.bu, .int .i64 x.ra, .int .i64 x.de]; obtain ⟨W4, hW4⟩ : ∃ W4, (wr.alloc (.cells #[.string ⟨#[]⟩, .int .i64 0, .int .i64 0, .int .i64 0, .int .i64 0, .int .i64 0, .int .i64 0, .int .i64 0, .int .i64 0] 32)).setRow wr.heap.size #[strV x.nm, .int .i64 x.kd, .int .i64 x.pr, .int .i64 x.wt, .int .i64 x.pw, .int .i64 x.le, .int .i64 x.bu, .int .i64 x.ra, .int .i64 x.de] = W4 := ⟨_, rfl⟩; rw [hW4] at HZ hbz ⊢; have HQ := hide ((((stay_below hF.out.1).and (stay_blk hF.out.2)).step hbz).and (stay_blk HZ)); clear hW4 hbz HZ b0 b1 b2 b3 b4 b5 b6 b7 b8)
      refine wp_region_held_drew (S := fun w' => Below W4.heap.size W4 w') (by kernel_rfl) (below_drewN (Below.refl W4.heap.size W4) 1) (fun hHeld => ?_)
      refine take_at (i := 0) 19 (v := .agg #[.int .i64 B, .int .i64 C, .int .i64 P, .slice A n c]) rfl rfl (by kernel_rfl) (by kernel_rfl) (by kernel_rfl) (fun _ _ _ h => h) (Or.inl ⟨by rfl, by intro w_ hSw; have s0 : w_.cell? ⟨w.heap.size, 0, none⟩ = some (.int .i64 B) := (HQ.out _ hSw).1.2.cell 0; have s1 : w_.cell? ⟨w.heap.size, 1, none⟩ = some (.int .i64 C) := (HQ.out _ hSw).1.2.cell 1; have s2 : w_.cell? ⟨w.heap.size, 2, none⟩ = some (.int .i64 P) := (HQ.out _ hSw).1.2.cell 2; have s3 : w_.cell? ⟨w.heap.size, 3, none⟩ = some (.slice A n c) := (HQ.out _ hSw).1.2.cell 3; go_simp⟩) (by assumption) ?_
      try simp only [Act.put, List.setIfInBounds_toArray, List.set_cons_zero, List.set_cons_succ]
      refine take_at (i := 1) 20 (v := .agg #[strV x.nm, .int .i64 x.kd, .int .i64 x.pr, .int .i64 x.wt, .int .i64 x.pw, .int .i64 x.le, .int .i64 x.bu, .int .i64 x.ra, .int .i64 x.de]) rfl rfl (by kernel_rfl) (by kernel_rfl) (by kernel_rfl) (fun _ _ _ h => h) (Or.inl ⟨by rfl, by intro w_ hSw; have c0 : w_.cell? ⟨wr.heap.size, 0, none⟩ = some (strV x.nm) := (HQ.out _ hSw).2.cell 0; have c1 : w_.cell? ⟨wr.heap.size, 1, none⟩ = some (.int .i64 x.kd) := (HQ.out _ hSw).2.cell 1; have c2 : w_.cell? ⟨wr.heap.size, 2, none⟩ = some (.int .i64 x.pr) := (HQ.out _ hSw).2.cell 2; have c3 : w_.cell? ⟨wr.heap.size, 3, none⟩ = some (.int .i64 x.wt) := (HQ.out _ hSw).2.cell 3; have c4 : w_.cell? ⟨wr.heap.size, 4, none⟩ = some (.int .i64 x.pw) := (HQ.out _ hSw).2.cell 4; have c5 : w_.cell? ⟨wr.heap.size, 5, none⟩ = some (.int .i64 x.le) := (HQ.out _ hSw).2.cell 5; have c6 : w_.cell? ⟨wr.heap.size, 6, none⟩ = some (.int .i64 x.bu) := (HQ.out _ hSw).2.cell 6; have c7 : w_.cell? ⟨wr.heap.size, 7, none⟩ = some (.int .i64 x.ra) := (HQ.out _ hSw).2.cell 7; have c8 : w_.cell? ⟨wr.heap.size, 8, none⟩ = some (.int .i64 x.de) := (HQ.out _ hSw).2.cell 8; go_simp⟩) (by assumption) ?_
      try simp only [Act.put, List.setIfInBounds_toArray, List.set_cons_zero, List.set_cons_succ]
      refine take_at (i := 3) 22 (v := .slice (some ⟨b, o, none⟩) m d) rfl rfl (by kernel_rfl) (by kernel_rfl) (by kernel_rfl) (fun _ _ _ h => h) (Or.inl ⟨by rfl, by intro w_ hSw; go_simp⟩) (by assumption) ?_
      try simp only [Act.put, List.setIfInBounds_toArray, List.set_cons_zero, List.set_cons_succ]
      refine take_at (i := 4) 23 (v := .int .i64 (k : Int)) rfl rfl (by kernel_rfl) (by kernel_rfl) (by kernel_rfl) (fun _ _ _ h => h) (Or.inl ⟨by rfl, by intro w_ hSw; go_simp⟩) (by assumption) ?_
      try simp only [Act.put, List.setIfInBounds_toArray, List.set_cons_zero, List.set_cons_succ]
      refine take_at (i := 5) 24 (v := .slice (some ⟨b, o, none⟩) k d) rfl rfl (by kernel_rfl) (by kernel_rfl) (by kernel_rfl) (fun _ _ _ h => h) (Or.inl ⟨by rfl, by intro w_ hSw; have hw := hsl.out; go_simp⟩) (by assumption) ?_
      try simp only [Act.put, List.setIfInBounds_toArray, List.set_cons_zero, List.set_cons_succ]
      refine take_at (i := 6) 25 (v := .pointer (some ⟨wr.heap.size, 0, none⟩)) rfl rfl (by kernel_rfl) (by kernel_rfl) (by kernel_rfl) (fun _ _ _ h => h) (Or.inl ⟨by rfl, by intro w_ hSw; go_simp⟩) (by assumption) ?_
      try simp only [Act.put, List.setIfInBounds_toArray, List.set_cons_zero, List.set_cons_succ]
      refine take_at (i := 7) 26 (v := strV x.nm) rfl rfl (by kernel_rfl) (by kernel_rfl) (by kernel_rfl) (fun _ _ _ h => h) (Or.inl ⟨by rfl, by intro w_ hSw; have c0 : w_.cell? ⟨wr.heap.size, 0, none⟩ = some (strV x.nm) := (HQ.out _ hSw).2.cell 0; go_simp⟩) (by assumption) ?_
      try simp only [Act.put, List.setIfInBounds_toArray, List.set_cons_zero, List.set_cons_succ]
      refine wpAnyH_ready (rs := [2]) (by kernel_rfl) (by simp) ?_
      refine AllReadyH.cons rfl (fun K hK => ?_) AllReadyH.nil
      go_simp
      go_at_call 27
      refine (HB1.out _ (HT.out _ (HQ.out _ hHeld).1.1).1).mono ?_
      rintro e v1 ⟨rfl, hb⟩
      replace hHeld := Below.step hHeld hb
      clear hb
      simp only []
      refine hK.out _ _ hHeld (fun hHeld => ?_)
      clear hK K
      try simp only [Act.put, List.setIfInBounds_toArray, List.set_cons_zero, List.set_cons_succ]
      refine wpAnyH_ready (rs := [8]) (by kernel_rfl) (by simp) ?_
      refine AllReadyH.cons rfl (fun K hK => ?_) AllReadyH.nil
      go_simp
      go_at_call 29
      refine (HN1.out _ (brs_take (HT.out _ (HQ.out _ hHeld).1.1).2 k)).mono ?_
      rintro e v2 ⟨rfl, hb⟩
      replace hHeld := Below.step hHeld hb
      clear hb
      simp only []
      refine hK.out _ _ hHeld (fun hHeld => ?_)
      clear hK K
      try simp only [Act.put, List.setIfInBounds_toArray, List.set_cons_zero, List.set_cons_succ]
      refine take_at (i := 9) 28 (v := .bool true) rfl rfl (by kernel_rfl) (by kernel_rfl) (by kernel_rfl) (fun _ _ _ h => h) (Or.inl ⟨by rfl, by intro w_ hSw; go_simp⟩) (by assumption) ?_
      try simp only [Act.put, List.setIfInBounds_toArray, List.set_cons_zero, List.set_cons_succ]
      refine wpAnyH_ready (rs := [10]) (by kernel_rfl) (by simp) ?_
      refine AllReadyH.cons rfl (fun K hK => ?_) AllReadyH.nil
      go_simp
      go_at_call 28
      refine (unless_any true 5 _).mono ?_
      rintro e w' ⟨rfl, rfl⟩
      simp only [unlessE, if_true]
      refine hK.out _ _ hHeld (fun hHeld => ?_)
      clear hK K
      try simp only [Act.put, List.setIfInBounds_toArray, List.set_cons_zero, List.set_cons_succ]
      refine wpAnyH_ready (rs := [11]) (by kernel_rfl) (by simp) ?_
      refine AllReadyH.cons rfl (fun K hK => ?_) AllReadyH.nil
      go_simp
      replace hHeld := hHeld.alloc hHeld.size (.cells #[.int .i64 0, .int .i64 0] 36)
      refine hK.out _ _ hHeld (fun hHeld => ?_)
      clear hK K
      try simp only [Act.put, List.setIfInBounds_toArray, List.set_cons_zero, List.set_cons_succ]
      refine wpAnyH_ready (rs := [12]) (by kernel_rfl) (by simp) ?_
      refine AllReadyH.cons rfl (fun K hK => ?_) AllReadyH.nil
      go_simp
      go_at_call 26
      refine (first2 v2 _ 0 0 rfl).mono ?_
      rintro e w8 ⟨rfl, rfl⟩
      simp only [firstOf, if_true]
      refine hK.out _ _ hHeld (fun hHeld => ?_)
      clear hK K
      try simp only [Act.put, List.setIfInBounds_toArray, List.set_cons_zero, List.set_cons_succ]
      refine take_at (i := 13) 8 (v := .int .i64 0) rfl rfl (by kernel_rfl) (by kernel_rfl) (by kernel_rfl) (fun _ _ _ h => h) (Or.inl ⟨by rfl, by intro w_ hSw; go_simp⟩) (by assumption) ?_
      try simp only [Act.put, List.setIfInBounds_toArray, List.set_cons_zero, List.set_cons_succ]
      refine wpAnyH_done (by kernel_rfl) ?_ _
      replace HQ := hide (HQ.out.step hHeld)
      clear hHeld
      go_wp2_with fail
      go_roundw
      case rel => exact ⟨k + 1, by omega, by go_num, HQ.out.now.1⟩
      case measure => simp [intOf]; omega
    · obtain rfl : k = m := by omega
      have hki : ¬ (k : Int) < (k : Int) := by omega
      have s0 : wr.cell? ⟨w.heap.size, 0, none⟩ = some (.int .i64 B) := hF.out.2.cell 0
      have s1 : wr.cell? ⟨w.heap.size, 1, none⟩ = some (.int .i64 C) := hF.out.2.cell 1
      have s2 : wr.cell? ⟨w.heap.size, 2, none⟩ = some (.int .i64 P) := hF.out.2.cell 2
      have s3 : wr.cell? ⟨w.heap.size, 3, none⟩ = some (.slice A n c) := hF.out.2.cell 3
      go_wp2_with (first
        | (go_at_call 30; go_must (refine (HF.out _ (HT.out _ hF.out.1).1 (HT.out _ hF.out.1).2).mono ?_; rintro e w9 ⟨rfl, hb⟩; have hB9 := hide (Below.step hF.out.1 hb); clear hb s0 s1 s2 s3; simp only []))
        | (go_at_call 28; go_must (refine (unless_any true 16 _).mono ?_; rintro e w' ⟨rfl, rfl⟩; simp only [unlessE, if_true])))
      exact bodyPost_ret (v := .tuple #[.int .i64 0, .int .i64 0]) (by simp [results, Try.results60, go_sem]) rfl ⟨rfl, hB9.out⟩
theorem checkBearers_all (B C P : Int) (A : Option Addr) (c n : Nat) (T : List Int) (L : List Ber) (D : Option Addr) (d m : Nat) (w : World) (hn : T.length = n) (hm : L.length = m) (hs : Sl w A (iv T)) (hs2 : OkS B C P T) (hL : OkL B C P T L) (hmd : m ≤ d) (hD : Brs w D L) :
    Calls Try.prog 46 #[.agg #[.int .i64 B, .int .i64 C, .int .i64 P, .slice A n c], .slice D m d] w fun e w' => e = .returned (.tuple #[.int .i64 0, .int .i64 0]) ∧ Below w.heap.size w w' := by
  have HO := hide (fun W k => open_ok B C P A c n T W hn k hs2)
  have HE := hide (fun W k k2 => bearersErr_all B C P A c n T L D d m W hn hm k hs2 hL hmd k2)
  have HT := hide (((stay_brs hD).alloc (.cells #[.int .i64 B, .int .i64 C, .int .i64 P, .slice A n c] 24)).and ((stay_sl hs).alloc (.cells #[.int .i64 B, .int .i64 C, .int .i64 P, .slice A n c] 24)) |>.and (stay_below ((Below.refl _ w).alloc (Nat.le_refl _) (.cells #[.int .i64 B, .int .i64 C, .int .i64 P, .slice A n c] 24))))
  clear hs hs2 hL hn hD hm hmd
  go_enter Try.func46, Try.ntmps46
  go_wp2_with (first
    | (go_at_call 58; go_must (refine (HO.out _ HT.out.now.1.2).mono ?_; rintro e w1 ⟨rfl, hb⟩; replace HT := hide ((HT.out.step hb).alloc (.cells #[.int .i64 B, .int .i64 C, .int .i64 P, .slice A n c] 74)); clear hb; simp only []))
    | (go_at_call 60; go_must (refine (HE.out _ HT.out.now.1.2 HT.out.now.1.1).mono ?_; rintro e w2 ⟨rfl, hb⟩; replace HT := hide (HT.out.step hb); clear hb; simp only [])))
  exact bodyPost_ret (v := .tuple #[.int .i64 0, .int .i64 0]) (by simp [results, Try.results46, go_sem]) rfl ⟨rfl, HT.out.now.2⟩
theorem openAll_all (B C P : Int) (A : Option Addr) (c n : Nat) (T : List Int) (L : List Ber) (D : Option Addr) (d m : Nat) (w : World) (hn : T.length = n) (hm : L.length = m) (hs : Sl w A (iv T)) (hs2 : OkS B C P T) (hL : OkL B C P T L) (hmd : m ≤ d) (hD : Brs w D L) :
    Calls Try.prog 25 #[.agg #[.int .i64 B, .int .i64 C, .int .i64 P, .slice A n c], .slice D m d] w fun e w' => e = .returned (.tuple #[.agg #[.int .i64 B, .int .i64 C, .int .i64 P, .slice A n c], .int .i64 0]) ∧ Below w.heap.size w w' := by
  have HE := hide (fun W k k2 => checkBearers_all B C P A c n T L D d m W hn hm k hs2 hL hmd k2)
  have HT := hide ((((stay_blk (Blk.new w 24 #[.int .i64 B, .int .i64 C, .int .i64 P, .slice A n c])).alloc (.cells #[.int .i64 0, .int .i64 0, .int .i64 0, .slice none 0 0] 74)).and (stay_blk (blk_up w 24 74 #[.int .i64 B, .int .i64 C, .int .i64 P, .slice A n c] #[.int .i64 0, .int .i64 0, .int .i64 0, .slice none 0 0]))).and (((stay_sl (hs.alloc (.cells #[.int .i64 B, .int .i64 C, .int .i64 P, .slice A n c] 24))).alloc (.cells #[.int .i64 0, .int .i64 0, .int .i64 0, .slice none 0 0] 74)).and (((stay_brs hD).alloc (.cells #[.int .i64 B, .int .i64 C, .int .i64 P, .slice A n c] 24)).alloc (.cells #[.int .i64 0, .int .i64 0, .int .i64 0, .slice none 0 0] 74))) |>.and (stay_below (((Below.refl _ w).alloc (Nat.le_refl _) (.cells #[.int .i64 B, .int .i64 C, .int .i64 P, .slice A n c] 24)).alloc (by simp) (.cells #[.int .i64 0, .int .i64 0, .int .i64 0, .slice none 0 0] 74))))
  clear hs hs2 hL hn hD hm hmd
  go_enter Try.func25, Try.ntmps25
  go_wp2_with (first
    | (go_at_call 46; go_must (refine (HE.out _ HT.out.now.1.2.1 HT.out.now.1.2.2).mono ?_; rintro e w1 ⟨rfl, hb⟩; replace HT := hide (HT.out.step hb); clear hb; have z0 : w1.cell? ⟨w.heap.size, 0, none⟩ = some (.int .i64 B) := HT.out.now.1.1.1.cell 0; have z1 : w1.cell? ⟨w.heap.size, 1, none⟩ = some (.int .i64 C) := HT.out.now.1.1.1.cell 1; have z2 : w1.cell? ⟨w.heap.size, 2, none⟩ = some (.int .i64 P) := HT.out.now.1.1.1.cell 2; have z3 : w1.cell? ⟨w.heap.size, 3, none⟩ = some (.slice A n c) := HT.out.now.1.1.1.cell 3; simp only []))
    | (refine wpList_store_row rfl 74 (.tmp 4) (.tmp 15) rfl (w.heap.size + 1) #[.int .i64 B, .int .i64 C, .int .i64 P, .slice A n c] rfl rfl 74 #[.int .i64 0, .int .i64 0, .int .i64 0, .slice none 0 0] HT.out.now.1.1.2 (by kernel_rfl) rfl (by simp [Value.oneCell']) ?_))
  exact bodyPost_ret (results_row_tmp rfl _ _ (w.heap.size + 1) 74 #[.int .i64 B, .int .i64 C, .int .i64 P, .slice A n c] _ (.int .i64 0) rfl rfl (HT.out.now.1.1.2.row _) Try.underlying74 rfl (by kernel_rfl)) rfl ⟨rfl, Below.row HT.out.now.2 (by omega) _⟩
end Go.Proofs.Ytppkibgemacdbaa
