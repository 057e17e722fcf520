import Derived.Test.YtppkibgemacdbaaScF
namespace Go.Proofs.Ytppkibgemacdbaa
open Go.RowKit Go.WideShapes Go.ChangeShapes

/-! the reference: bearers that are right together have no error -/
set_option maxRecDepth 100000 in
set_option maxHeartbeats 8000000 in
theorem checkBearers_ref (B C P : Int) (A : Option Addr) (c n : Nat) (T : List Int) (L : List Ber) (D : Option Addr) (d m : Nat) (w : World) (hn : T.length = n) (hm : L.length = m) (hs : Sl w A (iv T)) (hs2 : OkS B C P T) (hL : OkL B C P T L) (hmd : m ≤ d) (hD : Brs w D L) :
    Calls Try.prog 35 #[.agg #[.int .i64 B, .int .i64 C, .int .i64 P, .slice A n c], .slice D m d] w fun e w' => e = .returned (.tuple #[.int .i64 0, .int .i64 0]) ∧ Below w.heap.size w w' := by
  have hl8 := hL.few
  have HF := hide (fun W k k2 => fit_ref B C P A c n T L D d m W hn hm k hs2 hL k2)
  have HBE := hide (fun (x : Ber) W (hx : x ∈ L) k => bearerErr_yes B C P A c n T x.nm x.kd x.pr x.wt x.pw x.le x.bu x.ra x.de W hn k (by have := hs2.pos; omega) (by have := hs2.few; omega) (hL.ok x hx))
  have HNN := hide (fun k (hk : k < L.length) => nm_new hL.names k hk)
  have HNA := hide (fun W k nm k2 k3 => find_none (L.take k) nm D d (min k m) W (by rw [List.length_take, hm]) (by omega) k2 k3)
  have HT := hide ((stay_sl hs).and (stay_brs hD))
  have hx0 := Blk.new w 24 #[.int .i64 B, .int .i64 C, .int .i64 P, .slice A n c]
  have hb0 : Below w.heap.size w (w.alloc (.cells #[.int .i64 B, .int .i64 C, .int .i64 P, .slice A n c] 24)) := (Below.refl _ w).alloc (Nat.le_refl _) _
  have HI := hide (And.intro hb0 hx0)
  clear hs hs2 hL hn hD hx0 hb0
  have hm8 : ¬ (8 : Int) < (m : Int) := by omega
  go_enter Try.func35, Try.ntmps35
  go_wp2_with fail
  obtain ⟨W3, hW3⟩ : ∃ W3, w.alloc (.cells #[.int .i64 B, .int .i64 C, .int .i64 P, .slice A n c] 24) = W3 := ⟨_, rfl⟩
  rw [hW3] at HI ⊢
  clear hW3
  go_loopw [6] (fun i wr => ∃ k : Nat, k ≤ m ∧ i = .int .i64 k ∧ (Below w.heap.size w wr ∧ Blk wr w.heap.size 24 #[.int .i64 B, .int .i64 C, .int .i64 P, .slice A n c])) (fun i _ => m - (intOf i).toNat)
  case atStart => exact ⟨0, Nat.zero_le _, rfl, HI.out⟩
  case round =>
    obtain ⟨k, hkm, rfl, hF⟩ := hrel
    clear HI
    replace hF := hide hF
    by_cases hlt : k < m
    · have hkl : k < L.length := by omega
      have hki : (k : Int) < (m : Int) := by omega
      obtain ⟨b, o, rfl, b0, b1, b2, b3, b4, b5, b6, b7, b8⟩ := (HT.out _ hF.out.1).2.at_ k hkl
      have hmem : L[k] ∈ L := List.getElem_mem hkl
      have HB1 := hide (fun W q => HBE.out (L[k]'hkl) W hmem q)
      have HN1 := hide (fun W q q2 => HNA.out W k (L[k]'hkl).nm q q2)
      have hno := HNN.out k hkl
      rw [Nat.min_eq_left (Nat.le_of_lt hlt)] at HN1
      have hsl := fun W => slice_bers b o m d k (by omega) (by omega) W
      obtain ⟨x, hx⟩ : ∃ x, L[k] = x := ⟨_, rfl⟩
      rw [hx] at HB1 HN1 hno b0 b1 b2 b3 b4 b5 b6 b7 b8
      replace hno := hide hno
      have HB0 := hide (And.intro b0 (And.intro b1 (And.intro b2 (And.intro b3 (And.intro b4 (And.intro b5 (And.intro b6 (And.intro b7 b8))))))))
      have HQ := hide ((stay_below hF.out.1).and (stay_blk hF.out.2))
      clear hx hmem b0 b1 b2 b3 b4 b5 b6 b7 b8
      go_wp2_with fail
      refine wp_region_held_drew (S := fun w_ => Below wr.heap.size wr w_) (by kernel_rfl) (below_drewN (Below.refl wr.heap.size wr) 1) (fun hHeld => ?_)
      refine take_at (i := 0) 17 (v := .agg #[.int .i64 B, .int .i64 C, .int .i64 P, .slice A n c]) rfl rfl (by kernel_rfl) (by kernel_rfl) (by kernel_rfl) (fun _ _ _ h => h) (Or.inl ⟨by rfl, by intro w_ hSw; have hq := (HQ.out _ hSw).2; have c0 : w_.cell? ⟨w.heap.size, 0, none⟩ = some (.int .i64 B) := hq.cell 0; have c1 : w_.cell? ⟨w.heap.size, 1, none⟩ = some (.int .i64 C) := hq.cell 1; have c2 : w_.cell? ⟨w.heap.size, 2, none⟩ = some (.int .i64 P) := hq.cell 2; have c3 : w_.cell? ⟨w.heap.size, 3, none⟩ = some (.slice A n c) := hq.cell 3; go_simp⟩) (by assumption) ?_
      try simp only [Act.put, List.setIfInBounds_toArray, List.set_cons_zero, List.set_cons_succ]
      refine take_at (i := 1) 18 (v := .slice (some ⟨b, o, none⟩) m d) rfl rfl (by kernel_rfl) (by kernel_rfl) (by kernel_rfl) (fun _ _ _ h => h) (Or.inl ⟨by rfl, by intro w_ hSw; go_simp⟩) (by assumption) ?_
      try simp only [Act.put, List.setIfInBounds_toArray, List.set_cons_zero, List.set_cons_succ]
      refine take_at (i := 2) 19 (v := .int .i64 (k : Int)) rfl rfl (by kernel_rfl) (by kernel_rfl) (by kernel_rfl) (fun _ _ _ h => h) (Or.inl ⟨by rfl, by intro w_ hSw; go_simp⟩) (by assumption) ?_
      try simp only [Act.put, List.setIfInBounds_toArray, List.set_cons_zero, List.set_cons_succ]
      refine take_at (i := 3) 20 (v := .pointer (some ⟨b, o + k * 9, none⟩)) rfl rfl (by kernel_rfl) (by kernel_rfl) (by kernel_rfl) (fun _ _ _ h => h) (Or.inl ⟨by rfl, by intro w_ hSw; go_simp⟩) (by assumption) ?_
      try simp only [Act.put, List.setIfInBounds_toArray, List.set_cons_zero, List.set_cons_succ]
      refine take_at (i := 4) 21 (v := .agg #[strV x.nm, .int .i64 x.kd, .int .i64 x.pr, .int .i64 x.wt, .int .i64 x.pw, .int .i64 x.le, .int .i64 x.bu, .int .i64 x.ra, .int .i64 x.de]) rfl rfl (by kernel_rfl) (by kernel_rfl) (by kernel_rfl) (fun _ _ _ h => h) (Or.inl ⟨by rfl, by intro w_ hSw; obtain ⟨b0, b1, b2, b3, b4, b5, b6, b7, b8⟩ := HB0.out; replace b0 := (hSw.cell (lt_of_cell b0)).trans b0; replace b1 := (hSw.cell (lt_of_cell b1)).trans b1; replace b2 := (hSw.cell (lt_of_cell b2)).trans b2; replace b3 := (hSw.cell (lt_of_cell b3)).trans b3; replace b4 := (hSw.cell (lt_of_cell b4)).trans b4; replace b5 := (hSw.cell (lt_of_cell b5)).trans b5; replace b6 := (hSw.cell (lt_of_cell b6)).trans b6; replace b7 := (hSw.cell (lt_of_cell b7)).trans b7; replace b8 := (hSw.cell (lt_of_cell b8)).trans b8; go_simp⟩) (by assumption) ?_
      try simp only [Act.put, List.setIfInBounds_toArray, List.set_cons_zero, List.set_cons_succ]
      refine wpAnyH_ready (rs := [5]) (by kernel_rfl) (by simp) ?_
      refine AllReadyH.cons rfl (fun K hK => ?_) AllReadyH.nil
      go_simp
      go_at_call 9
      refine (HB1.out _ (HT.out _ (HQ.out _ hHeld).1).1).mono ?_
      rintro e v1 ⟨rfl, hb⟩
      replace hHeld := Below.step hHeld hb
      clear hb
      simp only []
      refine hK.out _ _ hHeld (fun hHeld => ?_)
      clear hK K
      try simp only [Act.put, List.setIfInBounds_toArray, List.set_cons_zero, List.set_cons_succ]
      refine take_at (i := 6) 7 (v := .int .i64 0) rfl rfl (by kernel_rfl) (by kernel_rfl) (by kernel_rfl) (fun _ _ _ h => h) (Or.inl ⟨by rfl, by intro w_ hSw; go_simp⟩) (by assumption) ?_
      try simp only [Act.put, List.setIfInBounds_toArray, List.set_cons_zero, List.set_cons_succ]
      refine wpAnyH_done (by kernel_rfl) ?_ _
      have hB1 := hide hHeld
      replace HQ := hide (HQ.out.step hHeld)
      clear hHeld
      go_wp2_with fail
      refine wp_region_held_drew (S := fun w_ => Below v1.heap.size v1 w_) (by kernel_rfl) (below_drewN (Below.refl v1.heap.size v1) 1) (fun hHeld => ?_)
      refine take_at (i := 0) 27 (v := .slice (some ⟨b, o, none⟩) m d) rfl rfl (by kernel_rfl) (by kernel_rfl) (by kernel_rfl) (fun _ _ _ h => h) (Or.inl ⟨by rfl, by intro w_ hSw; go_simp⟩) (by assumption) ?_
      try simp only [Act.put, List.setIfInBounds_toArray, List.set_cons_zero, List.set_cons_succ]
      refine take_at (i := 1) 28 (v := .int .i64 (k : Int)) rfl rfl (by kernel_rfl) (by kernel_rfl) (by kernel_rfl) (fun _ _ _ h => h) (Or.inl ⟨by rfl, by intro w_ hSw; go_simp⟩) (by assumption) ?_
      try simp only [Act.put, List.setIfInBounds_toArray, List.set_cons_zero, List.set_cons_succ]
      refine take_at (i := 2) 29 (v := .slice (some ⟨b, o, none⟩) k d) rfl rfl (by kernel_rfl) (by kernel_rfl) (by kernel_rfl) (fun _ _ _ h => h) (Or.inl ⟨by rfl, by intro w_ hSw; go_simp⟩) (by assumption) ?_
      try simp only [Act.put, List.setIfInBounds_toArray, List.set_cons_zero, List.set_cons_succ]
      refine take_at (i := 3) 30 (v := .slice (some ⟨b, o, none⟩) m d) rfl rfl (by kernel_rfl) (by kernel_rfl) (by kernel_rfl) (fun _ _ _ h => h) (Or.inl ⟨by rfl, by intro w_ hSw; go_simp⟩) (by assumption) ?_
      try simp only [Act.put, List.setIfInBounds_toArray, List.set_cons_zero, List.set_cons_succ]
      refine take_at (i := 4) 31 (v := .int .i64 (k : Int)) rfl rfl (by kernel_rfl) (by kernel_rfl) (by kernel_rfl) (fun _ _ _ h => h) (Or.inl ⟨by rfl, by intro w_ hSw; go_simp⟩) (by assumption) ?_
      try simp only [Act.put, List.setIfInBounds_toArray, List.set_cons_zero, List.set_cons_succ]
      refine take_at (i := 5) 32 (v := .pointer (some ⟨b, o + k * 9, none⟩)) rfl rfl (by kernel_rfl) (by kernel_rfl) (by kernel_rfl) (fun _ _ _ h => h) (Or.inl ⟨by rfl, by intro w_ hSw; go_simp⟩) (by assumption) ?_
      try simp only [Act.put, List.setIfInBounds_toArray, List.set_cons_zero, List.set_cons_succ]
      refine take_at (i := 6) 33 (v := .pointer (some ⟨b, o + k * 9, none⟩)) rfl rfl (by kernel_rfl) (by kernel_rfl) (by kernel_rfl) (fun _ _ _ h => h) (Or.inl ⟨by rfl, by intro w_ hSw; go_simp⟩) (by assumption) ?_
      try simp only [Act.put, List.setIfInBounds_toArray, List.set_cons_zero, List.set_cons_succ]
      refine take_at (i := 7) 34 (v := strV x.nm) rfl rfl (by kernel_rfl) (by kernel_rfl) (by kernel_rfl) (fun _ _ _ h => h) (Or.inl ⟨by rfl, by intro w_ hSw; have b0 := (Below.step hB1.out hSw).cell (lt_of_cell HB0.out.1) |>.trans HB0.out.1; go_simp⟩) (by assumption) ?_
      try simp only [Act.put, List.setIfInBounds_toArray, List.set_cons_zero, List.set_cons_succ]
      refine wpAnyH_ready (rs := [8]) (by kernel_rfl) (by simp) ?_
      refine AllReadyH.cons rfl (fun K hK => ?_) AllReadyH.nil
      go_simp
      go_at_call 52
      refine (HN1.out _ (brs_take (HT.out _ (HQ.out _ hHeld).1).2 k) hno.out).mono ?_
      rintro e w' ⟨rfl, rfl⟩
      simp only []
      refine hK.out _ _ hHeld (fun hHeld => ?_)
      clear hK K
      try simp only [Act.put, List.setIfInBounds_toArray, List.set_cons_zero, List.set_cons_succ]
      refine take_at (i := 9) 36 (v := .bool false) rfl rfl (by kernel_rfl) (by kernel_rfl) (by kernel_rfl) (fun _ _ _ h => h) (Or.inl ⟨by rfl, by intro w_ hSw; go_simp⟩) (by assumption) ?_
      try simp only [Act.put, List.setIfInBounds_toArray, List.set_cons_zero, List.set_cons_succ]
      refine wpAnyH_done (by kernel_rfl) ?_ _
      replace HQ := hide (HQ.out.step hHeld)
      clear hHeld
      go_wp2_with fail
      exact ⟨⟨k + 1, by omega, by go_num, HQ.out.now⟩, by simp [intOf]; omega⟩
    · obtain rfl : k = m := by omega
      have hki : ¬ (k : Int) < (k : Int) := by omega
      have s0 : wr.cell? ⟨w.heap.size, 0, none⟩ = some (.int .i64 B) := hF.out.2.cell 0
      have s1 : wr.cell? ⟨w.heap.size, 1, none⟩ = some (.int .i64 C) := hF.out.2.cell 1
      have s2 : wr.cell? ⟨w.heap.size, 2, none⟩ = some (.int .i64 P) := hF.out.2.cell 2
      have s3 : wr.cell? ⟨w.heap.size, 3, none⟩ = some (.slice A n c) := hF.out.2.cell 3
      go_wp2_with (go_at_call 53; go_must (refine (HF.out _ (HT.out _ hF.out.1).1 (HT.out _ hF.out.1).2).mono ?_; rintro e w9 ⟨rfl, hb⟩; have hB9 := hide (Below.step hF.out.1 hb); clear hb s0 s1 s2 s3; simp only []))
      exact bodyPost_ret (v := .tuple #[.int .i64 0, .int .i64 0]) (by simp [results, Try.results35, go_sem]) rfl ⟨rfl, hB9.out⟩
set_option maxRecDepth 100000 in
set_option maxHeartbeats 4000000 in
theorem bothErr_ref (B C P : Int) (A : Option Addr) (c n : Nat) (T : List Int) (L : List Ber) (D : Option Addr) (d m : Nat) (w : World) (hn : T.length = n) (hm : L.length = m) (hs : Sl w A (iv T)) (hs2 : OkS B C P T) (hL : OkL B C P T L) (hmd : m ≤ d) (hD : Brs w D L) :
    Calls Try.prog 13 #[.agg #[.int .i64 B, .int .i64 C, .int .i64 P, .slice A n c], .slice D m d] w fun e w' => e = .returned (.int .i64 0) ∧ Below w.heap.size w w' := by
  have HC := hide (fun W k k2 => checkBearers_ref B C P A c n T L D d m W hn hm k hs2 hL hmd k2)
  have HS := hide (fun W k => siteErr_yes B C P A c n T W hn k hs2)
  have HT : Hid (Stay (w.alloc (.cells #[.int .i64 B, .int .i64 C, .int .i64 P, .slice A n c] 24)) (fun W => ((Blk W w.heap.size 24 #[.int .i64 B, .int .i64 C, .int .i64 P, .slice A n c] ∧ Sl W A (iv T)) ∧ Brs W D L) ∧ Below w.heap.size w W)) := hide ((((stay_blk (Blk.new w 24 #[.int .i64 B, .int .i64 C, .int .i64 P, .slice A n c])).and (stay_sl (hs.alloc (.cells #[.int .i64 B, .int .i64 C, .int .i64 P, .slice A n c] 24)))).and ((stay_brs hD).alloc (.cells #[.int .i64 B, .int .i64 C, .int .i64 P, .slice A n c] 24))).and (stay_below ((Below.refl _ w).alloc (Nat.le_refl _) (.cells #[.int .i64 B, .int .i64 C, .int .i64 P, .slice A n c] 24))))
  clear hs hs2 hL hD hn
  go_enter Try.func13, Try.ntmps13
  go_wp2_with fail
  go_at_call 7
  refine (HS.out _ HT.out.now.1.1.2).mono ?_
  rintro e w1 ⟨rfl, hb⟩
  replace HT := hide (HT.out.step hb)
  clear hb HS
  have s0 : w1.cell? ⟨w.heap.size, 0, none⟩ = some (.int .i64 B) := HT.out.now.1.1.1.cell 0
  have s1 : w1.cell? ⟨w.heap.size, 1, none⟩ = some (.int .i64 C) := HT.out.now.1.1.1.cell 1
  have s2 : w1.cell? ⟨w.heap.size, 2, none⟩ = some (.int .i64 P) := HT.out.now.1.1.1.cell 2
  have s3 : w1.cell? ⟨w.heap.size, 3, none⟩ = some (.slice A n c) := HT.out.now.1.1.1.cell 3
  simp only []
  go_wp2_with (go_at_call 35; go_must (refine (HC.out _ HT.out.now.1.1.2 HT.out.now.1.2).mono ?_; rintro e w2 ⟨rfl, hb⟩; replace HT := hide (HT.out.step hb); clear hb s0 s1 s2 s3; simp only []))
  go_ret
  exact ⟨rfl, HT.out.now.2⟩
end Go.Proofs.Ytppkibgemacdbaa
