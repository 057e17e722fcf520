import Derived.Test.YtfolipkbcibgdaaGrQ
namespace Go.Proofs.Ytfolipkbcibgdaa
open Go.RowKit Go.WideShapes Go.ChangeShapes

/-! a right carrier has no error -/
theorem prts_now {P : List Prt} {b o : Nat} {w : World} (h : Prts w (some ⟨b, o, none⟩) P) (k : Nat) (hk : k < P.length) : w.cell? ⟨b, o + k * 3, none⟩ = some (.int .i64 (P[k]).mu) ∧ w.cell? ⟨b, o + k * 3 + 1, none⟩ = some (.int .i64 (P[k]).fi) ∧ w.cell? ⟨b, o + k * 3 + 2, none⟩ = some (.int .i64 (P[k]).bl) := by
  obtain ⟨b', o', e, c⟩ := h.at_ k hk
  injection e with e; injection e with e1 e2; subst e1 e2
  exact c
set_option maxRecDepth 100000 in
set_option maxHeartbeats 8000000 in
theorem checkCarrier_ok (nm : Bs) (ce wi : Int) (PA SA : Option Addr) (pc sc : Nat) (P : List Prt) (S : List Sig) (w : World) (hnm : OkN nm) (hc : OkCr ce wi P S) (hP : Prts w PA P) (hS : Sigs w SA S) :
    Calls Try.prog 52 #[.agg #[strV nm, .int .i64 ce, .int .i64 wi, .slice PA P.length pc, .slice SA S.length sc]] w fun e w' => e = .returned (.tuple #[.agg #[.int .i64 0, .int .i64 0], .int .i64 0]) ∧ Below w.heap.size w w' := by
  have HIN := hide (fun W => isName_grid nm W hnm)
  have hce := hc.ce_
  have hwi := hc.wi_
  have hpn := hc.pn
  have hsn := hc.sn
  have HPE := hide (fun (p : Prt) W (hp : p ∈ P) => partErr_ok (strV nm) ce wi (.slice PA P.length pc) (.slice SA S.length sc) p W (hc.ps p hp) hc.wi_)
  have HSE := hide (fun (s : Sig) W (hs : s ∈ S) k => signalErr_ok (strV nm) ce wi PA pc (.slice SA S.length sc) P S s W hc (hc.ss s hs) k)
  obtain ⟨pn, hpl⟩ : ∃ x, P.length = x := ⟨_, rfl⟩
  obtain ⟨sn, hsl⟩ : ∃ x, S.length = x := ⟨_, rfl⟩
  have g1 : (0 : Int) < (pn : Int) := by omega
  have g0 : 0 < pn := by omega
  have g2 : (pn : Int) ≤ 4 := by omega
  have g3 : ¬ (12 : Int) < (sn : Int) := by omega
  have HT : Hid (Stay ((w.alloc (.cells #[strV nm, .int .i64 ce, .int .i64 wi, .slice PA P.length pc, .slice SA S.length sc] 25)).alloc (.cells #[.int .i64 0, .int .i64 0] 49)) (fun W => ((((Blk W w.heap.size 25 #[strV nm, .int .i64 ce, .int .i64 wi, .slice PA P.length pc, .slice SA S.length sc] ∧ Blk W (w.heap.size + 1) 49 #[.int .i64 0, .int .i64 0]) ∧ Below w.heap.size w W) ∧ Prts W PA P) ∧ Sigs W SA S))) := hide
    ((((((stay_blk (Blk.new w 25 #[strV nm, .int .i64 ce, .int .i64 wi, .slice PA P.length pc, .slice SA S.length sc])).alloc (.cells #[.int .i64 0, .int .i64 0] 49)).and (stay_blk (blk_up w 25 49 #[strV nm, .int .i64 ce, .int .i64 wi, .slice PA P.length pc, .slice SA S.length sc] #[.int .i64 0, .int .i64 0]))).and (stay_below (((Below.refl _ w).alloc (Nat.le_refl _) (.cells #[strV nm, .int .i64 ce, .int .i64 wi, .slice PA P.length pc, .slice SA S.length sc] 25)).alloc (by simp) (.cells #[.int .i64 0, .int .i64 0] 49)))).and (((stay_rws hP).alloc (.cells #[strV nm, .int .i64 ce, .int .i64 wi, .slice PA P.length pc, .slice SA S.length sc] 25)).alloc (.cells #[.int .i64 0, .int .i64 0] 49))).and (((stay_rws hS).alloc (.cells #[strV nm, .int .i64 ce, .int .i64 wi, .slice PA P.length pc, .slice SA S.length sc] 25)).alloc (.cells #[.int .i64 0, .int .i64 0] 49)))
  clear hP hS hc hnm
  rw [hpl, hsl] at HT HPE HSE ⊢
  obtain ⟨W0, hW0⟩ : ∃ W0, (w.alloc (.cells #[strV nm, .int .i64 ce, .int .i64 wi, .slice PA pn pc, .slice SA sn sc] 25)).alloc (.cells #[.int .i64 0, .int .i64 0] 49) = W0 := ⟨_, rfl⟩
  rw [hW0] at HT
  go_enter Try.func52, Try.ntmps52
  go_wp2_with fail
  first | rw [hW0] | skip
  clear hW0
  refine wp_region_held_drew (S := fun w_ => Below W0.heap.size W0 w_) (by kernel_rfl) (below_drewN (Below.refl W0.heap.size W0) 1) (fun hHeld => ?_)
  refine take_at (i := 0) 11 (v := .pointer (some ⟨w.heap.size, 0, none⟩)) rfl rfl (by kernel_rfl) (by kernel_rfl) (by kernel_rfl) (fun _ _ _ h => h) (Or.inl ⟨by rfl, by intro w_ hSw; go_simp⟩) (by assumption) ?_
  try simp only [Act.put, List.setIfInBounds_toArray, List.set_cons_zero, List.set_cons_succ]
  refine take_at (i := 1) 12 (v := strV nm) rfl rfl (by kernel_rfl) (by kernel_rfl) (by kernel_rfl) (fun _ _ _ h => h) (Or.inl ⟨by rfl, by intro w_ hSw; have c0 : w_.cell? ⟨w.heap.size, 0, none⟩ = some (strV nm) := (HT.out _ hSw).1.1.1.1.cell 0; go_simp⟩) (by assumption) ?_
  try simp only [Act.put, List.setIfInBounds_toArray, List.set_cons_zero, List.set_cons_succ]
  refine take_at (i := 4) 15 (v := .pointer (some ⟨w.heap.size, 1, none⟩)) rfl rfl (by kernel_rfl) (by kernel_rfl) (by kernel_rfl) (fun _ _ _ h => h) (Or.inl ⟨by rfl, by intro w_ hSw; go_simp⟩) (by assumption) ?_
  try simp only [Act.put, List.setIfInBounds_toArray, List.set_cons_zero, List.set_cons_succ]
  refine take_at (i := 5) 16 (v := .int .i64 ce) rfl rfl (by kernel_rfl) (by kernel_rfl) (by kernel_rfl) (fun _ _ _ h => h) (Or.inl ⟨by rfl, by intro w_ hSw; have c1 : w_.cell? ⟨w.heap.size, 1, none⟩ = some (.int .i64 ce) := (HT.out _ hSw).1.1.1.1.cell 1; go_simp⟩) (by assumption) ?_
  try simp only [Act.put, List.setIfInBounds_toArray, List.set_cons_zero, List.set_cons_succ]
  refine take_at (i := 13) 24 (v := .pointer (some ⟨w.heap.size, 3, none⟩)) rfl rfl (by kernel_rfl) (by kernel_rfl) (by kernel_rfl) (fun _ _ _ h => h) (Or.inl ⟨by rfl, by intro w_ hSw; go_simp⟩) (by assumption) ?_
  try simp only [Act.put, List.setIfInBounds_toArray, List.set_cons_zero, List.set_cons_succ]
  refine take_at (i := 14) 25 (v := .slice PA pn pc) rfl rfl (by kernel_rfl) (by kernel_rfl) (by kernel_rfl) (fun _ _ _ h => h) (Or.inl ⟨by rfl, by intro w_ hSw; have c3 : w_.cell? ⟨w.heap.size, 3, none⟩ = some (.slice PA pn pc) := (HT.out _ hSw).1.1.1.1.cell 3; go_simp⟩) (by assumption) ?_
  try simp only [Act.put, List.setIfInBounds_toArray, List.set_cons_zero, List.set_cons_succ]
  refine take_at (i := 15) 26 (v := .int .i64 (pn : Int)) rfl rfl (by kernel_rfl) (by kernel_rfl) (by kernel_rfl) (fun _ _ _ h => h) (Or.inl ⟨by rfl, by intro w_ hSw; go_simp⟩) (by assumption) ?_
  try simp only [Act.put, List.setIfInBounds_toArray, List.set_cons_zero, List.set_cons_succ]
  refine take_at (i := 16) 27 (v := .bool true) rfl rfl (by kernel_rfl) (by kernel_rfl) (by kernel_rfl) (fun _ _ _ h => h) (Or.inl ⟨by rfl, by intro w_ hSw; go_simp⟩) (by assumption) ?_
  try simp only [Act.put, List.setIfInBounds_toArray, List.set_cons_zero, List.set_cons_succ]
  refine take_at (i := 18) 29 (v := .pointer (some ⟨w.heap.size, 3, none⟩)) rfl rfl (by kernel_rfl) (by kernel_rfl) (by kernel_rfl) (fun _ _ _ h => h) (Or.inl ⟨by rfl, by intro w_ hSw; go_simp⟩) (by assumption) ?_
  try simp only [Act.put, List.setIfInBounds_toArray, List.set_cons_zero, List.set_cons_succ]
  refine take_at (i := 19) 30 (v := .slice PA pn pc) rfl rfl (by kernel_rfl) (by kernel_rfl) (by kernel_rfl) (fun _ _ _ h => h) (Or.inl ⟨by rfl, by intro w_ hSw; have c3 : w_.cell? ⟨w.heap.size, 3, none⟩ = some (.slice PA pn pc) := (HT.out _ hSw).1.1.1.1.cell 3; go_simp⟩) (by assumption) ?_
  try simp only [Act.put, List.setIfInBounds_toArray, List.set_cons_zero, List.set_cons_succ]
  refine take_at (i := 20) 31 (v := .int .i64 (pn : Int)) rfl rfl (by kernel_rfl) (by kernel_rfl) (by kernel_rfl) (fun _ _ _ h => h) (Or.inl ⟨by rfl, by intro w_ hSw; go_simp⟩) (by assumption) ?_
  try simp only [Act.put, List.setIfInBounds_toArray, List.set_cons_zero, List.set_cons_succ]
  refine take_at (i := 21) 32 (v := .bool true) rfl rfl (by kernel_rfl) (by kernel_rfl) (by kernel_rfl) (fun _ _ _ h => h) (Or.inl ⟨by rfl, by intro w_ hSw; go_simp⟩) (by assumption) ?_
  try simp only [Act.put, List.setIfInBounds_toArray, List.set_cons_zero, List.set_cons_succ]
  refine wpAnyH_ready (rs := [2]) (by kernel_rfl) (by simp) ?_
  refine AllReadyH.cons rfl (fun K hK => ?_) AllReadyH.nil
  go_simp
  go_at_call 64
  refine (HIN.out _).mono ?_
  rintro e v1_1 ⟨rfl, hb⟩
  replace hHeld := Below.step hHeld hb
  clear hb
  try simp only []
  refine hK.out _ _ hHeld (fun hHeld => ?_)
  clear hK K
  try simp only [Act.put, List.setIfInBounds_toArray, List.set_cons_zero, List.set_cons_succ]
  refine wpAnyH_ready (rs := [3]) (by kernel_rfl) (by simp) ?_
  refine AllReadyH.cons rfl (fun K hK => ?_) AllReadyH.nil
  go_simp
  go_at_call 23
  refine (unless_yes _ _).mono ?_
  rintro e w' ⟨rfl, rfl⟩
  try simp only []
  refine hK.out _ _ hHeld (fun hHeld => ?_)
  clear hK K
  try simp only [Act.put, List.setIfInBounds_toArray, List.set_cons_zero, List.set_cons_succ]
  refine wpAnyH_ready (rs := [6]) (by kernel_rfl) (by simp) ?_
  refine AllReadyH.cons rfl (fun K hK => ?_) AllReadyH.nil
  go_simp
  go_at_call 37
  refine (within_yes _ _ _ (by omega) _).mono ?_
  rintro e w' ⟨rfl, rfl⟩
  try simp only []
  refine hK.out _ _ hHeld (fun hHeld => ?_)
  clear hK K
  try simp only [Act.put, List.setIfInBounds_toArray, List.set_cons_zero, List.set_cons_succ]
  refine take_at (i := 7) 18 (v := .bool true) rfl rfl (by kernel_rfl) (by kernel_rfl) (by kernel_rfl) (fun _ _ _ h => h) (Or.inl ⟨by rfl, by intro w_ hSw; go_simp⟩) (by assumption) ?_
  try simp only [Act.put, List.setIfInBounds_toArray, List.set_cons_zero, List.set_cons_succ]
  refine take_at (i := 8) 19 (v := .pointer (some ⟨w.heap.size, 2, none⟩)) rfl rfl (by kernel_rfl) (by kernel_rfl) (by kernel_rfl) (fun _ _ _ h => h) (Or.inl ⟨by rfl, by intro w_ hSw; go_simp⟩) (by assumption) ?_
  try simp only [Act.put, List.setIfInBounds_toArray, List.set_cons_zero, List.set_cons_succ]
  refine take_at (i := 9) 20 (v := .int .i64 wi) rfl rfl (by kernel_rfl) (by kernel_rfl) (by kernel_rfl) (fun _ _ _ h => h) (Or.inl ⟨by rfl, by intro w_ hSw; have c2 : w_.cell? ⟨w.heap.size, 2, none⟩ = some (.int .i64 wi) := (HT.out _ hSw).1.1.1.1.cell 2; go_simp⟩) (by assumption) ?_
  try simp only [Act.put, List.setIfInBounds_toArray, List.set_cons_zero, List.set_cons_succ]
  refine wpAnyH_ready (rs := [10]) (by kernel_rfl) (by simp) ?_
  refine AllReadyH.cons rfl (fun K hK => ?_) AllReadyH.nil
  go_simp
  go_at_call 37
  refine (within_yes _ _ _ (by omega) _).mono ?_
  rintro e w' ⟨rfl, rfl⟩
  try simp only []
  refine hK.out _ _ hHeld (fun hHeld => ?_)
  clear hK K
  try simp only [Act.put, List.setIfInBounds_toArray, List.set_cons_zero, List.set_cons_succ]
  refine take_at (i := 11) 22 (v := .bool true) rfl rfl (by kernel_rfl) (by kernel_rfl) (by kernel_rfl) (fun _ _ _ h => h) (Or.inl ⟨by rfl, by intro w_ hSw; go_simp⟩) (by assumption) ?_
  try simp only [Act.put, List.setIfInBounds_toArray, List.set_cons_zero, List.set_cons_succ]
  refine wpAnyH_ready (rs := [12]) (by kernel_rfl) (by simp) ?_
  refine AllReadyH.cons rfl (fun K hK => ?_) AllReadyH.nil
  go_simp
  go_at_call 23
  refine (unless_yes _ _).mono ?_
  rintro e w' ⟨rfl, rfl⟩
  try simp only []
  refine hK.out _ _ hHeld (fun hHeld => ?_)
  clear hK K
  try simp only [Act.put, List.setIfInBounds_toArray, List.set_cons_zero, List.set_cons_succ]
  refine wpAnyH_ready (rs := [17]) (by kernel_rfl) (by simp) ?_
  refine AllReadyH.cons rfl (fun K hK => ?_) AllReadyH.nil
  go_simp
  go_at_call 23
  refine (unless_yes _ _).mono ?_
  rintro e w' ⟨rfl, rfl⟩
  try simp only []
  refine hK.out _ _ hHeld (fun hHeld => ?_)
  clear hK K
  try simp only [Act.put, List.setIfInBounds_toArray, List.set_cons_zero, List.set_cons_succ]
  refine wpAnyH_ready (rs := [22]) (by kernel_rfl) (by simp) ?_
  refine AllReadyH.cons rfl (fun K hK => ?_) AllReadyH.nil
  go_simp
  go_at_call 23
  refine (unless_yes _ _).mono ?_
  rintro e w' ⟨rfl, rfl⟩
  try simp only []
  refine hK.out _ _ hHeld (fun hHeld => ?_)
  clear hK K
  try simp only [Act.put, List.setIfInBounds_toArray, List.set_cons_zero, List.set_cons_succ]
  refine wpAnyH_ready (rs := [23]) (by kernel_rfl) (by simp) ?_
  refine AllReadyH.cons rfl (fun K hK => ?_) AllReadyH.nil
  go_simp
  refine hK.out _ _ (hHeld.alloc hHeld.size _) (fun hHeld => ?_)
  clear hK K
  try simp only [Act.put, List.setIfInBounds_toArray, List.set_cons_zero, List.set_cons_succ]
  refine wpAnyH_ready (rs := [24]) (by kernel_rfl) (by simp) ?_
  refine AllReadyH.cons rfl (fun K hK => ?_) AllReadyH.nil
  go_simp
  go_at_call 20
  refine (first_z4 _ _ (by first | rfl | simp)).mono ?_
  rintro e w' ⟨rfl, rfl⟩
  try simp only []
  refine hK.out _ _ hHeld (fun hHeld => ?_)
  clear hK K
  try simp only [Act.put, List.setIfInBounds_toArray, List.set_cons_zero, List.set_cons_succ]
  refine take_at (i := 25) 4 (v := .int .i64 0) rfl rfl (by kernel_rfl) (by kernel_rfl) (by kernel_rfl) (fun _ _ _ h => h) (Or.inl ⟨by rfl, by intro w_ hSw; go_simp⟩) (by assumption) ?_
  try simp only [Act.put, List.setIfInBounds_toArray, List.set_cons_zero, List.set_cons_succ]
  refine wpAnyH_done (by kernel_rfl) ?_ _
  replace HT := hide (HT.out.step hHeld)
  clear hHeld HIN
  obtain ⟨W1, hW1⟩ : ∃ W1, (v1_1.alloc (.cells #[.int .i64 0, .int .i64 0, .int .i64 0, .int .i64 0] 35)) = W1 := ⟨_, rfl⟩
  rw [hW1] at HT ⊢
  clear hW1
  have c3 : W1.cell? ⟨w.heap.size, 3, none⟩ = some (.slice PA pn pc) := HT.out.now.1.1.1.1.cell 3
  go_wp2_with fail
  go_loopw [43] (fun i wr => ∃ k : Nat, k ≤ pn ∧ i = .int .i64 k ∧ Below W1.heap.size W1 wr) (fun i _ => pn - (intOf i).toNat)
  case atStart => exact ⟨0, Nat.zero_le _, rfl, Below.refl _ _⟩
  case round =>
    obtain ⟨k, hkm, rfl, hF⟩ := hrel
    replace hF := hide hF
    clear c3
    by_cases hlt : k < pn
    · have hkl : k < P.length := by omega
      have hki : (k : Int) < (pn : Int) := by omega
      obtain ⟨b, o, rfl, b0, b1, b2⟩ := (HT.out _ hF.out).1.2.at_ k hkl
      have HP1 := hide (fun W => HPE.out (P[k]'hkl) W (List.getElem_mem hkl))
      obtain ⟨p, hp⟩ : ∃ p, P[k] = p := ⟨_, rfl⟩
      rw [hp] at HP1 b0 b1 b2
      have z0 : (wr.alloc (.cells #[.int .i64 p.mu, .int .i64 p.fi, .int .i64 p.bl] 56)).cell? ⟨w.heap.size, 0, none⟩ = some (strV nm) := (HT.out _ (hF.out.alloc hF.out.size _)).1.1.1.1.cell 0
      have z1 : (wr.alloc (.cells #[.int .i64 p.mu, .int .i64 p.fi, .int .i64 p.bl] 56)).cell? ⟨w.heap.size, 1, none⟩ = some (.int .i64 ce) := (HT.out _ (hF.out.alloc hF.out.size _)).1.1.1.1.cell 1
      have z2 : (wr.alloc (.cells #[.int .i64 p.mu, .int .i64 p.fi, .int .i64 p.bl] 56)).cell? ⟨w.heap.size, 2, none⟩ = some (.int .i64 wi) := (HT.out _ (hF.out.alloc hF.out.size _)).1.1.1.1.cell 2
      have z3 : (wr.alloc (.cells #[.int .i64 p.mu, .int .i64 p.fi, .int .i64 p.bl] 56)).cell? ⟨w.heap.size, 3, none⟩ = some (.slice (some ⟨b, o, none⟩) pn pc) := (HT.out _ (hF.out.alloc hF.out.size _)).1.1.1.1.cell 3
      have z4 : (wr.alloc (.cells #[.int .i64 p.mu, .int .i64 p.fi, .int .i64 p.bl] 56)).cell? ⟨w.heap.size, 4, none⟩ = some (.slice SA sn sc) := (HT.out _ (hF.out.alloc hF.out.size _)).1.1.1.1.cell 4
      clear hp hkl HSE HPE
      go_wp2_with (go_at_call 65; go_must (refine (HP1.out _).mono ?_; rintro e w2 ⟨rfl, hb⟩; replace hF := hide (Below.step (hF.out.alloc hF.out.size (.cells #[.int .i64 p.mu, .int .i64 p.fi, .int .i64 p.bl] 56)) hb); clear hb z0 z1 z2 z3 z4 b0 b1 b2; simp only []))
      go_roundw
      case rel => exact ⟨k + 1, by omega, by go_num, hF.out⟩
      case measure => simp [intOf]; omega
    · obtain rfl : k = pn := by omega
      have hki : ¬ (k : Int) < (k : Int) := by omega
      have c4 : wr.cell? ⟨w.heap.size, 4, none⟩ = some (.slice SA sn sc) := (HT.out _ hF.out).1.1.1.1.cell 4
      go_wp2_with fail
      replace HT := hide (HT.out.step hF.out)
      clear hF
      go_loopw [65] (fun i wx => ∃ j : Nat, j ≤ sn ∧ i = .int .i64 j ∧ Below wr.heap.size wr wx) (fun i _ => sn - (intOf i).toNat)
      case atStart => exact ⟨0, Nat.zero_le _, rfl, Below.refl _ _⟩
      case round =>
        obtain ⟨j, hjm, rfl, hF⟩ := hrel
        replace hF := hide hF
        clear c4
        by_cases hlt2 : j < sn
        · have hjl : j < S.length := by omega
          have hji : (j : Int) < (sn : Int) := by omega
          obtain ⟨b, o, rfl, b0, b1, b2, b3, b4, b5, b6, b7, b8, b9, b10⟩ := (HT.out _ hF.out).2.at_ j hjl
          have HS1 := hide (fun W q => HSE.out (S[j]'hjl) W (List.getElem_mem hjl) q)
          obtain ⟨s, hs⟩ : ∃ s, S[j] = s := ⟨_, rfl⟩
          rw [hs] at HS1 b0 b1 b2 b3 b4 b5 b6 b7 b8 b9 b10
          have z0 : (wr.alloc (.cells #[.int .i64 s.kd, .int .i64 s.pa, .int .i64 s.pe, .int .i64 s.of_, .int .i64 s.sl, .int .i64 s.sy, .int .i64 s.sn, .int .i64 s.bk, .int .i64 s.bn, .int .i64 s.st, .int .i64 s.sh] 82)).cell? ⟨w.heap.size, 0, none⟩ = some (strV nm) := (HT.out _ (hF.out.alloc hF.out.size _)).1.1.1.1.cell 0
          have z1 : (wr.alloc (.cells #[.int .i64 s.kd, .int .i64 s.pa, .int .i64 s.pe, .int .i64 s.of_, .int .i64 s.sl, .int .i64 s.sy, .int .i64 s.sn, .int .i64 s.bk, .int .i64 s.bn, .int .i64 s.st, .int .i64 s.sh] 82)).cell? ⟨w.heap.size, 1, none⟩ = some (.int .i64 ce) := (HT.out _ (hF.out.alloc hF.out.size _)).1.1.1.1.cell 1
          have z2 : (wr.alloc (.cells #[.int .i64 s.kd, .int .i64 s.pa, .int .i64 s.pe, .int .i64 s.of_, .int .i64 s.sl, .int .i64 s.sy, .int .i64 s.sn, .int .i64 s.bk, .int .i64 s.bn, .int .i64 s.st, .int .i64 s.sh] 82)).cell? ⟨w.heap.size, 2, none⟩ = some (.int .i64 wi) := (HT.out _ (hF.out.alloc hF.out.size _)).1.1.1.1.cell 2
          have z3 : (wr.alloc (.cells #[.int .i64 s.kd, .int .i64 s.pa, .int .i64 s.pe, .int .i64 s.of_, .int .i64 s.sl, .int .i64 s.sy, .int .i64 s.sn, .int .i64 s.bk, .int .i64 s.bn, .int .i64 s.st, .int .i64 s.sh] 82)).cell? ⟨w.heap.size, 3, none⟩ = some (.slice PA k pc) := (HT.out _ (hF.out.alloc hF.out.size _)).1.1.1.1.cell 3
          have z4 : (wr.alloc (.cells #[.int .i64 s.kd, .int .i64 s.pa, .int .i64 s.pe, .int .i64 s.of_, .int .i64 s.sl, .int .i64 s.sy, .int .i64 s.sn, .int .i64 s.bk, .int .i64 s.bn, .int .i64 s.st, .int .i64 s.sh] 82)).cell? ⟨w.heap.size, 4, none⟩ = some (.slice (some ⟨b, o, none⟩) sn sc) := (HT.out _ (hF.out.alloc hF.out.size _)).1.1.1.1.cell 4
          clear hs hjl HSE HPE
          go_wp2_with (go_at_call 66; go_must (refine (HS1.out _ (HT.out _ (hF.out.alloc hF.out.size _)).1.2).mono ?_; rintro e w2 ⟨rfl, hb⟩; replace hF := hide (Below.step (hF.out.alloc hF.out.size (.cells #[.int .i64 s.kd, .int .i64 s.pa, .int .i64 s.pe, .int .i64 s.of_, .int .i64 s.sl, .int .i64 s.sy, .int .i64 s.sn, .int .i64 s.bk, .int .i64 s.bn, .int .i64 s.st, .int .i64 s.sh] 82)) hb); clear hb z0 z1 z2 z3 z4 b0 b1 b2 b3 b4 b5 b6 b7 b8 b9 b10; simp only []))
          go_roundw
          case rel => exact ⟨j + 1, by omega, by go_num, hF.out⟩
          case measure => simp [intOf]; omega
        · obtain rfl : j = sn := by omega
          have hji : ¬ (j : Int) < (j : Int) := by omega
          replace HT := hide (HT.out.step hF.out)
          go_wp2_with (refine wpList_store_row rfl 49 (.tmp 2) (.tmp 79) rfl (w.heap.size + 1) #[.int .i64 0, .int .i64 0] rfl rfl 49 #[.int .i64 0, .int .i64 0] HT.out.now.1.1.1.2 (by kernel_rfl) rfl (by simp [Value.oneCell']) ?_)
          exact bodyPost_ret (results_row_tmp rfl _ _ (w.heap.size + 1) 49 #[.int .i64 0, .int .i64 0] _ (.int .i64 0) rfl rfl (HT.out.now.1.1.1.2.row _) Try.underlying49 rfl (by kernel_rfl)) rfl ⟨rfl, Below.row HT.out.now.1.1.2 (by omega) _⟩
end Go.Proofs.Ytfolipkbcibgdaa
