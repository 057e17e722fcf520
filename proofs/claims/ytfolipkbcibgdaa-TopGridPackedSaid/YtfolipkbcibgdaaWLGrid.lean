import Derived.Test.YtfolipkbcibgdaaGsF
import Derived.Test.YtfolipkbcibgdaaGsAw
namespace Go.Proofs.Ytfolipkbcibgdaa
open Go.RowKit Go.WideShapes Go.ChangeShapes

/-! the law TopGridPacked -/
def FitC (ce : Int) (P : List Prt) (S : List Sig) (l : List Alo) (pa fr te sy sn bn : Int) (a : Alo) (ev : Int) : Prop :=
  (ev = 0 ∧ OkAl P a ∧ freeB ce P S l a = true) ∨ (ev = 12 ∧ ∀ n', fr ≤ n' → n' ≤ te → ∀ s b : Nat, s < slN P pa → b < blN P pa bn → freeB ce P S l ⟨pa, n', (s : Int), sy, sn, (b : Int), bn⟩ = false)
theorem firstFit_fit (nm : Bs) (ce wi : Int) (PA SA : Option Addr) (pc sc : Nat) (P : List Prt) (S : List Sig) (l : List Alo) (D : Option Addr) (d : Nat) (pa fr te sy sn bn : Int) (w : World) (hnm : OkN nm) (hc : OkCr ce wi P S) (hl : AccL ce P S l) (hd : l.length ≤ d) (hx : OkWn P pa fr te sy sn bn) (hP : Prts w PA P) (hS : Sigs w SA S) (hD : Alos w D l) :
    Calls Try.prog 8 #[.agg #[strV nm, .int .i64 ce, .int .i64 wi, .slice PA P.length pc, .slice SA S.length sc], .slice D l.length d, .agg #[.int .i64 pa, .int .i64 fr, .int .i64 te, .int .i64 sy, .int .i64 sn, .int .i64 bn]] w fun e w' => ∃ (a : Alo) (ev : Int), e = .returned (.tuple #[.agg #[.int .i64 a.pa, .int .i64 a.sf, .int .i64 a.sl, .int .i64 a.sy, .int .i64 a.sn, .int .i64 a.bk, .int .i64 a.bn], .int .i64 ev]) ∧ FitC ce P S l pa fr te sy sn bn a ev ∧ Below w.heap.size w w' :=
  (firstFit_ok nm ce wi PA SA pc sc P S l D d pa fr te sy sn bn w hnm hc hl hd hx hP hS hD).mono fun e w' h => by
    obtain ⟨⟨n, sl, bk, rfl, ⟨h1, h2, h3, h4⟩, hf, -⟩ | ⟨rfl, hno⟩, hb⟩ := h
    · exact ⟨⟨pa, n, sl, sy, sn, bk, bn⟩, 0, rfl, .inl ⟨rfl, ok_wA hc hx h1 h2 h3 h4, hf⟩, hb⟩
    · exact ⟨⟨0, 0, 0, 0, 0, 0, 0⟩, 12, rfl, .inr ⟨rfl, hno⟩, hb⟩
theorem alos_blk {w : World} {g t : Nat} {a : Alo} (h : Blk w g t #[.int .i64 a.pa, .int .i64 a.sf, .int .i64 a.sl, .int .i64 a.sy, .int .i64 a.sn, .int .i64 a.bk, .int .i64 a.bn]) : Alos w (some ⟨g, 0, none⟩) [a] := fun k hk => by
  obtain rfl : k = 0 := by simpa using hk
  refine ⟨g, 0, rfl, fun j u hu => ?_⟩
  have := h.cell j
  simp only [Nat.zero_mul, Nat.zero_add]
  rw [this]
  simpa [Alo.cs] using hu
theorem flat_snoc (L : List Alo) (a : Alo) : flatC Alo.cs L ++ flatC Alo.cs [a] = flatC Alo.cs (L ++ [a]) := (flatC_append L [a]).symm
set_option maxRecDepth 100000 in
set_option maxHeartbeats 16000000 in
theorem TopGridPacked_law (nm : Bs) (ce wi : Int) (PA SA : Option Addr) (pc sc : Nat) (P : List Prt) (S : List Sig) (pa fr te sy sn bn : Int) (w : World) (hP : Prts w PA P) (hS : Sigs w SA S) :
    Calls Try.prog 3 #[.agg #[strV nm, .int .i64 ce, .int .i64 wi, .slice PA P.length pc, .slice SA S.length sc], .agg #[.int .i64 pa, .int .i64 fr, .int .i64 te, .int .i64 sy, .int .i64 sn, .int .i64 bn]] w fun e w' => e = .returned (.bool true) ∧ Below w.heap.size w w' := by
  obtain ⟨i0, hi0, hz0, hz1, hz2⟩ := info_parts alo_info
  have HT := hide ((((((stay_blk (Blk.new w 25 #[strV nm, .int .i64 ce, .int .i64 wi, .slice PA P.length pc, .slice SA S.length sc])).alloc (.cells #[.int .i64 pa, .int .i64 fr, .int .i64 te, .int .i64 sy, .int .i64 sn, .int .i64 bn] 27)).and (stay_blk (blk_up w 25 27 #[strV nm, .int .i64 ce, .int .i64 wi, .slice PA P.length pc, .slice SA S.length sc] #[.int .i64 pa, .int .i64 fr, .int .i64 te, .int .i64 sy, .int .i64 sn, .int .i64 bn]))).and (stay_below (((Below.refl _ w).alloc (Nat.le_refl _) (.cells #[strV nm, .int .i64 ce, .int .i64 wi, .slice PA P.length pc, .slice SA S.length sc] 25)).alloc (by simp) (.cells #[.int .i64 pa, .int .i64 fr, .int .i64 te, .int .i64 sy, .int .i64 sn, .int .i64 bn] 27)))).and (((stay_rws hP).alloc (.cells #[strV nm, .int .i64 ce, .int .i64 wi, .slice PA P.length pc, .slice SA S.length sc] 25)).alloc (.cells #[.int .i64 pa, .int .i64 fr, .int .i64 te, .int .i64 sy, .int .i64 sn, .int .i64 bn] 27))).and (((stay_rws hS).alloc (.cells #[strV nm, .int .i64 ce, .int .i64 wi, .slice PA P.length pc, .slice SA S.length sc] 25)).alloc (.cells #[.int .i64 pa, .int .i64 fr, .int .i64 te, .int .i64 sy, .int .i64 sn, .int .i64 bn] 27)))
  clear hP hS
  obtain ⟨W0, hW0⟩ : ∃ W0, (w.alloc (.cells #[strV nm, .int .i64 ce, .int .i64 wi, .slice PA P.length pc, .slice SA S.length sc] 25)).alloc (.cells #[.int .i64 pa, .int .i64 fr, .int .i64 te, .int .i64 sy, .int .i64 sn, .int .i64 bn] 27) = W0 := ⟨_, rfl⟩
  rw [hW0] at HT
  go_enter Try.func3, Try.ntmps3
  go_wp2_with fail
  first | rw [hW0] | skip
  clear hW0
  go_at_call 4
  refine (gridAwake_ok _).mono ?_
  rintro e w1 ⟨rfl, hb⟩
  replace HT := hide (HT.out.step hb)
  clear hb
  simp only []
  have z0 : w1.cell? ⟨w.heap.size, 0, none⟩ = some (strV nm) := HT.out.now.1.1.1.1.cell 0
  have z1 : w1.cell? ⟨w.heap.size, 1, none⟩ = some (.int .i64 ce) := HT.out.now.1.1.1.1.cell 1
  have z2 : w1.cell? ⟨w.heap.size, 2, none⟩ = some (.int .i64 wi) := HT.out.now.1.1.1.1.cell 2
  have z3 : w1.cell? ⟨w.heap.size, 3, none⟩ = some (.slice PA P.length pc) := HT.out.now.1.1.1.1.cell 3
  have z4 : w1.cell? ⟨w.heap.size, 4, none⟩ = some (.slice SA S.length sc) := HT.out.now.1.1.1.1.cell 4
  go_wp2_with fail
  go_at_call 5
  refine (short_any nm ce wi PA SA P.length pc S.length sc _).mono ?_
  rintro e w2 ⟨v, rfl, hv, hb⟩
  replace HT := hide (HT.out.step hb)
  clear hb z0 z1 z2 z3 z4
  simp only []
  cases v
  · clear hv
    go_wp2_with fail
    go_ret
    exact ⟨rfl, HT.out.now.1.1.2⟩
  have HSH := hide (hv rfl)
  clear hv
  have z0 : w2.cell? ⟨w.heap.size, 0, none⟩ = some (strV nm) := HT.out.now.1.1.1.1.cell 0
  have z1 : w2.cell? ⟨w.heap.size, 1, none⟩ = some (.int .i64 ce) := HT.out.now.1.1.1.1.cell 1
  have z2 : w2.cell? ⟨w.heap.size, 2, none⟩ = some (.int .i64 wi) := HT.out.now.1.1.1.1.cell 2
  have z3 : w2.cell? ⟨w.heap.size, 3, none⟩ = some (.slice PA P.length pc) := HT.out.now.1.1.1.1.cell 3
  have z4 : w2.cell? ⟨w.heap.size, 4, none⟩ = some (.slice SA S.length sc) := HT.out.now.1.1.1.1.cell 4
  go_wp2_with fail
  go_at_call 6
  refine (carrierErr_ref nm ce wi PA SA pc sc P S _ HSH.out HT.out.now.1.2 HT.out.now.2).mono ?_
  rintro e w3 ⟨v1, rfl, hv, hb⟩
  replace HT := hide (HT.out.step hb)
  clear hb z0 z1 z2 z3 z4
  simp only []
  by_cases hv0 : v1 = 0
  case neg =>
    have ev : (v1 != 0) = true := by simp [hv0]
    clear hv0 hv
    go_wp2_with fail
    go_ret
    exact ⟨rfl, HT.out.now.1.1.2⟩
  have ev1 : (v1 != 0) = false := by simp [hv0]
  have HNM := hide (hv.ok hv0).1
  have HC := hide (hv.ok hv0).2
  clear hv hv0
  have z0 : w3.cell? ⟨w.heap.size, 0, none⟩ = some (strV nm) := HT.out.now.1.1.1.1.cell 0
  have z1 : w3.cell? ⟨w.heap.size, 1, none⟩ = some (.int .i64 ce) := HT.out.now.1.1.1.1.cell 1
  have z2 : w3.cell? ⟨w.heap.size, 2, none⟩ = some (.int .i64 wi) := HT.out.now.1.1.1.1.cell 2
  have z3 : w3.cell? ⟨w.heap.size, 3, none⟩ = some (.slice PA P.length pc) := HT.out.now.1.1.1.1.cell 3
  have z4 : w3.cell? ⟨w.heap.size, 4, none⟩ = some (.slice SA S.length sc) := HT.out.now.1.1.1.1.cell 4
  have x0 : w3.cell? ⟨w.heap.size + 1, 0, none⟩ = some (.int .i64 pa) := HT.out.now.1.1.1.2.cell 0
  have x1 : w3.cell? ⟨w.heap.size + 1, 1, none⟩ = some (.int .i64 fr) := HT.out.now.1.1.1.2.cell 1
  have x2 : w3.cell? ⟨w.heap.size + 1, 2, none⟩ = some (.int .i64 te) := HT.out.now.1.1.1.2.cell 2
  have x3 : w3.cell? ⟨w.heap.size + 1, 3, none⟩ = some (.int .i64 sy) := HT.out.now.1.1.1.2.cell 3
  have x4 : w3.cell? ⟨w.heap.size + 1, 4, none⟩ = some (.int .i64 sn) := HT.out.now.1.1.1.2.cell 4
  have x5 : w3.cell? ⟨w.heap.size + 1, 5, none⟩ = some (.int .i64 bn) := HT.out.now.1.1.1.2.cell 5
  go_wp2_with fail
  go_at_call 7
  refine (wantErr_ref nm ce wi PA SA pc sc P S pa fr te sy sn bn _ HC.out HT.out.now.1.2).mono ?_
  rintro e w4 ⟨v2, rfl, hv, hb⟩
  replace HT := hide (HT.out.step hb)
  clear hb ev1 z0 z1 z2 z3 z4 x0 x1 x2 x3 x4 x5
  simp only []
  by_cases hv0 : v2 = 0
  case neg =>
    have ev : (v2 != 0) = true := by simp [hv0]
    clear hv0 hv
    go_wp2_with fail
    go_ret
    exact ⟨rfl, HT.out.now.1.1.2⟩
  have ev2 : (v2 != 0) = false := by simp [hv0]
  have HX := hide (hv.ok hv0)
  clear hv hv0
  have x1 : w4.cell? ⟨w.heap.size + 1, 1, none⟩ = some (.int .i64 fr) := HT.out.now.1.1.1.2.cell 1
  have x2 : w4.cell? ⟨w.heap.size + 1, 2, none⟩ = some (.int .i64 te) := HT.out.now.1.1.1.2.cell 2
  have w1' : IntKind.i64.wrap (te - fr) = te - fr := IntWalk.i64_in _ (by have := HX.out.ff; omega)
  by_cases hft : 2 < te - fr
  · have e3 : decide (2 < te - fr) = true := decide_eq_true hft
    clear hft
    go_wp2_with fail
    go_ret
    exact ⟨rfl, HT.out.now.1.1.2⟩
  have e3 : decide (2 < te - fr) = false := decide_eq_false hft
  clear hft
  go_wp2_with fail
  clear e3 ev2 w1' x1 x2
  have HS14 := hide (show S.length ≤ 1000 from by have := HSH.out.2.2; omega)
  have HP6 := hide (show P.length ≤ 1000 from by have := HSH.out.2.1; omega)
  go_loopw [5, 6] (fun s i wr => ∃ (k : Nat) (L : List Alo) (A : Option Addr) (d : Nat), i = .int .i64 (k : Int) ∧ s = .slice A k d ∧ L.length = k ∧ k ≤ 8 ∧ wr.ownsRow w4.heap.size 34 7 (.slice A k d) k (flatC Alo.cs L) ∧ AccL ce P S L ∧ Below w4.heap.size w4 wr) (fun _ i _ => 8 - (intOf i).toNat)
  case atStart => exact ⟨0, [], none, 0, rfl, rfl, rfl, Nat.zero_le _, ⟨rfl, .inl ⟨rfl, rfl⟩⟩, AccL.nil _ _ _, Below.refl _ _⟩
  case round =>
    obtain ⟨k, L, A, d, rfl, rfl, hL, hk8, hO, hA, hF⟩ := hrel
    have HF := hide hF
    have HQ := hide (HT.out.step hF)
    have HO := hide hO
    have HA := hide hA
    clear hF hO hA
    by_cases hlt : k < 8
    · have g1 : (k : Int) < 8 := by omega
      have HOS := hide (stay_own HO.out)
      have HLL := hide hL
      go_wp2_with fail
      go_cut [7, 8] from 39 to 73 (fun s7 s8 wx => ∃ (g7 : Nat) (a : Alo) (ev : Int), s7 = .pointer (some ⟨g7, 0, none⟩) ∧ s8 = .int .i64 ev ∧ Blk wx g7 34 #[.int .i64 a.pa, .int .i64 a.sf, .int .i64 a.sl, .int .i64 a.sy, .int .i64 a.sn, .int .i64 a.bk, .int .i64 a.bn] ∧ FitC ce P S L pa fr te sy sn bn a ev ∧ Below wr.heap.size wr wx)
      case first =>
        refine wp_region_held_drew (S := fun w_ => Below wr.heap.size wr w_) (by kernel_rfl) (below_drewN (Below.refl wr.heap.size wr) 1) (fun hHeld => ?_)
        obtain ⟨v0, hv0⟩ : ∃ v0, wr.drew = v0 := ⟨_, rfl⟩
        replace hHeld : Below wr.heap.size wr wr.drew := hHeld
        rw [hv0] at hHeld
        first | rw [hv0] | (change wpAnyH _ _ _ _ _ _ _ _ wr.drew; rw [hv0])
        clear hv0
        refine take_at (i := 0) 40 (v := .agg #[strV nm, .int .i64 ce, .int .i64 wi, .slice PA P.length pc, .slice SA S.length sc]) rfl rfl (by kernel_rfl) (by kernel_rfl) (by kernel_rfl) (fun _ _ _ h => h) (Or.inl ⟨by rfl, by intro w_ hSw; have c0 : w_.cell? ⟨w.heap.size, 0, none⟩ = some (strV nm) := (HQ.out _ hSw).1.1.1.1.cell 0; have c1 : w_.cell? ⟨w.heap.size, 1, none⟩ = some (.int .i64 ce) := (HQ.out _ hSw).1.1.1.1.cell 1; have c2 : w_.cell? ⟨w.heap.size, 2, none⟩ = some (.int .i64 wi) := (HQ.out _ hSw).1.1.1.1.cell 2; have c3 : w_.cell? ⟨w.heap.size, 3, none⟩ = some (.slice PA P.length pc) := (HQ.out _ hSw).1.1.1.1.cell 3; have c4 : w_.cell? ⟨w.heap.size, 4, none⟩ = some (.slice SA S.length sc) := (HQ.out _ hSw).1.1.1.1.cell 4; go_simp⟩) (by assumption) ?_
        try simp only [Act.put, List.setIfInBounds_toArray, List.set_cons_zero, List.set_cons_succ]
        refine take_at (i := 2) 42 (v := .slice A k d) rfl rfl (by kernel_rfl) (by kernel_rfl) (by kernel_rfl) (fun _ _ _ h => h) (Or.inl ⟨by rfl, by intro w_ hSw; go_simp⟩) (by assumption) ?_
        try simp only [Act.put, List.setIfInBounds_toArray, List.set_cons_zero, List.set_cons_succ]
        refine take_at (i := 4) 44 (v := .agg #[.int .i64 pa, .int .i64 fr, .int .i64 te, .int .i64 sy, .int .i64 sn, .int .i64 bn]) rfl rfl (by kernel_rfl) (by kernel_rfl) (by kernel_rfl) (fun _ _ _ h => h) (Or.inl ⟨by rfl, by intro w_ hSw; have x0 : w_.cell? ⟨w.heap.size + 1, 0, none⟩ = some (.int .i64 pa) := (HQ.out _ hSw).1.1.1.2.cell 0; have x1 : w_.cell? ⟨w.heap.size + 1, 1, none⟩ = some (.int .i64 fr) := (HQ.out _ hSw).1.1.1.2.cell 1; have x2 : w_.cell? ⟨w.heap.size + 1, 2, none⟩ = some (.int .i64 te) := (HQ.out _ hSw).1.1.1.2.cell 2; have x3 : w_.cell? ⟨w.heap.size + 1, 3, none⟩ = some (.int .i64 sy) := (HQ.out _ hSw).1.1.1.2.cell 3; have x4 : w_.cell? ⟨w.heap.size + 1, 4, none⟩ = some (.int .i64 sn) := (HQ.out _ hSw).1.1.1.2.cell 4; have x5 : w_.cell? ⟨w.heap.size + 1, 5, none⟩ = some (.int .i64 bn) := (HQ.out _ hSw).1.1.1.2.cell 5; go_simp⟩) (by assumption) ?_
        try simp only [Act.put, List.setIfInBounds_toArray, List.set_cons_zero, List.set_cons_succ]
        obtain ⟨g7, hg7⟩ : ∃ g, v0.heap.size = g := ⟨_, rfl⟩
        refine wpAnyH_ready (rs := [1, 9]) (by kernel_rfl) (by simp) ?_
        refine AllReadyH.cons rfl (fun K hK => ?_) (AllReadyH.cons rfl (fun K hK => ?_) AllReadyH.nil)
        · clear hg7
          go_simp
          go_at_call 9
          refine (copy_ref nm ce wi PA SA pc sc P S _ HP6.out HS14.out (HQ.out _ hHeld).1.2 (HQ.out _ hHeld).2).mono ?_
          rintro e v1 ⟨A1, q1, A2, q2, rfl, hs1, hs2, hb⟩
          replace hHeld := Below.step hHeld hb
          have HS1 := hide (stay_rws hs1)
          have HS2 := hide (stay_rws hs2)
          clear hs1 hs2
          clear hb
          simp only []
          refine hK.out _ _ hHeld (fun hHeld => ?_)
          clear hK K
          try simp only [Act.put, List.setIfInBounds_toArray, List.set_cons_zero, List.set_cons_succ]
          obtain ⟨g7, hg7⟩ : ∃ g, v1.heap.size = g := ⟨_, rfl⟩
          refine wpAnyH_ready (rs := [3, 9]) (by kernel_rfl) (by simp) ?_
          refine AllReadyH.cons rfl (fun K hK => ?_) (AllReadyH.cons rfl (fun K hK => ?_) AllReadyH.nil)
          · clear hg7
            go_simp
            go_at_call 10
            refine (copyAllocations_ref L A d k _ HLL.out (Rws.of_own alo_n (HOS.out _ hHeld) HLL.out.symm) (by omega)).mono ?_
            rintro e v2 ⟨A3, q3, rfl, hq3, hs3, hb⟩
            replace HS1 := hide (HS1.out.step hb)
            replace HS2 := hide (HS2.out.step hb)
            replace hHeld := Below.step hHeld hb
            have HS3 := hide (stay_rws hs3)
            have HQ3c := hide hq3
            clear hs3 hq3
            clear hb
            simp only []
            refine hK.out _ _ hHeld (fun hHeld => ?_)
            clear hK K
            try simp only [Act.put, List.setIfInBounds_toArray, List.set_cons_zero, List.set_cons_succ]
            obtain ⟨g7, hg7⟩ : ∃ g, v2.heap.size = g := ⟨_, rfl⟩
            refine wpAnyH_ready (rs := [5, 9]) (by kernel_rfl) (by simp) ?_
            refine AllReadyH.cons rfl (fun K hK => ?_) (AllReadyH.cons rfl (fun K hK => ?_) AllReadyH.nil)
            · clear hg7
              go_simp
              go_at_call 8
              refine ((show Calls Try.prog 8 #[.agg #[strV nm, .int .i64 ce, .int .i64 wi, .slice A1 P.length q1, .slice A2 S.length q2], .slice A3 k q3, .agg #[.int .i64 pa, .int .i64 fr, .int .i64 te, .int .i64 sy, .int .i64 sn, .int .i64 bn]] _ _ from by have h := firstFit_fit nm ce wi A1 A2 q1 q2 P S L A3 q3 pa fr te sy sn bn _ HNM.out HC.out HA.out (by rw [HLL.out]; exact HQ3c.out) HX.out HS1.out.now HS2.out.now HS3.out.now; rw [HLL.out] at h; exact h)).mono ?_
              rintro e v3 ⟨a, ev, rfl, hfit, hb⟩
              replace HS1 := hide (HS1.out.step hb)
              replace HS2 := hide (HS2.out.step hb)
              replace HS3 := hide (HS3.out.step hb)
              replace hHeld := Below.step hHeld hb
              have HFIT := hide hfit
              clear hfit
              clear hb
              simp only []
              refine hK.out _ _ hHeld (fun hHeld => ?_)
              clear hK K
              try simp only [Act.put, List.setIfInBounds_toArray, List.set_cons_zero, List.set_cons_succ]
              refine take_at (i := 6) 39 (v := .tuple #[.agg #[.int .i64 a.pa, .int .i64 a.sf, .int .i64 a.sl, .int .i64 a.sy, .int .i64 a.sn, .int .i64 a.bk, .int .i64 a.bn], .int .i64 ev]) rfl rfl (by kernel_rfl) (by kernel_rfl) (by kernel_rfl) (fun _ _ _ h => h) (Or.inl ⟨by rfl, by intro w_ hSw; go_simp⟩) (by assumption) ?_
              try simp only [Act.put, List.setIfInBounds_toArray, List.set_cons_zero, List.set_cons_succ]
              refine take_at (i := 7) 46 (v := .agg #[.int .i64 a.pa, .int .i64 a.sf, .int .i64 a.sl, .int .i64 a.sy, .int .i64 a.sn, .int .i64 a.bk, .int .i64 a.bn]) rfl rfl (by kernel_rfl) (by kernel_rfl) (by kernel_rfl) (fun _ _ _ h => h) (Or.inl ⟨by rfl, by intro w_ hSw; go_simp⟩) (by assumption) ?_
              try simp only [Act.put, List.setIfInBounds_toArray, List.set_cons_zero, List.set_cons_succ]
              refine take_at (i := 8) 47 (v := .int .i64 ev) rfl rfl (by kernel_rfl) (by kernel_rfl) (by kernel_rfl) (fun _ _ _ h => h) (Or.inl ⟨by rfl, by intro w_ hSw; go_simp⟩) (by assumption) ?_
              try simp only [Act.put, List.setIfInBounds_toArray, List.set_cons_zero, List.set_cons_succ]
              obtain ⟨g7, hg7⟩ : ∃ g, v3.heap.size = g := ⟨_, rfl⟩
              refine wpAnyH_ready (rs := [9]) (by kernel_rfl) (by simp) ?_
              refine AllReadyH.cons rfl (fun K hK => ?_) AllReadyH.nil
              go_simp
              have hb := (Below.refl v3.heap.size v3).alloc (Nat.le_refl _) (.cells #[.int .i64 0, .int .i64 0, .int .i64 0, .int .i64 0, .int .i64 0, .int .i64 0, .int .i64 0] 34)
              replace HS1 := hide (HS1.out.step hb)
              replace HS2 := hide (HS2.out.step hb)
              replace HS3 := hide (HS3.out.step hb)
              have g7ge := Nat.le_trans hHeld.size (Nat.le_of_eq hg7)
              replace hHeld := Below.step hHeld hb
              have Hg7 := hide (stay_blk (Blk.newN v3 34 #[.int .i64 0, .int .i64 0, .int .i64 0, .int .i64 0, .int .i64 0, .int .i64 0, .int .i64 0] hg7))
              obtain ⟨v4, hwn⟩ : ∃ w9, v3.alloc (.cells #[.int .i64 0, .int .i64 0, .int .i64 0, .int .i64 0, .int .i64 0, .int .i64 0, .int .i64 0] 34) = w9 := ⟨_, rfl⟩
              rw [hwn] at hHeld HS1 HS2 HS3 Hg7 ⊢
              clear hb hwn hg7
              refine hK.out _ _ hHeld (fun hHeld => ?_)
              clear hK K
              try simp only [Act.put, List.setIfInBounds_toArray, List.set_cons_zero, List.set_cons_succ]
              refine wpAnyH_ready (rs := [10]) (by kernel_rfl) (by simp) ?_
              refine AllReadyH.cons rfl (fun K hK => ?_) AllReadyH.nil
              refine step_store_rowF rfl 34 _ _ rfl g7 #[.int .i64 a.pa, .int .i64 a.sf, .int .i64 a.sl, .int .i64 a.sy, .int .i64 a.sn, .int .i64 a.bk, .int .i64 a.bn] rfl rfl 34 #[.int .i64 0, .int .i64 0, .int .i64 0, .int .i64 0, .int .i64 0, .int .i64 0, .int .i64 0] Hg7.out.now (by kernel_rfl) rfl (by simp [Value.oneCell']) ?_
              replace hHeld := Below.row (g := g7) hHeld g7ge #[.int .i64 a.pa, .int .i64 a.sf, .int .i64 a.sl, .int .i64 a.sy, .int .i64 a.sn, .int .i64 a.bk, .int .i64 a.bn]
              have HSg7 := hide (Hg7.out.now.row #[.int .i64 a.pa, .int .i64 a.sf, .int .i64 a.sl, .int .i64 a.sy, .int .i64 a.sn, .int .i64 a.bk, .int .i64 a.bn])
              obtain ⟨v5, hwn⟩ : ∃ w9, v4.setRow g7 #[.int .i64 a.pa, .int .i64 a.sf, .int .i64 a.sl, .int .i64 a.sy, .int .i64 a.sn, .int .i64 a.bk, .int .i64 a.bn] = w9 := ⟨_, rfl⟩
              rw [hwn] at hHeld HSg7  ⊢
              clear hwn HS1 HS2 HS3 Hg7
              refine hK.out _ _ hHeld (fun hHeld => ?_)
              clear hK K
              try simp only [Act.put, List.setIfInBounds_toArray]
              refine take_at (i := 11) 8 (v := .int .i64 ev) rfl rfl (by kernel_rfl) (by kernel_rfl) (by kernel_rfl) (fun _ _ _ h => h) (Or.inl ⟨by rfl, by intro w_ hSw; go_simp⟩) (by assumption) ?_
              try simp only [Act.put]
              refine wpAnyH_done (by kernel_rfl) ?_ _
              go_wp2_with fail
              go_meet
              exact ⟨g7, a, ev, rfl, rfl, HSg7.out, HFIT.out, hHeld⟩
            · go_simp
              have hb := (Below.refl v2.heap.size v2).alloc (Nat.le_refl _) (.cells #[.int .i64 0, .int .i64 0, .int .i64 0, .int .i64 0, .int .i64 0, .int .i64 0, .int .i64 0] 34)
              replace HS1 := hide (HS1.out.step hb)
              replace HS2 := hide (HS2.out.step hb)
              replace HS3 := hide (HS3.out.step hb)
              have g7ge := Nat.le_trans hHeld.size (Nat.le_of_eq hg7)
              replace hHeld := Below.step hHeld hb
              have Hg7 := hide (stay_blk (Blk.newN v2 34 #[.int .i64 0, .int .i64 0, .int .i64 0, .int .i64 0, .int .i64 0, .int .i64 0, .int .i64 0] hg7))
              obtain ⟨v3, hwn⟩ : ∃ w9, v2.alloc (.cells #[.int .i64 0, .int .i64 0, .int .i64 0, .int .i64 0, .int .i64 0, .int .i64 0, .int .i64 0] 34) = w9 := ⟨_, rfl⟩
              rw [hwn] at hHeld HS1 HS2 HS3 Hg7 ⊢
              clear hb hwn hg7
              refine hK.out _ _ hHeld (fun hHeld => ?_)
              clear hK K
              try simp only [Act.put, List.setIfInBounds_toArray, List.set_cons_zero, List.set_cons_succ]
              refine wpAnyH_ready (rs := [5]) (by kernel_rfl) (by simp) ?_
              refine AllReadyH.cons rfl (fun K hK => ?_) AllReadyH.nil
              go_simp
              go_at_call 8
              refine ((show Calls Try.prog 8 #[.agg #[strV nm, .int .i64 ce, .int .i64 wi, .slice A1 P.length q1, .slice A2 S.length q2], .slice A3 k q3, .agg #[.int .i64 pa, .int .i64 fr, .int .i64 te, .int .i64 sy, .int .i64 sn, .int .i64 bn]] _ _ from by have h := firstFit_fit nm ce wi A1 A2 q1 q2 P S L A3 q3 pa fr te sy sn bn _ HNM.out HC.out HA.out (by rw [HLL.out]; exact HQ3c.out) HX.out HS1.out.now HS2.out.now HS3.out.now; rw [HLL.out] at h; exact h)).mono ?_
              rintro e v4 ⟨a, ev, rfl, hfit, hb⟩
              replace HS1 := hide (HS1.out.step hb)
              replace HS2 := hide (HS2.out.step hb)
              replace HS3 := hide (HS3.out.step hb)
              replace Hg7 := hide (Hg7.out.step hb)
              replace hHeld := Below.step hHeld hb
              have HFIT := hide hfit
              clear hfit
              clear hb
              simp only []
              refine hK.out _ _ hHeld (fun hHeld => ?_)
              clear hK K
              try simp only [Act.put, List.setIfInBounds_toArray, List.set_cons_zero, List.set_cons_succ]
              refine take_at (i := 6) 39 (v := .tuple #[.agg #[.int .i64 a.pa, .int .i64 a.sf, .int .i64 a.sl, .int .i64 a.sy, .int .i64 a.sn, .int .i64 a.bk, .int .i64 a.bn], .int .i64 ev]) rfl rfl (by kernel_rfl) (by kernel_rfl) (by kernel_rfl) (fun _ _ _ h => h) (Or.inl ⟨by rfl, by intro w_ hSw; go_simp⟩) (by assumption) ?_
              try simp only [Act.put, List.setIfInBounds_toArray, List.set_cons_zero, List.set_cons_succ]
              refine take_at (i := 7) 46 (v := .agg #[.int .i64 a.pa, .int .i64 a.sf, .int .i64 a.sl, .int .i64 a.sy, .int .i64 a.sn, .int .i64 a.bk, .int .i64 a.bn]) rfl rfl (by kernel_rfl) (by kernel_rfl) (by kernel_rfl) (fun _ _ _ h => h) (Or.inl ⟨by rfl, by intro w_ hSw; go_simp⟩) (by assumption) ?_
              try simp only [Act.put, List.setIfInBounds_toArray, List.set_cons_zero, List.set_cons_succ]
              refine take_at (i := 8) 47 (v := .int .i64 ev) rfl rfl (by kernel_rfl) (by kernel_rfl) (by kernel_rfl) (fun _ _ _ h => h) (Or.inl ⟨by rfl, by intro w_ hSw; go_simp⟩) (by assumption) ?_
              try simp only [Act.put, List.setIfInBounds_toArray, List.set_cons_zero, List.set_cons_succ]
              refine wpAnyH_ready (rs := [10]) (by kernel_rfl) (by simp) ?_
              refine AllReadyH.cons rfl (fun K hK => ?_) AllReadyH.nil
              refine step_store_rowF rfl 34 _ _ rfl g7 #[.int .i64 a.pa, .int .i64 a.sf, .int .i64 a.sl, .int .i64 a.sy, .int .i64 a.sn, .int .i64 a.bk, .int .i64 a.bn] rfl rfl 34 #[.int .i64 0, .int .i64 0, .int .i64 0, .int .i64 0, .int .i64 0, .int .i64 0, .int .i64 0] Hg7.out.now (by kernel_rfl) rfl (by simp [Value.oneCell']) ?_
              replace hHeld := Below.row (g := g7) hHeld g7ge #[.int .i64 a.pa, .int .i64 a.sf, .int .i64 a.sl, .int .i64 a.sy, .int .i64 a.sn, .int .i64 a.bk, .int .i64 a.bn]
              have HSg7 := hide (Hg7.out.now.row #[.int .i64 a.pa, .int .i64 a.sf, .int .i64 a.sl, .int .i64 a.sy, .int .i64 a.sn, .int .i64 a.bk, .int .i64 a.bn])
              obtain ⟨v5, hwn⟩ : ∃ w9, v4.setRow g7 #[.int .i64 a.pa, .int .i64 a.sf, .int .i64 a.sl, .int .i64 a.sy, .int .i64 a.sn, .int .i64 a.bk, .int .i64 a.bn] = w9 := ⟨_, rfl⟩
              rw [hwn] at hHeld HSg7  ⊢
              clear hwn HS1 HS2 HS3 Hg7
              refine hK.out _ _ hHeld (fun hHeld => ?_)
              clear hK K
              try simp only [Act.put, List.setIfInBounds_toArray]
              refine take_at (i := 11) 8 (v := .int .i64 ev) rfl rfl (by kernel_rfl) (by kernel_rfl) (by kernel_rfl) (fun _ _ _ h => h) (Or.inl ⟨by rfl, by intro w_ hSw; go_simp⟩) (by assumption) ?_
              try simp only [Act.put]
              refine wpAnyH_done (by kernel_rfl) ?_ _
              go_wp2_with fail
              go_meet
              exact ⟨g7, a, ev, rfl, rfl, HSg7.out, HFIT.out, hHeld⟩
          · go_simp
            have hb := (Below.refl v1.heap.size v1).alloc (Nat.le_refl _) (.cells #[.int .i64 0, .int .i64 0, .int .i64 0, .int .i64 0, .int .i64 0, .int .i64 0, .int .i64 0] 34)
            replace HS1 := hide (HS1.out.step hb)
            replace HS2 := hide (HS2.out.step hb)
            have g7ge := Nat.le_trans hHeld.size (Nat.le_of_eq hg7)
            replace hHeld := Below.step hHeld hb
            have Hg7 := hide (stay_blk (Blk.newN v1 34 #[.int .i64 0, .int .i64 0, .int .i64 0, .int .i64 0, .int .i64 0, .int .i64 0, .int .i64 0] hg7))
            obtain ⟨v2, hwn⟩ : ∃ w9, v1.alloc (.cells #[.int .i64 0, .int .i64 0, .int .i64 0, .int .i64 0, .int .i64 0, .int .i64 0, .int .i64 0] 34) = w9 := ⟨_, rfl⟩
            rw [hwn] at hHeld HS1 HS2 Hg7 ⊢
            clear hb hwn hg7
            refine hK.out _ _ hHeld (fun hHeld => ?_)
            clear hK K
            try simp only [Act.put, List.setIfInBounds_toArray, List.set_cons_zero, List.set_cons_succ]
            refine wpAnyH_ready (rs := [3]) (by kernel_rfl) (by simp) ?_
            refine AllReadyH.cons rfl (fun K hK => ?_) AllReadyH.nil
            go_simp
            go_at_call 10
            refine (copyAllocations_ref L A d k _ HLL.out (Rws.of_own alo_n (HOS.out _ hHeld) HLL.out.symm) (by omega)).mono ?_
            rintro e v3 ⟨A3, q3, rfl, hq3, hs3, hb⟩
            replace HS1 := hide (HS1.out.step hb)
            replace HS2 := hide (HS2.out.step hb)
            replace Hg7 := hide (Hg7.out.step hb)
            replace hHeld := Below.step hHeld hb
            have HS3 := hide (stay_rws hs3)
            have HQ3c := hide hq3
            clear hs3 hq3
            clear hb
            simp only []
            refine hK.out _ _ hHeld (fun hHeld => ?_)
            clear hK K
            try simp only [Act.put, List.setIfInBounds_toArray, List.set_cons_zero, List.set_cons_succ]
            refine wpAnyH_ready (rs := [5]) (by kernel_rfl) (by simp) ?_
            refine AllReadyH.cons rfl (fun K hK => ?_) AllReadyH.nil
            go_simp
            go_at_call 8
            refine ((show Calls Try.prog 8 #[.agg #[strV nm, .int .i64 ce, .int .i64 wi, .slice A1 P.length q1, .slice A2 S.length q2], .slice A3 k q3, .agg #[.int .i64 pa, .int .i64 fr, .int .i64 te, .int .i64 sy, .int .i64 sn, .int .i64 bn]] _ _ from by have h := firstFit_fit nm ce wi A1 A2 q1 q2 P S L A3 q3 pa fr te sy sn bn _ HNM.out HC.out HA.out (by rw [HLL.out]; exact HQ3c.out) HX.out HS1.out.now HS2.out.now HS3.out.now; rw [HLL.out] at h; exact h)).mono ?_
            rintro e v4 ⟨a, ev, rfl, hfit, hb⟩
            replace HS1 := hide (HS1.out.step hb)
            replace HS2 := hide (HS2.out.step hb)
            replace Hg7 := hide (Hg7.out.step hb)
            replace HS3 := hide (HS3.out.step hb)
            replace hHeld := Below.step hHeld hb
            have HFIT := hide hfit
            clear hfit
            clear hb
            simp only []
            refine hK.out _ _ hHeld (fun hHeld => ?_)
            clear hK K
            try simp only [Act.put, List.setIfInBounds_toArray, List.set_cons_zero, List.set_cons_succ]
            refine take_at (i := 6) 39 (v := .tuple #[.agg #[.int .i64 a.pa, .int .i64 a.sf, .int .i64 a.sl, .int .i64 a.sy, .int .i64 a.sn, .int .i64 a.bk, .int .i64 a.bn], .int .i64 ev]) rfl rfl (by kernel_rfl) (by kernel_rfl) (by kernel_rfl) (fun _ _ _ h => h) (Or.inl ⟨by rfl, by intro w_ hSw; go_simp⟩) (by assumption) ?_
            try simp only [Act.put, List.setIfInBounds_toArray, List.set_cons_zero, List.set_cons_succ]
            refine take_at (i := 7) 46 (v := .agg #[.int .i64 a.pa, .int .i64 a.sf, .int .i64 a.sl, .int .i64 a.sy, .int .i64 a.sn, .int .i64 a.bk, .int .i64 a.bn]) rfl rfl (by kernel_rfl) (by kernel_rfl) (by kernel_rfl) (fun _ _ _ h => h) (Or.inl ⟨by rfl, by intro w_ hSw; go_simp⟩) (by assumption) ?_
            try simp only [Act.put, List.setIfInBounds_toArray, List.set_cons_zero, List.set_cons_succ]
            refine take_at (i := 8) 47 (v := .int .i64 ev) rfl rfl (by kernel_rfl) (by kernel_rfl) (by kernel_rfl) (fun _ _ _ h => h) (Or.inl ⟨by rfl, by intro w_ hSw; go_simp⟩) (by assumption) ?_
            try simp only [Act.put, List.setIfInBounds_toArray, List.set_cons_zero, List.set_cons_succ]
            refine wpAnyH_ready (rs := [10]) (by kernel_rfl) (by simp) ?_
            refine AllReadyH.cons rfl (fun K hK => ?_) AllReadyH.nil
            refine step_store_rowF rfl 34 _ _ rfl g7 #[.int .i64 a.pa, .int .i64 a.sf, .int .i64 a.sl, .int .i64 a.sy, .int .i64 a.sn, .int .i64 a.bk, .int .i64 a.bn] rfl rfl 34 #[.int .i64 0, .int .i64 0, .int .i64 0, .int .i64 0, .int .i64 0, .int .i64 0, .int .i64 0] Hg7.out.now (by kernel_rfl) rfl (by simp [Value.oneCell']) ?_
            replace hHeld := Below.row (g := g7) hHeld g7ge #[.int .i64 a.pa, .int .i64 a.sf, .int .i64 a.sl, .int .i64 a.sy, .int .i64 a.sn, .int .i64 a.bk, .int .i64 a.bn]
            have HSg7 := hide (Hg7.out.now.row #[.int .i64 a.pa, .int .i64 a.sf, .int .i64 a.sl, .int .i64 a.sy, .int .i64 a.sn, .int .i64 a.bk, .int .i64 a.bn])
            obtain ⟨v5, hwn⟩ : ∃ w9, v4.setRow g7 #[.int .i64 a.pa, .int .i64 a.sf, .int .i64 a.sl, .int .i64 a.sy, .int .i64 a.sn, .int .i64 a.bk, .int .i64 a.bn] = w9 := ⟨_, rfl⟩
            rw [hwn] at hHeld HSg7  ⊢
            clear hwn HS1 HS2 Hg7 HS3
            refine hK.out _ _ hHeld (fun hHeld => ?_)
            clear hK K
            try simp only [Act.put, List.setIfInBounds_toArray]
            refine take_at (i := 11) 8 (v := .int .i64 ev) rfl rfl (by kernel_rfl) (by kernel_rfl) (by kernel_rfl) (fun _ _ _ h => h) (Or.inl ⟨by rfl, by intro w_ hSw; go_simp⟩) (by assumption) ?_
            try simp only [Act.put]
            refine wpAnyH_done (by kernel_rfl) ?_ _
            go_wp2_with fail
            go_meet
            exact ⟨g7, a, ev, rfl, rfl, HSg7.out, HFIT.out, hHeld⟩
        · go_simp
          have hb := (Below.refl v0.heap.size v0).alloc (Nat.le_refl _) (.cells #[.int .i64 0, .int .i64 0, .int .i64 0, .int .i64 0, .int .i64 0, .int .i64 0, .int .i64 0] 34)
          have g7ge := Nat.le_trans hHeld.size (Nat.le_of_eq hg7)
          replace hHeld := Below.step hHeld hb
          have Hg7 := hide (stay_blk (Blk.newN v0 34 #[.int .i64 0, .int .i64 0, .int .i64 0, .int .i64 0, .int .i64 0, .int .i64 0, .int .i64 0] hg7))
          obtain ⟨v1, hwn⟩ : ∃ w9, v0.alloc (.cells #[.int .i64 0, .int .i64 0, .int .i64 0, .int .i64 0, .int .i64 0, .int .i64 0, .int .i64 0] 34) = w9 := ⟨_, rfl⟩
          rw [hwn] at hHeld Hg7 ⊢
          clear hb hwn hg7
          refine hK.out _ _ hHeld (fun hHeld => ?_)
          clear hK K
          try simp only [Act.put, List.setIfInBounds_toArray, List.set_cons_zero, List.set_cons_succ]
          refine wpAnyH_ready (rs := [1]) (by kernel_rfl) (by simp) ?_
          refine AllReadyH.cons rfl (fun K hK => ?_) AllReadyH.nil
          go_simp
          go_at_call 9
          refine (copy_ref nm ce wi PA SA pc sc P S _ HP6.out HS14.out (HQ.out _ hHeld).1.2 (HQ.out _ hHeld).2).mono ?_
          rintro e v2 ⟨A1, q1, A2, q2, rfl, hs1, hs2, hb⟩
          replace Hg7 := hide (Hg7.out.step hb)
          replace hHeld := Below.step hHeld hb
          have HS1 := hide (stay_rws hs1)
          have HS2 := hide (stay_rws hs2)
          clear hs1 hs2
          clear hb
          simp only []
          refine hK.out _ _ hHeld (fun hHeld => ?_)
          clear hK K
          try simp only [Act.put, List.setIfInBounds_toArray, List.set_cons_zero, List.set_cons_succ]
          refine wpAnyH_ready (rs := [3]) (by kernel_rfl) (by simp) ?_
          refine AllReadyH.cons rfl (fun K hK => ?_) AllReadyH.nil
          go_simp
          go_at_call 10
          refine (copyAllocations_ref L A d k _ HLL.out (Rws.of_own alo_n (HOS.out _ hHeld) HLL.out.symm) (by omega)).mono ?_
          rintro e v3 ⟨A3, q3, rfl, hq3, hs3, hb⟩
          replace Hg7 := hide (Hg7.out.step hb)
          replace HS1 := hide (HS1.out.step hb)
          replace HS2 := hide (HS2.out.step hb)
          replace hHeld := Below.step hHeld hb
          have HS3 := hide (stay_rws hs3)
          have HQ3c := hide hq3
          clear hs3 hq3
          clear hb
          simp only []
          refine hK.out _ _ hHeld (fun hHeld => ?_)
          clear hK K
          try simp only [Act.put, List.setIfInBounds_toArray, List.set_cons_zero, List.set_cons_succ]
          refine wpAnyH_ready (rs := [5]) (by kernel_rfl) (by simp) ?_
          refine AllReadyH.cons rfl (fun K hK => ?_) AllReadyH.nil
          go_simp
          go_at_call 8
          refine ((show Calls Try.prog 8 #[.agg #[strV nm, .int .i64 ce, .int .i64 wi, .slice A1 P.length q1, .slice A2 S.length q2], .slice A3 k q3, .agg #[.int .i64 pa, .int .i64 fr, .int .i64 te, .int .i64 sy, .int .i64 sn, .int .i64 bn]] _ _ from by have h := firstFit_fit nm ce wi A1 A2 q1 q2 P S L A3 q3 pa fr te sy sn bn _ HNM.out HC.out HA.out (by rw [HLL.out]; exact HQ3c.out) HX.out HS1.out.now HS2.out.now HS3.out.now; rw [HLL.out] at h; exact h)).mono ?_
          rintro e v4 ⟨a, ev, rfl, hfit, hb⟩
          replace Hg7 := hide (Hg7.out.step hb)
          replace HS1 := hide (HS1.out.step hb)
          replace HS2 := hide (HS2.out.step hb)
          replace HS3 := hide (HS3.out.step hb)
          replace hHeld := Below.step hHeld hb
          have HFIT := hide hfit
          clear hfit
          clear hb
          simp only []
          refine hK.out _ _ hHeld (fun hHeld => ?_)
          clear hK K
          try simp only [Act.put, List.setIfInBounds_toArray, List.set_cons_zero, List.set_cons_succ]
          refine take_at (i := 6) 39 (v := .tuple #[.agg #[.int .i64 a.pa, .int .i64 a.sf, .int .i64 a.sl, .int .i64 a.sy, .int .i64 a.sn, .int .i64 a.bk, .int .i64 a.bn], .int .i64 ev]) rfl rfl (by kernel_rfl) (by kernel_rfl) (by kernel_rfl) (fun _ _ _ h => h) (Or.inl ⟨by rfl, by intro w_ hSw; go_simp⟩) (by assumption) ?_
          try simp only [Act.put, List.setIfInBounds_toArray, List.set_cons_zero, List.set_cons_succ]
          refine take_at (i := 7) 46 (v := .agg #[.int .i64 a.pa, .int .i64 a.sf, .int .i64 a.sl, .int .i64 a.sy, .int .i64 a.sn, .int .i64 a.bk, .int .i64 a.bn]) rfl rfl (by kernel_rfl) (by kernel_rfl) (by kernel_rfl) (fun _ _ _ h => h) (Or.inl ⟨by rfl, by intro w_ hSw; go_simp⟩) (by assumption) ?_
          try simp only [Act.put, List.setIfInBounds_toArray, List.set_cons_zero, List.set_cons_succ]
          refine take_at (i := 8) 47 (v := .int .i64 ev) rfl rfl (by kernel_rfl) (by kernel_rfl) (by kernel_rfl) (fun _ _ _ h => h) (Or.inl ⟨by rfl, by intro w_ hSw; go_simp⟩) (by assumption) ?_
          try simp only [Act.put, List.setIfInBounds_toArray, List.set_cons_zero, List.set_cons_succ]
          refine wpAnyH_ready (rs := [10]) (by kernel_rfl) (by simp) ?_
          refine AllReadyH.cons rfl (fun K hK => ?_) AllReadyH.nil
          refine step_store_rowF rfl 34 _ _ rfl g7 #[.int .i64 a.pa, .int .i64 a.sf, .int .i64 a.sl, .int .i64 a.sy, .int .i64 a.sn, .int .i64 a.bk, .int .i64 a.bn] rfl rfl 34 #[.int .i64 0, .int .i64 0, .int .i64 0, .int .i64 0, .int .i64 0, .int .i64 0, .int .i64 0] Hg7.out.now (by kernel_rfl) rfl (by simp [Value.oneCell']) ?_
          replace hHeld := Below.row (g := g7) hHeld g7ge #[.int .i64 a.pa, .int .i64 a.sf, .int .i64 a.sl, .int .i64 a.sy, .int .i64 a.sn, .int .i64 a.bk, .int .i64 a.bn]
          have HSg7 := hide (Hg7.out.now.row #[.int .i64 a.pa, .int .i64 a.sf, .int .i64 a.sl, .int .i64 a.sy, .int .i64 a.sn, .int .i64 a.bk, .int .i64 a.bn])
          obtain ⟨v5, hwn⟩ : ∃ w9, v4.setRow g7 #[.int .i64 a.pa, .int .i64 a.sf, .int .i64 a.sl, .int .i64 a.sy, .int .i64 a.sn, .int .i64 a.bk, .int .i64 a.bn] = w9 := ⟨_, rfl⟩
          rw [hwn] at hHeld HSg7  ⊢
          clear hwn Hg7 HS1 HS2 HS3
          refine hK.out _ _ hHeld (fun hHeld => ?_)
          clear hK K
          try simp only [Act.put, List.setIfInBounds_toArray]
          refine take_at (i := 11) 8 (v := .int .i64 ev) rfl rfl (by kernel_rfl) (by kernel_rfl) (by kernel_rfl) (fun _ _ _ h => h) (Or.inl ⟨by rfl, by intro w_ hSw; go_simp⟩) (by assumption) ?_
          try simp only [Act.put]
          refine wpAnyH_done (by kernel_rfl) ?_ _
          go_wp2_with fail
          go_meet
          exact ⟨g7, a, ev, rfl, rfl, HSg7.out, HFIT.out, hHeld⟩
      case rest =>
        obtain ⟨g7, a, ev, rfl, rfl, hB7, hfit, hb⟩ := hcut
        have HB7 := hide (stay_blk hB7)
        replace HQ := hide (HQ.out.step hb)
        have HOC := hide (own_bel HO.out hb)
        have HF2 := hide (Below.step HF.out hb)
        clear hB7 hb HO HF
        rcases hfit with ⟨rfl, hok, hfr⟩ | ⟨rfl, hno⟩
        · have HAL := hide (HA.out.snoc (by omega) hok hfr)
          have HDD := hide (Rws.of_own alo_n HOC.out hL.symm)
          clear hok hfr
          have y0 : wc.cell? ⟨g7, 0, none⟩ = some (.int .i64 a.pa) := HB7.out.now.cell 0
          have y1 : wc.cell? ⟨g7, 1, none⟩ = some (.int .i64 a.sf) := HB7.out.now.cell 1
          have y2 : wc.cell? ⟨g7, 2, none⟩ = some (.int .i64 a.sl) := HB7.out.now.cell 2
          have y3 : wc.cell? ⟨g7, 3, none⟩ = some (.int .i64 a.sy) := HB7.out.now.cell 3
          have y4 : wc.cell? ⟨g7, 4, none⟩ = some (.int .i64 a.sn) := HB7.out.now.cell 4
          have y5 : wc.cell? ⟨g7, 5, none⟩ = some (.int .i64 a.bk) := HB7.out.now.cell 5
          have y6 : wc.cell? ⟨g7, 6, none⟩ = some (.int .i64 a.bn) := HB7.out.now.cell 6
          have hhs := HF2.out.size
          go_wp2_with (at_builtin; refine wpList_append_any _ rfl (.tmp 56) (.tmp 58) _ rfl w4.heap.size 34 i0 _ 7 56 Try.underlying32 hi0 hz0 hz1 hz2 rfl (by omega) _ k (flatC Alo.cs L) rfl (HOC.out.alloc _) _ (some ⟨wc.heap.size, 0, none⟩) 1 1 (flatC Alo.cs [a]) rfl (Rws.reads alo_n (by omega) (alos_blk (Blk.new wc 34 #[.int .i64 a.pa, .int .i64 a.sf, .int .i64 a.sl, .int .i64 a.sy, .int .i64 a.sn, .int .i64 a.bk, .int .i64 a.bn]))) (flat_one alo_one _) (by simp only [maxLen]; omega) (by omega) (by simp; omega) ?_; intro v9 w9 hown9 hgrow9 _; obtain ⟨A9, c9, rfl⟩ := own_form hown9; rw [flat_snoc] at hown9; have HF3 := hide (Below.app HF2.out HOC.out hgrow9); have HO9 := hide hown9; clear hown9 hgrow9 y0 y1 y2 y3 y4 y5 y6 hhs; replace HQ := hide (HT.out.step HF3.out); have z0 : w9.cell? ⟨w.heap.size, 0, none⟩ = some (strV nm) := HQ.out.now.1.1.1.1.cell 0; have z1 : w9.cell? ⟨w.heap.size, 1, none⟩ = some (.int .i64 ce) := HQ.out.now.1.1.1.1.cell 1; have z2 : w9.cell? ⟨w.heap.size, 2, none⟩ = some (.int .i64 wi) := HQ.out.now.1.1.1.1.cell 2; have z3 : w9.cell? ⟨w.heap.size, 3, none⟩ = some (.slice PA P.length pc) := HQ.out.now.1.1.1.1.cell 3; have z4 : w9.cell? ⟨w.heap.size, 4, none⟩ = some (.slice SA S.length sc) := HQ.out.now.1.1.1.1.cell 4; simp only [])
          go_at_call 9
          refine (copy_ref nm ce wi PA SA pc sc P S _ HP6.out HS14.out HQ.out.now.1.2 HQ.out.now.2).mono ?_
          rintro e w10 ⟨A1, q1, A2, q2, rfl, hs1, hs2, hb⟩
          have HS1 := hide (stay_rws hs1)
          have HS2 := hide (stay_rws hs2)
          have HO10 := hide (own_bel HO9.out hb)
          have HF4 := hide (Below.step HF3.out hb)
          clear hs1 hs2 hb z0 z1 z2 z3 z4
          simp only []
          go_wp2_with fail
          have HLN := hide (show (L ++ [a]).length = k + 1 from by rw [List.length_append, hL]; rfl)
          go_at_call 10
          refine (copyAllocations_ref (L ++ [a]) A9 c9 (k + 1) _ HLN.out (Rws.of_own alo_n HO10.out HLN.out.symm) (by omega)).mono ?_
          rintro e w11 ⟨A3, q3, rfl, hq3, hs3, hb⟩
          replace HS1 := hide (HS1.out.step hb)
          replace HS2 := hide (HS2.out.step hb)
          have HS3 := hide (stay_rws hs3)
          have HO11 := hide (own_bel HO10.out hb)
          have HF5 := hide (Below.step HF4.out hb)
          clear hs3 hb
          simp only []
          go_wp2_with fail
          go_at_call 12
          refine (show Calls Try.prog 12 #[.agg #[strV nm, .int .i64 ce, .int .i64 wi, .slice A1 P.length q1, .slice A2 S.length q2], .slice A3 (k + 1) q3] _ _ from by
            have h := checkAllocations_ok nm ce wi A1 A2 q1 q2 P S (L ++ [a]) A3 q3 _ HNM.out HC.out HAL.out (by rw [HLN.out]; exact hq3) HS1.out.now HS2.out.now HS3.out.now
            rw [HLN.out] at h
            exact h).mono ?_
          rintro e w12 ⟨rfl, hb⟩
          have HO12 := hide (own_bel HO11.out hb)
          have HF6 := hide (Below.step HF5.out hb)
          clear hb HO9 HO10 HO11 HF3 HF4 HF5 hq3
          simp only []
          go_wp2_with fail
          go_roundw
          case rel => exact ⟨k + 1, L ++ [a], A9, c9, by go_num, rfl, HLN.out, by omega, HO12.out, HAL.out, HF6.out⟩
          case measure => simp [intOf]; omega
        · have HNO := hide hno
          have HDD := hide (Rws.of_own alo_n HOC.out hL.symm)
          clear hno
          have z0 : wc.cell? ⟨w.heap.size, 0, none⟩ = some (strV nm) := HQ.out.now.1.1.1.1.cell 0
          have z1 : wc.cell? ⟨w.heap.size, 1, none⟩ = some (.int .i64 ce) := HQ.out.now.1.1.1.1.cell 1
          have z2 : wc.cell? ⟨w.heap.size, 2, none⟩ = some (.int .i64 wi) := HQ.out.now.1.1.1.1.cell 2
          have z3 : wc.cell? ⟨w.heap.size, 3, none⟩ = some (.slice PA P.length pc) := HQ.out.now.1.1.1.1.cell 3
          have z4 : wc.cell? ⟨w.heap.size, 4, none⟩ = some (.slice SA S.length sc) := HQ.out.now.1.1.1.1.cell 4
          have x0 : wc.cell? ⟨w.heap.size + 1, 0, none⟩ = some (.int .i64 pa) := HQ.out.now.1.1.1.2.cell 0
          have x1 : wc.cell? ⟨w.heap.size + 1, 1, none⟩ = some (.int .i64 fr) := HQ.out.now.1.1.1.2.cell 1
          have x2 : wc.cell? ⟨w.heap.size + 1, 2, none⟩ = some (.int .i64 te) := HQ.out.now.1.1.1.2.cell 2
          have x3 : wc.cell? ⟨w.heap.size + 1, 3, none⟩ = some (.int .i64 sy) := HQ.out.now.1.1.1.2.cell 3
          have x4 : wc.cell? ⟨w.heap.size + 1, 4, none⟩ = some (.int .i64 sn) := HQ.out.now.1.1.1.2.cell 4
          have x5 : wc.cell? ⟨w.heap.size + 1, 5, none⟩ = some (.int .i64 bn) := HQ.out.now.1.1.1.2.cell 5
          go_wp2_with fail
          go_at_call 11
          refine (show Calls Try.prog 11 #[.agg #[strV nm, .int .i64 ce, .int .i64 wi, .slice PA P.length pc, .slice SA S.length sc], .slice A k d, .agg #[.int .i64 pa, .int .i64 fr, .int .i64 te, .int .i64 sy, .int .i64 sn, .int .i64 bn]] _ _ from by
            have h := full_ok nm ce wi PA SA pc sc P S L A d pa fr te sy sn bn _ HNM.out HC.out HA.out HX.out HS14.out HQ.out.now.1.2 HQ.out.now.2 HDD.out HNO.out
            rw [hL] at h
            exact h).mono ?_
          rintro e w9 ⟨rfl, hb⟩
          have HBE := hide (Below.step HQ.out.now.1.1.2 hb)
          clear hb
          simp only []
          go_wp2_with fail
          go_ret
          exact ⟨rfl, HBE.out⟩
    · obtain rfl : k = 8 := by omega
      have HBE := hide HQ.out.now.1.1.2
      go_wp2_with fail
      go_ret
      exact ⟨rfl, HBE.out⟩
end Go.Proofs.Ytfolipkbcibgdaa
