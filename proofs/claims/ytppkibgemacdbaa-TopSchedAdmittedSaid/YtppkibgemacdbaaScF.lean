import Derived.Test.YtppkibgemacdbaaScE
import Derived.Deep.CutRange
namespace Go.Proofs.Ytppkibgemacdbaa
open Go.RowKit Go.WideShapes Go.ChangeShapes

/-! the reference: what right bearers need together, whether it fits, names -/
def sumT (l : List Int) (k : Nat) : Int := sumI (l.take k)
theorem sumT_succ (l : List Int) (k : Nat) (hk : k < l.length) : sumT l (k + 1) = sumT l k + l[k] := sumI_take l k hk
theorem sumT_bd {M : Int} (hM : 0 ≤ M) (l : List Int) (h : ∀ x ∈ l, 0 ≤ x ∧ x ≤ M) (hl : l.length ≤ 20) (k : Nat) : 0 ≤ sumT l k ∧ sumT l k ≤ 20 * M := by
  unfold sumT
  have h1 := sumI_bd hM (l.take k) (fun x hx => h x (List.mem_of_mem_take hx))
  have h2 : ((l.take k).length : Int) ≤ 20 := by have := List.length_take_le k l; rw [List.length_take]; omega
  have h3 := Int.mul_le_mul_of_nonneg_right h2 hM
  omega
theorem sumT_all (l : List Int) (k : Nat) (h : l.length = k) : sumT l k = sumI l := by unfold sumT; rw [← h, List.take_length]
set_option maxRecDepth 100000 in
set_option maxHeartbeats 8000000 in
theorem needs_ref (B C P : Int) (A : Option Addr) (c n : Nat) (T : List Int) (L : List Ber) (D : Option Addr) (d m : Nat) (w : World) (hn : T.length = n) (hm : L.length = m) (hs : Sl w A (iv T)) (hs2 : OkS B C P T) (ho : ∀ x ∈ L, OkR T x) (hl : m ≤ 20) (hD : Brs w D L) :
    Calls Try.prog 62 #[.agg #[.int .i64 B, .int .i64 C, .int .i64 P, .slice A n c], .slice D m d] w fun e w' => e = .returned (.agg #[.int .i64 (sumI (L.map (ndB T))), .int .i64 (sumI (L.map ndC)), .int .i64 (sumI (L.map (ndP T)))]) ∧ Below w.heap.size w w' := by
  have HNE := hide (fun x W hx k => needR_all B C P A c n T x W hn k hs2 (ho x hx))
  have HRB := hide (fun k => sumT_bd (M := 1000000) (by omega) (L.map (ndB T)) (by intro y hy; obtain ⟨x, hx, rfl⟩ := List.mem_map.1 hy; exact ndB_bd hs2 (ho x hx)) (by rw [List.length_map]; omega) k)
  have HRC := hide (fun k => sumT_bd (M := 1) (by omega) (L.map ndC) (by intro y hy; obtain ⟨x, hx, rfl⟩ := List.mem_map.1 hy; exact ndC_bd x) (by rw [List.length_map]; omega) k)
  have HRP := hide (fun k => sumT_bd (M := 1000000 * 100000) (by omega) (L.map (ndP T)) (by intro y hy; obtain ⟨x, hx, rfl⟩ := List.mem_map.1 hy; exact ndP_bd hs2 (ho x hx)) (by rw [List.length_map]; omega) k)
  have HSU := hide (fun k (hk : k < L.length) => And.intro (sumT_succ (L.map (ndB T)) k (by rw [List.length_map]; exact hk)) (And.intro (sumT_succ (L.map ndC) k (by rw [List.length_map]; exact hk)) (sumT_succ (L.map (ndP T)) k (by rw [List.length_map]; exact hk))))
  rw [← sumT_all (L.map (ndB T)) m (by rw [List.length_map]; exact hm), ← sumT_all (L.map ndC) m (by rw [List.length_map]; exact hm), ← sumT_all (L.map (ndP T)) m (by rw [List.length_map]; exact hm)]
  have h00 : sumT (L.map (ndB T)) 0 = 0 ∧ sumT (L.map ndC) 0 = 0 ∧ sumT (L.map (ndP T)) 0 = 0 := by simp [sumT, sumI]
  have HT := hide ((stay_sl hs).and (stay_brs hD))
  have hb0 : Below w.heap.size w (((w.alloc (.cells #[.int .i64 B, .int .i64 C, .int .i64 P, .slice A n c] 24)).alloc (.cells #[.int .i64 0, .int .i64 0, .int .i64 0] 51)).alloc (.cells #[.int .i64 0, .int .i64 0, .int .i64 0] 51)) := (((Below.refl _ w).alloc (Nat.le_refl _) (.cells #[.int .i64 B, .int .i64 C, .int .i64 P, .slice A n c] 24)).alloc (by simp) (.cells #[.int .i64 0, .int .i64 0, .int .i64 0] 51)).alloc (by simp; omega) (.cells #[.int .i64 0, .int .i64 0, .int .i64 0] 51)
  have hx0 := ((Blk.new w 24 #[.int .i64 B, .int .i64 C, .int .i64 P, .slice A n c]).alloc (.cells #[.int .i64 0, .int .i64 0, .int .i64 0] 51)).alloc (.cells #[.int .i64 0, .int .i64 0, .int .i64 0] 51)
  have hx1 := (blk_up w 24 51 #[.int .i64 B, .int .i64 C, .int .i64 P, .slice A n c] #[.int .i64 0, .int .i64 0, .int .i64 0]).alloc (.cells #[.int .i64 0, .int .i64 0, .int .i64 0] 51)
  have hx2 := blk_up2 w 24 51 51 #[.int .i64 B, .int .i64 C, .int .i64 P, .slice A n c] #[.int .i64 0, .int .i64 0, .int .i64 0] #[.int .i64 0, .int .i64 0, .int .i64 0]
  have HI := hide (And.intro hb0 (And.intro hx0 (And.intro hx1 hx2)))
  clear hs hs2 ho hn hb0 hx0 hx1 hx2 hD
  go_enter Try.func62, Try.ntmps62
  go_wp2_with fail
  obtain ⟨W3, hW3⟩ : ∃ W3, ((w.alloc (.cells #[.int .i64 B, .int .i64 C, .int .i64 P, .slice A n c] 24)).alloc (.cells #[.int .i64 0, .int .i64 0, .int .i64 0] 51)).alloc (.cells #[.int .i64 0, .int .i64 0, .int .i64 0] 51) = W3 := ⟨_, rfl⟩
  rw [hW3] at HI ⊢
  clear hW3
  go_loopw [6] (fun i wr => ∃ k : Nat, k ≤ m ∧ i = .int .i64 k ∧ ((Below w.heap.size w wr ∧ Blk wr w.heap.size 24 #[.int .i64 B, .int .i64 C, .int .i64 P, .slice A n c]) ∧ Blk wr (w.heap.size + 1) 51 #[.int .i64 0, .int .i64 0, .int .i64 0]) ∧ Blk wr (w.heap.size + 2) 51 #[.int .i64 (sumT (L.map (ndB T)) k), .int .i64 (sumT (L.map ndC) k), .int .i64 (sumT (L.map (ndP T)) k)]) (fun i _ => m - (intOf i).toNat)
  case atStart => exact ⟨0, Nat.zero_le _, rfl, ⟨⟨HI.out.1, HI.out.2.1⟩, HI.out.2.2.1⟩, by rw [h00.1, h00.2.1, h00.2.2]; exact HI.out.2.2.2⟩
  case round =>
    obtain ⟨k, hkm, rfl, hF, hO⟩ := hrel
    clear HI h00
    replace hF := hide hF
    replace hO := hide hO
    by_cases hlt : k < m
    · have hkl : k < L.length := by omega
      have hki : (k : Int) < (m : Int) := by omega
      obtain ⟨b, o, rfl, b0, b1, b2, b3, b4, b5, b6, b7, b8⟩ := (HT.out _ hF.out.1.1).2.at_ k hkl
      have hsu := HSU.out k hkl
      have hrb := HRB.out (k + 1)
      have hrc := HRC.out (k + 1)
      have hrp := HRP.out (k + 1)
      have hmem : L[k] ∈ L := List.getElem_mem hkl
      have HN := hide (fun W q => HNE.out L[k] W hmem q)
      rw [hsu.1] at hrb
      rw [hsu.2.1] at hrc
      rw [hsu.2.2] at hrp
      simp only [List.getElem_map] at hsu hrb hrc hrp
      replace hsu := hide hsu
      obtain ⟨x, hx⟩ : ∃ x, L[k] = x := ⟨_, rfl⟩
      rw [hx] at hsu hrb hrc hrp HN b0 b1 b2 b3 b4 b5 b6 b7 b8
      obtain ⟨X, hX⟩ : ∃ X, sumT (L.map (ndB T)) k = X := ⟨_, rfl⟩
      obtain ⟨Y, hY⟩ : ∃ X, sumT (L.map ndC) k = X := ⟨_, rfl⟩
      obtain ⟨Z, hZ⟩ : ∃ X, sumT (L.map (ndP T)) k = X := ⟨_, rfl⟩
      rw [hX] at hO hsu hrb
      rw [hY] at hO hsu hrc
      rw [hZ] at hO hsu hrp
      obtain ⟨a1, ha1⟩ : ∃ X, ndB T x = X := ⟨_, rfl⟩
      obtain ⟨a2, ha2⟩ : ∃ X, ndC x = X := ⟨_, rfl⟩
      obtain ⟨a3, ha3⟩ : ∃ X, ndP T x = X := ⟨_, rfl⟩
      rw [ha1] at HN hsu hrb
      rw [ha2] at HN hsu hrc
      rw [ha3] at HN hsu hrp
      have w1 : IntKind.i64.wrap (X + a1) = X + a1 := IntWalk.i64_in _ (by omega)
      have w2 : IntKind.i64.wrap (Y + a2) = Y + a2 := IntWalk.i64_in _ (by omega)
      have w3 : IntKind.i64.wrap (Z + a3) = Z + a3 := IntWalk.i64_in _ (by omega)
      have hzz := hO.out.lt
      have HB0 := hide (And.intro b0 (And.intro b1 (And.intro b2 (And.intro b3 (And.intro b4 (And.intro b5 (And.intro b6 (And.intro b7 b8))))))))
      clear hX hY hZ ha1 ha2 ha3 hrb hrc hrp hmem hx b0 b1 b2 b3 b4 b5 b6 b7 b8
      go_wp2_with fail
      go_cut [7] from 8 to 35 (fun s7 wx => ∃ g, s7 = .pointer (some ⟨g, 0, none⟩) ∧ Blk wx g 51 #[.int .i64 a1, .int .i64 a2, .int .i64 a3] ∧ wr.heap.size ≤ g ∧ Below wr.heap.size wr wx)
      case first =>
        refine wp_region_held_drew (S := fun w_ => Below wr.heap.size wr w_) (by kernel_rfl) (below_drewN (Below.refl wr.heap.size wr) 1) (fun hHeld => ?_)
        obtain ⟨v0, hv0⟩ : ∃ v0, wr.drew = v0 := ⟨_, rfl⟩
        replace hHeld : Below wr.heap.size wr wr.drew := hHeld
        rw [hv0] at hHeld
        first | rw [hv0] | (change wpAnyH _ _ _ _ _ _ _ _ wr.drew; rw [hv0])
        clear hv0
        refine take_at (i := 0) 14 (v := .agg #[.int .i64 B, .int .i64 C, .int .i64 P, .slice A n c]) rfl rfl (by kernel_rfl) (by kernel_rfl) (by kernel_rfl) (fun _ _ _ h => h) (Or.inl ⟨by rfl, by intro w_ hSw; have hq := hF.out.1.2.below hSw hF.out.1.2.lt; have c0 : w_.cell? ⟨w.heap.size, 0, none⟩ = some (.int .i64 B) := hq.cell 0; have c1 : w_.cell? ⟨w.heap.size, 1, none⟩ = some (.int .i64 C) := hq.cell 1; have c2 : w_.cell? ⟨w.heap.size, 2, none⟩ = some (.int .i64 P) := hq.cell 2; have c3 : w_.cell? ⟨w.heap.size, 3, none⟩ = some (.slice A n c) := hq.cell 3; go_simp⟩) (by assumption) ?_
        try simp only [Act.put, List.setIfInBounds_toArray, List.set_cons_zero, List.set_cons_succ]
        refine take_at (i := 1) 15 (v := .slice (some ⟨b, o, none⟩) m d) rfl rfl (by kernel_rfl) (by kernel_rfl) (by kernel_rfl) (fun _ _ _ h => h) (Or.inl ⟨by rfl, by intro w_ hSw; go_simp⟩) (by assumption) ?_
        try simp only [Act.put, List.setIfInBounds_toArray, List.set_cons_zero, List.set_cons_succ]
        refine take_at (i := 2) 16 (v := .int .i64 (k : Int)) rfl rfl (by kernel_rfl) (by kernel_rfl) (by kernel_rfl) (fun _ _ _ h => h) (Or.inl ⟨by rfl, by intro w_ hSw; go_simp⟩) (by assumption) ?_
        try simp only [Act.put, List.setIfInBounds_toArray, List.set_cons_zero, List.set_cons_succ]
        refine take_at (i := 3) 17 (v := .pointer (some ⟨b, o + k * 9, none⟩)) rfl rfl (by kernel_rfl) (by kernel_rfl) (by kernel_rfl) (fun _ _ _ h => h) (Or.inl ⟨by rfl, by intro w_ hSw; go_simp⟩) (by assumption) ?_
        try simp only [Act.put, List.setIfInBounds_toArray, List.set_cons_zero, List.set_cons_succ]
        refine take_at (i := 4) 18 (v := .agg #[strV x.nm, .int .i64 x.kd, .int .i64 x.pr, .int .i64 x.wt, .int .i64 x.pw, .int .i64 x.le, .int .i64 x.bu, .int .i64 x.ra, .int .i64 x.de]) rfl rfl (by kernel_rfl) (by kernel_rfl) (by kernel_rfl) (fun _ _ _ h => h) (Or.inl ⟨by rfl, by intro w_ hSw; obtain ⟨b0, b1, b2, b3, b4, b5, b6, b7, b8⟩ := HB0.out; replace b0 := (hSw.cell (lt_of_cell b0)).trans b0; replace b1 := (hSw.cell (lt_of_cell b1)).trans b1; replace b2 := (hSw.cell (lt_of_cell b2)).trans b2; replace b3 := (hSw.cell (lt_of_cell b3)).trans b3; replace b4 := (hSw.cell (lt_of_cell b4)).trans b4; replace b5 := (hSw.cell (lt_of_cell b5)).trans b5; replace b6 := (hSw.cell (lt_of_cell b6)).trans b6; replace b7 := (hSw.cell (lt_of_cell b7)).trans b7; replace b8 := (hSw.cell (lt_of_cell b8)).trans b8; go_simp⟩) (by assumption) ?_
        try simp only [Act.put, List.setIfInBounds_toArray, List.set_cons_zero, List.set_cons_succ]
        obtain ⟨g7, hg7⟩ : ∃ g, v0.heap.size = g := ⟨_, rfl⟩
        refine wpAnyH_ready (rs := [5, 6]) (by kernel_rfl) (by simp) ?_
        refine AllReadyH.cons rfl (fun K hK => ?_) (AllReadyH.cons rfl (fun K hK => ?_) AllReadyH.nil)
        · clear hg7
          go_simp
          go_at_call 65
          refine (HN.out _ (HT.out _ (Below.step hF.out.1.1 hHeld)).1).mono ?_
          rintro e v1 ⟨rfl, hb⟩
          replace hHeld := Below.step hHeld hb
          clear hb
          simp only []
          refine hK.out _ _ hHeld (fun hHeld => ?_)
          clear hK K
          try simp only [Act.put, List.setIfInBounds_toArray, List.set_cons_zero, List.set_cons_succ]
          obtain ⟨g7, hg7⟩ : ∃ g, v1.heap.size = g := ⟨_, rfl⟩
          refine wpAnyH_ready (rs := [6]) (by kernel_rfl) (by simp) ?_
          refine AllReadyH.cons rfl (fun K hK => ?_) AllReadyH.nil
          go_simp
          have hb := (Below.refl v1.heap.size v1).alloc (Nat.le_refl _) (.cells #[.int .i64 0, .int .i64 0, .int .i64 0] 51)
          have g7ge := Nat.le_trans hHeld.size (Nat.le_of_eq hg7)
          replace hHeld := Below.step hHeld hb
          have Hg7 := hide (stay_blk (Blk.newN v1 51 #[.int .i64 0, .int .i64 0, .int .i64 0] hg7))
          obtain ⟨v2, hwn⟩ : ∃ w9, v1.alloc (.cells #[.int .i64 0, .int .i64 0, .int .i64 0] 51) = w9 := ⟨_, rfl⟩
          rw [hwn] at hHeld Hg7 ⊢
          clear hb hwn hg7
          refine hK.out _ _ hHeld (fun hHeld => ?_)
          clear hK K
          try simp only [Act.put, List.setIfInBounds_toArray, List.set_cons_zero, List.set_cons_succ]
          refine wpAnyH_ready (rs := [7]) (by kernel_rfl) (by simp) ?_
          refine AllReadyH.cons rfl (fun K hK => ?_) AllReadyH.nil
          refine step_store_rowF rfl 51 _ _ rfl g7 #[.int .i64 a1, .int .i64 a2, .int .i64 a3] rfl rfl 51 #[.int .i64 0, .int .i64 0, .int .i64 0] Hg7.out.now (by kernel_rfl) rfl (by simp [Value.oneCell']) ?_
          replace hHeld := Below.row (g := g7) hHeld g7ge #[.int .i64 a1, .int .i64 a2, .int .i64 a3]
          have HSg7 := hide (Hg7.out.now.row #[.int .i64 a1, .int .i64 a2, .int .i64 a3])
          obtain ⟨v3, hwn⟩ : ∃ w9, v2.setRow g7 #[.int .i64 a1, .int .i64 a2, .int .i64 a3] = w9 := ⟨_, rfl⟩
          rw [hwn] at hHeld HSg7  ⊢
          clear hwn Hg7
          refine hK.out _ _ hHeld (fun hHeld => ?_)
          clear hK K
          try simp only [Act.put, List.setIfInBounds_toArray]
          refine wpAnyH_done (by kernel_rfl) ?_ _
          go_wp2_with fail
          go_meet
          exact ⟨g7, rfl, HSg7.out, g7ge, hHeld⟩
        · go_simp
          have hb := (Below.refl v0.heap.size v0).alloc (Nat.le_refl _) (.cells #[.int .i64 0, .int .i64 0, .int .i64 0] 51)
          have g7ge := Nat.le_trans hHeld.size (Nat.le_of_eq hg7)
          replace hHeld := Below.step hHeld hb
          have Hg7 := hide (stay_blk (Blk.newN v0 51 #[.int .i64 0, .int .i64 0, .int .i64 0] hg7))
          obtain ⟨v1, hwn⟩ : ∃ w9, v0.alloc (.cells #[.int .i64 0, .int .i64 0, .int .i64 0] 51) = w9 := ⟨_, rfl⟩
          rw [hwn] at hHeld Hg7 ⊢
          clear hb hwn hg7
          refine hK.out _ _ hHeld (fun hHeld => ?_)
          clear hK K
          try simp only [Act.put, List.setIfInBounds_toArray, List.set_cons_zero, List.set_cons_succ]
          refine wpAnyH_ready (rs := [5]) (by kernel_rfl) (by simp) ?_
          refine AllReadyH.cons rfl (fun K hK => ?_) AllReadyH.nil
          go_simp
          go_at_call 65
          refine (HN.out _ (HT.out _ (Below.step hF.out.1.1 hHeld)).1).mono ?_
          rintro e v2 ⟨rfl, hb⟩
          replace Hg7 := hide (Hg7.out.step hb)
          replace hHeld := Below.step hHeld hb
          clear hb
          simp only []
          refine hK.out _ _ hHeld (fun hHeld => ?_)
          clear hK K
          try simp only [Act.put, List.setIfInBounds_toArray, List.set_cons_zero, List.set_cons_succ]
          refine wpAnyH_ready (rs := [7]) (by kernel_rfl) (by simp) ?_
          refine AllReadyH.cons rfl (fun K hK => ?_) AllReadyH.nil
          refine step_store_rowF rfl 51 _ _ rfl g7 #[.int .i64 a1, .int .i64 a2, .int .i64 a3] rfl rfl 51 #[.int .i64 0, .int .i64 0, .int .i64 0] Hg7.out.now (by kernel_rfl) rfl (by simp [Value.oneCell']) ?_
          replace hHeld := Below.row (g := g7) hHeld g7ge #[.int .i64 a1, .int .i64 a2, .int .i64 a3]
          have HSg7 := hide (Hg7.out.now.row #[.int .i64 a1, .int .i64 a2, .int .i64 a3])
          obtain ⟨v3, hwn⟩ : ∃ w9, v2.setRow g7 #[.int .i64 a1, .int .i64 a2, .int .i64 a3] = w9 := ⟨_, rfl⟩
          rw [hwn] at hHeld HSg7  ⊢
          clear hwn Hg7
          refine hK.out _ _ hHeld (fun hHeld => ?_)
          clear hK K
          try simp only [Act.put, List.setIfInBounds_toArray]
          refine wpAnyH_done (by kernel_rfl) ?_ _
          go_wp2_with fail
          go_meet
          exact ⟨g7, rfl, HSg7.out, g7ge, hHeld⟩
      case rest =>
        obtain ⟨g, rfl, hB5, hg5, hb⟩ := hcut
        have HQ := hide (((((stay_below hF.out.1.1).and (stay_blk hF.out.1.2)).and (stay_blk hF.out.2)).and (stay_blk hO.out)).step hb |>.and (stay_blk hB5))
        clear hb hB5
        have t0 : wc.cell? ⟨w.heap.size + 2, 0, none⟩ = some (.int .i64 X) := HQ.out.now.1.2.cell 0
        have t1 : wc.cell? ⟨w.heap.size + 2, 1, none⟩ = some (.int .i64 Y) := HQ.out.now.1.2.cell 1
        have t2 : wc.cell? ⟨w.heap.size + 2, 2, none⟩ = some (.int .i64 Z) := HQ.out.now.1.2.cell 2
        have y0 : wc.cell? ⟨g, 0, none⟩ = some (.int .i64 a1) := HQ.out.now.2.cell 0
        have y1 : wc.cell? ⟨g, 1, none⟩ = some (.int .i64 a2) := HQ.out.now.2.cell 1
        have y2 : wc.cell? ⟨g, 2, none⟩ = some (.int .i64 a3) := HQ.out.now.2.cell 2
        go_wp2_with (refine wpList_store_row rfl 51 (.tmp 5) (.tmp 35) rfl (w.heap.size + 2) #[.int .i64 (X + a1), .int .i64 (Y + a2), .int .i64 (Z + a3)] rfl rfl 51 #[.int .i64 X, .int .i64 Y, .int .i64 Z] HQ.out.now.1.2 (by kernel_rfl) rfl (by simp [Value.oneCell']) ?_)
        have HE := hide (HQ.out.now.1.2.row #[.int .i64 (X + a1), .int .i64 (Y + a2), .int .i64 (Z + a3)])
        have HE1 := hide (HQ.out.now.1.1.2.rowFar (k := w.heap.size + 2) (by omega) #[.int .i64 (X + a1), .int .i64 (Y + a2), .int .i64 (Z + a3)])
        have HE0 := hide (HQ.out.now.1.1.1.2.rowFar (k := w.heap.size + 2) (by omega) #[.int .i64 (X + a1), .int .i64 (Y + a2), .int .i64 (Z + a3)])
        have HEB := hide (Below.row (g := w.heap.size + 2) HQ.out.now.1.1.1.1 (by omega) #[.int .i64 (X + a1), .int .i64 (Y + a2), .int .i64 (Z + a3)])
        obtain ⟨W7, hW7⟩ : ∃ W7, wc.setRow (w.heap.size + 2) #[.int .i64 (X + a1), .int .i64 (Y + a2), .int .i64 (Z + a3)] = W7 := ⟨_, rfl⟩
        rw [hW7] at HE HE0 HE1 HEB ⊢
        clear hW7 HQ t0 t1 t2 y0 y1 y2 w1 w2 w3
        go_wp2_with fail
        go_roundw
        case rel => exact ⟨k + 1, by omega, by go_num, ⟨⟨HEB.out, HE0.out⟩, HE1.out⟩, by rw [hsu.out.1, hsu.out.2.1, hsu.out.2.2]; exact HE.out⟩
        case measure => simp [intOf]; omega
    · obtain rfl : k = m := by omega
      have hki : ¬ (k : Int) < (k : Int) := by omega
      obtain ⟨X, hX⟩ : ∃ X, sumT (L.map (ndB T)) k = X := ⟨_, rfl⟩
      obtain ⟨Y, hY⟩ : ∃ X, sumT (L.map ndC) k = X := ⟨_, rfl⟩
      obtain ⟨Z, hZ⟩ : ∃ X, sumT (L.map (ndP T)) k = X := ⟨_, rfl⟩
      rw [hX, hY, hZ] at hO
      have c0 : wr.cell? ⟨w.heap.size + 2, 0, none⟩ = some (.int .i64 X) := hO.out.cell 0
      have c1 : wr.cell? ⟨w.heap.size + 2, 1, none⟩ = some (.int .i64 Y) := hO.out.cell 1
      have c2 : wr.cell? ⟨w.heap.size + 2, 2, none⟩ = some (.int .i64 Z) := hO.out.cell 2
      replace hX := hide hX
      replace hY := hide hY
      replace hZ := hide hZ
      go_wp2_with (refine wpList_store_row rfl 51 (.tmp 4) (.tmp 36) rfl (w.heap.size + 1) #[.int .i64 X, .int .i64 Y, .int .i64 Z] rfl rfl 51 #[.int .i64 0, .int .i64 0, .int .i64 0] hF.out.2 (by kernel_rfl) rfl (by simp [Value.oneCell']) ?_)
      have HX2 := hide (hF.out.2.row #[.int .i64 X, .int .i64 Y, .int .i64 Z])
      have HB2 := hide (Below.row (g := w.heap.size + 1) hF.out.1.1 (by omega) #[.int .i64 X, .int .i64 Y, .int .i64 Z])
      obtain ⟨W8, hW8⟩ : ∃ W8, wr.setRow (w.heap.size + 1) #[.int .i64 X, .int .i64 Y, .int .i64 Z] = W8 := ⟨_, rfl⟩
      rw [hW8] at HX2 HB2 ⊢
      refine bodyPost_ret (v := .agg #[.int .i64 X, .int .i64 Y, .int .i64 Z]) ?_ rfl ⟨by rw [hX.out, hY.out, hZ.out], HB2.out⟩
      have y0 : W8.cell? ⟨w.heap.size + 1, 0, none⟩ = some (.int .i64 X) := HX2.out.cell 0
      have y1 : W8.cell? ⟨w.heap.size + 1, 1, none⟩ = some (.int .i64 Y) := HX2.out.cell 1
      have y2 : W8.cell? ⟨w.heap.size + 1, 2, none⟩ = some (.int .i64 Z) := HX2.out.cell 2
      simp [results, Try.results62, go_sem, y0, y1, y2]
set_option maxRecDepth 100000 in
set_option maxHeartbeats 4000000 in
theorem fit_ref (B C P : Int) (A : Option Addr) (c n : Nat) (T : List Int) (L : List Ber) (D : Option Addr) (d m : Nat) (w : World) (hn : T.length = n) (hm : L.length = m) (hs : Sl w A (iv T)) (hs2 : OkS B C P T) (hL : OkL B C P T L) (hD : Brs w D L) :
    Calls Try.prog 53 #[.agg #[.int .i64 B, .int .i64 C, .int .i64 P, .slice A n c], .slice D m d] w fun e w' => e = .returned (.bool true) ∧ Below w.heap.size w w' := by
  have HN := hide (fun W k k2 => needs_ref B C P A c n T L D d m W hn hm k hs2 hL.ok (by have := hL.few; omega) k2)
  have hfit := hL.fit
  simp only [fitL, Bool.and_eq_true, decide_eq_true_eq] at hfit
  obtain ⟨⟨f1, f2⟩, f3⟩ := hfit
  obtain ⟨X, hX⟩ : ∃ X, sumI (L.map (ndB T)) = X := ⟨_, rfl⟩
  obtain ⟨Y, hY⟩ : ∃ X, sumI (L.map ndC) = X := ⟨_, rfl⟩
  obtain ⟨Z, hZ⟩ : ∃ X, sumI (L.map (ndP T)) = X := ⟨_, rfl⟩
  rw [hX] at HN f1
  rw [hY] at HN f2
  rw [hZ] at HN f3
  have HT : Hid (Stay (w.alloc (.cells #[.int .i64 B, .int .i64 C, .int .i64 P, .slice A n c] 24)) (fun W => ((Blk W w.heap.size 24 #[.int .i64 B, .int .i64 C, .int .i64 P, .slice A n c] ∧ Sl W A (iv T)) ∧ Brs W D L) ∧ Below w.heap.size w W)) := hide ((((stay_blk (Blk.new w 24 #[.int .i64 B, .int .i64 C, .int .i64 P, .slice A n c])).and (stay_sl (hs.alloc (.cells #[.int .i64 B, .int .i64 C, .int .i64 P, .slice A n c] 24)))).and ((stay_brs hD).alloc (.cells #[.int .i64 B, .int .i64 C, .int .i64 P, .slice A n c] 24))).and (stay_below ((Below.refl _ w).alloc (Nat.le_refl _) (.cells #[.int .i64 B, .int .i64 C, .int .i64 P, .slice A n c] 24))))
  clear hs hs2 hL hD hn hX hY hZ
  go_enter Try.func53, Try.ntmps53
  go_wp2_with fail
  go_at_call 62
  refine (HN.out _ HT.out.now.1.1.2 HT.out.now.1.2).mono ?_
  rintro e w1 ⟨rfl, hb⟩
  replace HT := hide ((HT.out.step hb).alloc (.cells #[.int .i64 X, .int .i64 Y, .int .i64 Z] 51))
  have y0 : (w1.alloc (.cells #[.int .i64 X, .int .i64 Y, .int .i64 Z] 51)).cell? ⟨w.heap.size, 0, none⟩ = some (.int .i64 B) := HT.out.now.1.1.1.cell 0
  have y1 : (w1.alloc (.cells #[.int .i64 X, .int .i64 Y, .int .i64 Z] 51)).cell? ⟨w.heap.size, 1, none⟩ = some (.int .i64 C) := HT.out.now.1.1.1.cell 1
  have y2 : (w1.alloc (.cells #[.int .i64 X, .int .i64 Y, .int .i64 Z] 51)).cell? ⟨w.heap.size, 2, none⟩ = some (.int .i64 P) := HT.out.now.1.1.1.cell 2
  clear hb HN
  simp only []
  go_wp2_with fail
  go_ret
  exact ⟨rfl, HT.out.now.2⟩
theorem find_none (L : List Ber) (nm : Bs) (D : Option Addr) (d m : Nat) (w : World) (hm : L.length = m) (hl : m ≤ 1000) (hD : Brs w D L) (hno : nmIn L nm = false) :
    Calls Try.prog 52 #[.slice D m d, strV nm] w fun e w' => e = .returned (.int .i64 (-1)) ∧ w = w' := by
  have HD := hide hD
  have HNO := hide (show ∀ k (h : k < L.length), (L[k].nm == nm) = false from fun k h => by
    unfold nmIn at hno
    rw [List.any_eq_false] at hno
    simpa using hno _ (List.getElem_mem h))
  clear hD hno
  go_enter Try.func52, Try.ntmps52
  go_wp2_with fail
  go_loopw [5] (fun i wr => ∃ k : Nat, k ≤ m ∧ i = .int .i64 k ∧ w = wr) (fun i _ => m - (intOf i).toNat)
  case atStart => exact ⟨0, Nat.zero_le _, rfl, rfl⟩
  case round =>
    obtain ⟨k, hkm, rfl, rfl⟩ := hrel
    by_cases hlt : k < m
    · have hkl : k < L.length := by omega
      have hki : (k : Int) < (m : Int) := by omega
      obtain ⟨b, o, rfl, b0, -⟩ := HD.out.at_ k hkl
      have heq := fun W => eq_str L[k].nm nm W
      rw [HNO.out k hkl] at heq
      have eg : ∀ op u v z, eqGuard op 9 u v (strV L[k].nm) z = pure () := fun op u v z => eqG_str op u v L[k].nm z
      go_wp2_with fail
      exact ⟨⟨k + 1, by omega, by go_num, trivial⟩, by simp [intOf]; omega⟩
    · have hki : ¬ (k : Int) < (m : Int) := by omega
      go_wp2_with fail
      go_ret
      exact ⟨rfl, rfl⟩
end Go.Proofs.Ytppkibgemacdbaa
