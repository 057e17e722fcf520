import Derived.Test.YtppkibgemacdbaaSbF
namespace Go.Proofs.Ytppkibgemacdbaa
open Go.RowKit Go.WideShapes Go.ChangeShapes

/-! left of a run of any users -/
structure OkU (s : Usr) : Prop where
  bl : 0 ≤ s.bl ∧ s.bl ≤ 20
  rt : 0 ≤ s.rt ∧ s.rt ≤ 1000
  pw : 0 ≤ s.x.pw ∧ s.x.pw ≤ 100000
  wt : 1 ≤ s.x.wt ∧ s.x.wt ≤ 100
  wa : 0 ≤ s.wa ∧ s.wa ≤ 100000000
  se : 0 ≤ s.se ∧ s.se ≤ 100000000
  ne : 0 ≤ s.ne ∧ s.ne ≤ 1000000
def blC (s : Usr) : Int := if 0 < s.bl then 1 else 0
def blP (s : Usr) : Int := s.bl * s.x.pw
theorem blP_bd {s : Usr} (h : OkU s) : 0 ≤ blP s ∧ blP s ≤ 20 * 100000 := ⟨Int.mul_nonneg h.bl.1 h.pw.1, Int.mul_le_mul h.bl.2 h.pw.2 h.pw.1 (by omega)⟩
theorem blC_bd (s : Usr) : 0 ≤ blC s ∧ blC s ≤ 1 := by unfold blC; split <;> omega
theorem sl_ptr {W : World} {D : Option Addr} {Us : List Nat} (h : Sl W D (Us.map ptrV)) (k : Nat) (hk : k < Us.length) : ∃ b o, D = some ⟨b, o, none⟩ ∧ W.cell? ⟨b, o + k, none⟩ = some (.pointer (some ⟨Us[k], 0, none⟩)) := by
  obtain ⟨b, o, e, hc⟩ := h k (by simpa using hk)
  exact ⟨b, o, e, by simpa [ptrV] using hc⟩
set_option maxRecDepth 100000 in
set_option maxHeartbeats 8000000 in
theorem left_all (B C P : Int) (A : Option Addr) (c n : Nat) (R : Nat) (D : Option Addr) (m c' : Nat) (Us : List Nat) (S : List Usr) (w : World) (hm : S.length = m) (hm8 : m ≤ 8) (hR : Blk w R 93 #[.int .i64 B, .int .i64 C, .int .i64 P, .slice A n c, .slice D m c']) (hD : Sl w D (Us.map ptrV)) (hU : UsrAt w Us S) (hok : ∀ s ∈ S, OkU s)
    (hB : 0 ≤ B ∧ B ≤ 1000000) (hC : 0 ≤ C ∧ C ≤ 1000000) (hP : 0 ≤ P ∧ P ≤ 1000000) :
    Calls Try.prog 63 #[.pointer (some ⟨R, 0, none⟩)] w fun e w' => e = .returned (.agg #[.int .i64 (remN B (S.map (·.bl)) m), .int .i64 (remN C (S.map blC) m), .int .i64 (remN P (S.map blP) m)]) ∧ Below w.heap.size w w' := by
  have HRB := hide (fun k => remN_bd (v := B) (M := 20) (V := 1000000) (by omega) hB (S.map (·.bl)) (by intro y hy; obtain ⟨s, hs, rfl⟩ := List.mem_map.1 hy; exact (hok s hs).bl) (by rw [List.length_map]; omega) k)
  have HRC := hide (fun k => remN_bd (v := C) (M := 1) (V := 1000000) (by omega) hC (S.map blC) (by intro y hy; obtain ⟨s, hs, rfl⟩ := List.mem_map.1 hy; exact blC_bd s) (by rw [List.length_map]; omega) k)
  have HRP := hide (fun k => remN_bd (v := P) (M := 20 * 100000) (V := 1000000) (by omega) hP (S.map blP) (by intro y hy; obtain ⟨s, hs, rfl⟩ := List.mem_map.1 hy; exact blP_bd (hok s hs)) (by rw [List.length_map]; omega) k)
  have HSU := hide (fun k (hk : k < S.length) => And.intro (remN_succ B (S.map (·.bl)) k (by rw [List.length_map]; exact hk)) (And.intro (remN_succ C (S.map blC) k (by rw [List.length_map]; exact hk)) (remN_succ P (S.map blP) k (by rw [List.length_map]; exact hk))))
  have h00 : remN B (S.map (·.bl)) 0 = B ∧ remN C (S.map blC) 0 = C ∧ remN P (S.map blP) 0 = P := by simp [remN, sumI]
  have HOK := hide hok
  have HT := hide ((stay_blk hR).and (stay_sl hD) |>.and (show Stay w (fun W => UsrAt W Us S) from fun W hW => hU.bel hW))
  have hRl := hR.lt
  have HUL := hide hU.1
  clear hR hD hU hok hB hC hP
  go_enter Try.func63, Try.ntmps63
  go_wp2_with fail
  have HB0 := hide ((Below.refl _ w).alloc (Nat.le_refl _) (.cells #[.int .i64 0, .int .i64 0, .int .i64 0] 51))
  have HX0 := hide (Blk.new w 51 #[.int .i64 0, .int .i64 0, .int .i64 0])
  obtain ⟨W0, hW0⟩ : ∃ W0, w.alloc (.cells #[.int .i64 0, .int .i64 0, .int .i64 0] 51) = W0 := ⟨_, rfl⟩
  rw [hW0] at HB0 HX0 ⊢
  have hz0 : W0.heap.size = w.heap.size + 1 := by rw [← hW0]; simp
  replace hz0 := hide hz0
  clear hW0
  obtain ⟨L, hL⟩ : ∃ L, W0.heap.size = L := ⟨_, rfl⟩
  have hL1 : w.heap.size < L := by have := hz0.out; omega
  have HX1 := hide (HX0.out.alloc (.cells #[.int .i64 0, .int .i64 0, .int .i64 0] 51))
  have HB1 := hide (HB0.out.alloc (by have := hz0.out; omega) (.cells #[.int .i64 0, .int .i64 0, .int .i64 0] 51))
  have HL1 := hide (Blk.newN W0 51 #[.int .i64 0, .int .i64 0, .int .i64 0] hL)
  have hHeld := (⟨below_drewN HB0.out 1, HX0.out.drewN 1⟩ : Below w.heap.size w W0.drew ∧ Blk W0.drew w.heap.size 51 #[.int .i64 0, .int .i64 0, .int .i64 0])
  refine UpTo.start (z := 20) (S := fun w' => Below w.heap.size w w' ∧ Blk w' w.heap.size 51 #[.int .i64 0, .int .i64 0, .int .i64 0]) (by kernel_rfl) ?_
  refine UpTo.take (i := 0) 6 (v := .pointer (some ⟨R, 0, none⟩)) rfl rfl (by kernel_rfl) (by kernel_rfl) (by kernel_rfl) (by kernel_rfl) (fun _ _ _ h => h) hHeld (Or.inl ⟨by rfl, by intro w_ hSw; go_simp⟩) ?_
  try simp only [Act.put, List.setIfInBounds_toArray, List.set_cons_zero, List.set_cons_succ]
  refine UpTo.take (i := 1) 7 (v := .pointer (some ⟨R, 0, none⟩)) rfl rfl (by kernel_rfl) (by kernel_rfl) (by kernel_rfl) (by kernel_rfl) (fun _ _ _ h => h) hHeld (Or.inl ⟨by rfl, by intro w_ hSw; go_simp⟩) ?_
  try simp only [Act.put, List.setIfInBounds_toArray, List.set_cons_zero, List.set_cons_succ]
  refine UpTo.take (i := 2) 8 (v := .pointer (some ⟨R, 0, none⟩)) rfl rfl (by kernel_rfl) (by kernel_rfl) (by kernel_rfl) (by kernel_rfl) (fun _ _ _ h => h) hHeld (Or.inl ⟨by rfl, by intro w_ hSw; go_simp⟩) ?_
  try simp only [Act.put, List.setIfInBounds_toArray, List.set_cons_zero, List.set_cons_succ]
  refine UpTo.take (i := 3) 9 (v := .pointer (some ⟨R, 0, none⟩)) rfl rfl (by kernel_rfl) (by kernel_rfl) (by kernel_rfl) (by kernel_rfl) (fun _ _ _ h => h) hHeld (Or.inl ⟨by rfl, by intro w_ hSw; go_simp⟩) ?_
  try simp only [Act.put, List.setIfInBounds_toArray, List.set_cons_zero, List.set_cons_succ]
  refine UpTo.take (i := 4) 10 (v := .pointer (some ⟨R, 0, none⟩)) rfl rfl (by kernel_rfl) (by kernel_rfl) (by kernel_rfl) (by kernel_rfl) (fun _ _ _ h => h) hHeld (Or.inl ⟨by rfl, by intro w_ hSw; go_simp⟩) ?_
  try simp only [Act.put, List.setIfInBounds_toArray, List.set_cons_zero, List.set_cons_succ]
  refine UpTo.take (i := 5) 11 (v := .int .i64 B) rfl rfl (by kernel_rfl) (by kernel_rfl) (by kernel_rfl) (by kernel_rfl) (fun _ _ _ h => h) hHeld (Or.inl ⟨by rfl, by intro w_ hSw; have hb := hSw.1; have c0 : w_.cell? ⟨R, 0, none⟩ = some (.int .i64 B) := (HT.out _ hb).1.1.cell 0; have c1 : w_.cell? ⟨R, 1, none⟩ = some (.int .i64 C) := (HT.out _ hb).1.1.cell 1; have c2 : w_.cell? ⟨R, 2, none⟩ = some (.int .i64 P) := (HT.out _ hb).1.1.cell 2; go_simp⟩) ?_
  try simp only [Act.put, List.setIfInBounds_toArray, List.set_cons_zero, List.set_cons_succ]
  refine UpTo.take (i := 6) 12 (v := .pointer (some ⟨R, 0, none⟩)) rfl rfl (by kernel_rfl) (by kernel_rfl) (by kernel_rfl) (by kernel_rfl) (fun _ _ _ h => h) hHeld (Or.inl ⟨by rfl, by intro w_ hSw; go_simp⟩) ?_
  try simp only [Act.put, List.setIfInBounds_toArray, List.set_cons_zero, List.set_cons_succ]
  refine UpTo.take (i := 7) 13 (v := .pointer (some ⟨R, 0, none⟩)) rfl rfl (by kernel_rfl) (by kernel_rfl) (by kernel_rfl) (by kernel_rfl) (fun _ _ _ h => h) hHeld (Or.inl ⟨by rfl, by intro w_ hSw; go_simp⟩) ?_
  try simp only [Act.put, List.setIfInBounds_toArray, List.set_cons_zero, List.set_cons_succ]
  refine UpTo.take (i := 8) 14 (v := .pointer (some ⟨R, 0, none⟩)) rfl rfl (by kernel_rfl) (by kernel_rfl) (by kernel_rfl) (by kernel_rfl) (fun _ _ _ h => h) hHeld (Or.inl ⟨by rfl, by intro w_ hSw; go_simp⟩) ?_
  try simp only [Act.put, List.setIfInBounds_toArray, List.set_cons_zero, List.set_cons_succ]
  refine UpTo.take (i := 9) 15 (v := .pointer (some ⟨R, 0, none⟩)) rfl rfl (by kernel_rfl) (by kernel_rfl) (by kernel_rfl) (by kernel_rfl) (fun _ _ _ h => h) hHeld (Or.inl ⟨by rfl, by intro w_ hSw; go_simp⟩) ?_
  try simp only [Act.put, List.setIfInBounds_toArray, List.set_cons_zero, List.set_cons_succ]
  refine UpTo.take (i := 10) 16 (v := .pointer (some ⟨R, 1, none⟩)) rfl rfl (by kernel_rfl) (by kernel_rfl) (by kernel_rfl) (by kernel_rfl) (fun _ _ _ h => h) hHeld (Or.inl ⟨by rfl, by intro w_ hSw; go_simp⟩) ?_
  try simp only [Act.put, List.setIfInBounds_toArray, List.set_cons_zero, List.set_cons_succ]
  refine UpTo.take (i := 11) 17 (v := .int .i64 C) rfl rfl (by kernel_rfl) (by kernel_rfl) (by kernel_rfl) (by kernel_rfl) (fun _ _ _ h => h) hHeld (Or.inl ⟨by rfl, by intro w_ hSw; have hb := hSw.1; have c0 : w_.cell? ⟨R, 0, none⟩ = some (.int .i64 B) := (HT.out _ hb).1.1.cell 0; have c1 : w_.cell? ⟨R, 1, none⟩ = some (.int .i64 C) := (HT.out _ hb).1.1.cell 1; have c2 : w_.cell? ⟨R, 2, none⟩ = some (.int .i64 P) := (HT.out _ hb).1.1.cell 2; go_simp⟩) ?_
  try simp only [Act.put, List.setIfInBounds_toArray, List.set_cons_zero, List.set_cons_succ]
  refine UpTo.take (i := 12) 18 (v := .pointer (some ⟨R, 0, none⟩)) rfl rfl (by kernel_rfl) (by kernel_rfl) (by kernel_rfl) (by kernel_rfl) (fun _ _ _ h => h) hHeld (Or.inl ⟨by rfl, by intro w_ hSw; go_simp⟩) ?_
  try simp only [Act.put, List.setIfInBounds_toArray, List.set_cons_zero, List.set_cons_succ]
  refine UpTo.take (i := 13) 19 (v := .pointer (some ⟨R, 0, none⟩)) rfl rfl (by kernel_rfl) (by kernel_rfl) (by kernel_rfl) (by kernel_rfl) (fun _ _ _ h => h) hHeld (Or.inl ⟨by rfl, by intro w_ hSw; go_simp⟩) ?_
  try simp only [Act.put, List.setIfInBounds_toArray, List.set_cons_zero, List.set_cons_succ]
  refine UpTo.take (i := 14) 20 (v := .pointer (some ⟨R, 0, none⟩)) rfl rfl (by kernel_rfl) (by kernel_rfl) (by kernel_rfl) (by kernel_rfl) (fun _ _ _ h => h) hHeld (Or.inl ⟨by rfl, by intro w_ hSw; go_simp⟩) ?_
  try simp only [Act.put, List.setIfInBounds_toArray, List.set_cons_zero, List.set_cons_succ]
  refine UpTo.take (i := 15) 21 (v := .pointer (some ⟨R, 0, none⟩)) rfl rfl (by kernel_rfl) (by kernel_rfl) (by kernel_rfl) (by kernel_rfl) (fun _ _ _ h => h) hHeld (Or.inl ⟨by rfl, by intro w_ hSw; go_simp⟩) ?_
  try simp only [Act.put, List.setIfInBounds_toArray, List.set_cons_zero, List.set_cons_succ]
  refine UpTo.take (i := 16) 22 (v := .pointer (some ⟨R, 2, none⟩)) rfl rfl (by kernel_rfl) (by kernel_rfl) (by kernel_rfl) (by kernel_rfl) (fun _ _ _ h => h) hHeld (Or.inl ⟨by rfl, by intro w_ hSw; go_simp⟩) ?_
  try simp only [Act.put, List.setIfInBounds_toArray, List.set_cons_zero, List.set_cons_succ]
  refine UpTo.take (i := 17) 23 (v := .int .i64 P) rfl rfl (by kernel_rfl) (by kernel_rfl) (by kernel_rfl) (by kernel_rfl) (fun _ _ _ h => h) hHeld (Or.inl ⟨by rfl, by intro w_ hSw; have hb := hSw.1; have c0 : w_.cell? ⟨R, 0, none⟩ = some (.int .i64 B) := (HT.out _ hb).1.1.cell 0; have c1 : w_.cell? ⟨R, 1, none⟩ = some (.int .i64 C) := (HT.out _ hb).1.1.cell 1; have c2 : w_.cell? ⟨R, 2, none⟩ = some (.int .i64 P) := (HT.out _ hb).1.1.cell 2; go_simp⟩) ?_
  try simp only [Act.put, List.setIfInBounds_toArray, List.set_cons_zero, List.set_cons_succ]
  refine UpTo.take (i := 18) 24 (v := .agg #[.int .i64 B, .int .i64 C, .int .i64 P]) rfl rfl (by kernel_rfl) (by kernel_rfl) (by kernel_rfl) (by kernel_rfl) (fun _ _ _ h => h) hHeld (Or.inl ⟨by rfl, by intro w_ hSw; go_simp⟩) ?_
  try simp only [Act.put, List.setIfInBounds_toArray, List.set_cons_zero, List.set_cons_succ]
  refine UpTo.next (i := 19) (by kernel_rfl) rfl (fun K hK => ?_)
  go_simp
  refine hK.out _ _ (fun _ => (⟨below_drewN HB1.out 1, HX1.out.drewN 1⟩)) ?_
  clear hK K
  try simp only [Act.put, List.setIfInBounds_toArray, List.set_cons_zero, List.set_cons_succ]
  refine UpTo.next (i := 20) (by kernel_rfl) rfl (fun K hK => ?_)
  refine step_store_rowF rfl 51 _ _ rfl L #[.int .i64 B, .int .i64 C, .int .i64 P] rfl rfl 51 #[.int .i64 0, .int .i64 0, .int .i64 0] (HL1.out.drewN 1) (by kernel_rfl) rfl (by simp [Value.oneCell']) ?_
  refine hK.out _ _ (fun h => absurd rfl h) ?_
  clear hK K
  refine UpTo.done (by kernel_rfl) ?_ _
  have HL2 := hide (HL1.out.drew.row #[.int .i64 B, .int .i64 C, .int .i64 P])
  have HX2 := hide (HX1.out.drew.rowFar (k := L) (by omega) #[.int .i64 B, .int .i64 C, .int .i64 P])
  have HB2 := hide (Below.row (g := L) (below_drew HB1.out) (by omega) #[.int .i64 B, .int .i64 C, .int .i64 P])
  clear hHeld HX0 HB0 HX1 HB1 HL1
  obtain ⟨W2, hW2⟩ : ∃ W2, (W0.alloc (.cells #[.int .i64 0, .int .i64 0, .int .i64 0] 51)).drew.setRow L #[.int .i64 B, .int .i64 C, .int .i64 P] = W2 := ⟨_, rfl⟩
  rw [hW2] at HB2 HX2 HL2 ⊢
  clear hW2 hL hz0
  have r4 : W2.cell? ⟨R, 4, none⟩ = some (.slice D m c') := (HT.out _ HB2.out).1.1.cell 4
  go_wp2_with fail
  clear r4
  go_loopw [30] (fun i wr => ∃ k : Nat, k ≤ m ∧ i = .int .i64 k ∧ (Below w.heap.size w wr ∧ Blk wr w.heap.size 51 #[.int .i64 0, .int .i64 0, .int .i64 0]) ∧ Blk wr L 51 #[.int .i64 (remN B (S.map (·.bl)) k), .int .i64 (remN C (S.map blC) k), .int .i64 (remN P (S.map blP) k)]) (fun i _ => m - (intOf i).toNat)
  case atStart => exact ⟨0, Nat.zero_le _, rfl, ⟨HB2.out, HX2.out⟩, by rw [h00.1, h00.2.1, h00.2.2]; exact HL2.out⟩
  case round =>
    obtain ⟨k, hkm, rfl, hF, hO⟩ := hrel
    clear HB2 HX2 HL2 h00
    have HX2 := hide hF.2
    have HB2 := hide hF.1
    clear hF
    have HL2 := hide hO
    clear hO
    by_cases hlt : k < m
    · have hkl : k < S.length := by omega
      have hki : (k : Int) < (m : Int) := by omega
      have hkU : k < Us.length := by rw [HUL.out]; exact hkl
      obtain ⟨V, vo, rfl, v0⟩ := sl_ptr (HT.out _ HB2.out).1.2 k hkU
      have HTU := hide (fun W (h : Below w.heap.size w W) => (HT.out W h).2.2.2 k hkl hkU)
      have hu := HOK.out S[k] (List.getElem_mem hkl)
      have hsu := HSU.out k hkl
      have hrb := HRB.out (k + 1)
      have hrc := HRC.out (k + 1)
      have hrp := HRP.out (k + 1)
      rw [hsu.1] at hrb
      rw [hsu.2.1] at hrc
      rw [hsu.2.2] at hrp
      simp only [List.getElem_map] at hsu hrb hrc hrp
      replace hsu := hide hsu
      obtain ⟨s, hs⟩ : ∃ s, S[k] = s := ⟨_, rfl⟩
      obtain ⟨U, hU⟩ : ∃ U, Us[k] = U := ⟨_, rfl⟩
      rw [hs] at hsu hrb hrc hrp HTU hu
      rw [hU] at v0 HTU
      obtain ⟨X, hX⟩ : ∃ X, remN B (S.map (·.bl)) k = X := ⟨_, rfl⟩
      obtain ⟨Y, hY⟩ : ∃ X, remN C (S.map blC) k = X := ⟨_, rfl⟩
      obtain ⟨Z, hZ⟩ : ∃ X, remN P (S.map blP) k = X := ⟨_, rfl⟩
      rw [hX] at HL2 hsu hrb
      rw [hY] at HL2 hsu hrc
      rw [hZ] at HL2 hsu hrp
      have hbp := blP_bd hu
      obtain ⟨Q, hQ⟩ : ∃ X, blP s = X := ⟨_, rfl⟩
      rw [hQ] at hsu hrp hbp
      have hQ2 : s.bl * s.x.pw = Q := hQ
      have ww : IntKind.i64.wrap (s.bl * s.x.pw) = Q := by rw [hQ2]; exact IntWalk.i64_in _ (by omega)
      have w1 : IntKind.i64.wrap (X - s.bl) = X - s.bl := IntWalk.i64_in _ (by omega)
      have w3 : IntKind.i64.wrap (Z - Q) = Z - Q := IntWalk.i64_in _ (by omega)
      have hcb := blC_bd s
      have w2 : IntKind.i64.wrap (Y - 1) = Y - 1 := IntWalk.i64_in _ (by omega)
      have hcase : (0 < s.bl ∧ blC s = 1) ∨ (¬ 0 < s.bl ∧ blC s = 0) := by
        unfold blC
        by_cases h : 0 < s.bl
        · rw [if_pos h]; exact .inl ⟨h, rfl⟩
        · rw [if_neg h]; exact .inr ⟨h, rfl⟩
      have hLl := HL2.out.lt
      clear hX hY hZ hrb hrc hrp hbp hcb hQ hQ2 hs hU hu hkU
      have l0 : wr.cell? ⟨L, 0, none⟩ = some (.int .i64 X) := HL2.out.cell 0
      have lf0 := HL2.out.frozen 0
      have u13 : wr.cell? ⟨U, 13, none⟩ = some (.int .i64 s.bl) := (HTU.out _ HB2.out).cell 13
      obtain ⟨wa, hwa⟩ : ∃ wa, wa = wr := ⟨_, rfl⟩
      rw [← hwa] at HB2 HX2 HL2 l0 lf0 u13 v0 hLl ⊢
      clear hwa
      go_wp2_with fail
      have hHeld := (rfl : wa.drew = wa.drew)
      refine UpTo.start (z := 8) (S := fun w' => w' = wa.drew) (by kernel_rfl) ?_
      refine UpTo.take (i := 0) 34 (v := .pointer (some ⟨L, 0, none⟩)) rfl rfl (by kernel_rfl) (by kernel_rfl) (by kernel_rfl) (by kernel_rfl) (fun _ _ _ h => h) hHeld (Or.inl ⟨by rfl, by intro w_ hSw; go_simp⟩) ?_
      try simp only [Act.put, List.setIfInBounds_toArray, List.set_cons_zero, List.set_cons_succ]
      refine UpTo.take (i := 1) 35 (v := .int .i64 X) rfl rfl (by kernel_rfl) (by kernel_rfl) (by kernel_rfl) (by kernel_rfl) (fun _ _ _ h => h) hHeld (Or.inl ⟨by rfl, by intro w_ hSw; rw [hSw]; go_simp⟩) ?_
      try simp only [Act.put, List.setIfInBounds_toArray, List.set_cons_zero, List.set_cons_succ]
      refine UpTo.take (i := 2) 36 (v := .pointer (some ⟨U, 0, none⟩)) rfl rfl (by kernel_rfl) (by kernel_rfl) (by kernel_rfl) (by kernel_rfl) (fun _ _ _ h => h) hHeld (Or.inl ⟨by rfl, by intro w_ hSw; go_simp⟩) ?_
      try simp only [Act.put, List.setIfInBounds_toArray, List.set_cons_zero, List.set_cons_succ]
      refine UpTo.take (i := 3) 37 (v := .pointer (some ⟨U, 0, none⟩)) rfl rfl (by kernel_rfl) (by kernel_rfl) (by kernel_rfl) (by kernel_rfl) (fun _ _ _ h => h) hHeld (Or.inl ⟨by rfl, by intro w_ hSw; go_simp⟩) ?_
      try simp only [Act.put, List.setIfInBounds_toArray, List.set_cons_zero, List.set_cons_succ]
      refine UpTo.take (i := 4) 38 (v := .pointer (some ⟨U, 13, none⟩)) rfl rfl (by kernel_rfl) (by kernel_rfl) (by kernel_rfl) (by kernel_rfl) (fun _ _ _ h => h) hHeld (Or.inl ⟨by rfl, by intro w_ hSw; go_simp⟩) ?_
      try simp only [Act.put, List.setIfInBounds_toArray, List.set_cons_zero, List.set_cons_succ]
      refine UpTo.take (i := 5) 39 (v := .int .i64 s.bl) rfl rfl (by kernel_rfl) (by kernel_rfl) (by kernel_rfl) (by kernel_rfl) (fun _ _ _ h => h) hHeld (Or.inl ⟨by rfl, by intro w_ hSw; rw [hSw]; go_simp⟩) ?_
      try simp only [Act.put, List.setIfInBounds_toArray, List.set_cons_zero, List.set_cons_succ]
      refine UpTo.take (i := 6) 40 (v := .int .i64 (X - s.bl)) rfl rfl (by kernel_rfl) (by kernel_rfl) (by kernel_rfl) (by kernel_rfl) (fun _ _ _ h => h) hHeld (Or.inl ⟨by rfl, by intro w_ hSw; go_simp⟩) ?_
      try simp only [Act.put, List.setIfInBounds_toArray, List.set_cons_zero, List.set_cons_succ]
      refine UpTo.take (i := 7) 41 (v := .pointer (some ⟨L, 0, none⟩)) rfl rfl (by kernel_rfl) (by kernel_rfl) (by kernel_rfl) (by kernel_rfl) (fun _ _ _ h => h) hHeld (Or.inl ⟨by rfl, by intro w_ hSw; go_simp⟩) ?_
      try simp only [Act.put, List.setIfInBounds_toArray, List.set_cons_zero, List.set_cons_succ]
      refine UpTo.next (i := 8) (by kernel_rfl) rfl (fun K hK => ?_)
      go_simp
      refine hK.out _ _ (fun h => absurd rfl h) ?_
      clear hK K
      refine UpTo.done (by kernel_rfl) ?_ _
      have HL3 : Hid (Blk (wa.setCell ⟨L, 0, none⟩ (.int .i64 (X - s.bl))).drew L 51 #[.int .i64 (X - s.bl), .int .i64 Y, .int .i64 Z]) := hide (HL2.out.set_ 0 (.int .i64 (X - s.bl))).drew
      have HB3 := hide (below_drew (HB2.out.setCell (p := ⟨L, 0, none⟩) (by show _ ≤ L; omega) (.int .i64 (X - s.bl))))
      have HX3 := hide (HX2.out.far (p := ⟨L, 0, none⟩) (by show _ ≠ L; omega) (.int .i64 (X - s.bl))).drew
      obtain ⟨W3, hW3⟩ : ∃ W3, (wa.setCell ⟨L, 0, none⟩ (.int .i64 (X - s.bl))).drew = W3 := ⟨_, rfl⟩
      rw [hW3] at HB3 HX3 HL3 ⊢
      clear hW3 HL2 HB2 HX2 hHeld l0 lf0 u13 v0
      have u4 : W3.cell? ⟨U, 4, none⟩ = some (.int .i64 s.x.pw) := (HTU.out _ HB3.out).cell 4
      have u13 : W3.cell? ⟨U, 13, none⟩ = some (.int .i64 s.bl) := (HTU.out _ HB3.out).cell 13
      have l0 : W3.cell? ⟨L, 0, none⟩ = some (.int .i64 (X - s.bl)) := HL3.out.cell 0
      have l1 : W3.cell? ⟨L, 1, none⟩ = some (.int .i64 Y) := HL3.out.cell 1
      have l2 : W3.cell? ⟨L, 2, none⟩ = some (.int .i64 Z) := HL3.out.cell 2
      have lf0 := HL3.out.frozen 0
      have lf1 := HL3.out.frozen 1
      have lf2 := HL3.out.frozen 2
      go_wp2_with fail
      have hHeld := (rfl : W3.drew = W3.drew)
      refine UpTo.start (z := 14) (S := fun w' => w' = W3.drew) (by kernel_rfl) ?_
      refine UpTo.take (i := 0) 42 (v := .pointer (some ⟨L, 2, none⟩)) rfl rfl (by kernel_rfl) (by kernel_rfl) (by kernel_rfl) (by kernel_rfl) (fun _ _ _ h => h) hHeld (Or.inl ⟨by rfl, by intro w_ hSw; go_simp⟩) ?_
      try simp only [Act.put, List.setIfInBounds_toArray, List.set_cons_zero, List.set_cons_succ]
      refine UpTo.take (i := 1) 43 (v := .int .i64 Z) rfl rfl (by kernel_rfl) (by kernel_rfl) (by kernel_rfl) (by kernel_rfl) (fun _ _ _ h => h) hHeld (Or.inl ⟨by rfl, by intro w_ hSw; rw [hSw]; go_simp⟩) ?_
      try simp only [Act.put, List.setIfInBounds_toArray, List.set_cons_zero, List.set_cons_succ]
      refine UpTo.take (i := 2) 44 (v := .pointer (some ⟨U, 0, none⟩)) rfl rfl (by kernel_rfl) (by kernel_rfl) (by kernel_rfl) (by kernel_rfl) (fun _ _ _ h => h) hHeld (Or.inl ⟨by rfl, by intro w_ hSw; go_simp⟩) ?_
      try simp only [Act.put, List.setIfInBounds_toArray, List.set_cons_zero, List.set_cons_succ]
      refine UpTo.take (i := 3) 45 (v := .pointer (some ⟨U, 0, none⟩)) rfl rfl (by kernel_rfl) (by kernel_rfl) (by kernel_rfl) (by kernel_rfl) (fun _ _ _ h => h) hHeld (Or.inl ⟨by rfl, by intro w_ hSw; go_simp⟩) ?_
      try simp only [Act.put, List.setIfInBounds_toArray, List.set_cons_zero, List.set_cons_succ]
      refine UpTo.take (i := 4) 46 (v := .pointer (some ⟨U, 13, none⟩)) rfl rfl (by kernel_rfl) (by kernel_rfl) (by kernel_rfl) (by kernel_rfl) (fun _ _ _ h => h) hHeld (Or.inl ⟨by rfl, by intro w_ hSw; go_simp⟩) ?_
      try simp only [Act.put, List.setIfInBounds_toArray, List.set_cons_zero, List.set_cons_succ]
      refine UpTo.take (i := 5) 47 (v := .int .i64 s.bl) rfl rfl (by kernel_rfl) (by kernel_rfl) (by kernel_rfl) (by kernel_rfl) (fun _ _ _ h => h) hHeld (Or.inl ⟨by rfl, by intro w_ hSw; rw [hSw]; go_simp⟩) ?_
      try simp only [Act.put, List.setIfInBounds_toArray, List.set_cons_zero, List.set_cons_succ]
      refine UpTo.take (i := 6) 48 (v := .pointer (some ⟨U, 0, none⟩)) rfl rfl (by kernel_rfl) (by kernel_rfl) (by kernel_rfl) (by kernel_rfl) (fun _ _ _ h => h) hHeld (Or.inl ⟨by rfl, by intro w_ hSw; go_simp⟩) ?_
      try simp only [Act.put, List.setIfInBounds_toArray, List.set_cons_zero, List.set_cons_succ]
      refine UpTo.take (i := 7) 49 (v := .pointer (some ⟨U, 0, none⟩)) rfl rfl (by kernel_rfl) (by kernel_rfl) (by kernel_rfl) (by kernel_rfl) (fun _ _ _ h => h) hHeld (Or.inl ⟨by rfl, by intro w_ hSw; go_simp⟩) ?_
      try simp only [Act.put, List.setIfInBounds_toArray, List.set_cons_zero, List.set_cons_succ]
      refine UpTo.take (i := 8) 50 (v := .pointer (some ⟨U, 0, none⟩)) rfl rfl (by kernel_rfl) (by kernel_rfl) (by kernel_rfl) (by kernel_rfl) (fun _ _ _ h => h) hHeld (Or.inl ⟨by rfl, by intro w_ hSw; go_simp⟩) ?_
      try simp only [Act.put, List.setIfInBounds_toArray, List.set_cons_zero, List.set_cons_succ]
      refine UpTo.take (i := 9) 51 (v := .pointer (some ⟨U, 4, none⟩)) rfl rfl (by kernel_rfl) (by kernel_rfl) (by kernel_rfl) (by kernel_rfl) (fun _ _ _ h => h) hHeld (Or.inl ⟨by rfl, by intro w_ hSw; go_simp⟩) ?_
      try simp only [Act.put, List.setIfInBounds_toArray, List.set_cons_zero, List.set_cons_succ]
      refine UpTo.take (i := 10) 52 (v := .int .i64 s.x.pw) rfl rfl (by kernel_rfl) (by kernel_rfl) (by kernel_rfl) (by kernel_rfl) (fun _ _ _ h => h) hHeld (Or.inl ⟨by rfl, by intro w_ hSw; rw [hSw]; go_simp⟩) ?_
      try simp only [Act.put, List.setIfInBounds_toArray, List.set_cons_zero, List.set_cons_succ]
      refine UpTo.take (i := 11) 53 (v := .int .i64 Q) rfl rfl (by kernel_rfl) (by kernel_rfl) (by kernel_rfl) (by kernel_rfl) (fun _ _ _ h => h) hHeld (Or.inl ⟨by rfl, by intro w_ hSw; go_simp⟩) ?_
      try simp only [Act.put, List.setIfInBounds_toArray, List.set_cons_zero, List.set_cons_succ]
      refine UpTo.take (i := 12) 54 (v := .int .i64 (Z - Q)) rfl rfl (by kernel_rfl) (by kernel_rfl) (by kernel_rfl) (by kernel_rfl) (fun _ _ _ h => h) hHeld (Or.inl ⟨by rfl, by intro w_ hSw; go_simp⟩) ?_
      try simp only [Act.put, List.setIfInBounds_toArray, List.set_cons_zero, List.set_cons_succ]
      refine UpTo.take (i := 13) 55 (v := .pointer (some ⟨L, 2, none⟩)) rfl rfl (by kernel_rfl) (by kernel_rfl) (by kernel_rfl) (by kernel_rfl) (fun _ _ _ h => h) hHeld (Or.inl ⟨by rfl, by intro w_ hSw; go_simp⟩) ?_
      try simp only [Act.put, List.setIfInBounds_toArray, List.set_cons_zero, List.set_cons_succ]
      refine UpTo.next (i := 14) (by kernel_rfl) rfl (fun K hK => ?_)
      go_simp
      refine hK.out _ _ (fun h => absurd rfl h) ?_
      clear hK K
      refine UpTo.done (by kernel_rfl) ?_ _
      have HL4 : Hid (Blk (W3.setCell ⟨L, 2, none⟩ (.int .i64 (Z - Q))).drew L 51 #[.int .i64 (X - s.bl), .int .i64 Y, .int .i64 (Z - Q)]) := hide (HL3.out.set_ 2 (.int .i64 (Z - Q))).drew
      have HB4 := hide (below_drew (HB3.out.setCell (p := ⟨L, 2, none⟩) (by show _ ≤ L; omega) (.int .i64 (Z - Q))))
      have HX4 := hide (HX3.out.far (p := ⟨L, 2, none⟩) (by show _ ≠ L; omega) (.int .i64 (Z - Q))).drew
      obtain ⟨W4, hW4⟩ : ∃ W4, (W3.setCell ⟨L, 2, none⟩ (.int .i64 (Z - Q))).drew = W4 := ⟨_, rfl⟩
      rw [hW4] at HB4 HX4 HL4 ⊢
      clear hW4 HL3 HB3 HX3 hHeld l0 l1 l2 lf0 lf1 lf2 u13 u4
      have u4 : W4.cell? ⟨U, 4, none⟩ = some (.int .i64 s.x.pw) := (HTU.out _ HB4.out).cell 4
      have u13 : W4.cell? ⟨U, 13, none⟩ = some (.int .i64 s.bl) := (HTU.out _ HB4.out).cell 13
      have l0 : W4.cell? ⟨L, 0, none⟩ = some (.int .i64 (X - s.bl)) := HL4.out.cell 0
      have l1 : W4.cell? ⟨L, 1, none⟩ = some (.int .i64 Y) := HL4.out.cell 1
      have l2 : W4.cell? ⟨L, 2, none⟩ = some (.int .i64 (Z - Q)) := HL4.out.cell 2
      have lf0 := HL4.out.frozen 0
      have lf1 := HL4.out.frozen 1
      have lf2 := HL4.out.frozen 2
      rcases hcase with ⟨hbl, hbc⟩ | ⟨hbl, hbc⟩
      · rw [hbc] at hsu
        have hbl2 : ¬ s.bl ≤ 0 := by omega
        clear hbc
        go_wp2_with fail
        have HB5 := hide (HB4.out.setCell (p := ⟨L, 1, none⟩) (by show _ ≤ L; omega) (.int .i64 (Y - 1)))
        have HL5 : Hid (Blk (W4.setCell ⟨L, 1, none⟩ (.int .i64 (Y - 1))) L 51 #[.int .i64 (X - s.bl), .int .i64 (Y - 1), .int .i64 (Z - Q)]) := hide (HL4.out.set_ 1 (.int .i64 (Y - 1)))
        have HX5 := hide (HX4.out.far (p := ⟨L, 1, none⟩) (by show _ ≠ L; omega) (.int .i64 (Y - 1)))
        obtain ⟨W5, hW5⟩ : ∃ W5, W4.setCell ⟨L, 1, none⟩ (.int .i64 (Y - 1)) = W5 := ⟨_, rfl⟩
        rw [hW5] at HB5 HX5 HL5 ⊢
        clear hW5 HB4 HX4 HL4 l0 l1 l2
        go_wp2_with fail
        go_roundw
        case rel => exact ⟨k + 1, by omega, by go_num, ⟨HB5.out, HX5.out⟩, by rw [hsu.out.1, hsu.out.2.1, hsu.out.2.2]; exact HL5.out⟩
        case measure => simp [intOf]; omega
      · rw [hbc, Int.sub_zero] at hsu
        have hbl2 : s.bl ≤ 0 := by omega
        clear hbc
        go_wp2_with fail
        go_roundw
        case rel => exact ⟨k + 1, by omega, by go_num, ⟨HB4.out, HX4.out⟩, by rw [hsu.out.1, hsu.out.2.1, hsu.out.2.2]; exact HL4.out⟩
        case measure => simp [intOf]; omega
    · obtain rfl : k = m := by omega
      have hki : ¬ (k : Int) < (k : Int) := by omega
      obtain ⟨X, hX⟩ : ∃ X, remN B (S.map (·.bl)) k = X := ⟨_, rfl⟩
      obtain ⟨Y, hY⟩ : ∃ X, remN C (S.map blC) k = X := ⟨_, rfl⟩
      obtain ⟨Z, hZ⟩ : ∃ X, remN P (S.map blP) k = X := ⟨_, rfl⟩
      rw [hX, hY, hZ] at HL2
      have l0 : wr.cell? ⟨L, 0, none⟩ = some (.int .i64 X) := HL2.out.cell 0
      have l1 : wr.cell? ⟨L, 1, none⟩ = some (.int .i64 Y) := HL2.out.cell 1
      have l2 : wr.cell? ⟨L, 2, none⟩ = some (.int .i64 Z) := HL2.out.cell 2
      replace hX := hide hX
      replace hY := hide hY
      replace hZ := hide hZ
      go_wp2_with (refine wpList_store_row rfl 51 (.tmp 2) (.tmp 66) rfl w.heap.size #[.int .i64 X, .int .i64 Y, .int .i64 Z] rfl rfl 51 #[.int .i64 0, .int .i64 0, .int .i64 0] HX2.out (by kernel_rfl) rfl (by simp [Value.oneCell']) ?_)
      have HXe := hide (HX2.out.row #[.int .i64 X, .int .i64 Y, .int .i64 Z])
      have HBe := hide (Below.row (g := w.heap.size) HB2.out (Nat.le_refl _) #[.int .i64 X, .int .i64 Y, .int .i64 Z])
      obtain ⟨We, hWe⟩ : ∃ We, wr.setRow w.heap.size #[.int .i64 X, .int .i64 Y, .int .i64 Z] = We := ⟨_, rfl⟩
      rw [hWe] at HXe HBe ⊢
      refine bodyPost_ret (v := .agg #[.int .i64 X, .int .i64 Y, .int .i64 Z]) ?_ rfl ⟨by rw [hX.out, hY.out, hZ.out], HBe.out⟩
      have y0 : We.cell? ⟨w.heap.size, 0, none⟩ = some (.int .i64 X) := HXe.out.cell 0
      have y1 : We.cell? ⟨w.heap.size, 1, none⟩ = some (.int .i64 Y) := HXe.out.cell 1
      have y2 : We.cell? ⟨w.heap.size, 2, none⟩ = some (.int .i64 Z) := HXe.out.cell 2
      simp [results, Try.results63, go_sem, y0, y1, y2]
end Go.Proofs.Ytppkibgemacdbaa
