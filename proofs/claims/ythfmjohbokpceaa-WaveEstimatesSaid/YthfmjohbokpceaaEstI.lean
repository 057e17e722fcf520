import Derived.Test.YthfmjohbokpceaaEstF
import Derived.Test.YthfmjohbokpceaaEstH
namespace Go.Proofs.Ythfmjohbokpceaa
open Go.RowKit Go.WideShapes Go.ChangeShapes

/-! the reference's estimates -/
theorem estV_eq (x k : Int × Int) : estV x k = (x.1 * k.1 - x.2 * -k.2, x.1 * -k.2 + x.2 * k.1) := by
  obtain ⟨a, b⟩ := x
  obtain ⟨c, d⟩ := k
  unfold estV nmul nconj ent
  dsimp only
  refine Prod.ext ?_ ?_ <;> dsimp only <;> grind
set_option maxRecDepth 100000 in
set_option maxHeartbeats 8000000 in
theorem EstimatesOf_ref (A B : Option Addr) (c d m : Nat) (k x : List (Int × Int)) (w : World) (hs : Sl w A (gv k)) (hs' : Sl w B (gv x)) (hm : k.length = m) (hm' : x.length = m) (h40 : m ≤ 40) (hk : eachE refE k = 0) (hx : eachE entE x = 0) :
    Calls Try.prog 97 #[.slice A m c, .slice B m d] w fun e w' => ∃ C ck, e = .returned (.slice C m ck) ∧ w'.ownsRow w.heap.size 30 2 (.slice C m ck) m (gv (estL k x m)) ∧ Below w.heap.size w w' := by
  obtain ⟨i0, hi0, hz0, hz1, hz2⟩ := info_parts gss_info
  have HT := hide ((stay_sl hs).and (stay_sl hs'))
  have HEX := hide (fun i => kg_le (fun z hz => eachE_ok hx z hz) i)
  have HEK := hide (fun i => kg_one (fun z hz => eachE_ok hk z hz) i)
  have HM := hide hm
  have HM' := hide hm'
  clear hs hs' hk hx hm hm'
  go_enter Try.func97, Try.ntmps97
  go_wp2
  go_loopw [5, 6] (fun o i wr => ∃ (j : Nat) (C : Option Addr) (c1 : Nat), j ≤ m ∧ i = .int .i64 (j : Int) ∧ o = .slice C j c1 ∧ wr.ownsRow w.heap.size 30 2 (.slice C j c1) j (gv (estL k x j)) ∧ Below w.heap.size w wr) (fun _ i _ => m - (intOf i).toNat)
  case atStart => exact ⟨0, none, 0, Nat.zero_le _, rfl, rfl, World.ownsRow_nil _ _ _ _, Below.refl _ _⟩
  case round =>
    obtain ⟨j, C, c1, hj, rfl, rfl, hrow, hbel⟩ := hrel
    have HROW := hide hrow
    have HBE := hide hbel
    clear hrow hbel
    by_cases hlt : j < m
    · obtain ⟨P, hP⟩ : ∃ P, kg x j = P := ⟨_, rfl⟩
      obtain ⟨Q, hQ⟩ : ∃ Q, kg k j = Q := ⟨_, rfl⟩
      have hp := HEX.out j
      have hq := HEK.out j
      have HSC := hide (estL_succ k x j)
      rw [hP] at hp
      rw [hQ] at hq
      rw [hP, hQ] at HSC
      have HXC := hide (fun W (h : Below w.heap.size w W) => show ∃ b off, B = some ⟨b, off, none⟩ ∧ W.cell? ⟨b, off + j * 2, none⟩ = some (.int .i64 P.1) ∧ W.cell? ⟨b, off + j * 2 + 1, none⟩ = some (.int .i64 P.2) from by
        obtain ⟨b, off, e, h1, h2⟩ := ((HT.out W h).2).at2 (k := j) (by rw [HM'.out]; exact hlt)
        have hx : x[j]'(by rw [HM'.out]; exact hlt) = kg x j := by unfold kg; rw [List.getElem?_eq_getElem]; rfl
        rw [hx, hP] at h1 h2
        exact ⟨b, off, e, h1, h2⟩)
      have HKC := hide (fun W (h : Below w.heap.size w W) => show ∃ b off, A = some ⟨b, off, none⟩ ∧ W.cell? ⟨b, off + j * 2, none⟩ = some (.int .i64 Q.1) ∧ W.cell? ⟨b, off + j * 2 + 1, none⟩ = some (.int .i64 Q.2) from by
        obtain ⟨b, off, e, h1, h2⟩ := ((HT.out W h).1).at2 (k := j) (by rw [HM.out]; exact hlt)
        have hx : k[j]'(by rw [HM.out]; exact hlt) = kg k j := by unfold kg; rw [List.getElem?_eq_getElem]; rfl
        rw [hx, hQ] at h1 h2
        exact ⟨b, off, e, h1, h2⟩)
      obtain ⟨xb, xo, rfl, _, _⟩ := HXC.out wr HBE.out
      obtain ⟨kb, ko, rfl, _, _⟩ := HKC.out wr HBE.out
      have HXD := hide (fun W (h : Below w.heap.size w W) => show W.cell? ⟨xb, xo + j * 2, none⟩ = some (.int .i64 P.1) ∧ W.cell? ⟨xb, xo + j * 2 + 1, none⟩ = some (.int .i64 P.2) from by
        obtain ⟨b2, off2, e, h1, h2⟩ := HXC.out W h
        injection e with e; injection e with e3 e4 _; subst e3 e4
        exact ⟨h1, h2⟩)
      have HKD := hide (fun W (h : Below w.heap.size w W) => show W.cell? ⟨kb, ko + j * 2, none⟩ = some (.int .i64 Q.1) ∧ W.cell? ⟨kb, ko + j * 2 + 1, none⟩ = some (.int .i64 Q.2) from by
        obtain ⟨b2, off2, e, h1, h2⟩ := HKC.out W h
        injection e with e; injection e with e3 e4 _; subst e3 e4
        exact ⟨h1, h2⟩)
      have HW1 := hide (fun W => gconj_one Q.1 Q.2 W (by omega))
      have HW2 := hide (fun W => gmul_one P.1 P.2 Q.1 (-Q.2) W (by omega) (by omega))
      have HMM := hide (estV_eq P Q)
      obtain ⟨M1, hM1⟩ : ∃ M, P.1 * Q.1 - P.2 * -Q.2 = M := ⟨_, rfl⟩
      obtain ⟨M2, hM2⟩ : ∃ M, P.1 * -Q.2 + P.2 * Q.1 = M := ⟨_, rfl⟩
      rw [hM1, hM2] at HW2 HMM
      have HSN := hide (show gv (estL k x (j + 1)) = gv (estL k x j) ++ [.int .i64 M1, .int .i64 M2] by rw [HSC.out, gv_snoc, HMM.out])
      have k0 : (0 : Int) ≤ (j : Int) := by omega
      clear hM1 hM2 hP hQ hp hq HSC HMM HXC HKC
      go_wp2
      have HH0 := hide (show Below w.heap.size w wr.drew from below_drewN HBE.out 1)
      have HR := hide (show wr.drew.ownsRow w.heap.size 30 2 (.slice C j c1) j (gv (estL k x j)) from HROW.out)
      refine wp_region_held_drew (S := fun w' => Below w.heap.size w w') (by kernel_rfl) HH0.out (fun hHeld => ?_)
      refine take_at (i := 0) 13 (v := .slice C j c1) rfl rfl (by kernel_rfl) (by kernel_rfl) (by kernel_rfl) (fun _ _ _ h => h) (Or.inl ⟨by rfl, by intro w hSw; go_simp⟩) (by assumption) ?_
      try simp only [Act.put, List.setIfInBounds_toArray, List.set_cons_zero, List.set_cons_succ]
      refine take_at (i := 1) 14 (v := .slice (some ⟨xb, xo, none⟩) m d) rfl rfl (by kernel_rfl) (by kernel_rfl) (by kernel_rfl) (fun _ _ _ h => h) (Or.inl ⟨by rfl, by intro w hSw; go_simp⟩) (by assumption) ?_
      try simp only [Act.put, List.setIfInBounds_toArray, List.set_cons_zero, List.set_cons_succ]
      refine take_at (i := 2) 15 (v := .int .i64 (j : Int)) rfl rfl (by kernel_rfl) (by kernel_rfl) (by kernel_rfl) (fun _ _ _ h => h) (Or.inl ⟨by rfl, by intro w hSw; go_simp⟩) (by assumption) ?_
      try simp only [Act.put, List.setIfInBounds_toArray, List.set_cons_zero, List.set_cons_succ]
      refine take_at (i := 3) 16 (v := .pointer (some ⟨xb, xo + j * 2, none⟩)) rfl rfl (by kernel_rfl) (by kernel_rfl) (by kernel_rfl) (fun _ _ _ h => h) (Or.inl ⟨by rfl, by intro w hSw; go_simp⟩) (by assumption) ?_
      try simp only [Act.put, List.setIfInBounds_toArray, List.set_cons_zero, List.set_cons_succ]
      refine take_at (i := 4) 17 (v := .agg #[.int .i64 P.1, .int .i64 P.2]) rfl rfl (by kernel_rfl) (by kernel_rfl) (by kernel_rfl) (fun _ _ _ h => h) (Or.inl ⟨by rfl, by intro w hSw; obtain ⟨c0, c1⟩ := HXD.out w hSw; go_simp⟩) (by assumption) ?_
      try simp only [Act.put, List.setIfInBounds_toArray, List.set_cons_zero, List.set_cons_succ]
      refine take_at (i := 5) 18 (v := .slice (some ⟨kb, ko, none⟩) m c) rfl rfl (by kernel_rfl) (by kernel_rfl) (by kernel_rfl) (fun _ _ _ h => h) (Or.inl ⟨by rfl, by intro w hSw; go_simp⟩) (by assumption) ?_
      try simp only [Act.put, List.setIfInBounds_toArray, List.set_cons_zero, List.set_cons_succ]
      refine take_at (i := 6) 19 (v := .int .i64 (j : Int)) rfl rfl (by kernel_rfl) (by kernel_rfl) (by kernel_rfl) (fun _ _ _ h => h) (Or.inl ⟨by rfl, by intro w hSw; go_simp⟩) (by assumption) ?_
      try simp only [Act.put, List.setIfInBounds_toArray, List.set_cons_zero, List.set_cons_succ]
      refine take_at (i := 7) 20 (v := .pointer (some ⟨kb, ko + j * 2, none⟩)) rfl rfl (by kernel_rfl) (by kernel_rfl) (by kernel_rfl) (fun _ _ _ h => h) (Or.inl ⟨by rfl, by intro w hSw; go_simp⟩) (by assumption) ?_
      try simp only [Act.put, List.setIfInBounds_toArray, List.set_cons_zero, List.set_cons_succ]
      refine take_at (i := 8) 21 (v := .agg #[.int .i64 Q.1, .int .i64 Q.2]) rfl rfl (by kernel_rfl) (by kernel_rfl) (by kernel_rfl) (fun _ _ _ h => h) (Or.inl ⟨by rfl, by intro w hSw; obtain ⟨c0, c1⟩ := HKD.out w hSw; go_simp⟩) (by assumption) ?_
      try simp only [Act.put, List.setIfInBounds_toArray, List.set_cons_zero, List.set_cons_succ]
      obtain ⟨v0, hv0⟩ : ∃ W, wr.drew = W := ⟨_, rfl⟩
      rw [hv0] at HH0 HR hHeld ⊢
      clear hv0
      refine wpAnyH_ready (rs := [9]) (by kernel_rfl) (by simp) ?_
      refine AllReadyH.cons rfl (fun K hK => ?_) AllReadyH.nil
      go_simp
      refine (HW1.out _).mono ?_
      rintro e v1 ⟨rfl, hb⟩
      replace HH0 := hide (Below.step HH0.out hb)
      replace HR := hide (own_bel HR.out hb)
      clear hb
      simp only []
      refine hK.out _ _ HH0.out (fun hHeld => ?_)
      clear hK K
      try simp only [Act.put, List.setIfInBounds_toArray, List.set_cons_zero, List.set_cons_succ]
      refine wpAnyH_ready (rs := [10]) (by kernel_rfl) (by simp) ?_
      refine AllReadyH.cons rfl (fun K hK => ?_) AllReadyH.nil
      go_simp
      refine (HW2.out _).mono ?_
      rintro e v2 ⟨rfl, hb⟩
      replace HH0 := hide (Below.step HH0.out hb)
      replace HR := hide (own_bel HR.out hb)
      clear hb
      simp only []
      refine hK.out _ _ HH0.out (fun hHeld => ?_)
      clear hK K
      try simp only [Act.put, List.setIfInBounds_toArray, List.set_cons_zero, List.set_cons_succ]
      refine wpAnyH_ready (rs := [11]) (by kernel_rfl) (by simp) ?_
      refine AllReadyH.cons rfl (fun K hK => ?_) AllReadyH.nil
      go_simp
      refine hK.out _ _ (HH0.out.alloc HH0.out.size _) (fun hHeld => ?_)
      clear hK K
      try simp only [Act.put, List.setIfInBounds_toArray, List.set_cons_zero, List.set_cons_succ]
      refine wpAnyH_ready (rs := [12]) (by kernel_rfl) (by simp) ?_
      refine AllReadyH.cons rfl (fun K hK => ?_) AllReadyH.nil
      have hsz := HH0.out.size
      refine step_append_any _ (by rfl) (.tmp 13) (.tmp 24) 83 (by rfl) w.heap.size 30 i0 _ 2 16 Try.underlying83 hi0 hz0 hz1 hz2 rfl (by omega) (.slice C j c1) j (gv (estL k x j)) (by rfl) (HR.out.alloc (.cells #[.int .i64 M1, .int .i64 M2] 30)) (v2.heap.size + 1) (some ⟨v2.heap.size, 0, none⟩) 1 1 [.int .i64 M1, .int .i64 M2] (by rfl) (reads_pr v2 _ _ _) (by simp [Value.oneCell']) (by simp only [maxLen]; omega) (by omega) (by simp; omega) ?_
      intro v3 w9 hown hgrow _
      obtain ⟨C2, c2, rfl⟩ := own_form hown
      have HB9 := hide (Below.app HH0.out HR.out hgrow)
      have HO9 := hide hown
      clear hown hgrow
      refine hK.out _ _ HB9.out (fun hHeld => ?_)
      clear hK K
      try simp only [Act.put, List.setIfInBounds_toArray]
      refine take_at (i := 13) 5 (v := .slice C2 (j + 1) c2) rfl rfl (by kernel_rfl) (by kernel_rfl) (by kernel_rfl) (fun _ _ _ h => h) (Or.inl ⟨by rfl, by intro w hSw; go_simp⟩) (by assumption) ?_
      try simp only [Act.put]
      refine wpAnyH_done (by kernel_rfl) ?_ _
      go_wp2
      go_roundw
      case rel => exact ⟨j + 1, C2, c2, by omega, by go_num, rfl, by rw [HSN.out]; exact HO9.out, HB9.out⟩
      case measure => simp [intOf]; omega
    · obtain rfl : j = m := by omega
      go_wp2
      go_ret
      exact ⟨C, c1, rfl, HROW.out, HBE.out⟩
end Go.Proofs.Ythfmjohbokpceaa
