import Derived.Test.YtfolipkbcibgdaaGsD
import Derived.Test.YtfolipkbcibgdaaGrS
namespace Go.Proofs.Ytfolipkbcibgdaa
open Go.RowKit Go.WideShapes Go.ChangeShapes

/-! the reference: what is looked for -/
set_option maxRecDepth 100000 in
set_option maxHeartbeats 8000000 in
theorem wantErr_ref (nm : Bs) (ce wi : Int) (PA SA : Option Addr) (pc sc : Nat) (P : List Prt) (S : List Sig) (pa fr te sy sn bn : Int) (w : World) (hc : OkCr ce wi P S) (hP : Prts w PA P) :
    Calls Try.prog 7 #[.agg #[strV nm, .int .i64 ce, .int .i64 wi, .slice PA P.length pc, .slice SA S.length sc], .agg #[.int .i64 pa, .int .i64 fr, .int .i64 te, .int .i64 sy, .int .i64 sn, .int .i64 bn]] w (ErrV (OkWn P pa fr te sy sn bn) w) := by
  have HC := hide hc
  have hpl := hc.pn.2
  have HPN := hide (show P.length = P.length from rfl)
  have HT := hide (((((stay_blk (Blk.new w 25 #[strV nm, .int .i64 ce, .int .i64 wi, .slice PA P.length pc, .slice SA S.length sc])).alloc (.cells #[.int .i64 pa, .int .i64 fr, .int .i64 te, .int .i64 sy, .int .i64 sn, .int .i64 bn] 27)).and (stay_blk (blk_up w 25 27 #[strV nm, .int .i64 ce, .int .i64 wi, .slice PA P.length pc, .slice SA S.length sc] #[.int .i64 pa, .int .i64 fr, .int .i64 te, .int .i64 sy, .int .i64 sn, .int .i64 bn]))).and (stay_below (((Below.refl _ w).alloc (Nat.le_refl _) (.cells #[strV nm, .int .i64 ce, .int .i64 wi, .slice PA P.length pc, .slice SA S.length sc] 25)).alloc (by simp) (.cells #[.int .i64 pa, .int .i64 fr, .int .i64 te, .int .i64 sy, .int .i64 sn, .int .i64 bn] 27)))).and (((stay_rws hP).alloc (.cells #[strV nm, .int .i64 ce, .int .i64 wi, .slice PA P.length pc, .slice SA S.length sc] 25)).alloc (.cells #[.int .i64 pa, .int .i64 fr, .int .i64 te, .int .i64 sy, .int .i64 sn, .int .i64 bn] 27)))
  have HP := hide hP
  clear hP hc
  obtain ⟨pn, hpn⟩ : ∃ x, P.length = x := ⟨_, rfl⟩
  obtain ⟨gn, hgn⟩ : ∃ x, S.length = x := ⟨_, rfl⟩
  replace HPN := hide hpn
  rw [hpn, hgn] at HT ⊢
  rw [hpn] at hpl
  clear hpn hgn
  have HPT := hide (fun W => partErr_num (strV nm) ce wi PA (.slice SA gn sc) pn pc pa W (by omega))
  obtain ⟨W0, hW0⟩ : ∃ W0, (w.alloc (.cells #[strV nm, .int .i64 ce, .int .i64 wi, .slice PA pn pc, .slice SA gn sc] 25)).alloc (.cells #[.int .i64 pa, .int .i64 fr, .int .i64 te, .int .i64 sy, .int .i64 sn, .int .i64 bn] 27) = W0 := ⟨_, rfl⟩
  rw [hW0] at HT
  have z0 : W0.cell? ⟨w.heap.size, 0, none⟩ = some (strV nm) := HT.out.now.1.1.1.cell 0
  have z1 : W0.cell? ⟨w.heap.size, 1, none⟩ = some (.int .i64 ce) := HT.out.now.1.1.1.cell 1
  have z2 : W0.cell? ⟨w.heap.size, 2, none⟩ = some (.int .i64 wi) := HT.out.now.1.1.1.cell 2
  have z3 : W0.cell? ⟨w.heap.size, 3, none⟩ = some (.slice PA pn pc) := HT.out.now.1.1.1.cell 3
  have z4 : W0.cell? ⟨w.heap.size, 4, none⟩ = some (.slice SA gn sc) := HT.out.now.1.1.1.cell 4
  have a0 : W0.cell? ⟨w.heap.size + 1, 0, none⟩ = some (.int .i64 pa) := HT.out.now.1.1.2.cell 0
  have HW0 := hide hW0
  clear hW0
  go_enter Try.func7, Try.ntmps7
  go_wp2_with fail
  first | rw [HW0.out] | skip
  go_at_call 16
  refine (HPT.out _).mono ?_
  rintro e w2 ⟨v, rfl, hv, hb⟩
  have HV := hide hv
  replace HT := hide (HT.out.step hb)
  clear hv hb HPT HW0 z0 z1 z2 z3 z4 a0
  simp only []
  by_cases hv0 : v = 0
  case neg =>
    have ev : (v != 0) = true := by simp [hv0]
    have Q := hide hv0; clear hv0
    go_wp2_with fail
    go_ret
    exact .no Q.out (fun k => Q.out (HV.out.zero (by have := HPN.out; have := k.pp; omega))) HT.out.now.1.2
  have ev : (v != 0) = false := by simp [hv0]
  have N1 := hide (HV.out.ok hv0)
  clear hv0 HV
  have a1 : w2.cell? ⟨w.heap.size + 1, 1, none⟩ = some (.int .i64 fr) := HT.out.now.1.1.2.cell 1
  have a2 : w2.cell? ⟨w.heap.size + 1, 2, none⟩ = some (.int .i64 te) := HT.out.now.1.1.2.cell 2
  go_wp2_with fail
  go_at_call 17
  refine (subframeErr_ref fr _).mono ?_
  rintro e w' ⟨v1, rfl, hv, rfl⟩
  have HV1 := hide hv
  clear hv
  simp only []
  by_cases hv0 : v1 = 0
  case neg =>
    have ev1 : (v1 != 0) = true := by simp [hv0]
    have Q := hide hv0; clear hv0
    go_wp2_with fail
    go_ret
    exact .no Q.out (fun k => Q.out (HV1.out.zero (by have := k.ff; omega))) HT.out.now.1.2
  have ev1 : (v1 != 0) = false := by simp [hv0]
  have N2 := hide (HV1.out.ok hv0)
  clear hv0 HV1
  go_wp2_with fail
  go_at_call 17
  refine (subframeErr_ref te _).mono ?_
  rintro e w' ⟨v2, rfl, hv, rfl⟩
  have HV2 := hide hv
  clear hv
  simp only []
  by_cases hv0 : v2 = 0
  case neg =>
    have ev2 : (v2 != 0) = true := by simp [hv0]
    have Q := hide hv0; clear hv0
    go_wp2_with fail
    go_ret
    exact .no Q.out (fun k => Q.out (HV2.out.zero (by have := k.ff; omega))) HT.out.now.1.2
  have ev2 : (v2 != 0) = false := by simp [hv0]
  have N3 := hide (HV2.out.ok hv0)
  clear hv0 HV2
  by_cases hft : te < fr
  · have e3 : decide (te < fr) = true := decide_eq_true hft
    have Q := hide hft
    clear hft
    go_wp2_with fail
    go_ret
    exact .no (by decide) (fun k => by have := k.ff; have := Q.out; omega) HT.out.now.1.2
  have e3 : decide (te < fr) = false := decide_eq_false hft
  have N4 := hide (show fr ≤ te by omega)
  clear hft
  go_wp2_with fail
  clear a1 a2 ev ev1 ev2 e3
  obtain ⟨k, hk⟩ := Int.eq_ofNat_of_zero_le N1.out.1
  have hkn : k < pn := by have := N1.out.2; omega
  have hkl : k < P.length := by have := HPN.out; omega
  obtain ⟨b, o, rfl, -⟩ := HP.out.at_ k hkl
  have HPQ := hide (fun W (h : Prts W (some ⟨b, o, none⟩) P) => prts_now2 h k hkl)
  have HPk := hide (HC.out.ps _ (List.getElem_mem hkl))
  have HKI := hide (show ∀ h : pa.toNat < P.length, P[pa.toNat] = P[k] from fun h => by subst hk; rfl)
  have HBX := hide (show OkBx (P[k]'hkl) sy sn 0 bn ↔ ∀ h : pa.toNat < P.length, OkBx P[pa.toNat] sy sn 0 bn from ⟨fun q h => by rw [HKI.out h]; exact q, fun q => by have := q (by rw [hk]; exact hkl); rw [HKI.out] at this; exact this⟩)
  obtain ⟨p, hp⟩ : ∃ p, P[k]'hkl = p := ⟨_, rfl⟩
  rw [hp] at HPQ HPk HBX
  have HSY := hide (fun W => symbolsErr_ref p.mu p.fi p.bl sy sn 0 bn W HPk.out.bl)
  have hki : (k : Int) < (pn : Int) := by omega
  clear hp hkl HKI HP hkn
  subst hk
  refine wp_region_held_drew (S := fun w_ => Below w2.heap.size w2 w_) (by kernel_rfl) (below_drewN (Below.refl w2.heap.size w2) 1) (fun hHeld => ?_)
  refine take_at (i := 0) 33 (v := .pointer (some ⟨w.heap.size, 3, none⟩)) rfl rfl (by kernel_rfl) (by kernel_rfl) (by kernel_rfl) (fun _ _ _ h => h) (Or.inl ⟨by rfl, by intro w_ hSw; go_simp⟩) (by assumption) ?_
  try simp only [Act.put, List.setIfInBounds_toArray, List.set_cons_zero, List.set_cons_succ]
  refine take_at (i := 1) 34 (v := .slice (some ⟨b, o, none⟩) pn pc) rfl rfl (by kernel_rfl) (by kernel_rfl) (by kernel_rfl) (fun _ _ _ h => h) (Or.inl ⟨by rfl, by intro w_ hSw; have c3 : w_.cell? ⟨w.heap.size, 3, none⟩ = some (.slice (some ⟨b, o, none⟩) pn pc) := (HT.out _ hSw).1.1.1.cell 3; go_simp⟩) (by assumption) ?_
  try simp only [Act.put, List.setIfInBounds_toArray, List.set_cons_zero, List.set_cons_succ]
  refine take_at (i := 2) 35 (v := .pointer (some ⟨w.heap.size + 1, 0, none⟩)) rfl rfl (by kernel_rfl) (by kernel_rfl) (by kernel_rfl) (fun _ _ _ h => h) (Or.inl ⟨by rfl, by intro w_ hSw; go_simp⟩) (by assumption) ?_
  try simp only [Act.put, List.setIfInBounds_toArray, List.set_cons_zero, List.set_cons_succ]
  refine take_at (i := 3) 36 (v := .int .i64 (k : Int)) rfl rfl (by kernel_rfl) (by kernel_rfl) (by kernel_rfl) (fun _ _ _ h => h) (Or.inl ⟨by rfl, by intro w_ hSw; have c0 : w_.cell? ⟨w.heap.size + 1, 0, none⟩ = some (.int .i64 (k : Int)) := (HT.out _ hSw).1.1.2.cell 0; go_simp⟩) (by assumption) ?_
  try simp only [Act.put, List.setIfInBounds_toArray, List.set_cons_zero, List.set_cons_succ]
  refine take_at (i := 4) 37 (v := .pointer (some ⟨b, o + k * 3, none⟩)) rfl rfl (by kernel_rfl) (by kernel_rfl) (by kernel_rfl) (fun _ _ _ h => h) (Or.inl ⟨by rfl, by intro w_ hSw; go_simp⟩) (by assumption) ?_
  try simp only [Act.put, List.setIfInBounds_toArray, List.set_cons_zero, List.set_cons_succ]
  refine take_at (i := 5) 38 (v := .agg #[.int .i64 p.mu, .int .i64 p.fi, .int .i64 p.bl]) rfl rfl (by kernel_rfl) (by kernel_rfl) (by kernel_rfl) (fun _ _ _ h => h) (Or.inl ⟨by rfl, by intro w_ hSw; have hb0 := (HPQ.out _ (HT.out _ hSw).2).1; have hb1 := (HPQ.out _ (HT.out _ hSw).2).2.1; have hb2 := (HPQ.out _ (HT.out _ hSw).2).2.2; go_simp⟩) (by assumption) ?_
  try simp only [Act.put, List.setIfInBounds_toArray, List.set_cons_zero, List.set_cons_succ]
  refine take_at (i := 6) 39 (v := .pointer (some ⟨w.heap.size + 1, 3, none⟩)) rfl rfl (by kernel_rfl) (by kernel_rfl) (by kernel_rfl) (fun _ _ _ h => h) (Or.inl ⟨by rfl, by intro w_ hSw; go_simp⟩) (by assumption) ?_
  try simp only [Act.put, List.setIfInBounds_toArray, List.set_cons_zero, List.set_cons_succ]
  refine take_at (i := 7) 40 (v := .int .i64 sy) rfl rfl (by kernel_rfl) (by kernel_rfl) (by kernel_rfl) (fun _ _ _ h => h) (Or.inl ⟨by rfl, by intro w_ hSw; have c3 : w_.cell? ⟨w.heap.size + 1, 3, none⟩ = some (.int .i64 sy) := (HT.out _ hSw).1.1.2.cell 3; go_simp⟩) (by assumption) ?_
  try simp only [Act.put, List.setIfInBounds_toArray, List.set_cons_zero, List.set_cons_succ]
  refine take_at (i := 8) 41 (v := .pointer (some ⟨w.heap.size + 1, 4, none⟩)) rfl rfl (by kernel_rfl) (by kernel_rfl) (by kernel_rfl) (fun _ _ _ h => h) (Or.inl ⟨by rfl, by intro w_ hSw; go_simp⟩) (by assumption) ?_
  try simp only [Act.put, List.setIfInBounds_toArray, List.set_cons_zero, List.set_cons_succ]
  refine take_at (i := 9) 42 (v := .int .i64 sn) rfl rfl (by kernel_rfl) (by kernel_rfl) (by kernel_rfl) (fun _ _ _ h => h) (Or.inl ⟨by rfl, by intro w_ hSw; have c4 : w_.cell? ⟨w.heap.size + 1, 4, none⟩ = some (.int .i64 sn) := (HT.out _ hSw).1.1.2.cell 4; go_simp⟩) (by assumption) ?_
  try simp only [Act.put, List.setIfInBounds_toArray, List.set_cons_zero, List.set_cons_succ]
  refine take_at (i := 10) 43 (v := .pointer (some ⟨w.heap.size + 1, 5, none⟩)) rfl rfl (by kernel_rfl) (by kernel_rfl) (by kernel_rfl) (fun _ _ _ h => h) (Or.inl ⟨by rfl, by intro w_ hSw; go_simp⟩) (by assumption) ?_
  try simp only [Act.put, List.setIfInBounds_toArray, List.set_cons_zero, List.set_cons_succ]
  refine take_at (i := 11) 44 (v := .int .i64 bn) rfl rfl (by kernel_rfl) (by kernel_rfl) (by kernel_rfl) (fun _ _ _ h => h) (Or.inl ⟨by rfl, by intro w_ hSw; have c5 : w_.cell? ⟨w.heap.size + 1, 5, none⟩ = some (.int .i64 bn) := (HT.out _ hSw).1.1.2.cell 5; go_simp⟩) (by assumption) ?_
  try simp only [Act.put, List.setIfInBounds_toArray, List.set_cons_zero, List.set_cons_succ]
  refine wpAnyH_ready (rs := [12]) (by kernel_rfl) (by simp) ?_
  refine AllReadyH.cons rfl (fun K hK => ?_) AllReadyH.nil
  go_simp
  go_at_call 18
  refine (HSY.out _).mono ?_
  rintro e v12_1 ⟨v, rfl, hv, hb⟩
  replace hHeld := Below.step hHeld hb
  have HV := hide hv
  clear hb hv
  try simp only []
  refine hK.out _ _ hHeld (fun hHeld => ?_)
  clear hK K
  try simp only [Act.put, List.setIfInBounds_toArray, List.set_cons_zero, List.set_cons_succ]
  refine take_at (i := 13) 8 (v := .int .i64 v) rfl rfl (by kernel_rfl) (by kernel_rfl) (by kernel_rfl) (fun _ _ _ h => h) (Or.inl ⟨by rfl, by intro w_ hSw; go_simp⟩) (by assumption) ?_
  try simp only [Act.put, List.setIfInBounds_toArray, List.set_cons_zero, List.set_cons_succ]
  refine wpAnyH_done (by kernel_rfl) ?_ _
  replace HT := hide (HT.out.step hHeld)
  clear hHeld
  obtain ⟨W3, hW3⟩ : ∃ W3, v12_1 = W3 := ⟨_, rfl⟩
  first | rw [hW3] at HT ⊢ | (change Hid (Stay v12_1 _) at HT; rw [hW3] at HT ⊢)
  clear hW3
  by_cases hv0 : v = 0
  case neg =>
    have ev : (v != 0) = true := by simp [hv0]
    have Q := hide hv0; clear hv0
    go_wp2_with fail
    go_ret
    exact .no Q.out (fun k => Q.out (HV.out.zero (by have h := HBX.out.2 k.bb; exact ⟨h.sy, h.bk⟩))) HT.out.now.1.2
  have ev : (v != 0) = false := by simp [hv0]
  have N5 := hide (HV.out.ok hv0)
  clear hv0 HV
  have a1 : W3.cell? ⟨w.heap.size + 1, 1, none⟩ = some (.int .i64 fr) := HT.out.now.1.1.2.cell 1
  have a2 : W3.cell? ⟨w.heap.size + 1, 2, none⟩ = some (.int .i64 te) := HT.out.now.1.1.2.cell 2
  have w1 : IntKind.i64.wrap (te - fr) = te - fr := IntWalk.i64_in _ (by have := N2.out; have := N3.out; omega)
  by_cases hft : 100 < te - fr
  · have e3 : decide (100 < te - fr) = true := decide_eq_true hft
    have Q := hide hft
    clear hft
    go_wp2_with fail
    go_ret
    exact .no (by decide) (fun k => by have := k.ff; have := Q.out; omega) HT.out.now.1.2
  have e3 : decide (100 < te - fr) = false := decide_eq_false hft
  have N6 := hide (show te - fr ≤ 100 by omega)
  clear hft
  go_wp2_with fail
  go_ret
  exact .yes ⟨by have := HPN.out; have := N1.out; omega, by have := N2.out; have := N3.out; have := N4.out; have := N6.out; omega, HBX.out.1 ⟨N5.out.1, N5.out.2⟩⟩ HT.out.now.1.2
end Go.Proofs.Ytfolipkbcibgdaa
