import Derived.Test.YthfmjohbokpceaaEstE
import Derived.Test.YthfmjohbokpceaaEstB
import Derived.Test.YthfmjohbokpceaaWvBB
namespace Go.Proofs.Ythfmjohbokpceaa
open Go.RowKit Go.WideShapes Go.ChangeShapes

/-! estimates at reference symbols: the ok case -/
theorem gss_info : (Try.prog.info? 30).map (fun i => (i.zero, i.size, i.bytes)) = some (some (.agg #[.int .i64 0, .int .i64 0]), 2, 16) := by kernel_rfl
theorem reads_pr (W : World) (a b : Value) (t : TypeId) : Reads (W.alloc (.cells #[a, b] t)) (W.heap.size + 1) 2 (some ⟨W.heap.size, 0, none⟩) 1 [a, b] :=
  ⟨rfl, fun _ => ⟨⟨W.heap.size, 0, none⟩, rfl, Nat.lt_succ_self _, cells_new W [a, b] t⟩⟩
theorem estL_succ (k x : List (Int × Int)) (j : Nat) : estL k x (j + 1) = estL k x j ++ [estV (kg x j) (kg k j)] := tab_succ _ j
theorem refE_ok {z : Int × Int} (h : refE z = 0) : entB 1 z = true ∧ isRB z = true := by
  unfold refE unlessE at h
  by_cases e : (entB 1 z && isRB z) = true
  · exact (Bool.and_eq_true _ _).mp e
  · rw [if_neg e] at h; exact absurd h (by decide)
theorem kg_one {l : List (Int × Int)} (h : ∀ z ∈ l, refE z = 0) (i : Nat) : -1 ≤ (kg l i).1 ∧ (kg l i).1 ≤ 1 ∧ -1 ≤ (kg l i).2 ∧ (kg l i).2 ≤ 1 := by
  unfold kg
  by_cases hi : i < l.length
  · rw [List.getElem?_eq_getElem hi]
    exact (entB_iff 1 _).mp (refE_ok (h _ (List.getElem_mem hi))).1
  · rw [List.getElem?_eq_none (by omega)]; decide
set_option maxRecDepth 100000 in
set_option maxHeartbeats 8000000 in
theorem EstimatesOf_ok (A B : Option Addr) (c d m : Nat) (k x : List (Int × Int)) (w : World) (hs : Sl w A (gv k)) (hs' : Sl w B (gv x)) (hm : k.length = m) (hm' : x.length = m) (h40 : m ≤ 40) (hk : eachE refE k = 0) (hx : eachE entE x = 0) :
    Calls Try.prog 95 #[.slice A m c, .slice B m d] w fun e w' => ∃ C ck, e = .returned (.tuple #[.slice C m ck, .int .i64 0]) ∧ w'.ownsRow w.heap.size 30 2 (.slice C m ck) m (gv (estL k x m)) ∧ Below w.heap.size w w' := by
  obtain ⟨i0, hi0, hz0, hz1, hz2⟩ := info_parts gss_info
  have hK := hide (enters Try.func141 (by kernel_rfl) rfl)
  have hK2 := hide (enters Try.func161 (by kernel_rfl) rfl)
  have HKN := hide (fun W (h : Sl W A (gv k)) => by have := each_gauss 161 refE A c k W hK2.out (fun z W => refErr_wave z W) h (by omega); rw [hk, hm] at this; exact this)
  have HXN := hide (fun W (h : Sl W B (gv x)) => by have := each_gauss 141 entE B d x W hK.out (fun z W => entryErr_wave z W) h (by omega); rw [hx, hm'] at this; exact this)
  have HT := hide (((stay_sl hs).and (stay_sl hs')).and (stay_below (Below.refl w.heap.size w)))
  have HEX := hide (fun i => kg_le (fun z hz => eachE_ok hx z hz) i)
  have HEK := hide (fun i => kg_one (fun z hz => eachE_ok hk z hz) i)
  have HES := hide (estL_succ k x)
  have HM := hide hm
  have HM' := hide hm'
  have q1 : decide ((m : Int) ≤ 40) = true := by rw [decide_eq_true_iff]; omega
  have q2 : ((m : Int) == (m : Int)) = true := by rw [beq_iff_eq]
  have q3 : (m == m) = true := by rw [beq_iff_eq]
  clear hs hs' hk hx hm hm' hK hK2
  go_enter Try.func95, Try.ntmps95
  go_wp2_with (first
    | (go_at_call 115; refine (unless_any _ _ _).mono ?_; rintro e w' ⟨rfl, rfl⟩; simp only [])
    | (go_at_call 107; refine (first2 _ _ _ _ (by simp)).mono ?_; rintro e w' ⟨rfl, rfl⟩; rw [show firstOf [unlessE true 8, unlessE true 10] = 0 from rfl]; simp only [])
    | (go_at_call 140; with_reducible refine (HKN.out _ (HT.out.alloc _).now.1.1).mono ?_; rintro e w1 ⟨rfl, hb⟩; replace HT := hide ((HT.out.alloc _).step hb); clear hb HKN; simp only [])
    | (go_at_call 140; go_must (refine (HXN.out _ HT.out.now.1.2).mono ?_; rintro e w2 ⟨rfl, hb⟩; replace HT := hide (HT.out.step hb); clear hb; simp only [])))
  have HBZ := hide HT.out.now.2
  go_loopw [7, 36] (fun o i wr => ∃ (j : Nat) (C : Option Addr) (c1 : Nat), j ≤ m ∧ i = .int .i64 (j : Int) ∧ o = .slice C j c1 ∧ wr.ownsRow w2.heap.size 30 2 (.slice C j c1) j (gv (estL k x j)) ∧ Below w2.heap.size w2 wr) (fun _ i _ => m - (intOf i).toNat)
  case atStart => exact ⟨0, none, 0, Nat.zero_le _, rfl, rfl, World.ownsRow_nil _ _ _ _, Below.refl _ _⟩
  case round =>
    obtain ⟨j, C, c1, hj, rfl, rfl, hrow, hbel⟩ := hrel
    have HROW := hide hrow
    have HBE := hide hbel
    clear HXN hrow hbel q1 q2 q3
    by_cases hlt : j < m
    · obtain ⟨P, hP⟩ : ∃ P, kg x j = P := ⟨_, rfl⟩
      obtain ⟨Q, hQ⟩ : ∃ Q, kg k j = Q := ⟨_, rfl⟩
      have hp := HEX.out j
      have hq := HEK.out j
      have HSC := hide (estL_succ k x j)
      rw [hP] at hp
      rw [hQ] at hq
      rw [hP, hQ] at HSC
      have HXC := hide (fun W (h : Below w2.heap.size w2 W) => show ∃ b off, B = some ⟨b, off, none⟩ ∧ W.cell? ⟨b, off + j * 2, none⟩ = some (.int .i64 P.1) ∧ W.cell? ⟨b, off + j * 2 + 1, none⟩ = some (.int .i64 P.2) from by
        obtain ⟨b, off, e, h1, h2⟩ := ((HT.out W h).1.2).at2 (k := j) (by rw [HM'.out]; exact hlt)
        have hx : x[j]'(by rw [HM'.out]; exact hlt) = kg x j := by unfold kg; rw [List.getElem?_eq_getElem]; rfl
        rw [hx, hP] at h1 h2
        exact ⟨b, off, e, h1, h2⟩)
      have HKC := hide (fun W (h : Below w2.heap.size w2 W) => show ∃ b off, A = some ⟨b, off, none⟩ ∧ W.cell? ⟨b, off + j * 2, none⟩ = some (.int .i64 Q.1) ∧ W.cell? ⟨b, off + j * 2 + 1, none⟩ = some (.int .i64 Q.2) from by
        obtain ⟨b, off, e, h1, h2⟩ := ((HT.out W h).1.1).at2 (k := j) (by rw [HM.out]; exact hlt)
        have hx : k[j]'(by rw [HM.out]; exact hlt) = kg k j := by unfold kg; rw [List.getElem?_eq_getElem]; rfl
        rw [hx, hQ] at h1 h2
        exact ⟨b, off, e, h1, h2⟩)
      obtain ⟨xb, xo, rfl, x0, x1⟩ := HXC.out wr HBE.out
      obtain ⟨kb, ko, rfl, _, _⟩ := HKC.out wr HBE.out
      have HKD := hide (fun W (h : Below w2.heap.size w2 W) => show W.cell? ⟨kb, ko + j * 2, none⟩ = some (.int .i64 Q.1) ∧ W.cell? ⟨kb, ko + j * 2 + 1, none⟩ = some (.int .i64 Q.2) from by
        obtain ⟨b2, off2, e, h1, h2⟩ := HKC.out W h
        injection e with e; injection e with e3 e4 _; subst e3 e4
        exact ⟨h1, h2⟩)
      have nP : nle 10000 (ent P) := nle_ent hp
      have nQ : nle 1 (ent Q) := nle_ent hq
      have HW1 := hide (fun W => whole_wave P W)
      have HW2 := hide (fun W => whole_wave Q W)
      have HW3 := hide (fun W => conj_wave (ent Q) W (nle_mono nQ (by decide)))
      have HW4 := hide (fun W => times_wave (ent P) (nconj (ent Q)) W nP (nle_conj nQ) (by decide) (by decide) (by decide))
      have HMM := hide (show estV P Q = ((nmul (ent P) (nconj (ent Q))).1, (nmul (ent P) (nconj (ent Q))).2.2.1) from rfl)
      obtain ⟨M, hM⟩ : ∃ M, nmul (ent P) (nconj (ent Q)) = M := ⟨_, rfl⟩
      rw [hM] at HW4 HMM
      obtain ⟨E1, hE1⟩ : ∃ E, ent P = E := ⟨_, rfl⟩
      obtain ⟨E2, hE2⟩ : ∃ E, ent Q = E := ⟨_, rfl⟩
      obtain ⟨E3, hE3⟩ : ∃ E, nconj (ent Q) = E := ⟨_, rfl⟩
      rw [hE1] at HW1 HW4
      rw [hE3] at HW3 HW4
      rw [hE2] at HW2 HW3
      have HSN := hide (show gv (estL k x (j + 1)) = gv (estL k x j) ++ [.int .i64 M.1, .int .i64 M.2.2.1] by rw [HSC.out, gv_snoc, HMM.out])
      have k0 : (0 : Int) ≤ (j : Int) := by omega
      clear hM hE1 hE2 hE3 hP hQ nP nQ hp hq HSC HMM HXC HKC
      go_wp2
      have HX9 := hide (stay_new wr 30 #[.int .i64 P.1, .int .i64 P.2])
      have HB9 := hide (show Below w2.heap.size w2 (wr.alloc (.cells #[.int .i64 P.1, .int .i64 P.2] 30)) from HBE.out.alloc HBE.out.size _)
      have HR9 := hide (show (wr.alloc (.cells #[.int .i64 P.1, .int .i64 P.2] 30)).ownsRow w2.heap.size 30 2 (.slice C j c1) j (gv (estL k x j)) from HROW.out.alloc _)
      obtain ⟨g9, hg9⟩ : ∃ g, wr.heap.size = g := ⟨_, rfl⟩
      obtain ⟨W9, hW9⟩ : ∃ W, (wr.alloc (.cells #[.int .i64 P.1, .int .i64 P.2] 30)) = W := ⟨_, rfl⟩
      rw [hg9, hW9] at HX9
      rw [hW9] at HB9 HR9
      rw [hg9, hW9]
      clear hW9 hg9 x0 x1
      have HH0 := hide (show Below W9.heap.size W9 W9.drew from below_drewN (Below.refl _ _) 1)
      refine wp_region_held_drew (S := fun w' => Below W9.heap.size W9 w') (by kernel_rfl) HH0.out (fun hHeld => ?_)
      refine take_at (i := 0) 41 (v := .agg #[.int .i64 P.1, .int .i64 P.2]) rfl rfl (by kernel_rfl) (by kernel_rfl) (by kernel_rfl) (fun _ _ _ h => h) (Or.inl ⟨by rfl, by intro w hSw; have c0 := (HX9.out w hSw).cell 0; have c1 := (HX9.out w hSw).cell 1; go_simp⟩) (by assumption) ?_
      try simp only [Act.put, List.setIfInBounds_toArray, List.set_cons_zero, List.set_cons_succ]
      refine take_at (i := 2) 43 (v := .slice (some ⟨kb, ko, none⟩) m c) rfl rfl (by kernel_rfl) (by kernel_rfl) (by kernel_rfl) (fun _ _ _ h => h) (Or.inl ⟨by rfl, by intro w hSw; go_simp⟩) (by assumption) ?_
      try simp only [Act.put, List.setIfInBounds_toArray, List.set_cons_zero, List.set_cons_succ]
      refine take_at (i := 3) 44 (v := .int .i64 (j : Int)) rfl rfl (by kernel_rfl) (by kernel_rfl) (by kernel_rfl) (fun _ _ _ h => h) (Or.inl ⟨by rfl, by intro w hSw; go_simp⟩) (by assumption) ?_
      try simp only [Act.put, List.setIfInBounds_toArray, List.set_cons_zero, List.set_cons_succ]
      refine take_at (i := 4) 45 (v := .pointer (some ⟨kb, ko + j * 2, none⟩)) rfl rfl (by kernel_rfl) (by kernel_rfl) (by kernel_rfl) (fun _ _ _ h => h) (Or.inl ⟨by rfl, by intro w hSw; go_simp⟩) (by assumption) ?_
      try simp only [Act.put, List.setIfInBounds_toArray, List.set_cons_zero, List.set_cons_succ]
      refine take_at (i := 5) 46 (v := .agg #[.int .i64 Q.1, .int .i64 Q.2]) rfl rfl (by kernel_rfl) (by kernel_rfl) (by kernel_rfl) (fun _ _ _ h => h) (Or.inl ⟨by rfl, by intro w hSw; obtain ⟨c0, c1⟩ := HKD.out w (Below.step HB9.out hSw); go_simp⟩) (by assumption) ?_
      try simp only [Act.put, List.setIfInBounds_toArray, List.set_cons_zero, List.set_cons_succ]
      obtain ⟨v0, hv0⟩ : ∃ W, W9.drew = W := ⟨_, rfl⟩
      have HH := hide (show Below W9.heap.size W9 v0 from hv0 ▸ HH0.out)
      rw [hv0] at hHeld ⊢
      clear hv0 HH0
      refine wpAnyH_ready (rs := [1, 9]) (by kernel_rfl) (by simp) ?_
      refine AllReadyH.cons rfl (fun K hK => ?_) (AllReadyH.cons rfl (fun K hK => ?_) AllReadyH.nil)
      go_simp
      refine (HW1.out _).mono ?_
      rintro e v1 ⟨rfl, hb⟩
      replace HH := hide (Below.step HH.out hb)
      clear hb
      simp only []
      refine hK.out _ _ HH.out (fun hHeld => ?_)
      clear hK K
      try simp only [Act.put, List.setIfInBounds_toArray, List.set_cons_zero, List.set_cons_succ]
      refine wpAnyH_ready (rs := [6, 9]) (by kernel_rfl) (by simp) ?_
      refine AllReadyH.cons rfl (fun K hK => ?_) (AllReadyH.cons rfl (fun K hK => ?_) AllReadyH.nil)
      go_simp
      refine (HW2.out _).mono ?_
      rintro e v2 ⟨rfl, hb⟩
      replace HH := hide (Below.step HH.out hb)
      clear hb
      simp only []
      refine hK.out _ _ HH.out (fun hHeld => ?_)
      clear hK K
      try simp only [Act.put, List.setIfInBounds_toArray, List.set_cons_zero, List.set_cons_succ]
      refine wpAnyH_ready (rs := [7, 9]) (by kernel_rfl) (by simp) ?_
      refine AllReadyH.cons rfl (fun K hK => ?_) (AllReadyH.cons rfl (fun K hK => ?_) AllReadyH.nil)
      go_simp
      refine (HW3.out _).mono ?_
      rintro e v3 ⟨rfl, hb⟩
      replace HH := hide (Below.step HH.out hb)
      clear hb
      simp only []
      refine hK.out _ _ HH.out (fun hHeld => ?_)
      clear hK K
      try simp only [Act.put, List.setIfInBounds_toArray, List.set_cons_zero, List.set_cons_succ]
      refine wpAnyH_ready (rs := [8, 9]) (by kernel_rfl) (by simp) ?_
      refine AllReadyH.cons rfl (fun K hK => ?_) (AllReadyH.cons rfl (fun K hK => ?_) AllReadyH.nil)
      go_simp
      refine (HW4.out _).mono ?_
      rintro e v4 ⟨rfl, hb⟩
      replace HH := hide (Below.step HH.out hb)
      clear hb
      simp only []
      refine hK.out _ _ HH.out (fun hHeld => ?_)
      clear hK K
      try simp only [Act.put, List.setIfInBounds_toArray, List.set_cons_zero, List.set_cons_succ]
      refine wpAnyH_ready (rs := [9]) (by kernel_rfl) (by simp) ?_
      refine AllReadyH.cons rfl (fun K hK => ?_) AllReadyH.nil
      go_simp
      have hge := HH.out.size
      have HBX := hide (show Stay (v4.alloc (.cells #[.int .i64 0, .int .i64 0, .int .i64 0, .int .i64 0] 162)) (fun W => Blk W v4.heap.size 162 #[.int .i64 0, .int .i64 0, .int .i64 0, .int .i64 0]) from stay_new v4 162 #[.int .i64 0, .int .i64 0, .int .i64 0, .int .i64 0])
      replace HH := hide (show Below W9.heap.size W9 (v4.alloc (.cells #[.int .i64 0, .int .i64 0, .int .i64 0, .int .i64 0] 162)) from HH.out.alloc HH.out.size _)
      refine hK.out _ _ HH.out (fun hHeld => ?_)
      clear hK K
      try simp only [Act.put, List.setIfInBounds_toArray, List.set_cons_zero, List.set_cons_succ]
      refine wpAnyH_ready (rs := [10]) (by kernel_rfl) (by simp) ?_
      refine AllReadyH.cons rfl (fun K hK => ?_) AllReadyH.nil
      refine step_store_rowE rfl 162 (.tmp 10) (.tmp 49) rfl v4.heap.size #[.int .i64 M.1, .int .i64 M.2.1, .int .i64 M.2.2.1, .int .i64 M.2.2.2] rfl rfl 162 #[.int .i64 0, .int .i64 0, .int .i64 0, .int .i64 0] HBX.out.now (by kernel_rfl) rfl (by simp [Value.oneCell']) ?_
      replace HH := hide (show Below W9.heap.size W9 ((v4.alloc (.cells #[.int .i64 0, .int .i64 0, .int .i64 0, .int .i64 0] 162)).setRow v4.heap.size #[.int .i64 M.1, .int .i64 M.2.1, .int .i64 M.2.2.1, .int .i64 M.2.2.2]) from Below.row HH.out hge _)
      replace HBX := hide (stay_blk (HBX.out.now.row #[.int .i64 M.1, .int .i64 M.2.1, .int .i64 M.2.2.1, .int .i64 M.2.2.2]))
      refine hK.out _ _ HH.out (fun hHeld => ?_)
      clear hK K
      try simp only [Act.put, List.setIfInBounds_toArray]
      refine wpAnyH_done (by kernel_rfl) ?_ _
      obtain ⟨Wz, hWz⟩ : ∃ W, (v4.alloc (.cells #[.int .i64 0, .int .i64 0, .int .i64 0, .int .i64 0] 162)).setRow v4.heap.size #[.int .i64 M.1, .int .i64 M.2.1, .int .i64 M.2.2.1, .int .i64 M.2.2.2] = W := ⟨_, rfl⟩
      rw [hWz] at HH HBX
      rw [show (v4.alloc (.cells #[.int .i64 0, .int .i64 0, .int .i64 0, .int .i64 0] 162)).setRow v4.heap.size #[.int .i64 M.1, .int .i64 M.2.1, .int .i64 M.2.2.1, .int .i64 M.2.2.2] = Wz from hWz]
      clear hWz
      obtain ⟨g, hg⟩ : ∃ g, v4.heap.size = g := ⟨_, rfl⟩
      rw [hg] at HBX ⊢
      clear hg hge
      rotate_left
      go_simp
      have hge := HH.out.size
      have HBX := hide (show Stay (v3.alloc (.cells #[.int .i64 0, .int .i64 0, .int .i64 0, .int .i64 0] 162)) (fun W => Blk W v3.heap.size 162 #[.int .i64 0, .int .i64 0, .int .i64 0, .int .i64 0]) from stay_new v3 162 #[.int .i64 0, .int .i64 0, .int .i64 0, .int .i64 0])
      replace HH := hide (show Below W9.heap.size W9 (v3.alloc (.cells #[.int .i64 0, .int .i64 0, .int .i64 0, .int .i64 0] 162)) from HH.out.alloc HH.out.size _)
      refine hK.out _ _ HH.out (fun hHeld => ?_)
      clear hK K
      try simp only [Act.put, List.setIfInBounds_toArray, List.set_cons_zero, List.set_cons_succ]
      refine wpAnyH_ready (rs := [8]) (by kernel_rfl) (by simp) ?_
      refine AllReadyH.cons rfl (fun K hK => ?_) AllReadyH.nil
      go_simp
      refine (HW4.out _).mono ?_
      rintro e v4 ⟨rfl, hb⟩
      replace HH := hide (Below.step HH.out hb)
      replace HBX := hide (HBX.out.step hb)
      clear hb
      simp only []
      refine hK.out _ _ HH.out (fun hHeld => ?_)
      clear hK K
      try simp only [Act.put, List.setIfInBounds_toArray, List.set_cons_zero, List.set_cons_succ]
      refine wpAnyH_ready (rs := [10]) (by kernel_rfl) (by simp) ?_
      refine AllReadyH.cons rfl (fun K hK => ?_) AllReadyH.nil
      refine step_store_rowE rfl 162 (.tmp 10) (.tmp 49) rfl v3.heap.size #[.int .i64 M.1, .int .i64 M.2.1, .int .i64 M.2.2.1, .int .i64 M.2.2.2] rfl rfl 162 #[.int .i64 0, .int .i64 0, .int .i64 0, .int .i64 0] HBX.out.now (by kernel_rfl) rfl (by simp [Value.oneCell']) ?_
      replace HH := hide (show Below W9.heap.size W9 (v4.setRow v3.heap.size #[.int .i64 M.1, .int .i64 M.2.1, .int .i64 M.2.2.1, .int .i64 M.2.2.2]) from Below.row HH.out hge _)
      replace HBX := hide (stay_blk (HBX.out.now.row #[.int .i64 M.1, .int .i64 M.2.1, .int .i64 M.2.2.1, .int .i64 M.2.2.2]))
      refine hK.out _ _ HH.out (fun hHeld => ?_)
      clear hK K
      try simp only [Act.put, List.setIfInBounds_toArray]
      refine wpAnyH_done (by kernel_rfl) ?_ _
      obtain ⟨Wz, hWz⟩ : ∃ W, v4.setRow v3.heap.size #[.int .i64 M.1, .int .i64 M.2.1, .int .i64 M.2.2.1, .int .i64 M.2.2.2] = W := ⟨_, rfl⟩
      rw [hWz] at HH HBX
      rw [show v4.setRow v3.heap.size #[.int .i64 M.1, .int .i64 M.2.1, .int .i64 M.2.2.1, .int .i64 M.2.2.2] = Wz from hWz]
      clear hWz
      obtain ⟨g, hg⟩ : ∃ g, v3.heap.size = g := ⟨_, rfl⟩
      rw [hg] at HBX ⊢
      clear hg hge
      rotate_left
      go_simp
      have hge := HH.out.size
      have HBX := hide (show Stay (v2.alloc (.cells #[.int .i64 0, .int .i64 0, .int .i64 0, .int .i64 0] 162)) (fun W => Blk W v2.heap.size 162 #[.int .i64 0, .int .i64 0, .int .i64 0, .int .i64 0]) from stay_new v2 162 #[.int .i64 0, .int .i64 0, .int .i64 0, .int .i64 0])
      replace HH := hide (show Below W9.heap.size W9 (v2.alloc (.cells #[.int .i64 0, .int .i64 0, .int .i64 0, .int .i64 0] 162)) from HH.out.alloc HH.out.size _)
      refine hK.out _ _ HH.out (fun hHeld => ?_)
      clear hK K
      try simp only [Act.put, List.setIfInBounds_toArray, List.set_cons_zero, List.set_cons_succ]
      refine wpAnyH_ready (rs := [7]) (by kernel_rfl) (by simp) ?_
      refine AllReadyH.cons rfl (fun K hK => ?_) AllReadyH.nil
      go_simp
      refine (HW3.out _).mono ?_
      rintro e v3 ⟨rfl, hb⟩
      replace HH := hide (Below.step HH.out hb)
      replace HBX := hide (HBX.out.step hb)
      clear hb
      simp only []
      refine hK.out _ _ HH.out (fun hHeld => ?_)
      clear hK K
      try simp only [Act.put, List.setIfInBounds_toArray, List.set_cons_zero, List.set_cons_succ]
      refine wpAnyH_ready (rs := [8]) (by kernel_rfl) (by simp) ?_
      refine AllReadyH.cons rfl (fun K hK => ?_) AllReadyH.nil
      go_simp
      refine (HW4.out _).mono ?_
      rintro e v4 ⟨rfl, hb⟩
      replace HH := hide (Below.step HH.out hb)
      replace HBX := hide (HBX.out.step hb)
      clear hb
      simp only []
      refine hK.out _ _ HH.out (fun hHeld => ?_)
      clear hK K
      try simp only [Act.put, List.setIfInBounds_toArray, List.set_cons_zero, List.set_cons_succ]
      refine wpAnyH_ready (rs := [10]) (by kernel_rfl) (by simp) ?_
      refine AllReadyH.cons rfl (fun K hK => ?_) AllReadyH.nil
      refine step_store_rowE rfl 162 (.tmp 10) (.tmp 49) rfl v2.heap.size #[.int .i64 M.1, .int .i64 M.2.1, .int .i64 M.2.2.1, .int .i64 M.2.2.2] rfl rfl 162 #[.int .i64 0, .int .i64 0, .int .i64 0, .int .i64 0] HBX.out.now (by kernel_rfl) rfl (by simp [Value.oneCell']) ?_
      replace HH := hide (show Below W9.heap.size W9 (v4.setRow v2.heap.size #[.int .i64 M.1, .int .i64 M.2.1, .int .i64 M.2.2.1, .int .i64 M.2.2.2]) from Below.row HH.out hge _)
      replace HBX := hide (stay_blk (HBX.out.now.row #[.int .i64 M.1, .int .i64 M.2.1, .int .i64 M.2.2.1, .int .i64 M.2.2.2]))
      refine hK.out _ _ HH.out (fun hHeld => ?_)
      clear hK K
      try simp only [Act.put, List.setIfInBounds_toArray]
      refine wpAnyH_done (by kernel_rfl) ?_ _
      obtain ⟨Wz, hWz⟩ : ∃ W, v4.setRow v2.heap.size #[.int .i64 M.1, .int .i64 M.2.1, .int .i64 M.2.2.1, .int .i64 M.2.2.2] = W := ⟨_, rfl⟩
      rw [hWz] at HH HBX
      rw [show v4.setRow v2.heap.size #[.int .i64 M.1, .int .i64 M.2.1, .int .i64 M.2.2.1, .int .i64 M.2.2.2] = Wz from hWz]
      clear hWz
      obtain ⟨g, hg⟩ : ∃ g, v2.heap.size = g := ⟨_, rfl⟩
      rw [hg] at HBX ⊢
      clear hg hge
      rotate_left
      go_simp
      have hge := HH.out.size
      have HBX := hide (show Stay (v1.alloc (.cells #[.int .i64 0, .int .i64 0, .int .i64 0, .int .i64 0] 162)) (fun W => Blk W v1.heap.size 162 #[.int .i64 0, .int .i64 0, .int .i64 0, .int .i64 0]) from stay_new v1 162 #[.int .i64 0, .int .i64 0, .int .i64 0, .int .i64 0])
      replace HH := hide (show Below W9.heap.size W9 (v1.alloc (.cells #[.int .i64 0, .int .i64 0, .int .i64 0, .int .i64 0] 162)) from HH.out.alloc HH.out.size _)
      refine hK.out _ _ HH.out (fun hHeld => ?_)
      clear hK K
      try simp only [Act.put, List.setIfInBounds_toArray, List.set_cons_zero, List.set_cons_succ]
      refine wpAnyH_ready (rs := [6]) (by kernel_rfl) (by simp) ?_
      refine AllReadyH.cons rfl (fun K hK => ?_) AllReadyH.nil
      go_simp
      refine (HW2.out _).mono ?_
      rintro e v2 ⟨rfl, hb⟩
      replace HH := hide (Below.step HH.out hb)
      replace HBX := hide (HBX.out.step hb)
      clear hb
      simp only []
      refine hK.out _ _ HH.out (fun hHeld => ?_)
      clear hK K
      try simp only [Act.put, List.setIfInBounds_toArray, List.set_cons_zero, List.set_cons_succ]
      refine wpAnyH_ready (rs := [7]) (by kernel_rfl) (by simp) ?_
      refine AllReadyH.cons rfl (fun K hK => ?_) AllReadyH.nil
      go_simp
      refine (HW3.out _).mono ?_
      rintro e v3 ⟨rfl, hb⟩
      replace HH := hide (Below.step HH.out hb)
      replace HBX := hide (HBX.out.step hb)
      clear hb
      simp only []
      refine hK.out _ _ HH.out (fun hHeld => ?_)
      clear hK K
      try simp only [Act.put, List.setIfInBounds_toArray, List.set_cons_zero, List.set_cons_succ]
      refine wpAnyH_ready (rs := [8]) (by kernel_rfl) (by simp) ?_
      refine AllReadyH.cons rfl (fun K hK => ?_) AllReadyH.nil
      go_simp
      refine (HW4.out _).mono ?_
      rintro e v4 ⟨rfl, hb⟩
      replace HH := hide (Below.step HH.out hb)
      replace HBX := hide (HBX.out.step hb)
      clear hb
      simp only []
      refine hK.out _ _ HH.out (fun hHeld => ?_)
      clear hK K
      try simp only [Act.put, List.setIfInBounds_toArray, List.set_cons_zero, List.set_cons_succ]
      refine wpAnyH_ready (rs := [10]) (by kernel_rfl) (by simp) ?_
      refine AllReadyH.cons rfl (fun K hK => ?_) AllReadyH.nil
      refine step_store_rowE rfl 162 (.tmp 10) (.tmp 49) rfl v1.heap.size #[.int .i64 M.1, .int .i64 M.2.1, .int .i64 M.2.2.1, .int .i64 M.2.2.2] rfl rfl 162 #[.int .i64 0, .int .i64 0, .int .i64 0, .int .i64 0] HBX.out.now (by kernel_rfl) rfl (by simp [Value.oneCell']) ?_
      replace HH := hide (show Below W9.heap.size W9 (v4.setRow v1.heap.size #[.int .i64 M.1, .int .i64 M.2.1, .int .i64 M.2.2.1, .int .i64 M.2.2.2]) from Below.row HH.out hge _)
      replace HBX := hide (stay_blk (HBX.out.now.row #[.int .i64 M.1, .int .i64 M.2.1, .int .i64 M.2.2.1, .int .i64 M.2.2.2]))
      refine hK.out _ _ HH.out (fun hHeld => ?_)
      clear hK K
      try simp only [Act.put, List.setIfInBounds_toArray]
      refine wpAnyH_done (by kernel_rfl) ?_ _
      obtain ⟨Wz, hWz⟩ : ∃ W, v4.setRow v1.heap.size #[.int .i64 M.1, .int .i64 M.2.1, .int .i64 M.2.2.1, .int .i64 M.2.2.2] = W := ⟨_, rfl⟩
      rw [hWz] at HH HBX
      rw [show v4.setRow v1.heap.size #[.int .i64 M.1, .int .i64 M.2.1, .int .i64 M.2.2.1, .int .i64 M.2.2.2] = Wz from hWz]
      clear hWz
      obtain ⟨g, hg⟩ : ∃ g, v1.heap.size = g := ⟨_, rfl⟩
      rw [hg] at HBX ⊢
      clear hg hge
      rotate_left
      go_simp
      have hge := HH.out.size
      have HBX := hide (show Stay (v0.alloc (.cells #[.int .i64 0, .int .i64 0, .int .i64 0, .int .i64 0] 162)) (fun W => Blk W v0.heap.size 162 #[.int .i64 0, .int .i64 0, .int .i64 0, .int .i64 0]) from stay_new v0 162 #[.int .i64 0, .int .i64 0, .int .i64 0, .int .i64 0])
      replace HH := hide (show Below W9.heap.size W9 (v0.alloc (.cells #[.int .i64 0, .int .i64 0, .int .i64 0, .int .i64 0] 162)) from HH.out.alloc HH.out.size _)
      refine hK.out _ _ HH.out (fun hHeld => ?_)
      clear hK K
      try simp only [Act.put, List.setIfInBounds_toArray, List.set_cons_zero, List.set_cons_succ]
      refine wpAnyH_ready (rs := [1]) (by kernel_rfl) (by simp) ?_
      refine AllReadyH.cons rfl (fun K hK => ?_) AllReadyH.nil
      go_simp
      refine (HW1.out _).mono ?_
      rintro e v1 ⟨rfl, hb⟩
      replace HH := hide (Below.step HH.out hb)
      replace HBX := hide (HBX.out.step hb)
      clear hb
      simp only []
      refine hK.out _ _ HH.out (fun hHeld => ?_)
      clear hK K
      try simp only [Act.put, List.setIfInBounds_toArray, List.set_cons_zero, List.set_cons_succ]
      refine wpAnyH_ready (rs := [6]) (by kernel_rfl) (by simp) ?_
      refine AllReadyH.cons rfl (fun K hK => ?_) AllReadyH.nil
      go_simp
      refine (HW2.out _).mono ?_
      rintro e v2 ⟨rfl, hb⟩
      replace HH := hide (Below.step HH.out hb)
      replace HBX := hide (HBX.out.step hb)
      clear hb
      simp only []
      refine hK.out _ _ HH.out (fun hHeld => ?_)
      clear hK K
      try simp only [Act.put, List.setIfInBounds_toArray, List.set_cons_zero, List.set_cons_succ]
      refine wpAnyH_ready (rs := [7]) (by kernel_rfl) (by simp) ?_
      refine AllReadyH.cons rfl (fun K hK => ?_) AllReadyH.nil
      go_simp
      refine (HW3.out _).mono ?_
      rintro e v3 ⟨rfl, hb⟩
      replace HH := hide (Below.step HH.out hb)
      replace HBX := hide (HBX.out.step hb)
      clear hb
      simp only []
      refine hK.out _ _ HH.out (fun hHeld => ?_)
      clear hK K
      try simp only [Act.put, List.setIfInBounds_toArray, List.set_cons_zero, List.set_cons_succ]
      refine wpAnyH_ready (rs := [8]) (by kernel_rfl) (by simp) ?_
      refine AllReadyH.cons rfl (fun K hK => ?_) AllReadyH.nil
      go_simp
      refine (HW4.out _).mono ?_
      rintro e v4 ⟨rfl, hb⟩
      replace HH := hide (Below.step HH.out hb)
      replace HBX := hide (HBX.out.step hb)
      clear hb
      simp only []
      refine hK.out _ _ HH.out (fun hHeld => ?_)
      clear hK K
      try simp only [Act.put, List.setIfInBounds_toArray, List.set_cons_zero, List.set_cons_succ]
      refine wpAnyH_ready (rs := [10]) (by kernel_rfl) (by simp) ?_
      refine AllReadyH.cons rfl (fun K hK => ?_) AllReadyH.nil
      refine step_store_rowE rfl 162 (.tmp 10) (.tmp 49) rfl v0.heap.size #[.int .i64 M.1, .int .i64 M.2.1, .int .i64 M.2.2.1, .int .i64 M.2.2.2] rfl rfl 162 #[.int .i64 0, .int .i64 0, .int .i64 0, .int .i64 0] HBX.out.now (by kernel_rfl) rfl (by simp [Value.oneCell']) ?_
      replace HH := hide (show Below W9.heap.size W9 (v4.setRow v0.heap.size #[.int .i64 M.1, .int .i64 M.2.1, .int .i64 M.2.2.1, .int .i64 M.2.2.2]) from Below.row HH.out hge _)
      replace HBX := hide (stay_blk (HBX.out.now.row #[.int .i64 M.1, .int .i64 M.2.1, .int .i64 M.2.2.1, .int .i64 M.2.2.2]))
      refine hK.out _ _ HH.out (fun hHeld => ?_)
      clear hK K
      try simp only [Act.put, List.setIfInBounds_toArray]
      refine wpAnyH_done (by kernel_rfl) ?_ _
      obtain ⟨Wz, hWz⟩ : ∃ W, v4.setRow v0.heap.size #[.int .i64 M.1, .int .i64 M.2.1, .int .i64 M.2.2.1, .int .i64 M.2.2.2] = W := ⟨_, rfl⟩
      rw [hWz] at HH HBX
      rw [show v4.setRow v0.heap.size #[.int .i64 M.1, .int .i64 M.2.1, .int .i64 M.2.2.1, .int .i64 M.2.2.2] = Wz from hWz]
      clear hWz
      obtain ⟨g, hg⟩ : ∃ g, v0.heap.size = g := ⟨_, rfl⟩
      rw [hg] at HBX ⊢
      clear hg hge
      rotate_left
      all_goals
        have c0 := HBX.out.now.cell 0
        have c2 := HBX.out.now.cell 2
        have HR := hide (own_bel HR9.out HH.out)
        have HB2 := hide (Below.step HB9.out HH.out)
        have hbz := HB2.out.size
        clear HH HBX
        go_wp2_with (at_builtin
                     refine wpList_append_any _ rfl (.tmp 50) (.tmp 56) _ rfl w2.heap.size 30 i0 _ 2 16 Try.underlying83 hi0 hz0 hz1 hz2 rfl (by omega) _ j (gv (estL k x j)) rfl
                       (HR.out.alloc _) (Wz.heap.size + 1) (some ⟨Wz.heap.size, 0, none⟩) 1 1 [.int .i64 M.1, .int .i64 M.2.2.1] rfl (reads_pr Wz (.int .i64 M.1) (.int .i64 M.2.2.1) 30) (by simp [Value.oneCell']) (by simp only [maxLen]; omega) (by omega) (by simp; omega) ?_
                     intro v' w6 hown' hgrow _)
        obtain ⟨C2, k2, rfl⟩ := own_form hown'
        go_roundw
        case rel => exact ⟨j + 1, C2, k2, by omega, by go_num, rfl, by rw [HSN.out]; exact hown', Below.app HB2.out HR.out hgrow⟩
        case measure => simp [intOf]; omega
    · obtain rfl : j = m := by omega
      go_wp2
      go_ret2
      exact ⟨C, c1, rfl, HROW.out.weaken HBZ.out.size, Below.step HBZ.out HBE.out⟩
end Go.Proofs.Ythfmjohbokpceaa
