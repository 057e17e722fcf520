import Derived.Test.YthfmjohbokpceaaWvBB
import Derived.Test.YthfmjohbokpceaaWvZ
namespace Go.Proofs.Ythfmjohbokpceaa
open Go.RowKit Go.WideShapes Go.ChangeShapes

/-! what paths make of samples (program) -/
def kp (l : List Pth) (i : Nat) : Pth := l[i]?.getD (0, 0, 0)
theorem kp_at {l : List Pth} {i : Nat} (h : i < l.length) : kp l i = l[i] := by unfold kp; rw [List.getElem?_eq_getElem h]; rfl
theorem Sl.atP {w : World} {A : Option Addr} {h : List Pth} (hs : Sl w A (pvs h)) {k : Nat} (hk : k < h.length) :
    ∃ b off, A = some ⟨b, off, none⟩ ∧ w.cell? ⟨b, off + k * 3, none⟩ = some (.int .i64 (kp h k).1) ∧ w.cell? ⟨b, off + k * 3 + 1, none⟩ = some (.int .i64 (kp h k).2.1) ∧ w.cell? ⟨b, off + k * 3 + 2, none⟩ = some (.int .i64 (kp h k).2.2) := by
  rw [kp_at hk]; exact hs.at3 hk
theorem kp_right {l : List Pth} (h : ∀ p ∈ l, rightB p = true) (i : Nat) : 0 ≤ (kp l i).1 ∧ (kp l i).1 ≤ 7 ∧ -100 ≤ (kp l i).2.1 ∧ (kp l i).2.1 ≤ 100 ∧ -100 ≤ (kp l i).2.2 ∧ (kp l i).2.2 ≤ 100 := by
  unfold kp
  cases hi : l[i]? with
  | none => simp
  | some z =>
    obtain ⟨hi', e⟩ := List.getElem?_eq_some_iff.1 hi
    exact right_iff (h z (by rw [← e]; exact List.getElem_mem hi'))
/-- one sample behind the first so many paths -/
def thr (l : List Pth) (x : List Nm) (n : Nat) : Nat → Nm
  | 0 => n0
  | j + 1 => if (kp l j).1 ≤ (n : Int) then nadd (thr l x n j) (nmul (kn x ((n : Int) - (kp l j).1).toNat) (ent (kp l j).2)) else thr l x n j
theorem thr_le {l : List Pth} {x : List Nm} (hl : ∀ p ∈ l, rightB p = true) (hx : ∀ z ∈ x, nle 1000000000 z) (n : Nat) : ∀ j : Nat, nle (j * 400000000000) (thr l x n j)
  | 0 => by unfold thr nle n0; simp
  | j + 1 => by
    have h := thr_le hl hx n j
    have hk := kp_right hl j
    unfold thr
    split
    · have h1 := nle_mul (kn_le' (by omega) hx ((n : Int) - (kp l j).1).toNat) (nle_ent (m := 100) (g := (kp l j).2) (by omega))
      exact nle_mono (nle_add h h1) (by push_cast; omega)
    · exact nle_mono h (by push_cast; omega)
def thE (l : List Pth) (x : List Nm) : Int := firstOf [(pthV l).2, smpE x]
def thL (l : List Pth) (x : List Nm) : Nat → List Nm := tab fun n => thr l x n l.length
theorem thE_ok {l : List Pth} {x : List Nm} (h : thE l x = 0) : (0 < l.length ∧ l.length ≤ 6 ∧ ∀ p ∈ l, rightB p = true) ∧ x.length ≤ 120 ∧ ∀ z ∈ x, nle 1000000000 z :=
  ⟨pthV_ok (firstOf_ok h _ (by simp)), smpE_ok (firstOf_ok h (smpE x) (by simp))⟩
set_option maxRecDepth 100000 in
set_option maxHeartbeats 4000000 in
theorem Through_err (A B : Option Addr) (c d : Nat) (l : List Pth) (x : List Nm) (w : World) (hs : Sl w A (pvs l)) (hs' : Sl w B (nvs x)) (hl : l.length ≤ 1000000) (hl' : x.length ≤ 1000000) (h : thE l x ≠ 0) :
    Calls Try.prog 26 #[.slice A l.length c, .slice B x.length d] w fun e w' => e = .returned (.tuple #[.slice none 0 0, .int .i64 (thE l x)]) ∧ Below w.heap.size w w' := by
  have HE := hide (show thE l x = firstOf [(pthV l).2, smpE x] from rfl)
  have hq : (firstOf [(pthV l).2, smpE x] != 0) = true := by rw [← HE.out, bne_iff_ne]; exact h
  have HA := hide hs
  have HB := hide hs'
  clear hs hs' h
  obtain ⟨p0, hp0⟩ : ∃ z, (pthV l).1 = z := ⟨_, rfl⟩
  have HP := hide (fun W (h : Sl W A (pvs l)) => by have := checkPaths_wave A c l W h hl; rw [hp0] at this; exact this)
  clear hp0
  go_enter Try.func26, Try.ntmps26
  go_wp2_with (first
    | (go_at_call 63; go_must (refine (HP.out _ HA.out).mono ?_; rintro e w1 ⟨rfl, hb1⟩; have b1 := hb1; have z1 := b1.size; clear hb1; simp only []))
    | (go_at_call 108; go_must (refine (samplesErr_wave B d x _ (HB.out.bel b1) hl').mono ?_; rintro e w2 ⟨rfl, hb2⟩; have b2 := Below.step b1 hb2; have z2 := b2.size; clear hb2; simp only []))
    | (go_at_call 107; go_must (refine (first2 _ _ _ _ (by simp)).mono ?_; rintro e w' ⟨rfl, rfl⟩; simp only [])))
  go_ret2
  exact ⟨by rw [HE.out]; rfl, by go_grown⟩
set_option maxRecDepth 100000 in
set_option maxHeartbeats 8000000 in
theorem Through_ok (A B : Option Addr) (c d m n : Nat) (l : List Pth) (x : List Nm) (w : World) (hm : l.length = m) (hn : x.length = n) (hs : Sl w A (pvs l)) (hs' : Sl w B (nvs x)) (h : thE l x = 0) :
    Calls Try.prog 26 #[.slice A m c, .slice B n d] w (fun e w' => ∃ wt, Told (thL l x n) wt e w' ∧ Below w.heap.size w wt) := by
  obtain ⟨i0, hi0, hz0, hz1, hz2⟩ := info_parts nu_info
  obtain ⟨⟨hl0, hl6, hlr⟩, hx120, hxl⟩ := thE_ok h
  have HE := hide (show firstOf [(pthV l).2, smpE x] = 0 from h)
  obtain ⟨p0, hp0⟩ : ∃ z, (pthV l).1 = z := ⟨_, rfl⟩
  obtain ⟨p1, hp1⟩ : ∃ z, (pthV l).2 = z := ⟨_, rfl⟩
  rw [hp1] at HE
  have HP := hide (fun W (h : Sl W A (pvs l)) => by have := checkPaths_wave A c l W h (by omega); rw [hp0, hp1, hm] at this; exact this)
  have HSM := hide (fun W (h : Sl W B (nvs x)) => by have := samplesErr_wave B d x W h (by omega); rw [hn] at this; exact this)
  have HA := hide hs
  have HB := hide hs'
  have HAT := hide (fun k (hk : k < m) => hs.atP (k := k) (by omega))
  have HBT := hide (fun W (hb : Below w.heap.size w W) k (hk : k < n) => (hs'.bel hb).atN (k := k) (by omega))
  have HKP := hide (kp_right hlr)
  have HKN := hide (kn_le' (by omega : (0 : Int) ≤ 1000000000) hxl)
  have HTL := hide (thr_le hlr hxl)
  have HY := hide (show ∀ (k j : Nat), (kp l j).1 ≤ (k : Int) → thr l x k (j + 1) = nadd (thr l x k j) (nmul (kn x ((k : Int) - (kp l j).1).toNat) (ent (kp l j).2)) from fun k j h => if_pos h)
  have HNO := hide (show ∀ (k j : Nat), ¬ (kp l j).1 ≤ (k : Int) → thr l x k (j + 1) = thr l x k j from fun k j h => if_neg h)
  have HSC := hide (show ∀ k, thL l x (k + 1) = thL l x k ++ [thr l x k m] from fun k => by rw [← hm]; exact tab_succ _ k)
  have HLEN := hide (fun k => show (thL l x k).length = k from tab_len _ k)
  have HT0 := hide (show thL l x 0 = [] from rfl)
  have hm6 : m ≤ 6 := by omega
  have hn120 : n ≤ 120 := by omega
  clear hs hs' h hl0 hl6 hlr hx120 hxl hp0 hp1 hm hn
  go_enter Try.func26, Try.ntmps26
  go_wp2_with (first
    | (go_at_call 63; go_must (refine (HP.out _ HA.out).mono ?_; rintro e w1 ⟨rfl, hb1⟩; have b1 := hb1; have z1 := b1.size; clear hb1; simp only []))
    | (go_at_call 108; go_must (refine (HSM.out _ (HB.out.bel b1)).mono ?_; rintro e w2 ⟨rfl, hb2⟩; have b2 := Below.step b1 hb2; have z2 := b2.size; clear hb2; simp only []))
    | (go_at_call 107; go_must (refine (first2 _ _ _ _ (by simp)).mono ?_; rintro e w' ⟨rfl, rfl⟩; rw [HE.out]; simp only [])))
  have b4 : Below w.heap.size w (w2.alloc (.cells #[.int .i64 p1, .int .i64 (smpE x)] 25)) := by go_grown
  clear b1 z1 b2 z2
  generalize w2.alloc (.cells #[.int .i64 p1, .int .i64 (smpE x)] 25) = w4 at *
  have z4 := b4.size
  go_loopw [8, 28] (fun o i wr => ∃ (k : Nat) (C : Option Addr) (c1 : Nat), k ≤ n ∧ i = .int .i64 k ∧ o = .slice C k c1 ∧ wr.ownsRow w.heap.size 162 4 (.slice C k c1) k (nvs (thL l x k)) ∧ Below w.heap.size w wr) (fun _ i _ => n - (intOf i).toNat)
  case atStart => exact ⟨0, none, 0, Nat.zero_le _, rfl, rfl, by rw [HT0.out]; exact World.ownsRow_nil _ _ _ _, b4⟩
  case round =>
    clear b4 z4
    obtain ⟨k, C, c1, hk, rfl, rfl, hrow, hbel⟩ := hrel
    have hbz := hbel.size
    by_cases hlt : k < n
    · have HROW := hide hrow
      clear hrow
      go_wp2
      obtain ⟨wo, rfl⟩ : ∃ wo : World, wo = wr := ⟨_, rfl⟩
      go_loopw [33] (fun i wr => ∃ j : Nat, j ≤ m ∧ i = .int .i64 j ∧ Blk wr wo.heap.size 162 (ncells (thr l x k j)) ∧ Below wo.heap.size wo wr) (fun i _ => m - (intOf i).toNat)
      case atStart => exact ⟨0, Nat.zero_le _, rfl, Blk.new wo 162 (ncells n0), by go_grown⟩
      case round =>
        obtain ⟨j, hj, rfl, hT, hbo⟩ := hrel
        have hbo1 : Below w.heap.size w wr := Below.step hbel hbo
        have hboz := hbo.size
        have hTl := hT.lt
        by_cases hlt2 : j < m
        · obtain ⟨b, off, rfl, e0, e1, e2⟩ := HAT.out j hlt2
          have d0 := (hbo1.cell (p := ⟨b, off + j * 3, none⟩) (lt_of_cell e0)).trans e0
          have d1 := (hbo1.cell (p := ⟨b, off + j * 3 + 1, none⟩) (lt_of_cell e1)).trans e1
          have d2 := (hbo1.cell (p := ⟨b, off + j * 3 + 2, none⟩) (lt_of_cell e2)).trans e2
          have hkp := HKP.out j
          have hyes := HY.out k j
          have hno := HNO.out k j
          have htl := HTL.out k j
          obtain ⟨⟨dl, ga, gb⟩, hp⟩ : ∃ p, kp l j = p := ⟨_, rfl⟩
          rw [hp] at d0 d1 d2 hkp hyes hno
          dsimp only at d0 d1 d2 hkp hyes hno
          obtain ⟨r1, r2, r3, r4, r5, r6⟩ := hkp
          obtain ⟨S, hS⟩ : ∃ S, thr l x k j = S := ⟨_, rfl⟩
          rw [hS] at hT hyes hno htl
          by_cases hdl : dl ≤ (k : Int)
          · have hst := hyes hdl
            obtain ⟨t, ht⟩ : ∃ t : Nat, (k : Int) - dl = (t : Int) := ⟨((k : Int) - dl).toNat, by omega⟩
            have htn : t < n := by omega
            rw [show ((k : Int) - dl).toNat = t by omega] at hst
            obtain ⟨b', off', hB', _⟩ := HBT.out _ hbo1 t htn
            subst hB'
            have HX := hide (show ∀ W, Below w.heap.size w W → W.cell? ⟨b', off' + t * 4, none⟩ = some (.int .i64 (kn x t).1) ∧ W.cell? ⟨b', off' + t * 4 + 1, none⟩ = some (.int .i64 (kn x t).2.1) ∧ W.cell? ⟨b', off' + t * 4 + 2, none⟩ = some (.int .i64 (kn x t).2.2.1) ∧ W.cell? ⟨b', off' + t * 4 + 3, none⟩ = some (.int .i64 (kn x t).2.2.2) from fun W h => by
              obtain ⟨b1, o1, e, q⟩ := HBT.out W h t htn
              injection e with e
              injection e with e1 e2
              subst e1 e2
              exact q)
            have hkn := HKN.out t
            obtain ⟨q, hq⟩ : ∃ q, kn x t = q := ⟨_, rfl⟩
            rw [hq] at HX hkn hst
            have hen := nle_ent (m := 100) (g := (ga, gb)) (by dsimp only; omega)
            have HTM := hide (fun W => times_wave q (ent (ga, gb)) W hkn hen (by decide) (by decide) (by decide))
            have HMN := hide (nle_mono (nle_mul hkn hen) (show 4 * (1000000000 * 100) ≤ (4000000000000000000 : Int) by decide))
            have HSL := hide (nle_mono htl (show (j : Int) * 400000000000 ≤ 4000000000000000000 by omega))
            have HST := hide hst
            have g1 : IntKind.i64.wrap ((k : Int) - dl) = (t : Int) := by rw [ht]; exact IntWalk.i64_in _ (by omega)
            have k1 : decide (dl ≤ (k : Int)) = true := decide_eq_true hdl
            have k2 : decide ((k : Int) ≥ dl) = true := decide_eq_true hdl
            have g3 : (t : Int) < (n : Int) := by omega
            have g4 : (0 : Int) ≤ (t : Int) := by omega
            have HH0 : Hid (Blk (wr.alloc (.cells #[.int .i64 dl, .int .i64 ga, .int .i64 gb] 32)).drew wo.heap.size 162 (ncells S) ∧ Blk (wr.alloc (.cells #[.int .i64 dl, .int .i64 ga, .int .i64 gb] 32)).drew wr.heap.size 32 #[.int .i64 dl, .int .i64 ga, .int .i64 gb] ∧ Below wo.heap.size wo (wr.alloc (.cells #[.int .i64 dl, .int .i64 ga, .int .i64 gb] 32)).drew) := hide ⟨hT.alloc _, Blk.new wr _ _, (hbo.alloc hboz (.cells #[.int .i64 dl, .int .i64 ga, .int .i64 gb] 32)).drew⟩
            clear hp hS hq hst htl hkn hen hyes hno hT e0 e1 e2 ht HY HNO HTL HKP HKN HAT HBT HP HSM HLEN HSC HT0
            go_wp2
            refine UpTo.start (z := 14) (S := fun w' => Blk w' wo.heap.size 162 (ncells S) ∧ Blk w' wr.heap.size 32 #[.int .i64 dl, .int .i64 ga, .int .i64 gb] ∧ Below wo.heap.size wo w') (by kernel_rfl) ?_
            refine UpTo.take (i := 0) 41 (v := nv S) rfl rfl (by kernel_rfl) (by kernel_rfl) (by kernel_rfl) (by kernel_rfl) (fun _ _ _ h => h) HH0.out (Or.inl ⟨by rfl, by intro w hSw; obtain ⟨q0, q1, q2, q3, _, _, _, _⟩ := hSw.1.n4; go_simp⟩) ?_
            try simp only [Act.put, List.setIfInBounds_toArray, List.set_cons_zero, List.set_cons_succ]
            refine UpTo.take (i := 1) 42 (v := .slice (some ⟨b', off', none⟩) n d) rfl rfl (by kernel_rfl) (by kernel_rfl) (by kernel_rfl) (by kernel_rfl) (fun _ _ _ h => h) HH0.out (Or.inl ⟨by rfl, by intro w hSw; go_simp⟩) ?_
            try simp only [Act.put, List.setIfInBounds_toArray, List.set_cons_zero, List.set_cons_succ]
            refine UpTo.take (i := 2) 43 (v := .int .i64 (k : Int)) rfl rfl (by kernel_rfl) (by kernel_rfl) (by kernel_rfl) (by kernel_rfl) (fun _ _ _ h => h) HH0.out (Or.inl ⟨by rfl, by intro w hSw; go_simp⟩) ?_
            try simp only [Act.put, List.setIfInBounds_toArray, List.set_cons_zero, List.set_cons_succ]
            refine UpTo.take (i := 3) 44 (v := .pointer (some ⟨wr.heap.size, 0, none⟩)) rfl rfl (by kernel_rfl) (by kernel_rfl) (by kernel_rfl) (by kernel_rfl) (fun _ _ _ h => h) HH0.out (Or.inl ⟨by rfl, by intro w hSw; go_simp⟩) ?_
            try simp only [Act.put, List.setIfInBounds_toArray, List.set_cons_zero, List.set_cons_succ]
            refine UpTo.take (i := 4) 45 (v := .int .i64 dl) rfl rfl (by kernel_rfl) (by kernel_rfl) (by kernel_rfl) (by kernel_rfl) (fun _ _ _ h => h) HH0.out (Or.inl ⟨by rfl, by intro w hSw; have q1 : w.cell? ⟨wr.heap.size, 0, none⟩ = some (.int .i64 dl) := hSw.2.1.cell 0; go_simp⟩) ?_
            try simp only [Act.put, List.setIfInBounds_toArray, List.set_cons_zero, List.set_cons_succ]
            refine UpTo.take (i := 5) 46 (v := .int .i64 (t : Int)) rfl rfl (by kernel_rfl) (by kernel_rfl) (by kernel_rfl) (by kernel_rfl) (fun _ _ _ h => h) HH0.out (Or.inl ⟨by rfl, by intro w hSw; go_simp⟩) ?_
            try simp only [Act.put, List.setIfInBounds_toArray, List.set_cons_zero, List.set_cons_succ]
            refine UpTo.take (i := 6) 47 (v := .pointer (some ⟨b', off' + t * 4, none⟩)) rfl rfl (by kernel_rfl) (by kernel_rfl) (by kernel_rfl) (by kernel_rfl) (fun _ _ _ h => h) HH0.out (Or.inl ⟨by rfl, by intro w hSw; go_simp⟩) ?_
            try simp only [Act.put, List.setIfInBounds_toArray, List.set_cons_zero, List.set_cons_succ]
            refine UpTo.take (i := 7) 48 (v := nv q) rfl rfl (by kernel_rfl) (by kernel_rfl) (by kernel_rfl) (by kernel_rfl) (fun _ _ _ h => h) HH0.out (Or.inl ⟨by rfl, by intro w hSw; obtain ⟨q0, q1, q2, q3⟩ := HX.out _ (Below.step hbel hSw.2.2); go_simp⟩) ?_
            try simp only [Act.put, List.setIfInBounds_toArray, List.set_cons_zero, List.set_cons_succ]
            refine UpTo.take (i := 9) 50 (v := .pointer (some ⟨wr.heap.size, 1, none⟩)) rfl rfl (by kernel_rfl) (by kernel_rfl) (by kernel_rfl) (by kernel_rfl) (fun _ _ _ h => h) HH0.out (Or.inl ⟨by rfl, by intro w hSw; go_simp⟩) ?_
            try simp only [Act.put, List.setIfInBounds_toArray, List.set_cons_zero, List.set_cons_succ]
            refine UpTo.take (i := 10) 51 (v := .agg #[.int .i64 ga, .int .i64 gb]) rfl rfl (by kernel_rfl) (by kernel_rfl) (by kernel_rfl) (by kernel_rfl) (fun _ _ _ h => h) HH0.out (Or.inl ⟨by rfl, by intro w hSw; have q1 : w.cell? ⟨wr.heap.size, 1, none⟩ = some (.int .i64 ga) := hSw.2.1.cell 1; have q2 : w.cell? ⟨wr.heap.size, 2, none⟩ = some (.int .i64 gb) := hSw.2.1.cell 2; go_simp⟩) ?_
            try simp only [Act.put, List.setIfInBounds_toArray, List.set_cons_zero, List.set_cons_succ]
            refine UpTo.next (i := 8) (by kernel_rfl) rfl (fun K hK => ?_)
            go_simp
            refine (numberOf_wave q _).mono ?_
            rintro e v1 ⟨rfl, hb⟩
            have HH1 := hide (show Blk v1 wo.heap.size 162 (ncells S) ∧ Blk v1 wr.heap.size 32 #[.int .i64 dl, .int .i64 ga, .int .i64 gb] ∧ Below wo.heap.size wo v1 from ⟨HH0.out.1.below hb HH0.out.1.lt, HH0.out.2.1.below hb HH0.out.2.1.lt, Below.step HH0.out.2.2 hb⟩)
            clear hb
            simp only []
            refine hK.out _ _ (fun _ => HH1.out) ?_
            clear hK K
            try simp only [Act.put, List.setIfInBounds_toArray, List.set_cons_zero, List.set_cons_succ]
            refine UpTo.next (i := 11) (by kernel_rfl) rfl (fun K hK => ?_)
            go_simp
            refine (whole_wave (ga, gb) _).mono ?_
            rintro e v2 ⟨rfl, hb⟩
            have HH2 := hide (show Blk v2 wo.heap.size 162 (ncells S) ∧ Blk v2 wr.heap.size 32 #[.int .i64 dl, .int .i64 ga, .int .i64 gb] ∧ Below wo.heap.size wo v2 from ⟨HH1.out.1.below hb HH1.out.1.lt, HH1.out.2.1.below hb HH1.out.2.1.lt, Below.step HH1.out.2.2 hb⟩)
            clear hb
            simp only []
            refine hK.out _ _ (fun _ => HH2.out) ?_
            clear hK K
            try simp only [Act.put, List.setIfInBounds_toArray, List.set_cons_zero, List.set_cons_succ]
            refine UpTo.next (i := 12) (by kernel_rfl) rfl (fun K hK => ?_)
            go_simp
            refine (HTM.out _).mono ?_
            rintro e v3 ⟨rfl, hb⟩
            have HH3 := hide (show Blk v3 wo.heap.size 162 (ncells S) ∧ Blk v3 wr.heap.size 32 #[.int .i64 dl, .int .i64 ga, .int .i64 gb] ∧ Below wo.heap.size wo v3 from ⟨HH2.out.1.below hb HH2.out.1.lt, HH2.out.2.1.below hb HH2.out.2.1.lt, Below.step HH2.out.2.2 hb⟩)
            clear hb
            simp only []
            refine hK.out _ _ (fun _ => HH3.out) ?_
            clear hK K
            try simp only [Act.put, List.setIfInBounds_toArray, List.set_cons_zero, List.set_cons_succ]
            refine UpTo.next (i := 13) (by kernel_rfl) rfl (fun K hK => ?_)
            go_simp
            refine (plus_wave S _ _ HSL.out HMN.out).mono ?_
            rintro e v6 ⟨rfl, hb⟩
            have HH6 := hide (show Blk v6 wo.heap.size 162 (ncells S) ∧ Blk v6 wr.heap.size 32 #[.int .i64 dl, .int .i64 ga, .int .i64 gb] ∧ Below wo.heap.size wo v6 from ⟨HH3.out.1.below hb HH3.out.1.lt, HH3.out.2.1.below hb HH3.out.2.1.lt, Below.step HH3.out.2.2 hb⟩)
            clear hb
            simp only []
            refine hK.out _ _ (fun _ => HH6.out) ?_
            clear hK K
            try simp only [Act.put, List.setIfInBounds_toArray, List.set_cons_zero, List.set_cons_succ]
            obtain ⟨u0, u1, u2, u3, f0, f1, f2, f3⟩ := HH6.out.1.n4
            have hz6 := HH6.out.2.2.size
            refine UpTo.next (i := 14) (by kernel_rfl) rfl (fun K hK => ?_)
            go_simp
            refine hK.out _ _ (fun h => absurd rfl h) ?_
            clear hK K
            refine UpTo.done (by kernel_rfl) ?_ _
            have b6 := HH6.out.2.2
            go_wp2
            go_roundw
            case rel => exact ⟨j + 1, by omega, by go_num, by rw [HST.out]; exact (((HH6.out.1.set_ 0 _).set_ 1 _).set_ 2 _).set_ 3 _, by go_grown⟩
            case measure => simp [intOf]; omega
          · have k1 : decide (dl ≤ (k : Int)) = false := decide_eq_false hdl
            have k2 : decide ((k : Int) ≥ dl) = false := decide_eq_false hdl
            have HST := hide (hno (by omega))
            have HT2 := hide hT
            clear hp hS htl hyes hno hT e0 e1 e2 hdl HY HNO HTL HKP HKN HAT HBT HP HSM HLEN HSC HT0
            go_wp2
            go_roundw
            case rel => exact ⟨j + 1, by omega, by go_num, by rw [HST.out]; exact HT2.out.alloc _, by go_grown⟩
            case measure => simp [intOf]; omega
        · have hjm : j = m := by omega
          have hT' : Blk wr wo.heap.size 162 (ncells (thr l x k m)) := by rw [← hjm]; exact hT
          have hsc := HSC.out k
          obtain ⟨y, hy⟩ : ∃ y, thr l x k m = y := ⟨_, rfl⟩
          rw [hy] at hT' hsc
          have HSC2 := hide (show nvs (thL l x (k + 1)) = nvs (thL l x k) ++ [.int .i64 y.1, .int .i64 y.2.1, .int .i64 y.2.2.1, .int .i64 y.2.2.2] by rw [hsc, nvs_snoc])
          have HROW2 := hide (own_bel HROW.out hbo)
          obtain ⟨y0, y1, y2, y3, _, _, _, _⟩ := hT'.n4
          have hboz1 := hbo1.size
          clear hy hsc hT hT' hjm HY HNO HTL HKP HKN HAT HBT HP HSM HLEN HSC HT0
          go_wp2_with (at_builtin; go_must (
               refine wpList_append_own _ rfl _ _ 160 rfl w.heap.size 162 i0 _ 4 32 Try.underlying160 hi0 hz0 hz1 hz2 rfl (by decide) (.slice C k c1) k (nvs (thL l x k)) rfl (HROW2.out.alloc _) ⟨wr.heap.size, 0, none⟩ 1 1 [.int .i64 y.1, .int .i64 y.2.1, .int .i64 y.2.2.1, .int .i64 y.2.2.2] rfl rfl (cells_new _ _ _) (by simp [Value.oneCell']) (by simp only [maxLen]; omega) (by omega) (by simp; omega) ?_
               intro v' w5 hown' hgrow _
               obtain ⟨C2, k2, rfl⟩ := own_form hown'
               have hbel' := Below.app hbo1 HROW2.out hgrow))
          go_roundw
          case rel => exact ⟨k + 1, C2, k2, by omega, by go_num, rfl, by rw [HSC2.out]; exact hown', hbel'⟩
          case measure => simp [intOf]; omega
    · obtain rfl : k = n := by omega
      have HROW := hide hrow
      clear hrow
      cases ha : (thL l x k).all (fitsB 1000000000)
      · have HTI := hide (fun C c W (h : Sl W C (nvs (thL l x k))) => (toldIf_wave C c (thL l x k) W h (by rw [HLEN.out]; omega)).mono fun e w' ht => show e = .returned (.tuple #[.slice none 0 0, .int .i64 8]) ∧ Below W.heap.size W w' from by
          rcases ht with ⟨h1, _, _⟩ | ⟨_, h2, h3⟩
          · rw [ha] at h1; exact absurd h1 (by decide)
          · exact ⟨h2, h3⟩)
        rw [HLEN.out] at HTI
        have HALL := hide ha
        clear ha
        go_wp2_with (go_at_call 113; go_must (refine (HTI.out _ _ _ (Sl.of_ownN HROW.out)).mono ?_; rintro e w5 ⟨rfl, hb5⟩; have HB5 := hide hb5; clear hb5; simp only []))
        go_ret2
        exact ⟨wr, .inr ⟨HALL.out, rfl, HB5.out⟩, hbel⟩
      · have HTI := hide (fun C c W (h : Sl W C (nvs (thL l x k))) => (toldIf_wave C c (thL l x k) W h (by rw [HLEN.out]; omega)).mono fun e w' ht => show (∃ C' k', e = .returned (.tuple #[.slice C' (thL l x k).length k', .int .i64 0]) ∧ Sl w' C' (nvs (thL l x k))) ∧ Below W.heap.size W w' from by
          rcases ht with ⟨_, h2, h3⟩ | ⟨h1, _, _⟩
          · exact ⟨h2, h3⟩
          · rw [ha] at h1; exact absurd h1 (by decide))
        rw [HLEN.out] at HTI
        have HALL := hide ha
        clear ha
        go_wp2_with (go_at_call 113; go_must (refine (HTI.out _ _ _ (Sl.of_ownN HROW.out)).mono ?_; rintro e w5 ⟨⟨C5, k5, rfl, hs5⟩, hb5⟩; have HS5 := hide hs5; have HB5 := hide hb5; clear hs5 hb5; simp only []))
        go_ret2
        exact ⟨wr, .inl ⟨HALL.out, ⟨C5, k5, by rw [HLEN.out]; rfl, HS5.out⟩, HB5.out⟩, hbel⟩
end Go.Proofs.Ythfmjohbokpceaa
