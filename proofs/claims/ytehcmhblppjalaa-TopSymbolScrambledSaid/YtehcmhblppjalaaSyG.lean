import Derived.Test.YtehcmhblppjalaaSyF
namespace Go.Proofs.Ytehcmhblppjalaa
open Go.RowKit Go.WideShapes Go.ChangeShapes

/-! checks of the program where all is right; copies -/
theorem idx_none (p : Int → Bool) : ∀ (l : List Int) (k : Int), (∀ x ∈ l, p x = false) → idxFrom p l k = -1
  | [], _, _ => rfl
  | x :: r, k, h => by rw [idxFrom, h x (by simp), if_neg (by decide)]; exact idx_none p r (k + 1) fun y hy => h y (by simp [hy])
theorem areBits1_sy (x : Int) (w : World) : Calls Try.prog 46 #[.int .i64 x] w fun e w' => e = .returned (.bool (!(withinB x 0 1))) ∧ w = w' := by
  go_enter Try.func46, Try.ntmps46
  go_wp2_with (go_at_call 25; refine (within_sy _ _ _ _).mono ?_; rintro e w' ⟨rfl, rfl⟩)
  go_ret
  exact ⟨rfl, rfl⟩
theorem bit_in {x : Int} (h : bitB x = true) : withinB x 0 1 = true := by unfold bitB at h; simp at h; rw [withinB_iff]; omega
theorem areBits_sy (A : Option Addr) (c n : Nat) (l : List Int) (w : World) (hn : l.length = n) (hs : Sl w A (iv l)) (hl : n ≤ 1000000) (hb : l.all bitB = true) :
    Calls Try.prog 35 #[.slice A n c] w fun e w' => e = .returned (.bool true) ∧ w = w' := by
  subst hn
  have H := hide (containsFunc0 46 (fun x => !(withinB x 0 1)) A c l w (enters Try.func46 (by kernel_rfl) rfl) (fun x => areBits1_sy x w) hs hl)
  rw [idx_none (fun x => !(withinB x 0 1)) l 0 (fun x hx => by rw [List.all_eq_true] at hb; rw [bit_in (hb x hx)]; rfl)] at H
  clear hb hs
  go_enter Try.func35, Try.ntmps35
  go_wp2_with (go_at_call 45; go_must (refine H.out.mono ?_; rintro e w' ⟨rfl, rfl⟩; simp only []))
  go_ret
  exact ⟨rfl, rfl⟩
theorem first2z (W : World) (n : Nat) (hn : W.heap.size = n) : Calls Try.prog 18 #[.slice (some ⟨n, 0, none⟩) 2 2] (W.alloc (.cells #[.int .i64 0, .int .i64 0] 28)) fun x w' => x = .returned (.int .i64 0) ∧ W.alloc (.cells #[.int .i64 0, .int .i64 0] 28) = w' := first2 W n 0 0 hn
theorem first3z (W : World) (n : Nat) (hn : W.heap.size = n) : Calls Try.prog 18 #[.slice (some ⟨n, 0, none⟩) 3 3] (W.alloc (.cells #[.int .i64 0, .int .i64 0, .int .i64 0] 28)) fun x w' => x = .returned (.int .i64 0) ∧ W.alloc (.cells #[.int .i64 0, .int .i64 0, .int .i64 0] 28) = w' := first3 W n 0 0 0 hn
theorem bitsErr_sy (A : Option Addr) (c n : Nat) (l : List Int) (w : World) (hn : l.length = n) (hs : Sl w A (iv l)) (hb : btE l = 0) :
    Calls Try.prog 20 #[.slice A n c] w fun e w' => e = .returned (.int .i64 0) ∧ Below w.heap.size w w' := by
  obtain ⟨h1, h2, h3⟩ := btE_ok hb
  have HA := hide (areBits_sy A c n l w hn hs (by omega) h3)
  rw [hn] at h1 h2
  have q1 : decide (0 < (n : Int)) = true := by rw [decide_eq_true_iff]; omega
  have q2 : decide ((n : Int) ≤ 400) = true := by rw [decide_eq_true_iff]; omega
  have HU := hide (fun e W => unless_any true e W)
  clear hb hs h3 hn
  go_enter Try.func20, Try.ntmps20
  go_wp2_with (first
    | (go_at_call 24; go_must (refine (HU.out _ _).mono ?_; rintro e w1 ⟨rfl, rfl⟩; simp only [unlessE, if_true]))
    | (go_at_call 35; go_must (refine HA.out.mono ?_; rintro e w1 ⟨rfl, rfl⟩; simp only []))
    | (go_at_call 18; go_must (refine (first3z _ _ rfl).mono ?_; rintro e w1 ⟨rfl, rfl⟩; simp only [])))
  go_ret
  exact ⟨rfl, by go_grown⟩
/-- a copy in memory of its own -/
theorem clone_sy (A : Option Addr) (c n : Nat) (l : List Int) (w : World) (hn : l.length = n) (h0 : 0 < n) (hs : Sl w A (iv l)) (hl : n ≤ 1000000) :
    Calls Try.prog 21 #[.slice A n c] w fun e w' => ∃ A' c', e = .returned (.slice A' n c') ∧ w'.ownsRow w.heap.size 3 1 (.slice A' n c') n (iv l) ∧ Below w.heap.size w w' := by
  subst hn
  obtain ⟨i0, hi0, hz0, hz1, hz2⟩ := info_parts int_info
  have hr := (hs.alloc (.cells #[] 3)).reads
  rw [iv_length] at hr
  have ho := World.ownsRow_made (e := 3) (size := 1) w #[] 0 (Nat.le_refl _) (by simp [maxLen]) rfl
  obtain ⟨b, off, rfl, _⟩ := hs.int h0
  have hnil : ∀ W, (binOp .eql 22 (.slice (some ⟨b, off, none⟩) l.length c) (.slice none 0 0)).run Try.prog W = .ok (.bool false) W := fun W => by
    unfold binOp
    simp only [Sem.run_bind, run_equal_slice_nil (w := W) 22 3 (some ⟨b, off, none⟩) l.length c Try.underlying22]
    rfl
  go_enter Try.func21, Try.ntmps21
  go_wp2_with (at_builtin
               refine wpList_append_any _ rfl (.tmp 5) (.tmp 6) _ rfl w.heap.size 3 i0 _ 1 8 Try.underlying22 hi0 hz0 hz1 hz2 rfl (by omega) _ 0 [] rfl
                 ho _ (some ⟨b, off, none⟩) l.length c (iv l) rfl hr (iv_one l) (by simp only [maxLen]; omega) (by omega) (by simp) ?_
               intro v1 w1 hown1 hg1 hat1)
  go_ret
  simp only [Nat.zero_add, List.nil_append] at hown1
  obtain ⟨A', c', rfl⟩ := own_form hown1
  refine ⟨A', c', rfl, hown1, ((Below.refl _ w).alloc (Nat.le_refl _) _).grown hg1 (by simp) (fun k hk => ?_)⟩
  cases hk
  exact Nat.le_refl _
set_option maxRecDepth 100000 in
set_option maxHeartbeats 4000000 in
theorem checkReg_sy (top : Nat) (A1 A2 : Option Addr) (m c1 c2 : Nat) (T B : List Int) (w : World) (hm : T.length = m) (hs1 : Sl w A1 (iv T)) (hs2 : Sl w A2 (iv B)) (hr : RgOk top T B) :
    Calls Try.prog 19 #[.agg (rgA ((top : Int) + 1) A1 A2 m (top + 1) c1 c2)] w fun e w' => e = .returned (.int .i64 0) ∧ Below w.heap.size w w' := by
  have HS1 := hide (stay_sl hs1)
  have HS2 := hide (stay_sl hs2)
  have HAB := hide (fun W (h : Sl W A2 (iv B)) => areBits_sy A2 c2 (top + 1) B W hr.len h (by have := hr.hi; omega) (by
    rw [List.all_eq_true]; intro x hx
    obtain ⟨i, hi, rfl⟩ := List.getElem_of_mem hx
    have := hr.bit i
    rw [List.getElem?_eq_getElem hi] at this
    have h2 : B[i] = 0 ∨ B[i] = 1 := this
    unfold bitB; simp; omega))
  have HTP := hide hr.tap
  have HRI := hide hr.rise
  have HZ := hide hr.zero
  have HM := hide hm
  have ht1 := hr.lo
  have ht2 := hr.hi
  have hfew := hr.few
  have hne := hr.nonempty
  rw [hm] at hfew hne
  have HU := hide (fun e W => unless_any true e W)
  have HW1 := hide (fun W => within_sy ((top : Int) + 1) 2 10 W)
  rw [show withinB ((top : Int) + 1) 2 10 = true by rw [withinB_iff]; omega] at HW1
  unfold rgA
  clear hs1 hs2 hr hm
  have q0 : decide (0 < (m : Int)) = true := by rw [decide_eq_true_iff]; omega
  have i1 : IntKind.i64.wrap ((top : Int) + 1 - 1) = (top : Int) := by rw [Int.add_sub_cancel]; exact IntWalk.i64_in _ (by omega)
  have HX := hide (show Stay (w.alloc (.cells #[.int .i64 ((top : Int) + 1), .slice A1 m c1, .slice A2 (top + 1) c2] 24)) (fun W => Blk W w.heap.size 24 #[.int .i64 ((top : Int) + 1), .slice A1 m c1, .slice A2 (top + 1) c2] ∧ Below w.heap.size w W) from
    ((stay_new w 24 #[.int .i64 ((top : Int) + 1), .slice A1 m c1, .slice A2 (top + 1) c2]).and (stay_below (by go_grown))))
  go_enter Try.func19, Try.ntmps19
  go_wp2
  obtain ⟨v, hv⟩ : ∃ W, w.alloc (.cells #[.int .i64 ((top : Int) + 1), .slice A1 m c1, .slice A2 (top + 1) c2] 24) = W := ⟨_, rfl⟩
  rw [hv] at HX ⊢
  clear hv
  have HH := hide (show Below v.heap.size v v.drew from below_drewN (Below.refl _ _) 1)
  refine wp_region_held_drew (S := fun w' => Below v.heap.size v w') (by kernel_rfl) HH.out (fun hHeld => ?_)
  refine take_at (i := 0) 8 (v := .pointer (some ⟨w.heap.size, 0, none⟩)) rfl rfl (by kernel_rfl) (by kernel_rfl) (by kernel_rfl) (fun _ _ _ h => h) (Or.inl ⟨by rfl, by intro w hSw; go_simp⟩) (by assumption) ?_
  try simp only [Act.put, List.setIfInBounds_toArray, List.set_cons_zero, List.set_cons_succ]
  refine take_at (i := 1) 9 (v := .int .i64 ((top : Int) + 1)) rfl rfl (by kernel_rfl) (by kernel_rfl) (by kernel_rfl) (fun _ _ _ h => h) (Or.inl ⟨by rfl, by intro w1 hSw; have q := ((HX.out w1 hSw).1).cell 0; go_simp⟩) (by assumption) ?_
  try simp only [Act.put, List.setIfInBounds_toArray, List.set_cons_zero, List.set_cons_succ]
  refine take_at (i := 4) 12 (v := .pointer (some ⟨w.heap.size, 1, none⟩)) rfl rfl (by kernel_rfl) (by kernel_rfl) (by kernel_rfl) (fun _ _ _ h => h) (Or.inl ⟨by rfl, by intro w hSw; go_simp⟩) (by assumption) ?_
  try simp only [Act.put, List.setIfInBounds_toArray, List.set_cons_zero, List.set_cons_succ]
  refine take_at (i := 5) 13 (v := .slice A1 m c1) rfl rfl (by kernel_rfl) (by kernel_rfl) (by kernel_rfl) (fun _ _ _ h => h) (Or.inl ⟨by rfl, by intro w1 hSw; have q := ((HX.out w1 hSw).1).cell 1; go_simp⟩) (by assumption) ?_
  try simp only [Act.put, List.setIfInBounds_toArray, List.set_cons_zero, List.set_cons_succ]
  refine take_at (i := 6) 14 (v := .int .i64 (m : Int)) rfl rfl (by kernel_rfl) (by kernel_rfl) (by kernel_rfl) (fun _ _ _ h => h) (Or.inl ⟨by rfl, by intro w hSw; go_simp⟩) (by assumption) ?_
  try simp only [Act.put, List.setIfInBounds_toArray, List.set_cons_zero, List.set_cons_succ]
  refine take_at (i := 7) 15 (v := .bool true) rfl rfl (by kernel_rfl) (by kernel_rfl) (by kernel_rfl) (fun _ _ _ h => h) (Or.inl ⟨by rfl, by intro w hSw; go_simp⟩) (by assumption) ?_
  try simp only [Act.put, List.setIfInBounds_toArray, List.set_cons_zero, List.set_cons_succ]
  obtain ⟨v0, hv0⟩ : ∃ W, v.drew = W := ⟨_, rfl⟩
  rw [hv0] at HH hHeld ⊢
  clear hv0
  refine wpAnyH_ready (rs := [2]) (by kernel_rfl) (by simp) ?_
  refine AllReadyH.cons rfl (fun K hK => ?_) AllReadyH.nil
  go_simp
  refine (HW1.out _).mono ?_
  rintro e w5 ⟨rfl, rfl⟩
  simp only []
  refine hK.out _ _ HH.out (fun hHeld => ?_)
  clear hK K
  try simp only [Act.put, List.setIfInBounds_toArray, List.set_cons_zero, List.set_cons_succ]
  refine wpAnyH_ready (rs := [3]) (by kernel_rfl) (by simp) ?_
  refine AllReadyH.cons rfl (fun K hK => ?_) AllReadyH.nil
  go_simp
  refine (HU.out _ _).mono ?_
  rintro e w5 ⟨rfl, rfl⟩
  simp only [unlessE, if_true]
  refine hK.out _ _ HH.out (fun hHeld => ?_)
  clear hK K
  try simp only [Act.put, List.setIfInBounds_toArray, List.set_cons_zero, List.set_cons_succ]
  refine wpAnyH_ready (rs := [8]) (by kernel_rfl) (by simp) ?_
  refine AllReadyH.cons rfl (fun K hK => ?_) AllReadyH.nil
  go_simp
  refine (HU.out _ _).mono ?_
  rintro e w5 ⟨rfl, rfl⟩
  simp only [unlessE, if_true]
  refine hK.out _ _ HH.out (fun hHeld => ?_)
  clear hK K
  try simp only [Act.put, List.setIfInBounds_toArray, List.set_cons_zero, List.set_cons_succ]
  refine wpAnyH_ready (rs := [9]) (by kernel_rfl) (by simp) ?_
  refine AllReadyH.cons rfl (fun K hK => ?_) AllReadyH.nil
  go_simp
  replace HH := hide (HH.out.alloc HH.out.size (.cells #[.int .i64 0, .int .i64 0] 28))
  refine hK.out _ _ HH.out (fun hHeld => ?_)
  clear hK K
  try simp only [Act.put, List.setIfInBounds_toArray, List.set_cons_zero, List.set_cons_succ]
  refine wpAnyH_ready (rs := [10]) (by kernel_rfl) (by simp) ?_
  refine AllReadyH.cons rfl (fun K hK => ?_) AllReadyH.nil
  go_simp
  refine (first2z _ _ rfl).mono ?_
  rintro e w5 ⟨rfl, rfl⟩
  simp only []
  refine hK.out _ _ HH.out (fun hHeld => ?_)
  clear hK K
  try simp only [Act.put, List.setIfInBounds_toArray, List.set_cons_zero, List.set_cons_succ]
  refine take_at (i := 11) 3 (v := .int .i64 0) rfl rfl (by kernel_rfl) (by kernel_rfl) (by kernel_rfl) (fun _ _ _ h => h) (Or.inl ⟨by rfl, by intro w hSw; go_simp⟩) (by assumption) ?_
  try simp only [Act.put, List.setIfInBounds_toArray, List.set_cons_zero, List.set_cons_succ]
  refine wpAnyH_done (by kernel_rfl) ?_ _
  obtain ⟨v1, hv1⟩ : ∃ W, v0.alloc (.cells #[.int .i64 0, .int .i64 0] 28) = W := ⟨_, rfl⟩
  rw [hv1] at HH ⊢
  clear hv1
  have k0 := (HX.out v1 HH.out).1.cell 0
  have k1 := (HX.out v1 HH.out).1.cell 1
  go_wp2
  clear k0 k1
  go_loopw [4, 25] (fun last i wr => ∃ k : Nat, k ≤ m ∧ i = .int .i64 k ∧ last = .int .i64 (lst T k) ∧ Below v.heap.size v wr) (fun _ i _ => m - (intOf i).toNat)
  case atStart => exact ⟨0, Nat.zero_le _, rfl, rfl, HH.out⟩
  case round =>
    clear HH
    obtain ⟨k, hk, rfl, rfl, hbel⟩ := hrel
    have HXX := hide (HX.out wr hbel)
    have HB := hide (stay_below hbel)
    clear hbel
    have c0 := HXX.out.1.cell 0
    have c1' := HXX.out.1.cell 1
    have c2' := HXX.out.1.cell 2
    by_cases hlt : k < m
    · have hlt' : k < T.length := by rw [HM.out]; exact hlt
      obtain ⟨b1, o1, rfl, d1⟩ := (HS1.out wr HXX.out.2).int hlt'
      have htp := HTP.out k hlt'
      have hri := HRI.out k hlt'
      have hls : lst T (k + 1) = T[k]?.getD 0 := by unfold lst; rw [if_neg (by omega), Nat.add_sub_cancel]
      have hlo : -1 ≤ lst T k := by
        unfold lst; split
        · omega
        · have := (HTP.out (k - 1) (by omega)).1; omega
      rw [List.getElem?_eq_getElem hlt'] at htp hri hls
      obtain ⟨t, ht⟩ : ∃ t, T[k] = t := ⟨_, rfl⟩
      rw [show (some T[k]).getD 0 = T[k] from rfl, ht] at htp hri hls
      rw [ht] at d1
      obtain ⟨u, hu⟩ : ∃ t, lst T k = t := ⟨_, rfl⟩
      rw [hu] at hri hlo
      rw [hu]
      have HLS := hide hls
      have HW2 := hide (fun W => within_sy t 0 (top : Int) W)
      rw [show withinB t 0 (top : Int) = true by rw [withinB_iff]; omega] at HW2
      have q1 : decide (u < t) = true := by rw [decide_eq_true_iff]; omega
      have g1 : (0 : Int) ≤ (k : Int) := by omega
      have g2 : (k : Int) < (m : Int) := by omega
      clear ht hu hls htp hri HTP HRI hlt' HZ HAB HW1
      go_wp2_with (first
        | (go_at_call 25; go_must (refine (HW2.out _).mono ?_; rintro e w1 ⟨rfl, rfl⟩; simp only []))
        | (go_at_call 24; go_must (refine (HU.out _ _).mono ?_; rintro e w1 ⟨rfl, rfl⟩; simp only [unlessE, if_true]))
        | (go_at_call 18; go_must (refine (first2z _ _ rfl).mono ?_; rintro e w1 ⟨rfl, rfl⟩; simp only [])))
      go_roundw
      case rel => exact ⟨k + 1, by omega, by go_num, by rw [HLS.out], HB.out.now.alloc HB.out.now.size _⟩
      case measure => simp [intOf]; omega
    · obtain rfl : k = m := by omega
      have h0' : 0 < T.length := by rw [HM.out]; exact hne
      obtain ⟨b1, o1, rfl, d1⟩ := (HS1.out wr HXX.out.2).int h0'
      have hz : T[0] = 0 := by have := HZ.out; rw [List.getElem?_eq_getElem h0'] at this; exact this
      rw [hz] at d1
      have d2 : wr.cell? ⟨b1, o1, none⟩ = some (.int .i64 0) := d1
      have HYC := hide (fun W (h : Below wr.heap.size wr W) => (h.cell (p := ⟨b1, o1, none⟩) (lt_of_cell d2)).trans d2)
      have HXW := hide (stay_blk HXX.out.1)
      have HAW := hide (fun W (h : Below wr.heap.size wr W) => HAB.out W (HS2.out W (Below.step HXX.out.2 h)))
      have p1 : (0 : Int) < (k : Int) := by omega
      clear d1 d2 hz h0' HZ HTP HRI HW1 HAB
      obtain ⟨L, hL⟩ : ∃ L, lst T k = L := ⟨_, rfl⟩
      rw [hL]
      clear hL
      go_wp2
      clear c0 c1' c2'
      have HH := hide (show Below wr.heap.size wr wr.drew from below_drewN (Below.refl _ _) 1)
      refine wp_region_held_drew (S := fun w' => Below wr.heap.size wr w') (by kernel_rfl) HH.out (fun hHeld => ?_)
      refine take_at (i := 0) 46 (v := .pointer (some ⟨w.heap.size, 1, none⟩)) rfl rfl (by kernel_rfl) (by kernel_rfl) (by kernel_rfl) (fun _ _ _ h => h) (Or.inl ⟨by rfl, by intro w hSw; go_simp⟩) (by assumption) ?_
      try simp only [Act.put, List.setIfInBounds_toArray, List.set_cons_zero, List.set_cons_succ]
      refine take_at (i := 1) 47 (v := .slice (some ⟨b1, o1, none⟩) k c1) rfl rfl (by kernel_rfl) (by kernel_rfl) (by kernel_rfl) (fun _ _ _ h => h) (Or.inl ⟨by rfl, by intro w1 hSw; have q := (HXW.out w1 hSw).cell 1; go_simp⟩) (by assumption) ?_
      try simp only [Act.put, List.setIfInBounds_toArray, List.set_cons_zero, List.set_cons_succ]
      refine take_at (i := 2) 48 (v := .pointer (some ⟨b1, o1, none⟩)) rfl rfl (by kernel_rfl) (by kernel_rfl) (by kernel_rfl) (fun _ _ _ h => h) (Or.inl ⟨by rfl, by intro w hSw; go_simp⟩) (by assumption) ?_
      try simp only [Act.put, List.setIfInBounds_toArray, List.set_cons_zero, List.set_cons_succ]
      refine take_at (i := 3) 49 (v := .int .i64 0) rfl rfl (by kernel_rfl) (by kernel_rfl) (by kernel_rfl) (fun _ _ _ h => h) (Or.inl ⟨by rfl, by intro w1 hSw; have q := HYC.out w1 hSw; go_simp⟩) (by assumption) ?_
      try simp only [Act.put, List.setIfInBounds_toArray, List.set_cons_zero, List.set_cons_succ]
      refine take_at (i := 4) 50 (v := .bool true) rfl rfl (by kernel_rfl) (by kernel_rfl) (by kernel_rfl) (fun _ _ _ h => h) (Or.inl ⟨by rfl, by intro w hSw; go_simp⟩) (by assumption) ?_
      try simp only [Act.put, List.setIfInBounds_toArray, List.set_cons_zero, List.set_cons_succ]
      refine take_at (i := 6) 52 (v := .pointer (some ⟨w.heap.size, 2, none⟩)) rfl rfl (by kernel_rfl) (by kernel_rfl) (by kernel_rfl) (fun _ _ _ h => h) (Or.inl ⟨by rfl, by intro w hSw; go_simp⟩) (by assumption) ?_
      try simp only [Act.put, List.setIfInBounds_toArray, List.set_cons_zero, List.set_cons_succ]
      refine take_at (i := 7) 53 (v := .slice A2 (top + 1) c2) rfl rfl (by kernel_rfl) (by kernel_rfl) (by kernel_rfl) (fun _ _ _ h => h) (Or.inl ⟨by rfl, by intro w1 hSw; have q := (HXW.out w1 hSw).cell 2; go_simp⟩) (by assumption) ?_
      try simp only [Act.put, List.setIfInBounds_toArray, List.set_cons_zero, List.set_cons_succ]
      refine take_at (i := 8) 54 (v := .int .i64 ((top : Int) + 1)) rfl rfl (by kernel_rfl) (by kernel_rfl) (by kernel_rfl) (fun _ _ _ h => h) (Or.inl ⟨by rfl, by intro w hSw; go_simp⟩) (by assumption) ?_
      try simp only [Act.put, List.setIfInBounds_toArray, List.set_cons_zero, List.set_cons_succ]
      refine take_at (i := 9) 55 (v := .pointer (some ⟨w.heap.size, 0, none⟩)) rfl rfl (by kernel_rfl) (by kernel_rfl) (by kernel_rfl) (fun _ _ _ h => h) (Or.inl ⟨by rfl, by intro w hSw; go_simp⟩) (by assumption) ?_
      try simp only [Act.put, List.setIfInBounds_toArray, List.set_cons_zero, List.set_cons_succ]
      refine take_at (i := 10) 56 (v := .int .i64 ((top : Int) + 1)) rfl rfl (by kernel_rfl) (by kernel_rfl) (by kernel_rfl) (fun _ _ _ h => h) (Or.inl ⟨by rfl, by intro w1 hSw; have q := (HXW.out w1 hSw).cell 0; go_simp⟩) (by assumption) ?_
      try simp only [Act.put, List.setIfInBounds_toArray, List.set_cons_zero, List.set_cons_succ]
      refine take_at (i := 11) 57 (v := .bool true) rfl rfl (by kernel_rfl) (by kernel_rfl) (by kernel_rfl) (fun _ _ _ h => h) (Or.inl ⟨by rfl, by intro w hSw; go_simp⟩) (by assumption) ?_
      try simp only [Act.put, List.setIfInBounds_toArray, List.set_cons_zero, List.set_cons_succ]
      refine take_at (i := 13) 59 (v := .pointer (some ⟨w.heap.size, 2, none⟩)) rfl rfl (by kernel_rfl) (by kernel_rfl) (by kernel_rfl) (fun _ _ _ h => h) (Or.inl ⟨by rfl, by intro w hSw; go_simp⟩) (by assumption) ?_
      try simp only [Act.put, List.setIfInBounds_toArray, List.set_cons_zero, List.set_cons_succ]
      refine take_at (i := 14) 60 (v := .slice A2 (top + 1) c2) rfl rfl (by kernel_rfl) (by kernel_rfl) (by kernel_rfl) (fun _ _ _ h => h) (Or.inl ⟨by rfl, by intro w1 hSw; have q := (HXW.out w1 hSw).cell 2; go_simp⟩) (by assumption) ?_
      try simp only [Act.put, List.setIfInBounds_toArray, List.set_cons_zero, List.set_cons_succ]
      obtain ⟨v0, hv0⟩ : ∃ W, wr.drew = W := ⟨_, rfl⟩
      rw [hv0] at HH hHeld ⊢
      clear hv0
      refine wpAnyH_ready (rs := [5]) (by kernel_rfl) (by simp) ?_
      refine AllReadyH.cons rfl (fun K hK => ?_) AllReadyH.nil
      go_simp
      refine (HU.out _ _).mono ?_
      rintro e w5 ⟨rfl, rfl⟩
      simp only [unlessE, if_true]
      refine hK.out _ _ HH.out (fun hHeld => ?_)
      clear hK K
      try simp only [Act.put, List.setIfInBounds_toArray, List.set_cons_zero, List.set_cons_succ]
      refine wpAnyH_ready (rs := [12]) (by kernel_rfl) (by simp) ?_
      refine AllReadyH.cons rfl (fun K hK => ?_) AllReadyH.nil
      go_simp
      refine (HU.out _ _).mono ?_
      rintro e w5 ⟨rfl, rfl⟩
      simp only [unlessE, if_true]
      refine hK.out _ _ HH.out (fun hHeld => ?_)
      clear hK K
      try simp only [Act.put, List.setIfInBounds_toArray, List.set_cons_zero, List.set_cons_succ]
      refine wpAnyH_ready (rs := [15]) (by kernel_rfl) (by simp) ?_
      refine AllReadyH.cons rfl (fun K hK => ?_) AllReadyH.nil
      go_simp
      refine (HAW.out _ HH.out).mono ?_
      rintro e w5 ⟨rfl, rfl⟩
      simp only []
      refine hK.out _ _ HH.out (fun hHeld => ?_)
      clear hK K
      try simp only [Act.put, List.setIfInBounds_toArray, List.set_cons_zero, List.set_cons_succ]
      refine wpAnyH_ready (rs := [16]) (by kernel_rfl) (by simp) ?_
      refine AllReadyH.cons rfl (fun K hK => ?_) AllReadyH.nil
      go_simp
      refine (HU.out _ _).mono ?_
      rintro e w5 ⟨rfl, rfl⟩
      simp only [unlessE, if_true]
      refine hK.out _ _ HH.out (fun hHeld => ?_)
      clear hK K
      try simp only [Act.put, List.setIfInBounds_toArray, List.set_cons_zero, List.set_cons_succ]
      refine wpAnyH_ready (rs := [17]) (by kernel_rfl) (by simp) ?_
      refine AllReadyH.cons rfl (fun K hK => ?_) AllReadyH.nil
      go_simp
      replace HH := hide (HH.out.alloc HH.out.size (.cells #[.int .i64 0, .int .i64 0, .int .i64 0] 28))
      refine hK.out _ _ HH.out (fun hHeld => ?_)
      clear hK K
      try simp only [Act.put, List.setIfInBounds_toArray, List.set_cons_zero, List.set_cons_succ]
      refine wpAnyH_ready (rs := [18]) (by kernel_rfl) (by simp) ?_
      refine AllReadyH.cons rfl (fun K hK => ?_) AllReadyH.nil
      go_simp
      refine (first3z _ _ rfl).mono ?_
      rintro e w5 ⟨rfl, rfl⟩
      simp only []
      refine hK.out _ _ HH.out (fun hHeld => ?_)
      clear hK K
      try simp only [Act.put, List.setIfInBounds_toArray, List.set_cons_zero, List.set_cons_succ]
      refine take_at (i := 19) 2 (v := .int .i64 0) rfl rfl (by kernel_rfl) (by kernel_rfl) (by kernel_rfl) (fun _ _ _ h => h) (Or.inl ⟨by rfl, by intro w hSw; go_simp⟩) (by assumption) ?_
      try simp only [Act.put, List.setIfInBounds_toArray, List.set_cons_zero, List.set_cons_succ]
      refine wpAnyH_done (by kernel_rfl) ?_ _
      go_wp2
      go_ret
      exact ⟨rfl, Below.step HXX.out.2 HH.out⟩
end Go.Proofs.Ytehcmhblppjalaa
