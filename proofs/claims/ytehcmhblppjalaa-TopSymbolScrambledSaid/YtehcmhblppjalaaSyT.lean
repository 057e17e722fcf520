import Derived.Test.YtehcmhblppjalaaSyS
namespace Go.Proofs.Ytehcmhblppjalaa
open Go.RowKit Go.WideShapes Go.ChangeShapes

/-! soft bits of four squares (program) -/
/-- the number whose two bits the level at this place of -3, -1, 1, 3 stands for -/
def nOf : Nat → Nat
  | 0 => 3
  | 1 => 2
  | 2 => 0
  | _ => 1
theorem nOf_lt (j : Nat) : nOf j < 4 := by unfold nOf; split <;> omega
def bt (k j : Nat) : Nat := if k = 0 then nOf j / 2 else nOf j % 2
theorem bt_le (k j : Nat) : bt k j = 0 ∨ bt k j = 1 := by have := nOf_lt j; unfold bt; split <;> omega
/-- the squares met so far whose bit is b -/
def sel (S : List Int) (k b : Nat) : Nat → List Int
  | 0 => []
  | j + 1 => if bt k j = b then sel S k b j ++ [S[j]?.getD 0] else sel S k b j
theorem lv_list (j : Nat) (h : j < 4) : ([-3, -1, 1, 3] : List Int)[j] = lv2 (nOf j) := by
  rcases (by omega : j = 0 ∨ j = 1 ∨ j = 2 ∨ j = 3) with rfl | rfl | rfl | rfl <;> rfl
def Apt (u v : Value) : Prop := ∀ g, u.ownBlock = some g → v.ownBlock = some g → False
theorem Apt.symm {u v : Value} (h : Apt u v) : Apt v u := fun g a b => h g b a
theorem Apt.or {u v : Value} (h : Apt u v) : u.ownBlock = none ∨ u.ownBlock ≠ v.ownBlock := by
  cases hu : u.ownBlock with
  | none => exact .inl rfl
  | some g => exact .inr fun e => h g hu e.symm
/-- the array of the two lists, j squares in -/
def Two (W : World) (S : List Int) (gA k j : Nat) : Prop :=
  ∃ C0 n0 q0 C1 n1 q1, Blk W gA 75 #[.slice C0 n0 q0, .slice C1 n1 q1] ∧ n0 ≤ j ∧ n1 ≤ j ∧ W.ownsRow gA 3 1 (.slice C0 n0 q0) n0 (iv (sel S k 0 j)) ∧ W.ownsRow gA 3 1 (.slice C1 n1 q1) n1 (iv (sel S k 1 j)) ∧ Apt (.slice C0 n0 q0) (.slice C1 n1 q1)
theorem Two.bel {W W' : World} {S : List Int} {gA k j : Nat} (h : Two W S gA k j) (hb : Below W.heap.size W W') : Two W' S gA k j := by
  obtain ⟨C0, n0, q0, C1, n1, q1, h1, h2, h3, h4, h5, h6⟩ := h
  exact ⟨C0, n0, q0, C1, n1, q1, h1.below hb h1.lt, h2, h3, own_bel h4 hb, own_bel h5 hb, h6⟩
theorem kept_other {W w6 : World} {gA n0 : Nat} {v0 v1 v1' : Value} {x0 : List Value} {u : Value} (h0 : W.ownsRow gA 3 1 v0 n0 x0) (hne : Apt v0 v1)
    (hg : (W.alloc (.cells #[u] 3)).grownBy w6 v1.ownBlock) (hor : v1'.ownBlock = v1.ownBlock ∨ v1'.ownBlock = some (W.alloc (.cells #[u] 3)).heap.size) :
    w6.ownsRow gA 3 1 v0 n0 x0 ∧ Apt v0 v1' := by
  have ha := h0.alloc (.cells #[u] 3)
  refine ⟨ha.kept hg hne.or, fun g h1 h2 => ?_⟩
  rcases hor with q | q
  · rw [q] at h2; exact hne g h1 h2
  · rw [q] at h2
    have := (ha.lt _ h1).2
    injection h2 with h2
    omega
theorem two_step0 {W w6 : World} {S : List Int} {gA k j n0 n1 q0 q1 q' : Nat} {C0 C1 C' : Option Addr} {s : Int} (hA : Blk W gA 75 #[.slice C0 n0 q0, .slice C1 n1 q1]) (hn0 : n0 ≤ j) (hn1 : n1 ≤ j)
    (h0 : W.ownsRow gA 3 1 (.slice C0 n0 q0) n0 (iv (sel S k 0 j))) (h1 : W.ownsRow gA 3 1 (.slice C1 n1 q1) n1 (iv (sel S k 1 j)))
    (hne : Apt (.slice C0 n0 q0) (.slice C1 n1 q1)) (hs : S[j]?.getD 0 = s) (hb : bt k j = 0)
    (hg : (W.alloc (.cells #[.int .i64 s] 3)).grownBy w6 (Value.slice C0 n0 q0).ownBlock) (ho : w6.ownsRow gA 3 1 (.slice C' (n0 + 1) q') (n0 + 1) (iv (sel S k 0 j) ++ [.int .i64 s]))
    (hor : (Value.slice C' (n0 + 1) q').ownBlock = (Value.slice C0 n0 q0).ownBlock ∨ (Value.slice C' (n0 + 1) q').ownBlock = some (W.alloc (.cells #[.int .i64 s] 3)).heap.size) :
    Two (w6.setCell ⟨gA, 0, none⟩ (.slice C' (n0 + 1) q')) S gA k (j + 1) := by
  have hAa := hA.alloc (.cells #[.int .i64 s] 3)
  have hA6 := hAa.grown hg (fun e => own_blk_ne (h0.alloc _) hAa (by decide) e.symm)
  obtain ⟨h1', hne'⟩ := kept_other h1 hne.symm hg hor
  refine ⟨C', n0 + 1, q', C1, n1, q1, hA6.set_ 0 _, by omega, by omega, ?_, ?_, hne'.symm⟩
  · rw [show sel S k 0 (j + 1) = sel S k 0 j ++ [S[j]?.getD 0] from if_pos hb, iv_append, hs]
    exact own_far ho hA6 (by decide)
  · rw [show sel S k 1 (j + 1) = sel S k 1 j from if_neg (by omega)]
    exact own_far h1' hA6 (by decide)
theorem two_step1 {W w6 : World} {S : List Int} {gA k j n0 n1 q0 q1 q' : Nat} {C0 C1 C' : Option Addr} {s : Int} (hA : Blk W gA 75 #[.slice C0 n0 q0, .slice C1 n1 q1]) (hn0 : n0 ≤ j) (hn1 : n1 ≤ j)
    (h0 : W.ownsRow gA 3 1 (.slice C0 n0 q0) n0 (iv (sel S k 0 j))) (h1 : W.ownsRow gA 3 1 (.slice C1 n1 q1) n1 (iv (sel S k 1 j)))
    (hne : Apt (.slice C0 n0 q0) (.slice C1 n1 q1)) (hs : S[j]?.getD 0 = s) (hb : bt k j = 1)
    (hg : (W.alloc (.cells #[.int .i64 s] 3)).grownBy w6 (Value.slice C1 n1 q1).ownBlock) (ho : w6.ownsRow gA 3 1 (.slice C' (n1 + 1) q') (n1 + 1) (iv (sel S k 1 j) ++ [.int .i64 s]))
    (hor : (Value.slice C' (n1 + 1) q').ownBlock = (Value.slice C1 n1 q1).ownBlock ∨ (Value.slice C' (n1 + 1) q').ownBlock = some (W.alloc (.cells #[.int .i64 s] 3)).heap.size) :
    Two (w6.setCell ⟨gA, 1, none⟩ (.slice C' (n1 + 1) q')) S gA k (j + 1) := by
  have hAa := hA.alloc (.cells #[.int .i64 s] 3)
  have hA6 := hAa.grown hg (fun e => own_blk_ne (h1.alloc _) hAa (by decide) e.symm)
  obtain ⟨h0', hne'⟩ := kept_other h0 hne hg hor
  refine ⟨C0, n0, q0, C', n1 + 1, q', hA6.set_ 1 _, by omega, by omega, ?_, ?_, hne'⟩
  · rw [show sel S k 0 (j + 1) = sel S k 0 j from if_neg (by omega)]
    exact own_far h0' hA6 (by decide)
  · rw [show sel S k 1 (j + 1) = sel S k 1 j ++ [S[j]?.getD 0] from if_pos hb, iv_append, hs]
    exact own_far ho hA6 (by decide)
set_option maxRecDepth 100000 in
set_option maxHeartbeats 8000000 in
theorem soft4 (A1 A2 : Option Addr) (c1 c2 : Nat) (S : List Int) (w : World) (hS : S.length = 4) (hb : ∀ s ∈ S, 0 ≤ s ∧ s ≤ 1000000) (hs1 : Sl w A1 (iv [-3, -1, 1, 3])) (hs2 : Sl w A2 (iv S)) :
    Calls Try.prog 34 #[.slice A1 4 c1, .slice A2 4 c2] w fun e w' => ∃ C q, e = .returned (.slice C 2 q) ∧
      w'.ownsRow w.heap.size 3 1 (.slice C 2 q) 2 (iv [least (S[0]?.getD 0) (S[1]?.getD 0) - least (S[2]?.getD 0) (S[3]?.getD 0), least (S[0]?.getD 0) (S[3]?.getD 0) - least (S[1]?.getD 0) (S[2]?.getD 0)]) ∧ Below w.heap.size w w' := by
  obtain ⟨i0, hi0, hz0, hz1, hz2⟩ := info_parts int_info
  have HS1 := hide (stay_sl hs1)
  have HS2 := hide (stay_sl hs2)
  have HL := hide hS
  have HR0 := hide (show w.ownsRow w.heap.size 3 1 (.slice none 0 0) 0 [] from World.ownsRow_nil _ _ _ _)
  have HO := hide ofLevel2
  have HBD := hide (show ∀ i, i < 4 → 0 ≤ S[i]?.getD 0 ∧ S[i]?.getD 0 ≤ 1000000 from fun i hi => by
    rw [List.getElem?_eq_getElem (by omega)]
    exact hb _ (List.getElem_mem _))
  have HROW := HR0
  obtain ⟨r0, hr0⟩ : ∃ r, least (S[0]?.getD 0) (S[1]?.getD 0) - least (S[2]?.getD 0) (S[3]?.getD 0) = r := ⟨_, rfl⟩
  obtain ⟨r1, hr1⟩ : ∃ r, least (S[0]?.getD 0) (S[3]?.getD 0) - least (S[1]?.getD 0) (S[2]?.getD 0) = r := ⟨_, rfl⟩
  rw [hr0, hr1]
  have HRR0 := hide hr0
  have HRR1 := hide hr1
  clear hr0 hr1
  have HBV := hide (Below.refl w.heap.size w)
  clear hs1 hs2 hS hb
  go_enter Try.func34, Try.ntmps34
  go_wp2_with (first | (go_at_call 42; refine (countOf4 _ _ _).mono ?_; rintro e w1 ⟨rfl, hw1⟩; obtain rfl := hw1.symm))
  obtain ⟨v, hv⟩ : ∃ v, w = v := ⟨_, rfl⟩
  subst hv
  refine wp_loop_rounds 3 ?_
  rw [rounds_succ]
  go_wp2
  go_loopw [20] (fun i wr => ∃ j : Nat, j ≤ 4 ∧ i = .int .i64 j ∧ Two wr S w.heap.size 0 j ∧ Below w.heap.size w wr) (fun i _ => 4 - (intOf i).toNat)
  case atStart => exact ⟨0, Nat.zero_le _, rfl, ⟨none, 0, 0, none, 0, 0, Blk.new w _ _, Nat.le_refl _, Nat.le_refl _, World.ownsRow_nil _ _ _ _, World.ownsRow_nil _ _ _ _, fun _ h _ => by cases h⟩, by go_grown⟩
  case round =>
    obtain ⟨j, hj, rfl, htwo, hbel⟩ := hrel
    have HT := hide htwo
    have HBE := hide hbel
    clear htwo hbel
    by_cases hlt : j < 4
    · obtain ⟨b1, o1, hA1, d1⟩ := (HS1.out wr (Below.step HBV.out HBE.out)).int (xs := [-3, -1, 1, 3]) hlt
      subst hA1
      rw [lv_list j hlt] at d1
      have hjl : j < S.length := by rw [HL.out]; exact hlt
      obtain ⟨b2, o2, hA2, d2⟩ := (HS2.out w HBV.out).int (k := j) hjl
      subst hA2
      obtain ⟨s, hs⟩ : ∃ s, S[j]?.getD 0 = s := ⟨_, rfl⟩
      rw [show S[j] = s by rw [← hs, List.getElem?_eq_getElem hjl]; rfl] at d2
      have HSJ := hide hs
      have HD2 := hide (fun W (h : Below w.heap.size w W) => show W.cell? ⟨b2, o2 + j, none⟩ = some (.int .i64 s) from (h.cell (lt_of_cell d2)).trans d2)
      have HOJ := hide (fun W => HO.out (nOf j) W (nOf_lt j))
      obtain ⟨l, hl⟩ : ∃ l, lv2 (nOf j) = l := ⟨_, rfl⟩
      have hbt := bt_le 0 j
      have hbe : bt 0 j = nOf j / 2 := rfl
      obtain ⟨b, hb⟩ : ∃ b, nOf j / 2 = b := ⟨_, rfl⟩
      rw [hl] at d1 HOJ
      rw [hb] at HOJ hbe
      rw [hbe] at hbt
      have HBT := hide hbe
      clear hl hb hbe hs d2 hjl
      go_wp2_with (first | (go_at_call 43; refine (HOJ.out _).mono ?_; rintro e w2 ⟨C5, q5, rfl, ho5, hb5⟩; obtain ⟨g5, rfl, _, hq5, hc5⟩ := own_cells ho5 (by omega); have x5 := hc5 0 _ rfl; have HB2 := hide (Below.step HBE.out hb5); have HT2 := hide (HT.out.bel hb5); clear ho5 hb5 hc5 HT))
      clear x5 hq5
      obtain ⟨C0, n0, q0, C1, n1, q1, hA, hn0, hn1, ho0, ho1, hap⟩ := HT2.out
      have HA := hide hA
      have HO0 := hide ho0
      have HO1 := hide ho1
      have HAP := hide hap
      clear hA ho0 ho1 hap HT2 d1 HOJ
      rcases hbt with rfl | rfl
      · have HH0 := hide (show (fun w' => Blk w' w.heap.size 75 #[.slice C0 n0 q0, .slice C1 n1 q1] ∧ Below w.heap.size w w') w2.drew from ⟨HA.out, below_drewN HB2.out 1⟩)
        have hHeld := HH0.out
        refine UpTo.start (z := 11) (S := fun w' => Blk w' w.heap.size 75 #[.slice C0 n0 q0, .slice C1 n1 q1] ∧ Below w.heap.size w w') (by kernel_rfl) ?_
        refine UpTo.take (i := 0) 31 (v := .int .i64 0) rfl rfl (by kernel_rfl) (by kernel_rfl) (by kernel_rfl) (by kernel_rfl) (fun _ _ _ h => h) hHeld (Or.inl ⟨by rfl, by intro w hSw; go_simp⟩) ?_
        try simp only [Act.put, List.setIfInBounds_toArray, List.set_cons_zero, List.set_cons_succ]
        refine UpTo.take (i := 1) 32 (v := .int .i64 0) rfl rfl (by kernel_rfl) (by kernel_rfl) (by kernel_rfl) (by kernel_rfl) (fun _ _ _ h => h) hHeld (Or.inl ⟨by rfl, by intro w hSw; go_simp⟩) ?_
        try simp only [Act.put, List.setIfInBounds_toArray, List.set_cons_zero, List.set_cons_succ]
        refine UpTo.take (i := 2) 33 (v := .pointer (some ⟨w.heap.size, 0, none⟩)) rfl rfl (by kernel_rfl) (by kernel_rfl) (by kernel_rfl) (by kernel_rfl) (fun _ _ _ h => h) hHeld (Or.inl ⟨by rfl, by intro w hSw; go_simp⟩) ?_
        try simp only [Act.put, List.setIfInBounds_toArray, List.set_cons_zero, List.set_cons_succ]
        refine UpTo.take (i := 3) 34 (v := .slice C0 n0 q0) rfl rfl (by kernel_rfl) (by kernel_rfl) (by kernel_rfl) (by kernel_rfl) (fun _ _ _ h => h) hHeld (Or.inl ⟨by rfl, by intro w hSw; have q0 := hSw.1.cell 0; go_simp⟩) ?_
        try simp only [Act.put, List.setIfInBounds_toArray, List.set_cons_zero, List.set_cons_succ]
        refine UpTo.take (i := 4) 35 (v := .slice (some ⟨b2, o2, none⟩) 4 c2) rfl rfl (by kernel_rfl) (by kernel_rfl) (by kernel_rfl) (by kernel_rfl) (fun _ _ _ h => h) hHeld (Or.inl ⟨by rfl, by intro w hSw; go_simp⟩) ?_
        try simp only [Act.put, List.setIfInBounds_toArray, List.set_cons_zero, List.set_cons_succ]
        refine UpTo.take (i := 5) 36 (v := .int .i64 j) rfl rfl (by kernel_rfl) (by kernel_rfl) (by kernel_rfl) (by kernel_rfl) (fun _ _ _ h => h) hHeld (Or.inl ⟨by rfl, by intro w hSw; go_simp⟩) ?_
        try simp only [Act.put, List.setIfInBounds_toArray, List.set_cons_zero, List.set_cons_succ]
        refine UpTo.take (i := 6) 37 (v := .pointer (some ⟨b2, o2 + j, none⟩)) rfl rfl (by kernel_rfl) (by kernel_rfl) (by kernel_rfl) (by kernel_rfl) (fun _ _ _ h => h) hHeld (Or.inl ⟨by rfl, by intro w hSw; go_simp⟩) ?_
        try simp only [Act.put, List.setIfInBounds_toArray, List.set_cons_zero, List.set_cons_succ]
        refine UpTo.take (i := 7) 38 (v := .int .i64 s) rfl rfl (by kernel_rfl) (by kernel_rfl) (by kernel_rfl) (by kernel_rfl) (fun _ _ _ h => h) hHeld (Or.inl ⟨by rfl, by intro w hSw; have q0 := HD2.out w hSw.2; go_simp⟩) ?_
        try simp only [Act.put, List.setIfInBounds_toArray, List.set_cons_zero, List.set_cons_succ]
        replace HO0 := hide (show w2.drew.ownsRow w.heap.size 3 1 (.slice C0 n0 q0) n0 (iv (sel S 0 0 j)) from HO0.out)
        replace HO1 := hide (show w2.drew.ownsRow w.heap.size 3 1 (.slice C1 n1 q1) n1 (iv (sel S 0 1 j)) from HO1.out)
        clear HA HB2
        obtain ⟨w3, hw3⟩ : ∃ W, w2.drew = W := ⟨_, rfl⟩
        rw [hw3] at HH0 hHeld HO0 HO1 ⊢
        clear hw3
        refine UpTo.next (i := 8) (by kernel_rfl) rfl (fun K hK => ?_)
        go_simp
        have HH1 := hide (show (fun w' => Blk w' w.heap.size 75 #[.slice C0 n0 q0, .slice C1 n1 q1] ∧ Below w.heap.size w w') (w3.alloc (.cells #[.int .i64 s] 3)) from ⟨HH0.out.1.alloc _, HH0.out.2.alloc HH0.out.2.size _⟩)
        refine hK.out _ _ (fun _ => HH1.out) ?_
        clear hK K
        try simp only [Act.put, List.setIfInBounds_toArray, List.set_cons_zero, List.set_cons_succ]
        refine UpTo.next (i := 9) (by kernel_rfl) rfl (fun K hK => ?_)
        refine step_append_any _ (by rfl) _ _ 22 (by rfl) w.heap.size 3 i0 _ 1 8 Try.underlying22 hi0 hz0 hz1 hz2 rfl (by omega) _ n0 (iv (sel S 0 0 j)) (by rfl) (HO0.out.alloc _) _ _ 1 1 [.int .i64 s] (by rfl) (reads_one w3 (.int .i64 s) 3) (by simp [Value.oneCell']) (by simp only [maxLen] <;> omega) (by omega) HH1.out.2.size ?_
        intro v6 w6 hown hgr hor
        obtain ⟨C6, q6, rfl⟩ := own_form hown
        have HH6 := hide (show (fun w' => Blk w' w.heap.size 75 #[.slice C0 n0 q0, .slice C1 n1 q1] ∧ Below w.heap.size w w') w6 from ⟨HH1.out.1.grown hgr (fun e => own_blk_ne (HO0.out.alloc _) HH1.out.1 (by decide) e.symm), Below.app HH0.out.2 HO0.out hgr⟩)
        refine hK.out _ _ (fun _ => HH6.out) ?_
        clear hK K
        try simp only [Act.put, List.setIfInBounds_toArray]
        refine UpTo.next (i := 10) (by kernel_rfl) rfl (fun K hK => ?_)
        go_simp
        refine hK.out _ _ (fun _ => HH6.out) ?_
        clear hK K
        try simp only [Act.put, List.setIfInBounds_toArray, List.set_cons_zero, List.set_cons_succ]
        have hc0 := HH6.out.1.cell 0
        have hf0 := HH6.out.1.frozen 0
        refine UpTo.next (i := 11) (by kernel_rfl) rfl (fun K hK => ?_)
        go_simp
        refine hK.out _ _ (fun h => absurd rfl h) ?_
        clear hK K
        refine UpTo.done (by kernel_rfl) ?_ _
        clear hc0 hf0
        have HT2 := hide (two_step0 HH0.out.1 hn0 hn1 HO0.out HO1.out HAP.out HSJ.out HBT.out hgr hown hor)
        have HB7 := hide (HH6.out.2.setCell (p := ⟨w.heap.size, 0, none⟩) (Nat.le_refl _) (.slice C6 (n0 + 1) q6))
        go_wp2
        go_roundw
        case rel => exact ⟨j + 1, by omega, by go_num, HT2.out, HB7.out⟩
        case measure => simp [intOf]; omega
      · have HH0 := hide (show (fun w' => Blk w' w.heap.size 75 #[.slice C0 n0 q0, .slice C1 n1 q1] ∧ Below w.heap.size w w') w2.drew from ⟨HA.out, below_drewN HB2.out 1⟩)
        have hHeld := HH0.out
        refine UpTo.start (z := 11) (S := fun w' => Blk w' w.heap.size 75 #[.slice C0 n0 q0, .slice C1 n1 q1] ∧ Below w.heap.size w w') (by kernel_rfl) ?_
        refine UpTo.take (i := 0) 31 (v := .int .i64 1) rfl rfl (by kernel_rfl) (by kernel_rfl) (by kernel_rfl) (by kernel_rfl) (fun _ _ _ h => h) hHeld (Or.inl ⟨by rfl, by intro w hSw; go_simp⟩) ?_
        try simp only [Act.put, List.setIfInBounds_toArray, List.set_cons_zero, List.set_cons_succ]
        refine UpTo.take (i := 1) 32 (v := .int .i64 1) rfl rfl (by kernel_rfl) (by kernel_rfl) (by kernel_rfl) (by kernel_rfl) (fun _ _ _ h => h) hHeld (Or.inl ⟨by rfl, by intro w hSw; go_simp⟩) ?_
        try simp only [Act.put, List.setIfInBounds_toArray, List.set_cons_zero, List.set_cons_succ]
        refine UpTo.take (i := 2) 33 (v := .pointer (some ⟨w.heap.size, 1, none⟩)) rfl rfl (by kernel_rfl) (by kernel_rfl) (by kernel_rfl) (by kernel_rfl) (fun _ _ _ h => h) hHeld (Or.inl ⟨by rfl, by intro w hSw; go_simp⟩) ?_
        try simp only [Act.put, List.setIfInBounds_toArray, List.set_cons_zero, List.set_cons_succ]
        refine UpTo.take (i := 3) 34 (v := .slice C1 n1 q1) rfl rfl (by kernel_rfl) (by kernel_rfl) (by kernel_rfl) (by kernel_rfl) (fun _ _ _ h => h) hHeld (Or.inl ⟨by rfl, by intro w hSw; have q0 := hSw.1.cell 1; go_simp⟩) ?_
        try simp only [Act.put, List.setIfInBounds_toArray, List.set_cons_zero, List.set_cons_succ]
        refine UpTo.take (i := 4) 35 (v := .slice (some ⟨b2, o2, none⟩) 4 c2) rfl rfl (by kernel_rfl) (by kernel_rfl) (by kernel_rfl) (by kernel_rfl) (fun _ _ _ h => h) hHeld (Or.inl ⟨by rfl, by intro w hSw; go_simp⟩) ?_
        try simp only [Act.put, List.setIfInBounds_toArray, List.set_cons_zero, List.set_cons_succ]
        refine UpTo.take (i := 5) 36 (v := .int .i64 j) rfl rfl (by kernel_rfl) (by kernel_rfl) (by kernel_rfl) (by kernel_rfl) (fun _ _ _ h => h) hHeld (Or.inl ⟨by rfl, by intro w hSw; go_simp⟩) ?_
        try simp only [Act.put, List.setIfInBounds_toArray, List.set_cons_zero, List.set_cons_succ]
        refine UpTo.take (i := 6) 37 (v := .pointer (some ⟨b2, o2 + j, none⟩)) rfl rfl (by kernel_rfl) (by kernel_rfl) (by kernel_rfl) (by kernel_rfl) (fun _ _ _ h => h) hHeld (Or.inl ⟨by rfl, by intro w hSw; go_simp⟩) ?_
        try simp only [Act.put, List.setIfInBounds_toArray, List.set_cons_zero, List.set_cons_succ]
        refine UpTo.take (i := 7) 38 (v := .int .i64 s) rfl rfl (by kernel_rfl) (by kernel_rfl) (by kernel_rfl) (by kernel_rfl) (fun _ _ _ h => h) hHeld (Or.inl ⟨by rfl, by intro w hSw; have q0 := HD2.out w hSw.2; go_simp⟩) ?_
        try simp only [Act.put, List.setIfInBounds_toArray, List.set_cons_zero, List.set_cons_succ]
        replace HO0 := hide (show w2.drew.ownsRow w.heap.size 3 1 (.slice C0 n0 q0) n0 (iv (sel S 0 0 j)) from HO0.out)
        replace HO1 := hide (show w2.drew.ownsRow w.heap.size 3 1 (.slice C1 n1 q1) n1 (iv (sel S 0 1 j)) from HO1.out)
        clear HA HB2
        obtain ⟨w3, hw3⟩ : ∃ W, w2.drew = W := ⟨_, rfl⟩
        rw [hw3] at HH0 hHeld HO0 HO1 ⊢
        clear hw3
        refine UpTo.next (i := 8) (by kernel_rfl) rfl (fun K hK => ?_)
        go_simp
        have HH1 := hide (show (fun w' => Blk w' w.heap.size 75 #[.slice C0 n0 q0, .slice C1 n1 q1] ∧ Below w.heap.size w w') (w3.alloc (.cells #[.int .i64 s] 3)) from ⟨HH0.out.1.alloc _, HH0.out.2.alloc HH0.out.2.size _⟩)
        refine hK.out _ _ (fun _ => HH1.out) ?_
        clear hK K
        try simp only [Act.put, List.setIfInBounds_toArray, List.set_cons_zero, List.set_cons_succ]
        refine UpTo.next (i := 9) (by kernel_rfl) rfl (fun K hK => ?_)
        refine step_append_any _ (by rfl) _ _ 22 (by rfl) w.heap.size 3 i0 _ 1 8 Try.underlying22 hi0 hz0 hz1 hz2 rfl (by omega) _ n1 (iv (sel S 0 1 j)) (by rfl) (HO1.out.alloc _) _ _ 1 1 [.int .i64 s] (by rfl) (reads_one w3 (.int .i64 s) 3) (by simp [Value.oneCell']) (by simp only [maxLen] <;> omega) (by omega) HH1.out.2.size ?_
        intro v6 w6 hown hgr hor
        obtain ⟨C6, q6, rfl⟩ := own_form hown
        have HH6 := hide (show (fun w' => Blk w' w.heap.size 75 #[.slice C0 n0 q0, .slice C1 n1 q1] ∧ Below w.heap.size w w') w6 from ⟨HH1.out.1.grown hgr (fun e => own_blk_ne (HO1.out.alloc _) HH1.out.1 (by decide) e.symm), Below.app HH0.out.2 HO1.out hgr⟩)
        refine hK.out _ _ (fun _ => HH6.out) ?_
        clear hK K
        try simp only [Act.put, List.setIfInBounds_toArray]
        refine UpTo.next (i := 10) (by kernel_rfl) rfl (fun K hK => ?_)
        go_simp
        refine hK.out _ _ (fun _ => HH6.out) ?_
        clear hK K
        try simp only [Act.put, List.setIfInBounds_toArray, List.set_cons_zero, List.set_cons_succ]
        have hc0 := HH6.out.1.cell 1
        have hf0 := HH6.out.1.frozen 1
        refine UpTo.next (i := 11) (by kernel_rfl) rfl (fun K hK => ?_)
        go_simp
        refine hK.out _ _ (fun h => absurd rfl h) ?_
        clear hK K
        refine UpTo.done (by kernel_rfl) ?_ _
        clear hc0 hf0
        have HT2 := hide (two_step1 HH0.out.1 hn0 hn1 HO0.out HO1.out HAP.out HSJ.out HBT.out hgr hown hor)
        have HB7 := hide (HH6.out.2.setCell (p := ⟨w.heap.size, 1, none⟩) (Nat.le_refl _) (.slice C6 (n1 + 1) q6))
        go_wp2
        go_roundw
        case rel => exact ⟨j + 1, by omega, by go_num, HT2.out, HB7.out⟩
        case measure => simp [intOf]; omega
    · obtain rfl : j = 4 := by omega
      obtain ⟨C0, n0, q0, C1, n1, q1, hA, _, _, ho0, ho1, _⟩ := HT.out
      rw [show sel S 0 0 4 = [S[2]?.getD 0, S[3]?.getD 0] by simp [sel, bt, nOf]] at ho0
      rw [show sel S 0 1 4 = [S[0]?.getD 0, S[1]?.getD 0] by simp [sel, bt, nOf]] at ho1
      have ba := HBD.out 0 (by omega)
      have bb := HBD.out 1 (by omega)
      have bc := HBD.out 2 (by omega)
      have bd := HBD.out 3 (by omega)
      obtain ⟨a, ha⟩ : ∃ a, S[0]?.getD 0 = a := ⟨_, rfl⟩
      obtain ⟨b, hb⟩ : ∃ b, S[1]?.getD 0 = b := ⟨_, rfl⟩
      obtain ⟨c, hc⟩ : ∃ c, S[2]?.getD 0 = c := ⟨_, rfl⟩
      obtain ⟨d, hd⟩ : ∃ d, S[3]?.getD 0 = d := ⟨_, rfl⟩
      rw [ha, hb] at ho1
      rw [hc, hd] at ho0
      rw [ha] at ba
      rw [hb] at bb
      rw [hc] at bc
      rw [hd] at bd
      have hl0 := ho0.1
      have hl1 := ho1.1
      simp only [iv, List.map_cons, List.map_nil, List.length_cons, List.length_nil] at hl0 hl1
      obtain rfl : n0 = 2 := by omega
      obtain rfl : n1 = 2 := by omega
      clear hl0 hl1
      obtain ⟨g0, rfl, _, _, hc0⟩ := own_cells ho0 (by omega)
      obtain ⟨g1, rfl, _, _, hc1⟩ := own_cells ho1 (by omega)
      have HH := hide (show (fun w' => Blk w' w.heap.size 75 #[.slice (some ⟨g0, 0, none⟩) 2 q0, .slice (some ⟨g1, 0, none⟩) 2 q1] ∧ Below w.heap.size w w') wr.drew from ⟨hA, below_drewN (Below.step HBV.out HBE.out) 1⟩)
      have HCE := hide (show (wr.drew.cell? ⟨g0, 0, none⟩ = some (.int .i64 c) ∧ wr.drew.cell? ⟨g0, 1, none⟩ = some (.int .i64 d)) ∧ (wr.drew.cell? ⟨g1, 0, none⟩ = some (.int .i64 a) ∧ wr.drew.cell? ⟨g1, 1, none⟩ = some (.int .i64 b)) from ⟨⟨hc0 0 _ rfl, hc0 1 _ rfl⟩, ⟨hc1 0 _ rfl, hc1 1 _ rfl⟩⟩)
      have BM1 := least_bd ba bb
      have BM0 := least_bd bc bd
      have HM1 := hide (fun W h1 h2 => min2L g1 q1 a b W h1 h2)
      have HM0 := hide (fun W h1 h2 => min2L g0 q0 c d W h1 h2)
      obtain ⟨m1, hm1⟩ : ∃ m, least a b = m := ⟨_, rfl⟩
      obtain ⟨m0, hm0⟩ : ∃ m, least c d = m := ⟨_, rfl⟩
      rw [hm1] at BM1 HM1
      rw [hm0] at BM0 HM0
      obtain ⟨bm1, bm2⟩ := BM1
      obtain ⟨bm3, bm4⟩ := BM0
      have HEM := hide (show least (S[0]?.getD 0) (S[1]?.getD 0) - least (S[2]?.getD 0) (S[3]?.getD 0) = m1 - m0 by rw [ha, hb, hc, hd, hm1, hm0])
      have hwm : IntKind.i64.wrap (m1 - m0) = m1 - m0 := IntWalk.i64_in _ (by omega)
      clear ha hb hc hd hm1 hm0 ba bb bc bd hA ho0 ho1 hc0 hc1 HT
      replace HROW := hide (show wr.drew.ownsRow w.heap.size 3 1 (.slice none 0 0) 0 [] from own_bel HROW.out (below_drewN HBE.out 1))
      obtain ⟨w3, hw3⟩ : ∃ W, wr.drew = W := ⟨_, rfl⟩
      go_wp2
      refine wp_region_held_drew (S := fun w' => Blk w' w.heap.size 75 #[.slice (some ⟨g0, 0, none⟩) 2 q0, .slice (some ⟨g1, 0, none⟩) 2 q1] ∧ Below w.heap.size w w') (by kernel_rfl) HH.out (fun hHeld => ?_)
      refine take_at (i := 0) 43 (v := .slice none 0 0) rfl rfl (by kernel_rfl) (by kernel_rfl) (by kernel_rfl) (fun _ _ _ h => h) (Or.inl ⟨by rfl, by intro w hSw; go_simp⟩) (by assumption) ?_
      try simp only [Act.put, List.setIfInBounds_toArray, List.set_cons_zero, List.set_cons_succ]
      refine take_at (i := 1) 44 (v := .pointer (some ⟨w.heap.size, 1, none⟩)) rfl rfl (by kernel_rfl) (by kernel_rfl) (by kernel_rfl) (fun _ _ _ h => h) (Or.inl ⟨by rfl, by intro w hSw; go_simp⟩) (by assumption) ?_
      try simp only [Act.put, List.setIfInBounds_toArray, List.set_cons_zero, List.set_cons_succ]
      refine take_at (i := 2) 45 (v := .slice (some ⟨g1, 0, none⟩) 2 q1) rfl rfl (by kernel_rfl) (by kernel_rfl) (by kernel_rfl) (fun _ _ _ h => h) (Or.inl ⟨by rfl, by intro w hSw; have q0 := hSw.1.cell 1; go_simp⟩) (by assumption) ?_
      try simp only [Act.put, List.setIfInBounds_toArray, List.set_cons_zero, List.set_cons_succ]
      refine take_at (i := 4) 47 (v := .pointer (some ⟨w.heap.size, 0, none⟩)) rfl rfl (by kernel_rfl) (by kernel_rfl) (by kernel_rfl) (fun _ _ _ h => h) (Or.inl ⟨by rfl, by intro w hSw; go_simp⟩) (by assumption) ?_
      try simp only [Act.put, List.setIfInBounds_toArray, List.set_cons_zero, List.set_cons_succ]
      refine take_at (i := 5) 48 (v := .slice (some ⟨g0, 0, none⟩) 2 q0) rfl rfl (by kernel_rfl) (by kernel_rfl) (by kernel_rfl) (fun _ _ _ h => h) (Or.inl ⟨by rfl, by intro w hSw; have q0 := hSw.1.cell 0; go_simp⟩) (by assumption) ?_
      try simp only [Act.put, List.setIfInBounds_toArray, List.set_cons_zero, List.set_cons_succ]
      rw [hw3] at HH hHeld HROW HCE ⊢
      clear hw3 HBE
      refine wpAnyH_ready (rs := [3]) (by kernel_rfl) (by simp) ?_
      refine AllReadyH.cons rfl (fun K hK => ?_) AllReadyH.nil
      go_simp
      refine (HM1.out _ HCE.out.2.1 HCE.out.2.2).mono ?_
      rintro e w4 ⟨rfl, hw4⟩
      obtain rfl := hw4.symm
      simp only []
      refine hK.out _ _ HH.out (fun hHeld => ?_)
      clear hK K
      try simp only [Act.put, List.setIfInBounds_toArray, List.set_cons_zero, List.set_cons_succ]
      refine wpAnyH_ready (rs := [6]) (by kernel_rfl) (by simp) ?_
      refine AllReadyH.cons rfl (fun K hK => ?_) AllReadyH.nil
      go_simp
      refine (HM0.out _ HCE.out.1.1 HCE.out.1.2).mono ?_
      rintro e w4 ⟨rfl, hw4⟩
      obtain rfl := hw4.symm
      simp only []
      refine hK.out _ _ HH.out (fun hHeld => ?_)
      clear hK K
      try simp only [Act.put, List.setIfInBounds_toArray, List.set_cons_zero, List.set_cons_succ]
      refine take_at (i := 7) 50 (v := .int .i64 (m1 - m0)) rfl rfl (by kernel_rfl) (by kernel_rfl) (by kernel_rfl) (fun _ _ _ h => h) (Or.inl ⟨by rfl, by intro w hSw; go_simp⟩) (by assumption) ?_
      try simp only [Act.put, List.setIfInBounds_toArray, List.set_cons_zero, List.set_cons_succ]
      refine wpAnyH_ready (rs := [8]) (by kernel_rfl) (by simp) ?_
      refine AllReadyH.cons rfl (fun K hK => ?_) AllReadyH.nil
      go_simp
      have HHA := hide (show (fun w' => Blk w' w.heap.size 75 #[.slice (some ⟨g0, 0, none⟩) 2 q0, .slice (some ⟨g1, 0, none⟩) 2 q1] ∧ Below w.heap.size w w') (w3.alloc (.cells #[.int .i64 (m1 - m0)] 3)) from ⟨HH.out.1.alloc _, HH.out.2.alloc HH.out.2.size _⟩)
      refine hK.out _ _ HHA.out (fun hHeld => ?_)
      clear hK K
      try simp only [Act.put, List.setIfInBounds_toArray, List.set_cons_zero, List.set_cons_succ]
      refine wpAnyH_ready (rs := [9]) (by kernel_rfl) (by simp) ?_
      refine AllReadyH.cons rfl (fun K hK => ?_) AllReadyH.nil
      refine step_append_any _ (by rfl) _ _ 22 (by rfl) w.heap.size 3 i0 _ 1 8 Try.underlying22 hi0 hz0 hz1 hz2 rfl (by omega) _ 0 [] (by rfl) (HROW.out.alloc _) _ _ 1 1 [.int .i64 (m1 - m0)] (by rfl) (reads_one w3 (.int .i64 (m1 - m0)) 3) (by simp [Value.oneCell']) (by simp only [maxLen] <;> omega) (by omega) HHA.out.2.size ?_
      intro v6 v hown hgr hor
      obtain ⟨C6, q6, rfl⟩ := own_form hown
      simp only [List.nil_append, Nat.zero_add] at hown
      have HOWN := hide hown
      have HH6 := hide (show (fun w' => Blk w' w.heap.size 75 #[.slice (some ⟨g0, 0, none⟩) 2 q0, .slice (some ⟨g1, 0, none⟩) 2 q1] ∧ Below w.heap.size w w') v from ⟨HHA.out.1.grown hgr (fun e => own_blk_ne (HROW.out.alloc _) HHA.out.1 (by decide) e.symm), Below.app HH.out.2 HROW.out hgr⟩)
      clear hown hor
      refine hK.out _ _ HH6.out (fun hHeld => ?_)
      clear hK K
      try simp only [Act.put, List.setIfInBounds_toArray]
      refine take_at (i := 10) 6 (v := .slice C6 1 q6) rfl rfl (by kernel_rfl) (by kernel_rfl) (by kernel_rfl) (fun _ _ _ h => h) (Or.inl ⟨by rfl, by intro w hSw; go_simp⟩) (by assumption) ?_
      try simp only [Act.put]
      refine wpAnyH_done (by kernel_rfl) ?_ _
      rw [← HRR0.out.symm.trans HEM.out] at HOWN
      replace HROW := hide HOWN.out
      replace HBV := hide HH6.out.2
      clear HH HHA HH6 HOWN HCE HM1 HM0 HEM hwm
      go_wp2
      simp only [rounds_succ]
      go_wp2
      go_loopw [20] (fun i wr => ∃ j : Nat, j ≤ 4 ∧ i = .int .i64 j ∧ Two wr S v.heap.size 1 j ∧ Below v.heap.size v wr) (fun i _ => 4 - (intOf i).toNat)
      case atStart => exact ⟨0, Nat.zero_le _, rfl, ⟨none, 0, 0, none, 0, 0, Blk.new v _ _, Nat.le_refl _, Nat.le_refl _, World.ownsRow_nil _ _ _ _, World.ownsRow_nil _ _ _ _, fun _ h _ => by cases h⟩, by go_grown⟩
      case round =>
        obtain ⟨j, hj, rfl, htwo, hbel⟩ := hrel
        have HT := hide htwo
        have HBE := hide hbel
        clear htwo hbel
        by_cases hlt : j < 4
        · obtain ⟨b1, o1, hA1, d1⟩ := (HS1.out wr (Below.step HBV.out HBE.out)).int (xs := [-3, -1, 1, 3]) hlt
          subst hA1
          rw [lv_list j hlt] at d1
          have hjl : j < S.length := by rw [HL.out]; exact hlt
          obtain ⟨b2, o2, hA2, d2⟩ := (HS2.out v HBV.out).int (k := j) hjl
          subst hA2
          obtain ⟨s, hs⟩ : ∃ s, S[j]?.getD 0 = s := ⟨_, rfl⟩
          rw [show S[j] = s by rw [← hs, List.getElem?_eq_getElem hjl]; rfl] at d2
          have HSJ := hide hs
          have HD2 := hide (fun W (h : Below v.heap.size v W) => show W.cell? ⟨b2, o2 + j, none⟩ = some (.int .i64 s) from (h.cell (lt_of_cell d2)).trans d2)
          have HOJ := hide (fun W => HO.out (nOf j) W (nOf_lt j))
          obtain ⟨l, hl⟩ : ∃ l, lv2 (nOf j) = l := ⟨_, rfl⟩
          have hbt := bt_le 1 j
          have hbe : bt 1 j = nOf j % 2 := rfl
          obtain ⟨b, hb⟩ : ∃ b, nOf j % 2 = b := ⟨_, rfl⟩
          rw [hl] at d1 HOJ
          rw [hb] at HOJ hbe
          rw [hbe] at hbt
          have HBT := hide hbe
          clear hl hb hbe hs d2 hjl
          go_wp2_with (first | (go_at_call 43; refine (HOJ.out _).mono ?_; rintro e w2 ⟨C5, q5, rfl, ho5, hb5⟩; obtain ⟨g5, rfl, _, hq5, hc5⟩ := own_cells ho5 (by omega); have x5 := hc5 1 _ rfl; have HB2 := hide (Below.step HBE.out hb5); have HT2 := hide (HT.out.bel hb5); clear ho5 hb5 hc5 HT))
          clear x5 hq5
          obtain ⟨C0, n0, q0, C1, n1, q1, hA, hn0, hn1, ho0, ho1, hap⟩ := HT2.out
          have HA := hide hA
          have HO0 := hide ho0
          have HO1 := hide ho1
          have HAP := hide hap
          clear hA ho0 ho1 hap HT2 d1 HOJ
          rcases hbt with rfl | rfl
          · have HH0 := hide (show (fun w' => Blk w' v.heap.size 75 #[.slice C0 n0 q0, .slice C1 n1 q1] ∧ Below v.heap.size v w') w2.drew from ⟨HA.out, below_drewN HB2.out 1⟩)
            have hHeld := HH0.out
            refine UpTo.start (z := 11) (S := fun w' => Blk w' v.heap.size 75 #[.slice C0 n0 q0, .slice C1 n1 q1] ∧ Below v.heap.size v w') (by kernel_rfl) ?_
            refine UpTo.take (i := 0) 31 (v := .int .i64 0) rfl rfl (by kernel_rfl) (by kernel_rfl) (by kernel_rfl) (by kernel_rfl) (fun _ _ _ h => h) hHeld (Or.inl ⟨by rfl, by intro w hSw; go_simp⟩) ?_
            try simp only [Act.put, List.setIfInBounds_toArray, List.set_cons_zero, List.set_cons_succ]
            refine UpTo.take (i := 1) 32 (v := .int .i64 0) rfl rfl (by kernel_rfl) (by kernel_rfl) (by kernel_rfl) (by kernel_rfl) (fun _ _ _ h => h) hHeld (Or.inl ⟨by rfl, by intro w hSw; go_simp⟩) ?_
            try simp only [Act.put, List.setIfInBounds_toArray, List.set_cons_zero, List.set_cons_succ]
            refine UpTo.take (i := 2) 33 (v := .pointer (some ⟨v.heap.size, 0, none⟩)) rfl rfl (by kernel_rfl) (by kernel_rfl) (by kernel_rfl) (by kernel_rfl) (fun _ _ _ h => h) hHeld (Or.inl ⟨by rfl, by intro w hSw; go_simp⟩) ?_
            try simp only [Act.put, List.setIfInBounds_toArray, List.set_cons_zero, List.set_cons_succ]
            refine UpTo.take (i := 3) 34 (v := .slice C0 n0 q0) rfl rfl (by kernel_rfl) (by kernel_rfl) (by kernel_rfl) (by kernel_rfl) (fun _ _ _ h => h) hHeld (Or.inl ⟨by rfl, by intro w hSw; have q0 := hSw.1.cell 0; go_simp⟩) ?_
            try simp only [Act.put, List.setIfInBounds_toArray, List.set_cons_zero, List.set_cons_succ]
            refine UpTo.take (i := 4) 35 (v := .slice (some ⟨b2, o2, none⟩) 4 c2) rfl rfl (by kernel_rfl) (by kernel_rfl) (by kernel_rfl) (by kernel_rfl) (fun _ _ _ h => h) hHeld (Or.inl ⟨by rfl, by intro w hSw; go_simp⟩) ?_
            try simp only [Act.put, List.setIfInBounds_toArray, List.set_cons_zero, List.set_cons_succ]
            refine UpTo.take (i := 5) 36 (v := .int .i64 j) rfl rfl (by kernel_rfl) (by kernel_rfl) (by kernel_rfl) (by kernel_rfl) (fun _ _ _ h => h) hHeld (Or.inl ⟨by rfl, by intro w hSw; go_simp⟩) ?_
            try simp only [Act.put, List.setIfInBounds_toArray, List.set_cons_zero, List.set_cons_succ]
            refine UpTo.take (i := 6) 37 (v := .pointer (some ⟨b2, o2 + j, none⟩)) rfl rfl (by kernel_rfl) (by kernel_rfl) (by kernel_rfl) (by kernel_rfl) (fun _ _ _ h => h) hHeld (Or.inl ⟨by rfl, by intro w hSw; go_simp⟩) ?_
            try simp only [Act.put, List.setIfInBounds_toArray, List.set_cons_zero, List.set_cons_succ]
            refine UpTo.take (i := 7) 38 (v := .int .i64 s) rfl rfl (by kernel_rfl) (by kernel_rfl) (by kernel_rfl) (by kernel_rfl) (fun _ _ _ h => h) hHeld (Or.inl ⟨by rfl, by intro w hSw; have q0 := HD2.out w hSw.2; go_simp⟩) ?_
            try simp only [Act.put, List.setIfInBounds_toArray, List.set_cons_zero, List.set_cons_succ]
            replace HO0 := hide (show w2.drew.ownsRow v.heap.size 3 1 (.slice C0 n0 q0) n0 (iv (sel S 1 0 j)) from HO0.out)
            replace HO1 := hide (show w2.drew.ownsRow v.heap.size 3 1 (.slice C1 n1 q1) n1 (iv (sel S 1 1 j)) from HO1.out)
            clear HA HB2
            obtain ⟨w3, hw3⟩ : ∃ W, w2.drew = W := ⟨_, rfl⟩
            rw [hw3] at HH0 hHeld HO0 HO1 ⊢
            clear hw3
            refine UpTo.next (i := 8) (by kernel_rfl) rfl (fun K hK => ?_)
            go_simp
            have HH1 := hide (show (fun w' => Blk w' v.heap.size 75 #[.slice C0 n0 q0, .slice C1 n1 q1] ∧ Below v.heap.size v w') (w3.alloc (.cells #[.int .i64 s] 3)) from ⟨HH0.out.1.alloc _, HH0.out.2.alloc HH0.out.2.size _⟩)
            refine hK.out _ _ (fun _ => HH1.out) ?_
            clear hK K
            try simp only [Act.put, List.setIfInBounds_toArray, List.set_cons_zero, List.set_cons_succ]
            refine UpTo.next (i := 9) (by kernel_rfl) rfl (fun K hK => ?_)
            refine step_append_any _ (by rfl) _ _ 22 (by rfl) v.heap.size 3 i0 _ 1 8 Try.underlying22 hi0 hz0 hz1 hz2 rfl (by omega) _ n0 (iv (sel S 1 0 j)) (by rfl) (HO0.out.alloc _) _ _ 1 1 [.int .i64 s] (by rfl) (reads_one w3 (.int .i64 s) 3) (by simp [Value.oneCell']) (by simp only [maxLen] <;> omega) (by omega) HH1.out.2.size ?_
            intro v6 w6 hown hgr hor
            obtain ⟨C6, q6, rfl⟩ := own_form hown
            have HH6 := hide (show (fun w' => Blk w' v.heap.size 75 #[.slice C0 n0 q0, .slice C1 n1 q1] ∧ Below v.heap.size v w') w6 from ⟨HH1.out.1.grown hgr (fun e => own_blk_ne (HO0.out.alloc _) HH1.out.1 (by decide) e.symm), Below.app HH0.out.2 HO0.out hgr⟩)
            refine hK.out _ _ (fun _ => HH6.out) ?_
            clear hK K
            try simp only [Act.put, List.setIfInBounds_toArray]
            refine UpTo.next (i := 10) (by kernel_rfl) rfl (fun K hK => ?_)
            go_simp
            refine hK.out _ _ (fun _ => HH6.out) ?_
            clear hK K
            try simp only [Act.put, List.setIfInBounds_toArray, List.set_cons_zero, List.set_cons_succ]
            have hc0 := HH6.out.1.cell 0
            have hf0 := HH6.out.1.frozen 0
            refine UpTo.next (i := 11) (by kernel_rfl) rfl (fun K hK => ?_)
            go_simp
            refine hK.out _ _ (fun h => absurd rfl h) ?_
            clear hK K
            refine UpTo.done (by kernel_rfl) ?_ _
            clear hc0 hf0
            have HT2 := hide (two_step0 HH0.out.1 hn0 hn1 HO0.out HO1.out HAP.out HSJ.out HBT.out hgr hown hor)
            have HB7 := hide (HH6.out.2.setCell (p := ⟨v.heap.size, 0, none⟩) (Nat.le_refl _) (.slice C6 (n0 + 1) q6))
            go_wp2
            go_roundw
            case rel => exact ⟨j + 1, by omega, by go_num, HT2.out, HB7.out⟩
            case measure => simp [intOf]; omega
          · have HH0 := hide (show (fun w' => Blk w' v.heap.size 75 #[.slice C0 n0 q0, .slice C1 n1 q1] ∧ Below v.heap.size v w') w2.drew from ⟨HA.out, below_drewN HB2.out 1⟩)
            have hHeld := HH0.out
            refine UpTo.start (z := 11) (S := fun w' => Blk w' v.heap.size 75 #[.slice C0 n0 q0, .slice C1 n1 q1] ∧ Below v.heap.size v w') (by kernel_rfl) ?_
            refine UpTo.take (i := 0) 31 (v := .int .i64 1) rfl rfl (by kernel_rfl) (by kernel_rfl) (by kernel_rfl) (by kernel_rfl) (fun _ _ _ h => h) hHeld (Or.inl ⟨by rfl, by intro w hSw; go_simp⟩) ?_
            try simp only [Act.put, List.setIfInBounds_toArray, List.set_cons_zero, List.set_cons_succ]
            refine UpTo.take (i := 1) 32 (v := .int .i64 1) rfl rfl (by kernel_rfl) (by kernel_rfl) (by kernel_rfl) (by kernel_rfl) (fun _ _ _ h => h) hHeld (Or.inl ⟨by rfl, by intro w hSw; go_simp⟩) ?_
            try simp only [Act.put, List.setIfInBounds_toArray, List.set_cons_zero, List.set_cons_succ]
            refine UpTo.take (i := 2) 33 (v := .pointer (some ⟨v.heap.size, 1, none⟩)) rfl rfl (by kernel_rfl) (by kernel_rfl) (by kernel_rfl) (by kernel_rfl) (fun _ _ _ h => h) hHeld (Or.inl ⟨by rfl, by intro w hSw; go_simp⟩) ?_
            try simp only [Act.put, List.setIfInBounds_toArray, List.set_cons_zero, List.set_cons_succ]
            refine UpTo.take (i := 3) 34 (v := .slice C1 n1 q1) rfl rfl (by kernel_rfl) (by kernel_rfl) (by kernel_rfl) (by kernel_rfl) (fun _ _ _ h => h) hHeld (Or.inl ⟨by rfl, by intro w hSw; have q0 := hSw.1.cell 1; go_simp⟩) ?_
            try simp only [Act.put, List.setIfInBounds_toArray, List.set_cons_zero, List.set_cons_succ]
            refine UpTo.take (i := 4) 35 (v := .slice (some ⟨b2, o2, none⟩) 4 c2) rfl rfl (by kernel_rfl) (by kernel_rfl) (by kernel_rfl) (by kernel_rfl) (fun _ _ _ h => h) hHeld (Or.inl ⟨by rfl, by intro w hSw; go_simp⟩) ?_
            try simp only [Act.put, List.setIfInBounds_toArray, List.set_cons_zero, List.set_cons_succ]
            refine UpTo.take (i := 5) 36 (v := .int .i64 j) rfl rfl (by kernel_rfl) (by kernel_rfl) (by kernel_rfl) (by kernel_rfl) (fun _ _ _ h => h) hHeld (Or.inl ⟨by rfl, by intro w hSw; go_simp⟩) ?_
            try simp only [Act.put, List.setIfInBounds_toArray, List.set_cons_zero, List.set_cons_succ]
            refine UpTo.take (i := 6) 37 (v := .pointer (some ⟨b2, o2 + j, none⟩)) rfl rfl (by kernel_rfl) (by kernel_rfl) (by kernel_rfl) (by kernel_rfl) (fun _ _ _ h => h) hHeld (Or.inl ⟨by rfl, by intro w hSw; go_simp⟩) ?_
            try simp only [Act.put, List.setIfInBounds_toArray, List.set_cons_zero, List.set_cons_succ]
            refine UpTo.take (i := 7) 38 (v := .int .i64 s) rfl rfl (by kernel_rfl) (by kernel_rfl) (by kernel_rfl) (by kernel_rfl) (fun _ _ _ h => h) hHeld (Or.inl ⟨by rfl, by intro w hSw; have q0 := HD2.out w hSw.2; go_simp⟩) ?_
            try simp only [Act.put, List.setIfInBounds_toArray, List.set_cons_zero, List.set_cons_succ]
            replace HO0 := hide (show w2.drew.ownsRow v.heap.size 3 1 (.slice C0 n0 q0) n0 (iv (sel S 1 0 j)) from HO0.out)
            replace HO1 := hide (show w2.drew.ownsRow v.heap.size 3 1 (.slice C1 n1 q1) n1 (iv (sel S 1 1 j)) from HO1.out)
            clear HA HB2
            obtain ⟨w3, hw3⟩ : ∃ W, w2.drew = W := ⟨_, rfl⟩
            rw [hw3] at HH0 hHeld HO0 HO1 ⊢
            clear hw3
            refine UpTo.next (i := 8) (by kernel_rfl) rfl (fun K hK => ?_)
            go_simp
            have HH1 := hide (show (fun w' => Blk w' v.heap.size 75 #[.slice C0 n0 q0, .slice C1 n1 q1] ∧ Below v.heap.size v w') (w3.alloc (.cells #[.int .i64 s] 3)) from ⟨HH0.out.1.alloc _, HH0.out.2.alloc HH0.out.2.size _⟩)
            refine hK.out _ _ (fun _ => HH1.out) ?_
            clear hK K
            try simp only [Act.put, List.setIfInBounds_toArray, List.set_cons_zero, List.set_cons_succ]
            refine UpTo.next (i := 9) (by kernel_rfl) rfl (fun K hK => ?_)
            refine step_append_any _ (by rfl) _ _ 22 (by rfl) v.heap.size 3 i0 _ 1 8 Try.underlying22 hi0 hz0 hz1 hz2 rfl (by omega) _ n1 (iv (sel S 1 1 j)) (by rfl) (HO1.out.alloc _) _ _ 1 1 [.int .i64 s] (by rfl) (reads_one w3 (.int .i64 s) 3) (by simp [Value.oneCell']) (by simp only [maxLen] <;> omega) (by omega) HH1.out.2.size ?_
            intro v6 w6 hown hgr hor
            obtain ⟨C6, q6, rfl⟩ := own_form hown
            have HH6 := hide (show (fun w' => Blk w' v.heap.size 75 #[.slice C0 n0 q0, .slice C1 n1 q1] ∧ Below v.heap.size v w') w6 from ⟨HH1.out.1.grown hgr (fun e => own_blk_ne (HO1.out.alloc _) HH1.out.1 (by decide) e.symm), Below.app HH0.out.2 HO1.out hgr⟩)
            refine hK.out _ _ (fun _ => HH6.out) ?_
            clear hK K
            try simp only [Act.put, List.setIfInBounds_toArray]
            refine UpTo.next (i := 10) (by kernel_rfl) rfl (fun K hK => ?_)
            go_simp
            refine hK.out _ _ (fun _ => HH6.out) ?_
            clear hK K
            try simp only [Act.put, List.setIfInBounds_toArray, List.set_cons_zero, List.set_cons_succ]
            have hc0 := HH6.out.1.cell 1
            have hf0 := HH6.out.1.frozen 1
            refine UpTo.next (i := 11) (by kernel_rfl) rfl (fun K hK => ?_)
            go_simp
            refine hK.out _ _ (fun h => absurd rfl h) ?_
            clear hK K
            refine UpTo.done (by kernel_rfl) ?_ _
            clear hc0 hf0
            have HT2 := hide (two_step1 HH0.out.1 hn0 hn1 HO0.out HO1.out HAP.out HSJ.out HBT.out hgr hown hor)
            have HB7 := hide (HH6.out.2.setCell (p := ⟨v.heap.size, 1, none⟩) (Nat.le_refl _) (.slice C6 (n1 + 1) q6))
            go_wp2
            go_roundw
            case rel => exact ⟨j + 1, by omega, by go_num, HT2.out, HB7.out⟩
            case measure => simp [intOf]; omega
        · obtain rfl : j = 4 := by omega
          obtain ⟨C0, n0, q0, C1, n1, q1, hA, _, _, ho0, ho1, _⟩ := HT.out
          rw [show sel S 1 0 4 = [S[1]?.getD 0, S[2]?.getD 0] by simp [sel, bt, nOf]] at ho0
          rw [show sel S 1 1 4 = [S[0]?.getD 0, S[3]?.getD 0] by simp [sel, bt, nOf]] at ho1
          have ba := HBD.out 0 (by omega)
          have bb := HBD.out 3 (by omega)
          have bc := HBD.out 1 (by omega)
          have bd := HBD.out 2 (by omega)
          obtain ⟨a, ha⟩ : ∃ a, S[0]?.getD 0 = a := ⟨_, rfl⟩
          obtain ⟨b, hb⟩ : ∃ b, S[3]?.getD 0 = b := ⟨_, rfl⟩
          obtain ⟨c, hc⟩ : ∃ c, S[1]?.getD 0 = c := ⟨_, rfl⟩
          obtain ⟨d, hd⟩ : ∃ d, S[2]?.getD 0 = d := ⟨_, rfl⟩
          rw [ha, hb] at ho1
          rw [hc, hd] at ho0
          rw [ha] at ba
          rw [hb] at bb
          rw [hc] at bc
          rw [hd] at bd
          have hl0 := ho0.1
          have hl1 := ho1.1
          simp only [iv, List.map_cons, List.map_nil, List.length_cons, List.length_nil] at hl0 hl1
          obtain rfl : n0 = 2 := by omega
          obtain rfl : n1 = 2 := by omega
          clear hl0 hl1
          obtain ⟨g0, rfl, _, _, hc0⟩ := own_cells ho0 (by omega)
          obtain ⟨g1, rfl, _, _, hc1⟩ := own_cells ho1 (by omega)
          have HH := hide (show (fun w' => Blk w' v.heap.size 75 #[.slice (some ⟨g0, 0, none⟩) 2 q0, .slice (some ⟨g1, 0, none⟩) 2 q1] ∧ Below w.heap.size w w') wr.drew from ⟨hA, below_drewN (Below.step HBV.out HBE.out) 1⟩)
          have HCE := hide (show (wr.drew.cell? ⟨g0, 0, none⟩ = some (.int .i64 c) ∧ wr.drew.cell? ⟨g0, 1, none⟩ = some (.int .i64 d)) ∧ (wr.drew.cell? ⟨g1, 0, none⟩ = some (.int .i64 a) ∧ wr.drew.cell? ⟨g1, 1, none⟩ = some (.int .i64 b)) from ⟨⟨hc0 0 _ rfl, hc0 1 _ rfl⟩, ⟨hc1 0 _ rfl, hc1 1 _ rfl⟩⟩)
          have BM1 := least_bd ba bb
          have BM0 := least_bd bc bd
          have HM1 := hide (fun W h1 h2 => min2L g1 q1 a b W h1 h2)
          have HM0 := hide (fun W h1 h2 => min2L g0 q0 c d W h1 h2)
          obtain ⟨m1, hm1⟩ : ∃ m, least a b = m := ⟨_, rfl⟩
          obtain ⟨m0, hm0⟩ : ∃ m, least c d = m := ⟨_, rfl⟩
          rw [hm1] at BM1 HM1
          rw [hm0] at BM0 HM0
          obtain ⟨bm1, bm2⟩ := BM1
          obtain ⟨bm3, bm4⟩ := BM0
          have HEM := hide (show least (S[0]?.getD 0) (S[3]?.getD 0) - least (S[1]?.getD 0) (S[2]?.getD 0) = m1 - m0 by rw [ha, hb, hc, hd, hm1, hm0])
          have hwm : IntKind.i64.wrap (m1 - m0) = m1 - m0 := IntWalk.i64_in _ (by omega)
          clear ha hb hc hd hm1 hm0 ba bb bc bd hA ho0 ho1 hc0 hc1 HT
          replace HROW := hide (show wr.drew.ownsRow w.heap.size 3 1 (.slice C6 1 q6) 1 [.int .i64 r0] from own_bel HROW.out (below_drewN HBE.out 1))
          obtain ⟨w3, hw3⟩ : ∃ W, wr.drew = W := ⟨_, rfl⟩
          go_wp2
          refine wp_region_held_drew (S := fun w' => Blk w' v.heap.size 75 #[.slice (some ⟨g0, 0, none⟩) 2 q0, .slice (some ⟨g1, 0, none⟩) 2 q1] ∧ Below w.heap.size w w') (by kernel_rfl) HH.out (fun hHeld => ?_)
          refine take_at (i := 0) 43 (v := .slice C6 1 q6) rfl rfl (by kernel_rfl) (by kernel_rfl) (by kernel_rfl) (fun _ _ _ h => h) (Or.inl ⟨by rfl, by intro w hSw; go_simp⟩) (by assumption) ?_
          try simp only [Act.put, List.setIfInBounds_toArray, List.set_cons_zero, List.set_cons_succ]
          refine take_at (i := 1) 44 (v := .pointer (some ⟨v.heap.size, 1, none⟩)) rfl rfl (by kernel_rfl) (by kernel_rfl) (by kernel_rfl) (fun _ _ _ h => h) (Or.inl ⟨by rfl, by intro w hSw; go_simp⟩) (by assumption) ?_
          try simp only [Act.put, List.setIfInBounds_toArray, List.set_cons_zero, List.set_cons_succ]
          refine take_at (i := 2) 45 (v := .slice (some ⟨g1, 0, none⟩) 2 q1) rfl rfl (by kernel_rfl) (by kernel_rfl) (by kernel_rfl) (fun _ _ _ h => h) (Or.inl ⟨by rfl, by intro w hSw; have q0 := hSw.1.cell 1; go_simp⟩) (by assumption) ?_
          try simp only [Act.put, List.setIfInBounds_toArray, List.set_cons_zero, List.set_cons_succ]
          refine take_at (i := 4) 47 (v := .pointer (some ⟨v.heap.size, 0, none⟩)) rfl rfl (by kernel_rfl) (by kernel_rfl) (by kernel_rfl) (fun _ _ _ h => h) (Or.inl ⟨by rfl, by intro w hSw; go_simp⟩) (by assumption) ?_
          try simp only [Act.put, List.setIfInBounds_toArray, List.set_cons_zero, List.set_cons_succ]
          refine take_at (i := 5) 48 (v := .slice (some ⟨g0, 0, none⟩) 2 q0) rfl rfl (by kernel_rfl) (by kernel_rfl) (by kernel_rfl) (fun _ _ _ h => h) (Or.inl ⟨by rfl, by intro w hSw; have q0 := hSw.1.cell 0; go_simp⟩) (by assumption) ?_
          try simp only [Act.put, List.setIfInBounds_toArray, List.set_cons_zero, List.set_cons_succ]
          rw [hw3] at HH hHeld HROW HCE ⊢
          clear hw3 HBE
          refine wpAnyH_ready (rs := [3]) (by kernel_rfl) (by simp) ?_
          refine AllReadyH.cons rfl (fun K hK => ?_) AllReadyH.nil
          go_simp
          refine (HM1.out _ HCE.out.2.1 HCE.out.2.2).mono ?_
          rintro e w4 ⟨rfl, hw4⟩
          obtain rfl := hw4.symm
          simp only []
          refine hK.out _ _ HH.out (fun hHeld => ?_)
          clear hK K
          try simp only [Act.put, List.setIfInBounds_toArray, List.set_cons_zero, List.set_cons_succ]
          refine wpAnyH_ready (rs := [6]) (by kernel_rfl) (by simp) ?_
          refine AllReadyH.cons rfl (fun K hK => ?_) AllReadyH.nil
          go_simp
          refine (HM0.out _ HCE.out.1.1 HCE.out.1.2).mono ?_
          rintro e w4 ⟨rfl, hw4⟩
          obtain rfl := hw4.symm
          simp only []
          refine hK.out _ _ HH.out (fun hHeld => ?_)
          clear hK K
          try simp only [Act.put, List.setIfInBounds_toArray, List.set_cons_zero, List.set_cons_succ]
          refine take_at (i := 7) 50 (v := .int .i64 (m1 - m0)) rfl rfl (by kernel_rfl) (by kernel_rfl) (by kernel_rfl) (fun _ _ _ h => h) (Or.inl ⟨by rfl, by intro w hSw; go_simp⟩) (by assumption) ?_
          try simp only [Act.put, List.setIfInBounds_toArray, List.set_cons_zero, List.set_cons_succ]
          refine wpAnyH_ready (rs := [8]) (by kernel_rfl) (by simp) ?_
          refine AllReadyH.cons rfl (fun K hK => ?_) AllReadyH.nil
          go_simp
          have HHA := hide (show (fun w' => Blk w' v.heap.size 75 #[.slice (some ⟨g0, 0, none⟩) 2 q0, .slice (some ⟨g1, 0, none⟩) 2 q1] ∧ Below w.heap.size w w') (w3.alloc (.cells #[.int .i64 (m1 - m0)] 3)) from ⟨HH.out.1.alloc _, HH.out.2.alloc HH.out.2.size _⟩)
          refine hK.out _ _ HHA.out (fun hHeld => ?_)
          clear hK K
          try simp only [Act.put, List.setIfInBounds_toArray, List.set_cons_zero, List.set_cons_succ]
          refine wpAnyH_ready (rs := [9]) (by kernel_rfl) (by simp) ?_
          refine AllReadyH.cons rfl (fun K hK => ?_) AllReadyH.nil
          refine step_append_any _ (by rfl) _ _ 22 (by rfl) w.heap.size 3 i0 _ 1 8 Try.underlying22 hi0 hz0 hz1 hz2 rfl (by omega) _ 1 [.int .i64 r0] (by rfl) (HROW.out.alloc _) _ _ 1 1 [.int .i64 (m1 - m0)] (by rfl) (reads_one w3 (.int .i64 (m1 - m0)) 3) (by simp [Value.oneCell']) (by simp only [maxLen] <;> omega) (by omega) HHA.out.2.size ?_
          intro v6 w6 hown hgr hor
          obtain ⟨C6, q6, rfl⟩ := own_form hown
          simp only [List.nil_append, List.cons_append, Nat.reduceAdd] at hown
          have HOWN := hide hown
          have HH6 := hide (show (fun w' => Blk w' v.heap.size 75 #[.slice (some ⟨g0, 0, none⟩) 2 q0, .slice (some ⟨g1, 0, none⟩) 2 q1] ∧ Below w.heap.size w w') w6 from ⟨HHA.out.1.grown hgr (fun e => own_blk_ne (HROW.out.alloc _) HHA.out.1 (by decide) e.symm), Below.app HH.out.2 HROW.out hgr⟩)
          clear hown hor
          refine hK.out _ _ HH6.out (fun hHeld => ?_)
          clear hK K
          try simp only [Act.put, List.setIfInBounds_toArray]
          refine take_at (i := 10) 6 (v := .slice C6 2 q6) rfl rfl (by kernel_rfl) (by kernel_rfl) (by kernel_rfl) (fun _ _ _ h => h) (Or.inl ⟨by rfl, by intro w hSw; go_simp⟩) (by assumption) ?_
          try simp only [Act.put]
          refine wpAnyH_done (by kernel_rfl) ?_ _
          rw [← HRR1.out.symm.trans HEM.out] at HOWN
          have HEND := hide HH6.out.2
          clear HH HHA HH6
          go_wp2
          simp only [rounds_succ]
          go_wp2
          go_ret
          exact ⟨C6, q6, rfl, HOWN.out, HEND.out⟩

end Go.Proofs.Ytehcmhblppjalaa
