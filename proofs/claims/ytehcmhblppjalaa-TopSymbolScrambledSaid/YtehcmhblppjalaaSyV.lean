import Derived.Test.YtehcmhblppjalaaSyU
namespace Go.Proofs.Ytehcmhblppjalaa
open Go.RowKit Go.WideShapes Go.ChangeShapes

/-! what one number of order four says of its bits (program) -/
def levs (k : Nat) : List Int := ([-3, -1, 1, 3] : List Int).take k
theorem levs_succ : ∀ k, k < 4 → iv (levs (k + 1)) = iv (levs k) ++ [.int .i64 (2 * (k : Int) - 3)]
  | 0, _ => rfl
  | 1, _ => rfl
  | 2, _ => rfl
  | 3, _ => rfl
set_option maxRecDepth 100000 in
set_option maxHeartbeats 8000000 in
theorem judged_sy (bg cg : Nat) (w : World) (h5 : w.cell? ⟨bg, 0, none⟩ = some (.int .i64 5)) (h1 : w.cell? ⟨bg, 1, none⟩ = some (.int .i64 1)) :
    Calls Try.prog 33 #[.agg #[.int .i64 4, .int .i64 2, .slice (some ⟨bg, 0, none⟩) 1 cg], .func (.func 34) #[] #[]] w fun e w' => ∃ C q, e = .returned (.slice C 4 q) ∧
      w'.ownsRow w.heap.size 3 1 (.slice C 4 q) 4 (iv [48, 8, -8, 24]) ∧ Below w.heap.size w w' := by
  obtain ⟨i0, hi0, hz0, hz1, hz2⟩ := info_parts int_info
  have HJ5 := hide (fun gL gP gF c1 A1 vg W hL hs hP hF => judged1 5 gL gP gF c1 A1 vg W (by omega) hL hs hP hF 48 (-8) rfl rfl)
  have HJ1 := hide (fun gL gP gF c1 A1 vg W hL hs hP hF => judged1 1 gL gP gF c1 A1 vg W (by omega) hL hs hP hF 8 24 rfl rfl)
  have hmf : ∀ (fn : Fn) (first cap : Array Value) (w : World), (Instr.makeFunc fn first cap).run Try.prog w = .ok (.func fn first cap) w := fun _ _ _ _ => rfl
  have HR0 := hide (show iv (levs 0) = [] from rfl)
  have HG := hide (fun W (h : Below w.heap.size w W) => show W.cell? ⟨bg, 0, none⟩ = some (.int .i64 5) ∧ W.cell? ⟨bg, 1, none⟩ = some (.int .i64 1) from ⟨(h.cell (lt_of_cell h5)).trans h5, (h.cell (lt_of_cell h1)).trans h1⟩)
  obtain ⟨vg, hvg⟩ : ∃ v, Value.slice (some ⟨bg, 0, none⟩) 1 cg = v := ⟨_, rfl⟩
  have HP := hide (((stay_new w 45 #[.int .i64 4, .int .i64 2, .slice (some ⟨bg, 0, none⟩) 1 cg]).alloc (.cells #[.func (.func 34) #[] #[]] 77)).and (stay_blk (Blk.newN (w.alloc (.cells #[.int .i64 4, .int .i64 2, .slice (some ⟨bg, 0, none⟩) 1 cg] 45)) 77 #[.func (.func 34) #[] #[]] (g := w.heap.size + 1) (by simp))))
  have HB0 := hide (show Below w.heap.size w ((w.alloc (.cells #[.int .i64 4, .int .i64 2, .slice (some ⟨bg, 0, none⟩) 1 cg] 45)).alloc (.cells #[.func (.func 34) #[] #[]] 77)) from by go_grown)
  have HZ0 := hide (show ((w.alloc (.cells #[.int .i64 4, .int .i64 2, .slice (some ⟨bg, 0, none⟩) 1 cg] 45)).alloc (.cells #[.func (.func 34) #[] #[]] 77)).heap.size = w.heap.size + 2 by simp)
  clear hvg h5 h1
  go_enter Try.func33, Try.ntmps33
  go_wp2
  obtain ⟨v, hv⟩ : ∃ W, ((w.alloc (.cells #[.int .i64 4, .int .i64 2, .slice (some ⟨bg, 0, none⟩) 1 cg] 45)).alloc (.cells #[.func (.func 34) #[] #[]] 77)) = W := ⟨_, rfl⟩
  rw [hv] at HP HB0 HZ0 ⊢
  clear hv
  go_loopw [7] (fun i wr => ∃ (k : Nat) (C : Option Addr) (q : Nat), k ≤ 4 ∧ i = .int .i64 (2 * (k : Int) - 3) ∧ Blk wr (w.heap.size + 1 + 1) 22 #[.slice C k q] ∧ wr.ownsRow v.heap.size 3 1 (.slice C k q) k (iv (levs k)) ∧ Below v.heap.size v wr) (fun i _ => (5 - intOf i).toNat)
  case atStart => exact ⟨0, none, 0, by omega, rfl, Blk.newN v _ _ HZ0.out, by rw [HR0.out]; exact World.ownsRow_nil _ _ _ _, by go_grown⟩
  case round =>
    obtain ⟨k, C, q, hk, rfl, hL, hrow, hbel⟩ := hrel
    have HL := hide hL
    have HROW := hide hrow
    have HBE := hide hbel
    have hbz := hbel.size
    have hz := HZ0.out
    have k0 := hL.cell 0
    have f0 := hL.frozen 0
    by_cases hlt : k < 4
    · have HN := hide (levs_succ k hlt)
      clear hL hrow hbel
      go_wp2_with (at_builtin
                   refine wpList_append_any _ rfl (.tmp 27) (.tmp 29) _ rfl v.heap.size 3 i0 _ 1 8 Try.underlying22 hi0 hz0 hz1 hz2 rfl (by omega) _ k (iv (levs k)) rfl
                     (HROW.out.alloc _) (wr.heap.size + 1) (some ⟨wr.heap.size, 0, none⟩) 1 1 [.int .i64 (2 * (k : Int) - 3)] rfl (reads_one wr (.int .i64 (2 * (k : Int) - 3)) 3) (by simp [Value.oneCell']) (by simp only [maxLen] <;> omega) (by omega) (by simp <;> omega) ?_
                   intro v' w6 hown' hgrow _
                   obtain ⟨C2, q2, rfl⟩ := own_form hown'
                   have HLa := hide (HL.out.alloc (.cells #[.int .i64 (2 * (k : Int) - 3)] 3))
                   have HL6 := hide (HLa.out.grown hgrow (fun e => own_blk_ne (HROW.out.alloc _) HLa.out (by decide) e.symm))
                   have c6 := HL6.out.cell 0
                   have f6 := HL6.out.frozen 0
                   have HO6 := hide hown'
                   have HB6 := hide (Below.app HBE.out HROW.out hgrow)
                   clear hown' hgrow)
      go_roundw
      case rel => exact ⟨k + 1, C2, q2, by omega, by go_num, HL6.out.set_ 0 _, by rw [HN.out]; exact own_far HO6.out HL6.out (by decide), HB6.out.setCell (p := ⟨w.heap.size + 1 + 1, 0, none⟩) (by show v.heap.size ≤ w.heap.size + 1 + 1; omega) _⟩
      case measure => simp [intOf]; omega
    · obtain rfl : k = 4 := by omega
      clear hL hrow hbel
      have p2 := (HP.out wr HBE.out).1.cell 2
      have HX := hide (((stay_blk HL.out).and (stay_sl (Sl.of_ownN HROW.out))).and (HP.step HBE.out))
      have HBW := hide (Below.step HB0.out HBE.out)
      obtain ⟨g0, g1⟩ := HG.out wr HBW.out
      clear HL HROW HP hz k0 f0 hbz HR0
      go_wp2
      refine wp_loop_rounds 2 ?_
      rw [rounds_succ]
      go_wp2
      have HH := hide (show (fun W => Blk W wr.heap.size 43 #[.int .i64 5, .int .i64 1] ∧ Below wr.heap.size wr W) (wr.alloc (.cells #[.int .i64 5, .int .i64 1] 43)).drew from ⟨Blk.new wr _ _, below_drewN ((Below.refl _ _).alloc (Nat.le_refl _) _) 1⟩)
      refine wp_region_held_drew (S := fun W => Blk W wr.heap.size 43 #[.int .i64 5, .int .i64 1] ∧ Below wr.heap.size wr W) (by kernel_rfl) HH.out (fun hHeld => ?_)
      refine take_at (i := 0) 39 (v := .func (.func 41) #[] #[.pointer (some ⟨w.heap.size + 1 + 1, 0, none⟩), .pointer (some ⟨w.heap.size, 0, none⟩), .pointer (some ⟨w.heap.size + 1, 0, none⟩)]) rfl rfl (by kernel_rfl) (by kernel_rfl) (by kernel_rfl) (fun _ _ _ h => h) (Or.inl ⟨by rfl, by intro w hSw; go_simp⟩) (by assumption) ?_
      try simp only [Act.put, List.setIfInBounds_toArray, List.set_cons_zero, List.set_cons_succ]
      refine take_at (i := 1) 40 (v := .pointer (some ⟨wr.heap.size, 0, none⟩)) rfl rfl (by kernel_rfl) (by kernel_rfl) (by kernel_rfl) (fun _ _ _ h => h) (Or.inl ⟨by rfl, by intro w hSw; go_simp⟩) (by assumption) ?_
      try simp only [Act.put, List.setIfInBounds_toArray, List.set_cons_zero, List.set_cons_succ]
      refine take_at (i := 2) 41 (v := .int .i64 5) rfl rfl (by kernel_rfl) (by kernel_rfl) (by kernel_rfl) (fun _ _ _ h => h) (Or.inl ⟨by rfl, by intro w1 hSw; have q0 := hSw.1.cell 0; go_simp⟩) (by assumption) ?_
      try simp only [Act.put, List.setIfInBounds_toArray, List.set_cons_zero, List.set_cons_succ]
      refine take_at (i := 4) 43 (v := .func (.func 41) #[] #[.pointer (some ⟨w.heap.size + 1 + 1, 0, none⟩), .pointer (some ⟨w.heap.size, 0, none⟩), .pointer (some ⟨w.heap.size + 1, 0, none⟩)]) rfl rfl (by kernel_rfl) (by kernel_rfl) (by kernel_rfl) (fun _ _ _ h => h) (Or.inl ⟨by rfl, by intro w hSw; go_simp⟩) (by assumption) ?_
      try simp only [Act.put, List.setIfInBounds_toArray, List.set_cons_zero, List.set_cons_succ]
      refine take_at (i := 5) 44 (v := .pointer (some ⟨wr.heap.size, 1, none⟩)) rfl rfl (by kernel_rfl) (by kernel_rfl) (by kernel_rfl) (fun _ _ _ h => h) (Or.inl ⟨by rfl, by intro w hSw; go_simp⟩) (by assumption) ?_
      try simp only [Act.put, List.setIfInBounds_toArray, List.set_cons_zero, List.set_cons_succ]
      refine take_at (i := 6) 45 (v := .int .i64 1) rfl rfl (by kernel_rfl) (by kernel_rfl) (by kernel_rfl) (fun _ _ _ h => h) (Or.inl ⟨by rfl, by intro w1 hSw; have q0 := hSw.1.cell 1; go_simp⟩) (by assumption) ?_
      try simp only [Act.put, List.setIfInBounds_toArray, List.set_cons_zero, List.set_cons_succ]
      obtain ⟨v0, hv0⟩ : ∃ W, (wr.alloc (.cells #[.int .i64 5, .int .i64 1] 43)).drew = W := ⟨_, rfl⟩
      rw [hv0] at HH hHeld ⊢
      clear hv0
      refine wpAnyH_ready (rs := [3]) (by kernel_rfl) (by simp) ?_
      refine AllReadyH.cons rfl (fun K hK => ?_) AllReadyH.nil
      go_simp
      refine (HJ5.out _ _ _ _ _ _ _ (HX.out _ HH.out.2).1.1 (HX.out _ HH.out.2).1.2 (HX.out _ HH.out.2).2.1 (HX.out _ HH.out.2).2.2).mono ?_
      rintro e va ⟨C5, q5, rfl, ho, hb⟩
      obtain ⟨g5, rfl, _, hq5, hc⟩ := own_cells ho (by omega)
      have HC5 := hide (fun W (h : Below va.heap.size va W) => show W.cell? ⟨g5, 0, none⟩ = some (.int .i64 48) ∧ W.cell? ⟨g5, 1, none⟩ = some (.int .i64 (-8)) from ⟨(h.cell (lt_of_cell (hc 0 _ rfl))).trans (hc 0 _ rfl), (h.cell (lt_of_cell (hc 1 _ rfl))).trans (hc 1 _ rfl)⟩)
      have HHa := hide (show (fun W => Blk W wr.heap.size 43 #[.int .i64 5, .int .i64 1] ∧ Below wr.heap.size wr W) va from ⟨HH.out.1.below hb HH.out.1.lt, Below.step HH.out.2 hb⟩)
      clear ho hb hc
      replace HH := HHa
      clear HHa
      simp only []
      refine hK.out _ _ HH.out (fun hHeld => ?_)
      clear hK K
      try simp only [Act.put, List.setIfInBounds_toArray, List.set_cons_zero, List.set_cons_succ]
      refine wpAnyH_ready (rs := [7]) (by kernel_rfl) (by simp) ?_
      refine AllReadyH.cons rfl (fun K hK => ?_) AllReadyH.nil
      go_simp
      refine (HJ1.out _ _ _ _ _ _ _ (HX.out _ HH.out.2).1.1 (HX.out _ HH.out.2).1.2 (HX.out _ HH.out.2).2.1 (HX.out _ HH.out.2).2.2).mono ?_
      rintro e vb ⟨C6, q6, rfl, ho, hb⟩
      obtain ⟨g6, rfl, _, hq6, hc⟩ := own_cells ho (by omega)
      have HC6 := hide (fun W (h : Below vb.heap.size vb W) => show (W.cell? ⟨g5, 0, none⟩ = some (.int .i64 48) ∧ W.cell? ⟨g5, 1, none⟩ = some (.int .i64 (-8))) ∧ W.cell? ⟨g6, 0, none⟩ = some (.int .i64 8) ∧ W.cell? ⟨g6, 1, none⟩ = some (.int .i64 24) from ⟨HC5.out W (Below.step hb h), (h.cell (lt_of_cell (hc 0 _ rfl))).trans (hc 0 _ rfl), (h.cell (lt_of_cell (hc 1 _ rfl))).trans (hc 1 _ rfl)⟩)
      have HHa := hide (show (fun W => Blk W wr.heap.size 43 #[.int .i64 5, .int .i64 1] ∧ Below wr.heap.size wr W) vb from ⟨HH.out.1.below hb HH.out.1.lt, Below.step HH.out.2 hb⟩)
      clear ho hb hc HC5
      replace HH := HHa
      clear HHa
      simp only []
      refine hK.out _ _ HH.out (fun hHeld => ?_)
      clear hK K
      try simp only [Act.put, List.setIfInBounds_toArray, List.set_cons_zero, List.set_cons_succ]
      refine take_at (i := 8) 12 (v := .slice (some ⟨g5, 0, none⟩) 2 q5) rfl rfl (by kernel_rfl) (by kernel_rfl) (by kernel_rfl) (fun _ _ _ h => h) (Or.inl ⟨by rfl, by intro w hSw; go_simp⟩) (by assumption) ?_
      try simp only [Act.put, List.setIfInBounds_toArray, List.set_cons_zero, List.set_cons_succ]
      refine take_at (i := 9) 13 (v := .slice (some ⟨g6, 0, none⟩) 2 q6) rfl rfl (by kernel_rfl) (by kernel_rfl) (by kernel_rfl) (fun _ _ _ h => h) (Or.inl ⟨by rfl, by intro w hSw; go_simp⟩) (by assumption) ?_
      try simp only [Act.put, List.setIfInBounds_toArray, List.set_cons_zero, List.set_cons_succ]
      refine wpAnyH_done (by kernel_rfl) ?_ _
      replace HBW := hide (Below.step HBW.out HH.out.2)
      clear HH HX HBE HJ5 HJ1 HG HZ0 HB0 g0 g1 p2
      go_wp2
      have HBB := hide (Below.refl vb.heap.size vb)
      have HRO := hide (show vb.ownsRow vb.heap.size 3 1 (.slice none 0 0) 0 [] from World.ownsRow_nil _ _ _ _)
      refine wp_loop_rounds 3 ?_
      rw [rounds_succ]
      go_wp2
      have HH := hide (show Below vb.heap.size vb vb.drew from below_drewN HBB.out 1)
      refine wp_region_held_drew (S := fun W => Below vb.heap.size vb W) (by kernel_rfl) HH.out (fun hHeld => ?_)
      refine take_at (i := 0) 52 (v := .slice none 0 0) rfl rfl (by kernel_rfl) (by kernel_rfl) (by kernel_rfl) (fun _ _ _ h => h) (Or.inl ⟨by rfl, by intro w hSw; go_simp⟩) (by assumption) ?_
      try simp only [Act.put, List.setIfInBounds_toArray, List.set_cons_zero, List.set_cons_succ]
      refine take_at (i := 1) 53 (v := .slice (some ⟨g5, 0, none⟩) 2 q5) rfl rfl (by kernel_rfl) (by kernel_rfl) (by kernel_rfl) (fun _ _ _ h => h) (Or.inl ⟨by rfl, by intro w hSw; go_simp⟩) (by assumption) ?_
      try simp only [Act.put, List.setIfInBounds_toArray, List.set_cons_zero, List.set_cons_succ]
      refine take_at (i := 2) 54 (v := .int .i64 0) rfl rfl (by kernel_rfl) (by kernel_rfl) (by kernel_rfl) (fun _ _ _ h => h) (Or.inl ⟨by rfl, by intro w hSw; go_simp⟩) (by assumption) ?_
      try simp only [Act.put, List.setIfInBounds_toArray, List.set_cons_zero, List.set_cons_succ]
      refine take_at (i := 3) 55 (v := .pointer (some ⟨g5, 0, none⟩)) rfl rfl (by kernel_rfl) (by kernel_rfl) (by kernel_rfl) (fun _ _ _ h => h) (Or.inl ⟨by rfl, by intro w hSw; go_simp⟩) (by assumption) ?_
      try simp only [Act.put, List.setIfInBounds_toArray, List.set_cons_zero, List.set_cons_succ]
      refine take_at (i := 4) 56 (v := .int .i64 48) rfl rfl (by kernel_rfl) (by kernel_rfl) (by kernel_rfl) (fun _ _ _ h => h) (Or.inl ⟨by rfl, by intro w1 hSw; have q0 := (HC6.out w1 hSw).1.1; go_simp⟩) (by assumption) ?_
      try simp only [Act.put, List.setIfInBounds_toArray, List.set_cons_zero, List.set_cons_succ]
      refine take_at (i := 5) 57 (v := .slice (some ⟨g6, 0, none⟩) 2 q6) rfl rfl (by kernel_rfl) (by kernel_rfl) (by kernel_rfl) (fun _ _ _ h => h) (Or.inl ⟨by rfl, by intro w hSw; go_simp⟩) (by assumption) ?_
      try simp only [Act.put, List.setIfInBounds_toArray, List.set_cons_zero, List.set_cons_succ]
      refine take_at (i := 6) 58 (v := .int .i64 0) rfl rfl (by kernel_rfl) (by kernel_rfl) (by kernel_rfl) (fun _ _ _ h => h) (Or.inl ⟨by rfl, by intro w hSw; go_simp⟩) (by assumption) ?_
      try simp only [Act.put, List.setIfInBounds_toArray, List.set_cons_zero, List.set_cons_succ]
      refine take_at (i := 7) 59 (v := .pointer (some ⟨g6, 0, none⟩)) rfl rfl (by kernel_rfl) (by kernel_rfl) (by kernel_rfl) (fun _ _ _ h => h) (Or.inl ⟨by rfl, by intro w hSw; go_simp⟩) (by assumption) ?_
      try simp only [Act.put, List.setIfInBounds_toArray, List.set_cons_zero, List.set_cons_succ]
      refine take_at (i := 8) 60 (v := .int .i64 8) rfl rfl (by kernel_rfl) (by kernel_rfl) (by kernel_rfl) (fun _ _ _ h => h) (Or.inl ⟨by rfl, by intro w1 hSw; have q0 := (HC6.out w1 hSw).2.1; go_simp⟩) (by assumption) ?_
      try simp only [Act.put, List.setIfInBounds_toArray, List.set_cons_zero, List.set_cons_succ]
      replace HRO := hide (show vb.drew.ownsRow vb.heap.size 3 1 (.slice none 0 0) 0 [] from HRO.out)
      obtain ⟨vc, hvx⟩ : ∃ W, vb.drew = W := ⟨_, rfl⟩
      rw [hvx] at HH hHeld HRO ⊢
      clear hvx
      refine wpAnyH_ready (rs := [9]) (by kernel_rfl) (by simp) ?_
      refine AllReadyH.cons rfl (fun K hK => ?_) AllReadyH.nil
      go_simp
      have HHA := hide (HH.out.alloc HH.out.size (.cells #[.int .i64 48, .int .i64 8] 3))
      refine hK.out _ _ HHA.out (fun hHeld => ?_)
      clear hK K
      try simp only [Act.put, List.setIfInBounds_toArray, List.set_cons_zero, List.set_cons_succ]
      refine wpAnyH_ready (rs := [10]) (by kernel_rfl) (by simp) ?_
      refine AllReadyH.cons rfl (fun K hK => ?_) AllReadyH.nil
      refine step_append_any _ (by rfl) _ _ 22 (by rfl) vb.heap.size 3 i0 _ 1 8 Try.underlying22 hi0 hz0 hz1 hz2 rfl (by omega) _ 0 [] (by rfl) (HRO.out.alloc _) _ _ 2 2 [.int .i64 48, .int .i64 8] (by rfl) ((Sl.new vc [.int .i64 48, .int .i64 8] 3 _ rfl).reads) (by simp [Value.oneCell']) (by simp only [maxLen] <;> omega) (by omega) HHA.out.size ?_
      intro v6 vd hown hgr hor
      obtain ⟨vdC, vdq, rfl⟩ := own_form hown
      have HH6 := hide (Below.app HH.out HRO.out hgr)
      replace HRO := hide hown
      clear hown hgr hor
      refine hK.out _ _ HH6.out (fun hHeld => ?_)
      clear hK K
      try simp only [Act.put, List.setIfInBounds_toArray]
      refine take_at (i := 11) 9 (v := .slice vdC 2 vdq) rfl rfl (by kernel_rfl) (by kernel_rfl) (by kernel_rfl) (fun _ _ _ h => h) (Or.inl ⟨by rfl, by intro w hSw; go_simp⟩) (by assumption) ?_
      try simp only [Act.put]
      refine wpAnyH_done (by kernel_rfl) ?_ _
      replace HBB := HH6
      clear HH HHA HH6
      go_wp2
      simp only [rounds_succ]
      go_wp2
      have HH := hide (show Below vb.heap.size vb vd.drew from below_drewN HBB.out 1)
      refine wp_region_held_drew (S := fun W => Below vb.heap.size vb W) (by kernel_rfl) HH.out (fun hHeld => ?_)
      refine take_at (i := 0) 52 (v := .slice vdC 2 vdq) rfl rfl (by kernel_rfl) (by kernel_rfl) (by kernel_rfl) (fun _ _ _ h => h) (Or.inl ⟨by rfl, by intro w hSw; go_simp⟩) (by assumption) ?_
      try simp only [Act.put, List.setIfInBounds_toArray, List.set_cons_zero, List.set_cons_succ]
      refine take_at (i := 1) 53 (v := .slice (some ⟨g5, 0, none⟩) 2 q5) rfl rfl (by kernel_rfl) (by kernel_rfl) (by kernel_rfl) (fun _ _ _ h => h) (Or.inl ⟨by rfl, by intro w hSw; go_simp⟩) (by assumption) ?_
      try simp only [Act.put, List.setIfInBounds_toArray, List.set_cons_zero, List.set_cons_succ]
      refine take_at (i := 2) 54 (v := .int .i64 1) rfl rfl (by kernel_rfl) (by kernel_rfl) (by kernel_rfl) (fun _ _ _ h => h) (Or.inl ⟨by rfl, by intro w hSw; go_simp⟩) (by assumption) ?_
      try simp only [Act.put, List.setIfInBounds_toArray, List.set_cons_zero, List.set_cons_succ]
      refine take_at (i := 3) 55 (v := .pointer (some ⟨g5, 1, none⟩)) rfl rfl (by kernel_rfl) (by kernel_rfl) (by kernel_rfl) (fun _ _ _ h => h) (Or.inl ⟨by rfl, by intro w hSw; go_simp⟩) (by assumption) ?_
      try simp only [Act.put, List.setIfInBounds_toArray, List.set_cons_zero, List.set_cons_succ]
      refine take_at (i := 4) 56 (v := .int .i64 (-8)) rfl rfl (by kernel_rfl) (by kernel_rfl) (by kernel_rfl) (fun _ _ _ h => h) (Or.inl ⟨by rfl, by intro w1 hSw; have q0 := (HC6.out w1 hSw).1.2; go_simp⟩) (by assumption) ?_
      try simp only [Act.put, List.setIfInBounds_toArray, List.set_cons_zero, List.set_cons_succ]
      refine take_at (i := 5) 57 (v := .slice (some ⟨g6, 0, none⟩) 2 q6) rfl rfl (by kernel_rfl) (by kernel_rfl) (by kernel_rfl) (fun _ _ _ h => h) (Or.inl ⟨by rfl, by intro w hSw; go_simp⟩) (by assumption) ?_
      try simp only [Act.put, List.setIfInBounds_toArray, List.set_cons_zero, List.set_cons_succ]
      refine take_at (i := 6) 58 (v := .int .i64 1) rfl rfl (by kernel_rfl) (by kernel_rfl) (by kernel_rfl) (fun _ _ _ h => h) (Or.inl ⟨by rfl, by intro w hSw; go_simp⟩) (by assumption) ?_
      try simp only [Act.put, List.setIfInBounds_toArray, List.set_cons_zero, List.set_cons_succ]
      refine take_at (i := 7) 59 (v := .pointer (some ⟨g6, 1, none⟩)) rfl rfl (by kernel_rfl) (by kernel_rfl) (by kernel_rfl) (fun _ _ _ h => h) (Or.inl ⟨by rfl, by intro w hSw; go_simp⟩) (by assumption) ?_
      try simp only [Act.put, List.setIfInBounds_toArray, List.set_cons_zero, List.set_cons_succ]
      refine take_at (i := 8) 60 (v := .int .i64 24) rfl rfl (by kernel_rfl) (by kernel_rfl) (by kernel_rfl) (fun _ _ _ h => h) (Or.inl ⟨by rfl, by intro w1 hSw; have q0 := (HC6.out w1 hSw).2.2; go_simp⟩) (by assumption) ?_
      try simp only [Act.put, List.setIfInBounds_toArray, List.set_cons_zero, List.set_cons_succ]
      replace HRO := hide (show vd.drew.ownsRow vb.heap.size 3 1 (.slice vdC 2 vdq) 2 [.int .i64 48, .int .i64 8] from HRO.out)
      obtain ⟨ve, hvx⟩ : ∃ W, vd.drew = W := ⟨_, rfl⟩
      rw [hvx] at HH hHeld HRO ⊢
      clear hvx
      refine wpAnyH_ready (rs := [9]) (by kernel_rfl) (by simp) ?_
      refine AllReadyH.cons rfl (fun K hK => ?_) AllReadyH.nil
      go_simp
      have HHA := hide (HH.out.alloc HH.out.size (.cells #[.int .i64 (-8), .int .i64 24] 3))
      refine hK.out _ _ HHA.out (fun hHeld => ?_)
      clear hK K
      try simp only [Act.put, List.setIfInBounds_toArray, List.set_cons_zero, List.set_cons_succ]
      refine wpAnyH_ready (rs := [10]) (by kernel_rfl) (by simp) ?_
      refine AllReadyH.cons rfl (fun K hK => ?_) AllReadyH.nil
      refine step_append_any _ (by rfl) _ _ 22 (by rfl) vb.heap.size 3 i0 _ 1 8 Try.underlying22 hi0 hz0 hz1 hz2 rfl (by omega) _ 2 [.int .i64 48, .int .i64 8] (by rfl) (HRO.out.alloc _) _ _ 2 2 [.int .i64 (-8), .int .i64 24] (by rfl) ((Sl.new ve [.int .i64 (-8), .int .i64 24] 3 _ rfl).reads) (by simp [Value.oneCell']) (by simp only [maxLen] <;> omega) (by omega) HHA.out.size ?_
      intro v6 vf hown hgr hor
      obtain ⟨vfC, vfq, rfl⟩ := own_form hown
      have HH6 := hide (Below.app HH.out HRO.out hgr)
      replace HRO := hide hown
      clear hown hgr hor
      refine hK.out _ _ HH6.out (fun hHeld => ?_)
      clear hK K
      try simp only [Act.put, List.setIfInBounds_toArray]
      refine take_at (i := 11) 9 (v := .slice vfC 4 vfq) rfl rfl (by kernel_rfl) (by kernel_rfl) (by kernel_rfl) (fun _ _ _ h => h) (Or.inl ⟨by rfl, by intro w hSw; go_simp⟩) (by assumption) ?_
      try simp only [Act.put]
      refine wpAnyH_done (by kernel_rfl) ?_ _
      replace HBB := HH6
      clear HH HHA HH6
      go_wp2
      simp only [rounds_succ]
      go_wp2
      simp only [rounds_succ]
      go_wp2
      go_ret
      exact ⟨vfC, vfq, rfl, HRO.out.weaken HBW.out.size, Below.step HBW.out HBB.out⟩
end Go.Proofs.Ytehcmhblppjalaa
