import Derived.Test.YtfolipkbcibgdaaGrV
namespace Go.Proofs.Ytfolipkbcibgdaa
open Go.RowKit Go.WideShapes Go.ChangeShapes

/-! open -/
theorem blk_up2 (w : World) (t t' t'' : TypeId) (cs cs' cs'' : Array Value) : Blk (((w.alloc (.cells cs t)).alloc (.cells cs' t')).alloc (.cells cs'' t'')) (w.heap.size + 2) t'' cs'' := by
  have h := Blk.new ((w.alloc (.cells cs t)).alloc (.cells cs' t')) t'' cs''
  rw [World.size_alloc, World.size_alloc] at h
  exact h
set_option maxRecDepth 100000 in
set_option maxHeartbeats 8000000 in
theorem open_ok (nm : Bs) (ce wi : Int) (PA SA : Option Addr) (pc sc : Nat) (P : List Prt) (S : List Sig) (w : World) (hnm : OkN nm) (hc : OkCr ce wi P S) (hP : Prts w PA P) (hS : Sigs w SA S) :
    Calls Try.prog 30 #[.agg #[strV nm, .int .i64 ce, .int .i64 wi, .slice PA P.length pc, .slice SA S.length sc]] w fun e w' => e = .returned (.tuple #[.agg #[strV nm, .int .i64 ce, .int .i64 wi, .slice PA P.length pc, .slice SA S.length sc], .int .i64 0]) ∧ Below w.heap.size w w' := by
  have HCC := hide (fun W k k2 => checkCarrier_ok nm ce wi PA SA pc sc P S W hnm hc k k2)
  obtain ⟨pn, hpl⟩ : ∃ x, P.length = x := ⟨_, rfl⟩
  obtain ⟨sn, hsl⟩ : ∃ x, S.length = x := ⟨_, rfl⟩
  have HT : Hid (Stay ((w.alloc (.cells #[strV nm, .int .i64 ce, .int .i64 wi, .slice PA P.length pc, .slice SA S.length sc] 25)).alloc (.cells #[.string ⟨#[]⟩, .int .i64 0, .int .i64 0, .slice none 0 0, .slice none 0 0] 58)) (fun W => ((((Blk W w.heap.size 25 #[strV nm, .int .i64 ce, .int .i64 wi, .slice PA P.length pc, .slice SA S.length sc] ∧ Blk W (w.heap.size + 1) 58 #[.string ⟨#[]⟩, .int .i64 0, .int .i64 0, .slice none 0 0, .slice none 0 0]) ∧ Below w.heap.size w W) ∧ Prts W PA P) ∧ Sigs W SA S))) := hide
    ((((((stay_blk (Blk.new w 25 #[strV nm, .int .i64 ce, .int .i64 wi, .slice PA P.length pc, .slice SA S.length sc])).alloc (.cells #[.string ⟨#[]⟩, .int .i64 0, .int .i64 0, .slice none 0 0, .slice none 0 0] 58)).and (stay_blk (blk_up w 25 58 #[strV nm, .int .i64 ce, .int .i64 wi, .slice PA P.length pc, .slice SA S.length sc] #[.string ⟨#[]⟩, .int .i64 0, .int .i64 0, .slice none 0 0, .slice none 0 0]))).and (stay_below (((Below.refl _ w).alloc (Nat.le_refl _) (.cells #[strV nm, .int .i64 ce, .int .i64 wi, .slice PA P.length pc, .slice SA S.length sc] 25)).alloc (by simp) (.cells #[.string ⟨#[]⟩, .int .i64 0, .int .i64 0, .slice none 0 0, .slice none 0 0] 58)))).and (((stay_rws hP).alloc (.cells #[strV nm, .int .i64 ce, .int .i64 wi, .slice PA P.length pc, .slice SA S.length sc] 25)).alloc (.cells #[.string ⟨#[]⟩, .int .i64 0, .int .i64 0, .slice none 0 0, .slice none 0 0] 58))).and (((stay_rws hS).alloc (.cells #[strV nm, .int .i64 ce, .int .i64 wi, .slice PA P.length pc, .slice SA S.length sc] 25)).alloc (.cells #[.string ⟨#[]⟩, .int .i64 0, .int .i64 0, .slice none 0 0, .slice none 0 0] 58)))
  clear hP hS hc hnm
  rw [hpl, hsl] at HT HCC ⊢
  clear hpl hsl
  obtain ⟨W0, hW0⟩ : ∃ W0, (w.alloc (.cells #[strV nm, .int .i64 ce, .int .i64 wi, .slice PA pn pc, .slice SA sn sc] 25)).alloc (.cells #[.string ⟨#[]⟩, .int .i64 0, .int .i64 0, .slice none 0 0, .slice none 0 0] 58) = W0 := ⟨_, rfl⟩
  rw [hW0] at HT
  have z0 : W0.cell? ⟨w.heap.size, 0, none⟩ = some (strV nm) := HT.out.now.1.1.1.1.cell 0
  have z1 : W0.cell? ⟨w.heap.size, 1, none⟩ = some (.int .i64 ce) := HT.out.now.1.1.1.1.cell 1
  have z2 : W0.cell? ⟨w.heap.size, 2, none⟩ = some (.int .i64 wi) := HT.out.now.1.1.1.1.cell 2
  have z3 : W0.cell? ⟨w.heap.size, 3, none⟩ = some (.slice PA pn pc) := HT.out.now.1.1.1.1.cell 3
  have z4 : W0.cell? ⟨w.heap.size, 4, none⟩ = some (.slice SA sn sc) := HT.out.now.1.1.1.1.cell 4
  go_enter Try.func30, Try.ntmps30
  go_wp2_with (first
    | (refine wpList_store_row rfl 58 (.tmp 2) (.tmp 12) rfl (w.heap.size + 1) #[strV nm, .int .i64 ce, .int .i64 wi, .slice PA pn pc, .slice SA sn sc] rfl rfl 58 #[.string ⟨#[]⟩, .int .i64 0, .int .i64 0, .slice none 0 0, .slice none 0 0] (HT.out _ ((Below.refl _ _).alloc (Nat.le_refl _) (.cells #[.int .i64 0, .int .i64 0] 49))).1.1.1.2 (by kernel_rfl) rfl (by simp [Value.oneCell', strV]) ?_)
    | (go_at_call 52; go_must (refine (HCC.out _ HT.out.now.1.2 HT.out.now.2).mono ?_; rintro e w1 ⟨rfl, hb⟩; replace HT := hide (HT.out.step hb); clear hb hW0 z0 z1 z2 z3 z4; have y0 := (HT.out _ ((Below.refl _ _).alloc (Nat.le_refl _) (.cells #[.int .i64 0, .int .i64 0] 49))).1.1.1.1; have x0 : (w1.alloc (.cells #[.int .i64 0, .int .i64 0] 49)).cell? ⟨w.heap.size, 0, none⟩ = some (strV nm) := y0.cell 0; have x1 : (w1.alloc (.cells #[.int .i64 0, .int .i64 0] 49)).cell? ⟨w.heap.size, 1, none⟩ = some (.int .i64 ce) := y0.cell 1; have x2 : (w1.alloc (.cells #[.int .i64 0, .int .i64 0] 49)).cell? ⟨w.heap.size, 2, none⟩ = some (.int .i64 wi) := y0.cell 2; have x3 : (w1.alloc (.cells #[.int .i64 0, .int .i64 0] 49)).cell? ⟨w.heap.size, 3, none⟩ = some (.slice PA pn pc) := y0.cell 3; have x4 : (w1.alloc (.cells #[.int .i64 0, .int .i64 0] 49)).cell? ⟨w.heap.size, 4, none⟩ = some (.slice SA sn sc) := y0.cell 4; clear y0; simp only [])))
  have HX := hide (HT.out _ ((Below.refl _ _).alloc (Nat.le_refl _) (.cells #[.int .i64 0, .int .i64 0] 49)))
  exact bodyPost_ret (results_row_tmp rfl _ _ (w.heap.size + 1) 58 #[strV nm, .int .i64 ce, .int .i64 wi, .slice PA pn pc, .slice SA sn sc] _ (.int .i64 0) rfl rfl (HX.out.1.1.1.2.row _) Try.underlying58 rfl (by kernel_rfl)) rfl ⟨rfl, Below.row HX.out.1.1.2 (by omega) _⟩
/-- allocations that are accepted together -/
structure AccL (ce : Int) (P : List Prt) (S : List Sig) (l : List Alo) : Prop where
  few : l.length ≤ 20
  ok : ∀ i (h : i < l.length), OkAl P l[i]
  fit : ∀ i (h : i < l.length), fitsB ce P S l[i] = true
  far : ∀ i (h : i < l.length), busyB P (l.take i) l[i] = false
theorem alos_now {l : List Alo} {b o : Nat} {w : World} (h : Alos w (some ⟨b, o, none⟩) l) (k : Nat) (hk : k < l.length) : w.cell? ⟨b, o + k * 7, none⟩ = some (.int .i64 (l[k]).pa) := by
  obtain ⟨b', o', e, c⟩ := h.at_ k hk
  injection e with e; injection e with e1 e2; subst e1 e2
  exact c.1
theorem alos_u : Try.prog.underlying 32 = some (.slice (Try.prog.elem 32)) := by kernel_rfl
theorem size_alo (w : World) : (sizeOf 34).run Try.prog w = .ok 7 w := by kernel_rfl
theorem slice_alos (b off len c k : Nat) (hk : k ≤ c) (hc : 0 < c) (w : World) : (Instr.sliceAt 32 (.slice (some ⟨b, off, none⟩) len c) none (some (.int .i64 (k : Int))) none).run Try.prog w = .ok (.slice (some ⟨b, off, none⟩) k c) w := by
  rw [run_sliceAt_slice w _ _ _ _ _ alos_u, run_slice_h w _ _ _ _ alos_u .i64 (k : Int) (by omega) (by omega), show Try.prog.elem 32 = 34 by kernel_rfl, size_alo]
  simp only [Result.andThen_ok, sliced, if_neg (show ¬ c = 0 by omega), Option.map_some, add_lit, Nat.zero_mul, Nat.add_zero, Nat.sub_zero, Int.toNat_natCast]
set_option maxRecDepth 100000 in
set_option maxHeartbeats 8000000 in
theorem checkAllocations_ok (nm : Bs) (ce wi : Int) (PA SA : Option Addr) (pc sc : Nat) (P : List Prt) (S : List Sig) (l : List Alo) (D : Option Addr) (d : Nat) (w : World) (hnm : OkN nm) (hc : OkCr ce wi P S) (hl : AccL ce P S l) (hd : l.length ≤ d) (hP : Prts w PA P) (hS : Sigs w SA S) (hD : Alos w D l) :
    Calls Try.prog 12 #[.agg #[strV nm, .int .i64 ce, .int .i64 wi, .slice PA P.length pc, .slice SA S.length sc], .slice D l.length d] w fun e w' => e = .returned (.tuple #[.int .i64 0, .int .i64 0]) ∧ Below w.heap.size w w' := by
  have HOP := hide (fun W k k2 => open_ok nm ce wi PA SA pc sc P S W hnm hc k k2)
  have HAL := hide (fun (a : Alo) W (ha : OkAl P a) k => alone_ok (strV nm) ce wi PA SA pc sc P S a W hc ha k)
  have HFI := hide (fun (a : Alo) W (ha : OkAl P a) k k2 => fits_all (strV nm) ce wi PA SA pc sc P S a W hc ha k k2)
  have HBU := hide (fun (i : Nat) (a : Alo) W (ha : OkAl P a) (hi : i ≤ l.length) k k2 => show Calls Try.prog 27 #[.agg #[strV nm, .int .i64 ce, .int .i64 wi, .slice PA P.length pc, .slice SA S.length sc], .slice D i d, .agg #[.int .i64 a.pa, .int .i64 a.sf, .int .i64 a.sl, .int .i64 a.sy, .int .i64 a.sn, .int .i64 a.bk, .int .i64 a.bn]] W fun e w' => e = .returned (.bool (busyB P (l.take i) a)) ∧ Below W.heap.size W w' from by
    have h := busy_all (strV nm) ce wi PA SA pc sc P S a (l.take i) D d W hc ha (fun x hx => by obtain ⟨j, hj, rfl⟩ := List.getElem_of_mem (List.mem_of_mem_take hx); exact hl.ok j hj) (by rw [List.length_take]; have := hl.few; omega) k k2
    rw [List.length_take, Nat.min_eq_left hi] at h
    exact h)
  have HLK := hide hl
  have hfew := hl.few
  obtain ⟨pn, hpl⟩ : ∃ x, P.length = x := ⟨_, rfl⟩
  obtain ⟨sn, hsl⟩ : ∃ x, S.length = x := ⟨_, rfl⟩
  obtain ⟨m, hm⟩ : ∃ x, l.length = x := ⟨_, rfl⟩
  have HT : Hid (Stay (w.alloc (.cells #[strV nm, .int .i64 ce, .int .i64 wi, .slice PA P.length pc, .slice SA S.length sc] 25)) (fun W => ((((Blk W w.heap.size 25 #[strV nm, .int .i64 ce, .int .i64 wi, .slice PA P.length pc, .slice SA S.length sc] ∧ Below w.heap.size w W) ∧ Prts W PA P) ∧ Sigs W SA S) ∧ Alos W D l))) := hide
    ((((((stay_blk (Blk.new w 25 #[strV nm, .int .i64 ce, .int .i64 wi, .slice PA P.length pc, .slice SA S.length sc]))).and (stay_below (((Below.refl _ w).alloc (Nat.le_refl _) (.cells #[strV nm, .int .i64 ce, .int .i64 wi, .slice PA P.length pc, .slice SA S.length sc] 25))))).and (((stay_rws hP).alloc (.cells #[strV nm, .int .i64 ce, .int .i64 wi, .slice PA P.length pc, .slice SA S.length sc] 25)))).and (((stay_rws hS).alloc (.cells #[strV nm, .int .i64 ce, .int .i64 wi, .slice PA P.length pc, .slice SA S.length sc] 25)))).and (((stay_rws hD).alloc (.cells #[strV nm, .int .i64 ce, .int .i64 wi, .slice PA P.length pc, .slice SA S.length sc] 25))))
  clear hP hS hD hc hnm hl
  rw [hpl, hsl] at HT HOP HAL HFI HBU ⊢
  rw [hm] at HBU hfew hd ⊢
  have g1 : (m : Int) ≤ 20 := by omega
  have g2 : m ≤ 20 := by omega
  clear hpl hsl
  obtain ⟨W0, hW0⟩ : ∃ W0, (w.alloc (.cells #[strV nm, .int .i64 ce, .int .i64 wi, .slice PA pn pc, .slice SA sn sc] 25)) = W0 := ⟨_, rfl⟩
  rw [hW0] at HT
  have z0 : W0.cell? ⟨w.heap.size, 0, none⟩ = some (strV nm) := HT.out.now.1.1.1.1.cell 0
  have z1 : W0.cell? ⟨w.heap.size, 1, none⟩ = some (.int .i64 ce) := HT.out.now.1.1.1.1.cell 1
  have z2 : W0.cell? ⟨w.heap.size, 2, none⟩ = some (.int .i64 wi) := HT.out.now.1.1.1.1.cell 2
  have z3 : W0.cell? ⟨w.heap.size, 3, none⟩ = some (.slice PA pn pc) := HT.out.now.1.1.1.1.cell 3
  have z4 : W0.cell? ⟨w.heap.size, 4, none⟩ = some (.slice SA sn sc) := HT.out.now.1.1.1.1.cell 4
  go_enter Try.func12, Try.ntmps12
  go_wp2_with (first
    | (refine wpList_store_row rfl 58 (.tmp 6) (.tmp 15) rfl w1.heap.size #[strV nm, .int .i64 ce, .int .i64 wi, .slice PA pn pc, .slice SA sn sc] rfl rfl 58 #[.string ⟨#[]⟩, .int .i64 0, .int .i64 0, .slice none 0 0, .slice none 0 0] (Blk.new w1 58 #[.string ⟨#[]⟩, .int .i64 0, .int .i64 0, .slice none 0 0, .slice none 0 0]) (by kernel_rfl) rfl (by simp [Value.oneCell', strV]) ?_; have HX := hide ((Blk.new w1 58 #[.string ⟨#[]⟩, .int .i64 0, .int .i64 0, .slice none 0 0, .slice none 0 0]).row #[strV nm, .int .i64 ce, .int .i64 wi, .slice PA pn pc, .slice SA sn sc]); replace HT := hide ((HT.out.step (Below.row (g := w1.heap.size) ((Below.refl w1.heap.size w1).alloc (Nat.le_refl _) (.cells #[.string ⟨#[]⟩, .int .i64 0, .int .i64 0, .slice none 0 0, .slice none 0 0] 58)) (Nat.le_refl _) #[strV nm, .int .i64 ce, .int .i64 wi, .slice PA pn pc, .slice SA sn sc])).and (stay_blk HX.out)); clear HX)
    | (go_at_call 30; go_must (refine (HOP.out _ HT.out.now.1.1.2 HT.out.now.1.2).mono ?_; rintro e w1 ⟨rfl, hb⟩; replace HT := hide (HT.out.step hb); clear hb hW0 z0 z1 z2 z3 z4; simp only []))
    | (go_at_call 23; go_must (refine (unless_yes _ _).mono ?_; rintro e w' ⟨rfl, rfl⟩; simp only []))
    | (go_at_call 20; go_must (refine (first_z2 _ _ (by first | rfl | simp)).mono ?_; rintro e w' ⟨rfl, rfl⟩; simp only [])))
  replace HT := hide (HT.out.alloc (.cells #[.int .i64 0, .int .i64 0] 35))
  obtain ⟨W3, hW3⟩ : ∃ W3, ((w1.alloc (.cells #[.string ⟨#[]⟩, .int .i64 0, .int .i64 0, .slice none 0 0, .slice none 0 0] 58)).setRow w1.heap.size #[strV nm, .int .i64 ce, .int .i64 wi, .slice PA pn pc, .slice SA sn sc]).alloc (.cells #[.int .i64 0, .int .i64 0] 35) = W3 := ⟨_, rfl⟩
  rw [hW3] at HT ⊢
  clear hW3 HOP
  go_loopw [29] (fun i wr => ∃ k : Nat, k ≤ m ∧ i = .int .i64 k ∧ Below W3.heap.size W3 wr) (fun i _ => m - (intOf i).toNat)
  case atStart => exact ⟨0, Nat.zero_le _, rfl, Below.refl _ _⟩
  case round =>
    obtain ⟨k, hkm, rfl, hF⟩ := hrel
    replace hF := hide hF
    by_cases hlt : k < m
    · have hkl : k < l.length := by omega
      have hki : (k : Int) < (m : Int) := by omega
      obtain ⟨b, o, rfl, b0, b1, b2, b3, b4, b5, b6⟩ := (HT.out _ hF.out).1.2.at_ k hkl
      have HA1 := hide (fun W q => HAL.out (l[k]'hkl) W (HLK.out.ok k hkl) q)
      have HF1 := hide (fun W q q2 => HFI.out (l[k]'hkl) W (HLK.out.ok k hkl) q q2)
      have HB1 := hide (fun W q q2 => HBU.out k (l[k]'hkl) W (HLK.out.ok k hkl) (by omega) q q2)
      rw [HLK.out.fit k hkl] at HF1
      rw [HLK.out.far k hkl] at HB1
      have hsli := fun W => slice_alos b o m d k (by omega) (by omega) W
      obtain ⟨a, ha⟩ : ∃ a, l[k] = a := ⟨_, rfl⟩
      rw [ha] at HA1 HF1 HB1 b0 b1 b2 b3 b4 b5 b6
      clear ha hkl
      have HQ := hide ((HT.out.step (hF.out.alloc hF.out.size (.cells #[.int .i64 a.pa, .int .i64 a.sf, .int .i64 a.sl, .int .i64 a.sy, .int .i64 a.sn, .int .i64 a.bk, .int .i64 a.bn] 34))).and (stay_blk (Blk.new wr 34 #[.int .i64 a.pa, .int .i64 a.sf, .int .i64 a.sl, .int .i64 a.sy, .int .i64 a.sn, .int .i64 a.bk, .int .i64 a.bn])))
      have z0 : (wr.alloc (.cells #[.int .i64 a.pa, .int .i64 a.sf, .int .i64 a.sl, .int .i64 a.sy, .int .i64 a.sn, .int .i64 a.bk, .int .i64 a.bn] 34)).cell? ⟨w1.heap.size, 0, none⟩ = some (strV nm) := HQ.out.now.1.2.cell 0
      have z1 : (wr.alloc (.cells #[.int .i64 a.pa, .int .i64 a.sf, .int .i64 a.sl, .int .i64 a.sy, .int .i64 a.sn, .int .i64 a.bk, .int .i64 a.bn] 34)).cell? ⟨w1.heap.size, 1, none⟩ = some (.int .i64 ce) := HQ.out.now.1.2.cell 1
      have z2 : (wr.alloc (.cells #[.int .i64 a.pa, .int .i64 a.sf, .int .i64 a.sl, .int .i64 a.sy, .int .i64 a.sn, .int .i64 a.bk, .int .i64 a.bn] 34)).cell? ⟨w1.heap.size, 2, none⟩ = some (.int .i64 wi) := HQ.out.now.1.2.cell 2
      have z3 : (wr.alloc (.cells #[.int .i64 a.pa, .int .i64 a.sf, .int .i64 a.sl, .int .i64 a.sy, .int .i64 a.sn, .int .i64 a.bk, .int .i64 a.bn] 34)).cell? ⟨w1.heap.size, 3, none⟩ = some (.slice PA pn pc) := HQ.out.now.1.2.cell 3
      have z4 : (wr.alloc (.cells #[.int .i64 a.pa, .int .i64 a.sf, .int .i64 a.sl, .int .i64 a.sy, .int .i64 a.sn, .int .i64 a.bk, .int .i64 a.bn] 34)).cell? ⟨w1.heap.size, 4, none⟩ = some (.slice SA sn sc) := HQ.out.now.1.2.cell 4
      go_wp2_with (go_at_call 24; go_must (refine (HA1.out _ HQ.out.now.1.1.1.1.2).mono ?_; rintro e w4 ⟨rfl, hb⟩; replace HQ := hide (HQ.out.step hb); replace hF := hide (Below.step (hF.out.alloc hF.out.size (.cells #[.int .i64 a.pa, .int .i64 a.sf, .int .i64 a.sl, .int .i64 a.sy, .int .i64 a.sn, .int .i64 a.bk, .int .i64 a.bn] 34)) hb); clear hb z0 z1 z2 z3 z4 b0 b1 b2 b3 b4 b5 b6; simp only []))
      refine wp_region_held_drew (S := fun w_ => Below w4.heap.size w4 w_) (by kernel_rfl) (below_drewN (Below.refl w4.heap.size w4) 1) (fun hHeld => ?_)
      refine take_at (i := 0) 41 (v := .agg #[strV nm, .int .i64 ce, .int .i64 wi, .slice PA pn pc, .slice SA sn sc]) rfl rfl (by kernel_rfl) (by kernel_rfl) (by kernel_rfl) (fun _ _ _ h => h) (Or.inl ⟨by rfl, by intro w_ hSw; have c0 : w_.cell? ⟨w1.heap.size, 0, none⟩ = some (strV nm) := (HQ.out _ hSw).1.2.cell 0; have c1 : w_.cell? ⟨w1.heap.size, 1, none⟩ = some (.int .i64 ce) := (HQ.out _ hSw).1.2.cell 1; have c2 : w_.cell? ⟨w1.heap.size, 2, none⟩ = some (.int .i64 wi) := (HQ.out _ hSw).1.2.cell 2; have c3 : w_.cell? ⟨w1.heap.size, 3, none⟩ = some (.slice PA pn pc) := (HQ.out _ hSw).1.2.cell 3; have c4 : w_.cell? ⟨w1.heap.size, 4, none⟩ = some (.slice SA sn sc) := (HQ.out _ hSw).1.2.cell 4; go_simp⟩) (by assumption) ?_
      try simp only [Act.put, List.setIfInBounds_toArray, List.set_cons_zero, List.set_cons_succ]
      refine take_at (i := 1) 42 (v := .agg #[.int .i64 a.pa, .int .i64 a.sf, .int .i64 a.sl, .int .i64 a.sy, .int .i64 a.sn, .int .i64 a.bk, .int .i64 a.bn]) rfl rfl (by kernel_rfl) (by kernel_rfl) (by kernel_rfl) (fun _ _ _ h => h) (Or.inl ⟨by rfl, by intro w_ hSw; have c0 : w_.cell? ⟨wr.heap.size, 0, none⟩ = some (.int .i64 a.pa) := (HQ.out _ hSw).2.cell 0; have c1 : w_.cell? ⟨wr.heap.size, 1, none⟩ = some (.int .i64 a.sf) := (HQ.out _ hSw).2.cell 1; have c2 : w_.cell? ⟨wr.heap.size, 2, none⟩ = some (.int .i64 a.sl) := (HQ.out _ hSw).2.cell 2; have c3 : w_.cell? ⟨wr.heap.size, 3, none⟩ = some (.int .i64 a.sy) := (HQ.out _ hSw).2.cell 3; have c4 : w_.cell? ⟨wr.heap.size, 4, none⟩ = some (.int .i64 a.sn) := (HQ.out _ hSw).2.cell 4; have c5 : w_.cell? ⟨wr.heap.size, 5, none⟩ = some (.int .i64 a.bk) := (HQ.out _ hSw).2.cell 5; have c6 : w_.cell? ⟨wr.heap.size, 6, none⟩ = some (.int .i64 a.bn) := (HQ.out _ hSw).2.cell 6; go_simp⟩) (by assumption) ?_
      try simp only [Act.put, List.setIfInBounds_toArray, List.set_cons_zero, List.set_cons_succ]
      refine take_at (i := 4) 45 (v := .agg #[strV nm, .int .i64 ce, .int .i64 wi, .slice PA pn pc, .slice SA sn sc]) rfl rfl (by kernel_rfl) (by kernel_rfl) (by kernel_rfl) (fun _ _ _ h => h) (Or.inl ⟨by rfl, by intro w_ hSw; have c0 : w_.cell? ⟨w1.heap.size, 0, none⟩ = some (strV nm) := (HQ.out _ hSw).1.2.cell 0; have c1 : w_.cell? ⟨w1.heap.size, 1, none⟩ = some (.int .i64 ce) := (HQ.out _ hSw).1.2.cell 1; have c2 : w_.cell? ⟨w1.heap.size, 2, none⟩ = some (.int .i64 wi) := (HQ.out _ hSw).1.2.cell 2; have c3 : w_.cell? ⟨w1.heap.size, 3, none⟩ = some (.slice PA pn pc) := (HQ.out _ hSw).1.2.cell 3; have c4 : w_.cell? ⟨w1.heap.size, 4, none⟩ = some (.slice SA sn sc) := (HQ.out _ hSw).1.2.cell 4; go_simp⟩) (by assumption) ?_
      try simp only [Act.put, List.setIfInBounds_toArray, List.set_cons_zero, List.set_cons_succ]
      refine take_at (i := 5) 46 (v := .slice (some ⟨b, o, none⟩) m d) rfl rfl (by kernel_rfl) (by kernel_rfl) (by kernel_rfl) (fun _ _ _ h => h) (Or.inl ⟨by rfl, by intro w_ hSw; go_simp⟩) (by assumption) ?_
      try simp only [Act.put, List.setIfInBounds_toArray, List.set_cons_zero, List.set_cons_succ]
      refine take_at (i := 6) 47 (v := .int .i64 (k : Int)) rfl rfl (by kernel_rfl) (by kernel_rfl) (by kernel_rfl) (fun _ _ _ h => h) (Or.inl ⟨by rfl, by intro w_ hSw; go_simp⟩) (by assumption) ?_
      try simp only [Act.put, List.setIfInBounds_toArray, List.set_cons_zero, List.set_cons_succ]
      refine take_at (i := 7) 48 (v := .slice (some ⟨b, o, none⟩) k d) rfl rfl (by kernel_rfl) (by kernel_rfl) (by kernel_rfl) (fun _ _ _ h => h) (Or.inl ⟨by rfl, by intro w_ hSw; go_simp⟩) (by assumption) ?_
      try simp only [Act.put, List.setIfInBounds_toArray, List.set_cons_zero, List.set_cons_succ]
      refine take_at (i := 8) 49 (v := .agg #[.int .i64 a.pa, .int .i64 a.sf, .int .i64 a.sl, .int .i64 a.sy, .int .i64 a.sn, .int .i64 a.bk, .int .i64 a.bn]) rfl rfl (by kernel_rfl) (by kernel_rfl) (by kernel_rfl) (fun _ _ _ h => h) (Or.inl ⟨by rfl, by intro w_ hSw; have c0 : w_.cell? ⟨wr.heap.size, 0, none⟩ = some (.int .i64 a.pa) := (HQ.out _ hSw).2.cell 0; have c1 : w_.cell? ⟨wr.heap.size, 1, none⟩ = some (.int .i64 a.sf) := (HQ.out _ hSw).2.cell 1; have c2 : w_.cell? ⟨wr.heap.size, 2, none⟩ = some (.int .i64 a.sl) := (HQ.out _ hSw).2.cell 2; have c3 : w_.cell? ⟨wr.heap.size, 3, none⟩ = some (.int .i64 a.sy) := (HQ.out _ hSw).2.cell 3; have c4 : w_.cell? ⟨wr.heap.size, 4, none⟩ = some (.int .i64 a.sn) := (HQ.out _ hSw).2.cell 4; have c5 : w_.cell? ⟨wr.heap.size, 5, none⟩ = some (.int .i64 a.bk) := (HQ.out _ hSw).2.cell 5; have c6 : w_.cell? ⟨wr.heap.size, 6, none⟩ = some (.int .i64 a.bn) := (HQ.out _ hSw).2.cell 6; go_simp⟩) (by assumption) ?_
      try simp only [Act.put, List.setIfInBounds_toArray, List.set_cons_zero, List.set_cons_succ]
      refine wpAnyH_ready (rs := [2]) (by kernel_rfl) (by simp) ?_
      refine AllReadyH.cons rfl (fun K hK => ?_) AllReadyH.nil
      go_simp
      go_at_call 26
      refine (HF1.out _ (HQ.out _ hHeld).1.1.1.1.2 (HQ.out _ hHeld).1.1.1.2).mono ?_
      rintro e v11_1 ⟨rfl, hb⟩
      replace hHeld := Below.step hHeld hb
      clear hb
      try simp only []
      refine hK.out _ _ hHeld (fun hHeld => ?_)
      clear hK K
      try simp only [Act.put, List.setIfInBounds_toArray, List.set_cons_zero, List.set_cons_succ]
      refine wpAnyH_ready (rs := [3]) (by kernel_rfl) (by simp) ?_
      refine AllReadyH.cons rfl (fun K hK => ?_) AllReadyH.nil
      go_simp
      go_at_call 23
      refine (unless_yes _ _).mono ?_
      rintro e w' ⟨rfl, rfl⟩
      try simp only []
      refine hK.out _ _ hHeld (fun hHeld => ?_)
      clear hK K
      try simp only [Act.put, List.setIfInBounds_toArray, List.set_cons_zero, List.set_cons_succ]
      refine wpAnyH_ready (rs := [9]) (by kernel_rfl) (by simp) ?_
      refine AllReadyH.cons rfl (fun K hK => ?_) AllReadyH.nil
      go_simp
      go_at_call 27
      refine (HB1.out _ (HQ.out _ hHeld).1.1.1.1.2 ((HQ.out _ hHeld).1.1.2.take k)).mono ?_
      rintro e v11_2 ⟨rfl, hb⟩
      replace hHeld := Below.step hHeld hb
      clear hb
      try simp only []
      refine hK.out _ _ hHeld (fun hHeld => ?_)
      clear hK K
      try simp only [Act.put, List.setIfInBounds_toArray, List.set_cons_zero, List.set_cons_succ]
      refine take_at (i := 10) 51 (v := .bool true) rfl rfl (by kernel_rfl) (by kernel_rfl) (by kernel_rfl) (fun _ _ _ h => h) (Or.inl ⟨by rfl, by intro w_ hSw; go_simp⟩) (by assumption) ?_
      try simp only [Act.put, List.setIfInBounds_toArray, List.set_cons_zero, List.set_cons_succ]
      refine wpAnyH_ready (rs := [11]) (by kernel_rfl) (by simp) ?_
      refine AllReadyH.cons rfl (fun K hK => ?_) AllReadyH.nil
      go_simp
      go_at_call 23
      refine (unless_yes _ _).mono ?_
      rintro e w' ⟨rfl, rfl⟩
      try simp only []
      refine hK.out _ _ hHeld (fun hHeld => ?_)
      clear hK K
      try simp only [Act.put, List.setIfInBounds_toArray, List.set_cons_zero, List.set_cons_succ]
      refine wpAnyH_ready (rs := [12]) (by kernel_rfl) (by simp) ?_
      refine AllReadyH.cons rfl (fun K hK => ?_) AllReadyH.nil
      go_simp
      refine hK.out _ _ (hHeld.alloc hHeld.size _) (fun hHeld => ?_)
      clear hK K
      try simp only [Act.put, List.setIfInBounds_toArray, List.set_cons_zero, List.set_cons_succ]
      refine wpAnyH_ready (rs := [13]) (by kernel_rfl) (by simp) ?_
      refine AllReadyH.cons rfl (fun K hK => ?_) AllReadyH.nil
      go_simp
      go_at_call 20
      refine (first_z2 _ _ (by first | rfl | simp)).mono ?_
      rintro e w' ⟨rfl, rfl⟩
      try simp only []
      refine hK.out _ _ hHeld (fun hHeld => ?_)
      clear hK K
      try simp only [Act.put, List.setIfInBounds_toArray, List.set_cons_zero, List.set_cons_succ]
      refine take_at (i := 14) 11 (v := .int .i64 0) rfl rfl (by kernel_rfl) (by kernel_rfl) (by kernel_rfl) (fun _ _ _ h => h) (Or.inl ⟨by rfl, by intro w_ hSw; go_simp⟩) (by assumption) ?_
      try simp only [Act.put, List.setIfInBounds_toArray, List.set_cons_zero, List.set_cons_succ]
      refine wpAnyH_done (by kernel_rfl) ?_ _
      replace hF := hide (Below.step hF.out hHeld)
      clear hHeld
      go_wp2_with fail
      go_roundw
      case rel => exact ⟨k + 1, by omega, by go_num, hF.out⟩
      case measure => simp [intOf]; omega
    · obtain rfl : k = m := by omega
      have hki : ¬ (k : Int) < (k : Int) := by omega
      go_wp2_with fail
      exact bodyPost_ret (v := .tuple #[.int .i64 0, .int .i64 0]) (by simp [results, Try.results12, go_sem]) rfl ⟨rfl, (HT.out _ hF.out).1.1.1.1.2⟩
set_option maxRecDepth 100000 in
set_option maxHeartbeats 8000000 in
theorem openAllocations_ok (nm : Bs) (ce wi : Int) (PA SA : Option Addr) (pc sc : Nat) (P : List Prt) (S : List Sig) (l : List Alo) (D : Option Addr) (d : Nat) (w : World) (hnm : OkN nm) (hc : OkCr ce wi P S) (hl : AccL ce P S l) (hd : l.length ≤ d) (hP : Prts w PA P) (hS : Sigs w SA S) (hD : Alos w D l) :
    Calls Try.prog 19 #[.agg #[strV nm, .int .i64 ce, .int .i64 wi, .slice PA P.length pc, .slice SA S.length sc], .slice D l.length d] w fun e w' => e = .returned (.tuple #[.agg #[strV nm, .int .i64 ce, .int .i64 wi, .slice PA P.length pc, .slice SA S.length sc], .int .i64 0]) ∧ Below w.heap.size w w' := by
  have HCC := hide (fun W k k2 k3 => checkAllocations_ok nm ce wi PA SA pc sc P S l D d W hnm hc hl hd k k2 k3)
  obtain ⟨pn, hpl⟩ : ∃ x, P.length = x := ⟨_, rfl⟩
  obtain ⟨sn, hsl⟩ : ∃ x, S.length = x := ⟨_, rfl⟩
  obtain ⟨m, hm⟩ : ∃ x, l.length = x := ⟨_, rfl⟩
  have HT : Hid (Stay ((w.alloc (.cells #[strV nm, .int .i64 ce, .int .i64 wi, .slice PA P.length pc, .slice SA S.length sc] 25)).alloc (.cells #[.string ⟨#[]⟩, .int .i64 0, .int .i64 0, .slice none 0 0, .slice none 0 0] 58)) (fun W => (((((Blk W w.heap.size 25 #[strV nm, .int .i64 ce, .int .i64 wi, .slice PA P.length pc, .slice SA S.length sc] ∧ Blk W (w.heap.size + 1) 58 #[.string ⟨#[]⟩, .int .i64 0, .int .i64 0, .slice none 0 0, .slice none 0 0]) ∧ Below w.heap.size w W) ∧ Prts W PA P) ∧ Sigs W SA S) ∧ Alos W D l))) := hide
    (((((((stay_blk (Blk.new w 25 #[strV nm, .int .i64 ce, .int .i64 wi, .slice PA P.length pc, .slice SA S.length sc])).alloc (.cells #[.string ⟨#[]⟩, .int .i64 0, .int .i64 0, .slice none 0 0, .slice none 0 0] 58)).and (stay_blk (blk_up w 25 58 #[strV nm, .int .i64 ce, .int .i64 wi, .slice PA P.length pc, .slice SA S.length sc] #[.string ⟨#[]⟩, .int .i64 0, .int .i64 0, .slice none 0 0, .slice none 0 0]))).and (stay_below (((Below.refl _ w).alloc (Nat.le_refl _) (.cells #[strV nm, .int .i64 ce, .int .i64 wi, .slice PA P.length pc, .slice SA S.length sc] 25)).alloc (by simp) (.cells #[.string ⟨#[]⟩, .int .i64 0, .int .i64 0, .slice none 0 0, .slice none 0 0] 58)))).and (((stay_rws hP).alloc (.cells #[strV nm, .int .i64 ce, .int .i64 wi, .slice PA P.length pc, .slice SA S.length sc] 25)).alloc (.cells #[.string ⟨#[]⟩, .int .i64 0, .int .i64 0, .slice none 0 0, .slice none 0 0] 58))).and (((stay_rws hS).alloc (.cells #[strV nm, .int .i64 ce, .int .i64 wi, .slice PA P.length pc, .slice SA S.length sc] 25)).alloc (.cells #[.string ⟨#[]⟩, .int .i64 0, .int .i64 0, .slice none 0 0, .slice none 0 0] 58))).and (((stay_rws hD).alloc (.cells #[strV nm, .int .i64 ce, .int .i64 wi, .slice PA P.length pc, .slice SA S.length sc] 25)).alloc (.cells #[.string ⟨#[]⟩, .int .i64 0, .int .i64 0, .slice none 0 0, .slice none 0 0] 58)))
  clear hP hS hD hc hnm hl hd
  rw [hpl, hsl] at HT HCC ⊢
  rw [hm] at HCC ⊢
  clear hpl hsl hm
  obtain ⟨W0, hW0⟩ : ∃ W0, (w.alloc (.cells #[strV nm, .int .i64 ce, .int .i64 wi, .slice PA pn pc, .slice SA sn sc] 25)).alloc (.cells #[.string ⟨#[]⟩, .int .i64 0, .int .i64 0, .slice none 0 0, .slice none 0 0] 58) = W0 := ⟨_, rfl⟩
  rw [hW0] at HT
  have z0 : W0.cell? ⟨w.heap.size, 0, none⟩ = some (strV nm) := HT.out.now.1.1.1.1.1.cell 0
  have z1 : W0.cell? ⟨w.heap.size, 1, none⟩ = some (.int .i64 ce) := HT.out.now.1.1.1.1.1.cell 1
  have z2 : W0.cell? ⟨w.heap.size, 2, none⟩ = some (.int .i64 wi) := HT.out.now.1.1.1.1.1.cell 2
  have z3 : W0.cell? ⟨w.heap.size, 3, none⟩ = some (.slice PA pn pc) := HT.out.now.1.1.1.1.1.cell 3
  have z4 : W0.cell? ⟨w.heap.size, 4, none⟩ = some (.slice SA sn sc) := HT.out.now.1.1.1.1.1.cell 4
  go_enter Try.func19, Try.ntmps19
  go_wp2_with (first
    | (refine wpList_store_row rfl 58 (.tmp 4) (.tmp 15) rfl (w.heap.size + 1) #[strV nm, .int .i64 ce, .int .i64 wi, .slice PA pn pc, .slice SA sn sc] rfl rfl 58 #[.string ⟨#[]⟩, .int .i64 0, .int .i64 0, .slice none 0 0, .slice none 0 0] HT.out.now.1.1.1.1.2 (by kernel_rfl) rfl (by simp [Value.oneCell', strV]) ?_)
    | (go_at_call 12; go_must (refine (HCC.out _ HT.out.now.1.1.2 HT.out.now.1.2 HT.out.now.2).mono ?_; rintro e w1 ⟨rfl, hb⟩; replace HT := hide (HT.out.step hb); clear hb hW0 z0 z1 z2 z3 z4; have x0 : w1.cell? ⟨w.heap.size, 0, none⟩ = some (strV nm) := HT.out.now.1.1.1.1.1.cell 0; have x1 : w1.cell? ⟨w.heap.size, 1, none⟩ = some (.int .i64 ce) := HT.out.now.1.1.1.1.1.cell 1; have x2 : w1.cell? ⟨w.heap.size, 2, none⟩ = some (.int .i64 wi) := HT.out.now.1.1.1.1.1.cell 2; have x3 : w1.cell? ⟨w.heap.size, 3, none⟩ = some (.slice PA pn pc) := HT.out.now.1.1.1.1.1.cell 3; have x4 : w1.cell? ⟨w.heap.size, 4, none⟩ = some (.slice SA sn sc) := HT.out.now.1.1.1.1.1.cell 4; simp only [])))
  exact bodyPost_ret (results_row_tmp rfl _ _ (w.heap.size + 1) 58 #[strV nm, .int .i64 ce, .int .i64 wi, .slice PA pn pc, .slice SA sn sc] _ (.int .i64 0) rfl rfl (HT.out.now.1.1.1.1.2.row _) Try.underlying58 rfl (by kernel_rfl)) rfl ⟨rfl, Below.row HT.out.now.1.1.1.2 (by omega) _⟩
end Go.Proofs.Ytfolipkbcibgdaa
