import Derived.Test.YtfolipkbcibgdaaGrK
namespace Go.Proofs.Ytfolipkbcibgdaa
open Go.RowKit Go.WideShapes Go.ChangeShapes

/-! fits and busy -/
set_option maxRecDepth 100000 in
set_option maxHeartbeats 8000000 in
theorem fits_all (nmv : Value) (ce wi : Int) (PA SA : Option Addr) (pc sc : Nat) (P : List Prt) (S : List Sig) (a : Alo) (w : World) (hc : OkCr ce wi P S) (ha : OkAl P a) (hP : Prts w PA P) (hS : Sigs w SA S) :
    Calls Try.prog 26 #[.agg #[nmv, .int .i64 ce, .int .i64 wi, .slice PA P.length pc, .slice SA S.length sc], .agg #[.int .i64 a.pa, .int .i64 a.sf, .int .i64 a.sl, .int .i64 a.sy, .int .i64 a.sn, .int .i64 a.bk, .int .i64 a.bn]] w fun e w' => e = .returned (.bool (fitsB ce P S a)) ∧ Below w.heap.size w w' := by
  have hmf : ∀ (fn : Fn) (first cap : Array Value) (w : World), (Instr.makeFunc fn first cap).run Try.prog w = .ok (.func fn first cap) w := fun _ _ _ _ => rfl
  have HAL := hide (fun W k => allocation_all nmv ce wi PA SA pc sc P S a W hc ha k)
  have HCO := hide (fun g q3 W k k2 => contains_fits nmv ce wi PA SA pc sc P S a g (w.heap.size + 1) w.heap.size q3 S SA sc W hc ha hc.ss (by have := hc.sn; omega) k k2)
  have HT : Hid (Stay ((w.alloc (.cells #[nmv, .int .i64 ce, .int .i64 wi, .slice PA P.length pc, .slice SA S.length sc] 58)).alloc (.cells #[.int .i64 a.pa, .int .i64 a.sf, .int .i64 a.sl, .int .i64 a.sy, .int .i64 a.sn, .int .i64 a.bk, .int .i64 a.bn] 34)) (fun W => (((Blk W w.heap.size 58 #[nmv, .int .i64 ce, .int .i64 wi, .slice PA P.length pc, .slice SA S.length sc] ∧ Blk W (w.heap.size + 1) 34 #[.int .i64 a.pa, .int .i64 a.sf, .int .i64 a.sl, .int .i64 a.sy, .int .i64 a.sn, .int .i64 a.bk, .int .i64 a.bn]) ∧ Below w.heap.size w W) ∧ Prts W PA P) ∧ Sigs W SA S)) := hide
    ((((((stay_blk (Blk.new w 58 #[nmv, .int .i64 ce, .int .i64 wi, .slice PA P.length pc, .slice SA S.length sc])).alloc (.cells #[.int .i64 a.pa, .int .i64 a.sf, .int .i64 a.sl, .int .i64 a.sy, .int .i64 a.sn, .int .i64 a.bk, .int .i64 a.bn] 34)).and (stay_blk (blk_up w 58 34 #[nmv, .int .i64 ce, .int .i64 wi, .slice PA P.length pc, .slice SA S.length sc] #[.int .i64 a.pa, .int .i64 a.sf, .int .i64 a.sl, .int .i64 a.sy, .int .i64 a.sn, .int .i64 a.bk, .int .i64 a.bn]))).and (stay_below (((Below.refl _ w).alloc (Nat.le_refl _) (.cells #[nmv, .int .i64 ce, .int .i64 wi, .slice PA P.length pc, .slice SA S.length sc] 58)).alloc (by simp) (.cells #[.int .i64 a.pa, .int .i64 a.sf, .int .i64 a.sl, .int .i64 a.sy, .int .i64 a.sn, .int .i64 a.bk, .int .i64 a.bn] 34)))).and (((stay_rws hP).alloc (.cells #[nmv, .int .i64 ce, .int .i64 wi, .slice PA P.length pc, .slice SA S.length sc] 58)).alloc (.cells #[.int .i64 a.pa, .int .i64 a.sf, .int .i64 a.sl, .int .i64 a.sy, .int .i64 a.sn, .int .i64 a.bk, .int .i64 a.bn] 34))).and (((stay_rws hS).alloc (.cells #[nmv, .int .i64 ce, .int .i64 wi, .slice PA P.length pc, .slice SA S.length sc] 58)).alloc (.cells #[.int .i64 a.pa, .int .i64 a.sf, .int .i64 a.sl, .int .i64 a.sy, .int .i64 a.sn, .int .i64 a.bk, .int .i64 a.bn] 34)))
  unfold fitsB
  obtain ⟨V, hV⟩ : ∃ v, (S.any fun x => clashB ce P x a) = v := ⟨_, rfl⟩
  rw [hV] at HCO ⊢
  clear hV hc ha hP hS
  obtain ⟨W0, hW0⟩ : ∃ W0, (w.alloc (.cells #[nmv, .int .i64 ce, .int .i64 wi, .slice PA P.length pc, .slice SA S.length sc] 58)).alloc (.cells #[.int .i64 a.pa, .int .i64 a.sf, .int .i64 a.sl, .int .i64 a.sy, .int .i64 a.sn, .int .i64 a.bk, .int .i64 a.bn] 34) = W0 := ⟨_, rfl⟩
  rw [hW0] at HT
  have qq0 : W0.cell? ⟨w.heap.size, 0, none⟩ = some (nmv) := HT.out.now.1.1.1.1.cell 0
  have qq1 : W0.cell? ⟨w.heap.size, 1, none⟩ = some (.int .i64 ce) := HT.out.now.1.1.1.1.cell 1
  have qq2 : W0.cell? ⟨w.heap.size, 2, none⟩ = some (.int .i64 wi) := HT.out.now.1.1.1.1.cell 2
  have qq3 : W0.cell? ⟨w.heap.size, 3, none⟩ = some (.slice PA P.length pc) := HT.out.now.1.1.1.1.cell 3
  have qq4 : W0.cell? ⟨w.heap.size, 4, none⟩ = some (.slice SA S.length sc) := HT.out.now.1.1.1.1.cell 4
  have aa0 : W0.cell? ⟨w.heap.size + 1, 0, none⟩ = some (.int .i64 a.pa) := HT.out.now.1.1.1.2.cell 0
  have aa1 : W0.cell? ⟨w.heap.size + 1, 1, none⟩ = some (.int .i64 a.sf) := HT.out.now.1.1.1.2.cell 1
  have aa2 : W0.cell? ⟨w.heap.size + 1, 2, none⟩ = some (.int .i64 a.sl) := HT.out.now.1.1.1.2.cell 2
  have aa3 : W0.cell? ⟨w.heap.size + 1, 3, none⟩ = some (.int .i64 a.sy) := HT.out.now.1.1.1.2.cell 3
  have aa4 : W0.cell? ⟨w.heap.size + 1, 4, none⟩ = some (.int .i64 a.sn) := HT.out.now.1.1.1.2.cell 4
  have aa5 : W0.cell? ⟨w.heap.size + 1, 5, none⟩ = some (.int .i64 a.bk) := HT.out.now.1.1.1.2.cell 5
  have aa6 : W0.cell? ⟨w.heap.size + 1, 6, none⟩ = some (.int .i64 a.bn) := HT.out.now.1.1.1.2.cell 6
  go_enter Try.func26, Try.ntmps26
  first | rw [hW0] | skip
  go_wp2_with fail
  go_at_call 45
  refine (HAL.out _ HT.out.now.1.2).mono ?_
  rintro e w1 ⟨g, rfl, hcv, -, hb⟩
  replace HT := hide ((HT.out.step hb).and (stay_cov hcv))
  clear hb hcv hW0 HAL qq0 qq1 qq2 qq3 qq4 aa0 aa1 aa2 aa3 aa4 aa5 aa6
  simp only []
  have HE : Hid (Env nmv ce wi PA SA pc sc P S a g (w.heap.size + 1) w.heap.size w1.heap.size (w1.alloc (.cells #[.pointer (some ⟨g, 0, none⟩)] 93))) := hide (by
    have h := (HT.out.alloc (.cells #[.pointer (some ⟨g, 0, none⟩)] 93)).now
    exact ⟨h.1.1.1.1.2, h.1.1.1.1.1, (Blk.new w1 93 #[.pointer (some ⟨g, 0, none⟩)]).cell 0, h.2, h.1.1.2⟩)
  have hca : (w1.alloc (.cells #[.pointer (some ⟨g, 0, none⟩)] 93)).cell? ⟨w.heap.size, 4, none⟩ = some (.slice SA S.length sc) := HE.out.cr.cell 4
  have HS2 := hide ((HT.out.alloc (.cells #[.pointer (some ⟨g, 0, none⟩)] 93)).now.1.2)
  have HB2 := hide ((HT.out.alloc (.cells #[.pointer (some ⟨g, 0, none⟩)] 93)).now.1.1.1.2)
  clear HT
  go_wp2_with fail
  go_at_call 46
  refine (HCO.out g w1.heap.size _ HS2.out HE.out).mono ?_
  rintro e w2 ⟨rfl, hb⟩
  have hfin := hide (Below.step HB2.out hb)
  clear hb hca HE HS2 HB2 HCO
  simp only []
  go_wp2_with fail
  go_ret
  exact ⟨rfl, hfin.out⟩
set_option maxRecDepth 100000 in
set_option maxHeartbeats 8000000 in
theorem busy_all (nmv : Value) (ce wi : Int) (PA SA : Option Addr) (pc sc : Nat) (P : List Prt) (S : List Sig) (a : Alo) (l : List Alo) (D : Option Addr) (d : Nat) (w : World) (hc : OkCr ce wi P S) (ha : OkAl P a) (hl : ∀ x ∈ l, OkAl P x) (hlen : l.length ≤ 1000) (hP : Prts w PA P) (hS : Alos w D l) :
    Calls Try.prog 27 #[.agg #[nmv, .int .i64 ce, .int .i64 wi, .slice PA P.length pc, .slice SA S.length sc], .slice D l.length d, .agg #[.int .i64 a.pa, .int .i64 a.sf, .int .i64 a.sl, .int .i64 a.sy, .int .i64 a.sn, .int .i64 a.bk, .int .i64 a.bn]] w fun e w' => e = .returned (.bool (busyB P l a)) ∧ Below w.heap.size w w' := by
  have hmf : ∀ (fn : Fn) (first cap : Array Value) (w : World), (Instr.makeFunc fn first cap).run Try.prog w = .ok (.func fn first cap) w := fun _ _ _ _ => rfl
  have HAL := hide (fun W k => allocation_all nmv ce wi PA SA pc sc P S a W hc ha k)
  have HCO := hide (fun g q3 W k k2 => contains_busy nmv ce wi PA SA pc sc P S a g (w.heap.size + 1) w.heap.size q3 l D d W hc ha hl hlen k k2)
  have HT : Hid (Stay ((w.alloc (.cells #[nmv, .int .i64 ce, .int .i64 wi, .slice PA P.length pc, .slice SA S.length sc] 58)).alloc (.cells #[.int .i64 a.pa, .int .i64 a.sf, .int .i64 a.sl, .int .i64 a.sy, .int .i64 a.sn, .int .i64 a.bk, .int .i64 a.bn] 34)) (fun W => (((Blk W w.heap.size 58 #[nmv, .int .i64 ce, .int .i64 wi, .slice PA P.length pc, .slice SA S.length sc] ∧ Blk W (w.heap.size + 1) 34 #[.int .i64 a.pa, .int .i64 a.sf, .int .i64 a.sl, .int .i64 a.sy, .int .i64 a.sn, .int .i64 a.bk, .int .i64 a.bn]) ∧ Below w.heap.size w W) ∧ Prts W PA P) ∧ Alos W D l)) := hide
    ((((((stay_blk (Blk.new w 58 #[nmv, .int .i64 ce, .int .i64 wi, .slice PA P.length pc, .slice SA S.length sc])).alloc (.cells #[.int .i64 a.pa, .int .i64 a.sf, .int .i64 a.sl, .int .i64 a.sy, .int .i64 a.sn, .int .i64 a.bk, .int .i64 a.bn] 34)).and (stay_blk (blk_up w 58 34 #[nmv, .int .i64 ce, .int .i64 wi, .slice PA P.length pc, .slice SA S.length sc] #[.int .i64 a.pa, .int .i64 a.sf, .int .i64 a.sl, .int .i64 a.sy, .int .i64 a.sn, .int .i64 a.bk, .int .i64 a.bn]))).and (stay_below (((Below.refl _ w).alloc (Nat.le_refl _) (.cells #[nmv, .int .i64 ce, .int .i64 wi, .slice PA P.length pc, .slice SA S.length sc] 58)).alloc (by simp) (.cells #[.int .i64 a.pa, .int .i64 a.sf, .int .i64 a.sl, .int .i64 a.sy, .int .i64 a.sn, .int .i64 a.bk, .int .i64 a.bn] 34)))).and (((stay_rws hP).alloc (.cells #[nmv, .int .i64 ce, .int .i64 wi, .slice PA P.length pc, .slice SA S.length sc] 58)).alloc (.cells #[.int .i64 a.pa, .int .i64 a.sf, .int .i64 a.sl, .int .i64 a.sy, .int .i64 a.sn, .int .i64 a.bk, .int .i64 a.bn] 34))).and (((stay_rws hS).alloc (.cells #[nmv, .int .i64 ce, .int .i64 wi, .slice PA P.length pc, .slice SA S.length sc] 58)).alloc (.cells #[.int .i64 a.pa, .int .i64 a.sf, .int .i64 a.sl, .int .i64 a.sy, .int .i64 a.sn, .int .i64 a.bk, .int .i64 a.bn] 34)))
  unfold busyB
  obtain ⟨V, hV⟩ : ∃ v, (l.any fun x => busyB1 P x a) = v := ⟨_, rfl⟩
  rw [hV] at HCO ⊢
  clear hV hc ha hl hlen hP hS
  obtain ⟨W0, hW0⟩ : ∃ W0, (w.alloc (.cells #[nmv, .int .i64 ce, .int .i64 wi, .slice PA P.length pc, .slice SA S.length sc] 58)).alloc (.cells #[.int .i64 a.pa, .int .i64 a.sf, .int .i64 a.sl, .int .i64 a.sy, .int .i64 a.sn, .int .i64 a.bk, .int .i64 a.bn] 34) = W0 := ⟨_, rfl⟩
  rw [hW0] at HT
  have qq0 : W0.cell? ⟨w.heap.size, 0, none⟩ = some (nmv) := HT.out.now.1.1.1.1.cell 0
  have qq1 : W0.cell? ⟨w.heap.size, 1, none⟩ = some (.int .i64 ce) := HT.out.now.1.1.1.1.cell 1
  have qq2 : W0.cell? ⟨w.heap.size, 2, none⟩ = some (.int .i64 wi) := HT.out.now.1.1.1.1.cell 2
  have qq3 : W0.cell? ⟨w.heap.size, 3, none⟩ = some (.slice PA P.length pc) := HT.out.now.1.1.1.1.cell 3
  have qq4 : W0.cell? ⟨w.heap.size, 4, none⟩ = some (.slice SA S.length sc) := HT.out.now.1.1.1.1.cell 4
  have aa0 : W0.cell? ⟨w.heap.size + 1, 0, none⟩ = some (.int .i64 a.pa) := HT.out.now.1.1.1.2.cell 0
  have aa1 : W0.cell? ⟨w.heap.size + 1, 1, none⟩ = some (.int .i64 a.sf) := HT.out.now.1.1.1.2.cell 1
  have aa2 : W0.cell? ⟨w.heap.size + 1, 2, none⟩ = some (.int .i64 a.sl) := HT.out.now.1.1.1.2.cell 2
  have aa3 : W0.cell? ⟨w.heap.size + 1, 3, none⟩ = some (.int .i64 a.sy) := HT.out.now.1.1.1.2.cell 3
  have aa4 : W0.cell? ⟨w.heap.size + 1, 4, none⟩ = some (.int .i64 a.sn) := HT.out.now.1.1.1.2.cell 4
  have aa5 : W0.cell? ⟨w.heap.size + 1, 5, none⟩ = some (.int .i64 a.bk) := HT.out.now.1.1.1.2.cell 5
  have aa6 : W0.cell? ⟨w.heap.size + 1, 6, none⟩ = some (.int .i64 a.bn) := HT.out.now.1.1.1.2.cell 6
  go_enter Try.func27, Try.ntmps27
  first | rw [hW0] | skip
  go_wp2_with fail
  go_at_call 45
  refine (HAL.out _ HT.out.now.1.2).mono ?_
  rintro e w1 ⟨g, rfl, hcv, -, hb⟩
  replace HT := hide ((HT.out.step hb).and (stay_cov hcv))
  clear hb hcv hW0 HAL qq0 qq1 qq2 qq3 qq4 aa0 aa1 aa2 aa3 aa4 aa5 aa6
  simp only []
  have HE : Hid (Env nmv ce wi PA SA pc sc P S a g (w.heap.size + 1) w.heap.size w1.heap.size (w1.alloc (.cells #[.pointer (some ⟨g, 0, none⟩)] 93))) := hide (by
    have h := (HT.out.alloc (.cells #[.pointer (some ⟨g, 0, none⟩)] 93)).now
    exact ⟨h.1.1.1.1.2, h.1.1.1.1.1, (Blk.new w1 93 #[.pointer (some ⟨g, 0, none⟩)]).cell 0, h.2, h.1.1.2⟩)
  have HS2 := hide ((HT.out.alloc (.cells #[.pointer (some ⟨g, 0, none⟩)] 93)).now.1.2)
  have HB2 := hide ((HT.out.alloc (.cells #[.pointer (some ⟨g, 0, none⟩)] 93)).now.1.1.1.2)
  clear HT
  go_wp2_with fail
  go_at_call 50
  refine (HCO.out g w1.heap.size _ HS2.out HE.out).mono ?_
  rintro e w2 ⟨rfl, hb⟩
  have hfin := hide (Below.step HB2.out hb)
  clear hb HE HS2 HB2 HCO
  simp only []
  go_wp2_with fail
  go_ret
  exact ⟨rfl, hfin.out⟩
end Go.Proofs.Ytfolipkbcibgdaa
