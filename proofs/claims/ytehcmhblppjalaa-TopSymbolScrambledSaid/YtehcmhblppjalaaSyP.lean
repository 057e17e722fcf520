import Derived.Test.YtehcmhblppjalaaSyO
namespace Go.Proofs.Ytehcmhblppjalaa
open Go.RowKit Go.WideShapes Go.ChangeShapes Go.Shelf

attribute [local go_sem] Oper.semAt_some
/-! what a register gives out, so many bits (program) -/
theorem Blk.putObjS {w : World} {g : Nat} {t : TypeId} {cs : Array Value} (h : Blk w g t cs) {row : Option Nat} {W' : World} (hg : w.grownBy W' row) (hr : ∀ r, row = some r → ∃ o : Obj, w.heap[r]? = some o ∧ o.isCells = false) : Blk W' g t cs :=
  h.grown hg (fun e => by
    obtain ⟨o, ho, hc⟩ := hr g e.symm
    unfold Blk at h
    rw [h] at ho
    injection ho with ho
    subst ho
    cases hc)
theorem own_putObj {w W' : World} {base e size n : Nat} {v : Value} {xs : List Value} (h : w.ownsRow base e size v n xs) {row : Option Nat} (hg : w.grownBy W' row) (hr : ∀ r, row = some r → ∃ o : Obj, w.heap[r]? = some o ∧ o.isCells = false) : W'.ownsRow base e size v n xs :=
  h.kept hg (by
    cases hv : v.ownBlock with
    | none => exact .inl rfl
    | some k =>
      refine .inr fun e => ?_
      obtain ⟨o, ho, hc⟩ := hr k e.symm
      rcases h.2 with ⟨rfl, _⟩ | ⟨g, cap, cur, rfl, _, hh, _⟩
      · cases hv
      · have hgk : g = k := by simpa [Value.ownBlock] using hv
        subst hgk
        rw [hh] at ho
        injection ho with ho
        subst ho
        cases hc)
theorem cells_newS (w : World) (l : List Value) (t : TypeId) : ∀ j u, l[j]? = some u → (w.alloc (.cells l.toArray t)).cell? ((⟨w.heap.size, 0, none⟩ : Addr).add j) = some u := by
  intro j u h
  have := Sl.one (Sl.new w l t w.heap.size rfl) rfl h
  rw [add_lit]
  exact this
/-- a region that cannot panic, ahead of marks -/
def OnlyN (Q : Exit → Act → World → Prop) : Exit → Act → World → Prop := fun e a w => match e with | .normal => Q .normal a w | _ => False
theorem wp_onlyN {P : Program} {c : Code} {Q : Exit → Act → World → Prop} {a : Act} {w : World} (h : c.wp P (OnlyN Q) a w) : c.wp P Q a w :=
  wp_mono h fun e a w hq => by cases e <;> first | exact hq | exact hq.elim
/-- so many bits have been given out -/
def SeqAt (w : World) (gb : Nat) (tp top x n k : Nat) (W : World) : Prop :=
  ∃ C q, Blk W gb 22 #[.slice C k q] ∧ W.ownsRow gb 3 1 (.slice C k q) k (iv (seqW tp top x k)) ∧ Blk W (w.heap.size + 1) 3 #[.int .i64 (n : Int)] ∧ Below w.heap.size w W
theorem seqAt_own {w : World} {gb tp top x n : Nat} {B : Nat} (hB : w.heap.size ≤ B) (k : Nat) (A W : World) (row : Option Nat) (h : SeqAt w gb tp top x n k A) (hg : A.grownBy W row) (hr : ∀ r, row = some r → B ≤ r ∧ ∃ o : Obj, A.heap[r]? = some o ∧ o.isCells = false) : SeqAt w gb tp top x n k W := by
  obtain ⟨C, q, h1, h2, h3, h4⟩ := h
  exact ⟨C, q, h1.putObjS hg (fun r e => (hr r e).2), own_putObj h2 hg (fun r e => (hr r e).2), h3.putObjS hg (fun r e => (hr r e).2), h4.grown hg h4.size (fun r e => Nat.le_trans hB (hr r e).1)⟩
theorem seqAt_turn {w : World} {gb tp top x n : Nat} {B : Nat} (hB : w.heap.size ≤ B) (k : Nat) (A W : World) (h : SeqAt w gb tp top x n k A) (hT : Turns 55 B A W) : SeqAt w gb tp top x n k W := by
  obtain ⟨C, q, h1, h2, h3, h4⟩ := h
  obtain ⟨row, hg, hr⟩ := hT
  have hne : ∀ {g : Nat} {t : TypeId} {cs : Array Value}, Blk A g t cs → t ≠ 55 → some g ≠ row := fun hb ht e => by
    obtain ⟨_, cs', hb'⟩ := hr _ e.symm
    exact Blk.ne_ hb hb' ht rfl
  refine ⟨C, q, h1.grown hg (hne h1 (by decide)), h2.kept hg ?_, h3.grown hg (hne h3 (by decide)), h4.grown hg h4.size (fun r e => Nat.le_trans hB (hr r e).1)⟩
  cases hrow : row with
  | none => cases hv : (Value.slice C k q).ownBlock <;> simp
  | some r =>
    obtain ⟨_, cs', hb'⟩ := hr r hrow
    exact .inr (own_blk_ne h2 hb' (by decide))
theorem seq_step {w W w6 : World} {gb tp top x n k B : Nat} {C C2 : Option Addr} {q q2 : Nat} {V : Value} (hb1 : Blk W gb 22 #[.slice C k q]) (hown : W.ownsRow gb 3 1 (.slice C k q) k (iv (seqW tp top x k)))
    (hb3 : Blk W (w.heap.size + 1) 3 #[.int .i64 (n : Int)]) (hbel : Below w.heap.size w W) (hgb : w.heap.size + 1 < gb) (hgrow : (W.alloc (.cells #[V] 3)).grownBy w6 (Value.slice C k q).ownBlock)
    (hown' : w6.ownsRow gb 3 1 (.slice C2 (k + 1) q2) (k + 1) (iv (seqW tp top x k) ++ [V])) (hL : iv (seqW tp top x (k + 1)) = iv (seqW tp top x k) ++ [V]) :
    KeepsFrom B W (w6.setCell ⟨gb, 0, none⟩ (.slice C2 (k + 1) q2)) ∧ KeepsT 55 W (w6.setCell ⟨gb, 0, none⟩ (.slice C2 (k + 1) q2)) ∧ SeqAt w gb tp top x n (k + 1) (w6.setCell ⟨gb, 0, none⟩ (.slice C2 (k + 1) q2)) := by
  have ha := hown.alloc (.cells #[V] 3)
  have hb1a := hb1.alloc (.cells #[V] 3)
  have hb6 := hb1a.grown hgrow (fun e => own_blk_ne ha hb1a (by decide) e.symm)
  have hb7 := (hb3.alloc (.cells #[V] 3)).grown hgrow (fun e => by have := (ha.lt _ e.symm).1; omega)
  refine ⟨?_, fun g cs hg => ?_, C2, q2, hb6.set_ 0 _, ?_, hb7.far (p := ⟨gb, 0, none⟩) (by show w.heap.size + 1 ≠ gb; omega) _, ?_⟩
  · have k1 : KeepsFrom B W (W.alloc (.cells #[V] 3)) := ⟨by simp, fun j o _ hj _ => (Below.heap_alloc W _ j (Array.getElem?_eq_some_iff.1 hj).1).trans hj⟩
    have k2 : KeepsFrom B (W.alloc (.cells #[V] 3)) w6 := ⟨hgrow.size, fun j o _ hj ho => (hgrow.block j (Array.getElem?_eq_some_iff.1 hj).1 (fun e => by
      rcases ha.2 with ⟨hv, _⟩ | ⟨g, cap, cur, hv, _, hh, _⟩
      · rw [hv] at e; cases e
      · rw [hv] at e
        have hgj : j = g := by simpa [Value.ownBlock] using e
        rw [hgj, hh] at hj
        injection hj with hj
        subst hj
        cases ho)).trans hj⟩
    exact (k1.trans k2).trans ((KeepsOthers.setCell w6 ⟨gb, 0, none⟩ _).from B)
  · have hga := hg.alloc (.cells #[V] 3)
    exact (hga.grown hgrow (fun e => own_blk_ne ha hga (by decide) e.symm)).far (p := ⟨gb, 0, none⟩) (Blk.ne_ hg hb1 (by decide)) _
  · rw [hL]; exact own_far hown' hb6 (by decide)
  · exact ((hbel.alloc hbel.size _).grown hgrow (by have := hbel.size; simp; omega) (fun j hj => by have := (ha.lt _ hj).1; omega)).setCell (p := ⟨gb, 0, none⟩) (by show w.heap.size ≤ gb; omega) _
set_option maxRecDepth 100000 in
set_option maxHeartbeats 8000000 in
theorem sequence_sy (top : Nat) (A1 A2 : Option Addr) (m c1 c2 n : Nat) (T B : List Int) (w : World) (hm : T.length = m) (hs1 : Sl w A1 (iv T)) (hs2 : Sl w A2 (iv B)) (hr : RgOk top T B) (hn1 : 1 ≤ n) (hn4 : n ≤ 400) :
    Calls Try.prog 10 #[.agg (rgA ((top : Int) + 1) A1 A2 m (top + 1) c1 c2), .int .i64 (n : Int)] w fun e w' => ∃ C q, e = .returned (.tuple #[.slice C n q, .int .i64 0]) ∧
      w'.ownsRow w.heap.size 3 1 (.slice C n q) n (iv (seqW (tpW T m) top (wdB B (top + 1)) n)) ∧ Below w.heap.size w w' := by
  obtain ⟨i0, hi0, hz0, hz1, hz2⟩ := info_parts int_info
  have HC := hide (fun W h1 h2 => checkReg_sy top A1 A2 m c1 c2 T B W hm h1 h2 hr)
  have HWO := hide (fun W h1 h2 => wireOf_sy top A1 A2 m c1 c2 T B W hm h1 h2 hr)
  have hx := wdB_lt hr (top + 1)
  have htp := tpW_lt hr m (by omega)
  have htop := hr.hi
  have HS1 := hide (stay_sl hs1)
  have HS2 := hide (stay_sl hs2)
  obtain ⟨x, hX⟩ : ∃ x, wdB B (top + 1) = x := ⟨_, rfl⟩
  obtain ⟨tp, hTP⟩ : ∃ x, tpW T m = x := ⟨_, rfl⟩
  rw [hX] at hx
  rw [hTP] at htp
  rw [hX, hTP] at HWO
  rw [hX, hTP]
  have HU := hide (fun e W => unless_any true e W)
  have HW1 := hide (fun W => within_sy (n : Int) 1 400 W)
  rw [show withinB (n : Int) 1 400 = true by rw [withinB_iff]; omega] at HW1
  unfold rgA
  unfold rgA at HC HWO
  clear hs1 hs2 hr hm hX hTP
  have HX := hide (show Stay ((w.alloc (.cells #[.int .i64 ((top : Int) + 1), .slice A1 m c1, .slice A2 (top + 1) c2] 24)).alloc (.cells #[.int .i64 (n : Int)] 3)) (fun W => (Blk W w.heap.size 24 #[.int .i64 ((top : Int) + 1), .slice A1 m c1, .slice A2 (top + 1) c2] ∧ Blk W (w.heap.size + 1) 3 #[.int .i64 (n : Int)]) ∧ Below w.heap.size w W) from
    ((((stay_new w 24 #[.int .i64 ((top : Int) + 1), .slice A1 m c1, .slice A2 (top + 1) c2]).alloc _).and (stay_blk (Blk.newN (w.alloc (.cells #[.int .i64 ((top : Int) + 1), .slice A1 m c1, .slice A2 (top + 1) c2] 24)) 3 #[.int .i64 (n : Int)] (g := w.heap.size + 1) (by simp)))).and (stay_below (show Below w.heap.size w ((w.alloc (.cells #[.int .i64 ((top : Int) + 1), .slice A1 m c1, .slice A2 (top + 1) c2] 24)).alloc (.cells #[.int .i64 (n : Int)] 3)) from by go_grown))))
  have HXZ := hide (show ((w.alloc (.cells #[.int .i64 ((top : Int) + 1), .slice A1 m c1, .slice A2 (top + 1) c2] 24)).alloc (.cells #[.int .i64 (n : Int)] 3)).heap.size = w.heap.size + 2 by simp)
  refine (callsIn_wide (n := 5)).1 ?_
  refine callsIn_of_wp_marks Try.func10 rfl trivial ?_ rfl
  simp only [Try.ntmps10, List.size_toArray, List.length_cons, List.length_nil, Nat.reduceAdd, Nat.reduceSub, Array.replicate_succ, Array.replicate_zero, List.push_toArray, List.append_toArray, List.nil_append, List.cons_append]
  gi_wp2
  obtain ⟨v, hv⟩ : ∃ W, (w.alloc (.cells #[.int .i64 ((top : Int) + 1), .slice A1 m c1, .slice A2 (top + 1) c2] 24)).alloc (.cells #[.int .i64 (n : Int)] 3) = W := ⟨_, rfl⟩
  rw [hv] at HX HXZ ⊢
  clear hv
  have HH := hide (show Below v.heap.size v v.drew from below_drewN (Below.refl _ _) 1)
  refine wpIn_wide.2 (wp_onlyN ?_)
  refine wp_region_held_drew (S := fun w' => (Blk w' w.heap.size 24 #[.int .i64 ((top : Int) + 1), .slice A1 m c1, .slice A2 (top + 1) c2] ∧ Blk w' (w.heap.size + 1) 3 #[.int .i64 (n : Int)])) (by kernel_rfl) (HX.out _ HH.out).1 (fun hHeld => ?_)
  refine take_at (i := 0) 9 (v := .agg #[.int .i64 ((top : Int) + 1), .slice A1 m c1, .slice A2 (top + 1) c2]) rfl rfl (by kernel_rfl) (by kernel_rfl) (by kernel_rfl) (fun _ _ _ h => h) (Or.inl ⟨by rfl, by intro w1 hSw; have q0 := hSw.1.cell 0; have q1 := hSw.1.cell 1; have q2 := hSw.1.cell 2; go_simp⟩) (by assumption) ?_
  try simp only [Act.put, List.setIfInBounds_toArray, List.set_cons_zero, List.set_cons_succ]
  refine take_at (i := 2) 11 (v := .int .i64 (n : Int)) rfl rfl (by kernel_rfl) (by kernel_rfl) (by kernel_rfl) (fun _ _ _ h => h) (Or.inl ⟨by rfl, by intro w1 hSw; have q0 := hSw.2.cell 0; go_simp⟩) (by assumption) ?_
  try simp only [Act.put, List.setIfInBounds_toArray, List.set_cons_zero, List.set_cons_succ]
  obtain ⟨v0, hv0⟩ : ∃ W, v.drew = W := ⟨_, rfl⟩
  rw [hv0] at HH hHeld ⊢
  clear hv0
  refine wpAnyH_ready (rs := [1]) (by kernel_rfl) (by simp) ?_
  refine AllReadyH.cons rfl (fun K hK => ?_) AllReadyH.nil
  go_simp
  refine (HC.out _ (HS1.out _ (HX.out _ HH.out).2) (HS2.out _ (HX.out _ HH.out).2)).mono ?_
  rintro e u1 ⟨rfl, hb⟩
  replace HH := hide (Below.step HH.out hb)
  clear hb
  simp only []
  refine hK.out _ _ (HX.out _ HH.out).1 (fun hHeld => ?_)
  clear hK K
  try simp only [Act.put, List.setIfInBounds_toArray, List.set_cons_zero, List.set_cons_succ]
  refine wpAnyH_ready (rs := [3]) (by kernel_rfl) (by simp) ?_
  refine AllReadyH.cons rfl (fun K hK => ?_) AllReadyH.nil
  go_simp
  refine (HW1.out _).mono ?_
  rintro e w5 ⟨rfl, rfl⟩
  simp only []
  refine hK.out _ _ (HX.out _ HH.out).1 (fun hHeld => ?_)
  clear hK K
  try simp only [Act.put, List.setIfInBounds_toArray, List.set_cons_zero, List.set_cons_succ]
  refine wpAnyH_ready (rs := [4]) (by kernel_rfl) (by simp) ?_
  refine AllReadyH.cons rfl (fun K hK => ?_) AllReadyH.nil
  go_simp
  refine (HU.out _ _).mono ?_
  rintro e w5 ⟨rfl, rfl⟩
  simp only [unlessE, if_true]
  refine hK.out _ _ (HX.out _ HH.out).1 (fun hHeld => ?_)
  clear hK K
  try simp only [Act.put, List.setIfInBounds_toArray, List.set_cons_zero, List.set_cons_succ]
  refine wpAnyH_ready (rs := [5]) (by kernel_rfl) (by simp) ?_
  refine AllReadyH.cons rfl (fun K hK => ?_) AllReadyH.nil
  go_simp
  replace HH := hide (HH.out.alloc HH.out.size (.cells #[.int .i64 0, .int .i64 0] 28))
  refine hK.out _ _ (HX.out _ HH.out).1 (fun hHeld => ?_)
  clear hK K
  try simp only [Act.put, List.setIfInBounds_toArray, List.set_cons_zero, List.set_cons_succ]
  refine wpAnyH_ready (rs := [6]) (by kernel_rfl) (by simp) ?_
  refine AllReadyH.cons rfl (fun K hK => ?_) AllReadyH.nil
  go_simp
  refine (first2z _ _ rfl).mono ?_
  rintro e w5 ⟨rfl, rfl⟩
  simp only []
  refine hK.out _ _ (HX.out _ HH.out).1 (fun hHeld => ?_)
  clear hK K
  try simp only [Act.put, List.setIfInBounds_toArray, List.set_cons_zero, List.set_cons_succ]
  refine take_at (i := 7) 6 (v := .int .i64 0) rfl rfl (by kernel_rfl) (by kernel_rfl) (by kernel_rfl) (fun _ _ _ h => h) (Or.inl ⟨by rfl, by intro w hSw; go_simp⟩) (by assumption) ?_
  try simp only [Act.put, List.setIfInBounds_toArray, List.set_cons_zero, List.set_cons_succ]
  refine wpAnyH_done (by kernel_rfl) ?_ _
  dsimp only [OnlyN]
  obtain ⟨v1, hv1⟩ : ∃ W, u1.alloc (.cells #[.int .i64 0, .int .i64 0] 28) = W := ⟨_, rfl⟩
  rw [hv1] at HH ⊢
  clear hv1 HC HU HW1
  replace HX := hide (HX.out.step HH.out)
  have HX2 := hide (HX.out.alloc (.cells #[.slice none 0 0] 22))
  have HVG := hide (show w.heap.size + 2 ≤ v1.heap.size by have := HH.out.size; rw [HXZ.out] at this; exact this)
  have k0 := HX2.out.now.1.1.cell 0
  have k1 := HX2.out.now.1.1.cell 1
  have k2 := HX2.out.now.1.1.cell 2
  gi_wp2_with (refine ⟨trivial, ?_⟩; gi_at_call 22; refine (callsIn_wide.2 (HWO.out _ (HS1.out _ HX2.out.now.2) (HS2.out _ HX2.out.now.2))).mono ?_; rintro e v2 ⟨rfl, hb⟩; have HX3 := hide (HX2.out.step hb); have HB3 := hide ((Blk.new v1 22 #[.slice none 0 0]).below hb (by simp)); have HV3 := hide (show v1.heap.size < v2.heap.size by have := hb.size; simp at this; omega); clear hb)
  clear HWO HX2 HS1 HS2 k0 k1 k2
  refine wpIn_rangeFunc_endless (gf := 26) (fs := #[.agg (wrA x tp top)]) (enc := outW tp top x) (t := 55) (N := n) (id := 0) (w0 := v2) rfl (by omega) rfl trivial (enters Try.func26 (by kernel_rfl) rfl) (given_endless 4 x tp top hx htp htop n v2) (Below.refl _ _)
    (fun k W => k < n ∧ SeqAt w v1.heap.size tp top x n k W) (fun _ W => SeqAt w v1.heap.size tp top x n n W) ?hI ?hIx ?hIt ?hIxt (fun k W h => h.1) ?h0 (fun k => { tmps := #[.agg #[.int .i64 ((top : Int) + 1), .slice A1 m c1, .slice A2 (top + 1) c2], .int .i64 (n : Int), .pointer (some ⟨w.heap.size, 0, none⟩), .pointer (some ⟨w.heap.size + 1, 0, none⟩), .slice none 0 0, .int .i64 0, .int .i64 0, .pointer (some ⟨v1.heap.size, 0, none⟩), outW tp top x k, .agg #[.int .i64 ((top : Int) + 1), .slice A1 m c1, .slice A2 (top + 1) c2], .int .i64 0, .int .i64 (n : Int), .bool true, .int .i64 0, .slice (some ⟨u1.heap.size, 0, none⟩) 2 2, .int .i64 0, .int .i64 0, .bool false, undef, .agg #[.int .i64 ((top : Int) + 1), .slice A1 m c1, .slice A2 (top + 1) c2], .agg (wrA x tp top), .func (.func 26) #[.agg (wrA x tp top)] #[], outW tp top x k, undef, undef, undef, undef, undef, undef, undef, undef, undef], defers := [] }) ?hassign ?hbody ?hstop
  case hI => exact fun k A W row h hg hr => ⟨h.1, seqAt_own HX3.out.now.2.size k A W row h.2 hg hr⟩
  case hIx => exact fun _ A W row h hg hr => seqAt_own HX3.out.now.2.size n A W row h hg hr
  case hIt => exact fun k A W h hT => ⟨h.1, seqAt_turn HX3.out.now.2.size k A W h.2 hT⟩
  case hIxt => exact fun _ A W h hT => seqAt_turn HX3.out.now.2.size n A W h hT
  case h0 => exact ⟨hn1, none, 0, HB3.out, World.ownsRow_nil _ _ _ _, HX3.out.now.1.2, HX3.out.now.2⟩
  case hassign =>
    intro l k W K hK
    gi_wp2
    exact hK
  case hbody =>
    rintro l k W ⟨hk, C, q, hb1, hown, hb3, hbel⟩
    have HB1 := hide hb1
    have HOWN := hide hown
    have HB4 := hide hb3
    have HBE := hide hbel
    have HSN := hide (show iv (seqW tp top x (k + 1)) = iv (seqW tp top x k) ++ [outW tp top x k] from by rw [show seqW tp top x (k + 1) = seqW tp top x k ++ [((itW tp top x k % 2 : Nat) : Int)] from rfl]; simp [iv, outW])
    obtain ⟨o, ho⟩ : ∃ o, itW tp top x k % 2 = o := ⟨_, rfl⟩
    have hV : outW tp top x k = .int .i64 (o : Int) := by unfold outW; rw [ho]
    rw [hV] at HSN ⊢
    have c7 := hb1.cell 0
    have HNE1 := hide (show w.heap.size + 1 ≠ v1.heap.size by have := HVG.out; omega)
    have hne1 := HNE1.out
    have hne2 := HNE1.out.symm
    clear hb1 hown hb3 hbel hV ho
    by_cases hkn : k + 1 = n
    · have q1 : (((k : Int) + 1) == (n : Int)) = true := by rw [beq_iff_eq]; omega
      gi_wp2_with ((gi_at_builtin; go_loud (refine wpListIn_append_own _ rfl _ _ 22 rfl v1.heap.size 3 i0 (.int .i64 0) 1 8 Try.underlying22 hi0 hz0 hz1 hz2 rfl (by decide) _ _ _ rfl (HOWN.out.alloc (.cells #[.int .i64 (o : Int)] 3)) ⟨W.heap.size, 0, none⟩ 1 1 [.int .i64 (o : Int)] rfl rfl (cells_newS W [.int .i64 (o : Int)] 3) (by simp [Value.oneCell']) (by simp only [maxLen]; omega) (by omega) (by have := HB1.out.lt; simp; omega) ?_); intro v' w6 hown' hgrow _; obtain ⟨C2, q2, rfl⟩ := own_form hown'; have HGR := hide hgrow; have HO6 := hide hown'; have HB6 := hide ((HB1.out.alloc (.cells #[.int .i64 (o : Int)] 3)).grown hgrow (fun e => own_blk_ne (HOWN.out.alloc (.cells #[.int .i64 (o : Int)] 3)) (HB1.out.alloc _) (by decide) e.symm)); have HB7 := hide ((HB4.out.alloc (.cells #[.int .i64 (o : Int)] 3)).grown hgrow (fun e => by have hh := (HOWN.out.lt _ e.symm).1; have := HVG.out; omega)); have z0 := HB6.out.cell 0; have z1 := HB6.out.frozen 0; have z2 := HB7.out.cell 0; have z3 := ((HB7.out.far (p := ⟨v1.heap.size, 0, none⟩) HNE1.out (.slice C2 (k + 1) q2)).cell 0)))
      obtain ⟨s1, _, s3⟩ := seq_step (B := v2.heap.size) HB1.out HOWN.out HB4.out HBE.out (by have := HVG.out; omega) HGR.out HO6.out HSN.out
      rw [hkn] at s1 s3
      exact ⟨s1, .inr ⟨rfl, s3⟩⟩
    · have q1 : (((k : Int) + 1) == (n : Int)) = false := by rw [beq_eq_false_iff_ne]; omega
      gi_wp2_with ((gi_at_builtin; go_loud (refine wpListIn_append_own _ rfl _ _ 22 rfl v1.heap.size 3 i0 (.int .i64 0) 1 8 Try.underlying22 hi0 hz0 hz1 hz2 rfl (by decide) _ _ _ rfl (HOWN.out.alloc (.cells #[.int .i64 (o : Int)] 3)) ⟨W.heap.size, 0, none⟩ 1 1 [.int .i64 (o : Int)] rfl rfl (cells_newS W [.int .i64 (o : Int)] 3) (by simp [Value.oneCell']) (by simp only [maxLen]; omega) (by omega) (by have := HB1.out.lt; simp; omega) ?_); intro v' w6 hown' hgrow _; obtain ⟨C2, q2, rfl⟩ := own_form hown'; have HGR := hide hgrow; have HO6 := hide hown'; have HB6 := hide ((HB1.out.alloc (.cells #[.int .i64 (o : Int)] 3)).grown hgrow (fun e => own_blk_ne (HOWN.out.alloc (.cells #[.int .i64 (o : Int)] 3)) (HB1.out.alloc _) (by decide) e.symm)); have HB7 := hide ((HB4.out.alloc (.cells #[.int .i64 (o : Int)] 3)).grown hgrow (fun e => by have hh := (HOWN.out.lt _ e.symm).1; have := HVG.out; omega)); have z0 := HB6.out.cell 0; have z1 := HB6.out.frozen 0; have z2 := HB7.out.cell 0; have z3 := ((HB7.out.far (p := ⟨v1.heap.size, 0, none⟩) HNE1.out (.slice C2 (k + 1) q2)).cell 0)))
      obtain ⟨s1, s2, s3⟩ := seq_step (B := v2.heap.size) HB1.out HOWN.out HB4.out HBE.out (by have := HVG.out; omega) HGR.out HO6.out HSN.out
      exact ⟨s1, .inl ⟨rfl, s2, by omega, s3⟩⟩
  case hstop =>
    rintro D W hD ⟨C, q, hb1, hown, hb3, hbel⟩ hK
    have c7 := hb1.cell 0
    gi_wp2
    refine ⟨by simp, .inl ⟨_, _, rfl, run_takeDeferred hK, ?_⟩⟩
    have hD2 : w.heap.size ≤ D := by have := HV3.out; have := HVG.out; omega
    refine ⟨.tuple #[.slice C n q, .int .i64 0], ?_, C, q, rfl, (own_putObj hown (grownBy_putObj' W D (.deferred none)) (fun r e => by cases e; exact ⟨_, hK, rfl⟩)).weaken (by have := HVG.out; omega), hbel.grown (grownBy_putObj' W D (.deferred none)) hbel.size (fun j hj => by injection hj with hj; omega)⟩
    exact results_tmp2 (fn := Try.f10) (t := 4) (u := 5) rfl _ _ _
end Go.Proofs.Ytehcmhblppjalaa
