import Derived.Test.YtehcmhblppjalaaSyRd
namespace Go.Proofs.Ytehcmhblppjalaa
open Go.RowKit Go.WideShapes Go.ChangeShapes Go.Shelf

attribute [local go_sem] Oper.semAt_some
theorem ga_infoS : (Try.prog.info? 43).map (fun i => (i.zero, i.size, i.bytes)) = some (some (.agg #[.int .i64 0, .int .i64 0]), 2, 16) := by kernel_rfl
/-- so many pieces are modulated -/
def ModAt (w : World) (g7 B1 B2 bx cx : Nat) (pre : List Unit) (W : World) : Prop :=
  ∃ C q xs, Blk W g7 38 #[.slice C pre.length q] ∧ W.ownsRow w.heap.size 43 2 (.slice C pre.length q) pre.length xs ∧ (pre = [()] → xs = [.int .i64 3, .int .i64 (-1)]) ∧ Below w.heap.size w W ∧
    Blk W B1 22 #[.slice (some ⟨bx, 0, none⟩) 4 cx] ∧ Blk W B2 3 #[.int .i64 4]
/-! four bits of order four, modulated (program) -/
set_option maxRecDepth 100000 in
set_option maxHeartbeats 8000000 in
theorem modulated_sy (bx cx : Nat) (hcx : 4 ≤ cx) (w : World) (h0 : w.cell? ⟨bx, 0, none⟩ = some (.int .i64 0)) (h1 : w.cell? ⟨bx, 1, none⟩ = some (.int .i64 1)) (h2 : w.cell? ⟨bx, 2, none⟩ = some (.int .i64 1)) (h3 : w.cell? ⟨bx, 3, none⟩ = some (.int .i64 0)) (hs : Sl w (some ⟨bx, 0, none⟩) (iv [0, 1, 1, 0])) :
    Calls Try.prog 13 #[.int .i64 4, .slice (some ⟨bx, 0, none⟩) 4 cx] w fun e w' => ∃ C q, e = .returned (.tuple #[.slice C 1 q, .int .i64 0]) ∧
      w'.ownsRow w.heap.size 43 2 (.slice C 1 q) 1 [.int .i64 3, .int .i64 (-1)] ∧ Below w.heap.size w w' := by
  have HS := hide (stay_sl hs)
  have HG := hide (fun W (h : Below w.heap.size w W) => show W.cell? ⟨bx, 0, none⟩ = some (.int .i64 0) ∧ W.cell? ⟨bx, 1, none⟩ = some (.int .i64 1) ∧ W.cell? ⟨bx, 2, none⟩ = some (.int .i64 1) ∧ W.cell? ⟨bx, 3, none⟩ = some (.int .i64 0) from ⟨(h.cell (lt_of_cell h0)).trans h0, (h.cell (lt_of_cell h1)).trans h1, (h.cell (lt_of_cell h2)).trans h2, (h.cell (lt_of_cell h3)).trans h3⟩)
  clear h0 h1 h2 h3 hs
  refine (callsIn_wide (n := 5)).1 ?_
  refine callsIn_of_wp_marks Try.func13 rfl trivial ?_ rfl
  simp only [Try.ntmps13, List.size_toArray, List.length_cons, List.length_nil, Nat.reduceAdd, Nat.reduceSub, Array.replicate_succ, Array.replicate_zero, List.push_toArray, List.append_toArray, List.nil_append, List.cons_append]
  gi_wp2_with (first
    | (refine ⟨trivial, ?_⟩; gi_at_call 29; refine (callsIn_wide.2 (orderErr4 _)).mono ?_; rintro e w1 ⟨rfl, hb⟩; have HB1 := hide hb; clear hb)
    | (refine ⟨trivial, ?_⟩; gi_at_call 20; refine (callsIn_wide.2 (bitsErr_sy (some ⟨bx, 0, none⟩) cx 4 [0, 1, 1, 0] _ rfl (HS.out _ HB1.out) (by decide))).mono ?_; rintro e w2 ⟨rfl, hb⟩; have HB2 := hide (Below.step HB1.out hb); clear hb HB1)
    | (refine ⟨trivial, ?_⟩; gi_at_call 18; refine (callsIn_wide.2 (first2z _ _ rfl)).mono ?_; rintro e w3 ⟨rfl, rfl⟩; simp only [])
    | (refine ⟨trivial, ?_⟩; gi_at_call 30; refine (chunk_in Fence.wide _ trivial rfl (some ⟨bx, 0, none⟩) 4 cx _).mono ?_; rintro e w4 ⟨rfl, rfl⟩))
  obtain ⟨V, hV⟩ : ∃ W, ((((w2.alloc (.cells #[.int .i64 0, .int .i64 0] 28)).alloc (.cells #[.slice none 0 0] 38)).alloc (.cells #[.slice (some ⟨bx, 0, none⟩) 4 cx] 22)).alloc (.cells #[.int .i64 4] 3)) = W := ⟨_, rfl⟩
  have HZ := hide (show V.heap.size = w2.heap.size + 4 by rw [← hV]; simp)
  have HA := hide (show Blk V (w2.heap.size + 1) 38 #[.slice none 0 0] from by rw [← hV]; exact ((Blk.newN _ _ _ (by simp)).alloc _).alloc _)
  have HC1 := hide (show Blk V (w2.heap.size + 1 + 1) 22 #[.slice (some ⟨bx, 0, none⟩) 4 cx] from by rw [← hV]; exact (Blk.newN _ _ _ (by simp)).alloc _)
  have HC2 := hide (show Blk V (w2.heap.size + 1 + 1 + 1) 3 #[.int .i64 4] from by rw [← hV]; exact Blk.newN _ _ _ (by simp))
  have HBV := hide (show Below w.heap.size w V from by rw [← hV]; exact Below.step HB2.out (by go_grown))
  rw [hV]
  clear hV
  refine wpIn_rangeFunc_ownF rfl (by omega) (gf := 38) (lb := #[.pointer (some ⟨w2.heap.size + 1 + 1, 0, none⟩), .pointer (some ⟨w2.heap.size + 1 + 1 + 1, 0, none⟩)]) rfl trivial (enters Try.func38 (by kernel_rfl) rfl)
    (chunk_stops (5 - 1) (by omega) (w2.heap.size + 1 + 1) (w2.heap.size + 1 + 1 + 1) bx cx hcx V (HC1.out.cell 0) (HC2.out.cell 0)) (fun h k => ⟨k.1.trans h.1, k.2.trans h.2⟩) ?hKb (Below.refl _ _) (fun _ => rfl)
    (fun pre W => ModAt w (w2.heap.size + 1) (w2.heap.size + 1 + 1) (w2.heap.size + 1 + 1 + 1) bx cx pre W) (fun _ _ _ => False) ?hI (fun _ _ _ _ _ h _ _ => h) ?h0
    (fun _ => { tmps := #[.int .i64 4, .slice (some ⟨bx, 0, none⟩) 4 cx, undef, undef, .slice none 0 0, .int .i64 0, .int .i64 0, .pointer (some ⟨w2.heap.size + 1, 0, none⟩), .slice (some ⟨bx, 0, none⟩) 4 4, .int .i64 4, .int .i64 0, .slice (some ⟨bx, 0, none⟩) 4 cx, .int .i64 0, .slice (some ⟨w2.heap.size, 0, none⟩) 2 2, .int .i64 0, .int .i64 0, .bool false, undef, .slice (some ⟨bx, 0, none⟩) 4 cx, .int .i64 4, .int .i64 4, .int .i64 0, .bool false, .slice (some ⟨bx, 0, none⟩) 4 cx, .int .i64 4,
      .func (.func 38) #[] #[.pointer (some ⟨w2.heap.size + 1 + 1, 0, none⟩), .pointer (some ⟨w2.heap.size + 1 + 1 + 1, 0, none⟩)], .slice (some ⟨bx, 0, none⟩) 4 4, undef, undef, undef, undef, undef, undef], defers := [] }) ?assign ?body ?done ?stop
  case hKb =>
    intro X l o o' hl ho hc hw
    have hb := belowK_b (w := V) (Nat.le_refl _) X l o o' hl ho hc hw
    exact ⟨hb.cell (p := ⟨w2.heap.size + 1 + 1, 0, none⟩) HC1.out.lt, hb.cell (p := ⟨w2.heap.size + 1 + 1 + 1, 0, none⟩) HC2.out.lt⟩
  case hI =>
    rintro pre A X row ⟨C, q, xs, h1, h2, h3, h4, h5, h6⟩ hg hr
    exact ⟨C, q, xs, h1.putObjS hg (fun r e => (hr r e).2), own_putObj h2 hg (fun r e => (hr r e).2), h3, h4.grown hg h4.size (fun r e => Nat.le_trans HBV.out.size (hr r e).1), h5.putObjS hg (fun r e => (hr r e).2), h6.putObjS hg (fun r e => (hr r e).2)⟩
  case h0 => exact ⟨none, 0, [], HA.out, World.ownsRow_nil _ _ _ _, (fun h => nomatch h), HBV.out, HC1.out, HC2.out⟩
  case assign =>
    intro lp x W K hK
    gi_wp2
    exact hK
  case body =>
    rintro lp pre x X ⟨C, q, xs, h1, h2, h3, h4, h5, h6⟩ hlen
    obtain rfl : pre = [] := List.eq_nil_of_length_eq_zero (by omega)
    gi_wp2
    refine wpIn_region_upto_round (z := 5) (S := fun W => Blk W (w2.heap.size + 1) 38 #[.slice C 0 q] ∧ Below w.heap.size w W) (by kernel_rfl) (by intro i o h c; rcases i with _ | _ | _ | _ | _ | _ | i <;> simp at h <;> (subst h; simp)) (fun ⟨_, _, h⟩ => h) ?_
    have HH := hide (show Blk X.drew (w2.heap.size + 1) 38 #[.slice C 0 q] ∧ Below w.heap.size w X.drew from ⟨h1, below_drewN h4 1⟩)
    have hHeld := HH.out
    have HO := hide (show X.drew.ownsRow w.heap.size 43 2 (.slice C 0 q) 0 xs from h2)
    have HC1x := hide h5
    have HC2x := hide h6
    refine UpTo.take (i := 0) 27 (v := .slice C 0 q) rfl rfl (by kernel_rfl) (by kernel_rfl) (by kernel_rfl) (by kernel_rfl) (fun _ _ _ h => h) hHeld (Or.inl ⟨by rfl, by intro w1 hSw; have q0 := hSw.1.cell 0; go_simp⟩) ?_
    try simp only [Act.put, List.setIfInBounds_toArray, List.set_cons_zero, List.set_cons_succ]
    refine UpTo.take (i := 1) 28 (v := .slice (some ⟨bx, 0, none⟩) 4 4) rfl rfl (by kernel_rfl) (by kernel_rfl) (by kernel_rfl) (by kernel_rfl) (fun _ _ _ h => h) hHeld (Or.inl ⟨by rfl, by intro w hSw; go_simp⟩) ?_
    try simp only [Act.put, List.setIfInBounds_toArray, List.set_cons_zero, List.set_cons_succ]
    obtain ⟨u0, hu0⟩ : ∃ W, X.drew = W := ⟨_, rfl⟩
    rw [hu0] at HH hHeld HO ⊢
    refine UpTo.next (i := 2) (by kernel_rfl) rfl (fun K hK => ?_)
    go_simp
    obtain ⟨g0, g1, g2, g3⟩ := HG.out _ HH.out.2
    refine (point_sy bx 4 u0 g0 g1 g2 g3).mono ?_
    rintro e u1 ⟨rfl, hb⟩
    have HB1 := hide hb
    have HH1 := hide (show Blk u1 (w2.heap.size + 1) 38 #[.slice C 0 q] ∧ Below w.heap.size w u1 from ⟨HH.out.1.below hb HH.out.1.lt, Below.step HH.out.2 hb⟩)
    replace HO := hide (own_bel HO.out hb)
    clear hb g0 g1 g2 g3
    simp only []
    refine hK.out _ _ (fun _ => HH1.out) ?_
    clear hK K
    try simp only [Act.put, List.setIfInBounds_toArray, List.set_cons_zero, List.set_cons_succ]
    refine UpTo.next (i := 3) (by kernel_rfl) rfl (fun K hK => ?_)
    go_simp
    have HH2 := hide (show Blk (u1.alloc (.cells #[.int .i64 3, .int .i64 (-1)] 43)) (w2.heap.size + 1) 38 #[.slice C 0 q] ∧ Below w.heap.size w (u1.alloc (.cells #[.int .i64 3, .int .i64 (-1)] 43)) from ⟨HH1.out.1.alloc _, HH1.out.2.alloc HH1.out.2.size _⟩)
    refine hK.out _ _ (fun _ => HH2.out) ?_
    clear hK K
    try simp only [Act.put, List.setIfInBounds_toArray, List.set_cons_zero, List.set_cons_succ]
    refine UpTo.next (i := 4) (by kernel_rfl) rfl (fun K hK => ?_)
    obtain ⟨i0, hi0, hz0, hz1, hz2⟩ := info_parts ga_infoS
    have hrd : Reads (u1.alloc (.cells #[.int .i64 3, .int .i64 (-1)] 43)) (u1.heap.size + 1) 2 (some ⟨u1.heap.size, 0, none⟩) 1 [.int .i64 3, .int .i64 (-1)] := ⟨rfl, fun _ => ⟨_, rfl, Nat.lt_succ_self _, cells_newS u1 [.int .i64 3, .int .i64 (-1)] 43⟩⟩
    refine step_append_any _ (by rfl) _ _ 38 (by rfl) w.heap.size 43 i0 _ 2 16 Try.underlying38 hi0 hz0 hz1 hz2 rfl (by omega) _ 0 xs (by rfl) (HO.out.alloc (.cells #[.int .i64 3, .int .i64 (-1)] 43)) _ _ 1 1 [.int .i64 3, .int .i64 (-1)] (by rfl) hrd (by simp [Value.oneCell']) (by decide) (by decide) HH2.out.2.size ?_
    intro v6 w6 hown hgr hor
    obtain ⟨C6, q6, rfl⟩ := own_form hown
    have HOW := hide hown
    have HGR := hide hgr
    have HH6 := hide (show Blk w6 (w2.heap.size + 1) 38 #[.slice C 0 q] ∧ Below w.heap.size w w6 from ⟨HH2.out.1.grown hgr (fun e => own_blk_ne (HO.out.alloc (.cells #[.int .i64 3, .int .i64 (-1)] 43)) HH2.out.1 (by decide) e.symm), Below.app HH1.out.2 HO.out hgr⟩)
    clear hown hgr hor
    refine hK.out _ _ (fun _ => HH6.out) ?_
    clear hK K
    try simp only [Act.put, List.setIfInBounds_toArray]
    have hc0 := HH6.out.1.cell 0
    have hf0 := HH6.out.1.frozen 0
    refine UpTo.next (i := 5) (by kernel_rfl) rfl (fun K hK => ?_)
    go_simp
    refine hK.out _ _ (fun h => absurd rfl h) ?_
    clear hK K
    refine UpTo.done (by kernel_rfl) ?_ _
    clear hc0 hf0
    have hX : u0.heap = X.heap := by rw [← hu0]; rfl
    have keep : ∀ {g : Nat} {t : TypeId} {cs : Array Value}, Blk X g t cs → 43 ≠ t → w2.heap.size + 1 ≠ g → Blk (w6.setCell ⟨w2.heap.size + 1, 0, none⟩ (.slice C6 1 q6)) g t cs := by
      intro g t cs hg ht hne
      have k0 : Blk u0 g t cs := by unfold Blk; rw [hX]; exact hg
      have k1 := (k0.below HB1.out k0.lt).alloc (.cells #[.int .i64 3, .int .i64 (-1)] 43)
      exact (k1.grown HGR.out (fun e => own_blk_ne (HO.out.alloc (.cells #[.int .i64 3, .int .i64 (-1)] 43)) k1 ht e.symm)).far (p := ⟨w2.heap.size + 1, 0, none⟩) (Ne.symm hne) _
    have hk1 := keep HC1x.out (by decide) (by omega)
    have hk2 := keep HC2x.out (by decide) (by omega)
    have HOF := hide (show (w6.setCell ⟨w2.heap.size + 1, 0, none⟩ (.slice C6 1 q6)).ownsRow w.heap.size 43 2 (.slice C6 1 q6) 1 (xs ++ [.int .i64 3, .int .i64 (-1)]) from own_far HOW.out HH6.out.1 (by decide))
    obtain ⟨XS, hXS⟩ : ∃ XS : List Value, XS = xs ++ [Value.int .i64 3, Value.int .i64 (-1)] := ⟨_, rfl⟩
    rw [← hXS] at HOF
    refine ⟨?_, ⟨(hk1.cell 0).trans (HC1x.out.cell 0).symm, (hk2.cell 0).trans (HC2x.out.cell 0).symm⟩, C6, q6, XS, HH6.out.1.set_ 0 _, HOF.out, ?_, HH6.out.2.setCell (p := ⟨w2.heap.size + 1, 0, none⟩) (by have := HB2.out.size; show w.heap.size ≤ w2.heap.size + 1; omega) _, hk1, hk2⟩
    · have q1 : KeepsOthers X u1 := ⟨by have := HB1.out.size; rw [hX] at this; exact this, fun j o hj _ => (HB1.out.block j (by rw [hX]; exact (Array.getElem?_eq_some_iff.1 hj).1)).trans (by rw [hX]; exact hj)⟩
      have q2 : KeepsOthers u1 (u1.alloc (.cells #[.int .i64 3, .int .i64 (-1)] 43)) := ⟨by simp, fun j o hj _ => (Below.heap_alloc u1 _ j (Array.getElem?_eq_some_iff.1 hj).1).trans hj⟩
      have q3 : KeepsOthers (u1.alloc (.cells #[.int .i64 3, .int .i64 (-1)] 43)) w6 := ⟨HGR.out.size, fun j o hj ho => (HGR.out.block j (Array.getElem?_eq_some_iff.1 hj).1 (fun e => by
        rcases (HO.out.alloc (.cells #[.int .i64 3, .int .i64 (-1)] 43)).2 with ⟨hv, _⟩ | ⟨g, cap, cur, hv, _, hh, _⟩
        · rw [hv] at e; cases e
        · rw [hv] at e
          have hgj : j = g := by simpa [Value.ownBlock] using e
          rw [hgj, hh] at hj
          injection hj with hj
          subst hj
          cases ho)).trans hj⟩
      exact ((q1.trans q2).trans q3).trans (KeepsOthers.setCell w6 ⟨w2.heap.size + 1, 0, none⟩ _)
    · intro _
      have hl := HO.out.1
      have hn : xs = [] := List.eq_nil_of_length_eq_zero (by omega)
      rw [hXS, hn]; rfl
  case done =>
    rintro D ys W hD rfl ⟨C, q, xs, h1, h2, h3, h4, h5, h6⟩ hK
    have hc0 := h1.cell 0
    gi_wp2
    obtain rfl := h3 trivial
    refine ⟨by simp, .inl ⟨_, _, rfl, run_takeDeferred hK, ?_⟩⟩
    have hD2 : w.heap.size ≤ D := by have := HZ.out; have := HB2.out.size; omega
    refine ⟨.tuple #[.slice C 1 q, .int .i64 0], ?_, C, q, rfl, own_putObj h2 (grownBy_putObj' W D (.deferred none)) (fun r e => by cases e; exact ⟨_, hK, rfl⟩), h4.grown (grownBy_putObj' W D (.deferred none)) h4.size (fun j hj => by injection hj with hj; omega)⟩
    exact results_tmp2 (fn := Try.f13) (t := 4) (u := 5) rfl _ _ _
  case stop => exact fun _ _ _ _ _ _ h _ => h.elim
end Go.Proofs.Ytehcmhblppjalaa
