import Derived.Test.YtppkibgemacdbaaScA
namespace Go.Proofs.Ytppkibgemacdbaa
open Go.RowKit Go.WideShapes Go.ChangeShapes

/-! slices.Delete of one bearer -/
theorem bvs_take (L : List Ber) (i : Nat) (hi : i ≤ L.length) : (bvs L).take (i * 9) = bvs (L.take i) := by
  have h : bvs L = bvs (L.take i) ++ bvs (L.drop i) := by rw [← bvs_append, List.take_append_drop]
  rw [h, List.take_left' (by rw [bvs_length, List.length_take, Nat.min_eq_left hi])]
theorem bers_s : Try.prog.underlying 25 = some (.slice 32) := by kernel_rfl
theorem slice_bers_l (b len c k : Nat) (hk : k ≤ len) (w : World) : (Instr.sliceAt 25 (.slice (some ⟨b, 0, none⟩) len c) (some (.int .i64 (k : Int))) none none).run Try.prog w = .ok (.slice (some ⟨b, if c = k then 0 else k * 9, none⟩) (len - k) (c - k)) w := by
  rw [run_sliceAt_slice w _ _ _ _ _ bers_u, run_slice_l w _ _ _ _ bers_u .i64 (k : Int) (by omega) (by omega), show Try.prog.elem 25 = 32 by kernel_rfl, size_ber]
  simp only [Result.andThen_ok, sliced, Option.map_some, add_lit, Nat.zero_add, Int.toNat_natCast]
  split <;> rfl
theorem slice_bers_lh (b len c k h : Nat) (hk : k ≤ h) (hh : h ≤ c) (hkc : k < c) (w : World) : (Instr.sliceAt 25 (.slice (some ⟨b, 0, none⟩) len c) (some (.int .i64 (k : Int))) (some (.int .i64 (h : Int))) none).run Try.prog w = .ok (.slice (some ⟨b, k * 9, none⟩) (h - k) (c - k)) w := by
  rw [run_sliceAt_slice w _ _ _ _ _ bers_u, run_slice_lh w _ _ _ _ bers_u .i64 .i64 (k : Int) (h : Int) (by omega) (by omega) (by omega), show Try.prog.elem 25 = 32 by kernel_rfl, size_ber]
  simp only [Result.andThen_ok, sliced, Option.map_some, add_lit, Nat.zero_add, Int.toNat_natCast, if_neg (show ¬ c = k by omega)]
theorem slice_bers_lhm (b len c k h m : Nat) (hk : k ≤ h) (hh : h ≤ m) (hm : m ≤ c) (_ : World) : ∃ v, ∀ w, (Instr.sliceAt 25 (.slice (some ⟨b, 0, none⟩) len c) (some (.int .i64 (k : Int))) (some (.int .i64 (h : Int))) (some (.int .i64 (m : Int)))).run Try.prog w = .ok v w := by
  refine ⟨sliced (some ⟨b, 0, none⟩) k h m 9, fun w => ?_⟩
  rw [run_sliceAt_slice w _ _ _ _ _ bers_u, run_slice_lhm w _ _ _ _ bers_u .i64 .i64 .i64 (k : Int) (h : Int) (m : Int) (by omega) (by omega) (by omega) (by omega), show Try.prog.elem 25 = 32 by kernel_rfl, size_ber]
  rfl
def zBs : List Value := [.string ⟨#[]⟩, .int .i64 0, .int .i64 0, .int .i64 0, .int .i64 0, .int .i64 0, .int .i64 0, .int .i64 0, .int .i64 0]
theorem zero_ber (w : World) : (zeroValue 32).run Try.prog w = .ok (.agg #[.string ⟨#[]⟩, .int .i64 0, .int .i64 0, .int .i64 0, .int .i64 0, .int .i64 0, .int .i64 0, .int .i64 0, .int .i64 0]) w := by kernel_rfl
theorem clear_one (g o c : Nat) (cur : Array Value) (w : World) (hg : w.heap[g]? = some (.cells cur 32 (0, 0))) (ho : o + 9 ≤ cur.size) (ty : TypeId) :
    (Builtin.clear_ #[25] ty #[.slice (some ⟨g, o, none⟩) 1 c]).run Try.prog w = .ok (.tuple #[]) (w.setRow g (cur.toList.take o ++ zBs ++ cur.toList.drop (o + 9)).toArray) := by
  have hst := run_storeCells_at Try.prog g o 32 zBs 0 cur w hg (by show o + 0 + 9 ≤ _; omega) (by intro v hv; simp only [zBs, List.mem_cons, List.not_mem_nil, or_false] at hv; rcases hv with rfl | rfl | rfl | rfl | rfl | rfl | rfl | rfl | rfl <;> simp [Value.oneCell'])
  simp only [Nat.add_zero] at hst
  have hzc : (Builtin.zeroCells (Value.agg #[.string ⟨#[]⟩, .int .i64 0, .int .i64 0, .int .i64 0, .int .i64 0, .int .i64 0, .int .i64 0, .int .i64 0, .int .i64 0]).cells 1).toList = zBs := by kernel_rfl
  simp [Builtin.clear_, run_underlying bers_s, hzc, hst]
  rfl
theorem step_append_run {P : Program} {ops : Array Oper} {o : Oper} {a : Act} {w w' : World} {K : Act → World → Prop} {Q : Exit → Act → World → Prop} {E : Prop} (hg : o.guard = none) (s x : Operand) (t : TypeId) (hop : o.op = Op.call { callee := Callee.builtin Builtin.append, args := #[s, x], argTypes := #[t, t] })
    {u y v : Value} (hs : a.eval s = u) (hx : a.eval x = y) (hr : (Builtin.append_ #[t, t] o.type #[u, y]).run P w = .ok v w') (hK : K (a.put o.dst v) w') :
    if Region.wanted o (yielded ops a.tmps) = true then Oper.wp P o a w K Q else E := by
  have hw : Region.wanted o (yielded ops a.tmps) = true := by simp [Region.wanted, hg]
  rw [if_pos hw]
  unfold Oper.wp execOp
  simp only [hop, resolve, invoke, builtin, Sem.run_bind, Sem.run_pure, Result.andThen_ok, List.map_toArray, List.map_cons, List.map_nil, hs, hx, hr]
  exact hK
/-- what Delete leaves -/
def DelR (base : Nat) (L : List Ber) (g m c i : Nat) (w : World) (e : Ending) (w' : World) : Prop := e = .returned (.slice (some ⟨g, 0, none⟩) (m - 1) c) ∧ w'.ownsRow base 32 9 (.slice (some ⟨g, 0, none⟩) (m - 1) c) (m - 1) (bvs (L.eraseIdx i)) ∧ w.grownBy w' (some g)
set_option maxRecDepth 100000 in
set_option maxHeartbeats 4000000 in
theorem deleteBer (base : Nat) (L : List Ber) (g m c i j : Nat) (w : World) (hm : L.length = m) (hi : i < m) (hj : j = i + 1) (hl : m ≤ 1000) (ho : w.ownsRow base 32 9 (.slice (some ⟨g, 0, none⟩) m c) m (bvs L)) :
    Calls Try.prog 33 #[.slice (some ⟨g, 0, none⟩) m c, .int .i64 (i : Int), .int .i64 (j : Int)] w (DelR base L g m c i w) := by
  obtain ⟨i0, hi0, hz0, hz1, hz2⟩ := info_parts ber_info
  rcases ho.2 with ⟨hv, -⟩ | ⟨g', cap, cur, hv, hbg, hg, hmc, hcm, hcs, htk⟩
  · injection hv with e1; simp at e1
  injection hv with e1 _ e2
  injection e1 with e1
  injection e1 with e1 _
  subst e1 e2
  -- the cells that move
  have hnl : (bvs (L.drop j)).length = (m - j) * 9 := by rw [bvs_length, List.length_drop, hm]
  have hsplit : bvs L = bvs (L.take j) ++ bvs (L.drop j) := by rw [← bvs_append, List.take_append_drop]
  have hcell : ∀ t u, (bvs L)[t]? = some u → w.drew.cell? ⟨g, t, none⟩ = some u := fun t u h => by
    have h1 := ho.cells (g := g) rfl t u h
    rw [add_lit, Nat.zero_add] at h1
    exact h1
  have hnews : ∀ t u, (bvs (L.drop j))[t]? = some u → w.drew.cell? ((⟨g, if c = j then 0 else j * 9, none⟩ : Addr).add t) = some u := fun t u h => by
    have ht : t < (m - j) * 9 := by
      obtain ⟨h1, _⟩ := List.getElem?_eq_some_iff.1 h
      rw [hnl] at h1
      exact h1
    rw [add_lit, if_neg (by intro e; have : m - j = 0 := by omega
                            rw [this] at ht; omega)]
    refine hcell _ _ ?_
    rw [hsplit, List.getElem?_append_right (by rw [bvs_length, List.length_take, hm, Nat.min_eq_left (by omega)]; omega), bvs_length, List.length_take, hm, Nat.min_eq_left (by omega), Nat.add_sub_cancel_left]
    exact h
  obtain ⟨cur1, hc1⟩ : ∃ x, (cur.toList.take (i * 9) ++ bvs (L.drop j) ++ cur.toList.drop (i * 9 + (bvs (L.drop j)).length)).toArray = x := ⟨_, rfl⟩
  have hap := fun ty => run_append_room (P := Try.prog) w.drew 25 ty 32 i0 bers_s hi0 g i c cur hg ⟨g, if c = j then 0 else j * 9, none⟩ (m - j) (c - j) (bvs (L.drop j)) (by rw [hz1]; exact hnl) hnews (bvs_one _) (by omega) (by rw [hz1, hnl, hcs]; omega)
  rw [hz1, hc1, show i + (m - j) = m - 1 by omega] at hap
  have hs1 : cur1.size = c * 9 := by rw [← hc1]; simp only [List.size_toArray, List.length_append, List.length_take, List.length_drop, Array.length_toList, hnl, hcs]; omega
  have ht1 : cur1.toList.take ((m - 1) * 9) = bvs (L.eraseIdx i) := by
    rw [← hc1]
    have ht : cur.toList.take (i * 9) = bvs (L.take i) := by
      rw [← bvs_take L i (by omega), ← htk, List.take_take, Nat.min_eq_left (by omega)]
    rw [ht]
    show List.take _ (bvs (L.take i) ++ bvs (L.drop j) ++ _) = _
    have e : L.eraseIdx i = L.take i ++ L.drop j := by rw [hj]; exact List.eraseIdx_eq_take_drop_succ ..
    rw [e, bvs_append, List.take_left' (by rw [List.length_append, bvs_length, hnl, List.length_take, hm, Nat.min_eq_left (by omega)]; omega)]
  obtain ⟨W1, hW1⟩ : ∃ W1, w.drew.setRow g cur1 = W1 := ⟨_, rfl⟩
  rw [hW1] at hap
  have hg1 : W1.heap[g]? = some (.cells cur1 32 (0, 0)) := by rw [← hW1]; exact setRow_heap w.drew g cur cur1 32 _ hg
  have hcl := clear_one g ((m - 1) * 9) (c - (m - 1)) cur1 W1 hg1 (by rw [hs1]; omega)
  obtain ⟨cur2, hc2⟩ : ∃ x, (cur1.toList.take ((m - 1) * 9) ++ zBs ++ cur1.toList.drop ((m - 1) * 9 + 9)).toArray = x := ⟨_, rfl⟩
  rw [hc2] at hcl
  obtain ⟨W2, hW2⟩ : ∃ W2, W1.setRow g cur2 = W2 := ⟨_, rfl⟩
  rw [hW2] at hcl
  have HR : Hid (DelR base L g m c i w (.returned (.slice (some ⟨g, 0, none⟩) (m - 1) c)) W2) := hide (by
    refine ⟨rfl, ⟨by rw [bvs_length, List.length_eraseIdx, hm, if_pos hi], .inr ⟨g, c, cur2, rfl, hbg, by rw [← hW2]; exact setRow_heap W1 g cur1 cur2 32 _ hg1, by omega, hcm, ?_, ?_⟩⟩, ?_⟩
    · rw [← hc2]; simp only [List.size_toArray, List.length_append, List.length_take, List.length_drop, Array.length_toList, hs1, show zBs.length = 9 from rfl]; omega
    · rw [← hc2]
      show List.take _ (_ ++ zBs ++ _) = _
      rw [List.append_assoc, List.take_left' (by rw [List.length_take, Array.length_toList, hs1]; omega)]
      exact ht1
    · rw [← hW2, ← hW1]
      exact ⟨rfl, rfl, rfl, by simp, fun k _ hk => (setRow_other (w.drew.setRow g cur1) g k cur2 (fun e => hk (by rw [e]))).trans (setRow_other w.drew g k cur1 (fun e => hk (by rw [e])))⟩)
  obtain ⟨v3, hl3⟩ := slice_bers_lhm g m c i j m (by omega) (by omega) hmc w
  have hlh := fun W => slice_bers_lh g (m - 1) c (m - 1) m (by omega) hmc (by omega) W
  have hll := fun W => slice_bers_l g m c j (by omega) W
  have hlk := fun W => slice_bers g 0 m c i (by omega) (by omega) W
  rw [show m - (m - 1) = 1 by omega] at hlh
  have hij : ((i : Int) == (j : Int)) = false := by rw [beq_eq_false_iff_ne]; omega
  obtain ⟨oj, hoj⟩ : ∃ x, (if c = j then 0 else j * 9) = x := ⟨_, rfl⟩
  rw [hoj] at hll hap
  clear hc1 hc2 hW1 hW2 hg1 hs1 ht1 hnews hcell hsplit hnl hz0 hz1 hz2 hi0 htk hcs hg ho hoj
  have hjm : j ≤ m := by omega
  have hji : i < j := by omega
  clear hj hm
  go_enter Try.func33, Try.ntmps33
  go_wp2_with fail
  refine wp_region_held_drew (S := fun _ => True) (by kernel_rfl) trivial (fun hHeld => ?_)
  refine take_at (i := 0) 20 (v := .slice (some ⟨g, 0, none⟩) m c) rfl rfl (by kernel_rfl) (by kernel_rfl) (by kernel_rfl) (fun _ _ _ h => h) (Or.inl ⟨by rfl, by intro w_ hSw; go_simp⟩) (by assumption) ?_
  try simp only [Act.put, List.setIfInBounds_toArray, List.set_cons_zero, List.set_cons_succ]
  refine take_at (i := 1) 21 (v := .int .i64 (i : Int)) rfl rfl (by kernel_rfl) (by kernel_rfl) (by kernel_rfl) (fun _ _ _ h => h) (Or.inl ⟨by rfl, by intro w_ hSw; go_simp⟩) (by assumption) ?_
  try simp only [Act.put, List.setIfInBounds_toArray, List.set_cons_zero, List.set_cons_succ]
  refine take_at (i := 2) 22 (v := .slice (some ⟨g, 0, none⟩) i c) rfl rfl (by kernel_rfl) (by kernel_rfl) (by kernel_rfl) (fun _ _ _ h => h) (Or.inl ⟨by rfl, by intro w_ hSw; go_simp⟩) (by assumption) ?_
  try simp only [Act.put, List.setIfInBounds_toArray, List.set_cons_zero, List.set_cons_succ]
  refine take_at (i := 3) 23 (v := .slice (some ⟨g, 0, none⟩) m c) rfl rfl (by kernel_rfl) (by kernel_rfl) (by kernel_rfl) (fun _ _ _ h => h) (Or.inl ⟨by rfl, by intro w_ hSw; go_simp⟩) (by assumption) ?_
  try simp only [Act.put, List.setIfInBounds_toArray, List.set_cons_zero, List.set_cons_succ]
  refine take_at (i := 4) 24 (v := .int .i64 (j : Int)) rfl rfl (by kernel_rfl) (by kernel_rfl) (by kernel_rfl) (fun _ _ _ h => h) (Or.inl ⟨by rfl, by intro w_ hSw; go_simp⟩) (by assumption) ?_
  try simp only [Act.put, List.setIfInBounds_toArray, List.set_cons_zero, List.set_cons_succ]
  refine take_at (i := 5) 25 (v := .slice (some ⟨g, oj, none⟩) (m - j) (c - j)) rfl rfl (by kernel_rfl) (by kernel_rfl) (by kernel_rfl) (fun _ _ _ h => h) (Or.inl ⟨by rfl, by intro w_ hSw; go_simp⟩) (by assumption) ?_
  try simp only [Act.put, List.setIfInBounds_toArray, List.set_cons_zero, List.set_cons_succ]
  refine wpAnyH_ready (rs := [6]) (by kernel_rfl) (by simp) ?_
  refine AllReadyH.cons rfl (fun K hK => ?_) AllReadyH.nil
  refine step_append_run rfl (.tmp 22) (.tmp 25) 25 rfl (by simp [Act.eval]) (by simp [Act.eval]) (hap _) ?_
  refine hK.out _ _ trivial (fun hHeld => ?_)
  clear hK K
  try simp only [Act.put, List.setIfInBounds_toArray]
  refine take_at (i := 7) 0 (v := .slice (some ⟨g, 0, none⟩) (m - 1) c) rfl rfl (by kernel_rfl) (by kernel_rfl) (by kernel_rfl) (fun _ _ _ h => h) (Or.inl ⟨by rfl, by intro w_ hSw; go_simp⟩) (by assumption) ?_
  try simp only [Act.put]
  refine wpAnyH_done (by kernel_rfl) ?_ _
  go_wp2_with fail
  go_ret
  exact HR.out
end Go.Proofs.Ytppkibgemacdbaa
