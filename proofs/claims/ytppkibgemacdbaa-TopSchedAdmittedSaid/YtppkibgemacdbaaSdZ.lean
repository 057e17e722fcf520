import Derived.Test.YtppkibgemacdbaaSdY
import Derived.Test.YtppkibgemacdbaaUpM
namespace Go.Proofs.Ytppkibgemacdbaa
open Go.RowKit Go.WideShapes Go.ChangeShapes

/-! slot of a run of one user -/
def blN (ne wa tb : Int) : Int := min ne (ceilI wa tb)
def sentN (ne wa tb : Int) : Int := min wa (blN ne wa tb * tb)
theorem grown_set {U : Nat} {w W : World} (h : w.grownBy W (some U)) (i : Nat) (u : Value) : w.grownBy (W.setCell ⟨U, i, none⟩ u) (some U) := only_setCell h (.inl rfl) u
def SlotR (U : Nat) (cs : Array Value) (w : World) (e : Ending) (w' : World) : Prop := ∃ A c, e = .returned (.slice A 1 c) ∧ Blk w' U 97 cs ∧ w.grownBy w' (some U)
set_option maxRecDepth 100000 in
set_option maxHeartbeats 8000000 in
theorem slot_one (B C P : Int) (ab ao : Nat) (c n : Nat) (R U V vc : Nat) (nm : Bs) (kd pr wt pw le bu ra de ne wa se rt bl : Int) (rb ro r qb qo q kk : Nat) (ar tb : Int) (w : World)
    (hR : Blk w R 93 #[.int .i64 B, .int .i64 C, .int .i64 P, .slice (some ⟨ab, ao, none⟩) n c, .slice (some ⟨V, 0, none⟩) 1 vc]) (hV : w.cell? ⟨V, 0, none⟩ = some (.pointer (some ⟨U, 0, none⟩))) (hU : Blk w U 97 #[strV nm, .int .i64 kd, .int .i64 pr, .int .i64 wt, .int .i64 pw, .int .i64 le, .int .i64 bu, .int .i64 ra, .int .i64 de, .int .i64 ne, .int .i64 wa, .int .i64 se, .int .i64 rt, .int .i64 bl]) (hRU : R ≠ U) (hVU : V ≠ U) (habU : ab ≠ U) (hrbU : rb ≠ U) (hqbU : qb ≠ U)
    (hkk : kk < n) (hT : w.cell? ⟨ab, ao + kk, none⟩ = some (.int .i64 tb)) (hr : w.cell? ⟨rb, ro, none⟩ = some (.int .i64 (kk : Int))) (hq : w.cell? ⟨qb, qo, none⟩ = some (.int .i64 ar)) (hk : kd ≠ 0)
    (htb : 0 < tb ∧ tb ≤ 1000) (hne : 0 ≤ ne ∧ ne ≤ 1000000) (hpw : 0 ≤ pw ∧ pw ≤ 1000000) (hB : 0 ≤ B ∧ B ≤ 1000000) (hC : 0 ≤ C ∧ C ≤ 1000000) (hP : 0 ≤ P ∧ P ≤ 1000000)
    (hwa : 0 ≤ wa ∧ wa ≤ 100000000) (har : 0 ≤ ar ∧ ar ≤ 100000000) (hse : 0 ≤ se ∧ se ≤ 100000000)
    (hcase : B - blN ne (wa + ar) tb = 0 ∨ B - blN ne (wa + ar) tb ≠ 0 ∧ wa + ar ≤ blN ne (wa + ar) tb * tb) :
    Calls Try.prog 37 #[.pointer (some ⟨R, 0, none⟩), .agg #[.slice (some ⟨rb, ro, none⟩) 1 r, .slice (some ⟨qb, qo, none⟩) 1 q]] w (SlotR U #[strV nm, .int .i64 kd, .int .i64 pr, .int .i64 wt, .int .i64 pw, .int .i64 le, .int .i64 bu, .int .i64 ra, .int .i64 de, .int .i64 ne, .int .i64 (wa + ar - sentN ne (wa + ar) tb), .int .i64 (se + sentN ne (wa + ar) tb), .int .i64 tb, .int .i64 (blN ne (wa + ar) tb)] w) := by
  have hce := ceil_bd (n := wa + ar) htb.1 (by omega)
  have hce0 := ceil_nn (n := wa + ar) htb.1 (by omega)
  have hbl : 0 ≤ blN ne (wa + ar) tb ∧ blN ne (wa + ar) tb ≤ 1000000 := by unfold blN; omega
  have hmul : 0 ≤ blN ne (wa + ar) tb * tb := Int.mul_nonneg hbl.1 (by omega)
  have hsn : 0 ≤ sentN ne (wa + ar) tb ∧ sentN ne (wa + ar) tb ≤ wa + ar := by unfold sentN; omega
  have HGU := hide (fun W => guaranteed_sched nm kd pr wt pw le bu ra de W)
  have HCE := hide (fun W => ceil_sched (wa + ar) tb W htb.1 (by omega) (by omega) (by omega))
  have HNX := hide (fun W k1 k2 k3 => next_one B C P (some ⟨ab, ao, none⟩) c n R U V vc nm kd pr wt pw le bu ra de ne (wa + ar) se tb (blN ne (wa + ar) tb) W k1 k2 k3 hbl hpw hB hC hP htb hcase)
  have HTK := hide (fun W k1 => taken_run U nm kd pr wt pw le bu ra de ne (wa + ar) se tb (blN ne (wa + ar) tb) W k1 hbl (by omega))
  have hkd : (!(kd == 0)) = true := by simpa using hk
  rw [hkd] at HGU
  unfold sentN
  unfold sentN at hsn
  have w1 : IntKind.i64.wrap (wa + ar) = wa + ar := IntWalk.i64_in _ (by omega)
  obtain ⟨Y, hY⟩ : ∃ z, wa + ar = z := ⟨_, rfl⟩
  rw [hY] at HCE HNX HTK w1 hsn hbl hce hce0 ⊢
  obtain ⟨X, hX⟩ : ∃ z, ceilI Y tb = z := ⟨_, rfl⟩
  rw [hX] at HCE hce hce0
  have hM1 : blN ne Y tb = min ne X := by unfold blN; rw [hX]
  obtain ⟨M, hM⟩ : ∃ z, blN ne Y tb = z := ⟨_, rfl⟩
  rw [hM] at HNX HTK hM1 hsn hbl ⊢
  replace hM1 := hM1.symm
  obtain ⟨S, hS⟩ : ∃ z, min Y (M * tb) = z := ⟨_, rfl⟩
  rw [hS] at HTK hsn ⊢
  have w2 : IntKind.i64.wrap (se + S) = se + S := IntWalk.i64_in _ (by omega)
  have w3 : IntKind.i64.wrap (Y - S) = Y - S := IntWalk.i64_in _ (by omega)
  have htb0 := htb.1
  have HT := hide ((but_blk hR hRU).and (but_at hV hVU) |>.and (but_at hT habU) |>.and (but_at hr hrbU) |>.and (but_at hq hqbU))
  have hUl := hU.lt
  replace hU := hide hU
  clear hR hV hRU hVU habU hrbU hqbU hT hr hq hk htb hne hpw hB hC hP hwa har hse hcase hce hce0 hmul hX hM hS hsn hbl
  go_enter Try.func37, Try.ntmps37
  obtain ⟨W0, hW0⟩ : ∃ W0, w.alloc (.cells #[.slice (some ⟨rb, ro, none⟩) 1 r, .slice (some ⟨qb, qo, none⟩) 1 q] 44) = W0 := ⟨_, rfl⟩
  have HG : Hid (w.grownBy W0 (some U)) := hide (hW0 ▸ only_of_below ((Below.refl _ w).alloc (Nat.le_refl _) (.cells #[.slice (some ⟨rb, ro, none⟩) 1 r, .slice (some ⟨qb, qo, none⟩) 1 q] 44)) _)
  have HU0 : Hid (Blk W0 U 97 #[strV nm, .int .i64 kd, .int .i64 pr, .int .i64 wt, .int .i64 pw, .int .i64 le, .int .i64 bu, .int .i64 ra, .int .i64 de, .int .i64 ne, .int .i64 wa, .int .i64 se, .int .i64 rt, .int .i64 bl]) := hide (hW0 ▸ hU.out.alloc (.cells #[.slice (some ⟨rb, ro, none⟩) 1 r, .slice (some ⟨qb, qo, none⟩) 1 q] 44))
  replace HT := hide ((HT.out.step HG.out).and (but_grown HG.out) |>.and (but_blk (show Blk W0 w.heap.size 44 #[.slice (some ⟨rb, ro, none⟩) 1 r, .slice (some ⟨qb, qo, none⟩) 1 q] from hW0 ▸ Blk.new w 44 #[.slice (some ⟨rb, ro, none⟩) 1 r, .slice (some ⟨qb, qo, none⟩) 1 q]) (by omega)))
  have r4 : W0.cell? ⟨R, 4, none⟩ = some (.slice (some ⟨V, 0, none⟩) 1 vc) := HT.out.now.1.1.1.1.1.1.cell 4
  have v0 : W0.cell? ⟨V, 0, none⟩ = some (.pointer (some ⟨U, 0, none⟩)) := HT.out.now.1.1.1.1.1.2
  clear hU HG
  go_wp2_with fail
  clear hW0
  refine wp_loop_rounds 2 ?_
  rw [rounds_succ]
  go_wp2_with fail
  clear r4 v0
  have f10 := HU0.out.frozen 10
  have f12 := HU0.out.frozen 12
  have f13 := HU0.out.frozen 13
  have u12 : W0.cell? ⟨U, 12, none⟩ = some (.int .i64 rt) := HU0.out.cell 12
  have u13 : W0.cell? ⟨U, 13, none⟩ = some (.int .i64 bl) := HU0.out.cell 13
  have u10 : W0.cell? ⟨U, 10, none⟩ = some (.int .i64 wa) := HU0.out.cell 10
  have hHeld := (⟨only_drew (World.grownBy.refl W0 _), u10⟩ : W0.grownBy W0.drew (some U) ∧ W0.drew.cell? ⟨U, 10, none⟩ = some (.int .i64 wa))
  refine UpM.start (Z := [34]) (S := fun w' => W0.grownBy w' (some U) ∧ w'.cell? ⟨U, 10, none⟩ = some (.int .i64 wa)) (by kernel_rfl) ?_
  refine UpM.pure (i := 0) 22 (v := .pointer (some ⟨U, 0, none⟩)) rfl rfl (by kernel_rfl) (by kernel_rfl) (by kernel_rfl) (fun _ _ _ h => h) (Or.inl ⟨by rfl, by intro w_ hSw; go_simp⟩) ?_
  try simp only [Act.put, List.setIfInBounds_toArray, List.set_cons_zero, List.set_cons_succ]
  refine UpM.pure (i := 1) 23 (v := .pointer (some ⟨U, 0, none⟩)) rfl rfl (by kernel_rfl) (by kernel_rfl) (by kernel_rfl) (fun _ _ _ h => h) (Or.inl ⟨by rfl, by intro w_ hSw; go_simp⟩) ?_
  try simp only [Act.put, List.setIfInBounds_toArray, List.set_cons_zero, List.set_cons_succ]
  refine UpM.pure (i := 2) 24 (v := .pointer (some ⟨U, 0, none⟩)) rfl rfl (by kernel_rfl) (by kernel_rfl) (by kernel_rfl) (fun _ _ _ h => h) (Or.inl ⟨by rfl, by intro w_ hSw; go_simp⟩) ?_
  try simp only [Act.put, List.setIfInBounds_toArray, List.set_cons_zero, List.set_cons_succ]
  refine UpM.pure (i := 3) 25 (v := .pointer (some ⟨R, 0, none⟩)) rfl rfl (by kernel_rfl) (by kernel_rfl) (by kernel_rfl) (fun _ _ _ h => h) (Or.inl ⟨by rfl, by intro w_ hSw; go_simp⟩) ?_
  try simp only [Act.put, List.setIfInBounds_toArray, List.set_cons_zero, List.set_cons_succ]
  refine UpM.pure (i := 4) 26 (v := .pointer (some ⟨R, 0, none⟩)) rfl rfl (by kernel_rfl) (by kernel_rfl) (by kernel_rfl) (fun _ _ _ h => h) (Or.inl ⟨by rfl, by intro w_ hSw; go_simp⟩) ?_
  try simp only [Act.put, List.setIfInBounds_toArray, List.set_cons_zero, List.set_cons_succ]
  refine UpM.pure (i := 5) 27 (v := .pointer (some ⟨R, 0, none⟩)) rfl rfl (by kernel_rfl) (by kernel_rfl) (by kernel_rfl) (fun _ _ _ h => h) (Or.inl ⟨by rfl, by intro w_ hSw; go_simp⟩) ?_
  try simp only [Act.put, List.setIfInBounds_toArray, List.set_cons_zero, List.set_cons_succ]
  refine UpM.pure (i := 6) 28 (v := .pointer (some ⟨R, 0, none⟩)) rfl rfl (by kernel_rfl) (by kernel_rfl) (by kernel_rfl) (fun _ _ _ h => h) (Or.inl ⟨by rfl, by intro w_ hSw; go_simp⟩) ?_
  try simp only [Act.put, List.setIfInBounds_toArray, List.set_cons_zero, List.set_cons_succ]
  refine UpM.pure (i := 7) 29 (v := .pointer (some ⟨R, 3, none⟩)) rfl rfl (by kernel_rfl) (by kernel_rfl) (by kernel_rfl) (fun _ _ _ h => h) (Or.inl ⟨by rfl, by intro w_ hSw; go_simp⟩) ?_
  try simp only [Act.put, List.setIfInBounds_toArray, List.set_cons_zero, List.set_cons_succ]
  refine UpM.take (i := 8) 30 (v := .slice (some ⟨ab, ao, none⟩) n c) rfl rfl (by kernel_rfl) (by kernel_rfl) (by kernel_rfl) (by kernel_rfl) (fun _ _ _ h => h) hHeld (Or.inl ⟨by rfl, by intro w_ hSw; have c0 : w_.cell? ⟨R, 3, none⟩ = some (.slice (some ⟨ab, ao, none⟩) n c) := (HT.out _ hSw.1).1.1.1.1.1.1.cell 3; go_simp⟩) ?_
  try simp only [Act.put, List.setIfInBounds_toArray, List.set_cons_zero, List.set_cons_succ]
  refine UpM.pure (i := 9) 31 (v := .pointer (some ⟨w.heap.size, 0, none⟩)) rfl rfl (by kernel_rfl) (by kernel_rfl) (by kernel_rfl) (fun _ _ _ h => h) (Or.inl ⟨by rfl, by intro w_ hSw; go_simp⟩) ?_
  try simp only [Act.put, List.setIfInBounds_toArray, List.set_cons_zero, List.set_cons_succ]
  refine UpM.take (i := 10) 32 (v := .slice (some ⟨rb, ro, none⟩) 1 r) rfl rfl (by kernel_rfl) (by kernel_rfl) (by kernel_rfl) (by kernel_rfl) (fun _ _ _ h => h) hHeld (Or.inl ⟨by rfl, by intro w_ hSw; have c0 : w_.cell? ⟨w.heap.size, 0, none⟩ = some (.slice (some ⟨rb, ro, none⟩) 1 r) := (HT.out _ hSw.1).2.cell 0; go_simp⟩) ?_
  try simp only [Act.put, List.setIfInBounds_toArray, List.set_cons_zero, List.set_cons_succ]
  refine UpM.pure (i := 11) 33 (v := .int .i64 0) rfl rfl (by kernel_rfl) (by kernel_rfl) (by kernel_rfl) (fun _ _ _ h => h) (Or.inl ⟨by rfl, by intro w_ hSw; go_simp⟩) ?_
  try simp only [Act.put, List.setIfInBounds_toArray, List.set_cons_zero, List.set_cons_succ]
  refine UpM.pure (i := 12) 34 (v := .pointer (some ⟨rb, ro, none⟩)) rfl rfl (by kernel_rfl) (by kernel_rfl) (by kernel_rfl) (fun _ _ _ h => h) (Or.inl ⟨by rfl, by intro w_ hSw; go_simp⟩) ?_
  try simp only [Act.put, List.setIfInBounds_toArray, List.set_cons_zero, List.set_cons_succ]
  refine UpM.take (i := 13) 35 (v := .int .i64 (kk : Int)) rfl rfl (by kernel_rfl) (by kernel_rfl) (by kernel_rfl) (by kernel_rfl) (fun _ _ _ h => h) hHeld (Or.inl ⟨by rfl, by intro w_ hSw; have c0 := (HT.out _ hSw.1).1.1.1.2; go_simp⟩) ?_
  try simp only [Act.put, List.setIfInBounds_toArray, List.set_cons_zero, List.set_cons_succ]
  refine UpM.pure (i := 14) 36 (v := .pointer (some ⟨ab, ao + kk, none⟩)) rfl rfl (by kernel_rfl) (by kernel_rfl) (by kernel_rfl) (fun _ _ _ h => h) (Or.inl ⟨by rfl, by intro w_ hSw; go_simp⟩) ?_
  try simp only [Act.put, List.setIfInBounds_toArray, List.set_cons_zero, List.set_cons_succ]
  refine UpM.take (i := 15) 37 (v := .int .i64 tb) rfl rfl (by kernel_rfl) (by kernel_rfl) (by kernel_rfl) (by kernel_rfl) (fun _ _ _ h => h) hHeld (Or.inl ⟨by rfl, by intro w_ hSw; have c0 := (HT.out _ hSw.1).1.1.1.1.2; go_simp⟩) ?_
  try simp only [Act.put, List.setIfInBounds_toArray, List.set_cons_zero, List.set_cons_succ]
  refine UpM.pure (i := 16) 38 (v := .pointer (some ⟨U, 0, none⟩)) rfl rfl (by kernel_rfl) (by kernel_rfl) (by kernel_rfl) (fun _ _ _ h => h) (Or.inl ⟨by rfl, by intro w_ hSw; go_simp⟩) ?_
  try simp only [Act.put, List.setIfInBounds_toArray, List.set_cons_zero, List.set_cons_succ]
  refine UpM.pure (i := 17) 39 (v := .pointer (some ⟨U, 0, none⟩)) rfl rfl (by kernel_rfl) (by kernel_rfl) (by kernel_rfl) (fun _ _ _ h => h) (Or.inl ⟨by rfl, by intro w_ hSw; go_simp⟩) ?_
  try simp only [Act.put, List.setIfInBounds_toArray, List.set_cons_zero, List.set_cons_succ]
  refine UpM.pure (i := 18) 40 (v := .pointer (some ⟨U, 10, none⟩)) rfl rfl (by kernel_rfl) (by kernel_rfl) (by kernel_rfl) (fun _ _ _ h => h) (Or.inl ⟨by rfl, by intro w_ hSw; go_simp⟩) ?_
  try simp only [Act.put, List.setIfInBounds_toArray, List.set_cons_zero, List.set_cons_succ]
  refine UpM.take (i := 19) 41 (v := .int .i64 wa) rfl rfl (by kernel_rfl) (by kernel_rfl) (by kernel_rfl) (by kernel_rfl) (fun _ _ _ h => h) hHeld (Or.inl ⟨by rfl, by intro w_ hSw; have c0 := hSw.2; go_simp⟩) ?_
  try simp only [Act.put, List.setIfInBounds_toArray, List.set_cons_zero, List.set_cons_succ]
  refine UpM.pure (i := 20) 42 (v := .pointer (some ⟨w.heap.size, 1, none⟩)) rfl rfl (by kernel_rfl) (by kernel_rfl) (by kernel_rfl) (fun _ _ _ h => h) (Or.inl ⟨by rfl, by intro w_ hSw; go_simp⟩) ?_
  try simp only [Act.put, List.setIfInBounds_toArray, List.set_cons_zero, List.set_cons_succ]
  refine UpM.take (i := 21) 43 (v := .slice (some ⟨qb, qo, none⟩) 1 q) rfl rfl (by kernel_rfl) (by kernel_rfl) (by kernel_rfl) (by kernel_rfl) (fun _ _ _ h => h) hHeld (Or.inl ⟨by rfl, by intro w_ hSw; have c0 : w_.cell? ⟨w.heap.size, 1, none⟩ = some (.slice (some ⟨qb, qo, none⟩) 1 q) := (HT.out _ hSw.1).2.cell 1; go_simp⟩) ?_
  try simp only [Act.put, List.setIfInBounds_toArray, List.set_cons_zero, List.set_cons_succ]
  refine UpM.pure (i := 22) 44 (v := .int .i64 0) rfl rfl (by kernel_rfl) (by kernel_rfl) (by kernel_rfl) (fun _ _ _ h => h) (Or.inl ⟨by rfl, by intro w_ hSw; go_simp⟩) ?_
  try simp only [Act.put, List.setIfInBounds_toArray, List.set_cons_zero, List.set_cons_succ]
  refine UpM.pure (i := 23) 45 (v := .pointer (some ⟨qb, qo, none⟩)) rfl rfl (by kernel_rfl) (by kernel_rfl) (by kernel_rfl) (fun _ _ _ h => h) (Or.inl ⟨by rfl, by intro w_ hSw; go_simp⟩) ?_
  try simp only [Act.put, List.setIfInBounds_toArray, List.set_cons_zero, List.set_cons_succ]
  refine UpM.take (i := 24) 46 (v := .int .i64 ar) rfl rfl (by kernel_rfl) (by kernel_rfl) (by kernel_rfl) (by kernel_rfl) (fun _ _ _ h => h) hHeld (Or.inl ⟨by rfl, by intro w_ hSw; have c0 := (HT.out _ hSw.1).1.1.2; go_simp⟩) ?_
  try simp only [Act.put, List.setIfInBounds_toArray, List.set_cons_zero, List.set_cons_succ]
  refine UpM.pure (i := 25) 47 (v := .int .i64 Y) rfl rfl (by kernel_rfl) (by kernel_rfl) (by kernel_rfl) (fun _ _ _ h => h) (Or.inl ⟨by rfl, by intro w_ hSw; go_simp⟩) ?_
  try simp only [Act.put, List.setIfInBounds_toArray, List.set_cons_zero, List.set_cons_succ]
  refine UpM.pure (i := 26) 48 (v := .pointer (some ⟨U, 0, none⟩)) rfl rfl (by kernel_rfl) (by kernel_rfl) (by kernel_rfl) (fun _ _ _ h => h) (Or.inl ⟨by rfl, by intro w_ hSw; go_simp⟩) ?_
  try simp only [Act.put, List.setIfInBounds_toArray, List.set_cons_zero, List.set_cons_succ]
  refine UpM.pure (i := 27) 49 (v := .pointer (some ⟨U, 12, none⟩)) rfl rfl (by kernel_rfl) (by kernel_rfl) (by kernel_rfl) (fun _ _ _ h => h) (Or.inl ⟨by rfl, by intro w_ hSw; go_simp⟩) ?_
  try simp only [Act.put, List.setIfInBounds_toArray, List.set_cons_zero, List.set_cons_succ]
  refine UpM.next (i := 28) (by kernel_rfl) rfl (fun K hK => ?_)
  go_simp
  refine hK.out _ _ (fun _ _ => ⟨only_drew (grown_set (World.grownBy.refl W0 _) _ _), by go_simp⟩) ?_
  clear hK K
  try simp only [Act.put, List.setIfInBounds_toArray, List.set_cons_zero, List.set_cons_succ]
  refine UpM.pure (i := 29) 50 (v := .pointer (some ⟨U, 0, none⟩)) rfl rfl (by kernel_rfl) (by kernel_rfl) (by kernel_rfl) (fun _ _ _ h => h) (Or.inl ⟨by rfl, by intro w_ hSw; go_simp⟩) ?_
  try simp only [Act.put, List.setIfInBounds_toArray, List.set_cons_zero, List.set_cons_succ]
  refine UpM.pure (i := 30) 51 (v := .pointer (some ⟨U, 13, none⟩)) rfl rfl (by kernel_rfl) (by kernel_rfl) (by kernel_rfl) (fun _ _ _ h => h) (Or.inl ⟨by rfl, by intro w_ hSw; go_simp⟩) ?_
  try simp only [Act.put, List.setIfInBounds_toArray, List.set_cons_zero, List.set_cons_succ]
  refine UpM.next (i := 31) (by kernel_rfl) rfl (fun K hK => ?_)
  go_simp
  refine hK.out _ _ (fun _ _ => ⟨only_drew (grown_set (grown_set (World.grownBy.refl W0 _) _ _) _ _), by go_simp⟩) ?_
  clear hK K
  try simp only [Act.put, List.setIfInBounds_toArray, List.set_cons_zero, List.set_cons_succ]
  refine UpM.pure (i := 32) 52 (v := .pointer (some ⟨U, 0, none⟩)) rfl rfl (by kernel_rfl) (by kernel_rfl) (by kernel_rfl) (fun _ _ _ h => h) (Or.inl ⟨by rfl, by intro w_ hSw; go_simp⟩) ?_
  try simp only [Act.put, List.setIfInBounds_toArray, List.set_cons_zero, List.set_cons_succ]
  refine UpM.pure (i := 33) 53 (v := .pointer (some ⟨U, 10, none⟩)) rfl rfl (by kernel_rfl) (by kernel_rfl) (by kernel_rfl) (fun _ _ _ h => h) (Or.inl ⟨by rfl, by intro w_ hSw; go_simp⟩) ?_
  try simp only [Act.put, List.setIfInBounds_toArray, List.set_cons_zero, List.set_cons_succ]
  refine UpM.next (i := 34) (by kernel_rfl) rfl (fun K hK => ?_)
  go_simp
  refine hK.out _ _ (fun h => (h (by decide)).elim) ?_
  clear hK K
  try simp only [Act.put, List.setIfInBounds_toArray, List.set_cons_zero, List.set_cons_succ]
  refine UpM.done (by kernel_rfl) ?_ _
  clear u10 u12 u13 f10 f12 f13 hHeld
  have HU1 : Hid (Blk (((W0.setCell ⟨U, 12, none⟩ (.int .i64 tb)).setCell ⟨U, 13, none⟩ (.int .i64 0)).setCell ⟨U, 10, none⟩ (.int .i64 Y)).drew U 97 #[strV nm, .int .i64 kd, .int .i64 pr, .int .i64 wt, .int .i64 pw, .int .i64 le, .int .i64 bu, .int .i64 ra, .int .i64 de, .int .i64 ne, .int .i64 Y, .int .i64 se, .int .i64 tb, .int .i64 0]) := hide (((HU0.out.set_ 12 (.int .i64 tb)).set_ 13 (.int .i64 0)).set_ 10 (.int .i64 Y)).drew
  replace HT := hide (HT.out.step (only_drew (grown_set (grown_set (grown_set (World.grownBy.refl W0 _) 12 (.int .i64 tb)) 13 (.int .i64 0)) 10 (.int .i64 Y))))
  clear HU0
  obtain ⟨W1, hW1⟩ : ∃ W1, (((W0.setCell ⟨U, 12, none⟩ (.int .i64 tb)).setCell ⟨U, 13, none⟩ (.int .i64 0)).setCell ⟨U, 10, none⟩ (.int .i64 Y)).drew = W1 := ⟨_, rfl⟩
  rw [hW1] at HU1 HT ⊢
  clear hW1
  have u0 : W1.cell? ⟨U, 0, none⟩ = some (strV nm) := HU1.out.cell 0
  have u1 : W1.cell? ⟨U, 1, none⟩ = some (.int .i64 kd) := HU1.out.cell 1
  have u2 : W1.cell? ⟨U, 2, none⟩ = some (.int .i64 pr) := HU1.out.cell 2
  have u3 : W1.cell? ⟨U, 3, none⟩ = some (.int .i64 wt) := HU1.out.cell 3
  have u4 : W1.cell? ⟨U, 4, none⟩ = some (.int .i64 pw) := HU1.out.cell 4
  have u5 : W1.cell? ⟨U, 5, none⟩ = some (.int .i64 le) := HU1.out.cell 5
  have u6 : W1.cell? ⟨U, 6, none⟩ = some (.int .i64 bu) := HU1.out.cell 6
  have u7 : W1.cell? ⟨U, 7, none⟩ = some (.int .i64 ra) := HU1.out.cell 7
  have u8 : W1.cell? ⟨U, 8, none⟩ = some (.int .i64 de) := HU1.out.cell 8
  go_wp2_with (go_at_call 38; go_must (refine (HGU.out _).mono ?_; rintro e w2 ⟨rfl, hb⟩; replace HU1 := hide (HU1.out.below hb HU1.out.lt); replace HT := hide (HT.out.bel hb); clear hb u0 u1 u2 u3 u4 u5 u6 u7 u8; have u12 : w2.cell? ⟨U, 12, none⟩ = some (.int .i64 tb) := HU1.out.cell 12; simp only []))
  have u9 : w2.cell? ⟨U, 9, none⟩ = some (.int .i64 ne) := HU1.out.cell 9
  have u10 : w2.cell? ⟨U, 10, none⟩ = some (.int .i64 Y) := HU1.out.cell 10
  have u13 : w2.cell? ⟨U, 13, none⟩ = some (.int .i64 0) := HU1.out.cell 13
  have f13 := HU1.out.frozen 13
  have hHeld := (rfl : w2.drew = w2.drew)
  refine UpM.start (Z := [17]) (S := fun w' => w' = w2.drew) (by kernel_rfl) ?_
  refine UpM.pure (i := 0) 66 (v := .pointer (some ⟨U, 0, none⟩)) rfl rfl (by kernel_rfl) (by kernel_rfl) (by kernel_rfl) (fun _ _ _ h => h) (Or.inl ⟨by rfl, by intro w_ hSw; go_simp⟩) ?_
  try simp only [Act.put, List.setIfInBounds_toArray, List.set_cons_zero, List.set_cons_succ]
  refine UpM.pure (i := 1) 67 (v := .pointer (some ⟨U, 0, none⟩)) rfl rfl (by kernel_rfl) (by kernel_rfl) (by kernel_rfl) (fun _ _ _ h => h) (Or.inl ⟨by rfl, by intro w_ hSw; go_simp⟩) ?_
  try simp only [Act.put, List.setIfInBounds_toArray, List.set_cons_zero, List.set_cons_succ]
  refine UpM.pure (i := 2) 68 (v := .pointer (some ⟨U, 0, none⟩)) rfl rfl (by kernel_rfl) (by kernel_rfl) (by kernel_rfl) (fun _ _ _ h => h) (Or.inl ⟨by rfl, by intro w_ hSw; go_simp⟩) ?_
  try simp only [Act.put, List.setIfInBounds_toArray, List.set_cons_zero, List.set_cons_succ]
  refine UpM.pure (i := 3) 69 (v := .pointer (some ⟨U, 9, none⟩)) rfl rfl (by kernel_rfl) (by kernel_rfl) (by kernel_rfl) (fun _ _ _ h => h) (Or.inl ⟨by rfl, by intro w_ hSw; go_simp⟩) ?_
  try simp only [Act.put, List.setIfInBounds_toArray, List.set_cons_zero, List.set_cons_succ]
  refine UpM.take (i := 4) 70 (v := .int .i64 ne) rfl rfl (by kernel_rfl) (by kernel_rfl) (by kernel_rfl) (by kernel_rfl) (fun _ _ _ h => h) hHeld (Or.inl ⟨by rfl, by intro w_ hSw; rw [hSw]; go_simp⟩) ?_
  try simp only [Act.put, List.setIfInBounds_toArray, List.set_cons_zero, List.set_cons_succ]
  refine UpM.pure (i := 5) 71 (v := .pointer (some ⟨U, 0, none⟩)) rfl rfl (by kernel_rfl) (by kernel_rfl) (by kernel_rfl) (fun _ _ _ h => h) (Or.inl ⟨by rfl, by intro w_ hSw; go_simp⟩) ?_
  try simp only [Act.put, List.setIfInBounds_toArray, List.set_cons_zero, List.set_cons_succ]
  refine UpM.pure (i := 6) 72 (v := .pointer (some ⟨U, 0, none⟩)) rfl rfl (by kernel_rfl) (by kernel_rfl) (by kernel_rfl) (fun _ _ _ h => h) (Or.inl ⟨by rfl, by intro w_ hSw; go_simp⟩) ?_
  try simp only [Act.put, List.setIfInBounds_toArray, List.set_cons_zero, List.set_cons_succ]
  refine UpM.pure (i := 7) 73 (v := .pointer (some ⟨U, 10, none⟩)) rfl rfl (by kernel_rfl) (by kernel_rfl) (by kernel_rfl) (fun _ _ _ h => h) (Or.inl ⟨by rfl, by intro w_ hSw; go_simp⟩) ?_
  try simp only [Act.put, List.setIfInBounds_toArray, List.set_cons_zero, List.set_cons_succ]
  refine UpM.take (i := 8) 74 (v := .int .i64 Y) rfl rfl (by kernel_rfl) (by kernel_rfl) (by kernel_rfl) (by kernel_rfl) (fun _ _ _ h => h) hHeld (Or.inl ⟨by rfl, by intro w_ hSw; rw [hSw]; go_simp⟩) ?_
  try simp only [Act.put, List.setIfInBounds_toArray, List.set_cons_zero, List.set_cons_succ]
  refine UpM.pure (i := 9) 75 (v := .pointer (some ⟨U, 0, none⟩)) rfl rfl (by kernel_rfl) (by kernel_rfl) (by kernel_rfl) (fun _ _ _ h => h) (Or.inl ⟨by rfl, by intro w_ hSw; go_simp⟩) ?_
  try simp only [Act.put, List.setIfInBounds_toArray, List.set_cons_zero, List.set_cons_succ]
  refine UpM.pure (i := 10) 76 (v := .pointer (some ⟨U, 0, none⟩)) rfl rfl (by kernel_rfl) (by kernel_rfl) (by kernel_rfl) (fun _ _ _ h => h) (Or.inl ⟨by rfl, by intro w_ hSw; go_simp⟩) ?_
  try simp only [Act.put, List.setIfInBounds_toArray, List.set_cons_zero, List.set_cons_succ]
  refine UpM.pure (i := 11) 77 (v := .pointer (some ⟨U, 12, none⟩)) rfl rfl (by kernel_rfl) (by kernel_rfl) (by kernel_rfl) (fun _ _ _ h => h) (Or.inl ⟨by rfl, by intro w_ hSw; go_simp⟩) ?_
  try simp only [Act.put, List.setIfInBounds_toArray, List.set_cons_zero, List.set_cons_succ]
  refine UpM.take (i := 12) 78 (v := .int .i64 tb) rfl rfl (by kernel_rfl) (by kernel_rfl) (by kernel_rfl) (by kernel_rfl) (fun _ _ _ h => h) hHeld (Or.inl ⟨by rfl, by intro w_ hSw; rw [hSw]; go_simp⟩) ?_
  try simp only [Act.put, List.setIfInBounds_toArray, List.set_cons_zero, List.set_cons_succ]
  refine UpM.next (i := 13) (by kernel_rfl) rfl (fun K hK => ?_)
  go_simp
  go_at_call 42
  refine (HCE.out _).mono ?_
  rintro e w3 ⟨rfl, rfl⟩
  simp only []
  refine hK.out _ _ (fun _ h => h) ?_
  clear hK K
  try simp only [Act.put, List.setIfInBounds_toArray, List.set_cons_zero, List.set_cons_succ]
  refine UpM.pure (i := 14) 80 (v := .int .i64 M) rfl rfl (by kernel_rfl) (by kernel_rfl) (by kernel_rfl) (fun _ _ _ h => h) (Or.inl ⟨by rfl, by intro w_ hSw; go_simp; all_goals omega⟩) ?_
  try simp only [Act.put, List.setIfInBounds_toArray, List.set_cons_zero, List.set_cons_succ]
  refine UpM.pure (i := 15) 81 (v := .pointer (some ⟨U, 0, none⟩)) rfl rfl (by kernel_rfl) (by kernel_rfl) (by kernel_rfl) (fun _ _ _ h => h) (Or.inl ⟨by rfl, by intro w_ hSw; go_simp⟩) ?_
  try simp only [Act.put, List.setIfInBounds_toArray, List.set_cons_zero, List.set_cons_succ]
  refine UpM.pure (i := 16) 82 (v := .pointer (some ⟨U, 13, none⟩)) rfl rfl (by kernel_rfl) (by kernel_rfl) (by kernel_rfl) (fun _ _ _ h => h) (Or.inl ⟨by rfl, by intro w_ hSw; go_simp⟩) ?_
  try simp only [Act.put, List.setIfInBounds_toArray, List.set_cons_zero, List.set_cons_succ]
  refine UpM.next (i := 17) (by kernel_rfl) rfl (fun K hK => ?_)
  go_simp
  refine hK.out _ _ (fun h => (h (by decide)).elim) ?_
  clear hK K
  try simp only [Act.put, List.setIfInBounds_toArray, List.set_cons_zero, List.set_cons_succ]
  refine UpM.done (by kernel_rfl) ?_ _
  clear u9 u10 u13 f13 hHeld u12 hM1
  have HU2 : Hid (Blk (w2.setCell ⟨U, 13, none⟩ (.int .i64 M)).drew U 97 #[strV nm, .int .i64 kd, .int .i64 pr, .int .i64 wt, .int .i64 pw, .int .i64 le, .int .i64 bu, .int .i64 ra, .int .i64 de, .int .i64 ne, .int .i64 Y, .int .i64 se, .int .i64 tb, .int .i64 M]) := hide (HU1.out.set_ 13 (.int .i64 M)).drew
  replace HT := hide (HT.out.step (only_drew (grown_set (World.grownBy.refl w2 _) 13 (.int .i64 M))))
  clear HU1
  obtain ⟨W3, hW3⟩ : ∃ W3, (w2.setCell ⟨U, 13, none⟩ (.int .i64 M)).drew = W3 := ⟨_, rfl⟩
  rw [hW3] at HU2 HT ⊢
  clear hW3
  go_wp2_with fail
  rw [rounds_succ]
  go_wp2_with (go_at_call 56; go_must (refine (HNX.out _ HT.out.now.1.1.1.1.1.1 HT.out.now.1.1.1.1.1.2 HU2.out).mono ?_; rintro e w4 ⟨rfl, hb⟩; replace HU2 := hide (HU2.out.below hb HU2.out.lt); replace HT := hide (HT.out.bel hb); clear hb; simp only []))
  refine wp_loop_rounds 1 ?_
  rw [rounds_succ]
  have r4 : w4.cell? ⟨R, 4, none⟩ = some (.slice (some ⟨V, 0, none⟩) 1 vc) := HT.out.now.1.1.1.1.1.1.cell 4
  have v0 : w4.cell? ⟨V, 0, none⟩ = some (.pointer (some ⟨U, 0, none⟩)) := HT.out.now.1.1.1.1.1.2
  go_wp2_with fail
  refine wp_loop_rounds 2 ?_
  rw [rounds_succ]
  go_wp2_with (go_at_call 57; go_must (refine (HTK.out _ HU2.out).mono ?_; rintro e w5 ⟨rfl, hb⟩; replace HU2 := hide (HU2.out.below hb HU2.out.lt); replace HT := hide (HT.out.bel hb); clear hb r4 v0; simp only []))
  have u10 : w5.cell? ⟨U, 10, none⟩ = some (.int .i64 Y) := HU2.out.cell 10
  have u11 : w5.cell? ⟨U, 11, none⟩ = some (.int .i64 se) := HU2.out.cell 11
  have f10 := HU2.out.frozen 10
  have f11 := HU2.out.frozen 11
  have hHeld := (rfl : w5.drew = w5.drew)
  refine UpM.start (Z := [16, 19]) (S := fun w' => w' = w5.drew) (by kernel_rfl) ?_
  refine UpM.pure (i := 0) 108 (v := .pointer (some ⟨U, 0, none⟩)) rfl rfl (by kernel_rfl) (by kernel_rfl) (by kernel_rfl) (fun _ _ _ h => h) (Or.inl ⟨by rfl, by intro w_ hSw; go_simp⟩) ?_
  try simp only [Act.put, List.setIfInBounds_toArray, List.set_cons_zero, List.set_cons_succ]
  refine UpM.pure (i := 1) 109 (v := .pointer (some ⟨U, 0, none⟩)) rfl rfl (by kernel_rfl) (by kernel_rfl) (by kernel_rfl) (fun _ _ _ h => h) (Or.inl ⟨by rfl, by intro w_ hSw; go_simp⟩) ?_
  try simp only [Act.put, List.setIfInBounds_toArray, List.set_cons_zero, List.set_cons_succ]
  refine UpM.pure (i := 2) 110 (v := .pointer (some ⟨U, 0, none⟩)) rfl rfl (by kernel_rfl) (by kernel_rfl) (by kernel_rfl) (fun _ _ _ h => h) (Or.inl ⟨by rfl, by intro w_ hSw; go_simp⟩) ?_
  try simp only [Act.put, List.setIfInBounds_toArray, List.set_cons_zero, List.set_cons_succ]
  refine UpM.pure (i := 3) 111 (v := .pointer (some ⟨U, 0, none⟩)) rfl rfl (by kernel_rfl) (by kernel_rfl) (by kernel_rfl) (fun _ _ _ h => h) (Or.inl ⟨by rfl, by intro w_ hSw; go_simp⟩) ?_
  try simp only [Act.put, List.setIfInBounds_toArray, List.set_cons_zero, List.set_cons_succ]
  refine UpM.pure (i := 4) 112 (v := .pointer (some ⟨U, 11, none⟩)) rfl rfl (by kernel_rfl) (by kernel_rfl) (by kernel_rfl) (fun _ _ _ h => h) (Or.inl ⟨by rfl, by intro w_ hSw; go_simp⟩) ?_
  try simp only [Act.put, List.setIfInBounds_toArray, List.set_cons_zero, List.set_cons_succ]
  refine UpM.take (i := 5) 113 (v := .int .i64 se) rfl rfl (by kernel_rfl) (by kernel_rfl) (by kernel_rfl) (by kernel_rfl) (fun _ _ _ h => h) hHeld (Or.inl ⟨by rfl, by intro w_ hSw; rw [hSw]; go_simp⟩) ?_
  try simp only [Act.put, List.setIfInBounds_toArray, List.set_cons_zero, List.set_cons_succ]
  refine UpM.pure (i := 6) 114 (v := .int .i64 S) rfl rfl (by kernel_rfl) (by kernel_rfl) (by kernel_rfl) (fun _ _ _ h => h) (Or.inl ⟨by rfl, by intro w_ hSw; go_simp⟩) ?_
  try simp only [Act.put, List.setIfInBounds_toArray, List.set_cons_zero, List.set_cons_succ]
  refine UpM.pure (i := 7) 115 (v := .int .i64 (se + S)) rfl rfl (by kernel_rfl) (by kernel_rfl) (by kernel_rfl) (fun _ _ _ h => h) (Or.inl ⟨by rfl, by intro w_ hSw; go_simp⟩) ?_
  try simp only [Act.put, List.setIfInBounds_toArray, List.set_cons_zero, List.set_cons_succ]
  refine UpM.pure (i := 8) 116 (v := .pointer (some ⟨U, 0, none⟩)) rfl rfl (by kernel_rfl) (by kernel_rfl) (by kernel_rfl) (fun _ _ _ h => h) (Or.inl ⟨by rfl, by intro w_ hSw; go_simp⟩) ?_
  try simp only [Act.put, List.setIfInBounds_toArray, List.set_cons_zero, List.set_cons_succ]
  refine UpM.pure (i := 9) 117 (v := .pointer (some ⟨U, 0, none⟩)) rfl rfl (by kernel_rfl) (by kernel_rfl) (by kernel_rfl) (fun _ _ _ h => h) (Or.inl ⟨by rfl, by intro w_ hSw; go_simp⟩) ?_
  try simp only [Act.put, List.setIfInBounds_toArray, List.set_cons_zero, List.set_cons_succ]
  refine UpM.pure (i := 10) 118 (v := .pointer (some ⟨U, 10, none⟩)) rfl rfl (by kernel_rfl) (by kernel_rfl) (by kernel_rfl) (fun _ _ _ h => h) (Or.inl ⟨by rfl, by intro w_ hSw; go_simp⟩) ?_
  try simp only [Act.put, List.setIfInBounds_toArray, List.set_cons_zero, List.set_cons_succ]
  refine UpM.take (i := 11) 119 (v := .int .i64 Y) rfl rfl (by kernel_rfl) (by kernel_rfl) (by kernel_rfl) (by kernel_rfl) (fun _ _ _ h => h) hHeld (Or.inl ⟨by rfl, by intro w_ hSw; rw [hSw]; go_simp⟩) ?_
  try simp only [Act.put, List.setIfInBounds_toArray, List.set_cons_zero, List.set_cons_succ]
  refine UpM.pure (i := 12) 120 (v := .int .i64 S) rfl rfl (by kernel_rfl) (by kernel_rfl) (by kernel_rfl) (fun _ _ _ h => h) (Or.inl ⟨by rfl, by intro w_ hSw; go_simp⟩) ?_
  try simp only [Act.put, List.setIfInBounds_toArray, List.set_cons_zero, List.set_cons_succ]
  refine UpM.pure (i := 13) 121 (v := .int .i64 (Y - S)) rfl rfl (by kernel_rfl) (by kernel_rfl) (by kernel_rfl) (fun _ _ _ h => h) (Or.inl ⟨by rfl, by intro w_ hSw; go_simp⟩) ?_
  try simp only [Act.put, List.setIfInBounds_toArray, List.set_cons_zero, List.set_cons_succ]
  refine UpM.pure (i := 14) 122 (v := .pointer (some ⟨U, 0, none⟩)) rfl rfl (by kernel_rfl) (by kernel_rfl) (by kernel_rfl) (fun _ _ _ h => h) (Or.inl ⟨by rfl, by intro w_ hSw; go_simp⟩) ?_
  try simp only [Act.put, List.setIfInBounds_toArray, List.set_cons_zero, List.set_cons_succ]
  refine UpM.pure (i := 15) 123 (v := .pointer (some ⟨U, 11, none⟩)) rfl rfl (by kernel_rfl) (by kernel_rfl) (by kernel_rfl) (fun _ _ _ h => h) (Or.inl ⟨by rfl, by intro w_ hSw; go_simp⟩) ?_
  try simp only [Act.put, List.setIfInBounds_toArray, List.set_cons_zero, List.set_cons_succ]
  refine UpM.next (i := 16) (by kernel_rfl) rfl (fun K hK => ?_)
  go_simp
  refine hK.out _ _ (fun h => (h (by decide)).elim) ?_
  clear hK K
  try simp only [Act.put, List.setIfInBounds_toArray, List.set_cons_zero, List.set_cons_succ]
  refine UpM.pure (i := 17) 124 (v := .pointer (some ⟨U, 0, none⟩)) rfl rfl (by kernel_rfl) (by kernel_rfl) (by kernel_rfl) (fun _ _ _ h => h) (Or.inl ⟨by rfl, by intro w_ hSw; go_simp⟩) ?_
  try simp only [Act.put, List.setIfInBounds_toArray, List.set_cons_zero, List.set_cons_succ]
  refine UpM.pure (i := 18) 125 (v := .pointer (some ⟨U, 10, none⟩)) rfl rfl (by kernel_rfl) (by kernel_rfl) (by kernel_rfl) (fun _ _ _ h => h) (Or.inl ⟨by rfl, by intro w_ hSw; go_simp⟩) ?_
  try simp only [Act.put, List.setIfInBounds_toArray, List.set_cons_zero, List.set_cons_succ]
  refine UpM.next (i := 19) (by kernel_rfl) rfl (fun K hK => ?_)
  go_simp
  refine hK.out _ _ (fun h => (h (by decide)).elim) ?_
  clear hK K
  try simp only [Act.put, List.setIfInBounds_toArray, List.set_cons_zero, List.set_cons_succ]
  refine UpM.done (by kernel_rfl) ?_ _
  clear u10 u11 f10 f11 hHeld
  have HU3 : Hid (Blk ((w5.setCell ⟨U, 11, none⟩ (.int .i64 (se + S))).setCell ⟨U, 10, none⟩ (.int .i64 (Y - S))).drew U 97 #[strV nm, .int .i64 kd, .int .i64 pr, .int .i64 wt, .int .i64 pw, .int .i64 le, .int .i64 bu, .int .i64 ra, .int .i64 de, .int .i64 ne, .int .i64 (Y - S), .int .i64 (se + S), .int .i64 tb, .int .i64 M]) := hide ((HU2.out.set_ 11 (.int .i64 (se + S))).set_ 10 (.int .i64 (Y - S))).drew
  replace HT := hide (HT.out.step (only_drew (grown_set (grown_set (World.grownBy.refl w5 _) 11 (.int .i64 (se + S))) 10 (.int .i64 (Y - S)))))
  clear HU2 HTK HCE HGU HNX
  obtain ⟨W6, hW6⟩ : ∃ W6, ((w5.setCell ⟨U, 11, none⟩ (.int .i64 (se + S))).setCell ⟨U, 10, none⟩ (.int .i64 (Y - S))).drew = W6 := ⟨_, rfl⟩
  rw [hW6] at HU3 HT ⊢
  clear hW6
  have u13 : W6.cell? ⟨U, 13, none⟩ = some (.int .i64 M) := HU3.out.cell 13
  obtain ⟨i0, hi0, hz0, hz1, hz2⟩ := info_parts int_info
  have HN : Hid (W6.ownsRow W6.heap.size 3 1 (.slice none 0 0) 0 []) := hide ⟨rfl, .inl ⟨rfl, rfl⟩⟩
  go_wp2_with (at_builtin; refine wpList_append_own _ rfl _ _ 22 rfl W6.heap.size 3 i0 (.int .i64 0) 1 8 Try.underlying22 hi0 hz0 hz1 hz2 rfl (by decide) _ 0 [] rfl (own_bel HN.out ((Below.refl _ W6).alloc (Nat.le_refl _) (.cells #[.int .i64 M] 3))) ⟨W6.heap.size, 0, none⟩ 1 1 [.int .i64 M] rfl rfl (cell_one_new _ _ _) (by simp [Value.oneCell']) (by decide) (by decide) (by simp) ?_; intro v' w7 hown' hgrow _; obtain ⟨A7, c7, rfl⟩ := own_form hown')
  replace hgrow : (W6.alloc (.cells #[.int .i64 M] 3)).grownBy w7 none := hgrow
  clear hown' u13
  have hg7 : W6.grownBy w7 (some U) := (only_alloc (World.grownBy.refl W6 _) (.cells #[.int .i64 M] 3)).trans (World.grownBy.but hgrow _)
  replace HU3 := hide ((HU3.out.alloc (.cells #[.int .i64 M] 3)).grown hgrow (by simp))
  replace HT := hide (HT.out.step hg7)
  clear hg7 hgrow HN
  go_wp2_with fail
  rw [rounds_succ]
  go_wp2
  go_ret
  exact ⟨_, _, rfl, HU3.out, HT.out.now.1.2⟩
end Go.Proofs.Ytppkibgemacdbaa
