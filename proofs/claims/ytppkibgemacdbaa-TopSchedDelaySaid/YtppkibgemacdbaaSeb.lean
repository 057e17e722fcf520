import Derived.Test.YtppkibgemacdbaaSea
namespace Go.Proofs.Ytppkibgemacdbaa
open Go.RowKit Go.WideShapes Go.ChangeShapes

/-! openRun of one bearer -/
theorem stay_slots {w : World} {D : Option Addr} {m : Nat} {le : Int} {ar : Nat → Int} (h : SlotsAt w D m le ar) : Stay w (fun W => SlotsAt W D m le ar) := fun _ hW => h.bel hW
def OpenRunR (B C P : Int) (A : Option Addr) (c n : Nat) (cs : Array Value) (w : World) (e : Ending) (w' : World) : Prop :=
  ∃ R U V vc, e = .returned (.tuple #[.pointer (some ⟨R, 0, none⟩), .int .i64 0]) ∧ Blk w' R 93 #[.int .i64 B, .int .i64 C, .int .i64 P, .slice A n c, .slice (some ⟨V, 0, none⟩) 1 vc] ∧ w'.cell? ⟨V, 0, none⟩ = some (.pointer (some ⟨U, 0, none⟩)) ∧ Blk w' U 97 cs ∧ R ≠ U ∧ V ≠ U ∧ w.heap.size ≤ U ∧ Below w.heap.size w w'
set_option maxRecDepth 100000 in
set_option maxHeartbeats 8000000 in
theorem openRun_one (B C P : Int) (A : Option Addr) (c n : Nat) (T : List Int) (nm : Bs) (kd pr wt pw le bu ra de : Int) (w : World) (hn : T.length = n) (hs : Sl w A (iv T)) (hs2 : OkS B C P T) (ho : OkB T nm kd pr wt pw le bu ra de) (hk : kd ≠ 0) (hf : fitB B P pw ra bu de (tbO T le) = true) (g d : Nat) (hg : Blk w g 32 #[strV nm, .int .i64 kd, .int .i64 pr, .int .i64 wt, .int .i64 pw, .int .i64 le, .int .i64 bu, .int .i64 ra, .int .i64 de]) (D : Option Addr) (dd m : Nat) (ar : Nat → Int) (hsl : SlotsAt w D m le ar) (hm : m ≤ 60) (har : ∀ k, k < m → 0 ≤ ar k ∧ ar k ≤ 1000000) :
    Calls Try.prog 36 #[.agg #[.int .i64 B, .int .i64 C, .int .i64 P, .slice A n c], .slice (some ⟨g, 0, none⟩) 1 d, .slice D m dd] w (OpenRunR B C P A c n #[strV nm, .int .i64 kd, .int .i64 pr, .int .i64 wt, .int .i64 pw, .int .i64 le, .int .i64 bu, .int .i64 ra, .int .i64 de, .int .i64 (needB ra bu de (tbO T le)), .int .i64 0, .int .i64 0, .int .i64 0, .int .i64 0] w) := by
  have HOA := hide (fun W k k2 => openAllOne B C P A c n T nm kd pr wt pw le bu ra de W hn k hs2 ho hk hf g d k2)
  have HNR := hide (fun W k k2 => newRun_one B C P A c n T nm kd pr wt pw le bu ra de W hn k hs2 ho hk g d k2)
  have hle := (ho.sure hk).1
  have HSE := hide (fun W k => slotsErr_ok B C P A c n D dd m le ar W k hm (by have := hs2.few; omega) (by omega) har)
  have HT : Hid (Stay (w.alloc (.cells #[.int .i64 B, .int .i64 C, .int .i64 P, .slice A n c] 24)) (fun W => (((Blk W w.heap.size 24 #[.int .i64 B, .int .i64 C, .int .i64 P, .slice A n c] ∧ Blk W g 32 #[strV nm, .int .i64 kd, .int .i64 pr, .int .i64 wt, .int .i64 pw, .int .i64 le, .int .i64 bu, .int .i64 ra, .int .i64 de]) ∧ Sl W A (iv T)) ∧ SlotsAt W D m le ar) ∧ Below w.heap.size w W)) := hide
    ((((stay_blk (Blk.new w 24 #[.int .i64 B, .int .i64 C, .int .i64 P, .slice A n c])).and ((stay_blk hg).alloc (.cells #[.int .i64 B, .int .i64 C, .int .i64 P, .slice A n c] 24))).and ((stay_sl hs).alloc (.cells #[.int .i64 B, .int .i64 C, .int .i64 P, .slice A n c] 24))).and ((stay_slots hsl).alloc (.cells #[.int .i64 B, .int .i64 C, .int .i64 P, .slice A n c] 24)) |>.and (stay_below ((Below.refl _ w).alloc (Nat.le_refl _) (.cells #[.int .i64 B, .int .i64 C, .int .i64 P, .slice A n c] 24))))
  clear hs hs2 ho hk hn hf hg hsl hm har hle
  go_enter Try.func36, Try.ntmps36
  obtain ⟨W0, hW0⟩ : ∃ W0, w.alloc (.cells #[.int .i64 B, .int .i64 C, .int .i64 P, .slice A n c] 24) = W0 := ⟨_, rfl⟩
  rw [hW0] at HT
  have z0 : W0.cell? ⟨w.heap.size, 0, none⟩ = some (.int .i64 B) := HT.out.now.1.1.1.1.cell 0
  have z1 : W0.cell? ⟨w.heap.size, 1, none⟩ = some (.int .i64 C) := HT.out.now.1.1.1.1.cell 1
  have z2 : W0.cell? ⟨w.heap.size, 2, none⟩ = some (.int .i64 P) := HT.out.now.1.1.1.1.cell 2
  have z3 : W0.cell? ⟨w.heap.size, 3, none⟩ = some (.slice A n c) := HT.out.now.1.1.1.1.cell 3
  go_wp2_with (first
    | (go_at_call 25; go_must (refine (HOA.out _ HT.out.now.1.1.2 HT.out.now.1.1.1.2).mono ?_; rintro e w1 ⟨rfl, hb⟩; replace HT := hide (HT.out.step hb); clear hb hW0 z0 z1 z2 z3; simp only []))
    | (refine wpList_store_row rfl 74 (.tmp 8) (.tmp 14) rfl w1.heap.size #[.int .i64 B, .int .i64 C, .int .i64 P, .slice A n c] rfl rfl 74 #[.int .i64 0, .int .i64 0, .int .i64 0, .slice none 0 0] (Blk.new w1 74 #[.int .i64 0, .int .i64 0, .int .i64 0, .slice none 0 0]) (by kernel_rfl) rfl (by simp [Value.oneCell']) ?_; have HX := hide ((Blk.new w1 74 #[.int .i64 0, .int .i64 0, .int .i64 0, .slice none 0 0]).row #[.int .i64 B, .int .i64 C, .int .i64 P, .slice A n c]); replace HT := hide ((HT.out.step (Below.row (g := w1.heap.size) ((Below.refl w1.heap.size w1).alloc (Nat.le_refl _) (.cells #[.int .i64 0, .int .i64 0, .int .i64 0, .slice none 0 0] 74)) (Nat.le_refl _) #[.int .i64 B, .int .i64 C, .int .i64 P, .slice A n c])).and (stay_blk HX.out)); clear HX))
  obtain ⟨W4, hW4⟩ : ∃ W4, (w1.alloc (.cells #[.int .i64 0, .int .i64 0, .int .i64 0, .slice none 0 0] 74)).setRow w1.heap.size #[.int .i64 B, .int .i64 C, .int .i64 P, .slice A n c] = W4 := ⟨_, rfl⟩
  rw [hW4] at HT ⊢
  have hz4 : w1.heap.size < W4.heap.size := by rw [← hW4]; simp
  clear hW4
  refine wp_region_held_drew (S := fun w' => Below W4.heap.size W4 w') (by kernel_rfl) (below_drewN (Below.refl W4.heap.size W4) 1) (fun hHeld => ?_)
  refine take_at (i := 0) 19 (v := .agg #[.int .i64 B, .int .i64 C, .int .i64 P, .slice A n c]) rfl rfl (by kernel_rfl) (by kernel_rfl) (by kernel_rfl) (fun _ _ _ h => h) (Or.inl ⟨by rfl, by intro w_ hSw; have c0 : w_.cell? ⟨w1.heap.size, 0, none⟩ = some (.int .i64 B) := (HT.out _ hSw).2.cell 0; have c1 : w_.cell? ⟨w1.heap.size, 1, none⟩ = some (.int .i64 C) := (HT.out _ hSw).2.cell 1; have c2 : w_.cell? ⟨w1.heap.size, 2, none⟩ = some (.int .i64 P) := (HT.out _ hSw).2.cell 2; have c3 : w_.cell? ⟨w1.heap.size, 3, none⟩ = some (.slice A n c) := (HT.out _ hSw).2.cell 3; go_simp⟩) (by assumption) ?_
  try simp only [Act.put, List.setIfInBounds_toArray, List.set_cons_zero, List.set_cons_succ]
  refine take_at (i := 1) 20 (v := .slice (some ⟨g, 0, none⟩) 1 d) rfl rfl (by kernel_rfl) (by kernel_rfl) (by kernel_rfl) (fun _ _ _ h => h) (Or.inl ⟨by rfl, by intro w_ hSw; go_simp⟩) (by assumption) ?_
  try simp only [Act.put, List.setIfInBounds_toArray, List.set_cons_zero, List.set_cons_succ]
  refine take_at (i := 3) 22 (v := .agg #[.int .i64 B, .int .i64 C, .int .i64 P, .slice A n c]) rfl rfl (by kernel_rfl) (by kernel_rfl) (by kernel_rfl) (fun _ _ _ h => h) (Or.inl ⟨by rfl, by intro w_ hSw; have c0 : w_.cell? ⟨w1.heap.size, 0, none⟩ = some (.int .i64 B) := (HT.out _ hSw).2.cell 0; have c1 : w_.cell? ⟨w1.heap.size, 1, none⟩ = some (.int .i64 C) := (HT.out _ hSw).2.cell 1; have c2 : w_.cell? ⟨w1.heap.size, 2, none⟩ = some (.int .i64 P) := (HT.out _ hSw).2.cell 2; have c3 : w_.cell? ⟨w1.heap.size, 3, none⟩ = some (.slice A n c) := (HT.out _ hSw).2.cell 3; go_simp⟩) (by assumption) ?_
  try simp only [Act.put, List.setIfInBounds_toArray, List.set_cons_zero, List.set_cons_succ]
  refine take_at (i := 4) 23 (v := .slice (some ⟨g, 0, none⟩) 1 d) rfl rfl (by kernel_rfl) (by kernel_rfl) (by kernel_rfl) (fun _ _ _ h => h) (Or.inl ⟨by rfl, by intro w_ hSw; go_simp⟩) (by assumption) ?_
  try simp only [Act.put, List.setIfInBounds_toArray, List.set_cons_zero, List.set_cons_succ]
  refine take_at (i := 5) 24 (v := .int .i64 1) rfl rfl (by kernel_rfl) (by kernel_rfl) (by kernel_rfl) (fun _ _ _ h => h) (Or.inl ⟨by rfl, by intro w_ hSw; go_simp⟩) (by assumption) ?_
  try simp only [Act.put, List.setIfInBounds_toArray, List.set_cons_zero, List.set_cons_succ]
  refine take_at (i := 6) 25 (v := .slice D m dd) rfl rfl (by kernel_rfl) (by kernel_rfl) (by kernel_rfl) (fun _ _ _ h => h) (Or.inl ⟨by rfl, by intro w_ hSw; go_simp⟩) (by assumption) ?_
  try simp only [Act.put, List.setIfInBounds_toArray, List.set_cons_zero, List.set_cons_succ]
  refine wpAnyH_ready (rs := [2]) (by kernel_rfl) (by simp) ?_
  refine AllReadyH.cons rfl (fun K hK => ?_) AllReadyH.nil
  go_simp
  go_at_call 54
  refine (HNR.out _ (HT.out _ hHeld).1.1.1.2 (HT.out _ hHeld).1.1.1.1.2).mono ?_
  rintro e w5 ⟨R, U, V, vc, rfl, hR, hV, hU, hRU, hVU, hUw, hb⟩
  replace hHeld := Below.step hHeld hb
  have HN := hide ((stay_blk hR).and (stay_at hV) |>.and (stay_blk hU))
  replace hUw : w.heap.size ≤ U := by have h1 := (HT.out.now.1.2).size; have h2 : W4.drew.heap.size = W4.heap.size := rfl; omega
  clear hR hV hU hb HNR HOA
  simp only []
  refine hK.out _ _ hHeld (fun hHeld => ?_)
  clear hK K
  try simp only [Act.put, List.setIfInBounds_toArray, List.set_cons_zero, List.set_cons_succ]
  refine wpAnyH_ready (rs := [7]) (by kernel_rfl) (by simp) ?_
  refine AllReadyH.cons rfl (fun K hK => ?_) AllReadyH.nil
  go_simp
  go_at_call 55
  refine (HSE.out _ (HT.out _ hHeld).1.1.2).mono ?_
  rintro e w6 ⟨rfl, hb⟩
  replace hHeld := Below.step hHeld hb
  replace HN := hide (HN.out.step hb)
  have HB := hide ((HT.out _ hHeld).1.2)
  clear hb
  simp only []
  refine hK.out _ _ hHeld (fun hHeld => ?_)
  clear hK K
  try simp only [Act.put, List.setIfInBounds_toArray, List.set_cons_zero, List.set_cons_succ]
  refine take_at (i := 8) 6 (v := .pointer (some ⟨R, 0, none⟩)) rfl rfl (by kernel_rfl) (by kernel_rfl) (by kernel_rfl) (fun _ _ _ h => h) (Or.inl ⟨by rfl, by intro w_ hSw; go_simp⟩) (by assumption) ?_
  try simp only [Act.put, List.setIfInBounds_toArray, List.set_cons_zero, List.set_cons_succ]
  refine take_at (i := 9) 7 (v := .int .i64 0) rfl rfl (by kernel_rfl) (by kernel_rfl) (by kernel_rfl) (fun _ _ _ h => h) (Or.inl ⟨by rfl, by intro w_ hSw; go_simp⟩) (by assumption) ?_
  try simp only [Act.put, List.setIfInBounds_toArray, List.set_cons_zero, List.set_cons_succ]
  refine wpAnyH_done (by kernel_rfl) ?_ _
  clear hHeld
  go_wp2
  refine bodyPost_ret (v := .tuple #[.pointer (some ⟨R, 0, none⟩), .int .i64 0]) (by simp [results, Try.results36, go_sem]) rfl ⟨R, U, V, vc, rfl, HN.out.now.1.1, HN.out.now.1.2, HN.out.now.2, hRU, hVU, hUw, HB.out⟩
end Go.Proofs.Ytppkibgemacdbaa
