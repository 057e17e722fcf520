import Derived.Test.YtppkibgemacdbaaSdR
namespace Go.Proofs.Ytppkibgemacdbaa
open Go.RowKit Go.WideShapes Go.ChangeShapes

/-! Copy of a site -/
theorem own_base {w : World} {base e size n c b off : Nat} {A : Option Addr} {xs : List Value} (h : w.ownsRow base e size (.slice A n c) n xs) (hA : A = some ⟨b, off, none⟩) : base ≤ b := by
  subst hA
  exact (h.lt _ rfl).1
theorem sl_row {w : World} {A : Option Addr} {xs : List Value} (h : Sl w A xs) {g : Nat} (hg : ∀ b off, A = some ⟨b, off, none⟩ → b ≠ g) (cs : Array Value) : Sl (w.setRow g cs) A xs := fun k hk => by
  obtain ⟨b, off, e, h1⟩ := h k hk
  refine ⟨b, off, e, ?_⟩
  rw [← h1]
  unfold World.cell?
  rw [setRow_other w g b cs (hg b off e)]
set_option maxRecDepth 100000 in
theorem copyS (B C P : Int) (A : Option Addr) (c n : Nat) (T : List Int) (w : World) (hn : T.length = n) (hs : Sl w A (iv T)) (hl : n ≤ 1000000) :
    Calls Try.prog 11 #[.agg #[.int .i64 B, .int .i64 C, .int .i64 P, .slice A n c]] w fun e w' => ∃ A1 c1, e = .returned (.agg #[.int .i64 B, .int .i64 C, .int .i64 P, .slice A1 n c1]) ∧ Sl w' A1 (iv T) ∧ Below w.heap.size w w' := by
  have HCI := hide (fun W k => (by have h := copyInts A c T W k (by omega); unfold RetI OwnI at h; rw [hn] at h; exact h : Calls Try.prog 34 #[.slice A n c] W fun e w' => ∃ A' c', e = .returned (.slice A' n c') ∧ w'.ownsRow W.heap.size 3 1 (.slice A' n c') n (iv T) ∧ Below W.heap.size W w'))
  have HT := hide ((((stay_blk (Blk.new w 24 #[.int .i64 B, .int .i64 C, .int .i64 P, .slice A n c])).alloc (.cells #[.int .i64 0, .int .i64 0, .int .i64 0, .slice none 0 0] 24)).and (stay_blk (blk_up w 24 24 #[.int .i64 B, .int .i64 C, .int .i64 P, .slice A n c] #[.int .i64 0, .int .i64 0, .int .i64 0, .slice none 0 0]))).and ((stay_sl (hs.alloc (.cells #[.int .i64 B, .int .i64 C, .int .i64 P, .slice A n c] 24))).alloc (.cells #[.int .i64 0, .int .i64 0, .int .i64 0, .slice none 0 0] 24)) |>.and (stay_below (((Below.refl _ w).alloc (Nat.le_refl _) (.cells #[.int .i64 B, .int .i64 C, .int .i64 P, .slice A n c] 24)).alloc (by simp) (.cells #[.int .i64 0, .int .i64 0, .int .i64 0, .slice none 0 0] 24))))
  clear hs hn
  go_enter Try.func11, Try.ntmps11
  go_wp2_with fail
  go_at_call 34
  refine (HCI.out _ HT.out.now.1.2).mono ?_
  rintro e w1 ⟨A1, c1, rfl, ho, hb⟩
  replace HT := hide (HT.out.step hb)
  have HB1 := hide (show ∀ b off, A1 = some ⟨b, off, none⟩ → w.heap.size + 2 ≤ b from fun b off e => by have h := own_base ho e; simp at h; omega)
  have HS1 := hide (Sl.of_ownN ho)
  clear hb ho
  have z0 : w1.cell? ⟨w.heap.size, 0, none⟩ = some (.int .i64 B) := HT.out.now.1.1.1.cell 0
  have z1 : w1.cell? ⟨w.heap.size, 1, none⟩ = some (.int .i64 C) := HT.out.now.1.1.1.cell 1
  have z2 : w1.cell? ⟨w.heap.size, 2, none⟩ = some (.int .i64 P) := HT.out.now.1.1.1.cell 2
  have z3 : w1.cell? ⟨w.heap.size, 3, none⟩ = some (.slice A n c) := HT.out.now.1.1.1.cell 3
  have f3 := HT.out.now.1.1.1.frozen 3
  have yl := HT.out.now.1.1.1.lt
  have HX := hide (HT.out.now.1.1.1.set_ 3 (.slice A1 n c1))
  have HY := hide (HT.out.now.1.1.2.far (p := ⟨w.heap.size, 3, none⟩) (by show w.heap.size + 1 ≠ w.heap.size; omega) (.slice A1 n c1))
  have HB := hide (HT.out.now.2.setCell (p := ⟨w.heap.size, 3, none⟩) (Nat.le_refl _) (.slice A1 n c1))
  have HS2 := hide (HS1.out.setCell (g := w.heap.size) (i := 3) (fun b off e => by have := HB1.out b off e; omega) (.slice A1 n c1))
  have x0 : (w1.setCell ⟨w.heap.size, 3, none⟩ (.slice A1 n c1)).cell? ⟨w.heap.size, 0, none⟩ = some (.int .i64 B) := HX.out.cell 0
  have x1 : (w1.setCell ⟨w.heap.size, 3, none⟩ (.slice A1 n c1)).cell? ⟨w.heap.size, 1, none⟩ = some (.int .i64 C) := HX.out.cell 1
  have x2 : (w1.setCell ⟨w.heap.size, 3, none⟩ (.slice A1 n c1)).cell? ⟨w.heap.size, 2, none⟩ = some (.int .i64 P) := HX.out.cell 2
  have x3 : (w1.setCell ⟨w.heap.size, 3, none⟩ (.slice A1 n c1)).cell? ⟨w.heap.size, 3, none⟩ = some (.slice A1 n c1) := HX.out.cell 3
  simp only []
  go_wp2_with (refine wpList_store_row rfl 24 (.tmp 2) (.tmp 7) rfl (w.heap.size + 1) #[.int .i64 B, .int .i64 C, .int .i64 P, .slice A1 n c1] rfl rfl 24 #[.int .i64 0, .int .i64 0, .int .i64 0, .slice none 0 0] HY.out (by kernel_rfl) rfl (by simp [Value.oneCell']) ?_)
  have HZ := hide (HY.out.row #[.int .i64 B, .int .i64 C, .int .i64 P, .slice A1 n c1])
  have HB2 := hide (Below.row (g := w.heap.size + 1) HB.out (by omega) #[.int .i64 B, .int .i64 C, .int .i64 P, .slice A1 n c1])
  have HS3 := hide (sl_row (g := w.heap.size + 1) HS2.out (fun b off e => by have := HB1.out b off e; omega) #[.int .i64 B, .int .i64 C, .int .i64 P, .slice A1 n c1])
  obtain ⟨W5, hW5⟩ : ∃ W5, (w1.setCell ⟨w.heap.size, 3, none⟩ (.slice A1 n c1)).setRow (w.heap.size + 1) #[.int .i64 B, .int .i64 C, .int .i64 P, .slice A1 n c1] = W5 := ⟨_, rfl⟩
  rw [hW5] at HZ HB2 HS3 ⊢
  refine bodyPost_ret (v := .agg #[.int .i64 B, .int .i64 C, .int .i64 P, .slice A1 n c1]) ?_ rfl ⟨A1, c1, rfl, HS3.out, HB2.out⟩
  have y0 : W5.cell? ⟨w.heap.size + 1, 0, none⟩ = some (.int .i64 B) := HZ.out.cell 0
  have y1 : W5.cell? ⟨w.heap.size + 1, 1, none⟩ = some (.int .i64 C) := HZ.out.cell 1
  have y2 : W5.cell? ⟨w.heap.size + 1, 2, none⟩ = some (.int .i64 P) := HZ.out.cell 2
  have y3 : W5.cell? ⟨w.heap.size + 1, 3, none⟩ = some (.slice A1 n c1) := HZ.out.cell 3
  simp [results, Try.results11, go_sem, y0, y1, y2, y3]
end Go.Proofs.Ytppkibgemacdbaa
