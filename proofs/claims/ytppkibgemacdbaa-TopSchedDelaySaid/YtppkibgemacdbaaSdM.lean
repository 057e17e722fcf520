import Derived.Test.YtppkibgemacdbaaSdL
namespace Go.Proofs.Ytppkibgemacdbaa
open Go.RowKit Go.WideShapes Go.ChangeShapes

/-! no bearers, one bearer -/
theorem indexNone (A : Option Addr) (c : Nat) (f : Value) (w : World) :
    Calls Try.prog 61 #[.slice A 0 c, f] w fun e w' => e = .returned (.int .i64 (-1)) ∧ w = w' := by
  go_enter Try.func61, Try.ntmps61
  go_wp2_with fail
  refine wp_loop_rounds 1 ?_
  rw [rounds_succ]
  go_wp2
  go_ret
  exact ⟨rfl, rfl⟩
theorem containsNone (A : Option Addr) (c : Nat) (f : Value) (w : World) :
    Calls Try.prog 49 #[.slice A 0 c, f] w fun e w' => e = .returned (.bool false) ∧ w = w' := by
  go_enter Try.func49, Try.ntmps49
  go_wp2_with (go_at_call 61; go_must (refine (indexNone _ _ _ _).mono ?_; rintro e w' ⟨rfl, rfl⟩; simp only []))
  go_ret
  exact ⟨rfl, rfl⟩
theorem namedNone (A : Option Addr) (c : Nat) (nm : Bs) (w : World) :
    Calls Try.prog 29 #[.slice A 0 c, strV nm] w fun e w' => e = .returned (.bool false) ∧ Below w.heap.size w w' := by
  go_enter Try.func29, Try.ntmps29
  go_wp2_with (go_at_call 49; go_must (refine (containsNone _ _ _ _).mono ?_; rintro e w' ⟨rfl, rfl⟩; simp only []))
  go_ret
  exact ⟨rfl, (Below.refl _ _).alloc (Nat.le_refl _) _⟩
set_option maxRecDepth 100000 in
set_option maxHeartbeats 4000000 in
theorem roomNone (B C P : Int) (A : Option Addr) (c n : Nat) (D : Option Addr) (d : Nat) (w : World) :
    Calls Try.prog 51 #[.agg #[.int .i64 B, .int .i64 C, .int .i64 P, .slice A n c], .slice D 0 d] w fun e w' => e = .returned (.agg #[.int .i64 B, .int .i64 C, .int .i64 P]) ∧ Below w.heap.size w w' := by
  have HX1 := hide ((blk_up w 74 51 #[.int .i64 B, .int .i64 C, .int .i64 P, .slice A n c] #[.int .i64 0, .int .i64 0, .int .i64 0]).alloc (.cells #[.int .i64 B, .int .i64 C, .int .i64 P] 51))
  have HB := hide ((((Below.refl _ w).alloc (Nat.le_refl _) (.cells #[.int .i64 B, .int .i64 C, .int .i64 P, .slice A n c] 74)).alloc (by simp) (.cells #[.int .i64 0, .int .i64 0, .int .i64 0] 51)).alloc (by simp; omega) (.cells #[.int .i64 B, .int .i64 C, .int .i64 P] 51))
  go_enter Try.func51, Try.ntmps51
  go_wp2_with fail
  refine wp_loop_rounds 1 ?_
  rw [rounds_succ]
  go_wp2_with (refine wpList_store_row rfl 51 (.tmp 4) (.tmp 45) rfl (w.heap.size + 1) #[.int .i64 B, .int .i64 C, .int .i64 P] rfl rfl 51 #[.int .i64 0, .int .i64 0, .int .i64 0] HX1.out (by kernel_rfl) rfl (by simp [Value.oneCell']) ?_)
  have HX := hide (HX1.out.row #[.int .i64 B, .int .i64 C, .int .i64 P])
  have HB2 := hide (Below.row (g := w.heap.size + 1) HB.out (by omega) #[.int .i64 B, .int .i64 C, .int .i64 P])
  obtain ⟨W5, hW5⟩ : ∃ W5, (((w.alloc (.cells #[.int .i64 B, .int .i64 C, .int .i64 P, .slice A n c] 74)).alloc (.cells #[.int .i64 0, .int .i64 0, .int .i64 0] 51)).alloc (.cells #[.int .i64 B, .int .i64 C, .int .i64 P] 51)).setRow (w.heap.size + 1) #[.int .i64 B, .int .i64 C, .int .i64 P] = W5 := ⟨_, rfl⟩
  rw [hW5] at HX HB2 ⊢
  refine bodyPost_ret (v := .agg #[.int .i64 B, .int .i64 C, .int .i64 P]) ?_ rfl ⟨rfl, HB2.out⟩
  have y0 : W5.cell? ⟨w.heap.size + 1, 0, none⟩ = some (.int .i64 B) := HX.out.cell 0
  have y1 : W5.cell? ⟨w.heap.size + 1, 1, none⟩ = some (.int .i64 C) := HX.out.cell 1
  have y2 : W5.cell? ⟨w.heap.size + 1, 2, none⟩ = some (.int .i64 P) := HX.out.cell 2
  simp [results, Try.results51, go_sem, y0, y1, y2]
theorem fitNone (B C P : Int) (A : Option Addr) (c n : Nat) (D : Option Addr) (d : Nat) (w : World) (hb : 0 ≤ B) (hc : 0 ≤ C) (hp : 0 ≤ P) :
    Calls Try.prog 30 #[.agg #[.int .i64 B, .int .i64 C, .int .i64 P, .slice A n c], .slice D 0 d] w fun e w' => e = .returned (.bool true) ∧ Below w.heap.size w w' := by
  have HR := hide (fun W => roomNone B C P A c n D d W)
  have HB := hide ((Below.refl _ w).alloc (Nat.le_refl _) (.cells #[.int .i64 B, .int .i64 C, .int .i64 P, .slice A n c] 74))
  go_enter Try.func30, Try.ntmps30
  go_wp2_with (go_at_call 51; go_must (refine (HR.out _).mono ?_; rintro e w2 ⟨rfl, hb⟩; replace HB := hide (Below.step HB.out hb); clear hb; simp only []))
  all_goals first
    | (go_ret
       refine ⟨?_, HB.out.alloc HB.out.size _⟩
       first
         | rfl
         | (simp; omega)
         | (simp only [decide_eq_true_eq, decide_eq_true, *]))
end Go.Proofs.Ytppkibgemacdbaa
