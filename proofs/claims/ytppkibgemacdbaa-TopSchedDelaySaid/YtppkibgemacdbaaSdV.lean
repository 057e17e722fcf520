import Derived.Test.YtppkibgemacdbaaSdU
namespace Go.Proofs.Ytppkibgemacdbaa
open Go.RowKit Go.WideShapes Go.ChangeShapes

/-! slots of one bearer -/
def SlotsAt (W : World) (D : Option Addr) (m : Nat) (le : Int) (ar : Nat → Int) : Prop := ∀ k, k < m → ∃ b o rb ro r qb qo q, D = some ⟨b, o, none⟩ ∧ W.cell? ⟨b, o + k * 2, none⟩ = some (.slice (some ⟨rb, ro, none⟩) 1 r) ∧ W.cell? ⟨b, o + k * 2 + 1, none⟩ = some (.slice (some ⟨qb, qo, none⟩) 1 q) ∧ W.cell? ⟨rb, ro, none⟩ = some (.int .i64 le) ∧ W.cell? ⟨qb, qo, none⟩ = some (.int .i64 (ar k))
theorem SlotsAt.bel {W W' : World} {D : Option Addr} {m : Nat} {le : Int} {ar : Nat → Int} (h : SlotsAt W D m le ar) (hb : Below W.heap.size W W') : SlotsAt W' D m le ar := fun k hk => by
  obtain ⟨b, o, rb, ro, r, qb, qo, q, h1, h2, h3, h4, h5⟩ := h k hk
  exact ⟨b, o, rb, ro, r, qb, qo, q, h1, (hb.cell (lt_of_cell h2)).trans h2, (hb.cell (lt_of_cell h3)).trans h3, (hb.cell (lt_of_cell h4)).trans h4, (hb.cell (lt_of_cell h5)).trans h5⟩
set_option maxRecDepth 100000 in
set_option maxHeartbeats 4000000 in
theorem slotsErr_ok (B C P : Int) (A : Option Addr) (c n : Nat) (D : Option Addr) (d m : Nat) (le : Int) (ar : Nat → Int) (w : World) (hs : SlotsAt w D m le ar) (hm : m ≤ 60) (hn : n ≤ 1000) (hle : 0 ≤ le ∧ le < (n : Int)) (har : ∀ k, k < m → 0 ≤ ar k ∧ ar k ≤ 1000000) :
    Calls Try.prog 55 #[.agg #[.int .i64 B, .int .i64 C, .int .i64 P, .slice A n c], .int .i64 1, .slice D m d] w fun e w' => e = .returned (.int .i64 0) ∧ Below w.heap.size w w' := by
  have HIR := hide (fun W => isReport_sched B C P A c n le W (by omega) (by omega))
  have H5 := hide (show withinB le 0 ((n : Int) - 1) = true by simp [withinB]; omega)
  have HAR := hide (fun k (hk : k < m) => show withinB (ar k) 0 1000000 = true by have := har k hk; simp [withinB]; omega)
  have HT := hide ((stay_blk (Blk.new w 74 #[.int .i64 B, .int .i64 C, .int .i64 P, .slice A n c])).and (show Stay (w.alloc (.cells #[.int .i64 B, .int .i64 C, .int .i64 P, .slice A n c] 74)) (fun W => SlotsAt W D m le ar) from fun W hW => (hs.bel ((Below.refl _ w).alloc (Nat.le_refl _) _)).bel hW) |>.and (stay_below ((Below.refl _ w).alloc (Nat.le_refl _) (.cells #[.int .i64 B, .int .i64 C, .int .i64 P, .slice A n c] 74))))
  have hm60 : ¬ (60 : Int) < (m : Int) := by omega
  clear hs hle har
  go_enter Try.func55, Try.ntmps55
  go_wp2_with fail
  obtain ⟨W0, hW0⟩ : ∃ W0, w.alloc (.cells #[.int .i64 B, .int .i64 C, .int .i64 P, .slice A n c] 74) = W0 := ⟨_, rfl⟩
  rw [hW0] at HT ⊢
  clear hW0
  go_loopw [16] (fun i wr => ∃ k : Nat, k ≤ m ∧ i = .int .i64 k ∧ Below W0.heap.size W0 wr) (fun i _ => m - (intOf i).toNat)
  case atStart => exact ⟨0, Nat.zero_le _, rfl, Below.refl _ _⟩
  case round =>
    obtain ⟨k, hk, rfl, hbel⟩ := hrel
    have HX := hide ((HT.out.step hbel).and (stay_below hbel))
    clear hbel
    by_cases hlt : k < m
    · obtain ⟨b, o, rb, ro, r, qb, qo, q, rfl, h2, h3, h4, h5⟩ := HX.out.now.1.1.2 k hlt
      have hki : (k : Int) < (m : Int) := by omega
      have H6 := hide (HAR.out k hlt)
      obtain ⟨y, hy⟩ : ∃ y, ar k = y := ⟨_, rfl⟩
      rw [hy] at h5 H6
      replace HX := hide (HX.out.and ((stay_at h4).and (stay_at h5)))
      clear hy h4 h5
      go_wp2_with fail
      refine wp_loop_rounds 2 ?_
      rw [rounds_succ]
      replace HX := hide ((HX.out.alloc (.cells #[.slice (some ⟨rb, ro, none⟩) 1 r, .slice (some ⟨qb, qo, none⟩) 1 q] 44)).and (stay_blk (Blk.new wr 44 #[.slice (some ⟨rb, ro, none⟩) 1 r, .slice (some ⟨qb, qo, none⟩) 1 q])))
      obtain ⟨W6, hW6⟩ : ∃ W6, wr.alloc (.cells #[.slice (some ⟨rb, ro, none⟩) 1 r, .slice (some ⟨qb, qo, none⟩) 1 q] 44) = W6 := ⟨_, rfl⟩
      rw [hW6] at HX ⊢
      clear hW6 h2 h3
      have d1 : W6.cell? ⟨rb, ro, none⟩ = some (.int .i64 le) := HX.out.now.1.2.1
      have s0 : W6.cell? ⟨w.heap.size, 0, none⟩ = some (.int .i64 B) := HX.out.now.1.1.1.1.1.cell 0
      have s1 : W6.cell? ⟨w.heap.size, 1, none⟩ = some (.int .i64 C) := HX.out.now.1.1.1.1.1.cell 1
      have s2 : W6.cell? ⟨w.heap.size, 2, none⟩ = some (.int .i64 P) := HX.out.now.1.1.1.1.1.cell 2
      have s3 : W6.cell? ⟨w.heap.size, 3, none⟩ = some (.slice A n c) := HX.out.now.1.1.1.1.1.cell 3
      go_wp2_with (first
        | (go_at_call 48; go_must (refine (HIR.out _).mono ?_; rintro e w7 ⟨rfl, hb⟩; rw [H5.out]; replace HX := hide (HX.out.step hb); clear hb d1 s0 s1 s2 s3; have d2 : w7.cell? ⟨qb, qo, none⟩ = some (.int .i64 y) := HX.out.now.1.2.2; have t1 : w7.cell? ⟨wr.heap.size, 1, none⟩ = some (.slice (some ⟨qb, qo, none⟩) 1 q) := HX.out.now.2.cell 1; simp only []))
        | (go_at_call 41; go_must (refine (within_sy _ _ _ _).mono ?_; rintro e w' ⟨rfl, rfl⟩; rw [H6.out]; simp only [])))
      rw [rounds_succ]
      go_wp2
      go_roundw
      case rel => exact ⟨k + 1, by omega, by go_num, HX.out.now.1.1.2⟩
      case measure => simp [intOf]; omega
    · go_wp2
      go_ret
      exact ⟨rfl, HX.out.now.1.2⟩
end Go.Proofs.Ytppkibgemacdbaa
