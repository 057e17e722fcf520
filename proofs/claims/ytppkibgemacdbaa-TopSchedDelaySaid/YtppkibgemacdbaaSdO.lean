import Derived.Test.YtppkibgemacdbaaSdN
namespace Go.Proofs.Ytppkibgemacdbaa
open Go.RowKit Go.WideShapes Go.ChangeShapes

/-! fit of one bearer -/
/-- whether a bearer's need fits a site that is empty -/
def fitB (B P : Int) (pw ra bu de tb : Int) : Bool := decide (needB ra bu de tb ≤ B) && decide (needB ra bu de tb * pw ≤ P)
set_option maxRecDepth 100000 in
set_option maxHeartbeats 4000000 in
theorem fitOne (B C P : Int) (A : Option Addr) (c n : Nat) (T : List Int) (nm : Bs) (kd pr wt pw le bu ra de : Int) (w : World) (hn : T.length = n) (hs : Sl w A (iv T)) (hs2 : OkS B C P T) (ho : OkB T nm kd pr wt pw le bu ra de) (hk : kd ≠ 0) (g d : Nat) (hg : Blk w g 32 #[strV nm, .int .i64 kd, .int .i64 pr, .int .i64 wt, .int .i64 pw, .int .i64 le, .int .i64 bu, .int .i64 ra, .int .i64 de]) :
    Calls Try.prog 30 #[.agg #[.int .i64 B, .int .i64 C, .int .i64 P, .slice A n c], .slice (some ⟨g, 0, none⟩) 1 d] w fun e w' => e = .returned (.bool (fitB B P pw ra bu de (tbO T le))) ∧ Below w.heap.size w w' := by
  have HR := hide (fun W k k2 => roomOne B C P A c n T nm kd pr wt pw le bu ra de W hn k hs2 ho hk g d k2)
  have hc := hs2.c
  have hv : fitB B P pw ra bu de (tbO T le) = true ∧ 0 ≤ B - needB ra bu de (tbO T le) ∧ 0 ≤ P - needB ra bu de (tbO T le) * pw ∨ fitB B P pw ra bu de (tbO T le) = false ∧ B - needB ra bu de (tbO T le) < 0 ∨ fitB B P pw ra bu de (tbO T le) = false ∧ P - needB ra bu de (tbO T le) * pw < 0 := by
    unfold fitB
    generalize needB ra bu de (tbO T le) * pw = u
    generalize needB ra bu de (tbO T le) = v
    by_cases h1 : v ≤ B
    · by_cases h2 : u ≤ P
      · exact .inl ⟨by simp [h1, h2], by omega, by omega⟩
      · exact .inr (.inr ⟨by simp [h2], by omega⟩)
    · exact .inr (.inl ⟨by simp [h1], by omega⟩)
  have HT := hide (((stay_blk hg).alloc (.cells #[.int .i64 B, .int .i64 C, .int .i64 P, .slice A n c] 74)).and ((stay_sl hs).alloc (.cells #[.int .i64 B, .int .i64 C, .int .i64 P, .slice A n c] 74)) |>.and (stay_below ((Below.refl _ w).alloc (Nat.le_refl _) (.cells #[.int .i64 B, .int .i64 C, .int .i64 P, .slice A n c] 74))))
  obtain ⟨V, hV⟩ : ∃ z, fitB B P pw ra bu de (tbO T le) = z := ⟨_, rfl⟩
  obtain ⟨X, hX⟩ : ∃ z, B - needB ra bu de (tbO T le) = z := ⟨_, rfl⟩
  obtain ⟨Z, hZ⟩ : ∃ z, P - needB ra bu de (tbO T le) * pw = z := ⟨_, rfl⟩
  obtain ⟨Y, hY⟩ : ∃ z, C - 1 = z := ⟨_, rfl⟩
  have hy0 : 0 ≤ Y := by omega
  rw [hV, hX, hZ] at hv
  rw [hX, hY, hZ] at HR
  rw [hV]
  clear hs hs2 ho hk hn hg hc hV hX hY hZ
  rcases hv with ⟨rfl, h1, h2⟩ | ⟨rfl, h1⟩ | ⟨rfl, h1⟩
  all_goals
    go_enter Try.func30, Try.ntmps30
    go_wp2_with (go_at_call 51; go_must (refine (HR.out _ HT.out.now.1.2 HT.out.now.1.1).mono ?_; rintro e w2 ⟨rfl, hb⟩; replace HT := hide (HT.out.step hb); clear hb; simp only []))
    all_goals first
      | (go_ret
         refine ⟨?_, HT.out.now.2.alloc HT.out.now.2.size _⟩
         first
           | rfl
           | (simp; omega)
           | (simp; (repeat' split) <;> omega)
           | (congr 2; simp; omega))
end Go.Proofs.Ytppkibgemacdbaa
