import Derived.Test.YthfmjohbokpceaaCelB
namespace Go.Proofs.Ythfmjohbokpceaa
open Go.RowKit Go.WideShapes Go.ChangeShapes

/-! the identity at a place, and at all places -/
def idE (x : List Int) (t : Int) : Int := firstOf [rcvE x, unlessE (withinB t 0 ((x.length : Int) - 62)) 6]
def srE (x : List Int) : Int := firstOf [rcvE x, unlessE (decide (62 ≤ (x.length : Int))) 10]
theorem idE_ok' {x : List Int} {t : Int} (h : idE x t = 0) : rcvE x = 0 ∧ 0 ≤ t ∧ t + 62 ≤ x.length := by
  have h1 := firstOf_ok h (rcvE x) (by simp)
  have h2 := firstOf_ok h (unlessE (withinB t 0 ((x.length : Int) - 62)) 6) (by simp)
  refine ⟨h1, ?_⟩
  unfold unlessE at h2
  cases hf : withinB t 0 ((x.length : Int) - 62)
  · rw [hf] at h2; exact absurd h2 (by decide)
  · have : 0 ≤ t ∧ t ≤ (x.length : Int) - 62 := by simpa [withinB] using hf
    omega
theorem srE_ok {x : List Int} (h : srE x = 0) : rcvE x = 0 ∧ 62 ≤ x.length := by
  have h1 := firstOf_ok h (rcvE x) (by simp)
  have h2 := firstOf_ok h (unlessE (decide (62 ≤ (x.length : Int))) 10) (by simp)
  refine ⟨h1, ?_⟩
  unfold unlessE at h2
  cases hf : decide (62 ≤ (x.length : Int))
  · rw [hf] at h2; exact absurd h2 (by decide)
  · have := of_decide_eq_true hf
    omega
set_option maxRecDepth 100000 in
set_option maxHeartbeats 2000000 in
theorem IdentityAt_err (A : Option Addr) (c : Nat) (x : List Int) (t : Int) (w : World) (hs : Sl w A (iv x)) (hl : x.length ≤ 1000000) (h : idE x t ≠ 0) :
    Calls Try.prog 85 #[.slice A x.length c, .int .i64 t] w fun e w' => e = .returned (.tuple #[.agg #[.int .i64 0, .int .i64 0, .int .i64 0], .int .i64 (idE x t)]) ∧ Below w.heap.size w w' := by
  obtain ⟨bv, hbv⟩ : ∃ bv, withinB t 0 ((x.length : Int) - 62) = bv := ⟨_, rfl⟩
  have HE := hide (show idE x t = firstOf [rcvE x, unlessE bv 6] by rw [← hbv]; rfl)
  have HBV := hide hbv
  have hq : (firstOf [rcvE x, unlessE bv 6] != 0) = true := by rw [← HE.out, bne_iff_ne]; exact h
  have HS := hide hs
  rw [HE.out]
  clear hs h
  go_enter Try.func85, Try.ntmps85
  go_wp2_with (first
    | (go_at_call 114; go_must (refine (receivedErr_wave A c x _ (HS.out.alloc _) hl).mono ?_; rintro e w1 ⟨rfl, hb1⟩; have b1 : Below w.heap.size w w1 := Below.step ((Below.refl _ _).alloc (Nat.le_refl _) _) hb1; have z1 := hb1.size; have HR := hide ((Blk.new w 42 #[.int .i64 0, .int .i64 0, .int .i64 0]).below hb1 (by simp)); clear hb1; simp only []))
    | (go_at_call 142; refine (within_wave _ _ _ _).mono ?_; rintro e w' ⟨rfl, rfl⟩; rw [HBV.out]; simp only [])
    | (go_at_call 115; refine (unless_any _ _ _).mono ?_; rintro e w' ⟨rfl, rfl⟩; simp only [])
    | (go_at_call 107; go_must (refine (first2 _ _ _ _ (by simp)).mono ?_; rintro e w' ⟨rfl, rfl⟩; simp only []))
    | (refine wpList_store_row rfl 42 (.tmp 4) (.tmp 19) rfl w.heap.size #[.int .i64 0, .int .i64 0, .int .i64 0] rfl rfl 42 #[.int .i64 0, .int .i64 0, .int .i64 0] (HR.out.alloc _) (by kernel_rfl) rfl (by simp [Value.oneCell']) ?_))
  exact bodyPost_ret (results_row_tmp rfl _ _ w.heap.size 42 #[.int .i64 0, .int .i64 0, .int .i64 0] _ (.int .i64 (firstOf [rcvE x, unlessE bv 6])) rfl rfl ((HR.out.alloc _).row #[.int .i64 0, .int .i64 0, .int .i64 0]) Try.underlying42 rfl (by kernel_rfl)) rfl ⟨rfl, Below.row (b1.alloc b1.size _) (Nat.le_refl _) _⟩
set_option maxRecDepth 100000 in
set_option maxHeartbeats 2000000 in
theorem Search_err (A : Option Addr) (c : Nat) (x : List Int) (w : World) (hs : Sl w A (iv x)) (hl : x.length ≤ 1000000) (h : srE x ≠ 0) :
    Calls Try.prog 27 #[.slice A x.length c] w fun e w' => e = .returned (.tuple #[.agg #[.int .i64 0, .int .i64 0, .int .i64 0], .int .i64 (srE x)]) ∧ Below w.heap.size w w' := by
  obtain ⟨bv, hbv⟩ : ∃ bv, decide (62 ≤ (x.length : Int)) = bv := ⟨_, rfl⟩
  have HE := hide (show srE x = firstOf [rcvE x, unlessE bv 10] by rw [← hbv]; rfl)
  have hq : (firstOf [rcvE x, unlessE bv 10] != 0) = true := by rw [← HE.out, bne_iff_ne]; exact h
  have HS := hide hs
  rw [HE.out]
  clear hs h
  go_enter Try.func27, Try.ntmps27
  go_wp2_with (first
    | (go_at_call 114; go_must (refine (receivedErr_wave A c x _ (HS.out.alloc _) hl).mono ?_; rintro e w1 ⟨rfl, hb1⟩; have b1 : Below w.heap.size w w1 := Below.step ((Below.refl _ _).alloc (Nat.le_refl _) _) hb1; have z1 := hb1.size; have HR := hide ((Blk.new w 42 #[.int .i64 0, .int .i64 0, .int .i64 0]).below hb1 (by simp)); clear hb1; simp only []))
    | (go_at_call 115; refine (unless_any _ _ _).mono ?_; rintro e w' ⟨rfl, rfl⟩; simp only [])
    | (go_at_call 107; go_must (refine (first2 _ _ _ _ (by simp)).mono ?_; rintro e w' ⟨rfl, rfl⟩; simp only []))
    | (refine wpList_store_row rfl 42 (.tmp 2) (.tmp 19) rfl w.heap.size #[.int .i64 0, .int .i64 0, .int .i64 0] rfl rfl 42 #[.int .i64 0, .int .i64 0, .int .i64 0] (HR.out.alloc _) (by kernel_rfl) rfl (by simp [Value.oneCell']) ?_))
  exact bodyPost_ret (results_row_tmp rfl _ _ w.heap.size 42 #[.int .i64 0, .int .i64 0, .int .i64 0] _ (.int .i64 (firstOf [rcvE x, unlessE bv 10])) rfl rfl ((HR.out.alloc _).row #[.int .i64 0, .int .i64 0, .int .i64 0]) Try.underlying42 rfl (by kernel_rfl)) rfl ⟨rfl, Below.row (b1.alloc b1.size _) (Nat.le_refl _) _⟩
end Go.Proofs.Ythfmjohbokpceaa
