import Derived.Test.YtehcmhblppjalaaSyQ
namespace Go.Proofs.Ytehcmhblppjalaa
open Go.RowKit Go.WideShapes Go.ChangeShapes

/-! the bits of a level of two (program); how many bits four distances tell apart -/
theorem own_cells {w : World} {base e n q : Nat} {C : Option Addr} {xs : List Value} (h : w.ownsRow base e 1 (.slice C n q) n xs) (hn : 0 < n) : ∃ g, C = some ⟨g, 0, none⟩ ∧ base ≤ g ∧ n ≤ q ∧ ∀ j u, xs[j]? = some u → w.cell? ⟨g, j, none⟩ = some u := by
  have hs := Sl.of_ownN h
  rcases h.2 with ⟨_, h0⟩ | ⟨g, cap, cur, hv, hb, _, hc, _⟩
  · omega
  · injection hv with h1 h2 h3
    subst h1
    subst h3
    refine ⟨g, rfl, hb, hc, fun j u hj => ?_⟩
    have := Sl.one hs rfl hj
    simpa using this
/-- level number n of two bits -/
def lv2 (n : Nat) : Int := (1 - 2 * ((n / 2 : Nat) : Int)) * (2 - (1 - 2 * ((n % 2 : Nat) : Int)))
theorem level_of (C : Option Addr) (q n base : Nat) (w : World) (hn : n < 4) (h : w.ownsRow base 3 1 (.slice C 2 q) 2 [.int .i64 ((n / 2 : Nat) : Int), .int .i64 ((n % 2 : Nat) : Int)]) :
    Calls Try.prog 39 #[.slice C 2 q] w fun e w' => e = .returned (.int .i64 (lv2 n)) ∧ ∃ n, w' = w.drewN n := by
  obtain ⟨g, rfl, _, hq, hc⟩ := own_cells h (by omega)
  exact level2 g 0 q _ _ w (hc 0 _ rfl) (hc 1 _ rfl) hq (by omega) (by omega)
theorem lv2_inj (a b : Nat) (ha : a < 4) (hb : b < 4) (h : lv2 a = lv2 b) : a = b := by
  rcases (by omega : a = 0 ∨ a = 1 ∨ a = 2 ∨ a = 3) with rfl | rfl | rfl | rfl <;> rcases (by omega : b = 0 ∨ b = 1 ∨ b = 2 ∨ b = 3) with rfl | rfl | rfl | rfl <;> simp [lv2] at h ⊢
set_option maxHeartbeats 4000000 in
theorem ofLevel2 (n : Nat) (w : World) (hn : n < 4) :
    Calls Try.prog 43 #[.int .i64 2, .int .i64 (lv2 n)] w fun e w' => ∃ C q, e = .returned (.slice C 2 q) ∧ w'.ownsRow w.heap.size 3 1 (.slice C 2 q) 2 [.int .i64 ((n / 2 : Nat) : Int), .int .i64 ((n % 2 : Nat) : Int)] ∧ Below w.heap.size w w' := by
  have HB := hide bitsOf2
  have HL := hide level_of
  obtain ⟨l, hl⟩ : ∃ l, lv2 n = l := ⟨_, rfl⟩
  rw [hl]
  have HI := hide (fun k (hk : k < n) => show lv2 k ≠ l from fun e => absurd (lv2_inj k n (by omega) hn (e.trans hl.symm)) (by omega))
  have HE := hide hl
  clear hl
  go_enter Try.func43, Try.ntmps43
  go_wp2
  go_loopw [9] (fun i wr => ∃ k : Nat, k ≤ n ∧ i = .int .i64 k ∧ Below w.heap.size w wr) (fun i _ => n + 1 - (intOf i).toNat)
  case atStart => exact ⟨0, Nat.zero_le _, rfl, Below.refl _ _⟩
  case round =>
    obtain ⟨k, hk, rfl, hbel⟩ := hrel
    have hk4 : (k : Int) < 4 := by omega
    have HBE := hide hbel
    clear hbel
    by_cases hlt : k < n
    · have hne := HI.out k hlt
      go_wp2_with (first
        | (go_at_call 51; refine (HB.out k _ (by omega)).mono ?_; rintro e w1 ⟨C1, q1, rfl, ho1, hb1⟩; have HO1 := hide ho1; have HB1 := hide hb1; clear ho1 hb1)
        | (go_at_call 39; refine (HL.out _ _ k _ _ (by omega) HO1.out).mono ?_; rintro e w2 ⟨rfl, nq, rfl⟩))
      go_roundw
      case rel => exact ⟨k + 1, by omega, by go_num, below_drewN (Below.step HBE.out HB1.out) nq⟩
      case measure => simp [intOf]; omega
    · obtain rfl : k = n := by omega
      have he := HE.out
      go_wp2_with (first
        | (go_at_call 51; refine (HB.out k _ (by omega)).mono ?_; rintro e w1 ⟨C1, q1, rfl, ho1, hb1⟩; have HO1 := hide ho1; have HB1 := hide hb1; clear ho1 hb1)
        | (go_at_call 39; refine (HL.out _ _ k _ _ (by omega) HO1.out).mono ?_; rintro e w2 ⟨rfl, nq, rfl⟩))
      go_ret
      exact ⟨C1, q1, rfl, own_bel (HO1.out.weaken HBE.out.size) (below_drewN (Below.refl _ _) nq), below_drewN (Below.step HBE.out HB1.out) nq⟩
end Go.Proofs.Ytehcmhblppjalaa
