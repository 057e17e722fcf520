import Derived.Test.YtfolipkbcibgdaaGrD
namespace Go.Proofs.Ytfolipkbcibgdaa
open Go.RowKit Go.WideShapes Go.ChangeShapes

/-! names: the program -/
theorem bytes_of (s : Bs) (w : World) : ∃ (cap : Nat) (W1 : World), (convert 9 126 (strV s)).run Try.prog w = .ok (.slice (some ⟨w.heap.size, 0, none⟩) s.length cap) W1 ∧
    (∀ k (h : k < s.length), W1.cell? ⟨w.heap.size, k, none⟩ = some (.int .u8 (s[k].toNat : Int))) ∧ Below w.heap.size w W1 := by
  have h := run_bytes_of_string (P := Try.prog) w 9 126 5 ⟨s.toArray⟩ Try.underlying9 Try.underlying126 Try.underlying5
  have hz : (ByteArray.mk s.toArray).size = s.length := str_size s
  refine ⟨_, _, by rw [show strV s = .string ⟨s.toArray⟩ from rfl, h, hz], fun k hk => ?_, ?_⟩
  · have e : (w.drew).heap.size = w.heap.size := rfl
    rw [← e, World.cell?_alloc_mark, bytesRow_at _ _ k (by show k < s.toArray.size; simpa using hk)]
    rfl
  · exact (below_drewN (Below.refl _ w) 1).alloc (Nat.le_refl _) _
set_option maxRecDepth 100000 in
set_option maxHeartbeats 4000000 in
theorem isName_grid (s : Bs) (w : World) (hs : OkN s) :
    Calls Try.prog 64 #[strV s] w fun e w' => e = .returned (.bool true) ∧ Below w.heap.size w w' := by
  have hlen := fun t W => len_str s t W
  obtain ⟨cap, W1, hcv, hcell, hbel⟩ := bytes_of s w
  have HC := hide hcell
  have HB := hide hbel
  have HN := hide hs
  have hne : ∀ W, (binOp .neq 9 (strV s) (.string ⟨#[]⟩)).run Try.prog W = .ok (.bool true) W := fun W => by
    have h := ne_str s [] W
    have e : (s == []) = false := by
      have := hs.pos
      cases s with
      | nil => simp at this
      | cons a l => rfl
    rw [e] at h
    exact h
  have eg : ∀ op u v z, eqGuard op 9 u v (strV s) z = pure () := fun op u v z => eqG_str op u v s z
  have hl12 : ¬ (12 : Int) < (s.length : Int) := by have := hs.few; omega
  have hl12' : (s.length : Int) ≤ 12 := by have := hs.few; omega
  have g12 := hs.few
  clear hcell hbel hs
  go_enter Try.func64, Try.ntmps64
  go_wp2
  go_loopw [9] (fun i wr => ∃ k : Nat, k ≤ s.length ∧ i = .int .i64 k ∧ W1 = wr) (fun i _ => s.length - (intOf i).toNat)
  case atStart => exact ⟨0, Nat.zero_le _, rfl, rfl⟩
  case round =>
    obtain ⟨k, hk, rfl, rfl⟩ := hrel
    by_cases hlt : k < s.length
    · have d1 := HC.out k hlt
      have hc := HN.out.in_ k hlt
      obtain ⟨x, hx⟩ : ∃ x : Int, (s[k].toNat : Int) = x := ⟨_, rfl⟩
      rw [hx] at d1 hc
      clear hx
      have hki : (k : Int) < (s.length : Int) := by omega
      have hkk : k = 0 ∨ k ≠ 0 := by omega
      unfold nmC at hc
      simp at hc
      have HCC := hide hc; clear hc
      rcases hkk with hk0 | hk0
      · have hkz : ((k : Int) == 0) = true := by simp [hk0]
        have HK := hide hk0; clear hk0
        rcases nm_cases x with ⟨c1, c2⟩ | ⟨c1, c2, c3⟩ | ⟨c1, c2, c3, c4, c5⟩ | ⟨c1, c2, c3, c4, c5⟩ | ⟨c1, c2, c3, c4⟩ | ⟨c1, c2, c3⟩ | ⟨c1, c2, c3, c4, c5, c6⟩ | ⟨c1, c2, c3, c4, c5, c6, c7⟩
        all_goals
          first
            | (exfalso; have h1 := HCC.out; have h2 := HK.out; omega)
            | (go_wp2
               go_roundw
               case rel => exact ⟨k + 1, by omega, by go_num, by first | rfl | trivial⟩
               case measure => simp [intOf]; omega)
      · have hkz : ((k : Int) == 0) = false := by rw [beq_eq_false_iff_ne]; omega
        have HK := hide hk0; clear hk0
        rcases nm_cases x with ⟨c1, c2⟩ | ⟨c1, c2, c3⟩ | ⟨c1, c2, c3, c4, c5⟩ | ⟨c1, c2, c3, c4, c5⟩ | ⟨c1, c2, c3, c4⟩ | ⟨c1, c2, c3⟩ | ⟨c1, c2, c3, c4, c5, c6⟩ | ⟨c1, c2, c3, c4, c5, c6, c7⟩
        all_goals
          first
            | (exfalso; have h1 := HCC.out; have h2 := HK.out; omega)
            | (go_wp2
               go_roundw
               case rel => exact ⟨k + 1, by omega, by go_num, by first | rfl | trivial⟩
               case measure => simp [intOf]; omega)
    · go_wp2
      go_ret
      exact ⟨rfl, HB.out⟩
end Go.Proofs.Ytfolipkbcibgdaa
