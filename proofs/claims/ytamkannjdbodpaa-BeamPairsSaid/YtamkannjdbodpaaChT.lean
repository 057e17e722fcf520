import Derived.Test.YtamkannjdbodpaaChS
namespace Go.Proofs.Ytamkannjdbodpaa
open Go.RowKit Go.WideShapes Go.ChangeShapes

theorem twoE_cases (g h : List (Int × Int)) : (bothE g h ≠ 0 ∧ twoE g h = bothE g h) ∨ (bothE g h = 0 ∧ enG g g.length = 0 ∧ twoE g h = 11) ∨ (bothE g h = 0 ∧ 1 ≤ enG g g.length ∧ enG h h.length = 0 ∧ twoE g h = 11) ∨ (bothE g h = 0 ∧ 1 ≤ enG g g.length ∧ 1 ≤ enG h h.length ∧ twoE g h = 0) := by
  have e : twoE g h = if bothE g h = 0 then unlessE (g.any someG && h.any someG) 11 else bothE g h := by
    unfold twoE bothE
    unfold firstOf firstOf firstOf firstOf firstOf
    by_cases q1 : chE g = 0 <;> by_cases q2 : chE h = 0 <;> by_cases q3 : lenE g h = 0 <;> first | (simp [q1, q2, q3]; done) | (simp [q1, q2, q3]; exact fun e => e.symm)
  by_cases q : bothE g h = 0
  · rw [if_pos q] at e
    cases q1 : g.any someG
    · exact .inr (.inl ⟨q, none_en q1 _, by rw [e, q1]; rfl⟩)
    · cases q2 : h.any someG
      · exact .inr (.inr (.inl ⟨q, any_en q1, none_en q2 _, by rw [e, q1, q2]; rfl⟩))
      · exact .inr (.inr (.inr ⟨q, any_en q1, any_en q2, by rw [e, q1, q2]; rfl⟩))
  · rw [if_neg q] at e
    exact .inl ⟨q, e⟩
set_option maxRecDepth 100000 in
set_option maxHeartbeats 1000000 in
theorem twoErr_ref (A B : Option Addr) (c c' : Nat) (g h : List (Int × Int)) (w : World) (hs : Sl w A (gv g)) (hs' : Sl w B (gv h)) :
    Calls Try.prog 51 #[.slice A g.length c, .slice B h.length c'] w fun e w' => e = .returned (.int .i64 (twoE g h)) ∧ Below w.heap.size w w' := by
  have HB := hide (fun W hb hb' => bothErr_ref A B c c' g h W hb hb')
  have HS := hide hs; clear hs
  have HS' := hide hs'; clear hs'
  rcases twoE_cases g h with ⟨k1, k2⟩ | ⟨k0, k1, k2⟩ | ⟨k0, k1, k2, k3⟩ | ⟨k0, k1, k2, k3⟩
  · have n1 : (bothE g h != 0) = true := by rw [bne_iff_ne]; exact k1
    rw [k2]
    clear k1 k2
    go_enter Try.func51, Try.ntmps51
    go_wp2_with (go_at_call 61; refine (HB.out _ HS.out HS'.out).mono ?_; rintro e w1 ⟨rfl, hb1⟩; have b1 : Below w.heap.size w w1 := hb1; clear hb1; simp only [])
    go_ret
    exact ⟨rfl, b1⟩
  · obtain ⟨-, sg, sh, -⟩ := bothE_ok k0
    have n1 : (bothE g h != 0) = false := by rw [bne_eq_false_iff_eq]; exact k0
    have HG := hide (fun W hb => energy_ref A c _ g W hb rfl sg)
    have n2 : (enG g g.length == 0) = true := by rw [beq_iff_eq]; exact k1
    rw [k2]
    clear k0 k1 k2 sg sh
    go_enter Try.func51, Try.ntmps51
    go_wp2_with (first
      | (go_at_call 61; refine (HB.out _ HS.out HS'.out).mono ?_; rintro e w1 ⟨rfl, hb1⟩; have b1 : Below w.heap.size w w1 := hb1; clear hb1; simp only [])
      | (go_at_call 91; refine (HG.out _ (HS.out.bel b1)).mono ?_; rintro e w2 ⟨rfl, hb2⟩; have b2 : Below w.heap.size w w2 := Below.step b1 hb2; clear hb2; simp only []))
    go_ret
    exact ⟨rfl, b2⟩
  · obtain ⟨-, sg, sh, -⟩ := bothE_ok k0
    have n1 : (bothE g h != 0) = false := by rw [bne_eq_false_iff_eq]; exact k0
    have HG := hide (fun W hb => energy_ref A c _ g W hb rfl sg)
    have HH := hide (fun W hb => energy_ref B c' _ h W hb rfl sh)
    have n2 : (enG g g.length == 0) = false := by rw [beq_eq_false_iff_ne]; omega
    have n3 : (enG h h.length == 0) = true := by rw [beq_iff_eq]; exact k2
    rw [k3]
    clear k0 k1 k2 k3 sg sh
    go_enter Try.func51, Try.ntmps51
    go_wp2_with (first
      | (go_at_call 61; refine (HB.out _ HS.out HS'.out).mono ?_; rintro e w1 ⟨rfl, hb1⟩; have b1 : Below w.heap.size w w1 := hb1; clear hb1; simp only [])
      | (go_at_call 91; refine (HH.out _ (HS'.out.bel b2)).mono ?_; rintro e w3 ⟨rfl, hb3⟩; have b3 : Below w.heap.size w w3 := Below.step b2 hb3; clear hb3; simp only [])
      | (go_at_call 91; refine (HG.out _ (HS.out.bel b1)).mono ?_; rintro e w2 ⟨rfl, hb2⟩; have b2 : Below w.heap.size w w2 := Below.step b1 hb2; clear hb2; simp only []))
    go_ret
    exact ⟨rfl, b3⟩
  · obtain ⟨-, sg, sh, -⟩ := bothE_ok k0
    have n1 : (bothE g h != 0) = false := by rw [bne_eq_false_iff_eq]; exact k0
    have HG := hide (fun W hb => energy_ref A c _ g W hb rfl sg)
    have HH := hide (fun W hb => energy_ref B c' _ h W hb rfl sh)
    have n2 : (enG g g.length == 0) = false := by rw [beq_eq_false_iff_ne]; omega
    have n3 : (enG h h.length == 0) = false := by rw [beq_eq_false_iff_ne]; omega
    rw [k3]
    clear k0 k1 k2 k3 sg sh
    go_enter Try.func51, Try.ntmps51
    go_wp2_with (first
      | (go_at_call 61; refine (HB.out _ HS.out HS'.out).mono ?_; rintro e w1 ⟨rfl, hb1⟩; have b1 : Below w.heap.size w w1 := hb1; clear hb1; simp only [])
      | (go_at_call 91; refine (HH.out _ (HS'.out.bel b2)).mono ?_; rintro e w3 ⟨rfl, hb3⟩; have b3 : Below w.heap.size w w3 := Below.step b2 hb3; clear hb3; simp only [])
      | (go_at_call 91; refine (HG.out _ (HS.out.bel b1)).mono ?_; rintro e w2 ⟨rfl, hb2⟩; have b2 : Below w.heap.size w w2 := Below.step b1 hb2; clear hb2; simp only []))
    go_ret
    exact ⟨rfl, b3⟩

end Go.Proofs.Ytamkannjdbodpaa
