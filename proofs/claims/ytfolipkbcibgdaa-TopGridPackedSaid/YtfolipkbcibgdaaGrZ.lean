import Derived.Test.YtfolipkbcibgdaaGrY
namespace Go.Proofs.Ytfolipkbcibgdaa
open Go.RowKit Go.WideShapes Go.ChangeShapes

/-! plain law: blocks that are free one by one are free together; what is accepted -/
theorem alU_at (mu fi bk bn j : Nat) : alU mu fi bk bn j = (decide (fi + 2 ^ mu * (12 * bk) ≤ j) && decide (j < fi + 2 ^ mu * (12 * (bk + bn)))) := by
  simp [alU, inR]
theorem alU_split {mu fi lo bn j : Nat} (h : alU mu fi lo bn j = true) : ∃ k, lo ≤ k ∧ k < lo + bn ∧ alU mu fi k 1 j = true := by
  rw [alU_at, Bool.and_eq_true, decide_eq_true_eq, decide_eq_true_eq] at h
  have hV : 0 < 2 ^ mu * 12 := Nat.mul_pos (Nat.two_pow_pos mu) (by omega)
  obtain ⟨V, hVe⟩ : ∃ V, 2 ^ mu * 12 = V := ⟨_, rfl⟩
  have e : ∀ x, 2 ^ mu * (12 * x) = V * x := fun x => by rw [← hVe, Nat.mul_assoc]
  rw [e, e] at h
  rw [hVe] at hV
  have h1 : V * lo ≤ j - fi := by omega
  have h2 : j - fi < V * (lo + bn) := by omega
  refine ⟨(j - fi) / V, (Nat.le_div_iff_mul_le hV).2 (by rw [Nat.mul_comm]; exact h1), (Nat.div_lt_iff_lt_mul hV).2 (by rw [Nat.mul_comm]; exact h2), ?_⟩
  rw [alU_at, Bool.and_eq_true, decide_eq_true_eq, decide_eq_true_eq, e, e]
  have h3 := Nat.div_add_mod (j - fi) V
  have h4 := Nat.mod_lt (j - fi) hV
  rw [Nat.mul_add, Nat.mul_one]
  omega
theorem meet_split {T U A : Nat → Bool} {mu fi lo bn : Nat} (h : meetB T U A (alU mu fi lo bn) = true) : ∃ k, lo ≤ k ∧ k < lo + bn ∧ meetB T U A (alU mu fi k 1) = true := by
  unfold meetB at h
  rw [Bool.and_eq_true] at h
  obtain ⟨j, hj, hu⟩ := anyN_true.1 h.2
  rw [Bool.and_eq_true] at hu
  obtain ⟨k, h1, h2, h3⟩ := alU_split hu.2
  refine ⟨k, h1, h2, ?_⟩
  unfold meetB
  rw [Bool.and_eq_true]
  exact ⟨h.1, anyN_true.2 ⟨j, hj, by rw [hu.1, h3]; rfl⟩⟩
theorem clash_split {ce : Int} {P : List Prt} {x : Sig} {pa sf sl sy sn : Int} {lo bn : Nat} (h : clashB ce P x ⟨pa, sf, sl, sy, sn, (lo : Int), (bn : Int)⟩ = true) : ∃ k : Nat, lo ≤ k ∧ k < lo + bn ∧ clashB ce P x ⟨pa, sf, sl, sy, sn, (k : Int), 1⟩ = true := by
  unfold clashB at h
  rw [Bool.and_eq_true] at h
  obtain ⟨k, h1, h2, h3⟩ := meet_split (lo := lo) (bn := bn) h.2
  refine ⟨k, h1, h2, ?_⟩
  unfold clashB
  rw [Bool.and_eq_true]
  exact ⟨h.1, h3⟩
theorem busy_split {P : List Prt} {y : Alo} {pa sf sl sy sn : Int} {lo bn : Nat} (h : busyB1 P y ⟨pa, sf, sl, sy, sn, (lo : Int), (bn : Int)⟩ = true) : ∃ k : Nat, lo ≤ k ∧ k < lo + bn ∧ busyB1 P y ⟨pa, sf, sl, sy, sn, (k : Int), 1⟩ = true := by
  unfold busyB1 at h
  rw [Bool.and_eq_true] at h
  obtain ⟨k, h1, h2, h3⟩ := meet_split (lo := lo) (bn := bn) h.2
  refine ⟨k, h1, h2, ?_⟩
  unfold busyB1
  rw [Bool.and_eq_true]
  exact ⟨h.1, h3⟩
theorem free_join {ce : Int} {P : List Prt} {S : List Sig} {l : List Alo} {pa sf sl sy sn : Int} {lo bn : Nat} (h : ∀ k : Nat, lo ≤ k → k < lo + bn → freeB ce P S l ⟨pa, sf, sl, sy, sn, (k : Int), 1⟩ = true) : freeB ce P S l ⟨pa, sf, sl, sy, sn, (lo : Int), (bn : Int)⟩ = true := by
  unfold freeB
  rw [Bool.and_eq_true, Bool.not_eq_true']
  constructor
  · unfold fitsB
    rw [Bool.not_eq_true', List.any_eq_false]
    intro x hx hcl
    obtain ⟨k, h1, h2, h3⟩ := clash_split hcl
    have hk := h k h1 h2
    unfold freeB fitsB at hk
    rw [Bool.and_eq_true, Bool.not_eq_true', List.any_eq_false] at hk
    exact hk.1 x hx h3
  · unfold busyB
    rw [List.any_eq_false]
    intro x hx hcl
    obtain ⟨k, h1, h2, h3⟩ := busy_split hcl
    have hk := h k h1 h2
    unfold freeB busyB at hk
    rw [Bool.and_eq_true, Bool.not_eq_true', List.any_eq_false] at hk
    exact hk.2 x hx h3
theorem AccL.snoc {ce : Int} {P : List Prt} {S : List Sig} {l : List Alo} {a : Alo} (h : AccL ce P S l) (hl : l.length < 20) (ha : OkAl P a) (hf : freeB ce P S l a = true) : AccL ce P S (l ++ [a]) := by
  unfold freeB at hf
  rw [Bool.and_eq_true, Bool.not_eq_true'] at hf
  refine ⟨by simp; omega, fun i hi => ?_, fun i hi => ?_, fun i hi => ?_⟩
  · by_cases e : i < l.length
    · rw [List.getElem_append_left e]; exact h.ok i e
    · rw [List.getElem_append_right (by omega)]; simpa using ha
  · by_cases e : i < l.length
    · rw [List.getElem_append_left e]; exact h.fit i e
    · rw [List.getElem_append_right (by omega)]; simpa using hf.1
  · by_cases e : i < l.length
    · rw [List.getElem_append_left e, List.take_append_of_le_length (by omega)]; exact h.far i e
    · have hi2 : i = l.length := by simp at hi; omega
      subst hi2
      rw [List.getElem_append_right (by omega), List.take_left']
      · simpa using hf.2
      · rfl
theorem AccL.nil (ce : Int) (P : List Prt) (S : List Sig) : AccL ce P S [] := ⟨by simp, fun i h => absurd h (by simp), fun i h => absurd h (by simp), fun i h => absurd h (by simp)⟩
/-- if nothing is free for so many blocks, no run is so long -/
theorem run_short {ce : Int} {P : List Prt} {S : List Sig} {l : List Alo} {pa fr te sy sn bn n : Int} {N s : Nat} (hbn : 1 ≤ bn)
    (hno : ∀ n', fr ≤ n' → n' ≤ te → ∀ s b : Nat, s < N → b < blN P pa bn → freeB ce P S l ⟨pa, n', (s : Int), sy, sn, (b : Int), bn⟩ = false) (h1 : fr ≤ n) (h2 : n ≤ te) (hs : s < N) {R : List (Nat × Nat)}
    (hR : RunsOk (fun k => freeB ce P S l ⟨pa, n, (s : Int), sy, sn, (k : Int), 1⟩) (prtAt P pa).bl.toNat R) : ∀ r ∈ R, r.1 ≤ r.2 ∧ (r.2 : Int) ≤ r.1 + bn - 2 ∧ r.2 < (prtAt P pa).bl.toNat := by
  intro r hr
  obtain ⟨q1, q2, q3⟩ := hR.2 r hr
  refine ⟨q1, ?_, q2⟩
  by_cases hlt : (r.2 : Int) ≤ r.1 + bn - 2
  · exact hlt
  · exfalso
    obtain ⟨m, hm⟩ := Int.eq_ofNat_of_zero_le (show 0 ≤ bn by omega)
    subst hm
    have hf := hno n h1 h2 s r.1 hs (by unfold blN; omega)
    have hj : freeB ce P S l ⟨pa, n, (s : Int), sy, sn, ((r.1 : Nat) : Int), (m : Int)⟩ = true := free_join fun k hk1 hk2 => q3 k hk1 (by omega)
    rw [hj] at hf
    cases hf
end Go.Proofs.Ytfolipkbcibgdaa
