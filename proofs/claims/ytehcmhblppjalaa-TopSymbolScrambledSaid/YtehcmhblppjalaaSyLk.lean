import Derived.Test.YtehcmhblppjalaaSyP
namespace Go.Proofs.Ytehcmhblppjalaa

/-! the plain side of TopSymbolScrambled: right registers, and what scrambling does to bits -/
theorem rgE_parts {L : Int} {T B : List Int} (h : rgE L T B = 0) : (2 ≤ L ∧ L ≤ 10) ∧ T.length ≠ 0 ∧ tapE L (-1) T = 0 ∧ T[0]?.getD 0 = 0 ∧ (B.length : Int) = L ∧ B.all bitB = true := by
  unfold rgE at h
  by_cases h1 : withinB L 2 10 = true
  · rw [if_pos h1] at h
    by_cases h2 : T.length = 0
    · rw [if_pos h2] at h; exact absurd h (by decide)
    rw [if_neg h2] at h
    by_cases h3 : tapE L (-1) T = 0
    · rw [if_neg (by simpa using h3)] at h
      by_cases h4 : T[0]?.getD 0 = 0
      · rw [if_neg (by simpa using h4)] at h
        by_cases h5 : (B.length : Int) = L
        · rw [if_neg (by simpa using h5)] at h
          by_cases h6 : B.all bitB = true
          · exact ⟨(withinB_iff _ _ _).1 h1, h2, h3, h4, h5, h6⟩
          · rw [if_neg h6] at h; exact absurd h (by decide)
        · rw [if_pos h5] at h; exact absurd h (by decide)
      · rw [if_pos h4] at h; exact absurd h (by decide)
    · rw [if_pos h3] at h; exact absurd h h3
  · rw [if_neg h1] at h; exact absurd h (by decide)
theorem rgE_of {L : Int} {T B : List Int} (h1 : 2 ≤ L ∧ L ≤ 10) (h2 : T.length ≠ 0) (h3 : tapE L (-1) T = 0) (h4 : T[0]?.getD 0 = 0) (h5 : (B.length : Int) = L) (h6 : B.all bitB = true) : rgE L T B = 0 := by
  unfold rgE
  rw [if_pos ((withinB_iff _ _ _).2 h1), if_neg h2, if_neg (by simpa using h3), if_neg (by simpa using h4), if_neg (by simpa using h5), if_pos h6]
theorem tapE_all {L : Int} {T : List Int} (h : tapE L (-1) T = 0) : ∀ k, k ≤ T.length → tapE L (lst T k) (T.drop k) = 0
  | 0, _ => h
  | k + 1, hk => by
    have ih := tapE_all h k (by omega)
    rw [tapE_drop L T k (by omega)] at ih
    by_cases h1 : withinB T[k] 0 (L - 1) = true
    · rw [if_pos h1] at ih
      by_cases h2 : T[k] ≤ lst T k
      · rw [if_pos h2] at ih; exact absurd ih (by decide)
      · rwa [if_neg h2] at ih
    · rw [if_neg h1] at ih; exact absurd ih (by decide)
theorem tapE_at {L : Int} {T : List Int} (h : tapE L (-1) T = 0) (k : Nat) (hk : k < T.length) : (0 ≤ T[k]?.getD 0 ∧ T[k]?.getD 0 ≤ L - 1) ∧ lst T k < T[k]?.getD 0 := by
  have ih := tapE_all h k (by omega)
  rw [tapE_drop L T k hk] at ih
  rw [List.getElem?_eq_getElem hk, Option.getD_some]
  by_cases h1 : withinB T[k] 0 (L - 1) = true
  · rw [if_pos h1] at ih
    by_cases h2 : T[k] ≤ lst T k
    · rw [if_pos h2] at ih; exact absurd ih (by decide)
    · exact ⟨(withinB_iff _ _ _).1 h1, by omega⟩
  · rw [if_neg h1] at ih; exact absurd ih (by decide)
theorem bits_at {B : List Int} (h : B.all bitB = true) (k : Nat) : B[k]?.getD 0 = 0 ∨ B[k]?.getD 0 = 1 := by
  by_cases hk : k < B.length
  · rw [List.getElem?_eq_getElem hk, Option.getD_some]
    have := List.all_eq_true.1 h B[k] (List.getElem_mem hk)
    unfold bitB at this
    simpa using this
  · rw [List.getElem?_eq_none (by omega)]; exact .inl rfl
theorem bits_all {B : List Int} (h : ∀ k : Nat, k < B.length → B[k]?.getD 0 = 0 ∨ B[k]?.getD 0 = 1) : B.all bitB = true := by
  rw [List.all_eq_true]
  intro x hx
  obtain ⟨k, hk, rfl⟩ := List.getElem_of_mem hx
  have := h k hk
  rw [List.getElem?_eq_getElem hk, Option.getD_some] at this
  unfold bitB
  simpa using this
theorem rgOk_of {L : Int} {T B : List Int} (h : rgE L T B = 0) (hT : T.length ≤ 1000) : ∃ top : Nat, L = (top : Int) + 1 ∧ RgOk top T B := by
  obtain ⟨h1, h2, h3, h4, h5, h6⟩ := rgE_parts h
  refine ⟨(L - 1).toNat, by omega, ⟨by omega, by omega, by omega, hT, fun k hk => ?_, fun k hk => (tapE_at h3 k hk).2, h4, by omega, bits_at h6⟩⟩
  have := (tapE_at h3 k hk).1
  omega
/-- behind a jump the register is right again -/
theorem rgE_behind {L : Int} {T B : List Int} (h : rgE L T B = 0) {top : Nat} (hL : L = (top : Int) + 1) (x : Nat) : rgE L T (stL x (top + 1)) = 0 := by
  obtain ⟨h1, h2, h3, h4, h5, h6⟩ := rgE_parts h
  refine rgE_of h1 h2 h3 h4 (by rw [stL_len]; omega) (bits_all fun k hk => ?_)
  rw [stL_len] at hk
  rw [stL_at x (top + 1) k hk]
  omega
theorem wdB_st {x top : Nat} (hx : x < 2 ^ (top + 1)) : wdB (stL x (top + 1)) (top + 1) = x := by
  rw [wd_stL x (top + 1) (top + 1) (Nat.le_refl _)]
  exact Nat.mod_eq_of_lt hx
/-! scrambled bits -/
theorem xb_bit {b : Int} {o : Nat} (_ : b = 0 ∨ b = 1) (ho : o < 2) : xb b o = 0 ∨ xb b o = 1 := by
  unfold xb
  split <;> omega
theorem xb_twice {b : Int} {o : Nat} (hb : b = 0 ∨ b = 1) (ho : o < 2) : xb (xb b o) o = b := by
  rcases hb with rfl | rfl <;> (obtain rfl | rfl : o = 0 ∨ o = 1 := by omega) <;> rfl
theorem xb_other {b : Int} {o p : Nat} (hb : b = 0 ∨ b = 1) (ho : o < 2) (hp : p < 2) : xb (xb b o) p = b ↔ o = p := by
  rcases hb with rfl | rfl <;> (obtain rfl | rfl : o = 0 ∨ o = 1 := by omega) <;> (obtain rfl | rfl : p = 0 ∨ p = 1 := by omega) <;> decide
theorem scL_get (l : List Int) (f : Nat → Nat) (i : Nat) (hi : i < l.length) : (scL l f l.length)[i]?.getD 0 = xb (l[i]?.getD 0) (f i) := by
  rw [scL_at l f l.length i hi, Option.getD_some, if_pos hi]
theorem scL_bits {l : List Int} {f : Nat → Nat} (hl : btE l = 0) (hf : ∀ i, f i < 2) : btE (scL l f l.length) = 0 := by
  obtain ⟨h1, h2, h3⟩ := btE_ok hl
  unfold btE
  rw [scL_len, if_neg (by omega), if_neg (by omega), if_pos]
  refine bits_all fun k hk => ?_
  rw [scL_len] at hk
  rw [scL_get l f k hk]
  exact xb_bit (bits_at h3 k) (hf k)
theorem list_ext {a b : List Int} (hl : a.length = b.length) (h : ∀ i, i < a.length → a[i]?.getD 0 = b[i]?.getD 0) : a = b := by
  refine List.ext_getElem hl fun i h1 h2 => ?_
  have := h i h1
  rwa [List.getElem?_eq_getElem h1, List.getElem?_eq_getElem h2, Option.getD_some, Option.getD_some] at this
theorem scL_twice {l : List Int} {f : Nat → Nat} (hl : btE l = 0) (hf : ∀ i, f i < 2) : scL (scL l f l.length) f l.length = l := by
  have h3 := (btE_ok hl).2.2
  refine list_ext (by rw [scL_len, scL_len]) fun i hi => ?_
  rw [scL_len, scL_len] at hi
  have := scL_get (scL l f l.length) f i (by rw [scL_len]; exact hi)
  rw [scL_len] at this
  rw [this, scL_get l f i hi, xb_twice (bits_at h3 i) (hf i)]
theorem seqW_at (tp top x : Nat) : ∀ n i, i < n → (seqW tp top x n)[i]?.getD 0 = ((itW tp top x i % 2 : Nat) : Int)
  | n + 1, i, h => by
    show (seqW tp top x n ++ [((itW tp top x n % 2 : Nat) : Int)])[i]?.getD 0 = _
    by_cases e : i < n
    · rw [List.getElem?_append_left (by rw [seqW_len]; exact e)]; exact seqW_at tp top x n i e
    · obtain rfl : i = n := by omega
      rw [List.getElem?_append_right (by rw [seqW_len]; exact Nat.le_refl _), seqW_len]; simp
theorem scL_other {l : List Int} (hl : btE l = 0) (tp top x tp2 top2 y : Nat) :
    intsEq (scL (scL l (fun i => itW tp top x i % 2) l.length) (fun i => itW tp2 top2 y i % 2) l.length) l = intsEq (seqW tp top x l.length) (seqW tp2 top2 y l.length) := by
  have h3 := (btE_ok hl).2.2
  have hf : ∀ i, itW tp top x i % 2 < 2 := fun i => Nat.mod_lt _ (by decide)
  have hg : ∀ i, itW tp2 top2 y i % 2 < 2 := fun i => Nat.mod_lt _ (by decide)
  have key : ∀ i, i < l.length → ((scL (scL l (fun i => itW tp top x i % 2) l.length) (fun i => itW tp2 top2 y i % 2) l.length)[i]?.getD 0 = l[i]?.getD 0 ↔ (seqW tp top x l.length)[i]?.getD 0 = (seqW tp2 top2 y l.length)[i]?.getD 0) := by
    intro i hi
    have h := scL_get (scL l (fun i => itW tp top x i % 2) l.length) (fun i => itW tp2 top2 y i % 2) i (by rw [scL_len]; exact hi)
    rw [scL_len] at h
    rw [h, scL_get l _ i hi, xb_other (bits_at h3 i) (hf i) (hg i), seqW_at _ _ _ _ i hi, seqW_at _ _ _ _ i hi]
    omega
  unfold intsEq
  refine decide_eq_decide.2 ⟨fun e => list_ext (by rw [seqW_len, seqW_len]) fun i hi => ?_, fun e => list_ext (by rw [scL_len, scL_len]) fun i hi => ?_⟩
  · rw [seqW_len] at hi
    exact (key i hi).1 (by rw [e])
  · rw [scL_len, scL_len] at hi
    exact (key i hi).2 (by rw [e])
end Go.Proofs.Ytehcmhblppjalaa
