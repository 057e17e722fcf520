import Derived.Test.YthfmjohbokpceaaCelD
namespace Go.Proofs.Ythfmjohbokpceaa
open Go.RowKit Go.WideShapes Go.ChangeShapes

/-! the plain law of searches: a sequence among zeros is found; at its place even with errors -/
theorem bst_keep {G : Nat → Int} {m : Nat} {b : Int} (h : ∀ j, j < m → G j < b) (h0 : 0 < m) : ∀ k : Nat, k ≤ m → (bst G k).2 < b
  | 0, _ => h 0 h0
  | k + 1, hk => by
    have ih := bst_keep h h0 k (by omega)
    unfold bst
    split
    · exact h k (by omega)
    · exact ih
/-- the only greatest one is found -/
theorem bst_max {G : Nat → Int} {n m : Nat} (hm : m < n) (h : ∀ j, j < n → j ≠ m → G j < G m) : bst G n = (m, G m) := by
  have h1 : bst G (m + 1) = (m, G m) := by
    rcases Nat.eq_zero_or_pos m with rfl | h0
    · unfold bst; split <;> rfl
    · exact bst_yes (bst_keep (fun j hj => h j (by omega) (by omega)) h0 m (Nat.le_refl _))
  have h2 : ∀ d : Nat, m + 1 + d ≤ n → bst G (m + 1 + d) = (m, G m) := by
    intro d
    induction d with
    | zero => exact fun _ => h1
    | succ d ih =>
      intro hd
      have e := ih (by omega)
      show bst G (m + 1 + d + 1) = _
      rw [bst_no (by rw [e]; exact Int.le_of_lt (h _ (by omega) (by omega))), e]
  have := h2 (n - (m + 1)) (by omega)
  rwa [show m + 1 + (n - (m + 1)) = n by omega] at this
theorem bst_le {G : Nat → Int} {b : Int} (h : ∀ j, G j ≤ b) : ∀ k : Nat, (bst G k).2 ≤ b
  | 0 => h 0
  | k + 1 => by
    unfold bst
    split
    · exact h k
    · exact bst_le h k
theorem srch_keep {g : Nat → Int × Int} {m : Nat} {b : Int} (h : ∀ j, j < m → (g j).2 < b) : ∀ k : Nat, k < m → (srch g k).2.2 < b
  | 0, hk => h 0 hk
  | k + 1, hk => by
    have ih := srch_keep h k (by omega)
    unfold srch
    split
    · exact h (k + 1) hk
    · exact ih
theorem srch_max {g : Nat → Int × Int} {N m : Nat} (hm : m ≤ N) (h : ∀ j, j ≤ N → j ≠ m → (g j).2 < (g m).2) : srch g N = (m, g m) := by
  have h1 : srch g m = (m, g m) := by
    rcases m with _ | m
    · rfl
    · exact srch_yes (srch_keep (m := m + 1) (fun j hj => h j (by omega) (by omega)) m (by omega))
  have h2 : ∀ d : Nat, m + d ≤ N → srch g (m + d) = (m, g m) := by
    intro d
    induction d with
    | zero => exact fun _ => h1
    | succ d ih =>
      intro hd
      have e := ih (by omega)
      show srch g (m + d + 1) = _
      rw [srch_no (by rw [e]; exact Int.le_of_lt (h _ (by omega) (by omega))), e]
  have := h2 (N - m) (by omega)
  rwa [show m + (N - m) = N by omega] at this
/-- bounds of an inner product by those of its second list -/
def bsum (b : Nat → Int) : Nat → Int
  | 0 => 0
  | k + 1 => bsum b k + b k
theorem innS_bsum {f xs : List Int} {b : Nat → Int} (hf : ∀ x ∈ f, -1 ≤ x ∧ x ≤ 1) (hx : ∀ i, -(b i) ≤ xs[i]?.getD 0 ∧ xs[i]?.getD 0 ≤ b i) : ∀ k : Nat, innS f xs k ≤ bsum b k
  | 0 => Int.le_refl _
  | k + 1 => by
    have ih := innS_bsum hf hx k
    have h1 : -1 ≤ f[k]?.getD 0 ∧ f[k]?.getD 0 ≤ 1 := by
      cases hk : f[k]? with
      | none => simp
      | some z => obtain ⟨hi, e⟩ := List.getElem?_eq_some_iff.1 hk; simpa using hf z (by rw [← e]; exact List.getElem_mem hi)
    have h3 := (mul_le_size h1.1 h1.2 (hx k).1 (hx k).2).2
    unfold innS bsum
    omega
theorem bsum_const (s : Int) : ∀ k : Nat, bsum (fun _ => s) k = k * s
  | 0 => by simp [bsum]
  | k + 1 => by rw [bsum, bsum_const s k]; push_cast; rw [Int.add_mul, Int.one_mul]
theorem bsum_gap (s : Int) (j : Nat) : ∀ k : Nat, bsum (fun i => if i = j then 0 else s) k = (if j < k then (k : Int) - 1 else (k : Int)) * s
  | 0 => by simp [bsum]
  | k + 1 => by
    rw [bsum, bsum_gap s j k]
    by_cases h : k = j
    · subst h; rw [if_pos rfl, if_neg (by omega), if_pos (by omega)]; push_cast; grind
    · rw [if_neg h]
      by_cases h' : j < k
      · rw [if_pos h', if_pos (by omega)]; push_cast; grind
      · rw [if_neg h', if_neg (by omega)]; push_cast; rw [Int.add_mul, Int.one_mul]
/-- an inner product with a sequence that is as strong, with errors -/
def esum (e : Nat → Int) (f : List Int) : Nat → Int
  | 0 => 0
  | k + 1 => esum e f k + f[k]?.getD 0 * e k
theorem innS_seq (p q : Nat → Bool) (S : Int) (e : Nat → Int) (f xs : List Int) : ∀ k : Nat, (∀ i, i < k → f[i]?.getD 0 = vb (p i) ∧ xs[i]?.getD 0 = S * vb (q i) + e i) → innS f xs k = S * ((k : Int) - 2 * (cnt (fun i => p i != q i) k : Int)) + esum e f k
  | 0, _ => by simp [innS, cnt, esum]
  | k + 1, h => by
    obtain ⟨h1, h2⟩ := h k (by omega)
    unfold innS esum
    rw [innS_seq p q S e f xs k (fun i hi => h i (by omega)), h1, h2]
    have hc : (cnt (fun i => p i != q i) (k + 1) : Int) = cnt (fun i => p i != q i) k + ((p k != q k).toNat : Int) := by
      rw [cnt]; push_cast; rfl
    rw [hc]
    cases p k <;> cases q k <;> simp [vb] <;> grind
theorem esum_le {e : Nat → Int} {f : List Int} {b : Int} (hf : ∀ x ∈ f, -1 ≤ x ∧ x ≤ 1) (he : ∀ i, -b ≤ e i ∧ e i ≤ b) : ∀ k : Nat, -((k : Int) * b) ≤ esum e f k ∧ esum e f k ≤ (k : Int) * b
  | 0 => by simp [esum]
  | k + 1 => by
    have ih := esum_le hf he k
    have h1 : -1 ≤ f[k]?.getD 0 ∧ f[k]?.getD 0 ≤ 1 := by
      cases hk : f[k]? with
      | none => simp
      | some z => obtain ⟨hi, e⟩ := List.getElem?_eq_some_iff.1 hk; simpa using hf z (by rw [← e]; exact List.getElem_mem hi)
    have h3 := mul_le_size h1.1 h1.2 (he k).1 (he k).2
    unfold esum
    push_cast
    rw [Int.add_mul, Int.one_mul]
    omega
theorem esum_scale (e : Nat → Int) (f : List Int) (c : Int) : ∀ k : Nat, esum (fun i => c * e i) f k = c * esum e f k
  | 0 => by simp [esum]
  | k + 1 => by unfold esum; rw [esum_scale e f c k]; grind
theorem esum_zero (f : List Int) : ∀ k : Nat, esum (fun _ => 0) f k = 0
  | 0 => rfl
  | k + 1 => by unfold esum; rw [esum_zero f k]; simp
theorem secL_at (s i : Nat) (hi : i < 31) : (secL s)[i]?.getD 0 = vb (sbit s i) := by unfold secL; simp [hi]
theorem grpL_at (s i : Nat) (hi : i < 31) : (grpL s)[i]?.getD 0 = vb (gbit s i) := by unfold grpL; simp [hi]
theorem cut31_at (x : List Int) (t i : Nat) (hi : i < 31) : (cut31 x t)[i]?.getD 0 = x[t + i]?.getD 0 := by
  unfold cut31; rw [List.getElem?_take, if_pos hi, List.getElem?_drop]
/-- the identity at the place where its sequence is received, with errors that are less than 11/62 of it -/
theorem id_found {x : List Int} {n t : Nat} {S : Int} {e : Nat → Int} (hn : n < 1008) (hS : 0 < S) (_hlen : t + 62 ≤ x.length) (he : ∀ i, 62 * e i < 11 * S ∧ -(11 * S) < 62 * e i)
    (hx : ∀ i, i < 62 → x[t + i]?.getD 0 = S * (seqL n)[i]?.getD 0 + e i) :
    secB x t = (n % 3, innS (secL (n % 3)) (cut31 x t) 31) ∧ grpB x t = (n / 3, innS (grpL (n / 3)) (cut31 x (t + 31)) 31) := by
  have he2 : ∀ i, -(11 * S - 1) ≤ 62 * e i ∧ 62 * e i ≤ 11 * S - 1 := fun i => by have := he i; omega
  have hsec : ∀ i, i < 31 → (cut31 x t)[i]?.getD 0 = S * vb (sbit (n % 3) i) + e i := fun i hi => by
    rw [cut31_at x t i hi, hx i (by omega)]
    unfold seqL
    rw [List.getElem?_append_left (by simp [secL]; omega), secL_at _ i hi]
  have hgrp : ∀ i, i < 31 → (cut31 x (t + 31))[i]?.getD 0 = S * vb (gbit (n / 3) i) + e (31 + i) := fun i hi => by
    rw [cut31_at x (t + 31) i hi, Nat.add_assoc, hx (31 + i) (by omega)]
    unfold seqL
    rw [List.getElem?_append_right (by simp [secL]), show 31 + i - (secL (n % 3)).length = i by simp [secL], grpL_at _ i hi]
  have own : ∀ (f : List Int) (k : Nat) (e : Nat → Int), (∀ x ∈ f, -1 ≤ x ∧ x ≤ 1) → (∀ i, -(11 * S - 1) ≤ 62 * e i ∧ 62 * e i ≤ 11 * S - 1) → -(31 * (11 * S - 1)) ≤ 62 * esum e f 31 ∧ 62 * esum e f 31 ≤ 31 * (11 * S - 1) := by
    intro f k e hf he
    have := esum_le (e := fun i => 62 * e i) hf he 31
    rw [esum_scale] at this
    exact this
  have c0 : ∀ (p : Nat → Bool), cnt (fun i => p i != p i) 31 = 0 := fun p => by
    have : (fun i => p i != p i) = fun _ => false := by funext i; simp
    rw [this]; exact cnt_false 31
  constructor
  · unfold secB
    refine bst_max (Nat.mod_lt _ (by omega)) fun j hj hne => ?_
    rw [innS_seq (sbit j) (sbit (n % 3)) S e (secL j) _ 31 (fun i hi => ⟨secL_at j i hi, hsec i hi⟩), innS_seq (sbit (n % 3)) (sbit (n % 3)) S e (secL (n % 3)) _ 31 (fun i hi => ⟨secL_at _ i hi, hsec i hi⟩),
      c0, far_sector j hj (n % 3) (Nat.mod_lt _ (by omega)) hne]
    have a1 := own (secL j) 0 e (secL_bd j) he2
    have a2 := own (secL (n % 3)) 0 e (secL_bd _) he2
    omega
  · unfold grpB
    refine bst_max (by omega) fun j hj hne => ?_
    rw [innS_seq (gbit j) (gbit (n / 3)) S (fun i => e (31 + i)) (grpL j) _ 31 (fun i hi => ⟨grpL_at j i hi, hgrp i hi⟩), innS_seq (gbit (n / 3)) (gbit (n / 3)) S (fun i => e (31 + i)) (grpL (n / 3)) _ 31 (fun i hi => ⟨grpL_at _ i hi, hgrp i hi⟩), c0]
    have hc := far_group hj (show n / 3 < 336 by omega) hne
    obtain ⟨C, hC⟩ : ∃ C, cnt (fun i => gbit j i != gbit (n / 3) i) 31 = C := ⟨_, rfl⟩
    rw [hC] at hc ⊢
    have a1 := own (grpL j) 0 (fun i => e (31 + i)) (grpL_bd j) (fun i => he2 _)
    have a2 := own (grpL (n / 3)) 0 (fun i => e (31 + i)) (grpL_bd _) (fun i => he2 _)
    have hm : S * ((31 : Nat) - 2 * (C : Int)) ≤ S * 7 := Int.mul_le_mul_of_nonneg_left (by omega) (by omega)
    omega
/-- a sequence among zeros -/
def sigL (n : Nat) (S : Int) (a b : Nat) : List Int := List.replicate a 0 ++ (seqL n).map (S * ·) ++ List.replicate b 0
theorem sigL_len (n : Nat) (S : Int) (a b : Nat) : (sigL n S a b).length = a + b + 62 := by simp [sigL, seqL_len]; omega
theorem sigL_in (n : Nat) (S : Int) (a b i : Nat) (hi : i < 62) : (sigL n S a b)[a + i]?.getD 0 = S * (seqL n)[i]?.getD 0 := by
  unfold sigL
  rw [List.append_assoc, List.getElem?_append_right (by simp), List.length_replicate, Nat.add_sub_cancel_left, List.getElem?_append_left (by simp [seqL_len]; exact hi), List.getElem?_map]
  rw [List.getElem?_eq_getElem (by rw [seqL_len]; exact hi)]; rfl
theorem sigL_out (n : Nat) (S : Int) (a b i : Nat) (hi : i < a ∨ a + 62 ≤ i) : (sigL n S a b)[i]?.getD 0 = 0 := by
  unfold sigL
  rcases hi with h | h
  · rw [List.append_assoc, List.getElem?_append_left (by simpa using h)]
    simp [h]
  · rw [List.getElem?_append_right (by simp [seqL_len]; omega)]
    simp only [List.getElem?_replicate]
    split <;> rfl
theorem seqL_bd' (n : Nat) : ∀ x ∈ seqL n, -1 ≤ x ∧ x ≤ 1 := fun x hx => by
  unfold seqL at hx
  rcases List.mem_append.1 hx with h | h
  · exact secL_bd _ x h
  · exact grpL_bd _ x h
theorem sigL_bd (n : Nat) {S : Int} (hS : 0 < S) (a b i : Nat) : -S ≤ (sigL n S a b)[i]?.getD 0 ∧ (sigL n S a b)[i]?.getD 0 ≤ S := by
  by_cases h : i < a ∨ a + 62 ≤ i
  · rw [sigL_out n S a b i h]; omega
  · obtain ⟨j, rfl⟩ : ∃ j, i = a + j := ⟨i - a, by omega⟩
    rw [sigL_in n S a b j (by omega), List.getElem?_eq_getElem (by rw [seqL_len]; omega)]
    have h1 := seqL_bd' n _ (List.getElem_mem (show j < (seqL n).length by rw [seqL_len]; omega))
    have := mul_le_size (a := S) (m := S) (by omega) (Int.le_refl _) h1.1 h1.2
    simp only [Option.getD_some]
    omega
theorem sig_found (n : Nat) (S : Int) (a b : Nat) (hn : n < 1008) (hS : 0 < S) : srch (idAt (sigL n S a b)) (a + b) = (a, (n : Int), 62 * S) := by
  have e0 : ∀ f : List Int, esum (fun _ => 0) f 31 = 0 := fun f => esum_zero f 31
  have c0 : ∀ (p : Nat → Bool), cnt (fun i => p i != p i) 31 = 0 := fun p => by
    have : (fun i => p i != p i) = fun _ => false := by funext i; simp
    rw [this]; exact cnt_false 31
  obtain ⟨h1, h2⟩ := id_found (x := sigL n S a b) (t := a) (e := fun _ => 0) hn hS (by rw [sigL_len]; omega) (fun i => by constructor <;> simp <;> omega) (fun i hi => by rw [sigL_in n S a b i hi]; simp)
  have v1 : innS (secL (n % 3)) (cut31 (sigL n S a b) a) 31 = 31 * S := by
    rw [innS_seq (sbit (n % 3)) (sbit (n % 3)) S (fun _ => 0) _ _ 31 (fun i hi => ⟨secL_at _ i hi, by
      rw [cut31_at _ a i hi, sigL_in n S a b i (by omega)]
      unfold seqL
      rw [List.getElem?_append_left (by simp [secL]; omega), secL_at _ i hi]; simp⟩), c0, e0]
    simp; omega
  have v2 : innS (grpL (n / 3)) (cut31 (sigL n S a b) (a + 31)) 31 = 31 * S := by
    rw [innS_seq (gbit (n / 3)) (gbit (n / 3)) S (fun _ => 0) _ _ 31 (fun i hi => ⟨grpL_at _ i hi, by
      rw [cut31_at _ (a + 31) i hi, Nat.add_assoc, sigL_in n S a b (31 + i) (by omega)]
      unfold seqL
      rw [List.getElem?_append_right (by simp [secL]), show 31 + i - (secL (n % 3)).length = i by simp [secL], grpL_at _ i hi]; simp⟩), c0, e0]
    simp; omega
  have hid : idAt (sigL n S a b) a = ((n : Int), 62 * S) := by
    unfold idAt
    rw [h1, h2, v1, v2]
    refine Prod.ext ?_ ?_
    · show 3 * ((n / 3 : Nat) : Int) + ((n % 3 : Nat) : Int) = n; omega
    · show 31 * S + 31 * S = 62 * S; omega
  rw [srch_max (m := a) (by omega) fun t ht hne => ?_, hid]
  rw [hid]
  show (secB (sigL n S a b) t).2 + (grpB (sigL n S a b) t).2 < 62 * S
  have hb : ∀ t' i, -S ≤ (cut31 (sigL n S a b) t')[i]?.getD 0 ∧ (cut31 (sigL n S a b) t')[i]?.getD 0 ≤ S := fun t' i => by
    by_cases hi : i < 31
    · rw [cut31_at _ _ _ hi]; exact sigL_bd n hS a b _
    · rw [List.getElem?_eq_none (by unfold cut31; simp; omega)]; simp; omega
  have full : ∀ (f : List Int) t', (∀ x ∈ f, -1 ≤ x ∧ x ≤ 1) → innS f (cut31 (sigL n S a b) t') 31 ≤ 31 * S := fun f t' hf => by
    have := innS_bsum (b := fun _ => S) hf (hb t') 31
    rw [bsum_const] at this
    exact this
  have gap : ∀ (f : List Int) t' j, (∀ x ∈ f, -1 ≤ x ∧ x ≤ 1) → j < 31 → (cut31 (sigL n S a b) t')[j]?.getD 0 = 0 → innS f (cut31 (sigL n S a b) t') 31 ≤ 30 * S := fun f t' j hf hj h0 => by
    have := innS_bsum (b := fun i => if i = j then 0 else S) hf (fun i => by
      by_cases h : i = j
      · subst h; rw [if_pos rfl, h0]; omega
      · rw [if_neg h]; exact hb t' i) 31
    rw [bsum_gap, if_pos hj] at this
    exact this
  by_cases hlt : t < a
  · have g1 : (secB (sigL n S a b) t).2 ≤ 30 * S := bst_le (fun s => gap _ t 0 (secL_bd s) (by omega) (by rw [cut31_at _ _ _ (by omega)]; exact sigL_out n S a b _ (.inl (by omega)))) 3
    have g2 : (grpB (sigL n S a b) t).2 ≤ 31 * S := bst_le (fun g => full _ _ (grpL_bd g)) 336
    omega
  · have g1 : (secB (sigL n S a b) t).2 ≤ 31 * S := bst_le (fun s => full _ _ (secL_bd s)) 3
    have g2 : (grpB (sigL n S a b) t).2 ≤ 30 * S := bst_le (fun g => gap _ (t + 31) 30 (grpL_bd g) (by omega) (by rw [cut31_at _ _ _ (by omega)]; exact sigL_out n S a b _ (.inr (by omega)))) 336
    omega
end Go.Proofs.Ythfmjohbokpceaa
