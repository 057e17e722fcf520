import Derived.Test.YtamkannjdbodpaaSplitB
namespace Go.Proofs.Ytamkannjdbodpaa

/-! the plain law of a fair split -/
theorem bs_ok (pw most : Int) (l : List Int) : ∀ (f : Nat) (lo hi : Int), lo < hi → hi - lo ≤ f → usedL lo l ≤ pw → (hi = most + 1 ∨ pw < usedL hi l) →
    lo ≤ bs pw l f lo hi ∧ bs pw l f lo hi < hi ∧ usedL (bs pw l f lo hi) l ≤ pw ∧ (bs pw l f lo hi = most ∨ pw < usedL (bs pw l f lo hi + 1) l)
  | 0, lo, hi, h1, h2, _, _ => by omega
  | f + 1, lo, hi, h1, h2, h3, h4 => by
    rw [bs]
    split
    · rename_i hlt
      split
      · rename_i hu
        have := bs_ok pw most l f ((lo + hi) / 2) hi (by omega) (by omega) hu h4
        exact ⟨by omega, this.2.1, this.2.2⟩
      · rename_i hu
        have := bs_ok pw most l f lo ((lo + hi) / 2) (by omega) (by omega) h3 (.inr (by omega))
        exact ⟨this.1, by omega, this.2.2⟩
    · rename_i hlt
      obtain rfl : hi = lo + 1 := by omega
      exact ⟨Int.le_refl _, by omega, h3, by rcases h4 with h | h
                                             · exact .inl (by omega)
                                             · exact .inr h⟩
def cntG (lv : Int) : List Int → Int
  | [] => 0
  | x :: r => (if lv < x then 1 else 0) + cntG lv r
theorem usedL_succ (lv : Int) : ∀ l : List Int, usedL (lv + 1) l = usedL lv l + cntG lv l
  | [] => by simp [usedL, cntG]
  | x :: r => by
    simp only [usedL, cntG, usedL_succ lv r]
    split <;> omega
theorem usedL_zero : ∀ (l : List Int), Pows l → usedL 0 l = 0
  | [], _ => by simp [usedL]
  | x :: r, h => by
    have h1 := h x List.mem_cons_self
    simp only [usedL, usedL_zero r (fun y hy => h y (List.mem_cons_of_mem _ hy))]
    omega
theorem lev_ok {pw most : Int} {l : List Int} (h0 : 0 ≤ pw) (h1 : 0 ≤ most) (hp : Pows l) : 0 ≤ lev pw most l ∧ lev pw most l ≤ most ∧ usedL (lev pw most l) l ≤ pw ∧ (lev pw most l = most ∨ pw < usedL (lev pw most l) l + cntG (lev pw most l) l) := by
  have := bs_ok pw most l (most + 1).toNat 0 (most + 1) (by omega) (by omega) (by rw [usedL_zero l hp]; exact h0) (.inl rfl)
  rw [usedL_succ] at this
  exact ⟨this.1, by unfold lev; omega, this.2.2⟩
theorem cntG_nn (lv : Int) : ∀ l : List Int, 0 ≤ cntG lv l
  | [] => by simp [cntG]
  | x :: r => by have := cntG_nn lv r; simp only [cntG]; split <;> omega
theorem sum_give (lv : Int) : ∀ (l : List Int) (left : Int), 0 ≤ left → sumL (give lv true l left) = usedL lv l + min left (cntG lv l)
  | [], left, h => by simp [give, sumL, usedL, cntG]; omega
  | x :: r, left, h => by
    have c := cntG_nn lv r
    rw [give]
    simp only [usedL, cntG]
    split
    · rename_i hc
      rw [sumL, sum_give lv r (left - 1) (by omega), if_pos hc.2.1]; omega
    · rename_i hc
      rw [sumL, sum_give lv r left h]
      have hc' : ¬ (lv < x ∧ 0 < left) := by simpa using hc
      split <;> omega
theorem sum_give_no (lv : Int) : ∀ (l : List Int) (left : Int), sumL (give lv false l left) = usedL lv l
  | [], left => by simp [give, sumL, usedL]
  | x :: r, left => by rw [give]; simp [sumL, usedL, sum_give_no lv r left]
theorem give_at (lv : Int) (b : Bool) : ∀ (l : List Int) (left : Int) (i : Nat) (h : i < l.length) (h' : i < (give lv b l left).length),
    (give lv b l left)[i] = min l[i] lv ∨ (b = true ∧ lv < l[i] ∧ (give lv b l left)[i] = lv + 1)
  | x :: r, left, 0, h, h' => by
    simp only [give]
    split
    · rename_i hc
      exact .inr ⟨hc.1, hc.2.1, by simp; omega⟩
    · exact .inl (by simp)
  | x :: r, left, i + 1, h, h' => by
    simp only [give]
    split
    · exact give_at lv b r (left - 1) i (by simpa using h) (by simpa [give_len] using h)
    · exact give_at lv b r left i (by simpa using h) (by simpa [give_len] using h)

structure Fair (pw most : Int) (l x : List Int) : Prop where
  len : x.length = l.length
  bd : ∀ i (h : i < l.length), 0 ≤ x[i]'(by omega) ∧ x[i]'(by omega) ≤ most ∧ x[i]'(by omega) ≤ l[i]
  sum : sumL x ≤ pw
  full : ∀ i (h : i < l.length), x[i]'(by omega) ≠ l[i] → x[i]'(by omega) ≠ most → sumL x = pw ∧ ∀ k (hk : k < l.length), x[k]'(by omega) ≤ x[i]'(by omega) + 1

theorem split_fair {pw most : Int} {l : List Int} (h0 : 0 ≤ pw) (h1 : 0 ≤ most) (hp : Pows l) : Fair pw most l (splitL pw most l) := by
  obtain ⟨a1, a2, a3, a4⟩ := lev_ok h0 h1 hp
  have hlen : (splitL pw most l).length = l.length := by rw [splitL, give_len]
  have hat : ∀ i (h : i < l.length), (splitL pw most l)[i]'(by omega) = min l[i] (lev pw most l) ∨ (decide (lev pw most l < most) = true ∧ lev pw most l < l[i] ∧ (splitL pw most l)[i]'(by omega) = lev pw most l + 1) :=
    fun i h => give_at _ _ l _ i h (by rw [give_len]; exact h)
  have hpw : ∀ i (h : i < l.length), 0 ≤ l[i] := fun i h => (hp _ (List.getElem_mem h)).1
  have hcnt := cntG_nn (lev pw most l) l
  refine ⟨hlen, fun i h => ?_, ?_, fun i h hne hnm => ?_⟩
  · have := hpw i h
    rcases hat i h with e | ⟨e1, e2, e3⟩
    · rw [e]; omega
    · simp at e1; rw [e3]; omega
  · unfold splitL
    cases hb : decide (lev pw most l < most)
    · rw [sum_give_no]; exact a3
    · rw [sum_give _ _ _ (by omega)]; omega
  · have hi := hpw i h
    have hb : lev pw most l < most := by
      rcases hat i h with e | ⟨e1, _, _⟩
      · rcases a4 with e4 | _
        · rw [e4] at e; omega
        · rw [e] at hnm hne; omega
      · simpa using e1
    constructor
    · unfold splitL
      rw [decide_eq_true hb, sum_give _ _ _ (by omega)]
      omega
    · intro k hk
      rcases hat k hk with e | ⟨_, e2, e3⟩ <;> rcases hat i h with f | ⟨_, f2, f3⟩
      · omega
      · omega
      · omega
      · omega
theorem idx_neg (p : Int → Bool) : ∀ (l : List Int) (k : Int), (∀ x ∈ l, p x = false) → idxFrom p l k = -1
  | [], _, _ => rfl
  | x :: r, k, h => by
    rw [idxFrom, if_neg (by simp [h x List.mem_cons_self])]
    exact idx_neg p r (k + 1) (fun y hy => h y (List.mem_cons_of_mem _ hy))
theorem fair_cs {pw most : Int} {l x : List Int} (hf : Fair pw most l x) (hp : panE pw most l.length = 0) : csE pw most x = 0 ∧ csV pw most x = sumL x := by
  have h1 : idxFrom (offB most) x 0 = -1 := idx_neg _ _ _ (fun y hy => by
    obtain ⟨i, hi, rfl⟩ := List.getElem_of_mem hy
    have := hf.bd i (by rw [← hf.len]; exact hi)
    simp [offB, withinB]; omega)
  have h2 : csE.spE' pw most x = 0 := by unfold csE.spE'; rw [hf.len, hp, h1]; rfl
  have h3 : csE pw most x = 0 := by
    have := hf.sum
    unfold csE; rw [if_pos h2, if_neg (by omega)]
  exact ⟨h3, by unfold csV; rw [if_pos h3]⟩
end Go.Proofs.Ytamkannjdbodpaa
