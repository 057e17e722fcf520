import Derived.Test.YthfmjohbokpceaaWvBD
namespace Go.Proofs.Ythfmjohbokpceaa

/-! plain law: samples that are turned on have that offset -/
/-- p + q r, with r the root of two -/
abbrev Pq := Int × Int
def em (s : Pq) : Nm := (s.1, s.2, 0, -s.2)
def pmul (s t : Pq) : Pq := (s.1 * t.1 + 2 * (s.2 * t.2), s.1 * t.2 + s.2 * t.1)
def padd (s t : Pq) : Pq := (s.1 + t.1, s.2 + t.2)
def psub (s t : Pq) : Pq := (s.1 - t.1, s.2 - t.2)
/-- neither p + q r nor p - q r is below 0 -/
def InT (s : Pq) : Prop := 0 ≤ s.1 ∧ 2 * (s.2 * s.2) ≤ s.1 * s.1
theorem sq_nn (z : Int) : 0 ≤ z * z := by
  rcases Int.le_total 0 z with h | h
  · exact Int.mul_nonneg h h
  · have := Int.mul_nonneg (show 0 ≤ -z by omega) (show 0 ≤ -z by omega)
    rwa [Int.neg_mul_neg] at this
theorem le_of_sq {x y : Int} (hx : 0 ≤ x) (h : y * y ≤ x * x) : -x ≤ y ∧ y ≤ x := by
  constructor
  · rcases Int.lt_or_le y (-x) with h1 | h1
    · have h2 : 0 < (-y - x) * (-y + x + 1) := Int.mul_pos (by omega) (by omega)
      have e : (-y - x) * (-y + x + 1) = y * y - x * x - y - x := by grind
      have h3 : 0 < (-y - x) * (-y + x) := Int.mul_pos (by omega) (by omega)
      have e' : (-y - x) * (-y + x) = y * y - x * x := by grind
      omega
    · exact h1
  · rcases Int.lt_or_le x y with h1 | h1
    · have h3 : 0 < (y - x) * (y + x) := Int.mul_pos (by omega) (by omega)
      have e' : (y - x) * (y + x) = y * y - x * x := by grind
      omega
    · exact h1
theorem cross {s t : Pq} (hs : InT s) (ht : InT t) : -(s.1 * t.1) ≤ 2 * (s.2 * t.2) ∧ 2 * (s.2 * t.2) ≤ s.1 * t.1 := by
  obtain ⟨a, b⟩ := s
  obtain ⟨c, d⟩ := t
  unfold InT at hs ht
  dsimp only at *
  refine le_of_sq (Int.mul_nonneg hs.1 ht.1) ?_
  have h1 := Int.mul_le_mul hs.2 ht.2 (by have := sq_nn d; omega) (sq_nn a)
  have e1 : 2 * (b * b) * (2 * (d * d)) = 2 * (b * d) * (2 * (b * d)) := by grind
  have e2 : a * a * (c * c) = a * c * (a * c) := by grind
  rw [e1, e2] at h1
  exact h1
theorem InT.add {s t : Pq} (hs : InT s) (ht : InT t) : InT (padd s t) := by
  have hc := cross hs ht
  obtain ⟨a, b⟩ := s
  obtain ⟨c, d⟩ := t
  unfold InT padd at *
  dsimp only at *
  have e1 : (b + d) * (b + d) = b * b + 2 * (b * d) + d * d := by grind
  have e2 : (a + c) * (a + c) = a * a + 2 * (a * c) + c * c := by grind
  rw [e1, e2]
  omega
theorem InT.mul {s t : Pq} (hs : InT s) (ht : InT t) : InT (pmul s t) := by
  have hc := cross hs ht
  obtain ⟨a, b⟩ := s
  obtain ⟨c, d⟩ := t
  unfold InT pmul at *
  dsimp only at *
  refine ⟨by omega, ?_⟩
  have h1 : 0 ≤ (a * a - 2 * (b * b)) * (c * c - 2 * (d * d)) := Int.mul_nonneg (by omega) (by omega)
  have e : (a * a - 2 * (b * b)) * (c * c - 2 * (d * d)) = (a * c + 2 * (b * d)) * (a * c + 2 * (b * d)) - 2 * ((a * d + b * c) * (a * d + b * c)) := by grind
  omega
theorem InT.strict {s : Pq} (hs : InT s) (h : 0 < s.1) : 2 * (s.2 * s.2) < s.1 * s.1 := by
  rcases Int.lt_or_eq_of_le hs.2 with h1 | h1
  · exact h1
  · by_cases hq : s.2 = 0
    · rw [hq]; simpa using Int.mul_pos h h
    · exact absurd h1.symm (no_root2 s.1 s.2 hq)
theorem InT.pos_mul {s t : Pq} (hs : InT s) (ht : InT t) (h : 0 < s.1) (h' : 0 < t.1) : 0 < (pmul s t).1 := by
  have h1 := hs.strict h
  have h2 := ht.strict h'
  have hm := hs.mul ht
  have hm1 := hm.1
  rcases Int.lt_or_eq_of_le hm1 with h3 | h3
  · exact h3
  · exfalso
    have h4 := hm.2
    rw [← h3] at h4
    obtain ⟨a, b⟩ := s
    obtain ⟨c, d⟩ := t
    unfold pmul at h3 h4
    dsimp only at *
    have h5 : 0 < (a * a - 2 * (b * b)) * (c * c - 2 * (d * d)) := Int.mul_pos (by omega) (by omega)
    have e : (a * a - 2 * (b * b)) * (c * c - 2 * (d * d)) = (a * c + 2 * (b * d)) * (a * c + 2 * (b * d)) - 2 * ((a * d + b * c) * (a * d + b * c)) := by grind
    rw [← h3] at e
    have := sq_nn (a * d + b * c)
    omega
theorem InT.cp {s : Pq} (hs : InT s) (h : 0 < s.1) : cpW s.1 s.2 = 1 := by
  have h1 := hs.strict h
  have s1 : sgn s.1 = 1 := by unfold sgn; rw [if_neg (by omega), if_pos h]
  unfold cpW
  split
  · exact s1
  · rw [if_neg (by omega)]
    first | exact s1 | rw [if_pos h1, s1]
/-- the square of a size, twice the real part -/
def sqr (x : Nm) : Pq := (sqP x, sqQ x)
def rl (x : Nm) : Pq := (2 * x.1, x.2.1 - x.2.2.2)
def gv8 (k : Int) : Pq := if k % 8 = 0 then (0, 0) else if k % 8 = 1 then (2, -1) else if k % 8 = 2 then (2, 0) else if k % 8 = 3 then (2, 1) else if k % 8 = 4 then (4, 0) else if k % 8 = 5 then (2, 1) else if k % 8 = 6 then (2, 0) else (2, -1)
theorem gv8_T (k : Int) : InT (gv8 k) := by unfold gv8 InT; (repeat' split) <;> decide
theorem gv8_pos {k : Int} (h : k % 8 ≠ 0) : 0 < (gv8 k).1 := by unfold gv8; rw [if_neg h]; (repeat' split) <;> decide
theorem sqr_add (x y : Nm) : sqr (nadd x y) = padd (padd (sqr x) (sqr y)) (rl (nmul x (nconj y))) := by
  obtain ⟨a, b, c, d⟩ := x
  obtain ⟨a', b', c', d'⟩ := y
  unfold sqr sqP sqQ nadd padd rl nmul nconj
  dsimp only
  refine Prod.ext ?_ ?_ <;> dsimp only <;> grind
theorem sqr_em (s : Pq) (k : Int) : sqr (tni (em s) k) = pmul s s := by
  obtain ⟨p, q⟩ := s
  rcases tni_cases (em (p, q)) k with ⟨_, h⟩ | ⟨_, h⟩ | ⟨_, h⟩ | ⟨_, h⟩ | ⟨_, h⟩ | ⟨_, h⟩ | ⟨_, h⟩ | ⟨_, h⟩ <;> rw [h] <;> unfold sqr sqP sqQ em pmul <;> dsimp only <;> refine Prod.ext ?_ ?_ <;> dsimp only <;> grind
theorem rl_em (s : Pq) (k : Int) : rl (tni (em s) k) = psub (padd s s) (pmul s (gv8 k)) := by
  obtain ⟨p, q⟩ := s
  rcases tni_cases (em (p, q)) k with ⟨e, h⟩ | ⟨e, h⟩ | ⟨e, h⟩ | ⟨e, h⟩ | ⟨e, h⟩ | ⟨e, h⟩ | ⟨e, h⟩ | ⟨e, h⟩ <;> rw [h] <;> unfold rl em pmul psub padd gv8 <;> rw [e] <;> simp <;> (try constructor) <;> grind
theorem rl_mul (x : Nm) (s : Pq) (k : Int) : rl (nmul x (nconj (tni (em s) k))) = pmul s (rl (tni x (-k))) := by
  obtain ⟨p, q⟩ := s
  rcases tni_cases (em (p, q)) k with ⟨e, h⟩ | ⟨e, h⟩ | ⟨e, h⟩ | ⟨e, h⟩ | ⟨e, h⟩ | ⟨e, h⟩ | ⟨e, h⟩ | ⟨e, h⟩ <;>
    rcases tni_cases x (-k) with ⟨e', h'⟩ | ⟨e', h'⟩ | ⟨e', h'⟩ | ⟨e', h'⟩ | ⟨e', h'⟩ | ⟨e', h'⟩ | ⟨e', h'⟩ | ⟨e', h'⟩ <;> first | (exfalso; omega) | skip
  all_goals
    rw [h, h']
    clear h h' e e'
    obtain ⟨a, b, c, d⟩ := x
    unfold rl nmul nconj em pmul
    dsimp only
    refine Prod.ext ?_ ?_ <;> dsimp only <;> grind
theorem rl_add (x y : Nm) : rl (nadd x y) = padd (rl x) (rl y) := by unfold rl nadd padd; dsimp only; refine Prod.ext ?_ ?_ <;> dsimp only <;> omega
theorem em_add (s t : Pq) : em (padd s t) = nadd (em s) (em t) := by unfold em padd nadd; dsimp only; refine nm_ext ?_ ?_ ?_ ?_ <;> dsimp only <;> omega
theorem conj_self (k : Nm) : nmul (nconj k) k = em (sqr k) := by
  obtain ⟨a, b, c, d⟩ := k
  unfold nmul nconj em sqr sqP sqQ
  dsimp only
  refine nm_ext ?_ ?_ ?_ ?_ <;> dsimp only <;> grind
theorem sqr_T (k : Nm) : InT (sqr k) := by
  refine ⟨?_, sq_norm k⟩
  unfold sqr sqP
  dsimp only
  have h1 := sq_nn k.1
  have h2 := sq_nn k.2.1
  have h3 := sq_nn k.2.2.1
  have h4 := sq_nn k.2.2.2
  omega
theorem sqr_pos {k : Nm} (h : k ≠ n0) : 0 < (sqr k).1 := by
  unfold sqr sqP
  dsimp only
  have h1 := sq_nn k.1
  have h2 := sq_nn k.2.1
  have h3 := sq_nn k.2.2.1
  have h4 := sq_nn k.2.2.2
  by_cases a : k.1 = 0
  · by_cases b : k.2.1 = 0
    · by_cases c : k.2.2.1 = 0
      · by_cases d : k.2.2.2 = 0
        · exact absurd (nm_ext a b c d) h
        · have := sq_pos d; omega
      · have := sq_pos c; omega
    · have := sq_pos b; omega
  · have := sq_pos a; omega
/-- the sums -/
def Ssum (s : Nat → Pq) (d : Int) : Nat → Nm := nsum fun i => tni (em (s i)) (d * (i : Int))
def Asum (s : Nat → Pq) : Nat → Pq
  | 0 => (0, 0)
  | n + 1 => padd (Asum s n) (s n)
def Esum (s : Nat → Pq) (d m : Int) (n : Nat) : Pq := psub (padd (Asum s n) (Asum s n)) (rl (tni (Ssum s d n) (-m)))
theorem Esum_succ (s : Nat → Pq) (d m : Int) (n : Nat) : Esum s d m (n + 1) = padd (Esum s d m n) (pmul (s n) (gv8 (d * (n : Int) - m))) := by
  have h1 : tni (Ssum s d (n + 1)) (-m) = nadd (tni (Ssum s d n) (-m)) (tni (em (s n)) (d * (n : Int) - m)) := by
    show tni (nadd (Ssum s d n) _) (-m) = _
    rw [tni_add, tni_tni]; rfl
  unfold Esum
  rw [h1, rl_add, rl_em, show Asum s (n + 1) = padd (Asum s n) (s n) from rfl]
  generalize Asum s n = A
  unfold padd psub
  dsimp only
  refine Prod.ext ?_ ?_ <;> dsimp only <;> omega
theorem Esum_T (s : Nat → Pq) (d m : Int) (hs : ∀ i, InT (s i)) : ∀ n, InT (Esum s d m n)
  | 0 => by unfold Esum Ssum nsum Asum; rw [show tni n0 (-m) = n0 from tn_n0 _]; unfold InT psub padd rl n0; decide
  | n + 1 => by rw [Esum_succ]; exact (Esum_T s d m hs n).add ((hs n).mul (gv8_T _))
def Dsum (s : Nat → Pq) (d : Int) (n : Nat) : Pq := psub (pmul (Asum s n) (Asum s n)) (sqr (Ssum s d n))
theorem Dsum_succ (s : Nat → Pq) (d : Int) (n : Nat) : Dsum s d (n + 1) = padd (Dsum s d n) (pmul (s n) (Esum s d (d * (n : Int)) n)) := by
  have h1 : sqr (Ssum s d (n + 1)) = padd (padd (sqr (Ssum s d n)) (pmul (s n) (s n))) (pmul (s n) (rl (tni (Ssum s d n) (-(d * (n : Int)))))) := by
    show sqr (nadd (Ssum s d n) (tni (em (s n)) (d * (n : Int)))) = _
    rw [sqr_add, sqr_em, rl_mul]
  unfold Dsum Esum
  rw [h1, show Asum s (n + 1) = padd (Asum s n) (s n) from rfl]
  clear h1
  generalize rl (tni (Ssum s d n) (-(d * (n : Int)))) = R
  generalize sqr (Ssum s d n) = Q
  generalize Asum s n = A
  obtain ⟨r, r'⟩ := R
  obtain ⟨q, q'⟩ := Q
  obtain ⟨a, a'⟩ := A
  obtain ⟨u, u'⟩ := s n
  unfold pmul padd psub
  dsimp only
  refine Prod.ext ?_ ?_ <;> dsimp only <;> grind
theorem Dsum_T (s : Nat → Pq) (d : Int) (hs : ∀ i, InT (s i)) : ∀ n, InT (Dsum s d n)
  | 0 => by unfold Dsum Ssum nsum Asum; unfold InT psub pmul sqr sqP sqQ n0; decide
  | n + 1 => by rw [Dsum_succ]; exact (Dsum_T s d hs n).add ((hs n).mul (Esum_T s d _ hs n))
theorem Dsum_pos (s : Nat → Pq) (d : Int) (hs : ∀ i, InT (s i)) (h0 : 0 < (s 0).1) (h1 : 0 < (s 1).1) (hd : d % 8 ≠ 0) : ∀ n, 2 ≤ n → 0 < (Dsum s d n).1 := by
  intro n hn
  induction n with
  | zero => omega
  | succ n ih =>
    have hT := (hs n).mul (Esum_T s d (d * (n : Int)) hs n)
    rw [Dsum_succ]
    by_cases h2 : 2 ≤ n
    · have := ih h2
      have := hT.1
      show 0 < _ + _
      omega
    · obtain rfl : n = 1 := by omega
      have hD := (Dsum_T s d hs 1).1
      have hE : 0 < (Esum s d (d * ((1 : Nat) : Int)) 1).1 := by
        rw [Esum_succ]
        have hz := (Esum_T s d (d * ((1 : Nat) : Int)) hs 0).1
        have hp := (hs 0).pos_mul (gv8_T (d * ((0 : Nat) : Int) - d * ((1 : Nat) : Int))) h0 (gv8_pos (by
          have e : d * ((0 : Nat) : Int) - d * ((1 : Nat) : Int) = -d := by simp
          rw [e]; omega))
        show 0 < _ + _
        omega
      have hp := (hs 1).pos_mul (Esum_T s d (d * ((1 : Nat) : Int)) hs 1) h1 hE
      show 0 < _ + _
      omega
theorem Ssum_0 (s : Nat → Pq) : ∀ n, Ssum s 0 n = em (Asum s n)
  | 0 => rfl
  | n + 1 => by
    show nadd (Ssum s 0 n) (tni (em (s n)) (0 * (n : Int))) = em (padd (Asum s n) (s n))
    rw [Ssum_0 s n, em_add, Int.zero_mul, tni_zero]
theorem sqr_at (s : Nat → Pq) (n : Nat) : sqr (Ssum s 0 n) = pmul (Asum s n) (Asum s n) := by
  have := sqr_em (Asum s n) 0
  rw [tni_zero] at this
  rw [Ssum_0, this]
theorem osum_is (a : List Nm) (e : Int) (f N : Nat) (hN : N ≤ a.length) : osum a (shL a e a.length) f N = Ssum (fun i => sqr (kn a i)) (e - (f : Int)) N := by
  unfold osum Ssum
  refine nsum_congr fun i hi => ?_
  have hk : kn (shL a e a.length) i = tni (kn a i) (e * (i : Int)) := by
    unfold kn shL
    rw [tab_at _ (by omega)]
    rfl
  rw [hk, nmul_tni, conj_self, tni_tni]
  congr 1
  rw [Int.sub_mul, Int.neg_mul]; omega
theorem off_law (a : List Nm) (e : Nat) (he : e ≤ 7) (h2 : 2 ≤ a.length) (ha : kn a 0 ≠ n0) (hb : kn a 1 ≠ n0) : (offSt a (shL a (e : Int) a.length) 8).1 = (e : Int) := by
  have hT : ∀ i, InT (sqr (kn a i)) := fun i => sqr_T _
  have hD : ∀ f : Nat, f ≤ 7 → f ≠ e → 0 < (psub (sqr (osum a (shL a (e : Int) a.length) e a.length)) (sqr (osum a (shL a (e : Int) a.length) f a.length))).1 ∧
      InT (psub (sqr (osum a (shL a (e : Int) a.length) e a.length)) (sqr (osum a (shL a (e : Int) a.length) f a.length))) := fun f hf hne => by
    rw [osum_is a e e _ (Nat.le_refl _), osum_is a e f _ (Nat.le_refl _), show (e : Int) - (e : Int) = 0 by omega, sqr_at]
    exact ⟨Dsum_pos _ _ hT (sqr_pos ha) (sqr_pos hb) (by omega) _ h2, Dsum_T _ _ hT _⟩
  generalize hb' : shL a (e : Int) a.length = b at *
  have hlow : ∀ F, F ≤ e → (offSt a b F).2 = (-1, 0) ∨ ∃ f, f < F ∧ (offSt a b F).2 = sqr (osum a b f a.length) := by
    intro F
    induction F with
    | zero => intro _; exact .inl rfl
    | succ F ih =>
      intro hF
      unfold offSt
      split
      · exact .inr ⟨F, by omega, rfl⟩
      · rcases ih (by omega) with h | ⟨f, hf, h⟩
        · exact .inl h
        · exact .inr ⟨f, by omega, h⟩
  have hat : offSt a b (e + 1) = ((e : Int), sqr (osum a b e a.length)) := by
    have hc : 0 < cpW (sqP (osum a b e a.length) - (offSt a b e).2.1) (sqQ (osum a b e a.length) - (offSt a b e).2.2) := by
      rcases hlow e (Nat.le_refl _) with h | ⟨f, hf, h⟩
      · rw [h]; exact cpW_first _ (sqr_T _).1
      · rw [h]
        obtain ⟨h1, h2⟩ := hD f (by omega) (by omega)
        have := h2.cp h1
        unfold psub sqr at this
        dsimp only at this
        unfold sqr
        dsimp only
        rw [this]; decide
    unfold offSt
    rw [if_pos hc]
    rfl
  have hhi : ∀ F, e + 1 ≤ F → F ≤ 8 → offSt a b F = ((e : Int), sqr (osum a b e a.length)) := by
    intro F
    induction F with
    | zero => intro h; omega
    | succ F ih =>
      intro h1 h2
      by_cases hF : F = e
      · subst hF; exact hat
      · have ih' := ih (by omega) (by omega)
        obtain ⟨h3, h4⟩ := hD F (by omega) hF
        have hcp := h4.cp h3
        have hn : cpW (sqP (osum a b F a.length) - (offSt a b F).2.1) (sqQ (osum a b F a.length) - (offSt a b F).2.2) = -1 := by
          rw [ih']
          unfold psub sqr at hcp
          dsimp only at hcp
          unfold sqr
          dsimp only
          rw [show sqP (osum a b F a.length) - sqP (osum a b e a.length) = -(sqP (osum a b e a.length) - sqP (osum a b F a.length)) by omega, show sqQ (osum a b F a.length) - sqQ (osum a b e a.length) = -(sqQ (osum a b e a.length) - sqQ (osum a b F a.length)) by omega, cpW_neg, hcp]
        unfold offSt
        rw [if_neg (by rw [hn]; decide)]
        exact ih'
  rw [hhi 8 (by omega) (Nat.le_refl _)]
end Go.Proofs.Ythfmjohbokpceaa
