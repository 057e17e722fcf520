import Derived.Test.YtamkannjdbodpaaDoorBeamJ
namespace Go.Proofs.YtamkannjdbodpaaDoor

/-! the sign of p + q r, r being the root of two: an order -/
theorem sgnneg (a b : Int) : sgnPQ (-a) (-b) = -(sgnPQ a b) := by
  have e : cmpSq (-a) (-b) = cmpSq a b := by unfold cmpSq; rw [Int.neg_mul_neg, Int.neg_mul_neg]
  have hc : ∀ s : Int, cmp3 (-s) 0 = -(cmp3 s 0) := by intro s; unfold cmp3; (repeat' split) <;> omega
  have hs : -a + -b = -(a + b) := by omega
  unfold sgnPQ
  rw [e, hs, hc]
  (repeat' split) <;> first | omega | (have h0 : a = 0 := by omega
                                       have h1 : b = 0 := by omega
                                       subst h0 h1; rfl)
theorem sqn (a : Int) : 0 ≤ a * a := by
  rcases Int.le_total 0 a with h | h
  · exact Int.mul_nonneg h h
  · exact Int.mul_nonneg_of_nonpos_of_nonpos h h
theorem sq_le {a b : Int} (hb : 0 ≤ b) (h : a * a ≤ b * b) : a ≤ b := by
  refine Int.not_lt.1 fun hlt => ?_
  have h1 : b * b ≤ b * a := Int.mul_le_mul_of_nonneg_left (by omega) hb
  have h2 : b * a < a * a := Int.mul_lt_mul_of_pos_right hlt (by omega)
  omega
/-- not above 0 -/
def NP (p q : Int) : Prop := (p ≤ 0 ∧ q ≤ 0) ∨ (0 < p ∧ q < 0 ∧ p * p ≤ 2 * (q * q)) ∨ (p < 0 ∧ 0 < q ∧ 2 * (q * q) ≤ p * p)
theorem np_iff (p q : Int) : sgnPQ p q ≤ 0 ↔ NP p q := by
  unfold sgnPQ NP cmpSq cmp3
  generalize hx : p * p = x
  generalize hy : q * q = y
  (repeat' split) <;> omega
theorem prod_le {x y u v : Int} (hy : 0 ≤ y) (hv : 0 ≤ v) (h1 : x * x ≤ 2 * (y * y)) (h2 : u * u ≤ 2 * (v * v)) : x * u ≤ 2 * (y * v) := by
  have hyv : 0 ≤ y * v := Int.mul_nonneg hy hv
  refine sq_le (by omega) ?_
  have h3 : (x * x) * (u * u) ≤ (2 * (y * y)) * (2 * (v * v)) := Int.mul_le_mul h1 h2 (by have : 0 ≤ u * u := sqn u; exact this) (by have : 0 ≤ y * y := sqn y; omega)
  have e1 : x * u * (x * u) = (x * x) * (u * u) := by grind
  have e2 : 2 * (y * v) * (2 * (y * v)) = (2 * (y * y)) * (2 * (v * v)) := by grind
  rw [e1, e2]; exact h3
theorem prod_ge {x y u v : Int} (hx : 0 ≤ x) (hu : 0 ≤ u) (h1 : 2 * (y * y) ≤ x * x) (h2 : 2 * (v * v) ≤ u * u) : 2 * (y * v) ≤ x * u := by
  have hxu : 0 ≤ x * u := Int.mul_nonneg hx hu
  refine sq_le hxu ?_
  have h3 : (2 * (y * y)) * (2 * (v * v)) ≤ (x * x) * (u * u) := Int.mul_le_mul h1 h2 (by have : 0 ≤ v * v := sqn v; omega) (sqn x)
  have e1 : x * u * (x * u) = (x * x) * (u * u) := by grind
  have e2 : 2 * (y * v) * (2 * (y * v)) = (2 * (y * y)) * (2 * (v * v)) := by grind
  rw [e1, e2]; exact h3
theorem sum_sq (x u : Int) : (x + u) * (x + u) = x * x + 2 * (x * u) + u * u := by grind
theorem mono_sq {x y : Int} (hx : 0 ≤ x) (h : x ≤ y) : x * x ≤ y * y := Int.mul_le_mul h h hx (by omega)
theorem np_mixed {p q r s : Int} (_h1 : 0 < p) (h2 : q < 0) (h3 : p * p ≤ 2 * (q * q)) (h4 : r < 0) (_h5 : 0 < s) (h6 : 2 * (s * s) ≤ r * r) : NP (p + r) (q + s) := by
  have er : (-r) * (-r) = r * r := by grind
  have eq : (-q) * (-q) = q * q := by grind
  by_cases ha : 0 < p + r
  · have hqs : q + s < 0 := by
      refine Int.not_le.1 fun hc => ?_
      have a1 : (-q) * (-q) ≤ s * s := mono_sq (by omega) (by omega)
      have a2 : (-r + 1) * (-r + 1) ≤ p * p := mono_sq (by omega) (by omega)
      have a3 : (-r + 1) * (-r + 1) = r * r + 2 * (-r) + 1 := by grind
      omega
    refine .inr (.inl ⟨ha, hqs, Int.not_lt.1 fun hc => ?_⟩)
    -- x = p + r, u = -r; y = -(q + s), v = s
    have k1 : 2 * ((-(q + s)) * (-(q + s))) ≤ (p + r) * (p + r) := by
      have : (-(q + s)) * (-(q + s)) = (q + s) * (q + s) := by grind
      rw [this]; omega
    have k2 : 2 * (s * s) ≤ (-r) * (-r) := by rw [er]; exact h6
    have k3 := prod_ge (by omega) (by omega) k1 k2
    have k4 := sum_sq (p + r) (-r)
    have k5 := sum_sq (-(q + s)) s
    have e4 : p + r + -r = p := by omega
    have e5 : -(q + s) + s = -q := by omega
    rw [e4] at k4
    rw [e5, eq] at k5
    have e6 : (-(q + s)) * (-(q + s)) = (q + s) * (q + s) := by grind
    rw [e6] at k5
    omega
  · by_cases hb : 0 < q + s
    · have hpr : p + r < 0 := by
        refine Int.not_le.1 fun hc => ?_
        have a1 : (-r) * (-r) ≤ p * p := mono_sq (by omega) (by omega)
        have a2 : (-q + 1) * (-q + 1) ≤ s * s := mono_sq (by omega) (by omega)
        have a3 : (-q + 1) * (-q + 1) = q * q + 2 * (-q) + 1 := by grind
        omega
      refine .inr (.inr ⟨hpr, hb, Int.not_lt.1 fun hc => ?_⟩)
      have k1 : (-(p + r)) * (-(p + r)) ≤ 2 * ((q + s) * (q + s)) := by
        have : (-(p + r)) * (-(p + r)) = (p + r) * (p + r) := by grind
        rw [this]; omega
      have k2 : p * p ≤ 2 * ((-q) * (-q)) := by rw [eq]; exact h3
      have k3 := prod_le (by omega) (by omega) k1 k2
      have k4 := sum_sq (-(p + r)) p
      have k5 := sum_sq (q + s) (-q)
      have e4 : -(p + r) + p = -r := by omega
      have e5 : q + s + -q = s := by omega
      rw [e4, er] at k4
      rw [e5] at k5
      have e6 : (-(p + r)) * (-(p + r)) = (p + r) * (p + r) := by grind
      rw [e6] at k4
      rw [eq] at k5
      omega
    · exact .inl ⟨by omega, by omega⟩
theorem np_first {p q r s : Int} (h1 : p ≤ 0) (h2 : q ≤ 0) (h : NP r s) : NP (p + r) (q + s) := by
  rcases h with ⟨a1, a2⟩ | ⟨a1, a2, a3⟩ | ⟨a1, a2, a3⟩
  · exact .inl ⟨by omega, by omega⟩
  · by_cases hc : p + r ≤ 0
    · exact .inl ⟨hc, by omega⟩
    · have k1 : (p + r) * (p + r) ≤ r * r := mono_sq (by omega) (by omega)
      have k2 : (-s) * (-s) ≤ (-(q + s)) * (-(q + s)) := mono_sq (by omega) (by omega)
      have e1 : (-s) * (-s) = s * s := by grind
      have e2 : (-(q + s)) * (-(q + s)) = (q + s) * (q + s) := by grind
      rw [e1, e2] at k2
      exact .inr (.inl ⟨by omega, by omega, by omega⟩)
  · by_cases hc : q + s ≤ 0
    · exact .inl ⟨by omega, hc⟩
    · have k1 : (q + s) * (q + s) ≤ s * s := mono_sq (by omega) (by omega)
      have k2 : (-r) * (-r) ≤ (-(p + r)) * (-(p + r)) := mono_sq (by omega) (by omega)
      have e1 : (-r) * (-r) = r * r := by grind
      have e2 : (-(p + r)) * (-(p + r)) = (p + r) * (p + r) := by grind
      rw [e1, e2] at k2
      exact .inr (.inr ⟨by omega, by omega, by omega⟩)
theorem np_add {p q r s : Int} (h : NP p q) (h' : NP r s) : NP (p + r) (q + s) := by
  rcases h with ⟨a1, a2⟩ | ⟨a1, a2, a3⟩ | ⟨a1, a2, a3⟩
  · exact np_first a1 a2 h'
  · rcases h' with ⟨b1, b2⟩ | ⟨b1, b2, b3⟩ | ⟨b1, b2, b3⟩
    · rw [Int.add_comm p, Int.add_comm q]; exact np_first b1 b2 (.inr (.inl ⟨a1, a2, a3⟩))
    · have k2 : p * p ≤ 2 * ((-q) * (-q)) := by rw [show (-q) * (-q) = q * q by grind]; exact a3
      have k3 : r * r ≤ 2 * ((-s) * (-s)) := by rw [show (-s) * (-s) = s * s by grind]; exact b3
      have k4 := prod_le (by omega) (by omega) k2 k3
      have k5 := sum_sq p r
      have k6 := sum_sq q s
      rw [show (-q) * (-s) = q * s by grind] at k4
      exact .inr (.inl ⟨by omega, by omega, by omega⟩)
    · exact np_mixed a1 a2 a3 b1 b2 b3
  · rcases h' with ⟨b1, b2⟩ | ⟨b1, b2, b3⟩ | ⟨b1, b2, b3⟩
    · rw [Int.add_comm p, Int.add_comm q]; exact np_first b1 b2 (.inr (.inr ⟨a1, a2, a3⟩))
    · rw [Int.add_comm p, Int.add_comm q]; exact np_mixed b1 b2 b3 a1 a2 a3
    · have k2 : 2 * (q * q) ≤ (-p) * (-p) := by rw [show (-p) * (-p) = p * p by grind]; exact a3
      have k3 : 2 * (s * s) ≤ (-r) * (-r) := by rw [show (-r) * (-r) = r * r by grind]; exact b3
      have k4 := prod_ge (by omega) (by omega) k2 k3
      have k5 := sum_sq p r
      have k6 := sum_sq q s
      rw [show (-p) * (-r) = p * r by grind] at k4
      exact .inr (.inr ⟨by omega, by omega, by omega⟩)

/-- which of two numbers is greater -/
def gtPQ (a b : Int × Int) : Bool := decide (0 < sgnPQ (a.1 - b.1) (a.2 - b.2))
theorem gtPQ_asymm {a b : Int × Int} (h : gtPQ a b = true) : gtPQ b a = false := by
  unfold gtPQ at *
  rw [decide_eq_true_iff] at h
  rw [decide_eq_false_iff_not]
  have := sgnneg (a.1 - b.1) (a.2 - b.2)
  rw [show -(a.1 - b.1) = b.1 - a.1 by omega, show -(a.2 - b.2) = b.2 - a.2 by omega] at this
  omega
theorem gtPQ_trans {a b c : Int × Int} (h : gtPQ a b = false) (h' : gtPQ b c = false) : gtPQ a c = false := by
  unfold gtPQ at *
  rw [decide_eq_false_iff_not] at *
  have k := np_add ((np_iff _ _).1 (Int.not_lt.1 h)) ((np_iff _ _).1 (Int.not_lt.1 h'))
  rw [show a.1 - b.1 + (b.1 - c.1) = a.1 - c.1 by omega, show a.2 - b.2 + (b.2 - c.2) = a.2 - c.2 by omega] at k
  exact Int.not_lt.2 ((np_iff _ _).2 k)
end Go.Proofs.YtamkannjdbodpaaDoor

namespace Go.Proofs.YtamkannjdbodpaaDoor

/-! a stable sort by a strict weak order, by insertion -/
section
variable (gt : Nat → Nat → Bool)
/-- who stands ahead of whom -/
def bef (i j : Nat) : Prop := gt i j = true ∨ (gt j i = false ∧ i < j)
structure Weak : Prop where
  asymm : ∀ i j, gt i j = true → gt j i = false
  trans : ∀ i j k, gt i j = false → gt j k = false → gt i k = false
variable {gt}
theorem bef_asymm (W : Weak gt) {i j : Nat} (h : bef gt i j) (h' : bef gt j i) : False := by
  rcases h with h | ⟨h, hl⟩ <;> rcases h' with k | ⟨k, kl⟩
  · rw [W.asymm _ _ h] at k; cases k
  · rw [h] at k; cases k
  · rw [k] at h; cases h
  · omega
/-- one that goes ahead of the best one so far goes ahead of all behind that -/
theorem bef_up (W : Weak gt) {i b j : Nat} (h : gt i b = true) (h' : bef gt b j) : gt i j = true := by
  have k : gt j b = false := by
    rcases h' with h' | ⟨h', _⟩
    · exact W.asymm _ _ h'
    · exact h'
  cases q : gt i j
  · have := W.trans _ _ _ q k
    rw [this] at h; cases h
  · rfl

/-- sorted: each stands ahead of all behind it -/
def Srt (gt : Nat → Nat → Bool) : List Nat → Prop := List.Pairwise (bef gt)
/-- place of k in a sorted list of lesser numbers: A stands ahead of it, B behind -/
theorem srt_put (W : Weak gt) {A B : List Nat} {k : Nat} (h : Srt gt (A ++ B)) (hlt : ∀ x ∈ A ++ B, x < k) (hB : ∀ b ∈ B, gt k b = true) (hA : ∀ (h : A ≠ []), gt k (A.getLast h) = false) : Srt gt (A ++ k :: B) := by
  unfold Srt at *
  rw [List.pairwise_append] at h ⊢
  obtain ⟨h1, h2, h3⟩ := h
  refine ⟨h1, List.pairwise_cons.2 ⟨fun b hb => .inl (hB b hb), h2⟩, fun a ha b hb => ?_⟩
  rcases List.mem_cons.1 hb with rfl | hb
  · have hne : A ≠ [] := List.ne_nil_of_mem ha
    have hl := hA hne
    refine .inr ⟨?_, hlt a (List.mem_append_left _ ha)⟩
    by_cases q : a = A.getLast hne
    · rw [q]; exact hl
    · have h4 : bef gt a (A.getLast hne) := by
        rw [← List.dropLast_concat_getLast hne, List.pairwise_append] at h1
        refine h1.2.2 a ?_ _ (by simp)
        rw [← List.dropLast_concat_getLast hne] at ha
        rcases List.mem_append.1 ha with ha | ha
        · exact ha
        · simp at ha; exact absurd ha q
      have h5 : gt (A.getLast hne) a = false := by
        rcases h4 with h4 | ⟨h4, _⟩
        · exact W.asymm _ _ h4
        · exact h4
      exact W.trans _ _ _ hl h5
  · exact h3 a ha b hb

/-- all numbers below n, each once, sorted -/
structure Sorted (gt : Nat → Nat → Bool) (n : Nat) (S : List Nat) : Prop where
  len : S.length = n
  mem : ∀ i, i ∈ S ↔ i < n
  srt : Srt gt S
theorem Sorted.one (gt : Nat → Nat → Bool) : Sorted gt 1 [0] := ⟨rfl, fun i => by simp, List.pairwise_singleton _ _⟩
theorem Sorted.put (W : Weak gt) {k : Nat} {A B : List Nat} (h : Sorted gt k (A ++ B)) (hB : ∀ b ∈ B, gt k b = true) (hA : ∀ (h : A ≠ []), gt k (A.getLast h) = false) : Sorted gt (k + 1) (A ++ k :: B) := by
  refine ⟨?_, fun i => ?_, srt_put W h.srt (fun x hx => (h.mem x).1 hx) hB hA⟩
  · have := h.len
    simp only [List.length_append, List.length_cons] at *
    omega
  · have := h.mem i
    simp only [List.mem_append, List.mem_cons] at *
    constructor
    · rintro (q | rfl | q)
      · have := this.1 (.inl q); omega
      · omega
      · have := this.1 (.inr q); omega
    · intro q
      by_cases e : i = k
      · exact .inr (.inl e)
      · rcases this.2 (by omega) with q | q
        · exact .inl q
        · exact .inr (.inr q)

/-- the best of those below i that are not among the first k -/
def Best (gt : Nat → Nat → Bool) (T : List Nat) (i : Nat) (b : Int) : Prop :=
  (b = -1 ∧ ∀ j, j < i → j ∈ T) ∨ ∃ c : Nat, b = c ∧ c < i ∧ c ∉ T ∧ ∀ j, j < i → j ∉ T → j = c ∨ bef gt c j
theorem Best.zero (T : List Nat) : Best gt T 0 (-1) := .inl ⟨rfl, fun j hj => absurd hj (by omega)⟩
theorem Best.in_ {T : List Nat} {i : Nat} {b : Int} (h : Best gt T i b) (hi : i ∈ T) : Best gt T (i + 1) b := by
  rcases h with ⟨h1, h2⟩ | ⟨c, h1, h2, h3, h4⟩
  · refine .inl ⟨h1, fun j hj => ?_⟩
    by_cases q : j = i
    · rw [q]; exact hi
    · exact h2 j (by omega)
  · refine .inr ⟨c, h1, by omega, h3, fun j hj hn => ?_⟩
    by_cases q : j = i
    · rw [q] at hn; exact absurd hi hn
    · exact h4 j (by omega) hn
theorem Best.first {T : List Nat} {i : Nat} {b : Int} (h : Best gt T i b) (hb : b < 0) (hi : i ∉ T) : Best gt T (i + 1) i := by
  rcases h with ⟨h1, h2⟩ | ⟨c, h1, h2, h3, h4⟩
  · refine .inr ⟨i, rfl, by omega, hi, fun j hj hn => ?_⟩
    by_cases q : j = i
    · exact .inl q
    · exact absurd (h2 j (by omega)) hn
  · omega
theorem Best.up (W : Weak gt) {T : List Nat} {i c : Nat} (h : Best gt T i (c : Int)) (hi : i ∉ T) (hg : gt i c = true) : Best gt T (i + 1) i := by
  rcases h with ⟨h1, h2⟩ | ⟨c', h1, h2, h3, h4⟩
  · omega
  · obtain rfl : c = c' := by omega
    refine .inr ⟨i, rfl, by omega, hi, fun j hj hn => ?_⟩
    by_cases q : j = i
    · exact .inl q
    · rcases h4 j (by omega) hn with rfl | h5
      · exact .inr (.inl hg)
      · exact .inr (.inl (bef_up W hg h5))
theorem Best.stay {T : List Nat} {i c : Nat} (h : Best gt T i (c : Int)) (hg : gt i c = false) : Best gt T (i + 1) c := by
  rcases h with ⟨h1, h2⟩ | ⟨c', h1, h2, h3, h4⟩
  · omega
  · obtain rfl : c = c' := by omega
    refine .inr ⟨c, rfl, by omega, h3, fun j hj hn => ?_⟩
    by_cases q : j = i
    · rw [q]; exact .inr (.inr ⟨hg, h2⟩)
    · exact h4 j (by omega) hn
theorem Best.bound {T : List Nat} {i : Nat} {b : Int} (h : Best gt T i b) : -1 ≤ b ∧ b < i ∧ (0 ≤ b → ∃ c : Nat, b = c ∧ c < i) := by
  rcases h with ⟨h1, h2⟩ | ⟨c, h1, h2, h3, h4⟩
  · exact ⟨by omega, by omega, fun h => by omega⟩
  · exact ⟨by omega, by omega, fun _ => ⟨c, h1, h2⟩⟩
theorem nodup_srt (W : Weak gt) : ∀ {S : List Nat}, Srt gt S → S.Nodup
  | [], _ => List.nodup_nil
  | x :: r, h => by
    unfold Srt at h
    rw [List.pairwise_cons] at h
    refine List.nodup_cons.2 ⟨fun hx => ?_, nodup_srt W h.2⟩
    exact bef_asymm W (h.1 x hx) (h.1 x hx)
/-- the best one behind the first k is number k -/
theorem Best.done (W : Weak gt) {n k : Nat} {S : List Nat} (hS : Sorted gt n S) (hk : k < n) {b : Int} (h : Best gt (S.take k) n b) : ∃ hk' : k < S.length, b = (S[k] : Int) := by
  have hkl : k < S.length := by rw [hS.len]; exact hk
  refine ⟨hkl, ?_⟩
  have hnd := nodup_srt W hS.srt
  have hnot : S[k] ∉ S.take k := fun hm => by
    have e := List.take_append_drop k S
    rw [← e, List.nodup_append] at hnd
    refine hnd.2.2 _ hm S[k] ?_ rfl
    rw [List.drop_eq_getElem_cons hkl]
    exact List.mem_cons_self
  have hlt : S[k] < n := (hS.mem _).1 (List.getElem_mem hkl)
  rcases h with ⟨h1, h2⟩ | ⟨c, h1, h2, h3, h4⟩
  · exact absurd (h2 _ hlt) hnot
  · rcases h4 _ hlt hnot with q | q
    · rw [h1, q]
    · exfalso
      have hc : c ∈ S := (hS.mem c).2 h2
      have e := List.take_append_drop k S
      rw [← e] at hc
      rcases List.mem_append.1 hc with hc | hc
      · exact h3 hc
      · rw [List.drop_eq_getElem_cons hkl] at hc
        rcases List.mem_cons.1 hc with hc | hc
        · rw [← hc] at q; exact bef_asymm W q q
        · have hs := hS.srt
          unfold Srt at hs
          rw [← e, List.pairwise_append, List.drop_eq_getElem_cons hkl, List.pairwise_cons] at hs
          exact bef_asymm W q (hs.2.1.1 c hc)
end
end Go.Proofs.YtamkannjdbodpaaDoor
