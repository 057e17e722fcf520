import Derived.Test.YtamkannjdbodpaaChLaw
namespace Go.Proofs.Ytamkannjdbodpaa
open Go.RowKit Go.WideShapes Go.ChangeShapes

/-! plain laws of pairs -/
/-- the longer list, of equal ones the first -/
def pick {α : Type} (b x : List α) : List α := if b.length < x.length then x else b
theorem pick_nil_left {α : Type} (x : List α) : pick [] x = x := by
  unfold pick
  cases x <;> simp
theorem pick_nil_right {α : Type} (b : List α) : pick b [] = b := by
  unfold pick
  simp
theorem pick_len {α : Type} (b x : List α) : (pick b x).length = max b.length x.length := by
  unfold pick
  split <;> omega
theorem pick_assoc {α : Type} (a b c : List α) : pick (pick a b) c = pick a (pick b c) := by
  unfold pick
  (repeat' split) <;> first | rfl | (simp_all; done) | omega
def FL {α : Type} (ls : List (List α)) : List α := ls.foldl pick []
theorem foldl_pick {α : Type} : ∀ (ls : List (List α)) (x : List α), ls.foldl pick x = pick x (FL ls)
  | [], x => (pick_nil_right x).symm
  | y :: r, x => by
    unfold FL
    rw [List.foldl_cons, List.foldl_cons, foldl_pick r, foldl_pick r, pick_nil_left, pick_assoc]
theorem FL_append {α : Type} (a b : List (List α)) : FL (a ++ b) = pick (FL a) (FL b) := by
  unfold FL
  rw [List.foldl_append, foldl_pick]
  rfl
theorem pick_cons {α : Type} (p : α) (x y : List α) : pick (p :: x) (p :: y) = p :: pick x y := by
  unfold pick
  simp only [List.length_cons, Nat.add_lt_add_iff_right]
  split <;> rfl
theorem foldl_map_cons {α : Type} (p : α) : ∀ (ls : List (List α)) (x : List α), (ls.map (p :: ·)).foldl pick (p :: x) = p :: ls.foldl pick x
  | [], _ => rfl
  | y :: r, x => by
    rw [List.map_cons, List.foldl_cons, List.foldl_cons, pick_cons, foldl_map_cons p r]
theorem FL_map {α : Type} (p : α) (ls : List (List α)) : FL (([] :: ls).map (p :: ·)) = p :: FL ls := by
  unfold FL
  rw [List.map_cons, List.foldl_cons, pick_nil_left, foldl_map_cons]

def pr (i k : Nat) : Int × Int := ((i : Int), (k : Int))
/-- what the program's loop over the other users has found behind j of them -/
def outF (f : Nat → List (Int × Int)) (sh : Nat → Nat → Bool) (T i : Nat) : Nat → List (Int × Int)
  | 0 => []
  | j + 1 => if T.testBit (i + 1 + j) || !sh i (i + 1 + j) then outF f sh T i j else pick (outF f sh T i j) (pr i (i + 1 + j) :: f (i + 1 + j))
/-- the program's best: m users are left, i is the first of them -/
def bestF (sh : Nat → Nat → Bool) : Nat → Nat → Nat → List (Int × Int)
  | 0, _, _ => []
  | m + 1, i, T => if T.testBit i then bestF sh m (i + 1) T else pick (outF (fun k => bestF sh m (i + 1) (T ||| 2 ^ k)) sh T i m) (bestF sh m (i + 1) T)
/-- the reference's lists that begin with a user -/
def rowF (f : Nat → List (List (Int × Int))) (sh : Nat → Nat → Bool) (T : List Int) (i : Nat) : Nat → List (List (Int × Int))
  | 0 => []
  | j + 1 => rowF f sh T i j ++ (if T.contains (i : Int) || T.contains ((i + 1 + j : Nat) : Int) || !sh i (i + 1 + j) then [] else (f (i + 1 + j)).map (pr i (i + 1 + j) :: ·))
def blocksF (sh : Nat → Nat → Bool) : Nat → Nat → List Int → List (List (Int × Int))
  | 0, _, _ => []
  | m + 1, i, T => rowF (fun k => [] :: blocksF sh m (i + 1) (T ++ [(i : Int), (k : Int)])) sh T i m ++ blocksF sh m (i + 1) T

/-- a list of numbers and a mask tell the same of the users from one on -/
def Tok (i T : Nat) (Tl : List Int) : Prop := ∀ j : Nat, i ≤ j → Tl.contains (j : Int) = T.testBit j
theorem Tok.next {i T : Nat} {Tl : List Int} (h : Tok i T Tl) : Tok (i + 1) T Tl := fun j hj => h j (by omega)
theorem Tok.take {i T k : Nat} {Tl : List Int} (h : Tok i T Tl) (_ : i < k) : Tok (i + 1) (T ||| 2 ^ k) (Tl ++ [(i : Int), (k : Int)]) := fun j hj => by
  rw [Nat.testBit_or, Nat.testBit_two_pow, ← h j (by omega)]
  have h1 : ((j : Int) == (i : Int)) = false := by simp; omega
  have h2 : ((j : Int) == (k : Int)) = decide (k = j) := by
    by_cases q : k = j
    · subst q; simp
    · simp [q]; omega
  simp only [List.contains_eq_any_beq, List.any_append, List.any_cons, List.any_nil, Bool.or_false, h1, h2, Bool.false_or]
theorem rowF_taken (f : Nat → List (List (Int × Int))) (sh : Nat → Nat → Bool) (T : List Int) (i : Nat) (h : T.contains (i : Int) = true) : ∀ j : Nat, rowF f sh T i j = []
  | 0 => rfl
  | j + 1 => by rw [rowF, rowF_taken f sh T i h j, h]; rfl
theorem FL_row (sh : Nat → Nat → Bool) (T : Nat) (Tl : List Int) (i : Nat) (ht : Tok i T Tl) (h0 : T.testBit i = false) (f : Nat → List (List (Int × Int))) (f' : Nat → List (Int × Int))
    (hf : ∀ k : Nat, i < k → FL ((f k).map (pr i k :: ·)) = pr i k :: f' k) : ∀ j : Nat, FL (rowF f sh Tl i j) = outF f' sh T i j
  | 0 => rfl
  | j + 1 => by
    rw [rowF, outF, FL_append, FL_row sh T Tl i ht h0 f f' hf j, ht i (Nat.le_refl _), h0, ht (i + 1 + j) (by omega), Bool.false_or]
    split
    · rw [show FL ([] : List (List (Int × Int))) = [] from rfl, pick_nil_right]
    · rw [hf _ (by omega)]
theorem FL_blocks (sh : Nat → Nat → Bool) : ∀ (m i T : Nat) (Tl : List Int), Tok i T Tl → FL (blocksF sh m i Tl) = bestF sh m i T
  | 0, _, _, _, _ => rfl
  | m + 1, i, T, Tl, ht => by
    rw [blocksF, bestF, FL_append, FL_blocks sh m (i + 1) T Tl ht.next]
    cases h0 : T.testBit i
    · rw [FL_row sh T Tl i ht h0 _ (fun k => bestF sh m (i + 1) (T ||| 2 ^ k)) (fun k hk => by
        rw [FL_map, FL_blocks sh m (i + 1) (T ||| 2 ^ k) _ (ht.take hk)])]
      rfl
    · rw [rowF_taken _ _ _ _ (by rw [ht i (Nat.le_refl _), h0]), show FL ([] : List (List (Int × Int))) = [] from rfl, pick_nil_left]
      rfl

/-! which pairs are accepted -/
def pairE (n : Int) (sh : Nat → Nat → Bool) (T : List Int) (p : Int × Int) : Int :=
  if !(withinB p.1 0 (n - 1)) || !(withinB p.2 0 (n - 1)) then 6 else firstOf [unlessE (decide (p.1 < p.2)) 9, unlessE (!(T.contains p.1) && !(T.contains p.2)) 26, unlessE (sh p.1.toNat p.2.toNat) 13]
def chkE (n : Int) (sh : Nat → Nat → Bool) : List Int → List (Int × Int) → Int
  | _, [] => 0
  | T, p :: r => if pairE n sh T p = 0 then chkE n sh (T ++ [p.1, p.2]) r else pairE n sh T p
theorem pairE_ok {n : Int} {sh : Nat → Nat → Bool} {T : List Int} {p : Int × Int} : pairE n sh T p = 0 ↔ (0 ≤ p.1 ∧ p.1 < p.2 ∧ p.2 < n ∧ T.contains p.1 = false ∧ T.contains p.2 = false ∧ sh p.1.toNat p.2.toNat = true) := by
  unfold pairE withinB
  constructor
  · intro h
    split at h
    · simp at h
    · rename_i hw
      have h1 := firstOf_ok h (unlessE (decide (p.1 < p.2)) 9) (by simp)
      have h2 := firstOf_ok h (unlessE (!(T.contains p.1) && !(T.contains p.2)) 26) (by simp)
      have h3 := firstOf_ok h (unlessE (sh p.1.toNat p.2.toNat) 13) (by simp)
      have a1 : p.1 < p.2 := by
        by_cases q : p.1 < p.2
        · exact q
        · rw [decide_eq_false q] at h1; simp [unlessE] at h1
      have a2 : (!(T.contains p.1) && !(T.contains p.2)) = true := by
        cases q : (!(T.contains p.1) && !(T.contains p.2))
        · rw [q] at h2; simp [unlessE] at h2
        · rfl
      have a3 : sh p.1.toNat p.2.toNat = true := by
        cases q : sh p.1.toNat p.2.toNat
        · rw [q] at h3; simp [unlessE] at h3
        · rfl
      rw [Bool.and_eq_true, Bool.not_eq_true', Bool.not_eq_true'] at a2
      simp only [Bool.or_eq_true, Bool.not_eq_true', Bool.and_eq_false_iff, decide_eq_false_iff_not] at hw
      exact ⟨by omega, a1, by omega, a2.1, a2.2, a3⟩
  · rintro ⟨h1, h2, h3, h4, h5, h6⟩
    rw [if_neg (by simp only [Bool.or_eq_true, Bool.not_eq_true', Bool.and_eq_false_iff, decide_eq_false_iff_not]; omega), h4, h5, h6, decide_eq_true h2]
    rfl
theorem chk_cons {n : Int} {sh : Nat → Nat → Bool} {T : List Int} {p : Int × Int} {r : List (Int × Int)} (h1 : pairE n sh T p = 0) (h2 : chkE n sh (T ++ [p.1, p.2]) r = 0) : chkE n sh T (p :: r) = 0 := by
  rw [chkE, if_pos h1, h2]
theorem chk_out (n : Nat) (sh : Nat → Nat → Bool) (T : Nat) (Tl : List Int) (i m : Nat) (ht : Tok i T Tl) (h0 : T.testBit i = false) (hm : i + 1 + m = n) (f : Nat → List (Int × Int))
    (hf : ∀ k : Nat, i < k → chkE n sh (Tl ++ [(i : Int), (k : Int)]) (f k) = 0) : ∀ j : Nat, j ≤ m → chkE n sh Tl (outF f sh T i j) = 0
  | 0, _ => rfl
  | j + 1, hj => by
    have ih := chk_out n sh T Tl i m ht h0 hm f hf j (by omega)
    rw [outF]
    split
    · exact ih
    · rename_i hc
      rw [Bool.or_eq_true, not_or] at hc
      unfold pick
      split
      · refine chk_cons (pairE_ok.2 ⟨?_, ?_, ?_, ?_, ?_, ?_⟩) (hf _ (by omega))
        · show (0 : Int) ≤ (i : Int); omega
        · show (i : Int) < ((i + 1 + j : Nat) : Int); omega
        · show ((i + 1 + j : Nat) : Int) < (n : Int); omega
        · show Tl.contains (i : Int) = false; rw [ht i (Nat.le_refl _), h0]
        · show Tl.contains ((i + 1 + j : Nat) : Int) = false; rw [ht _ (by omega)]; simpa using hc.1
        · show sh (Int.toNat (i : Int)) (Int.toNat ((i + 1 + j : Nat) : Int)) = true; rw [Int.toNat_natCast, Int.toNat_natCast]; simpa using hc.2
      · exact ih
theorem chk_best (n : Nat) (sh : Nat → Nat → Bool) : ∀ (m i T : Nat) (Tl : List Int), i + m = n → Tok i T Tl → chkE n sh Tl (bestF sh m i T) = 0
  | 0, _, _, _, _, _ => rfl
  | m + 1, i, T, Tl, hm, ht => by
    rw [bestF]
    cases h0 : T.testBit i
    · rw [if_neg (by simp)]
      have h1 := chk_out n sh T Tl i m ht h0 (by omega) (fun k => bestF sh m (i + 1) (T ||| 2 ^ k)) (fun k hk => chk_best n sh m (i + 1) (T ||| 2 ^ k) _ (by omega) (ht.take hk)) m (Nat.le_refl _)
      have h2 := chk_best n sh m (i + 1) T Tl (by omega) ht.next
      unfold pick
      split
      · exact h2
      · exact h1
    · rw [if_pos rfl]
      exact chk_best n sh m (i + 1) T Tl (by omega) ht.next

/-- accepted pairs, in any order -/
def apart (p q : Int × Int) : Prop := p.1 ≠ q.1 ∧ p.1 ≠ q.2 ∧ p.2 ≠ q.1 ∧ p.2 ≠ q.2
def Val (n : Nat) (sh : Nat → Nat → Bool) (i T : Nat) (P : List (Int × Int)) : Prop :=
  (∀ p ∈ P, (i : Int) ≤ p.1 ∧ p.1 < p.2 ∧ p.2 < n ∧ sh p.1.toNat p.2.toNat = true ∧ T.testBit p.1.toNat = false ∧ T.testBit p.2.toNat = false) ∧ P.Pairwise apart
theorem chk_val (n : Nat) (sh : Nat → Nat → Bool) : ∀ (P : List (Int × Int)) (Tl : List Int), chkE n sh Tl P = 0 →
    (∀ p ∈ P, 0 ≤ p.1 ∧ p.1 < p.2 ∧ p.2 < n ∧ sh p.1.toNat p.2.toNat = true ∧ Tl.contains p.1 = false ∧ Tl.contains p.2 = false) ∧ P.Pairwise apart
  | [], _, _ => ⟨by simp, List.Pairwise.nil⟩
  | p :: r, Tl, h => by
    rw [chkE] at h
    split at h
    · rename_i h0
      obtain ⟨a1, a2, a3, a4, a5, a6⟩ := pairE_ok.1 h0
      obtain ⟨b1, b2⟩ := chk_val n sh r _ h
      have key : ∀ q ∈ r, (Tl.contains q.1 = false ∧ Tl.contains q.2 = false) ∧ apart p q := fun q hq => by
        obtain ⟨_, _, _, _, c5, c6⟩ := b1 q hq
        simp only [List.contains_eq_any_beq, List.any_append, List.any_cons, List.any_nil, Bool.or_false, Bool.or_eq_false_iff] at c5 c6
        obtain ⟨c5, d1, d2⟩ := c5
        obtain ⟨c6, d3, d4⟩ := c6
        rw [beq_eq_false_iff_ne] at d1 d2 d3 d4
        rw [List.contains_eq_any_beq, List.contains_eq_any_beq]
        exact ⟨⟨c5, c6⟩, fun e => d1 e.symm, fun e => d3 e.symm, fun e => d2 e.symm, fun e => d4 e.symm⟩
      refine ⟨fun q hq => ?_, List.Pairwise.cons (fun q hq => (key q hq).2) b2⟩
      rcases List.mem_cons.1 hq with rfl | hq
      · exact ⟨a1, a2, a3, a6, a4, a5⟩
      · obtain ⟨c1, c2, c3, c4, _, _⟩ := b1 q hq
        exact ⟨c1, c2, c3, c4, (key q hq).1.1, (key q hq).1.2⟩
    · rename_i h0
      exact absurd h h0
theorem out_ge (f : Nat → List (Int × Int)) (sh : Nat → Nat → Bool) (T i : Nat) : ∀ (j k : Nat), i < k → k < i + 1 + j → T.testBit k = false → sh i k = true → (f k).length + 1 ≤ (outF f sh T i j).length
  | 0, k, h1, h2, _, _ => by omega
  | j + 1, k, h1, h2, h3, h4 => by
    rw [outF]
    by_cases q : k = i + 1 + j
    · subst q
      rw [h3, h4, if_neg (by simp), pick_len, List.length_cons]
      omega
    · have ih := out_ge f sh T i j k h1 (by omega) h3 h4
      split
      · exact ih
      · rw [pick_len]; omega
theorem val_best (n : Nat) (sh : Nat → Nat → Bool) : ∀ (m i T : Nat) (P : List (Int × Int)), i + m = n → Val n sh i T P → P.length ≤ (bestF sh m i T).length
  | 0, i, T, P, hm, hv => by
    cases P with
    | nil => simp
    | cons p r =>
      have := hv.1 p (by simp)
      omega
  | m + 1, i, T, P, hm, hv => by
    rw [bestF]
    by_cases hp : ∃ p ∈ P, p.1 = (i : Int)
    · obtain ⟨p, hpP, hpi⟩ := hp
      obtain ⟨a1, a2, a3, a4, a5, a6⟩ := hv.1 p hpP
      have e1 : p.1.toNat = i := by omega
      rw [e1] at a4 a5
      rw [a5, if_neg (by simp), pick_len]
      have hk : i < p.2.toNat := by omega
      have hperm := List.perm_cons_erase hpP
      have hv2 : (p :: P.erase p).Pairwise apart := (hperm.pairwise_iff (fun {x y} h => ⟨h.1.symm, h.2.2.1.symm, h.2.1.symm, h.2.2.2.symm⟩)).1 hv.2
      rw [List.pairwise_cons] at hv2
      have ih := val_best n sh m (i + 1) (T ||| 2 ^ p.2.toNat) (P.erase p) (by omega) ⟨fun q hq => by
        obtain ⟨b1, b2, b3, b4, b5, b6⟩ := hv.1 q (List.mem_of_mem_erase hq)
        obtain ⟨d1, d2, d3, d4⟩ := hv2.1 q hq
        refine ⟨by omega, b2, b3, b4, ?_, ?_⟩
        · rw [Nat.testBit_or, b5, Nat.testBit_two_pow, decide_eq_false (by omega)]; rfl
        · rw [Nat.testBit_or, b6, Nat.testBit_two_pow, decide_eq_false (by omega)]; rfl, hv2.2⟩
      have h2 := out_ge (fun k => bestF sh m (i + 1) (T ||| 2 ^ k)) sh T i m p.2.toNat hk (by omega) a6 a4
      have h3 := hperm.length_eq
      rw [List.length_cons] at h3
      omega
    · have ih := val_best n sh m (i + 1) T P (by omega) ⟨fun q hq => by
        obtain ⟨b1, b2⟩ := hv.1 q hq
        have : q.1 ≠ (i : Int) := fun e => hp ⟨q, hq, e⟩
        exact ⟨by omega, b2⟩, hv.2⟩
      split
      · exact ih
      · rw [pick_len]; omega
theorem chk_max (n : Nat) (sh : Nat → Nat → Bool) (P : List (Int × Int)) (h : chkE n sh [] P = 0) : P.length ≤ (bestF sh n 0 0).length := by
  obtain ⟨h1, h2⟩ := chk_val n sh P [] h
  exact val_best n sh n 0 0 P (by omega) ⟨fun p hp => by
    obtain ⟨a1, a2, a3, a4, _⟩ := h1 p hp
    exact ⟨by omega, a2, a3, a4, Nat.zero_testBit _, Nat.zero_testBit _⟩, h2⟩
theorem chk_mono (n : Int) (sh sh' : Nat → Nat → Bool) (hs : ∀ a b : Nat, (b : Int) < n → a < b → sh a b = true → sh' a b = true) : ∀ (P : List (Int × Int)) (T : List Int), chkE n sh T P = 0 → chkE n sh' T P = 0
  | [], _, _ => rfl
  | p :: r, T, h => by
    rw [chkE] at h
    split at h
    · rename_i h0
      obtain ⟨a1, a2, a3, a4, a5, a6⟩ := pairE_ok.1 h0
      exact chk_cons (pairE_ok.2 ⟨a1, a2, a3, a4, a5, hs _ _ (by omega) (by omega) a6⟩) (chk_mono n sh sh' hs r _ h)
    · rename_i h0
      exact absurd h h0
theorem out_same {f g : Nat → List (Int × Int)} {sh sh' : Nat → Nat → Bool} {T i m : Nat} (hf : ∀ k : Nat, f k = g k) (hs : ∀ k : Nat, i < k → k < i + 1 + m → sh i k = sh' i k) : ∀ j : Nat, j ≤ m → outF f sh T i j = outF g sh' T i j
  | 0, _ => rfl
  | j + 1, hj => by
    rw [outF, outF, out_same hf hs j (by omega), hs _ (by omega) (by omega), hf]
theorem best_same {n : Nat} {sh sh' : Nat → Nat → Bool} (hs : ∀ a b : Nat, a < b → b < n → sh a b = sh' a b) : ∀ (m i T : Nat), i + m = n → bestF sh m i T = bestF sh' m i T
  | 0, _, _, _ => rfl
  | m + 1, i, T, hm => by
    rw [bestF, bestF, best_same hs m (i + 1) T (by omega)]
    rw [out_same (m := m) (fun k => best_same hs m (i + 1) (T ||| 2 ^ k) (by omega)) (fun k h1 h2 => hs i k h1 (by omega)) m (Nat.le_refl _)]
theorem all_half : ∀ n : Nat, n < 6 → (bestF (fun _ _ => true) n 0 0).length = n / 2 := by decide +kernel
end Go.Proofs.Ytamkannjdbodpaa
