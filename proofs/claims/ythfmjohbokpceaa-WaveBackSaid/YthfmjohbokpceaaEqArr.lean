import Derived.Test.YthfmjohbokpceaaBase
import Derived.ChangeKeysEq
namespace Go.Proofs.Ythfmjohbokpceaa
open Go.RowKit Go.WideShapes Go.ChangeShapes

/-! equality of arrays and structs whose cells are ints -/
/-- two aggregates of n ints of type t are compared (to the depth d) -/
def EqI (d : Nat) (t : TypeId) (n : Nat) : Prop := ∀ (xs ys : List Int), xs.length = n → ys.length = n → ∀ w, (Op.equalIn d t (.agg (iv xs).toArray) (.agg (iv ys).toArray)).run Try.prog w = .ok (decide (xs = ys)) w
/-- the same of parts of m cells -/
def EqP (d : Nat) (e : TypeId) (m : Nat) : Prop := ∀ (xs ys : List Int) (i : Nat), i + m ≤ xs.length → i + m ≤ ys.length → ∀ w, ∃ a b, (part e (iv xs).toArray i).run Try.prog w = .ok a w ∧ (part e (iv ys).toArray i).run Try.prog w = .ok b w ∧
  (Op.equalIn d e a b).run Try.prog w = .ok (decide ((xs.drop i).take m = (ys.drop i).take m)) w
theorem iv_arr (l : List Int) (i : Nat) (h : i < l.length) : (iv l).toArray[i]? = some (.int .i64 l[i]) := by simp [iv, h]
theorem EqP.int (d : Nat) : EqP (d + 1) 3 1 := by
  intro xs ys i hx hy w
  refine ⟨_, _, run_part_plain w (by kernel_rfl) (iv_arr xs i (by omega)), run_part_plain w (by kernel_rfl) (iv_arr ys i (by omega)), ?_⟩
  rw [run_equalIn_int (k' := .i64) (h := Try.underlying3)]
  congr 1
  have e : ∀ (l : List Int) (h : i < l.length), (l.drop i).take 1 = [l[i]] := fun l h => by rw [List.drop_eq_getElem_cons h]; rfl
  rw [e xs (by omega), e ys (by omega)]
  simp [BEq.beq]
theorem iv_cut (l : List Int) (i m : Nat) : (iv l).toArray.extract i (i + m) = (iv ((l.drop i).take m)).toArray := by
  simp [iv]
theorem EqP.agg {d : Nat} {e : TypeId} {m : Nat} (ha : ∀ w, (isAgg e).run Try.prog w = .ok true w) (hs : ∀ w, (sizeOf e).run Try.prog w = .ok m w) (h : EqI d e m) : EqP d e m := by
  intro xs ys i hx hy w
  refine ⟨.agg (iv ((xs.drop i).take m)).toArray, .agg (iv ((ys.drop i).take m)).toArray, ?_, ?_, h _ _ (by simp; omega) (by simp; omega) w⟩
  · unfold part; simp only [Sem.run_bind, ha, Result.andThen_ok, if_true, hs, Sem.run_pure, iv_cut]
  · unfold part; simp only [Sem.run_bind, ha, Result.andThen_ok, if_true, hs, Sem.run_pure, iv_cut]
set_option maxRecDepth 100000 in
theorem items_eq {d : Nat} {e : TypeId} {m : Nat} (h : EqP d e m) (xs ys : List Int) : ∀ (k i : Nat), xs.length = (i + k) * m → ys.length = (i + k) * m → ∀ w,
    (Op.eqItems d e m (iv xs).toArray (iv ys).toArray (List.range' i k)).run Try.prog w = .ok (decide (xs.drop (i * m) = ys.drop (i * m))) w
  | 0, i, hx, hy, w => by
    rw [List.drop_eq_nil_of_le (by rw [hx]; exact Nat.le_refl _), List.drop_eq_nil_of_le (by rw [hy]; exact Nat.le_refl _)]
    simp [Op.eqItems]
  | k + 1, i, hx, hy, w => by
    have hk : i * m + m ≤ (i + (k + 1)) * m := by rw [← Nat.succ_mul]; exact Nat.mul_le_mul_right m (by omega)
    obtain ⟨a, b, h1, h2, h3⟩ := h xs ys (i * m) (by omega) (by omega) w
    have ih := items_eq h xs ys k (i + 1) (by rw [hx, show i + 1 + k = i + (k + 1) by omega]) (by rw [hy, show i + 1 + k = i + (k + 1) by omega]) w
    obtain ⟨r, hr⟩ : ∃ r, decide ((xs.drop (i * m)).take m = (ys.drop (i * m)).take m) = r := ⟨_, rfl⟩
    rw [hr] at h3
    rw [List.range'_succ]
    simp only [Op.eqItems, Sem.run_bind, h1, h2, h3, Result.andThen_ok]
    have e : ∀ l : List Int, l.drop (i * m) = (l.drop (i * m)).take m ++ l.drop ((i + 1) * m) := fun l => by
      rw [show (i + 1) * m = i * m + m from Nat.succ_mul i m, ← List.drop_drop, List.take_append_drop]
    have el : ((xs.drop (i * m)).take m).length = ((ys.drop (i * m)).take m).length := by
      rw [List.length_take, List.length_take, List.length_drop, List.length_drop, hx, hy]
    cases r with
    | true =>
      have q := of_decide_eq_true hr
      simp only [Bool.not_true, Bool.false_eq_true, if_false]
      rw [ih]
      congr 1
      rw [e xs, e ys, q]
      simp
    | false =>
      have q := of_decide_eq_false hr
      simp only [Bool.not_false, if_true, Sem.run_pure]
      congr 1
      symm
      rw [decide_eq_false_iff_not]
      intro h'
      rw [e xs, e ys] at h'
      exact q (List.append_inj h' el).1
theorem EqI.array {d : Nat} {t e : TypeId} {n m : Nat} {i : TypeInfo} (ht : Try.prog.underlying t = some (.array n e)) (hi : Try.prog.info? e = some i) (hm : Try.prog.cellsOf e = m) (h : EqP d e m) : EqI (d + 1) t (n * m) := by
  intro xs ys hx hy w
  rw [run_equalIn_array w d _ _ ht hi, hm, List.range_eq_range', items_eq h xs ys n 0 (by simpa using hx) (by simpa using hy)]
  simp
set_option maxRecDepth 100000 in
theorem EqI.eql {t : TypeId} {n : Nat} (h : EqI 10000 t n) (xs ys : List Int) (hx : xs.length = n) (hy : ys.length = n) (w : World) :
    (binOp .eql t (.agg (iv xs).toArray) (.agg (iv ys).toArray)).run Try.prog w = .ok (.bool (decide (xs = ys))) w := by
  rw [run_eql_struct, h xs ys hx hy w]; rfl
set_option maxRecDepth 100000 in
theorem EqI.neq {t : TypeId} {n : Nat} (h : EqI 10000 t n) (xs ys : List Int) (hx : xs.length = n) (hy : ys.length = n) (w : World) :
    (binOp .neq t (.agg (iv xs).toArray) (.agg (iv ys).toArray)).run Try.prog w = .ok (.bool (!(decide (xs = ys)))) w := by
  rw [run_neq_struct, h xs ys hx hy w]; rfl
set_option maxRecDepth 100000 in
/-- three ints in an array -/
theorem eq_arr3 : EqI 10000 64 (3 * 1) := by
  obtain ⟨i0, hi0, hz0, hz1, hz2⟩ := info_parts int_info
  exact EqI.array (d := 9999) (i := i0) Try.underlying64 hi0 (by kernel_rfl) (EqP.int 9998)
end Go.Proofs.Ythfmjohbokpceaa
