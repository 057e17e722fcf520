import Derived.Test.YthfmjohbokpceaaWvDC
import Derived.Test.YthfmjohbokpceaaWvCA
namespace Go.Proofs.Ythfmjohbokpceaa
open Go.RowKit Go.WideShapes Go.ChangeShapes

/-! arrays of whole complex numbers; elements of arrays of structs held by value; samples and transforms as sums -/
def garr (l : List (Int × Int)) (n : Nat) : Array Value := (gv (l ++ List.replicate (n - l.length) (0, 0))).toArray
theorem garr_size (l : List (Int × Int)) (n : Nat) (h : l.length ≤ n) : (garr l n).size = n * 2 := by
  simp only [garr, List.size_toArray, gv_len, List.length_append, List.length_replicate]; omega
theorem garr_one (l : List (Int × Int)) (n : Nat) : (garr l n).all (·.oneCell') = true := by
  rw [Array.all_eq_true_iff_forall_mem]
  intro x hx
  exact gv_one _ x (by simpa [garr] using hx)
theorem garr_full (l : List (Int × Int)) (n : Nat) (h : l.length = n) : garr l n = (gv l).toArray := by
  unfold garr; rw [h, Nat.sub_self]; simp
theorem gv_upd (L r : List (Int × Int)) (s x : Int × Int) : ((gv (L ++ s :: r)).set (L.length * 2) (.int .i64 x.1)).set (L.length * 2 + 1) (.int .i64 x.2) = gv (L ++ x :: r) := by
  rw [gv_append, gv_cons, gv_append, gv_cons]
  have hl := gv_len L
  rw [set_at (gv L) _ _ _ _ hl.symm]
  rw [show gv L ++ Value.int .i64 x.1 :: Value.int .i64 s.2 :: gv r = (gv L ++ [Value.int .i64 x.1]) ++ Value.int .i64 s.2 :: gv r by simp, set_at _ _ _ _ _ (by simp [hl])]
  simp
theorem garr_snoc (L : List (Int × Int)) (n : Nat) (s : Int × Int) : garr (L ++ [s]) n = (gv (L ++ s :: List.replicate (n - L.length - 1) (0, 0))).toArray := by
  unfold garr
  rw [List.append_assoc, List.length_append, List.singleton_append, show n - (L.length + [s].length) = n - L.length - 1 by simp; omega]
theorem garr_zero (L : List (Int × Int)) (n : Nat) (h : L.length < n) : garr (L ++ [(0, 0)]) n = garr L n := by
  rw [garr_snoc]
  unfold garr
  rw [show n - L.length = (n - L.length - 1) + 1 by omega, List.replicate_succ, Nat.add_sub_cancel]
theorem garr_upd (L : List (Int × Int)) (n k : Nat) (s x : Int × Int) (hk : L.length = k) :
    ((garr (L ++ [s]) n).setIfInBounds (k * 2) (.int .i64 x.1)).setIfInBounds (k * 2 + 1) (.int .i64 x.2) = garr (L ++ [x]) n := by
  subst hk
  rw [garr_snoc, garr_snoc]
  simp only [List.setIfInBounds_toArray]
  rw [gv_upd]
theorem garr_set (L : List (Int × Int)) (n k : Nat) (x : Int × Int) (hk : L.length = k) (h : k < n) :
    ((garr L n).setIfInBounds (k * 2) (.int .i64 x.1)).setIfInBounds (k * 2 + 1) (.int .i64 x.2) = garr (L ++ [x]) n := by
  rw [← garr_zero L n (by omega)]; exact garr_upd L n k (0, 0) x hk
theorem garr_at (L : List (Int × Int)) (n k : Nat) (s : Int × Int) (hk : L.length = k) : (garr (L ++ [s]) n)[k * 2]? = some (.int .i64 s.1) ∧ (garr (L ++ [s]) n)[k * 2 + 1]? = some (.int .i64 s.2) := by
  subst hk
  rw [garr_snoc]
  have h := gv_at (L ++ s :: List.replicate (n - L.length - 1) (0, 0)) L.length (by simp)
  rw [show (L ++ s :: List.replicate (n - L.length - 1) (0, 0))[L.length]'(by simp) = s by simp] at h
  simpa using h
theorem Blk.ga2 {w : World} {g k n : Nat} {t : TypeId} {L : List (Int × Int)} {s : Int × Int} (h : Blk w g t (garr (L ++ [s]) n)) (hk : L.length = k) : w.cell? ⟨g, k * 2, none⟩ = some (.int .i64 s.1) ∧ w.cell? ⟨g, k * 2 + 1, none⟩ = some (.int .i64 s.2) ∧
    w.frozen? ⟨g, k * 2, none⟩ = false ∧ w.frozen? ⟨g, k * 2 + 1, none⟩ = false := by
  obtain ⟨h1, h2⟩ := garr_at L n k s hk
  exact ⟨(h.cell _).trans h1, (h.cell _).trans h2, h.frozen _, h.frozen _⟩
/-- the cells of an array's elements -/
theorem Blk.gcell {w : World} {g : Nat} {t : TypeId} {x : List (Int × Int)} (h : Blk w g t (gv x).toArray) {k : Nat} (hk : k < x.length) : w.cell? ⟨g, k * 2, none⟩ = some (.int .i64 (kg x k).1) ∧ w.cell? ⟨g, k * 2 + 1, none⟩ = some (.int .i64 (kg x k).2) := by
  obtain ⟨h1, h2⟩ := gv_at x k hk
  rw [kg_at hk]
  exact ⟨(h.cell _).trans (by simpa using h1), (h.cell _).trans (by simpa using h2)⟩
theorem Blk.ncell {w : World} {g : Nat} {t : TypeId} {x : List Nm} (h : Blk w g t (nvs x).toArray) {k : Nat} (hk : k < x.length) : w.cell? ⟨g, k * 4, none⟩ = some (.int .i64 (kn x k).1) ∧ w.cell? ⟨g, k * 4 + 1, none⟩ = some (.int .i64 (kn x k).2.1) ∧ w.cell? ⟨g, k * 4 + 2, none⟩ = some (.int .i64 (kn x k).2.2.1) ∧ w.cell? ⟨g, k * 4 + 3, none⟩ = some (.int .i64 (kn x k).2.2.2) := by
  obtain ⟨h1, h2, h3, h4⟩ := nvs_at x k hk
  rw [kn_at hk]
  exact ⟨(h.cell _).trans (by simpa using h1), (h.cell _).trans (by simpa using h2), (h.cell _).trans (by simpa using h3), (h.cell _).trans (by simpa using h4)⟩
theorem numArr_full (l : List Nm) (n : Nat) (h : l.length = n) : numArr l n = (nvs l).toArray := by
  unfold numArr; rw [h, Nat.sub_self]; simp
theorem gv_drop : ∀ (x : List (Int × Int)) (j : Nat), (gv x).drop (j * 2) = gv (x.drop j)
  | x, 0 => by simp
  | [], j + 1 => by simp [gv]
  | z :: r, j + 1 => by
    rw [gv_cons, show (j + 1) * 2 = j * 2 + 1 + 1 by omega, List.drop_succ_cons, List.drop_succ_cons, List.drop_succ_cons]
    exact gv_drop r j
theorem nvs_drop : ∀ (x : List Nm) (j : Nat), (nvs x).drop (j * 4) = nvs (x.drop j)
  | x, 0 => by simp
  | [], j + 1 => by simp [nvs]
  | z :: r, j + 1 => by
    rw [nvs_cons, show (j + 1) * 4 = j * 4 + 1 + 1 + 1 + 1 by omega, List.drop_succ_cons, List.drop_succ_cons, List.drop_succ_cons, List.drop_succ_cons, List.drop_succ_cons]
    exact nvs_drop r j
theorem ga_row : Try.prog.underlying 30 = some (.struct (Try.prog.fieldsOf 30)) := by kernel_rfl
theorem size_ga (w : World) : (sizeOf 30).run Try.prog w = .ok 2 w := by kernel_rfl
theorem size_wn (w : World) : (sizeOf 38).run Try.prog w = .ok 4 w := by kernel_rfl
theorem agg_ga (w : World) : (isAgg 30).run Try.prog w = .ok true w := by unfold isAgg; rw [Sem.run_bind, run_underlying ga_row w]; rfl
theorem agg_wn (w : World) : (isAgg 38).run Try.prog w = .ok true w := by unfold isAgg; rw [Sem.run_bind, run_underlying wn_under w]; rfl
set_option maxRecDepth 100000 in
theorem idx_gauss (t : TypeId) (n : Nat) (x : List (Int × Int)) (i : Nat) (ht : Try.prog.underlying t = some (.array n 30)) (hi : i < n) (hx : x.length = n) (w : World) :
    (Instr.index t (.agg (gv x).toArray) (.int .i64 (i : Int))).run Try.prog w = .ok (.agg #[.int .i64 (kg x i).1, .int .i64 (kg x i).2]) w := by
  have h1 : 0 ≤ (i : Int) ∧ (i : Int) < (n : Int) := by omega
  have he : ((gv x).drop (i * 2)).take 2 = [.int .i64 (kg x i).1, .int .i64 (kg x i).2] := by
    rw [gv_drop, List.drop_eq_getElem_cons (by omega : i < x.length), gv_cons, kg_at (by omega)]
    rfl
  simp [Instr.index, run_underlying ht, asIntOf, h1, part, hi, he]
set_option maxRecDepth 100000 in
theorem idx_wn (t : TypeId) (n : Nat) (x : List Nm) (i : Nat) (ht : Try.prog.underlying t = some (.array n 38)) (hi : i < n) (hx : x.length = n) (w : World) :
    (Instr.index t (.agg (nvs x).toArray) (.int .i64 (i : Int))).run Try.prog w = .ok (nv (kn x i)) w := by
  have h1 : 0 ≤ (i : Int) ∧ (i : Int) < (n : Int) := by omega
  have he : ((nvs x).drop (i * 4)).take 4 = [.int .i64 (kn x i).1, .int .i64 (kn x i).2.1, .int .i64 (kn x i).2.2.1, .int .i64 (kn x i).2.2.2] := by
    rw [nvs_drop, List.drop_eq_getElem_cons (by omega : i < x.length), nvs_cons, kn_at (by omega)]
    rfl
  simp [Instr.index, run_underlying ht, asIntOf, h1, part, hi, he]
/-- samples of entries, transforms of samples: the first so many summands -/
def ssum (x : List (Int × Int)) (n : Nat) : Nat → Nm := nsum fun k => tni (ent (kg x k)) ((k : Int) * (n : Int))
def tsm (x : List Nm) (k : Nat) : Nat → Nm := nsum fun n => tni (kn x n) (-(k : Int) * (n : Int))
def smpL (x : List (Int × Int)) : Nat → List Nm := tab fun n => ssum x n 8
def trL (x : List Nm) : Nat → List Nm := tab fun k => tsm x k 8
theorem ssum_le {x : List (Int × Int)} (h : ∀ z ∈ x, entE z = 0) (n k : Nat) : nle (k * 10000) (ssum x n k) :=
  nle_nsum k fun i _ => nle_tni (nle_ent (by have := kg_le h i; omega)) _
theorem tsm_le {x : List Nm} (h : ∀ z ∈ x, nle 1000000000 z) (k n : Nat) : nle (n * 1000000000) (tsm x k n) :=
  nle_nsum n fun i _ => nle_tni (kn_le' (by omega) h i) _
end Go.Proofs.Ythfmjohbokpceaa
