import Derived.Test.YthfmjohbokpceaaFindLaw
import Derived.Test.YthfmjohbokpceaaWLApart
import Derived.Test.YthfmjohbokpceaaStay
import Derived.Test.YthfmjohbokpceaaGuards
namespace Go.Proofs.Ythfmjohbokpceaa
open Go.RowKit Go.WideShapes Go.ChangeShapes

/-! values as cells; what the laws of finding need -/
theorem fd_under : Try.prog.underlying 42 = some (.struct (Try.prog.fieldsOf 42)) := by kernel_rfl
theorem fd_held : Try.prog.stoodInHeld 42 = false := by kernel_rfl
set_option maxRecDepth 100000 in
theorem fd_eql (a b c : Int) (w : World) : (binOp .eql 42 (.agg #[.int .i64 a, .int .i64 b, .int .i64 c]) (.agg #[.int .i64 a, .int .i64 b, .int .i64 c])).run Try.prog w = .ok (.bool true) w := by
  rw [run_eql_struct, run_equalIn_agg (d := 9999) (ht := fd_under) (hp := fd_held)]
  simp [go_sem]
set_option maxRecDepth 100000 in
theorem fd_neq (a b c : Int) (w : World) : (binOp .neq 42 (.agg #[.int .i64 a, .int .i64 b, .int .i64 c]) (.agg #[.int .i64 a, .int .i64 b, .int .i64 c])).run Try.prog w = .ok (.bool false) w := by
  rw [run_neq_struct, run_equalIn_agg (d := 9999) (ht := fd_under) (hp := fd_held)]
  simp [go_sem]
theorem own_cap3 {w : World} {base e size n m c : Nat} {A : Option Addr} {xs : List Value} (h : w.ownsRow base e size (.slice A n c) m xs) : n ≤ c := by
  rcases h.2 with ⟨h1, _⟩ | ⟨g, cap, cur, hv, _, _, h1, _⟩
  · injection h1 with _ h2 h3; omega
  · injection hv with _ h2 h3; omega
def arrF (f : Nat → Int) (L : Nat) : Array Value := (iv ((List.range L).map f)).toArray
theorem arrF_size (f : Nat → Int) (L : Nat) : (arrF f L).size = L := by simp [arrF, iv]
theorem arrF_at (f : Nat → Int) {L k : Nat} (h : k < L) : (arrF f L)[k]? = some (.int .i64 (f k)) := by simp [arrF, iv, h]
theorem arrF_congr {f g : Nat → Int} {L : Nat} (h : ∀ k, k < L → f k = g k) : arrF f L = arrF g L := by
  unfold arrF; rw [List.map_congr_left fun k hk => h k (by simpa using hk)]
theorem arrF_set (f : Nat → Int) (L k : Nat) (v : Int) : (arrF f L).setIfInBounds k (.int .i64 v) = arrF (fun i => if i = k then v else f i) L := by
  unfold arrF
  simp only [List.setIfInBounds_toArray]
  congr 1
  apply List.ext_getElem?
  intro i
  simp only [iv, List.map_map, List.getElem?_set, List.getElem?_map, List.length_map, List.length_range]
  by_cases h : k = i
  · subst h
    by_cases hk : k < L
    · simp [hk]
    · simp [hk]
  · rw [if_neg h]
    by_cases hi : i < L
    · simp [List.getElem?_range hi, Ne.symm h]
    · simp [hi]
theorem arrF_made (L : Nat) : madeCells #[Value.int .i64 0] L = arrF (fun _ => 0) L := by
  unfold arrF
  apply Array.ext
  · simp [madeCells, iv]
  · intro k h1 h2
    simp [madeCells, iv, Nat.mod_one]
theorem make_ints (L : Nat) (hL : L ≤ 1000) (w : World) : (Instr.makeSlice 24 (.int .i64 (L : Int)) (.int .i64 (L : Int))).run Try.prog w = .ok (.slice (some ⟨w.heap.size, 0, none⟩) L L) (w.alloc (.cells (arrF (fun _ => 0) L) 3)) := by
  obtain ⟨i0, hi0, hz0, hz1, hz2⟩ := info_parts int_infoW
  have h := run_make_rowN (P := Try.prog) 24 3 i0 (.int .i64 0) Try.underlying24 hi0 hz0 .i64 .i64 L L (Nat.le_refl _) (by rw [hz2]; omega) (by omega) w
  rw [hz1, Nat.mul_one] at h
  rw [← arrF_made]
  exact h
def sgF (n : Nat) (S : Int) (a i j : Nat) : Int := if a ≤ j ∧ j < a + i then S * (seqL n)[j - a]?.getD 0 else 0
theorem sgF_zero (n : Nat) (S : Int) (a : Nat) : sgF n S a 0 = fun _ => 0 := by funext j; unfold sgF; rw [if_neg (by omega)]
theorem sgF_succ (n : Nat) (S : Int) (a i L : Nat) (hi : i < 62) {z : Int} (hz : (seqL n)[i]?.getD 0 = z) : (arrF (sgF n S a i) L).setIfInBounds (a + i) (.int .i64 (S * z)) = arrF (sgF n S a (i + 1)) L := by
  rw [arrF_set]
  refine arrF_congr fun k _ => ?_
  unfold sgF
  by_cases h : k = a + i
  · subst h; rw [if_pos rfl, if_pos (by omega), Nat.add_sub_cancel_left, hz]
  · rw [if_neg h]
    by_cases h' : a ≤ k ∧ k < a + i
    · rw [if_pos h', if_pos (by omega)]
    · rw [if_neg h', if_neg (by omega)]
theorem sgF_full (n : Nat) (S : Int) (a b : Nat) : (List.range (a + 62 + b)).map (sgF n S a 62) = sigL n S a b := by
  apply List.ext_getElem?
  intro i
  by_cases hi : i < a + 62 + b
  · rw [List.getElem?_map, List.getElem?_range hi]
    have hl : i < (sigL n S a b).length := by rw [sigL_len]; omega
    rw [List.getElem?_eq_getElem hl]
    have e : (sigL n S a b)[i] = (sigL n S a b)[i]?.getD 0 := by rw [List.getElem?_eq_getElem hl]; rfl
    rw [e]
    simp only [Option.map_some]
    congr 1
    unfold sgF
    by_cases h : a ≤ i ∧ i < a + 62
    · rw [if_pos h]
      obtain ⟨j, rfl⟩ : ∃ j, i = a + j := ⟨i - a, by omega⟩
      rw [sigL_in n S a b j (by omega), Nat.add_sub_cancel_left]
    · rw [if_neg h, sigL_out n S a b i (by omega)]
  · rw [List.getElem?_eq_none (by simp; omega), List.getElem?_eq_none (by rw [sigL_len]; omega)]
def erF (n : Nat) (S : Int) (a : Nat) (es : List Int) (i j : Nat) : Int := sgF n S a 62 j + if a ≤ j ∧ j < a + i then es[j - a]?.getD 0 else 0
theorem erF_zero (n : Nat) (S : Int) (a : Nat) (es : List Int) : erF n S a es 0 = sgF n S a 62 := by funext j; unfold erF; rw [if_neg (by omega), Int.add_zero]
theorem erF_at (n : Nat) (S : Int) (a : Nat) (es : List Int) (i : Nat) (hi : i < 62) : erF n S a es i (a + i) = S * (seqL n)[i]?.getD 0 := by
  unfold erF sgF
  rw [if_pos (by omega), if_neg (by omega), Nat.add_sub_cancel_left, Int.add_zero]
theorem erF_succ (n : Nat) (S : Int) (a : Nat) (es : List Int) (i L : Nat) (hi : i < 62) {y z : Int} (hy : erF n S a es i (a + i) = y) (hz : es[i]?.getD 0 = z) : (arrF (erF n S a es i) L).setIfInBounds (a + i) (.int .i64 (y + z)) = arrF (erF n S a es (i + 1)) L := by
  rw [arrF_set]
  refine arrF_congr fun k _ => ?_
  by_cases h : k = a + i
  · subst h
    rw [if_pos rfl, ← hy, erF_at n S a es i hi, ← hz]
    unfold erF sgF
    rw [if_pos (by omega), if_pos (by omega), Nat.add_sub_cancel_left]
  · rw [if_neg h]
    unfold erF
    by_cases h' : a ≤ k ∧ k < a + i
    · rw [if_pos h', if_pos (by omega)]
    · rw [if_neg h', if_neg (by omega)]
theorem rcvE_zero {l : List Int} (hl : l.length ≤ 120) (h : ∀ x ∈ l, -100000 ≤ x ∧ x ≤ 100000) : rcvE l = 0 := by
  unfold rcvE
  rw [if_neg (by omega)]
  refine eachE_zero fun x hx => ?_
  unfold vE unlessE withinB
  rw [if_pos (by have := h x hx; simp; omega)]
theorem idE_zero {x : List Int} {t : Nat} (h1 : rcvE x = 0) (h2 : t + 62 ≤ x.length) : idE x t = 0 := by
  unfold idE
  refine firstOf_zero fun y hy => ?_
  rcases List.mem_cons.1 hy with rfl | hy
  · exact h1
  · rcases List.mem_cons.1 hy with rfl | hy
    · unfold unlessE withinB; rw [if_pos (by simp; omega)]
    · exact absurd hy (by simp)
theorem srE_zero {x : List Int} (h1 : rcvE x = 0) (h2 : 62 ≤ x.length) : srE x = 0 := by
  unfold srE
  refine firstOf_zero fun y hy => ?_
  rcases List.mem_cons.1 hy with rfl | hy
  · exact h1
  · rcases List.mem_cons.1 hy with rfl | hy
    · unfold unlessE; rw [if_pos (by simp; omega)]
    · exact absurd hy (by simp)
theorem sig_right (n : Nat) {S : Int} (hS : 0 < S) (hS' : S ≤ 100000) (a b : Nat) (hab : a + b ≤ 40) : rcvE (sigL n S a b) = 0 := by
  refine rcvE_zero (by rw [sigL_len]; omega) fun x hx => ?_
  obtain ⟨i, hi, rfl⟩ := List.getElem_of_mem hx
  have := sigL_bd n hS a b i
  rw [List.getElem?_eq_getElem hi] at this
  simp only [Option.getD_some] at this
  omega
/-- with errors -/
def erL (n : Nat) (S : Int) (a b : Nat) (es : List Int) (m : Nat) : List Int := (List.range (a + 62 + b)).map (erF n S a es m)
theorem erL_len (n : Nat) (S : Int) (a b : Nat) (es : List Int) (m : Nat) : (erL n S a b es m).length = a + 62 + b := by simp [erL]
theorem seq_bd (n i : Nat) {S : Int} (hS : 0 < S) : -S ≤ S * (seqL n)[i]?.getD 0 ∧ S * (seqL n)[i]?.getD 0 ≤ S := by
  have h1 : -1 ≤ (seqL n)[i]?.getD 0 ∧ (seqL n)[i]?.getD 0 ≤ 1 := by
    cases hk : (seqL n)[i]? with
    | none => simp
    | some z => obtain ⟨hi, e⟩ := List.getElem?_eq_some_iff.1 hk; simpa using seqL_bd' n z (by rw [← e]; exact List.getElem_mem hi)
  have := mul_le_size (a := S) (m := S) (by omega) (Int.le_refl _) h1.1 h1.2
  omega
theorem erF_bd (n : Nat) {S : Int} (hS : 0 < S) (hS' : S ≤ 50000) (a : Nat) (es : List Int) (m j : Nat) (he : ∀ i, i < m → -50000 ≤ es[i]?.getD 0 ∧ es[i]?.getD 0 ≤ 50000) : -100000 ≤ erF n S a es m j ∧ erF n S a es m j ≤ 100000 := by
  unfold erF sgF
  have h1 := seq_bd n (j - a) hS
  have h2 := he (j - a)
  by_cases h : a ≤ j ∧ j < a + 62
  · rw [if_pos h]
    by_cases h' : a ≤ j ∧ j < a + m
    · rw [if_pos h']; have := h2 (by omega); omega
    · rw [if_neg h']; omega
  · rw [if_neg h]
    by_cases h' : a ≤ j ∧ j < a + m
    · rw [if_pos h']; have := h2 (by omega); omega
    · rw [if_neg h']; omega
theorem er_right (n : Nat) {S : Int} (hS : 0 < S) (hS' : S ≤ 50000) (a b : Nat) (hab : a + b ≤ 40) (es : List Int) (m : Nat) (he : ∀ i, i < m → -50000 ≤ es[i]?.getD 0 ∧ es[i]?.getD 0 ≤ 50000) : rcvE (erL n S a b es m) = 0 := by
  refine rcvE_zero (by rw [erL_len]; omega) fun x hx => ?_
  unfold erL at hx
  obtain ⟨j, _, rfl⟩ := List.mem_map.1 hx
  exact erF_bd n hS hS' a es m j he
theorem er_found (n : Nat) {S : Int} (hn : n < 1008) (hS : 0 < S) (a b : Nat) (es : List Int) (m : Nat) (_hm : m ≤ 62) (he : ∀ i, i < m → 62 * es[i]?.getD 0 < 11 * S ∧ -(11 * S) < 62 * es[i]?.getD 0) : (idAt (erL n S a b es m) a).1 = n := by
  obtain ⟨h1, h2⟩ := id_found (x := erL n S a b es m) (t := a) (e := fun i => if i < m then es[i]?.getD 0 else 0) hn hS (by rw [erL_len]; omega) (fun i => by
    by_cases h : i < m
    · rw [if_pos h]; exact he i h
    · rw [if_neg h]; omega) (fun i hi => by
    unfold erL
    rw [List.getElem?_map, List.getElem?_range (by omega)]
    simp only [Option.map_some, Option.getD_some]
    unfold erF sgF
    rw [if_pos (by omega), Nat.add_sub_cancel_left]
    by_cases h : i < m
    · rw [if_pos (by omega), if_pos h]
    · rw [if_neg (by omega), if_neg h])
  unfold idAt
  rw [h1, h2]
  show 3 * ((n / 3 : Nat) : Int) + ((n % 3 : Nat) : Int) = n
  omega
end Go.Proofs.Ythfmjohbokpceaa
