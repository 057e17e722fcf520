import Derived.Test.YtamkannjdbodpaaDoorChH
namespace Go.Proofs.YtamkannjdbodpaaDoor
open Go.RowKit Go.WideShapes Go.ChangeShapes

/-! the reference's numbers -/
theorem gmul_ref (z u : Int × Int) (w : World) (hz : cle 1000000000 z) (hu : cle 1000000000 u) :
    Calls Tryd.prog 16 #[.agg #[.int .i64 z.1, .int .i64 z.2], .agg #[.int .i64 u.1, .int .i64 u.2]] w fun e w' => e = .returned (.agg #[.int .i64 (cmul z u).1, .int .i64 (cmul z u).2]) ∧ Below w.heap.size w w' := by
  obtain ⟨a, b⟩ := z
  obtain ⟨c, d⟩ := u
  unfold cle at hz hu
  unfold cmul
  dsimp only at *
  obtain ⟨p1, q1⟩ := mul_bd2 hz.1 hz.2.1 hu.1 hu.2.1
  obtain ⟨p2, q2⟩ := mul_bd2 hz.2.2.1 hz.2.2.2 hu.2.2.1 hu.2.2.2
  obtain ⟨p3, q3⟩ := mul_bd2 hz.1 hz.2.1 hu.2.2.1 hu.2.2.2
  obtain ⟨p4, q4⟩ := mul_bd2 hz.2.2.1 hz.2.2.2 hu.1 hu.2.1
  clear hz hu
  go_enter Tryd.func16, Tryd.ntmps16
  go_wp2
  go_returns
  exact ⟨rfl, by go_grown⟩
theorem gnorm_ref (z : Int × Int) (w : World) (hz : cle 1000000000 z) :
    Calls Tryd.prog 23 #[.agg #[.int .i64 z.1, .int .i64 z.2]] w fun e w' => e = .returned (.int .i64 (nrm z)) ∧ Below w.heap.size w w' := by
  obtain ⟨a, b⟩ := z
  unfold cle at hz
  unfold nrm
  dsimp only at *
  obtain ⟨p1, q1⟩ := mul_bd2 hz.1 hz.2.1 hz.1 hz.2.1
  obtain ⟨p2, q2⟩ := mul_bd2 hz.2.2.1 hz.2.2.2 hz.2.2.1 hz.2.2.2
  clear hz
  go_enter Tryd.func23, Tryd.ntmps23
  go_wp2
  go_ret
  exact ⟨rfl, by go_grown⟩

theorem Sl.reads2 {w : World} {A : Option Addr} {l : List (Int × Int)} (h : Sl w A (gv l)) : Reads w w.heap.size 2 A l.length (gv l) := by
  refine ⟨gv_len l, fun hn => ?_⟩
  have h0 : 0 < (gv l).length := by rw [gv_len]; omega
  obtain ⟨b, off, e, hc⟩ := h 0 h0
  refine ⟨⟨b, off, none⟩, e, lt_of_cell hc, fun j u hu => ?_⟩
  obtain ⟨hj, hu'⟩ := List.getElem?_eq_some_iff.1 hu
  obtain ⟨b', off', e', hc'⟩ := h j hj
  rw [e] at e'
  injection e' with e'
  injection e' with e1 e2
  subst e1 e2
  rw [add_lit, hc', hu']
theorem copyGausses (A : Option Addr) (c : Nat) (l : List (Int × Int)) (w : World) (hs : Sl w A (gv l)) (hl : l.length ≤ 1000000) :
    Calls Tryd.prog 20 #[.slice A l.length c] w fun e w' => ∃ A' c', e = .returned (.slice A' l.length c') ∧ w'.ownsRow w.heap.size 38 2 (.slice A' l.length c') l.length (gv l) ∧ Below w.heap.size w w' := by
  obtain ⟨i0, hi0, hz0, hz1, hz2⟩ := info_parts ga_info
  have hr := (hs.alloc (.cells #[] 38)).reads2
  have ho := World.ownsRow_made (e := 38) (size := 2) w #[] 0 (Nat.le_refl _) (by simp [maxLen]) rfl
  go_enter Tryd.func20, Tryd.ntmps20
  go_wp2_with (at_builtin
               refine wpList_append_any _ rfl (.tmp 3) (.tmp 4) _ rfl w.heap.size 38 i0 _ 2 16 Tryd.underlying40 hi0 hz0 hz1 hz2 rfl (by omega) _ 0 [] rfl
                 ho _ A l.length c (gv l) rfl hr (gv_one l) (by simp only [maxLen]; omega) (by omega) (by simp) ?_
               intro v1 w1 hown1 hg1 hat1)
  go_ret
  simp only [Nat.zero_add, List.nil_append] at hown1
  obtain ⟨A', c', rfl⟩ := own_form hown1
  refine ⟨A', c', rfl, hown1, ((Below.refl _ w).alloc (Nat.le_refl _) _).grown hg1 (by simp) (fun k hk => ?_)⟩
  cases hk
  exact Nat.le_refl _

def gEq (a b : List (Int × Int)) : Bool := decide (a = b)
end Go.Proofs.YtamkannjdbodpaaDoor
