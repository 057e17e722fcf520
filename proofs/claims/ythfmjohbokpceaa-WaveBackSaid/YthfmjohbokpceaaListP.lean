import Derived.Test.YthfmjohbokpceaaWvU
import Derived.Test.YthfmjohbokpceaaWvQ
namespace Go.Proofs.Ythfmjohbokpceaa
open Go.RowKit Go.WideShapes Go.ChangeShapes

/-! lists: copies, equality, errors (reference) -/
theorem pth_info : (Try.prog.info? 32).map (fun i => (i.zero, i.size, i.bytes)) = some (some (.agg #[.int .i64 0, .int .i64 0, .int .i64 0]), 3, 24) := by kernel_rfl
theorem Sl.reads3 {w : World} {A : Option Addr} {l : List Pth} (h : Sl w A (pvs l)) : Reads w w.heap.size 3 A l.length (pvs l) := by
  refine ⟨pvs_len l, fun hn => ?_⟩
  have h0 : 0 < (pvs l).length := by rw [pvs_len]; omega
  obtain ⟨b, off, e, hc⟩ := h 0 h0
  refine ⟨⟨b, off, none⟩, e, lt_of_cell hc, fun j u hu => ?_⟩
  rw [add_lit]
  exact h.one e hu
theorem copyPath (A : Option Addr) (c : Nat) (l : List (Pth)) (w : World) (hs : Sl w A (pvs l)) (hl : l.length ≤ 1000000) :
    Calls Try.prog 64 #[.slice A l.length c] w fun e w' => ∃ A' c', e = .returned (.slice A' l.length c') ∧ w'.ownsRow w.heap.size 32 3 (.slice A' l.length c') l.length (pvs l) ∧ Below w.heap.size w w' := by
  obtain ⟨i0, hi0, hz0, hz1, hz2⟩ := info_parts pth_info
  have hr := Sl.reads3 (hs.alloc (.cells #[] 32))
  have ho := World.ownsRow_made (e := 32) (size := 3) w #[] 0 (Nat.le_refl _) (by simp [maxLen]) rfl
  go_enter Try.func64, Try.ntmps64
  go_wp2_with (at_builtin
               refine wpList_append_any _ rfl (.tmp 3) (.tmp 4) _ rfl w.heap.size 32 i0 _ 3 24 Try.underlying35 hi0 hz0 hz1 hz2 rfl (by omega) _ 0 [] rfl
                 ho _ A l.length c (pvs l) rfl hr (pvs_one l) (by simp only [maxLen]; omega) (by omega) (by simp) ?_
               intro v1 w1 hown1 hg1 hat1)
  go_ret
  simp only [Nat.zero_add, List.nil_append] at hown1
  obtain ⟨A', c', rfl⟩ := own_form hown1
  refine ⟨A', c', rfl, hown1, ((Below.refl _ w).alloc (Nat.le_refl _) _).grown hg1 (by simp) (fun k hk => ?_)⟩
  cases hk
  exact Nat.le_refl _
end Go.Proofs.Ythfmjohbokpceaa
