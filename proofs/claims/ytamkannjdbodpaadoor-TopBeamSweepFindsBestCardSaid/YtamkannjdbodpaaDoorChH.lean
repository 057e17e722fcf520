import Derived.Test.YtamkannjdbodpaaDoorChLaw
namespace Go.Proofs.YtamkannjdbodpaaDoor
open Go.RowKit Go.WideShapes Go.ChangeShapes

theorem ga_info : (Tryd.prog.info? 38).map (fun i => (i.zero, i.size, i.bytes)) = some (some (.agg #[.int .i64 0, .int .i64 0]), 2, 16) := by kernel_rfl
theorem Sl.of_ownN {w : World} {base e size n c : Nat} {A : Option Addr} {xs : List Value} (h : w.ownsRow base e size (.slice A n c) n xs) : Sl w A xs := by
  intro k hk
  have hn : 0 < n := by
    rcases Nat.eq_zero_or_pos n with q | q
    · have := h.1; rw [q] at this; omega
    · exact q
  obtain ⟨b, cap, hv, _, _⟩ := h.form hn
  injection hv with hA
  subst hA
  have hc := h.cells (g := b) rfl k _ (List.getElem?_eq_getElem hk)
  rw [add_lit] at hc
  exact ⟨b, 0, rfl, hc⟩
end Go.Proofs.YtamkannjdbodpaaDoor
