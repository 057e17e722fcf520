import Derived.Test.YthfmjohbokpceaaWvJ
namespace Go.Proofs.Ythfmjohbokpceaa
open Go.RowKit Go.WideShapes Go.ChangeShapes

/-! halves of sectors and groups, the sequence of an identity (program) -/
/-- a part of a box -/
theorem reads_part {w : World} {g : Nat} {t : TypeId} {cs : Array Value} (h : Blk w g t cs) (off n : Nat) (hn : off + n ≤ cs.size) : Reads w w.heap.size 1 (some ⟨g, off, none⟩) n ((cs.toList.drop off).take n) := by
  refine ⟨by simp; omega, fun _ => ⟨_, rfl, h.lt, fun j u hu => ?_⟩⟩
  rw [add_lit, h.cell]
  obtain ⟨hj, hu'⟩ := List.getElem?_eq_some_iff.1 hu
  simp only [List.length_take, List.length_drop, Array.length_toList] at hj
  rw [← hu', List.getElem_take, List.getElem_drop, Array.getElem?_eq_getElem (by omega)]
  simp
/-- the half of a sector, of a group -/
def secL (s : Nat) : List Int := (List.range 31).map fun i => vb (sbit s i)
def grpL (g : Nat) : List Int := (List.range 31).map fun i => vb (gbit g i)
theorem sec_parts : ∀ s, s < 3 → (vA.drop (10 * s) ++ vA.take (10 * s) = secL s) := by decide +kernel
theorem iv_drop (l : List Int) (k : Nat) : iv (l.drop k) = (iv l).drop k := by simp [iv, List.map_drop]
theorem iv_take (l : List Int) (k : Nat) : iv (l.take k) = (iv l).take k := by simp [iv, List.map_take]
theorem sq_list : sqCells.toList = iv vA ++ iv vB := by simp [sqCells, iv]
theorem sq_size : sqCells.size = 62 := by kernel_rfl
theorem sec_hi (s : Nat) (hs : s < 3) : (sqCells.toList.drop (10 * s)).take (31 - 10 * s) = iv (vA.drop (10 * s)) := by
  have hl : (iv vA).length = 31 := by rw [iv_length]; rfl
  rw [sq_list, List.drop_append_of_le_length (by omega), List.take_append_of_le_length (by rw [List.length_drop]; omega), iv_drop, List.take_of_length_le (by rw [List.length_drop]; omega)]
theorem sec_lo (s : Nat) (hs : s < 3) : (sqCells.toList.drop 0).take (10 * s) = iv (vA.take (10 * s)) := by
  have hl : (iv vA).length = 31 := by rw [iv_length]; rfl
  rw [List.drop_zero, sq_list, List.take_append_of_le_length (by omega), iv_take]
set_option maxRecDepth 100000 in
set_option maxHeartbeats 2000000 in
theorem sector_wave (s : Nat) (hs : s < 3) (w : World) : Calls Try.prog 167 #[.agg sqCells, .int .i64 (s : Int)] w fun e w' => ∃ A c, e = .returned (.slice A 31 c) ∧ w'.ownsRow w.heap.size 3 1 (.slice A 31 c) 31 (iv (secL s)) ∧ Below w.heap.size w w' := by
  have HB := hide (Blk.new w 215 sqCells)
  have hp : parN [⟨some ⟨w.heap.size, 10 * s, none⟩, 31 - 10 * s, 31 - 10 * s, iv (vA.drop (10 * s))⟩, ⟨some ⟨w.heap.size, 0, none⟩, 10 * s, 31, iv (vA.take (10 * s))⟩] = 31 := by simp [parN]; omega
  have hx : parX [⟨some ⟨w.heap.size, 10 * s, none⟩, 31 - 10 * s, 31 - 10 * s, iv (vA.drop (10 * s))⟩, ⟨some ⟨w.heap.size, 0, none⟩, 10 * s, 31, iv (vA.take (10 * s))⟩] = iv (secL s) := by simp only [parX, List.append_nil]; rw [← iv_append, sec_parts s hs]
  have HC := hide (show Calls Try.prog 166 #[.slice (some ⟨w.heap.size + 1, 0, none⟩) 2 2] ((w.alloc (.cells sqCells 215)).alloc (.cells #[.slice (some ⟨w.heap.size, 10 * s, none⟩) (31 - 10 * s) (31 - 10 * s), .slice (some ⟨w.heap.size, 0, none⟩) (10 * s) 31] 24)).drew fun e w' => ∃ C k, e = .returned (.slice C 31 k) ∧ w'.ownsRow w.heap.size 3 1 (.slice C 31 k) 31 (iv (secL s)) ∧ Below w.heap.size w w' from by
    have hs1 : Sl ((w.alloc (.cells sqCells 215)).alloc (.cells #[.slice (some ⟨w.heap.size, 10 * s, none⟩) (31 - 10 * s) (31 - 10 * s), .slice (some ⟨w.heap.size, 0, none⟩) (10 * s) 31] 24)) (some ⟨w.heap.size + 1, 0, none⟩) [.slice (some ⟨w.heap.size, 10 * s, none⟩) (31 - 10 * s) (31 - 10 * s), .slice (some ⟨w.heap.size, 0, none⟩) (10 * s) 31] := Sl.new _ _ _ _ (by simp)
    have hb1 := (HB.out.alloc (.cells #[.slice (some ⟨w.heap.size, 10 * s, none⟩) (31 - 10 * s) (31 - 10 * s), .slice (some ⟨w.heap.size, 0, none⟩) (10 * s) 31] 24)).drew
    have := concat_int (some ⟨w.heap.size + 1, 0, none⟩) 2 2 [⟨some ⟨w.heap.size, 10 * s, none⟩, 31 - 10 * s, 31 - 10 * s, iv (vA.drop (10 * s))⟩, ⟨some ⟨w.heap.size, 0, none⟩, 10 * s, 31, iv (vA.take (10 * s))⟩] _ rfl hs1.drew (by
      intro p hpm
      simp only [List.mem_cons, List.not_mem_nil, or_false] at hpm
      rcases hpm with rfl | rfl
      · exact ⟨by rw [← sec_hi s hs]; exact reads_part hb1 (10 * s) (31 - 10 * s) (by rw [sq_size]; omega), iv_one _⟩
      · exact ⟨by rw [← sec_lo s hs]; exact reads_part hb1 0 (10 * s) (by rw [sq_size]; omega), iv_one _⟩) (by rw [hp]; omega) (by omega)
    rw [hp, hx] at this
    refine this.mono ?_
    rintro e w' ⟨C, k, rfl, ho, hbe⟩
    exact ⟨C, k, rfl, ho.weaken (by simp; omega), Below.step (by go_grown) hbe⟩)
  have g5 : ¬ 31 = 10 * s := by omega
  have g1 : IntKind.i64.wrap (10 * (s : Int)) = 10 * (s : Int) := IntWalk.i64_in _ (by omega)
  have g2 : (10 * (s : Int)).toNat = 10 * s := by omega
  have g3 : 0 ≤ 10 * (s : Int) := by omega
  have g4 : 10 * (s : Int) ≤ 31 := by omega
  clear hp hx
  go_enter Try.func167, Try.ntmps167
  go_wp2
  go_region_held3 (fun w' => True) (trivial)
    ((go_at_call 166; go_must (refine HC.out.mono ?_; rintro e w1 ⟨C, k, rfl, ho, hb⟩; have HO := hide ho; have HBE := hide hb; clear ho hb)))
  go_wp2
  go_ret
  exact ⟨C, k, rfl, HO.out, HBE.out⟩
end Go.Proofs.Ythfmjohbokpceaa
