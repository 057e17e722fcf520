import Derived.Test.YthfmjohbokpceaaFindA
import Derived.Test.YthfmjohbokpceaaWvDC
namespace Go.Proofs.Ythfmjohbokpceaa
open Go.RowKit Go.WideShapes Go.ChangeShapes

/-! the cell behind a path: what the statement needs -/
theorem pathsErr_ref2 (A : Option Addr) (c : Nat) (l : List Pth) (w : World) (hs : Sl w A (pvs l)) :
    Calls Try.prog 25 #[.slice A l.length c] w fun e w' => e = .returned (.int .i64 (pthV l).2) ∧ Below w.heap.size w w' := by
  have HS := hide (checkPaths_ref A c l w hs)
  clear hs
  go_enter Try.func25, Try.ntmps25
  go_wp2_with (go_at_call 66; go_must (refine HS.out.mono ?_; rintro e w1 ⟨rfl, hb⟩; simp only []))
  go_ret
  exact ⟨rfl, hb⟩
set_option maxRecDepth 100000 in
set_option maxHeartbeats 4000000 in
theorem waved_ok (w : World) : Calls Try.prog 23 #[] w fun e w' => e = .returned (.bool true) ∧ Below w.heap.size w w' := by
  have p1 : (pthV [(0, 1, 0), (1, 2, 0)]).2 = 0 := by decide
  have HR := hide (fun A c W k => responseOf_ok A c 2 [(0, 1, 0), (1, 2, 0)] W rfl k p1)
  have HSQ := hide (SequenceOf_ok 0 (by omega))
  have hq2 := wn_eql (1, 0, -2, 0) (1, 0, -2, 0)
  have HSZ := hide (numArr_size (rspL [(0, 1, 0), (1, 2, 0)] 8) 8 (by simp [rspL]))
  have HONE := hide (numArr_one (rspL [(0, 1, 0), (1, 2, 0)] 8) 8)
  have HC8 := hide (show (numArr (rspL [(0, 1, 0), (1, 2, 0)] 8) 8)[8]? = some (.int .i64 1) ∧ (numArr (rspL [(0, 1, 0), (1, 2, 0)] 8) 8)[9]? = some (.int .i64 0) ∧ (numArr (rspL [(0, 1, 0), (1, 2, 0)] 8) 8)[10]? = some (.int .i64 (-2)) ∧ (numArr (rspL [(0, 1, 0), (1, 2, 0)] 8) 8)[11]? = some (.int .i64 0) from ⟨by kernel_rfl, by kernel_rfl, by kernel_rfl, by kernel_rfl⟩)
  have HS0 := hide (show (iv (seqL 0))[0]? = some (.int .i64 (-1)) ∧ (iv (seqL 0))[1]? = some (.int .i64 1) from ⟨by kernel_rfl, by kernel_rfl⟩)
  obtain ⟨cs, hcs⟩ : ∃ cs, numArr (rspL [(0, 1, 0), (1, 2, 0)] 8) 8 = cs := ⟨_, rfl⟩
  rw [hcs] at HR HSZ HONE HC8
  clear p1 hcs
  go_enter Try.func23, Try.ntmps23
  go_wp2_with (first
    | (go_at_call 65; go_must (refine (HR.out _ _ _ (Sl.new _ (pvs [(0, 1, 0), (1, 2, 0)]) _ _ (by simp))).mono ?_; rintro e w2 ⟨rfl, hb2⟩; have HB2 := hide (show Below w.heap.size w w2 from Below.step (by go_grown) hb2); clear hb2; simp only []))
    | (refine wpList_store_row rfl 96 (.tmp 1) (.tmp 12) rfl w2.heap.size cs rfl rfl 96 (numArr [] 8) (Blk.new w2 _ _) (by rw [HSZ.out]; kernel_rfl) (by rw [HSZ.out]; kernel_rfl) HONE.out ?_; have HB3 := hide (show Below w.heap.size w ((w2.alloc (.cells (numArr [] 8) 96)).setRow w2.heap.size cs) from Below.row (HB2.out.alloc HB2.out.size _) HB2.out.size _); have HN := hide (stay_blk ((Blk.new w2 96 (numArr [] 8)).row cs)))
    | (go_at_call 22; go_must (refine (HSQ.out _).mono ?_; rintro e w4 ⟨A4, c4, rfl, ho4, hb4⟩; have HB4 := hide (Below.step HB3.out hb4); have N4 := hide (HN.out.step hb4).now; have S4 := Sl.of_own ho4; have y0 := (N4.out.cell 8).trans HC8.out.1; have y1 := (N4.out.cell 9).trans HC8.out.2.1; have y2 := (N4.out.cell 10).trans HC8.out.2.2.1; have y3 := (N4.out.cell 11).trans HC8.out.2.2.2; obtain ⟨sb, so, hA, s0⟩ := S4.val HS0.out.1; subst hA; have s00 : w4.cell? ⟨sb, so, none⟩ = some (.int .i64 (-1)) := s0; clear s0 S4 ho4 hb4; simp only [])))
  go_ret
  exact ⟨rfl, HB4.out⟩
def smF (n a i : Nat) : List Nm := List.replicate a n0 ++ ((seqL n).take i).map fun z => (z, 0, 0, 0)
theorem smF_len (n a i : Nat) (hi : i ≤ 62) : (smF n a i).length = a + i := by simp [smF, seqL_len]; omega
theorem smF_nil (n a : Nat) : smF n a 0 = List.replicate a n0 := List.append_nil _
theorem rep_split (x : Nm) (a L : Nat) (h : a ≤ L) : List.replicate a x ++ List.replicate (L - (List.replicate a x).length) x = [] ++ List.replicate (L - ([] : List Nm).length) x := by
  rw [List.length_replicate, List.replicate_append_replicate, show a + (L - a) = L by omega]; rfl
theorem numArr_rep (a L : Nat) (h : a ≤ L) : numArr (List.replicate a n0) L = numArr [] L := congrArg (fun l => (nvs l).toArray) (rep_split n0 a L h)
theorem smF_zero (n a L : Nat) (h : a ≤ L) : numArr (smF n a 0) L = numArr [] L := by rw [smF_nil, numArr_rep a L h]
theorem smF_succ (n a i L : Nat) (hi : i < 62) (hL : a + i < L) {z : Int} (hz : (seqL n)[i]?.getD 0 = z) :
    ((((numArr (smF n a i) L).setIfInBounds ((a + i) * 4) (.int .i64 z)).setIfInBounds ((a + i) * 4 + 1) (.int .i64 0)).setIfInBounds ((a + i) * 4 + 2) (.int .i64 0)).setIfInBounds ((a + i) * 4 + 3) (.int .i64 0) = numArr (smF n a (i + 1)) L := by
  have hl := smF_len n a i (by omega)
  have h := numArr_set (smF n a i) L (z, 0, 0, 0) (by omega)
  rw [hl] at h
  refine h.trans ?_
  refine congrArg (fun l => numArr l L) ?_
  have hs : i < (seqL n).length := by rw [seqL_len]; exact hi
  unfold smF
  rw [List.take_succ_eq_append_getElem hs, List.map_append, List.append_assoc]
  rw [List.getElem?_eq_getElem hs] at hz
  simp only [Option.getD_some] at hz
  rw [hz]; rfl
/-- all samples -/
def smX (n a : Nat) : List Nm := smF n a 62 ++ List.replicate 7 n0
theorem smX_len (n a : Nat) : (smX n a).length = a + 69 := by unfold smX; rw [List.length_append, smF_len n a 62 (Nat.le_refl _)]; simp
theorem smX_arr (n a L : Nat) (h : a + 69 = L) : numArr (smF n a 62) L = (nvs (smX n a)).toArray := by
  unfold numArr smX
  rw [smF_len n a 62 (Nat.le_refl _), show L - (a + 62) = 7 by omega]
theorem smX_at (n a j : Nat) : kn (smX n a) j = if a ≤ j ∧ j < a + 62 then ((seqL n)[j - a]?.getD 0, 0, 0, 0) else n0 := by
  unfold kn smX smF
  by_cases h1 : j < a
  · rw [if_neg (by omega), List.append_assoc, List.getElem?_append_left (by simpa using h1)]
    simp [h1]
  · by_cases h2 : j < a + 62
    · rw [if_pos (by omega), List.append_assoc, List.getElem?_append_right (by simp; omega), List.length_replicate, List.getElem?_append_left (by simp [seqL_len]; omega), List.take_of_length_le (by rw [seqL_len]; omega), List.getElem?_map]
      have : j - a < (seqL n).length := by rw [seqL_len]; omega
      rw [List.getElem?_eq_getElem this]; rfl
    · rw [if_neg (by omega), List.getElem?_append_right (by simp [seqL_len]; omega)]
      simp only [List.getElem?_replicate]
      split <;> rfl
theorem smX_le (n a : Nat) : ∀ z ∈ smX n a, nle 1 z := fun z hz => by
  obtain ⟨j, hj, rfl⟩ := List.getElem_of_mem hz
  have e : (smX n a)[j] = kn (smX n a) j := by unfold kn; rw [List.getElem?_eq_getElem hj]; rfl
  rw [e, smX_at]
  split
  · have := seq_bd n (j - a) (S := 1) (by omega)
    rw [Int.one_mul] at this
    unfold nle; dsimp only; omega
  · exact nle_zero (by omega)
section
variable {p : Pth} {n a : Nat}
theorem one_right (h : (pthV [p]).2 = 0) : rightB p = true := (pthV_ok h).2.2 p (by simp)
theorem one_thE (h : (pthV [p]).2 = 0) (ha : a ≤ 20) : thE [p] (smX n a) = 0 := by
  unfold thE
  refine firstOf_zero fun x hx => ?_
  rcases List.mem_cons.1 hx with rfl | hx
  · exact h
  · rcases List.mem_cons.1 hx with rfl | hx
    · unfold smpE
      rw [if_neg (by rw [smX_len]; omega)]
      refine eachE_zero fun z hz => ?_
      unfold numE
      rw [(fitsB_iff _ _).2 (nle_mono (smX_le n a z hz) (by decide))]; rfl
    · exact absurd hx (by simp)
theorem one_thr (i : Nat) : thr [p] (smX n a) i 1 = if p.1 ≤ (i : Int) then nmul (kn (smX n a) ((i : Int) - p.1).toNat) (ent p.2) else n0 := by
  have e : kp [p] 0 = p := rfl
  unfold thr
  rw [e]
  split
  · show nadd n0 _ = _; rw [zero_nadd]
  · rfl
theorem one_fits (h : (pthV [p]).2 = 0) : (thL [p] (smX n a) (a + 69)).all (fitsB 1000000000) = true := by
  rw [List.all_eq_true]
  intro z hz
  obtain ⟨i, _, rfl⟩ := mem_tab hz
  have hr := right_iff (one_right h)
  rw [fitsB_iff]
  show nle 1000000000 (thr [p] (smX n a) i 1)
  rw [one_thr]
  split
  · exact nle_mono (nle_mul (kn_le' (by omega) (smX_le n a) _) (nle_ent (m := 100) (by omega))) (by decide)
  · exact nle_zero (by omega)
/-- the values behind the path -/
theorem one_values (h : (pthV [p]).2 = 0) {d : Nat} (hd : p.1 = d) : (thL [p] (smX n a) (a + 69)).map (fun z => z.1) = sigL n p.2.1 (a + d) (7 - d) := by
  have hr := right_iff (one_right h)
  apply List.ext_getElem?
  intro i
  have hll := sigL_len n p.2.1 (a + d) (7 - d)
  by_cases hi : i < a + 69
  · have hl : i < (sigL n p.2.1 (a + d) (7 - d)).length := by omega
    unfold thL
    rw [List.getElem?_map, tab_at _ hi, List.getElem?_eq_getElem hl]
    have e : (sigL n p.2.1 (a + d) (7 - d))[i] = (sigL n p.2.1 (a + d) (7 - d))[i]?.getD 0 := by rw [List.getElem?_eq_getElem hl]; rfl
    rw [e]
    simp only [Option.map_some]
    congr 1
    show (thr [p] (smX n a) i 1).1 = _
    rw [one_thr, hd]
    by_cases h1 : i < a + d ∨ a + d + 62 ≤ i
    · rw [sigL_out n p.2.1 (a + d) (7 - d) i h1]
      split
      · rw [smX_at, if_neg (by omega)]; simp [nmul, n0]
      · rfl
    · obtain ⟨j, rfl⟩ : ∃ j, i = a + d + j := ⟨i - (a + d), by omega⟩
      rw [sigL_in n p.2.1 (a + d) (7 - d) j (by omega), if_pos (by omega), smX_at, if_pos (by omega)]
      rw [show (((a + d + j : Nat) : Int) - (d : Int)).toNat - a = j by omega]
      simp [nmul, ent, Int.mul_comm]
  · rw [List.getElem?_eq_none (by simp [thL, tab_len]; omega), List.getElem?_eq_none (by omega)]
end
end Go.Proofs.Ythfmjohbokpceaa
