import Derived.Test.YthfmjohbokpceaaWvFE
namespace Go.Proofs.Ythfmjohbokpceaa
open Go.RowKit Go.WideShapes Go.ChangeShapes

/-! the samples of a symbol (program) -/
def syE (x : List Nm) (n : Int) : Int := firstOf [smpE x, gE n]
theorem syE_ok {x : List Nm} {n : Int} (h : syE x n = 0) : smpE x = 0 ∧ gE n = 0 := by
  unfold syE firstOf at h
  split at h
  · rename_i h1
    unfold firstOf at h
    split at h
    · rename_i h2; exact ⟨h1, h2⟩
    · contradiction
  · contradiction
theorem Sl.sym {w : World} {b off t : Nat} {x : List Nm} (h : Sl w (some ⟨b, off, none⟩) (nvs x)) : Sl w (some ⟨b, off + t * 4, none⟩) (nvs (symX x t)) := fun j hj => ⟨b, off + t * 4, rfl, by
  have e : (nvs x)[t * 4 + j]? = some (nvs (symX x t))[j] := by
    rw [← List.getElem?_drop, nvs_drop, show x.drop t = symX x t ++ (x.drop t).drop 8 from (List.take_append_drop 8 _).symm, nvs_append, List.getElem?_append_left hj, List.getElem?_eq_getElem hj]
  have := h.one rfl e
  rw [Nat.add_assoc]
  exact this⟩
theorem slice_num_u : Try.prog.underlying 36 = some (.slice (Try.prog.elem 36)) := by kernel_rfl
theorem slice_sym (b off len c t : Nat) (ht : t + 8 ≤ c) (w : World) : (Instr.sliceAt 36 (.slice (some ⟨b, off, none⟩) len c) (some (.int .i64 (t : Int))) (some (.int .i64 ((t : Int) + 8))) none).run Try.prog w = .ok (.slice (some ⟨b, off + t * 4, none⟩) 8 (c - t)) w := by
  rw [run_sliceAt_slice w _ _ _ _ _ slice_num_u, run_slice_lh w _ _ _ _ slice_num_u .i64 .i64 (t : Int) ((t : Int) + 8) (by omega) (by omega) (by omega), show Try.prog.elem 36 = 38 by kernel_rfl, size_wn]
  rw [show ((t : Int) + 8).toNat = t + 8 by omega, Int.toNat_natCast]
  simp only [Result.andThen_ok, sliced, if_neg (show ¬ c = t by omega), Option.map_some, add_lit, Nat.add_sub_cancel_left]
set_option maxRecDepth 100000 in
set_option maxHeartbeats 4000000 in
theorem SymbolOf_err (A : Option Addr) (c : Nat) (x : List Nm) (n s : Int) (w : World) (hs : Sl w A (nvs x)) (hl : x.length ≤ 1000000) (hE : syE x n ≠ 0) :
    Calls Try.prog 80 #[.slice A x.length c, .int .i64 n, .int .i64 s] w fun e w' => e = .returned (.tuple #[.agg (numArr [] 8), .int .i64 (syE x n)]) ∧ Below w.heap.size w w' := by
  have HGE := hide (show unlessE (withinB n 0 7) 2 = gE n from rfl)
  have HSM := hide (fun W (h : Sl W A (nvs x)) => samplesErr_wave A c x W h hl)
  have HS := hide hs
  obtain ⟨V, hV⟩ : ∃ V, smpE x = V := ⟨_, rfl⟩
  have hq4 : firstOf [V, gE n] = syE x n := by rw [← hV]; rfl
  rw [hV] at HSM
  have hx : (syE x n != 0) = true := by rw [bne_iff_ne]; exact hE
  obtain ⟨E, hEE⟩ : ∃ E, syE x n = E := ⟨_, rfl⟩
  rw [hEE] at hq4 hx ⊢
  clear hEE hE hs hV
  go_enter Try.func80, Try.ntmps80
  go_wp2_with (first
    | (go_at_call 108; go_must (refine (HSM.out _ (HS.out.bel (by go_grown))).mono ?_; rintro e w1 ⟨rfl, hb1⟩; have z1 := hb1.size; simp at z1; have HB := hide ((Blk.new w 96 (numArr [] 8)).below hb1 (by simp)); have b1 := Below.step (show Below w.heap.size w _ by go_grown) hb1; clear hb1; simp only []))
    | (go_at_call 157; refine (guardErr_wave _ _).mono ?_; rintro e w' ⟨rfl, rfl⟩; rw [HGE.out]; simp only [])
    | (go_at_call 107; go_must (refine (first2 _ _ _ _ (by simp)).mono ?_; rintro e w' ⟨rfl, rfl⟩; rw [hq4]; simp only []))
    | (refine wpList_store_row rfl 96 (.tmp 6) (.tmp 19) rfl w.heap.size (numArr [] 8) rfl rfl 96 (numArr [] 8) (by exact HB.out.alloc _) (by kernel_rfl) (by kernel_rfl) (numArr_one _ _) ?_))
  exact bodyPost_ret (results_row_tmp2 rfl _ _ w.heap.size 96 (numArr [] 8) _ (.int .i64 E) rfl rfl (by exact (HB.out.alloc _).row (numArr [] 8)) Try.underlying96 rfl (by kernel_rfl)) rfl ⟨rfl, Below.row (by go_grown) (Nat.le_refl _) _⟩
set_option maxRecDepth 100000 in
set_option maxHeartbeats 4000000 in
theorem SymbolOf_ok (A : Option Addr) (c : Nat) (x : List Nm) (n s : Int) (w : World) (hs : Sl w A (nvs x)) (hc : x.length ≤ c) (hE : syE x n = 0) :
    Calls Try.prog 80 #[.slice A x.length c, .int .i64 n, .int .i64 s] w fun e w' => e = .returned (syOut x n s) ∧ Below w.heap.size w w' := by
  obtain ⟨hE1, hE2⟩ := syE_ok hE
  obtain ⟨hn0, hn7⟩ := gE_ok hE2
  have hl : x.length ≤ 120 := by
    unfold smpE at hE1
    split at hE1
    · exact absurd hE1 (by decide)
    · omega
  have HSM := hide (fun W (h : Sl W A (nvs x)) => by have := samplesErr_wave A c x W h (by omega); rw [hE1] at this; exact this)
  have HGE := hide (show unlessE (withinB n 0 7) 2 = 0 from hE2)
  have hq4 : firstOf [0, 0] = 0 := by decide
  have HS := hide hs
  have hbad := syOut_bad (x := x) (n := n) (s := s)
  have hgood := syOut_good (x := x) (n := n) (s := s)
  have hle := symOk_le (len := x.length) (n := n) (s := s) hn0
  have hok : symOk x.length n s = withinB s 0 ((x.length : Int).tdiv (8 + n) - 1) := rfl
  have hq0 : 0 ≤ (x.length : Int).tdiv (8 + n) := Int.tdiv_nonneg (by omega) (by omega)
  have hq1 : (x.length : Int).tdiv (8 + n) ≤ 120 := by
    rw [Int.tdiv_eq_ediv_of_nonneg (by omega)]
    exact Int.le_trans (Int.ediv_le_self _ (by omega)) (by omega)
  obtain ⟨Y, hY⟩ : ∃ Y, syOut x n s = Y := ⟨_, rfl⟩
  rw [hY] at hbad hgood ⊢
  obtain ⟨p, hp⟩ : ∃ p, 8 + n = p := ⟨_, rfl⟩
  rw [hp] at hgood hle hok hq0 hq1
  obtain ⟨q, hq⟩ : ∃ q, (x.length : Int).tdiv p = q := ⟨_, rfl⟩
  rw [hq] at hok hq0 hq1
  have hp8 : 8 ≤ p := by omega
  have hp15 : p ≤ 15 := by omega
  have hpne : p ≠ 0 := by omega
  have hpw : IntKind.i64.wrap (8 + n) = p := by rw [hp]; exact IntWalk.i64_in _ (by omega)
  have hqw : IntKind.i64.wrap q = q := IntWalk.i64_in _ (by omega)
  have hqw1 : IntKind.i64.wrap (q - 1) = q - 1 := IntWalk.i64_in _ (by omega)
  obtain ⟨v, hv⟩ : ∃ v, symOk x.length n s = v := ⟨_, rfl⟩
  rw [hv] at hbad hgood hle hok
  have HW := hide hok.symm
  clear hok hv hs hp hE hE1 hE2
  cases v
  · have HY := hide (hbad rfl)
    clear hbad hgood hle hq0 hq1 hY hc
    go_enter Try.func80, Try.ntmps80
    go_wp2_with (first
      | (go_at_call 108; go_must (refine (HSM.out _ (HS.out.bel (by go_grown))).mono ?_; rintro e w1 ⟨rfl, hb1⟩; have z1 := hb1.size; simp at z1; have HB := hide ((Blk.new w 96 (numArr [] 8)).below hb1 (by simp)); have b1 := Below.step (show Below w.heap.size w _ by go_grown) hb1; clear hb1; simp only []))
      | (go_at_call 157; refine (guardErr_wave _ _).mono ?_; rintro e w' ⟨rfl, rfl⟩; rw [HGE.out]; simp only [])
      | (go_at_call 107; go_must (refine (first2 _ _ _ _ (by simp)).mono ?_; rintro e w' ⟨rfl, rfl⟩; rw [hq4]; simp only []))
      | (go_at_call 142; go_must (refine (within_wave _ _ _ _).mono ?_; rintro e w1 ⟨rfl, rfl⟩; rw [HW.out]; simp only []))
      | (refine wpList_store_row rfl 96 (.tmp 6) (.tmp 31) rfl w.heap.size (numArr [] 8) rfl rfl 96 (numArr [] 8) (by exact HB.out.alloc _) (by kernel_rfl) (by kernel_rfl) (numArr_one _ _) ?_))
    exact bodyPost_ret (results_row_tmp2 rfl _ _ w.heap.size 96 (numArr [] 8) _ (.int .i64 6) rfl rfl (by exact (HB.out.alloc _).row (numArr [] 8)) Try.underlying96 rfl (by kernel_rfl)) rfl ⟨by rw [HY.out], Below.row (by go_grown) (Nat.le_refl _) _⟩
  · have HY := hide (hgood rfl)
    obtain ⟨hs0, hle1, hm0⟩ := hle rfl
    clear hbad hgood hle hq0 hq1 hY
    obtain ⟨m, hm⟩ : ∃ m, s * p = m := ⟨_, rfl⟩
    rw [hm] at hle1 hm0 HY
    have hmw : IntKind.i64.wrap (s * p) = m := by rw [hm]; exact IntWalk.i64_in _ (by omega)
    obtain ⟨t, ht⟩ : ∃ t : Nat, m + n = (t : Int) := ⟨(m + n).toNat, by omega⟩
    have htw : IntKind.i64.wrap (m + n) = (t : Int) := by rw [ht]; exact IntWalk.i64_in _ (by omega)
    rw [ht] at HY hle1
    have ht8 : t + 8 ≤ x.length := by omega
    have htw8 : IntKind.i64.wrap ((t : Int) + 8) = (t : Int) + 8 := IntWalk.i64_in _ (by omega)
    obtain ⟨b, off, rfl, -⟩ := HS.out.at4 (k := t) (by omega)
    have hslc := slice_sym b off x.length c t (by omega)
    have HXL := hide (symX_len ht8)
    obtain ⟨Z, hZ⟩ : ∃ Z, nvs (symX x t) = Z := ⟨_, rfl⟩
    have HLZ := hide (show Z.length = 32 by rw [← hZ, nvs_len, HXL.out])
    have HON := hide (show Z.toArray.all (·.oneCell') = true by rw [← hZ, ← numArr_full _ 8 HXL.out]; exact numArr_one _ _)
    have HZ := hide (fun W (h : Below w.heap.size w W) => by have := ((HS.out.bel h).sym (t := t)).cells; rw [hZ] at this; exact this)
    have HF := hide (show Y = .tuple #[.agg Z.toArray, .int .i64 0] by rw [HY.out, ← hZ]; rfl)
    have harr := hide (fun (W : World) (p : Addr) (c : Nat) => run_arrayAt (P := Try.prog) (len := 8) (c := c) p Try.underlying96 (Nat.le_refl _) W)
    have har := fun (W : World) (p : Addr) (c : Nat) => harr.out W p c
    clear hm ht hle1 HY hZ HXL hs0 ht8 hc harr
    go_enter Try.func80, Try.ntmps80
    go_wp2_with (first
      | (go_at_call 108; go_must (refine (HSM.out _ (HS.out.bel (by go_grown))).mono ?_; rintro e w1 ⟨rfl, hb1⟩; have z1 := hb1.size; simp at z1; have HB := hide ((Blk.new w 96 (numArr [] 8)).below hb1 (by simp)); have b1 := Below.step (show Below w.heap.size w _ by go_grown) hb1; clear hb1; simp only []))
      | (go_at_call 157; refine (guardErr_wave _ _).mono ?_; rintro e w' ⟨rfl, rfl⟩; rw [HGE.out]; simp only [])
      | (go_at_call 107; go_must (refine (first2 _ _ _ _ (by simp)).mono ?_; rintro e w' ⟨rfl, rfl⟩; rw [hq4]; simp only []))
      | (go_at_call 142; go_must (refine (within_wave _ _ _ _).mono ?_; rintro e w1 ⟨rfl, rfl⟩; rw [HW.out]; simp only []))
      | (refine wpList_load_sl 96 (.tmp 42) rfl (by rfl) ⟨b, off + t * 4, none⟩ rfl Z _ (HZ.out _ (by go_grown)) Try.underlying96 rfl (by rw [HLZ.out]; kernel_rfl) ?_)
      | (refine wpList_store_row rfl 96 (.tmp 6) (.tmp 43) rfl w.heap.size Z.toArray rfl rfl 96 (numArr [] 8) (by exact HB.out.alloc _) (by rw [List.size_toArray, HLZ.out]; kernel_rfl) (by show _ = Z.length; rw [HLZ.out]; rfl) HON.out ?_))
    exact bodyPost_ret (results_row_tmp2 rfl _ _ w.heap.size 96 Z.toArray _ (.int .i64 0) rfl rfl (by exact (HB.out.alloc _).row Z.toArray) Try.underlying96 rfl (by rw [List.size_toArray, HLZ.out]; kernel_rfl)) rfl ⟨by rw [HF.out], Below.row (by go_grown) (Nat.le_refl _) _⟩
end Go.Proofs.Ythfmjohbokpceaa
