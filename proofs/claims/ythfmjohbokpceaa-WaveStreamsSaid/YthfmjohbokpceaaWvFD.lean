import Derived.Test.YthfmjohbokpceaaWvFC
import Derived.Test.YthfmjohbokpceaaWvH
import Derived.Test.YthfmjohbokpceaaWvEB
import Derived.Test.YthfmjohbokpceaaStay
namespace Go.Proofs.Ythfmjohbokpceaa
open Go.RowKit Go.WideShapes Go.ChangeShapes

/-! the stream of symbols (program) -/
theorem concat_num3 (A B D : Option Addr) (n m r ca cb cd : Nat) (xs ys zs : List Value) (w : World) (h1 : Reads w w.heap.size 4 A n xs) (h2 : Reads w w.heap.size 4 B m ys) (h3 : Reads w w.heap.size 4 D r zs)
    (o1 : ∀ u ∈ xs, u.oneCell' = true) (o2 : ∀ u ∈ ys, u.oneCell' = true) (o3 : ∀ u ∈ zs, u.oneCell' = true) (hl : n + m + r ≤ 1000000) (g : Nat) (hg : w.heap.size = g) :
    Calls Try.prog 136 #[.slice (some ⟨g, 0, none⟩) 3 3] (w.alloc (.cells #[.slice A n ca, .slice B m cb, .slice D r cd] 36)) fun e w' => ∃ C k, e = .returned (.slice C (n + m + r) k) ∧ w'.ownsRow w.heap.size 38 4 (.slice C (n + m + r) k) (n + m + r) (xs ++ ys ++ zs) ∧ Below w.heap.size w w' := by
  subst hg
  have hs : Sl (w.alloc (.cells #[.slice A n ca, .slice B m cb, .slice D r cd] 36)) (some ⟨w.heap.size, 0, none⟩) [.slice A n ca, .slice B m cb, .slice D r cd] := Sl.new _ _ _ _ rfl
  have := concat_num (some ⟨w.heap.size, 0, none⟩) 3 3 [⟨A, n, ca, xs⟩, ⟨B, m, cb, ys⟩, ⟨D, r, cd, zs⟩] _ rfl hs (by
    intro p hp
    simp only [List.mem_cons, List.not_mem_nil, or_false] at hp
    rcases hp with rfl | rfl | rfl
    · exact ⟨(h1.alloc (Nat.le_refl _) _).more (by simp), o1⟩
    · exact ⟨(h2.alloc (Nat.le_refl _) _).more (by simp), o2⟩
    · exact ⟨(h3.alloc (Nat.le_refl _) _).more (by simp), o3⟩) (by simp [parN]; omega) (by omega)
  rw [show parN [⟨A, n, ca, xs⟩, ⟨B, m, cb, ys⟩, ⟨D, r, cd, zs⟩] = n + m + r by simp [parN]; omega, show parX [⟨A, n, ca, xs⟩, ⟨B, m, cb, ys⟩, ⟨D, r, cd, zs⟩] = xs ++ ys ++ zs by simp [parX]] at this
  refine this.mono ?_
  rintro e w' ⟨C, k, rfl, ho, hb⟩
  exact ⟨C, k, rfl, ho.weaken (by simp), Below.step (by go_grown) hb⟩
set_option maxRecDepth 100000 in
set_option maxHeartbeats 4000000 in
theorem Stream_err0 (A : Option Addr) (c : Nat) (l : List (List (Int × Int))) (n : Int) (w : World) (hs : Sl w A (svs l)) (h : l.length = 0) (hE : strE l n ≠ 0) :
    Calls Try.prog 78 #[.slice A l.length c, .int .i64 n] w fun e w' => e = .returned (.tuple #[.slice none 0 0, .int .i64 (strE l n)]) ∧ Below w.heap.size w w' := by
  have hK := hide (enters Try.func156 (by kernel_rfl) rfl)
  have HS := hide hs
  have HGE := hide (show unlessE (withinB n 0 7) 2 = gE n from rfl)
  have hq4 : firstOf [10, gE n] = strE l n := by unfold strE; rw [if_pos h]; rfl
  have hq3 : firstOf [unlessE false 10, unlessE true 8] = 10 := by decide
  have hq5 : ((10 : Int) == 0) = false := by decide
  have hx : (strE l n != 0) = true := by rw [bne_iff_ne]; exact hE
  obtain ⟨E, hEE⟩ : ∃ E, strE l n = E := ⟨_, rfl⟩
  rw [hEE] at hq4 hx ⊢
  clear hEE hE hs
  go_enter Try.func78, Try.ntmps78
  go_wp2_with (first
      | (go_at_call 115; refine (unless_any _ _ _).mono ?_; rintro e w' ⟨rfl, rfl⟩; simp only [])
      | (go_at_call 157; refine (guardErr_wave _ _).mono ?_; rintro e w' ⟨rfl, rfl⟩; have HG1 := hide trivial; rw [HGE.out]; simp only [])
      | (go_at_call 107; have qq := HG1; go_must (refine (first2 _ _ _ _ (by simp)).mono ?_; rintro e w' ⟨rfl, rfl⟩; rw [hq4]; simp only []))
      | (go_at_call 107; go_must (refine (first2 _ _ _ _ (by simp)).mono ?_; rintro e w' ⟨rfl, rfl⟩; rw [hq3]; simp only [])))
  go_ret2
  exact ⟨rfl, by go_grown⟩
set_option maxRecDepth 100000 in
set_option maxHeartbeats 4000000 in
theorem Stream_err6 (A : Option Addr) (c : Nat) (l : List (List (Int × Int))) (n : Int) (w : World) (hs : Sl w A (svs l)) (h : 6 < l.length) (hE : strE l n ≠ 0) :
    Calls Try.prog 78 #[.slice A l.length c, .int .i64 n] w fun e w' => e = .returned (.tuple #[.slice none 0 0, .int .i64 (strE l n)]) ∧ Below w.heap.size w w' := by
  have hK := hide (enters Try.func156 (by kernel_rfl) rfl)
  have HS := hide hs
  have HGE := hide (show unlessE (withinB n 0 7) 2 = gE n from rfl)
  have hq4 : firstOf [8, gE n] = strE l n := by unfold strE; rw [if_neg (by omega), if_pos h]; rfl
  have hq3 : firstOf [unlessE true 10, unlessE false 8] = 8 := by decide
  have d1 : decide (0 < l.length) = true := decide_eq_true (by omega)
  have d2 : decide ((l.length : Int) ≤ 6) = false := by rw [decide_eq_false_iff_not]; omega
  have hx : (strE l n != 0) = true := by rw [bne_iff_ne]; exact hE
  obtain ⟨E, hEE⟩ : ∃ E, strE l n = E := ⟨_, rfl⟩
  rw [hEE] at hq4 hx ⊢
  clear hEE hE hs
  go_enter Try.func78, Try.ntmps78
  go_wp2_with (first
      | (go_at_call 115; refine (unless_any _ _ _).mono ?_; rintro e w' ⟨rfl, rfl⟩; simp only [])
      | (go_at_call 157; refine (guardErr_wave _ _).mono ?_; rintro e w' ⟨rfl, rfl⟩; have HG1 := hide trivial; rw [HGE.out]; simp only [])
      | (go_at_call 107; have qq := HG1; go_must (refine (first2 _ _ _ _ (by simp)).mono ?_; rintro e w' ⟨rfl, rfl⟩; rw [hq4]; simp only []))
      | (go_at_call 107; go_must (refine (first2 _ _ _ _ (by simp)).mono ?_; rintro e w' ⟨rfl, rfl⟩; rw [hq3]; simp only [])))
  go_ret2
  exact ⟨rfl, by go_grown⟩
set_option maxRecDepth 100000 in
set_option maxHeartbeats 4000000 in
theorem Stream_errE (A : Option Addr) (c : Nat) (l : List (List (Int × Int))) (n : Int) (w : World) (h8 : ∀ s ∈ l, s.length = 8) (hs : Sl w A (svs l)) (h : 0 < l.length) (h6 : l.length ≤ 6) (hE : strE l n ≠ 0) :
    Calls Try.prog 78 #[.slice A l.length c, .int .i64 n] w fun e w' => e = .returned (.tuple #[.slice none 0 0, .int .i64 (strE l n)]) ∧ Below w.heap.size w w' := by
  have hK := hide (enters Try.func156 (by kernel_rfl) rfl)
  have HS := hide hs
  have HGE := hide (show unlessE (withinB n 0 7) 2 = gE n from rfl)
  have HEACH := hide (fun W (hc : Sl W A (svs l)) => each_sym 156 symE A c l W h8 hK.out (fun z W hz => symErr_wave z W hz) hc (by omega))
  have hq4 : firstOf [eachE symE l, gE n] = strE l n := by
    unfold strE
    rw [if_neg (by omega), if_neg (by omega)]
    unfold firstOf
    split
    · unfold firstOf; split
      · rename_i h; rw [h]; rfl
      · rfl
    · rfl
  have hq3 : firstOf [unlessE true 10, unlessE true 8] = 0 := by decide
  have d1 : decide (0 < l.length) = true := decide_eq_true h
  have d2 : decide ((l.length : Int) ≤ 6) = true := by rw [decide_eq_true_iff]; omega
  obtain ⟨V, hV⟩ : ∃ V, eachE symE l = V := ⟨_, rfl⟩
  rw [hV] at HEACH hq4
  clear hV
  have hx : (strE l n != 0) = true := by rw [bne_iff_ne]; exact hE
  obtain ⟨E, hEE⟩ : ∃ E, strE l n = E := ⟨_, rfl⟩
  rw [hEE] at hq4 hx ⊢
  clear hEE hE hs h8
  go_enter Try.func78, Try.ntmps78
  go_wp2_with (first
      | (go_at_call 115; refine (unless_any _ _ _).mono ?_; rintro e w' ⟨rfl, rfl⟩; simp only [])
      | (go_at_call 157; refine (guardErr_wave _ _).mono ?_; rintro e w' ⟨rfl, rfl⟩; have HG1 := hide trivial; rw [HGE.out]; simp only [])
      | (go_at_call 107; have qq := HG1; go_must (refine (first2 _ _ _ _ (by simp)).mono ?_; rintro e w' ⟨rfl, rfl⟩; rw [hq4]; simp only []))
      | (go_at_call 107; go_must (refine (first2 _ _ _ _ (by simp)).mono ?_; rintro e w' ⟨rfl, rfl⟩; rw [hq3]; simp only []))
      | (go_at_call 155; go_must (refine (HEACH.out _ (HS.out.bel (by go_grown))).mono ?_; rintro e w2 ⟨rfl, hb2⟩; have b2 : Below w.heap.size w w2 := Below.step (by go_grown) hb2; clear hb2; simp only [])))
  go_ret2
  exact ⟨rfl, (by have z2 := b2.size; go_grown)⟩
theorem Stream_err (A : Option Addr) (c : Nat) (l : List (List (Int × Int))) (n : Int) (w : World) (h8 : ∀ s ∈ l, s.length = 8) (hs : Sl w A (svs l)) (hE : strE l n ≠ 0) :
    Calls Try.prog 78 #[.slice A l.length c, .int .i64 n] w fun e w' => e = .returned (.tuple #[.slice none 0 0, .int .i64 (strE l n)]) ∧ Below w.heap.size w w' := by
  by_cases h : l.length = 0
  · exact Stream_err0 A c l n w hs h hE
  by_cases h6 : 6 < l.length
  · exact Stream_err6 A c l n w hs h6 hE
  · exact Stream_errE A c l n w h8 hs (by omega) (by omega) hE
set_option maxRecDepth 100000 in
set_option maxHeartbeats 4000000 in
theorem Stream_ok (A : Option Addr) (c : Nat) (l : List (List (Int × Int))) (n : Int) (d : Nat) (w : World) (h8 : ∀ s ∈ l, s.length = 8) (hs : Sl w A (svs l)) (hE : strE l n = 0) (hd : (8 : Int) - n = d) :
    Calls Try.prog 78 #[.slice A l.length c, .int .i64 n] w fun e w' => ∃ C k, e = .returned (.tuple #[.slice C (strL l d l.length).length k, .int .i64 0]) ∧ Sl w' C (nvs (strL l d l.length)) ∧ Below w.heap.size w w' := by
  have hK := hide (enters Try.func156 (by kernel_rfl) rfl)
  obtain ⟨h, h6, hen, hn0, hn7⟩ := strE_ok hE
  have HS := hide hs
  have HGE := hide (show unlessE (withinB n 0 7) 2 = gE n from rfl)
  have HEACH := hide (fun W (hc : Sl W A (svs l)) => each_sym 156 symE A c l W h8 hK.out (fun z W hz => symErr_wave z W hz) hc (by omega))
  have hq4 : firstOf [eachE symE l, gE n] = strE l n := by
    unfold strE
    rw [if_neg (by omega), if_neg (by omega)]
    unfold firstOf
    split
    · unfold firstOf; split
      · rename_i h; rw [h]; rfl
      · rfl
    · rfl
  have hq3 : firstOf [unlessE true 10, unlessE true 8] = 0 := by decide
  have d1 : decide (0 < l.length) = true := decide_eq_true h
  have d2 : decide ((l.length : Int) ≤ 6) = true := by rw [decide_eq_true_iff]; omega
  obtain ⟨V, hV⟩ : ∃ V, eachE symE l = V := ⟨_, rfl⟩
  rw [hV] at HEACH hq4
  clear hV
  have hd8 : d ≤ 8 := by omega
  have hsl := slice_wn8
  have hslo := slice_wn8_lo d hd8
  have hg : IntKind.i64.wrap (8 - n) = (d : Int) := by rw [hd]; exact IntWalk.i64_in _ (by omega)
  have H8 := hide h8
  have HEN := hide hen
  have HLEN := hide (strL_len l d)
  have HST := hide (show ∀ k, strL l d (k + 1) = strL l d k ++ (smpL (ks l k) 8).drop d ++ smpL (ks l k) 8 from fun _ => rfl)
  have H0 := hide (show strL l d 0 = [] from rfl)
  rw [hE] at hq4
  clear hs h8 hen hd hE hK
  go_enter Try.func78, Try.ntmps78
  go_wp2_with (first
      | (go_at_call 115; refine (unless_any _ _ _).mono ?_; rintro e w' ⟨rfl, rfl⟩; simp only [])
      | (go_at_call 157; refine (guardErr_wave _ _).mono ?_; rintro e w' ⟨rfl, rfl⟩; have HG1 := hide trivial; rw [HGE.out]; simp only [])
      | (go_at_call 107; have qq := HG1; go_must (refine (first2 _ _ _ _ (by simp)).mono ?_; rintro e w' ⟨rfl, rfl⟩; rw [hq4]; simp only []))
      | (go_at_call 107; go_must (refine (first2 _ _ _ _ (by simp)).mono ?_; rintro e w' ⟨rfl, rfl⟩; rw [hq3]; simp only []))
      | (go_at_call 155; go_must (refine (HEACH.out _ (HS.out.bel (by go_grown))).mono ?_; rintro e w2 ⟨rfl, hb2⟩; have b2 : Below w.heap.size w w2 := Below.step (by go_grown) hb2; clear hb2; simp only [])))
  clear hq3 hq4 d1 d2 HEACH HGE HG1
  have z2 := b2.size
  go_loopw [7, 35] (fun o i wr => ∃ (k : Nat) (C : Option Addr) (c1 : Nat), k ≤ l.length ∧ i = .int .i64 k ∧ o = .slice C (strL l d k).length c1 ∧ (Reads wr wr.heap.size 4 C (strL l d k).length (nvs (strL l d k)) ∧ Sl wr C (nvs (strL l d k))) ∧ Below w.heap.size w wr) (fun _ i _ => l.length - (intOf i).toNat)
  case atStart => exact ⟨0, none, 0, Nat.zero_le _, rfl, by rw [H0.out]; rfl, by rw [H0.out]; exact ⟨Reads.none_, fun j hj => absurd hj (by simp [nvs])⟩, (by go_grown)⟩
  case round =>
    clear b2 z2
    obtain ⟨k, C, c1, hk, rfl, rfl, hrow, hbel⟩ := hrel
    have hbz := hbel.size
    by_cases hlt : k < l.length
    · obtain ⟨b, off, rfl, hsk⟩ := (HS.out.bel hbel).at16 H8.out hlt
      have hz8 := H8.out l[k] (List.getElem_mem hlt)
      have HSM := hide (fun W => samples_wave l[k] W hz8 (HEN.out l[k] (List.getElem_mem hlt)))
      have hst := HST.out k
      rw [show ks l k = l[k] by unfold ks; rw [List.getElem?_eq_getElem hlt]; rfl] at hst
      have hTl := HLEN.out k
      have hVl := smpL_len l[k] 8
      obtain ⟨V, hV⟩ : ∃ V, smpL l[k] 8 = V := ⟨_, rfl⟩
      obtain ⟨T, hT⟩ : ∃ T, strL l d k = T := ⟨_, rfl⟩
      rw [hV] at HSM hst hVl
      rw [hT] at hst hrow hTl ⊢
      obtain ⟨Z, hZ⟩ : ∃ Z, gv l[k] = Z := ⟨_, rfl⟩
      rw [hZ] at HSM hsk
      have HLZ := hide (show Z.length = 16 by rw [← hZ, gv_len, hz8])
      have HONZ := hide (show Z.toArray.all (·.oneCell') = true by rw [← hZ, ← garr_full _ 8 hz8]; exact garr_one _ _)
      have HVZ := hide (show (nvs V).toArray.size = 32 by simp [nvs_len, hVl])
      have HON := hide (show (nvs V).toArray.all (·.oneCell') = true by rw [← numArr_full _ 8 hVl]; exact numArr_one _ _)
      have HC := hide hsk.cells
      have HROW := hide hrow
      have HRC := hide (fun W g (h : Blk W g 96 (nvs V).toArray) => reads_cut h hVl d hd8)
      have HRA := hide (fun W g (h : Blk W g 96 (nvs V).toArray) => show Reads W W.heap.size 4 (some ⟨g, 0, none⟩) 8 (nvs V) by have := h.sl.reads4 (l := V); rw [hVl] at this; exact this)
      have hT96 : T.length ≤ 96 := by omega
      have HL1 := hide (show (strL l d (k + 1)).length = T.length + (8 - d) + 8 by rw [hst]; simp [hVl]; omega)
      have HX1 := hide (show nvs (strL l d (k + 1)) = nvs T ++ nvs (V.drop d) ++ nvs V by rw [hst, nvs_append, nvs_append])
      clear hZ hz8 hsk hV hT hTl hVl hst hrow HST HLEN
      go_wp2_with (first
        | (refine wpList_load_sl 137 (.tmp 37) rfl (by rfl) ⟨b, off + k * 16, none⟩ rfl Z _ HC.out Try.underlying137 rfl (by rw [HLZ.out]; kernel_rfl) ?_)
        | (refine wpList_store_row rfl 137 (.tmp 9) (.tmp 38) rfl wr.heap.size Z.toArray rfl rfl 137 (garr [] 8) (Blk.new wr _ _) (by rw [List.size_toArray, HLZ.out]; kernel_rfl) (by show _ = Z.length; rw [HLZ.out]; rfl) HONZ.out ?_
           have hz2 : Below wr.heap.size wr ((wr.alloc (.cells (garr [] 8) 137)).setRow wr.heap.size Z.toArray) := Below.row ((Below.refl _ _).alloc (Nat.le_refl _) _) (Nat.le_refl _) _
           have HBZ := hide ((Blk.new wr 137 (garr [] 8)).row Z.toArray))
        | (refine wpList_load_row rfl 137 (.tmp 9) rfl wr.heap.size rfl 137 Z.toArray (0, 0) _ HBZ.out Try.underlying137 rfl (by rw [List.size_toArray, HLZ.out]; kernel_rfl) ?_)
        | (go_at_call 158; go_must (refine (HSM.out _).mono ?_; rintro e w1 ⟨rfl, hb1⟩; have hb2 := Below.step hz2 hb1; clear hb1 hz2; simp only []))
        | (refine wpList_store_row rfl 96 (.tmp 10) (.tmp 40) rfl w1.heap.size (nvs V).toArray rfl rfl 96 (numArr [] 8) (Blk.new w1 _ _) (by rw [HVZ.out]; kernel_rfl) (by rw [HVZ.out]; rfl) HON.out ?_
           have hb3 : Below wr.heap.size wr ((w1.alloc (.cells (numArr [] 8) 96)).setRow w1.heap.size (nvs V).toArray) := Below.row (hb2.alloc hb2.size _) hb2.size _
           have HB := hide ((Blk.new w1 96 (numArr [] 8)).row (nvs V).toArray)))
      obtain ⟨w4, hw4⟩ : ∃ w4, (w1.alloc (.cells (numArr [] 8) 96)).setRow w1.heap.size (nvs V).toArray = w4 := ⟨_, rfl⟩
      rw [hw4] at hb3 HB
      rw [show (w1.alloc (.cells #[.int .i64 0, .int .i64 0, .int .i64 0, .int .i64 0, .int .i64 0, .int .i64 0, .int .i64 0, .int .i64 0, .int .i64 0, .int .i64 0, .int .i64 0, .int .i64 0, .int .i64 0, .int .i64 0, .int .i64 0, .int .i64 0, .int .i64 0, .int .i64 0, .int .i64 0, .int .i64 0, .int .i64 0, .int .i64 0, .int .i64 0, .int .i64 0, .int .i64 0, .int .i64 0, .int .i64 0, .int .i64 0, .int .i64 0, .int .i64 0, .int .i64 0, .int .i64 0] 96)).setRow w1.heap.size (nvs V).toArray = w4 from hw4]
      have b4 := Below.step hbel hb3
      have HR0 := hide ((HROW.out.1.below hb3).more hb3.size)
      have HR1 := hide (HRC.out _ _ HB.out)
      have HR2 := hide (HRA.out _ _ HB.out)
      have HCON := hide (fun g hg => concat_num3 C (cutA d ⟨w1.heap.size, 0, none⟩) (some ⟨w1.heap.size, 0, none⟩) T.length (8 - d) 8 c1 (8 - d) 8 (nvs T) (nvs (V.drop d)) (nvs V) w4.drew HR0.out HR1.out HR2.out (nvs_one _) (nvs_one _) (nvs_one _) (by omega) g hg)
      clear hw4 hb3 hb2 HB HRC HRA HR0 HR1 HR2
      refine wp_region_held_drew (S := fun _ => True) (by kernel_rfl) trivial (fun hHeld => ?_)
      refine take_at (i := 0) 41 (v := .slice C T.length c1) rfl rfl (by kernel_rfl) (by kernel_rfl) (by kernel_rfl) (fun _ _ _ h => h) (Or.inl ⟨by rfl, by intro w hSw; go_simp⟩) (by assumption) ?_
      try simp only [Act.put, List.setIfInBounds_toArray, List.set_cons_zero, List.set_cons_succ]
      refine take_at (i := 1) 42 (v := .int .i64 n) rfl rfl (by kernel_rfl) (by kernel_rfl) (by kernel_rfl) (fun _ _ _ h => h) (Or.inl ⟨by rfl, by intro w hSw; go_simp⟩) (by assumption) ?_
      try simp only [Act.put, List.setIfInBounds_toArray, List.set_cons_zero, List.set_cons_succ]
      refine take_at (i := 2) 43 (v := .int .i64 (d : Int)) rfl rfl (by kernel_rfl) (by kernel_rfl) (by kernel_rfl) (fun _ _ _ h => h) (Or.inl ⟨by rfl, by intro w hSw; go_simp⟩) (by assumption) ?_
      try simp only [Act.put, List.setIfInBounds_toArray, List.set_cons_zero, List.set_cons_succ]
      refine take_at (i := 3) 44 (v := .slice (cutA d ⟨w1.heap.size, 0, none⟩) (8 - d) (8 - d)) rfl rfl (by kernel_rfl) (by kernel_rfl) (by kernel_rfl) (fun _ _ _ h => h) (Or.inl ⟨by rfl, by intro w hSw; go_simp⟩) (by assumption) ?_
      try simp only [Act.put, List.setIfInBounds_toArray, List.set_cons_zero, List.set_cons_succ]
      refine take_at (i := 4) 45 (v := .slice (some ⟨w1.heap.size, 0, none⟩) 8 8) rfl rfl (by kernel_rfl) (by kernel_rfl) (by kernel_rfl) (fun _ _ _ h => h) (Or.inl ⟨by rfl, by intro w hSw; go_simp⟩) (by assumption) ?_
      try simp only [Act.put, List.setIfInBounds_toArray, List.set_cons_zero, List.set_cons_succ]
      refine wpAnyH_ready (rs := [5]) (by kernel_rfl) (by simp) ?_
      refine AllReadyH.cons rfl (fun K hK => ?_) AllReadyH.nil
      go_simp
      refine hK.out _ _ trivial (fun hHeld => ?_)
      clear hK K
      try simp only [Act.put, List.setIfInBounds_toArray, List.set_cons_zero, List.set_cons_succ]
      refine wpAnyH_ready (rs := [6]) (by kernel_rfl) (by simp) ?_
      refine AllReadyH.cons rfl (fun K hK => ?_) AllReadyH.nil
      go_simp
      refine (HCON.out _ (by rfl)).mono ?_
      rintro e w5 ⟨C3, c3, rfl, ho, hb5⟩
      have b5 := Below.step (below_drew b4) hb5
      have HRO := hide (And.intro (Reads.of_own ho) (Sl.of_ownN ho))
      clear ho hb5
      simp only []
      refine hK.out _ _ trivial (fun hHeld => ?_)
      clear hK K
      try simp only [Act.put, List.setIfInBounds_toArray, List.set_cons_zero, List.set_cons_succ]
      refine wpAnyH_ready (rs := [7]) (by kernel_rfl) (by simp) ?_
      refine AllReadyH.cons rfl (fun K hK => ?_) AllReadyH.nil
      go_simp
      refine hK.out _ _ trivial (fun hHeld => ?_)
      clear hK K
      try simp only [Act.put, List.setIfInBounds_toArray, List.set_cons_zero, List.set_cons_succ]
      refine wpAnyH_done (by kernel_rfl) ?_ _
      go_wp2
      go_roundw
      case rel => exact ⟨k + 1, C3, c3, by omega, by go_num, by rw [HL1.out], by rw [HL1.out, HX1.out]; exact HRO.out, b5⟩
      case measure => simp [intOf]; omega
    · obtain rfl : k = l.length := by omega
      have HROW := hide hrow
      clear hrow
      go_wp2
      go_ret2
      exact ⟨C, c1, rfl, HROW.out.2, hbel⟩
end Go.Proofs.Ythfmjohbokpceaa
