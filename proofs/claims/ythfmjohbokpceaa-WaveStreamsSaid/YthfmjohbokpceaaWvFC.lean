import Derived.Test.YthfmjohbokpceaaWvFB
import Derived.Test.YthfmjohbokpceaaWvEC
namespace Go.Proofs.Ythfmjohbokpceaa
open Go.RowKit Go.WideShapes Go.ChangeShapes

/-! the stream of symbols (reference) -/
def ks (l : List (List (Int × Int))) (k : Nat) : List (Int × Int) := (l[k]?).getD []
def strL (l : List (List (Int × Int))) (d : Nat) : Nat → List Nm
  | 0 => []
  | k + 1 => strL l d k ++ (smpL (ks l k) 8).drop d ++ smpL (ks l k) 8
theorem smpL_len (x : List (Int × Int)) (n : Nat) : (smpL x n).length = n := tab_len _ n
theorem strL_len (l : List (List (Int × Int))) (d : Nat) : ∀ k, (strL l d k).length ≤ k * 16
  | 0 => by simp [strL]
  | k + 1 => by
    have := strL_len l d k
    simp only [strL, List.length_append, List.length_drop, smpL_len]; omega
def cutA (d : Nat) (a : Addr) : Option Addr := if 8 = d then some a else (some a).map (·.add (d * 4))
theorem slice_wn8_lo (d : Nat) (hd : d ≤ 8) (w : World) (a : Addr) : (Instr.sliceAt 96 (.pointer (some a)) (some (.int .i64 (d : Int))) none none).run Try.prog w = .ok (.slice (cutA d a) (8 - d) (8 - d)) w := by
  have hA : Try.prog.arrayLen 96 = 8 := by kernel_rfl
  rw [run_sliceAt_array_l w _ a slice_wn8_u .i64 (d : Int) (by omega) (by rw [hA]; omega), hA, show Try.prog.elem 96 = 38 by kernel_rfl, size_wn]
  simp only [Result.andThen_ok, slicedAt, cutA, Int.toNat_natCast, Option.map_some]
  by_cases h : 8 = d <;> simp [h]
theorem reads_cut {W : World} {g : Nat} {t : TypeId} {X : List Nm} (h : Blk W g t (nvs X).toArray) (h8 : X.length = 8) (d : Nat) (hd : d ≤ 8) : Reads W W.heap.size 4 (cutA d ⟨g, 0, none⟩) (8 - d) (nvs (X.drop d)) := by
  have := (h.sl.reads4 (l := X)).cut (k := d) (cap := 8) (by omega) (by omega)
  rw [h8, nvs_drop] at this
  exact this
set_option maxRecDepth 100000 in
set_option maxHeartbeats 4000000 in
theorem stream_ref (A : Option Addr) (c : Nat) (l : List (List (Int × Int))) (n : Int) (d : Nat) (w : World) (h8 : ∀ s ∈ l, s.length = 8) (hs : Sl w A (svs l)) (hl : l.length ≤ 6) (hen : ∀ s ∈ l, ∀ z ∈ s, entE z = 0) (hn0 : 0 ≤ n) (hn7 : n ≤ 7) (hd : (8 : Int) - n = d) :
    Calls Try.prog 82 #[.slice A l.length c, .int .i64 n] w fun e w' => ∃ C k, e = .returned (.slice C (strL l d l.length).length k) ∧ Sl w' C (nvs (strL l d l.length)) ∧ Below w.heap.size w w' := by
  obtain ⟨i0, hi0, hz0, hz1, hz2⟩ := info_parts wn_info
  have hd8 : d ≤ 8 := by omega
  have hsl := slice_wn8
  have hslo := slice_wn8_lo d hd8
  have hg : IntKind.i64.wrap (8 - n) = (d : Int) := by rw [hd]; exact IntWalk.i64_in _ (by omega)
  have HS := hide hs
  have H8 := hide h8
  have HEN := hide hen
  have HLEN := hide (strL_len l d)
  have HST := hide (show ∀ k, strL l d (k + 1) = strL l d k ++ (smpL (ks l k) 8).drop d ++ smpL (ks l k) 8 from fun _ => rfl)
  have H0 := hide (show strL l d 0 = [] from rfl)
  clear hs h8 hen hd
  go_enter Try.func82, Try.ntmps82
  go_wp2
  go_loopw [5, 6] (fun o i wr => ∃ (k : Nat) (C : Option Addr) (c1 : Nat), k ≤ l.length ∧ i = .int .i64 k ∧ o = .slice C (strL l d k).length c1 ∧ wr.ownsRow w.heap.size 38 4 (.slice C (strL l d k).length c1) (strL l d k).length (nvs (strL l d k)) ∧ Below w.heap.size w wr) (fun _ i _ => l.length - (intOf i).toNat)
  case atStart => exact ⟨0, none, 0, Nat.zero_le _, rfl, by rw [H0.out]; rfl, by rw [H0.out]; exact World.ownsRow_nil _ _ _ _, Below.refl _ _⟩
  case round =>
    obtain ⟨k, C, c1, hk, rfl, rfl, hrow, hbel⟩ := hrel
    have hbz := hbel.size
    by_cases hlt : k < l.length
    · obtain ⟨b, off, rfl, hsk⟩ := (HS.out.bel hbel).at16 H8.out hlt
      have hz8 := H8.out l[k] (List.getElem_mem hlt)
      have HSM := hide (fun W => samples_ref l[k] W hz8 (HEN.out l[k] (List.getElem_mem hlt)))
      have hst := HST.out k
      rw [show ks l k = l[k] by unfold ks; rw [List.getElem?_eq_getElem hlt]; rfl] at hst
      have hTl := HLEN.out k
      have hVl := smpL_len l[k] 8
      obtain ⟨V, hV⟩ : ∃ V, smpL l[k] 8 = V := ⟨_, rfl⟩
      obtain ⟨T, hT⟩ : ∃ T, strL l d k = T := ⟨_, rfl⟩
      rw [hV] at HSM hst hVl
      rw [hT] at hst hrow hTl ⊢
      obtain ⟨Z, hZ⟩ : ∃ Z, gv l[k] = Z := ⟨_, rfl⟩
      rw [hZ] at HSM hsk
      have HLZ := hide (show Z.length = 16 by rw [← hZ, gv_len, hz8])
      have HVZ := hide (show (nvs V).toArray.size = 32 by simp [nvs_len, hVl])
      have HON := hide (show (nvs V).toArray.all (·.oneCell') = true by rw [← numArr_full _ 8 hVl]; exact numArr_one _ _)
      have HC := hide hsk.cells
      have HROW := hide hrow
      have HSTK := hide hst
      have HVL := hide hVl
      have HRC := hide (fun W g (h : Blk W g 96 (nvs V).toArray) => reads_cut h hVl d hd8)
      have HRA := hide (fun W g (h : Blk W g 96 (nvs V).toArray) => show Reads W W.heap.size 4 (some ⟨g, 0, none⟩) 8 (nvs V) by have := h.sl.reads4 (l := V); rw [hVl] at this; exact this)
      have hT96 : T.length ≤ 96 := by omega
      clear hZ hz8 hsk hV hT hTl hVl hst hrow HST HLEN
      go_wp2_with (first
        | (refine wpList_load_sl 137 (.tmp 16) rfl (by rfl) ⟨b, off + k * 16, none⟩ rfl Z _ HC.out Try.underlying137 rfl (by rw [HLZ.out]; kernel_rfl) ?_)
        | (go_at_call 91; go_must (refine (HSM.out _).mono ?_; rintro e w1 ⟨rfl, hb1⟩; simp only []))
        | (refine wpList_store_row rfl 96 (.tmp 7) (.tmp 18) rfl w1.heap.size (nvs V).toArray rfl rfl 96 (numArr [] 8) (Blk.new w1 _ _) (by rw [HVZ.out]; kernel_rfl) (by rw [HVZ.out]; rfl) HON.out ?_
           have hb2 : Below wr.heap.size wr ((w1.alloc (.cells (numArr [] 8) 96)).setRow w1.heap.size (nvs V).toArray) := Below.row (hb1.alloc hb1.size _) hb1.size _
           have HB := hide ((Blk.new w1 96 (numArr [] 8)).row (nvs V).toArray)
           have HRO := hide (own_bel HROW.out hb2)
           have b1 := Below.step hbel hb2
           have z1 : w.heap.size ≤ _ := b1.size
           have HR1 := hide (HRC.out _ _ HB.out)
           clear hb2 hb1)
        | (at_builtin
           refine wpList_append_any _ rfl (.tmp 19) (.tmp 22) _ rfl w.heap.size 38 i0 _ 4 32 Try.underlying36 hi0 hz0 hz1 hz2 rfl (by omega) _ T.length (nvs T) rfl
             HRO.out _ (cutA d ⟨w1.heap.size, 0, none⟩) (8 - d) (8 - d) (nvs (V.drop d)) rfl HR1.out (nvs_one _) (by simp only [maxLen]; omega) (by omega) z1 ?_
           intro v2 w2 hown2 hg2 hat2
           have HB2 := hide (HB.out.app' HRO.out hg2 (by decide))
           have b2 := Below.app' b1 HRO.out hg2
           have z2 := b2.size
           have HROW2 := hide hown2
           clear hown2 hg2 hat2)
        | (at_builtin
           refine wpList_append_any _ rfl (.tmp 24) (.tmp 25) _ rfl w.heap.size 38 i0 _ 4 32 Try.underlying36 hi0 hz0 hz1 hz2 rfl (by omega) _ (T.length + (8 - d)) (nvs T ++ nvs (V.drop d)) rfl
             HROW2.out _ (some ⟨w1.heap.size, 0, none⟩) 8 8 (nvs V) rfl (HRA.out _ _ HB2.out) (nvs_one _) (by simp only [maxLen]; omega) (by omega) z2 ?_
           intro v3 w3 hown3 hg3 hat3
           have b3 := Below.app' b2 HROW2.out hg3
           have HROW3 := hide hown3
           clear hown3 hg3 hat3))
      obtain ⟨C3, c3, rfl⟩ := own_form HROW3.out
      have HL1 := hide (show (strL l d (k + 1)).length = T.length + (8 - d) + 8 by rw [HSTK.out]; simp [HVL.out]; omega)
      have HX1 := hide (show nvs (strL l d (k + 1)) = nvs T ++ nvs (V.drop d) ++ nvs V by rw [HSTK.out, nvs_append, nvs_append])
      go_roundw
      case rel => exact ⟨k + 1, C3, c3, by omega, by go_num, by rw [HL1.out], by rw [HL1.out, HX1.out]; exact HROW3.out, b3⟩
      case measure => simp [intOf]; omega
    · obtain rfl : k = l.length := by omega
      have HROW := hide hrow
      clear hrow
      go_wp2
      go_ret
      exact ⟨C, c1, rfl, Sl.of_ownN HROW.out, hbel⟩
end Go.Proofs.Ythfmjohbokpceaa
