import Derived.Test.YthfmjohbokpceaaWvFA
namespace Go.Proofs.Ythfmjohbokpceaa
open Go.RowKit Go.WideShapes Go.ChangeShapes

/-! the errors of a stream -/
def gE (n : Int) : Int := unlessE (withinB n 0 7) 2
theorem gE_ok {n : Int} (h : gE n = 0) : 0 ≤ n ∧ n ≤ 7 := by
  unfold gE unlessE at h
  cases hw : withinB n 0 7
  · rw [hw] at h; exact absurd h (by decide)
  · unfold withinB at hw
    simpa using hw
theorem guardErr_ref (n : Int) (w : World) : Calls Try.prog 83 #[.int .i64 n] w fun e w' => e = .returned (.int .i64 (gE n)) ∧ w = w' := by
  unfold gE
  obtain ⟨v, hv⟩ : ∃ v, withinB n 0 7 = v := ⟨_, rfl⟩
  have HV := hide hv
  rw [hv]
  clear hv
  cases v <;>
  · go_enter Try.func83, Try.ntmps83
    go_wp2_with (go_at_call 24; go_must (refine (within_base _ _ _ _).mono ?_; rintro e w1 ⟨rfl, rfl⟩; rw [HV.out]; simp only []))
    go_ret
    exact ⟨rfl, rfl⟩
def symE (z : List (Int × Int)) : Int := eachE entE z
theorem symErr_wave (z : List (Int × Int)) (w : World) (hz : z.length = 8) : Calls Try.prog 156 #[.agg (gv z).toArray] w fun e w' => e = .returned (.int .i64 (symE z)) ∧ Below w.heap.size w w' := by
  have hK := hide (enters Try.func141 (by kernel_rfl) rfl)
  have hsl := slice_ga8
  have HE := hide (fun A W (h : Sl W A (gv z)) => by have := each_gauss 141 entE A 8 z W hK.out (fun z W => entryErr_wave z W) h (by omega); rw [hz] at this; exact this)
  obtain ⟨X, hX⟩ : ∃ X, (gv z).toArray = X := ⟨_, rfl⟩
  have HSL := hide (show ∀ W g, Blk W g 137 X → Sl W (some ⟨g, 0, none⟩) (gv z) from fun W g hb => by rw [← hX] at hb; exact hb.sl)
  unfold symE
  obtain ⟨E, hE⟩ : ∃ E, eachE entE z = E := ⟨_, rfl⟩
  rw [hE] at HE ⊢
  rw [hX]
  clear hX hE hK hz
  go_enter Try.func156, Try.ntmps156
  go_wp2_with (go_at_call 140; go_must (refine (HE.out _ _ (HSL.out _ _ (by exact Blk.new w 137 X))).mono ?_; rintro e w1 ⟨rfl, hb⟩; simp only []))
  go_ret
  exact ⟨rfl, Below.step (by go_grown) hb⟩
def strE (l : List (List (Int × Int))) (n : Int) : Int := if l.length = 0 then 10 else if 6 < l.length then 8 else if eachE symE l = 0 then gE n else eachE symE l
theorem strE_ok {l : List (List (Int × Int))} {n : Int} (h : strE l n = 0) : 0 < l.length ∧ l.length ≤ 6 ∧ (∀ s ∈ l, ∀ z ∈ s, entE z = 0) ∧ 0 ≤ n ∧ n ≤ 7 := by
  unfold strE at h
  split at h
  · exact absurd h (by decide)
  split at h
  · exact absurd h (by decide)
  split at h
  · rename_i h1 h2 h3
    have := gE_ok h
    exact ⟨by omega, by omega, fun s hs z hz => eachE_ok (eachE_ok h3 s hs) z hz, this⟩
  · contradiction
set_option maxRecDepth 100000 in
set_option maxHeartbeats 1000000 in
theorem streamErr_ref (A : Option Addr) (c : Nat) (l : List (List (Int × Int))) (n : Int) (w : World) (h8 : ∀ s ∈ l, s.length = 8) (hs : Sl w A (svs l)) :
    Calls Try.prog 81 #[.slice A l.length c, .int .i64 n] w fun x w' => x = .returned (.int .i64 (strE l n)) ∧ Below w.heap.size w w' := by
  have hsl := slice_ga8
  have HS := hide hs
  have H8 := hide h8
  clear hs h8
  by_cases h0 : l.length = 0
  · have HF := hide (show strE l n = 10 from if_pos h0)
    have hd : ((l.length : Int) == 0) = true := by rw [h0]; rfl
    go_enter Try.func81, Try.ntmps81
    go_wp2
    go_ret
    exact ⟨by rw [HF.out]; rfl, Below.refl _ _⟩
  have hd : ((l.length : Int) == 0) = false := by rw [beq_eq_false_iff_ne]; omega
  by_cases h6 : 6 < l.length
  · have HF := hide (show strE l n = 8 from (if_neg h0).trans (if_pos h6))
    go_enter Try.func81, Try.ntmps81
    go_wp2
    go_ret
    exact ⟨by rw [HF.out]; rfl, Below.refl _ _⟩
  have HF0 := hide (fun h => show strE l n = gE n from ((if_neg h0).trans (if_neg h6)).trans (if_pos h))
  have HF1 := hide (fun h => show strE l n = eachE symE l from ((if_neg h0).trans (if_neg h6)).trans (if_neg h))
  have h6' : l.length ≤ 6 := by omega
  clear h0 h6
  go_enter Try.func81, Try.ntmps81
  go_wp2
  go_loopw [5] (fun i wr => ∃ k : Nat, k ≤ l.length ∧ i = .int .i64 k ∧ eachE symE l = eachE symE (l.drop k) ∧ Below w.heap.size w wr) (fun i _ => l.length - (intOf i).toNat)
  case atStart => exact ⟨0, Nat.zero_le _, rfl, by simp, Below.refl _ _⟩
  case round =>
    obtain ⟨k, hk, rfl, he, hbel⟩ := hrel
    have HE := hide he
    clear he
    by_cases hlt : k < l.length
    · obtain ⟨b, off, rfl, hsk⟩ := (HS.out.bel hbel).at16 H8.out hlt
      have hz8 := H8.out l[k] (List.getElem_mem hlt)
      have HP2 := hide (by have := errGauss (some ⟨b, off + k * 16, none⟩) 8 l[k] wr hsk (by omega); rw [hz8] at this; exact this)
      have hskip := eachE_skip symE l k hlt
      have hhit := eachE_hit symE l k hlt
      obtain ⟨v, hv⟩ : ∃ v, symE l[k] = v := ⟨_, rfl⟩
      rw [show eachE entE l[k] = v from hv] at HP2
      rw [hv] at hskip hhit
      have HSK := hide hskip
      have HHI := hide hhit
      clear hv hz8 hsk hskip hhit
      have hbz := hbel.size
      by_cases hv0 : v = 0
      · subst hv0
        have HH := hide (HSK.out rfl)
        clear HSK HHI
        go_wp2_with (go_at_call 59; go_must (refine HP2.out.mono ?_; rintro e w1 ⟨rfl, hb1⟩; have b1 := Below.step hbel hb1; clear hb1; simp only []))
        go_roundw
        case rel => exact ⟨k + 1, by omega, by go_num, by rw [HE.out, HH.out], b1⟩
        case measure => simp [intOf]; omega
      · have HH := hide (HHI.out hv0)
        have HFF := hide (HF1.out (by rw [HE.out, HHI.out hv0]; exact hv0))
        have hx : (v != 0) = true := by rw [bne_iff_ne]; exact hv0
        clear HSK HHI hv0
        go_wp2_with (go_at_call 59; go_must (refine HP2.out.mono ?_; rintro e w1 ⟨rfl, hb1⟩; have b1 := Below.step hbel hb1; clear hb1; simp only []))
        go_ret
        exact ⟨by rw [HFF.out, HE.out, HH.out]; rfl, b1⟩
    · have HFF := hide (HF0.out (by rw [HE.out, List.drop_eq_nil_of_le (by omega)]; rfl))
      go_wp2_with (go_at_call 83; go_must (refine (guardErr_ref _ _).mono ?_; rintro e w1 ⟨rfl, rfl⟩; simp only []))
      go_ret
      exact ⟨by rw [HFF.out]; rfl, hbel⟩
end Go.Proofs.Ythfmjohbokpceaa
