import Derived.Test.YthfmjohbokpceaaEstB
import Derived.Test.YthfmjohbokpceaaEstC
namespace Go.Proofs.Ythfmjohbokpceaa
open Go.RowKit Go.WideShapes Go.ChangeShapes

/-! interpolated values and bends: the errors (program) -/
def shE2 (l : List (Int × Int)) : Int := if l.length = 0 then 10 else if 40 < l.length then 8 else eachE entE l
def btE (l : List (Int × Int)) (st : Int) : Int := firstOf [shE2 l, unlessE (withinB st 1 20) 2]
def bnE (l : List (Int × Int)) : Int := if 800 < l.length then 8 else eachE entE l
theorem btE_ok {l : List (Int × Int)} {st : Int} (h : btE l st = 0) : 0 < l.length ∧ l.length ≤ 40 ∧ eachE entE l = 0 ∧ 1 ≤ st ∧ st ≤ 20 := by
  have h1 := firstOf_ok h (shE2 l) (by simp)
  have h2 := firstOf_ok h (unlessE (withinB st 1 20) 2) (by simp)
  unfold shE2 at h1
  have h3 : 1 ≤ st ∧ st ≤ 20 := by
    unfold unlessE at h2
    cases hf : withinB st 1 20
    · rw [hf] at h2; exact absurd h2 (by decide)
    · simpa [withinB] using hf
  by_cases hl : l.length = 0
  · rw [if_pos hl] at h1; exact absurd h1 (by decide)
  · rw [if_neg hl] at h1
    by_cases hl2 : 40 < l.length
    · rw [if_pos hl2] at h1; exact absurd h1 (by decide)
    · rw [if_neg hl2] at h1
      exact ⟨by omega, by omega, h1, h3.1, h3.2⟩
set_option maxRecDepth 100000 in
set_option maxHeartbeats 4000000 in
theorem Interpolated_err (A : Option Addr) (c : Nat) (l : List (Int × Int)) (st : Int) (w : World) (hs : Sl w A (gv l)) (hl : l.length ≤ 1000000) (h : btE l st ≠ 0) :
    Calls Try.prog 75 #[.slice A l.length c, .int .i64 st] w fun e w' => e = .returned (.tuple #[.slice none 0 0, .int .i64 (btE l st)]) ∧ Below w.heap.size w w' := by
  have hK := hide (enters Try.func141 (by kernel_rfl) rfl)
  have HS := hide (stay_sl hs)
  have HEA := hide (fun W (h : Sl W A (gv l)) => each_gauss 141 entE A c l W hK.out (fun z W => entryErr_wave z W) h hl)
  have hE : btE l st = firstOf [shE2 l, unlessE (withinB st 1 20) 2] := rfl
  clear hs
  by_cases h0 : l.length = 0
  · have e1 : shE2 l = 10 := if_pos h0
    rw [e1] at hE
    have HE := hide hE
    rw [hE] at h
    have hq : (firstOf [10, unlessE (withinB st 1 20) 2] != 0) = true := by rw [bne_iff_ne]; exact h
    have q1 : decide (0 < (l.length : Int)) = false := by rw [decide_eq_false_iff_not]; omega
    have q2 : decide ((l.length : Int) ≤ 40) = true := by rw [decide_eq_true_iff]; omega
    have q3 : decide (0 < l.length) = false := by rw [decide_eq_false_iff_not]; omega
    have HQ := hide h0
    rw [HE.out]
    clear h0 e1 hE h
    go_enter Try.func75, Try.ntmps75
    go_wp2_with (first
      | (go_at_call 115; refine (unless_any _ _ _).mono ?_; rintro e w' ⟨rfl, rfl⟩; simp only [])
      | (go_at_call 142; refine (within_wave _ _ _ _).mono ?_; rintro e w' ⟨rfl, rfl⟩; simp only [])
      | (go_at_call 107; refine (first2 _ _ _ _ (by simp)).mono ?_; rintro e w' ⟨rfl, rfl⟩; (try rw [show firstOf [unlessE false 10, unlessE true 8] = 10 from rfl]); simp only []))
    go_ret2
    exact ⟨rfl, by go_grown⟩
  · by_cases h1 : 40 < l.length
    · have e1 : shE2 l = 8 := by unfold shE2; rw [if_neg h0, if_pos h1]
      rw [e1] at hE
      have HE := hide hE
      rw [hE] at h
      have hq : (firstOf [8, unlessE (withinB st 1 20) 2] != 0) = true := by rw [bne_iff_ne]; exact h
      have q1 : decide (0 < (l.length : Int)) = true := by rw [decide_eq_true_iff]; omega
      have q2 : decide ((l.length : Int) ≤ 40) = false := by rw [decide_eq_false_iff_not]; omega
      have q3 : decide (0 < l.length) = true := by rw [decide_eq_true_iff]; omega
      rw [HE.out]
      clear h0 h1 e1 hE h
      go_enter Try.func75, Try.ntmps75
      go_wp2_with (first
        | (go_at_call 115; refine (unless_any _ _ _).mono ?_; rintro e w' ⟨rfl, rfl⟩; simp only [])
        | (go_at_call 142; refine (within_wave _ _ _ _).mono ?_; rintro e w' ⟨rfl, rfl⟩; simp only [])
        | (go_at_call 107; refine (first2 _ _ _ _ (by simp)).mono ?_; rintro e w' ⟨rfl, rfl⟩; (try rw [show firstOf [unlessE true 10, unlessE false 8] = 8 from rfl]); simp only []))
      go_ret2
      exact ⟨rfl, by go_grown⟩
    · have e1 : shE2 l = eachE entE l := by unfold shE2; rw [if_neg h0, if_neg h1]
      rw [e1] at hE
      have HE := hide hE
      rw [hE] at h
      obtain ⟨V, hV⟩ : ∃ V, eachE entE l = V := ⟨_, rfl⟩
      rw [hV] at h HE HEA
      have hq : (firstOf [V, unlessE (withinB st 1 20) 2] != 0) = true := by rw [bne_iff_ne]; exact h
      have q1 : decide (0 < (l.length : Int)) = true := by rw [decide_eq_true_iff]; omega
      have q2 : decide ((l.length : Int) ≤ 40) = true := by rw [decide_eq_true_iff]; omega
      have q3 : decide (0 < l.length) = true := by rw [decide_eq_true_iff]; omega
      rw [HE.out]
      clear h0 h1 e1 hE h hV
      go_enter Try.func75, Try.ntmps75
      go_wp2_with (first
        | (go_at_call 115; refine (unless_any _ _ _).mono ?_; rintro e w' ⟨rfl, rfl⟩; simp only [])
        | (go_at_call 142; refine (within_wave _ _ _ _).mono ?_; rintro e w' ⟨rfl, rfl⟩; simp only [])
        | (go_at_call 107; refine (first2 _ _ _ _ (by simp)).mono ?_; rintro e w' ⟨rfl, rfl⟩; (try rw [show firstOf [unlessE true 10, unlessE true 8] = 0 from rfl]); simp only [])
        | (go_at_call 140; go_must (refine (HEA.out _ (HS.out.alloc _).now).mono ?_; rintro e w1 ⟨rfl, hb⟩; have HB1 := hide (Below.step (show Below w.heap.size w (w.alloc _) from (Below.refl _ _).alloc (Nat.le_refl _) _) hb); clear hb; simp only [])))
      go_ret2
      exact ⟨rfl, HB1.out.alloc HB1.out.size _⟩
set_option maxRecDepth 100000 in
set_option maxHeartbeats 4000000 in
theorem BendOf_err (A : Option Addr) (c : Nat) (l : List (Int × Int)) (w : World) (hs : Sl w A (gv l)) (hl : l.length ≤ 1000000) (h : bnE l ≠ 0) :
    Calls Try.prog 76 #[.slice A l.length c] w fun e w' => e = .returned (.tuple #[.int .i64 0, .int .i64 (bnE l)]) ∧ Below w.heap.size w w' := by
  have hK := hide (enters Try.func141 (by kernel_rfl) rfl)
  have HS := hide (stay_sl hs)
  have HEA := hide (fun W (h : Sl W A (gv l)) => each_gauss 141 entE A c l W hK.out (fun z W => entryErr_wave z W) h hl)
  clear hs
  by_cases h0 : 800 < l.length
  · have e1 : bnE l = 8 := if_pos h0
    rw [e1]
    clear e1 h
    go_enter Try.func76, Try.ntmps76
    go_wp2
    go_ret2
    exact ⟨rfl, Below.refl _ _⟩
  · have e1 : bnE l = eachE entE l := if_neg h0
    rw [e1] at h ⊢
    obtain ⟨V, hV⟩ : ∃ V, eachE entE l = V := ⟨_, rfl⟩
    rw [hV] at h HEA ⊢
    have hq : (V != 0) = true := by rw [bne_iff_ne]; exact h
    have hl2 : l.length ≤ 800 := by omega
    clear hV e1 h h0
    go_enter Try.func76, Try.ntmps76
    go_wp2_with (first
      | (go_at_call 140; go_must (refine (HEA.out _ HS.out.now).mono ?_; rintro e w1 ⟨rfl, hb⟩; simp only [])))
    go_ret2
    exact ⟨rfl, hb⟩
end Go.Proofs.Ythfmjohbokpceaa
