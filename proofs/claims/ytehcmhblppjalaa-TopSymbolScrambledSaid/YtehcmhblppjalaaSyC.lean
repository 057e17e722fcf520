import Derived.Test.YtehcmhblppjalaaSyB
import Derived.StillTail
namespace Go.Proofs.Ytehcmhblppjalaa
open Go.RowKit Go.WideShapes Go.ChangeShapes

/-! bits; the reference's errors of bits and of a register -/
def bitB (x : Int) : Bool := decide (x = 0) || decide (x = 1)
theorem all_skip (p : Int → Bool) (l : List Int) (k : Nat) (hk : k < l.length) (h : p l[k] = true) : (l.drop k).all p = (l.drop (k + 1)).all p := by
  rw [List.drop_eq_getElem_cons hk, List.all_cons, h, Bool.true_and]
theorem all_hit (p : Int → Bool) (l : List Int) (k : Nat) (hk : k < l.length) (h : p l[k] = false) : (l.drop k).all p = false := by
  rw [List.drop_eq_getElem_cons hk, List.all_cons, h, Bool.false_and]
theorem areBits_ref (A : Option Addr) (c : Nat) (l : List Int) (w : World) (hs : Sl w A (iv l)) (hl : l.length ≤ 1000000) :
    Calls Try.prog 17 #[.slice A l.length c] w fun e w' => e = .returned (.bool (l.all bitB)) ∧ w = w' := by
  have HS := hide hs; clear hs
  go_enter Try.func17, Try.ntmps17
  go_wp2
  go_loop [3] (fun i => ∃ k : Nat, k ≤ l.length ∧ i = .int .i64 k ∧ l.all bitB = (l.drop k).all bitB) (fun i => l.length - (intOf i).toNat)
  case atStart => exact ⟨0, Nat.zero_le _, rfl, by simp⟩
  case round =>
    obtain ⟨k, hk, rfl, he⟩ := hrel
    have HE := hide he; clear he
    by_cases hlt : k < l.length
    · obtain ⟨b, off, rfl, hc⟩ := HS.out.int hlt
      have hsk := all_skip bitB l k hlt
      have hht := all_hit bitB l k hlt
      obtain ⟨x, hx⟩ : ∃ x, l[k] = x := ⟨_, rfl⟩
      rw [hx] at hc hsk hht
      have HSK := hide hsk
      have HHT := hide hht
      clear hx hsk hht
      by_cases h0 : x = 0
      · have q0 : (x != 0) = false := by simp [h0]
        have HN := hide (HSK.out (by simp [bitB, h0]))
        clear h0 HSK HHT
        go_wp2
        go_round
        case rel => exact ⟨k + 1, by omega, by go_num, by rw [HE.out, HN.out]⟩
        case measure => simp [intOf]; omega
      · have q0 : (x != 0) = true := by simp [h0]
        by_cases h1 : x = 1
        · have q1 : (x != 1) = false := by simp [h1]
          have HN := hide (HSK.out (by simp [bitB, h1]))
          clear h0 h1 HSK HHT
          go_wp2
          go_round
          case rel => exact ⟨k + 1, by omega, by go_num, by rw [HE.out, HN.out]⟩
          case measure => simp [intOf]; omega
        · have q1 : (x != 1) = true := by simp [h1]
          have HN := hide (HHT.out (by simp [bitB, h0, h1]))
          clear h0 h1 HSK HHT
          go_wp2
          go_ret
          exact ⟨by rw [HE.out, HN.out]; rfl, rfl⟩
    · go_wp2
      go_ret
      exact ⟨by rw [HE.out, List.drop_eq_nil_of_le (by omega)]; rfl, rfl⟩
def btE (l : List Int) : Int := if l.length = 0 then 10 else if 400 < l.length then 8 else if l.all bitB = true then 0 else 15
theorem btE_ok {l : List Int} (h : btE l = 0) : 0 < l.length ∧ l.length ≤ 400 ∧ l.all bitB = true := by
  unfold btE at h
  by_cases h1 : l.length = 0
  · rw [if_pos h1] at h; exact absurd h (by decide)
  · rw [if_neg h1] at h
    by_cases h2 : 400 < l.length
    · rw [if_pos h2] at h; exact absurd h (by decide)
    · rw [if_neg h2] at h
      by_cases h3 : l.all bitB = true
      · exact ⟨by omega, by omega, h3⟩
      · rw [if_neg h3] at h; exact absurd h (by decide)
theorem bitsErr_ref (A : Option Addr) (c : Nat) (l : List Int) (w : World) (hs : Sl w A (iv l)) (hl : l.length ≤ 1000000) :
    Calls Try.prog 6 #[.slice A l.length c] w fun e w' => e = .returned (.int .i64 (btE l)) ∧ w = w' := by
  have HA := hide (areBits_ref A c l w hs hl)
  unfold btE
  clear hs
  by_cases h1 : l.length = 0
  · rw [if_pos h1]
    have q1 : ((l.length : Int) == 0) = true := by rw [h1]; rfl
    clear HA h1
    go_enter Try.func6, Try.ntmps6
    go_wp2
    go_ret
    exact ⟨rfl, rfl⟩
  rw [if_neg h1]
  have q1 : ((l.length : Int) == 0) = false := by rw [beq_eq_false_iff_ne]; omega
  by_cases h2 : 400 < l.length
  · rw [if_pos h2]
    clear HA h1
    go_enter Try.func6, Try.ntmps6
    go_wp2
    go_ret
    exact ⟨rfl, rfl⟩
  rw [if_neg h2]
  have q2 : decide (400 < (l.length : Int)) = false := by rw [decide_eq_false_iff_not]; omega
  clear h1
  cases h3 : l.all bitB
  all_goals
    rw [h3] at HA
    clear h3
    go_enter Try.func6, Try.ntmps6
    go_wp2_with (go_at_call 17; go_must (refine HA.out.mono ?_; rintro e w1 ⟨rfl, rfl⟩; simp only []))
    go_ret
    exact ⟨rfl, rfl⟩
/-- the error of taps behind a last one -/
def tapE (L : Int) : Int → List Int → Int
  | _, [] => 0
  | last, t :: r => if withinB t 0 (L - 1) = true then (if t ≤ last then 9 else tapE L t r) else 2
def rgE (L : Int) (T B : List Int) : Int :=
  if withinB L 2 10 = true then (if T.length = 0 then 10 else if tapE L (-1) T ≠ 0 then tapE L (-1) T else if T[0]?.getD 0 ≠ 0 then 3 else if (B.length : Int) ≠ L then 10 else if B.all bitB = true then 0 else 15) else 2
end Go.Proofs.Ytehcmhblppjalaa
