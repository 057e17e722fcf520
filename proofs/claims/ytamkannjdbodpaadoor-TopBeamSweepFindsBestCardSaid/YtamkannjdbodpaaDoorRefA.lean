import Derived.Test.YtamkannjdbodpaaDoorBase
namespace Go.Proofs.YtamkannjdbodpaaDoor
open Go.RowKit Go.WideShapes Go.ChangeShapes

/-- the first index at which p is so, or -1 -/
def idxFrom (p : Int → Bool) : List Int → Int → Int
  | [], _ => -1
  | x :: r, k => if p x then k else idxFrom p r (k + 1)
theorem idx_hit (p : Int → Bool) (l : List Int) (k : Nat) (hk : k < l.length) (h0 : p l[k] = true) (i : Int) : idxFrom p (l.drop k) i = i := by
  rw [List.drop_eq_getElem_cons hk]; exact if_pos h0
theorem idx_skip (p : Int → Bool) (l : List Int) (k : Nat) (hk : k < l.length) (h0 : p l[k] = false) (i : Int) : idxFrom p (l.drop k) i = idxFrom p (l.drop (k+1)) (i+1) := by
  rw [List.drop_eq_getElem_cons hk]; exact if_neg (by simp [h0])

/-- how many antennas are on -/
def onC : List Int → Int
  | [] => 0
  | x :: r => (if x = -1 then 0 else 1) + onC r
theorem onC_off (l : List Int) (k : Nat) (hk : k < l.length) (h0 : l[k] = -1) : onC (l.drop k) = onC (l.drop (k+1)) := by
  rw [List.drop_eq_getElem_cons hk, onC, if_pos h0, Int.zero_add]
theorem onC_on (l : List Int) (k : Nat) (hk : k < l.length) (h0 : ¬ l[k] = -1) : onC (l.drop k) = 1 + onC (l.drop (k+1)) := by
  rw [List.drop_eq_getElem_cons hk, onC, if_neg h0]
theorem onC_bd (l : List Int) : 0 ≤ onC l ∧ onC l ≤ l.length := by
  induction l with
  | nil => simp [onC]
  | cons x r ih => simp only [onC, List.length_cons]; split <;> omega

def badPhase (x : Int) : Bool := !(withinB x (-1) 7)
def chk (l : List Int) : Int × Int :=
  if l.length = 0 then (0, 10) else if 8 < l.length then (0, 8) else
  if 0 ≤ idxFrom badPhase l 0 then (idxFrom badPhase l 0, 2) else if onC l = 0 then (0, 11) else (0, 0)

theorem on_ref (A : Option Addr) (c : Nat) (l : List Int) (w : World) (hs : Sl w A (iv l)) (hl : l.length ≤ 1000000) :
    Calls Tryd.prog 58 #[.agg #[.slice A l.length c]] w fun x w' => x = .returned (.int .i64 (onC l)) ∧ Below w.heap.size w w' := by
  have hb := onC_bd l
  have HS := hide (hs.alloc (.cells #[.slice A l.length c] 24)); clear hs
  go_enter Tryd.func58, Tryd.ntmps58
  go_wp2
  go_loop [3, 4] (fun n i => ∃ (k : Nat) (m : Int), k ≤ l.length ∧ i = .int .i64 k ∧ n = .int .i64 m ∧ 0 ≤ m ∧ m ≤ k ∧ m + onC (l.drop k) = onC l) (fun _ i => l.length - (intOf i).toNat)
  case atStart => exact ⟨0, 0, Nat.zero_le _, rfl, rfl, by omega, by omega, by simp⟩
  case round =>
    obtain ⟨k, m, hk, rfl, rfl, hm0, hm1, he⟩ := hrel
    have HE := hide he; clear he
    by_cases hlt : k < l.length
    · obtain ⟨b, off, rfl, hc⟩ := HS.out.int hlt
      by_cases h0 : l[k] = -1
      · have h := onC_off l k hlt h0
        have H := hide h; clear h
        have hd : (l[k] != -1) = false := by simp [h0]
        have H0 := hide h0; clear h0
        go_wp2
        go_round
        case rel => exact ⟨k + 1, m, by omega, by go_num, rfl, hm0, by omega, by rw [← HE.out, H.out]⟩
        case measure => simp [intOf]; omega
      · have h := onC_on l k hlt h0
        have H := hide h; clear h
        have hd : (l[k] != -1) = true := by simp [h0]
        have H0 := hide h0; clear h0
        go_wp2
        go_round
        case rel => exact ⟨k + 1, m + 1, by omega, by go_num, rfl, by omega, by omega, by rw [← HE.out, H.out]; omega⟩
        case measure => simp [intOf]; omega
    · go_wp2
      go_ret
      have h3 := HE.out
      rw [List.drop_eq_nil_of_le (by omega)] at h3
      exact ⟨by rw [← h3]; simp [onC], by go_grown⟩

theorem checkBeam_ref (A : Option Addr) (c : Nat) (l : List Int) (w : World) (hs : Sl w A (iv l)) (hl : l.length ≤ 1000000) :
    Calls Tryd.prog 34 #[.agg #[.slice A l.length c]] w fun x w' => x = .returned (.tuple #[.int .i64 (chk l).1, .int .i64 (chk l).2]) ∧ Below w.heap.size w w' := by
  have HS := hide (hs.alloc (.cells #[.slice A l.length c] 24)); clear hs
  by_cases h0 : l.length = 0
  · have e : chk l = (0, 10) := by rw [chk, if_pos h0]
    rw [e]; clear e
    have h1 : ((l.length : Int) == 0) = true := by simp [h0]
    go_enter Tryd.func34, Tryd.ntmps34
    go_wp2
    go_ret2
    exact ⟨rfl, by go_grown⟩
  by_cases h8 : 8 < l.length
  · have e : chk l = (0, 8) := by rw [chk, if_neg h0, if_pos h8]
    rw [e]; clear e
    go_enter Tryd.func34, Tryd.ntmps34
    go_wp2
    go_ret2
    exact ⟨rfl, by go_grown⟩
  have e : chk l = if 0 ≤ idxFrom badPhase l 0 then (idxFrom badPhase l 0, 2) else if onC l = 0 then (0, 11) else (0, 0) := by rw [chk, if_neg h0, if_neg h8]
  have E := hide e; clear e
  have z1 : ((l.length : Int) == 0) = false := by rw [beq_eq_false_iff_ne]; omega
  have z2 : decide (8 < l.length) = false := by simp; omega
  go_enter Tryd.func34, Tryd.ntmps34
  go_wp2
  go_loop [4] (fun i => ∃ k : Nat, k ≤ l.length ∧ i = .int .i64 k ∧ idxFrom badPhase l 0 = idxFrom badPhase (l.drop k) k) (fun i => l.length - (intOf i).toNat)
  case atStart => exact ⟨0, Nat.zero_le _, rfl, by simp⟩
  case round =>
    obtain ⟨k, hk, rfl, he⟩ := hrel
    have HE := hide he; clear he
    by_cases hlt : k < l.length
    · obtain ⟨b, off, rfl, hc⟩ := HS.out.int hlt
      cases hw : withinB l[k] (-1) 7
      · have hh := idx_hit badPhase l k hlt (by simp [badPhase, hw]) k
        have HH := hide hh; clear hh
        have HW := hide hw; clear hw
        go_wp2_with (go_at_call 15; refine (within_base _ _ _ _).mono ?_; rintro e w' ⟨rfl, rfl⟩; rw [HW.out])
        go_ret2
        exact ⟨by rw [E.out, HE.out, HH.out, if_pos (by omega)]; rfl, by go_grown⟩
      · have hh := idx_skip badPhase l k hlt (by simp [badPhase, hw]) k
        have HH := hide hh; clear hh
        have HW := hide hw; clear hw
        go_wp2_with (go_at_call 15; refine (within_base _ _ _ _).mono ?_; rintro e w' ⟨rfl, rfl⟩; rw [HW.out])
        go_round
        case rel => exact ⟨k + 1, by omega, by go_num, by rw [HE.out, HH.out]; simp⟩
        case measure => simp [intOf]; omega
    · have h3 : idxFrom badPhase l 0 = -1 := by rw [HE.out, List.drop_eq_nil_of_le (by omega)]; rfl
      have H3 := hide h3; clear h3
      go_wp2_with fail
      refine (on_ref A c l _ HS.out hl).mono ?_
      rintro e w1 ⟨rfl, hb1⟩
      by_cases ho : onC l = 0
      · have ho' : (onC l == 0) = true := by simp [ho]
        have HO := hide ho; clear ho
        go_wp2
        go_ret2
        exact ⟨by rw [E.out, H3.out, if_neg (by omega), if_pos HO.out]; rfl, ((Below.refl _ w).alloc (Nat.le_refl _) _).trans (hb1.mono (by simp))⟩
      · have ho' : (onC l == 0) = false := by simp [ho]
        have HO := hide ho; clear ho
        go_wp2
        go_ret2
        exact ⟨by rw [E.out, H3.out, if_neg (by omega), if_neg HO.out]; rfl, ((Below.refl _ w).alloc (Nat.le_refl _) _).trans (hb1.mono (by simp))⟩
end Go.Proofs.YtamkannjdbodpaaDoor
