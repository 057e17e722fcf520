import Derived.Test.YtamkannjdbodpaaDoorBeamA
import Derived.Test.YtamkannjdbodpaaDoorMem2
import Derived.RangeFuncBox
namespace Go.Proofs.YtamkannjdbodpaaDoor
open Go.RowKit Go.WideShapes Go.ChangeShapes

def Pows (l : List Int) : Prop := ∀ x ∈ l, 0 ≤ x ∧ x ≤ 1000000
def isPow (n : Int) : Bool := withinB n 0 1000000
theorem isPower_beam (n : Int) (w : World) : Calls Tryd.prog 48 #[.int .i64 n] w fun x w' => x = .returned (.bool (isPow n)) ∧ w = w' := by
  go_enter Tryd.func48, Tryd.ntmps48
  go_wp2_with (go_at_call 37; refine (within_beam _ _ _ _).mono ?_; rintro e w' ⟨rfl, rfl⟩)
  go_ret
  exact ⟨rfl, rfl⟩
def noPow (n : Int) : Bool := !(isPow n)
theorem splitOf1_beam (n : Int) (w : World) : Calls Tryd.prog 47 #[.int .i64 n] w fun x w' => x = .returned (.bool (noPow n)) ∧ w = w' := by
  go_enter Tryd.func47, Tryd.ntmps47
  go_wp2_with (go_at_call 48; refine (isPower_beam _ _).mono ?_; rintro e w' ⟨rfl, rfl⟩)
  go_ret
  exact ⟨rfl, rfl⟩
/-- the error of a panel for n beams -/
def panE (p m n : Int) : Int := firstOf [unlessE (isPow p && isPow m) 2, unlessE (decide (n ≤ 12)) 8]
set_option maxRecDepth 100000 in
theorem panelErr_beam (p m n : Int) (w : World) : Calls Tryd.prog 49 #[.agg #[.int .i64 p, .int .i64 m], .int .i64 n] w fun x w' => x = .returned (.int .i64 (panE p m n)) ∧ Below w.heap.size w w' := by
  unfold panE
  cases h : isPow p
  · have H := hide h; clear h
    go_enter Tryd.func49, Tryd.ntmps49
    go_wp2_with (first
      | (go_at_call 48; refine (isPower_beam _ _).mono ?_; rintro e w' ⟨rfl, rfl⟩; rw [H.out])
      | (go_at_call 36; refine (unless_any _ _ _).mono ?_; rintro e w' ⟨rfl, rfl⟩)
      | (go_at_call 35; refine (first2 _ _ _ _ (by simp)).mono ?_; rintro e w' ⟨rfl, rfl⟩))
    go_ret
    exact ⟨rfl, by go_grown⟩
  · have H := hide h; clear h
    cases hb : isPow m
    all_goals
      have HB := hide hb; clear hb
      go_enter Tryd.func49, Tryd.ntmps49
      go_wp2_with (go_at_call 48; refine (isPower_beam p _).mono ?_; rintro e w' ⟨rfl, rfl⟩; rw [H.out])
      refine (isPower_beam m _).mono ?_
      rintro e w' ⟨rfl, rfl⟩
      rw [HB.out]
      go_wp2_with (first
        | (go_at_call 36; refine (unless_any _ _ _).mono ?_; rintro e w' ⟨rfl, rfl⟩)
        | (go_at_call 35; refine (first2 _ _ _ _ (by simp)).mono ?_; rintro e w' ⟨rfl, rfl⟩))
      go_ret
      exact ⟨rfl, by go_grown⟩

/-- wants up to a level, and their sum -/
def mins (lv : Int) (l : List Int) : List Int := l.map (fun n => min n lv)
def usedL (lv : Int) : List Int → Int
  | [] => 0
  | n :: r => min n lv + usedL lv r
theorem usedL_bd (lv : Int) (l : List Int) (h : Pows l) (h0 : 0 ≤ lv) : 0 ≤ usedL lv l ∧ usedL lv l ≤ 1000000 * l.length := by
  induction l with
  | nil => simp [usedL]
  | cons n r ih =>
    have h1 := h n (by simp)
    have := ih (fun x hx => h x (by simp [hx]))
    simp only [usedL, List.length_cons]
    omega
theorem usedL_step (lv : Int) (l : List Int) (k : Nat) (hk : k < l.length) : usedL lv (l.drop k) = min l[k] lv + usedL lv (l.drop (k + 1)) := by
  rw [List.drop_eq_getElem_cons hk]; rfl
theorem mins_take (lv : Int) (l : List Int) (k : Nat) (hk : k < l.length) : mins lv (l.take (k + 1)) = mins lv (l.take k) ++ [min l[k] lv] := by
  unfold mins; rw [List.take_succ_eq_append_getElem hk, List.map_append]; rfl

set_option maxRecDepth 100000 in
set_option maxHeartbeats 1000000 in
theorem upTo_beam (A : Option Addr) (c : Nat) (l : List Int) (lv : Int) (w : World) (hs : Sl w A (iv l)) (hl : l.length ≤ 1000) (hp : Pows l) (h0 : 0 ≤ lv) (h1 : lv ≤ 1000000) :
    Calls Tryd.prog 50 #[.slice A l.length c, .int .i64 lv] w fun e w' => ∃ A' c', e = .returned (.tuple #[.slice A' l.length c', .int .i64 (usedL lv l)]) ∧ w'.ownsRow w.heap.size 3 1 (.slice A' l.length c') l.length (iv (mins lv l)) ∧ Below w.heap.size w w' := by
  obtain ⟨i0, hi0, hz0, hz1, hz2⟩ := info_parts int_info
  have hu := usedL_bd lv l hp h0
  have HS := hide hs; clear hs
  have HP := hide hp; clear hp
  go_enter Tryd.func50, Tryd.ntmps50
  go_wp2
  go_loopw [6, 7, 12] (fun o s i wr => ∃ (k : Nat) (A' : Option Addr) (c' : Nat) (m : Int), k ≤ l.length ∧ i = .int .i64 k ∧ o = .slice A' k c' ∧ s = .int .i64 m ∧ 0 ≤ m ∧ m + usedL lv (l.drop k) = usedL lv l ∧ wr.ownsRow w.heap.size 3 1 (.slice A' k c') k (iv (mins lv (l.take k))) ∧ Below w.heap.size w wr) (fun _ _ i _ => l.length - (intOf i).toNat)
  case atStart => exact ⟨0, none, 0, 0, Nat.zero_le _, rfl, rfl, rfl, by omega, by simp, by simpa [mins, iv] using World.ownsRow_nil _ _ _ _, Below.refl _ _⟩
  case round =>
    obtain ⟨k, A', c', m, hk, rfl, rfl, rfl, hm0, he, hown, hbel⟩ := hrel
    have HE := hide he; clear he
    by_cases hlt : k < l.length
    · obtain ⟨b, off, rfl, hc⟩ := HS.out.int hlt
      have hcw : wr.cell? ⟨b, off + k, none⟩ = some (.int .i64 l[k]) := (hbel.cell (p := ⟨b, off + k, none⟩) (lt_of_cell hc)).trans hc
      have hbz := hbel.size
      have hblt := lt_of_cell hc
      have hx := HP.out l[k] (List.getElem_mem hlt)
      have hmn : m + min l[k] lv ≤ 1000000000 := by
        have h2 := usedL_step lv l k hlt
        have h3 := usedL_bd lv (l.drop (k + 1)) (fun x hx => HP.out x (List.mem_of_mem_drop hx)) h0
        have h4 := HE.out
        omega
      obtain ⟨x, hxe⟩ : ∃ x, l[k] = x := ⟨_, rfl⟩
      have HX := hide hxe
      rw [hxe] at hcw hx hmn
      clear hxe hc
      obtain ⟨hx0, hx1⟩ := hx
      rcases (by omega : (x ≤ lv ∧ min x lv = x) ∨ (lv < x ∧ min x lv = lv)) with ⟨hle, hmin⟩ | ⟨hle, hmin⟩
      all_goals
        rw [hmin] at hmn
        have HM := hide hmin; clear hmin
        go_wp2_with (at_builtin; go_must (
                     first | refine wpList_append_own _ rfl _ _ 22 rfl w.heap.size 3 i0 (.int .i64 0) 1 8 Tryd.underlying22 hi0 hz0 hz1 hz2 rfl (by decide) _ _ _ rfl (hown.alloc _) ⟨wr.heap.size, 0, none⟩ 1 1 [.int .i64 x] rfl rfl (cell_one_new _ _ _) (by simp [Value.oneCell']) (by simp only [maxLen]; omega) (by omega) (by simp; omega) ?_ | refine wpList_append_own _ rfl _ _ 22 rfl w.heap.size 3 i0 (.int .i64 0) 1 8 Tryd.underlying22 hi0 hz0 hz1 hz2 rfl (by decide) _ _ _ rfl (hown.alloc _) ⟨wr.heap.size, 0, none⟩ 1 1 [.int .i64 lv] rfl rfl (cell_one_new _ _ _) (by simp [Value.oneCell']) (by simp only [maxLen]; omega) (by omega) (by simp; omega) ?_
                     intro v' w1 hown' hgrow _
                     obtain ⟨g', cap', rfl⟩ := ownsRow_succ hown'
                     have hbel' := Below.app hbel hown hgrow))
        go_roundw
        case rel => exact ⟨k + 1, _, _, _, by omega, by go_num, rfl, rfl, by omega, by rw [← HE.out, usedL_step lv l k hlt, HX.out, HM.out]; omega, by rw [mins_take lv l k hlt, iv_append, HX.out, HM.out]; exact hown', hbel'⟩
        case measure => simp [intOf]; omega
    · go_wp2
      obtain rfl : k = l.length := by omega
      go_ret2
      have h3 := HE.out
      rw [List.drop_length] at h3
      refine ⟨A', c', ?_, by rw [List.take_length] at hown; exact hown, hbel⟩
      have h4 : m = usedL lv l := by simpa [usedL] using h3
      rw [← h4]
      rfl
end Go.Proofs.YtamkannjdbodpaaDoor
