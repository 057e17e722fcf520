import Derived.Test.YthfmjohbokpceaaListG
import Derived.Test.YthfmjohbokpceaaWvBB
namespace Go.Proofs.Ythfmjohbokpceaa
open Go.RowKit Go.WideShapes Go.ChangeShapes

/-! clipped numbers, the error of two lists: the program -/
def kg (l : List (Int × Int)) (i : Nat) : Int × Int := l[i]?.getD (0, 0)
theorem kg_at {l : List (Int × Int)} {i : Nat} (h : i < l.length) : kg l i = l[i] := by unfold kg; rw [List.getElem?_eq_getElem h]; rfl
theorem Sl.atG {w : World} {A : Option Addr} {h : List (Int × Int)} (hs : Sl w A (gv h)) {k : Nat} (hk : k < h.length) :
    ∃ b off, A = some ⟨b, off, none⟩ ∧ w.cell? ⟨b, off + k * 2, none⟩ = some (.int .i64 (kg h k).1) ∧ w.cell? ⟨b, off + k * 2 + 1, none⟩ = some (.int .i64 (kg h k).2) := by
  rw [kg_at hk]; exact hs.at2 hk
theorem gv_snoc (l : List (Int × Int)) (z : Int × Int) : gv (l ++ [z]) = gv l ++ [.int .i64 z.1, .int .i64 z.2] := by rw [gv_append]; rfl
theorem entE_ok {z : Int × Int} (h : entE z = 0) : -10000 ≤ z.1 ∧ z.1 ≤ 10000 ∧ -10000 ≤ z.2 ∧ z.2 ≤ 10000 := by
  unfold entE unlessE at h
  cases hf : entB 10000 z
  · rw [hf] at h; exact absurd h (by decide)
  · exact (entB_iff _ _).1 hf
theorem kg_le {l : List (Int × Int)} (h : ∀ z ∈ l, entE z = 0) (i : Nat) : -10000 ≤ (kg l i).1 ∧ (kg l i).1 ≤ 10000 ∧ -10000 ≤ (kg l i).2 ∧ (kg l i).2 ≤ 10000 := by
  unfold kg
  cases hi : l[i]? with
  | none => simp
  | some z =>
    obtain ⟨hi', e⟩ := List.getElem?_eq_some_iff.1 hi
    exact entE_ok (h z (by rw [← e]; exact List.getElem_mem hi'))
theorem eachE_append {α : Type} (f : α → Int) : ∀ a b : List α, eachE f (a ++ b) = if eachE f a = 0 then eachE f b else eachE f a
  | [], b => by simp [eachE]
  | x :: r, b => by
    rw [List.cons_append, eachE, eachE, eachE_append f r b]
    by_cases h : f x = 0
    · rw [if_pos h, if_pos h]
    · rw [if_neg h, if_neg h, if_neg h]
/-- a part that is clipped -/
def clp (m z : Int) : Int := if -m < (if z < m then z else m) then (if z < m then z else m) else -m
theorem clp_bd {m : Int} (h : 0 ≤ m) (z : Int) : -m ≤ clp m z ∧ clp m z ≤ m := by unfold clp; (repeat' split) <;> omega
theorem clp_in {m z : Int} (h : -m ≤ z) (h' : z ≤ m) : clp m z = z := by unfold clp; (repeat' split) <;> omega
theorem clip1_wave (n m : Int) (p : Addr) (w : World) (hc : w.cell? p = some (.int .i64 m)) (h : 0 ≤ m) (h' : m ≤ 10000) :
    Calls Try.prog 143 #[.int .i64 n, .pointer (some p)] w fun e w' => e = .returned (.int .i64 (clp m n)) ∧ w = w' := by
  go_enter Try.func143, Try.ntmps143
  go_wp2
  all_goals
    go_ret
    exact ⟨ret1 (by unfold clp; (repeat' split) <;> omega), rfl⟩
/-- the error of entries that are not too many -/
def manE (x : List (Int × Int)) : Int := if 120 < x.length then 8 else eachE entE x
def clE (x : List (Int × Int)) (m : Int) : Int := firstOf [manE x, unlessE (withinB m 0 10000) 2]
def clL (x : List (Int × Int)) (m : Int) : Nat → List (Int × Int) := tab fun i => (clp m (kg x i).1, clp m (kg x i).2)
theorem manE_ok {x : List (Int × Int)} (h : manE x = 0) : x.length ≤ 120 ∧ ∀ z ∈ x, entE z = 0 := by
  unfold manE at h
  by_cases hl : 120 < x.length
  · rw [if_pos hl] at h; exact absurd h (by decide)
  · rw [if_neg hl] at h; exact ⟨by omega, eachE_ok h⟩
theorem lim_ok {m : Int} (h : unlessE (withinB m 0 10000) 2 = 0) : 0 ≤ m ∧ m ≤ 10000 := by
  unfold unlessE at h
  cases hf : withinB m 0 10000
  · rw [hf] at h; exact absurd h (by decide)
  · unfold withinB at hf; simpa using hf
set_option maxRecDepth 100000 in
set_option maxHeartbeats 2000000 in
theorem Clipped_err (A : Option Addr) (c : Nat) (x : List (Int × Int)) (m : Int) (w : World) (hs : Sl w A (gv x)) (hl : x.length ≤ 1000000) (h : clE x m ≠ 0) :
    Calls Try.prog 56 #[.slice A x.length c, .int .i64 m] w fun e w' => e = .returned (.tuple #[.slice none 0 0, .int .i64 (clE x m)]) ∧ Below w.heap.size w w' := by
  have hE : clE x m = firstOf [manE x, unlessE (withinB m 0 10000) 2] := rfl
  have hq : (firstOf [manE x, unlessE (withinB m 0 10000) 2] != 0) = true := by rw [← hE, bne_iff_ne]; exact h
  have HE := hide hE
  have hK := hide (enters Try.func141 (by kernel_rfl) rfl)
  have HS := hide hs
  clear hs h hE
  by_cases hl2 : 120 < x.length
  · have hm : manE x = 8 := if_pos hl2
    have q1 : decide ((x.length : Int) ≤ 120) = false := by rw [decide_eq_false_iff_not]; omega
    rw [hm] at hq HE
    clear hm hl2
    go_enter Try.func56, Try.ntmps56
    go_wp2_with (first
      | (go_at_call 115; refine (unless_any _ _ _).mono ?_; rintro e w' ⟨rfl, rfl⟩; simp only [])
      | (go_at_call 142; refine (within_wave _ _ _ _).mono ?_; rintro e w' ⟨rfl, rfl⟩; simp only [])
      | (go_at_call 107; go_must (refine (first2 _ _ _ _ (by simp)).mono ?_; rintro e w' ⟨rfl, rfl⟩; simp only [])))
    go_ret2
    exact ⟨by rw [HE.out]; rfl, by go_grown⟩
  · have hm : manE x = eachE entE x := if_neg hl2
    have q1 : decide ((x.length : Int) ≤ 120) = true := by rw [decide_eq_true_iff]; omega
    rw [hm] at hq HE
    have HEACH := hide (fun W (h : Sl W A (gv x)) => each_gauss 141 entE A c x W hK.out (fun z W => entryErr_wave z W) h hl)
    have u1 : unlessE true 8 = 0 := rfl
    clear hm hl2
    go_enter Try.func56, Try.ntmps56
    go_wp2_with (first
      | (go_at_call 115; have qq := tk; refine (unless_any _ _ _).mono ?_; rintro e w' ⟨rfl, rfl⟩; simp only [])
      | (go_at_call 115; refine (unless_any _ _ _).mono ?_; rintro e w' ⟨rfl, rfl⟩; rw [u1]; have tk := hide trivial; simp only [])
      | (go_at_call 142; refine (within_wave _ _ _ _).mono ?_; rintro e w' ⟨rfl, rfl⟩; simp only [])
      | (go_at_call 140; go_must (refine (HEACH.out _ (HS.out.alloc _)).mono ?_; rintro e w1 ⟨rfl, hb1⟩; have b1 : Below w.heap.size w w1 := Below.step (by go_grown) hb1; obtain ⟨hc1, hf1, y10⟩ := bloc1 w hb1 (by first | omega | (simp; done) | (simp; omega)); clear hb1; simp only []))
      | (go_at_call 107; go_must (refine (first2 _ _ _ _ (by simp)).mono ?_; rintro e w' ⟨rfl, rfl⟩; simp only [])))
    go_ret2
    exact ⟨by rw [HE.out]; rfl, by go_grown⟩
set_option maxRecDepth 100000 in
set_option maxHeartbeats 4000000 in
theorem Clipped_ok (A : Option Addr) (c n : Nat) (x : List (Int × Int)) (m : Int) (w : World) (hn : x.length = n) (hs : Sl w A (gv x)) (h : clE x m = 0) :
    Calls Try.prog 56 #[.slice A n c, .int .i64 m] w fun e w' => (∃ C k, e = .returned (.tuple #[.slice C n k, .int .i64 0]) ∧ Sl w' C (gv (clL x m n))) ∧ Below w.heap.size w w' := by
  obtain ⟨i0, hi0, hz0, hz1, hz2⟩ := info_parts ga_infoW
  have hm0 := firstOf_ok h (manE x) (by simp)
  have hl0 := firstOf_ok h (unlessE (withinB m 0 10000) 2) (by simp)
  obtain ⟨hl, hx⟩ := manE_ok hm0
  obtain ⟨hm, hm'⟩ := lim_ok hl0
  have u0 := hide (show firstOf [0, unlessE (withinB m 0 10000) 2] = 0 by rw [hl0]; rfl)
  have u1 : unlessE true 8 = 0 := rfl
  have q1 : decide ((n : Int) ≤ 120) = true := by rw [decide_eq_true_iff]; omega
  have hK := hide (enters Try.func141 (by kernel_rfl) rfl)
  have HEACH := hide (fun W (h : Sl W A (gv x)) => by
    have := each_gauss 141 entE A c x W hK.out (fun z W => entryErr_wave z W) h (by omega)
    rw [eachE_zero hx, hn] at this
    exact this)
  have HSLK := hide (fun k (hk : k < n) => hs.atG (k := k) (by omega))
  have HX := hide (kg_le hx)
  have HS := hide hs
  have HSC := hide (tab_succ fun i => (clp m (kg x i).1, clp m (kg x i).2))
  have HSH : clL x m = tab fun i => (clp m (kg x i).1, clp m (kg x i).2) := rfl
  rw [HSH]
  obtain ⟨T, hT⟩ : ∃ T : Nat → List (Int × Int), T = tab fun i => (clp m (kg x i).1, clp m (kg x i).2) := ⟨_, rfl⟩
  rw [← hT] at HSC
  rw [← hT]
  have HT0' := hide (show T 0 = [] by rw [hT]; rfl)
  rw [hn] at hl
  clear hs h hx hn HSH hT hm0 hl0
  go_enter Try.func56, Try.ntmps56
  go_wp2_with (first
    | (go_at_call 115; have qq := tk; refine (unless_any _ _ _).mono ?_; rintro e w' ⟨rfl, rfl⟩; simp only [])
    | (go_at_call 115; refine (unless_any _ _ _).mono ?_; rintro e w' ⟨rfl, rfl⟩; rw [u1]; have tk := hide trivial; simp only [])
    | (go_at_call 142; refine (within_wave _ _ _ _).mono ?_; rintro e w' ⟨rfl, rfl⟩; simp only [])
    | (go_at_call 140; go_must (refine (HEACH.out _ (HS.out.alloc _)).mono ?_; rintro e w1 ⟨rfl, hb1⟩; have b1 : Below w.heap.size w w1 := Below.step (by go_grown) hb1; have z1 := b1.size; have HB1 := hide ((Blk.new w 3 #[.int .i64 m]).below hb1 (by simp)); obtain ⟨hc1, hf1, y10⟩ := bloc1 w hb1 (by first | omega | (simp; done) | (simp; omega)); clear hb1; simp only []))
    | (go_at_call 107; go_must (refine (first2 _ _ _ _ (by simp)).mono ?_; rintro e w' ⟨rfl, rfl⟩; rw [u0.out]; simp only [])))
  have HB4 := hide (HB1.out.alloc (.cells #[.int .i64 0, .int .i64 (unlessE (withinB m 0 10000) 2)] 25))
  have b4 : Below w.heap.size w (w1.alloc (.cells #[.int .i64 0, .int .i64 (unlessE (withinB m 0 10000) 2)] 25)) := by go_grown
  clear HB1 b1 hc1 hf1 y10 z1
  generalize w1.alloc (.cells #[.int .i64 0, .int .i64 (unlessE (withinB m 0 10000) 2)] 25) = w4 at *
  have hg4 := HB4.out.lt
  have z4 := b4.size
  go_loopw [8, 31] (fun o i wr => ∃ (k : Nat) (C : Option Addr) (c1 : Nat), k ≤ n ∧ i = .int .i64 k ∧ o = .slice C k c1 ∧ wr.ownsRow w4.heap.size 30 2 (.slice C k c1) k (gv (T k)) ∧ Below w4.heap.size w4 wr) (fun _ i _ => n - (intOf i).toNat)
  case atStart => exact ⟨0, none, 0, Nat.zero_le _, rfl, rfl, by rw [HT0'.out]; exact World.ownsRow_nil _ _ _ _, Below.refl _ _⟩
  case round =>
    obtain ⟨k, C, c1, hk, rfl, rfl, hrow, hbel⟩ := hrel
    have hbz := hbel.size
    by_cases hlt : k < n
    · obtain ⟨b, off, rfl, e0, e1⟩ := HSLK.out k hlt
      have hb0 := Below.step b4 hbel
      have d0 := (hb0.cell (p := ⟨b, off + k * 2, none⟩) (lt_of_cell e0)).trans e0
      have d1 := (hb0.cell (p := ⟨b, off + k * 2 + 1, none⟩) (lt_of_cell e1)).trans e1
      have hle := HX.out k
      have hsc := HSC.out k
      obtain ⟨z, hz⟩ : ∃ z, kg x k = z := ⟨_, rfl⟩
      rw [hz] at d0 d1 hle hsc
      obtain ⟨v0, v1⟩ := z
      dsimp only at d0 d1 hle hsc
      have HC0 := hide (fun W (h : W.cell? ⟨w.heap.size, 0, none⟩ = some (.int .i64 m)) => clip1_wave v0 m ⟨w.heap.size, 0, none⟩ W h hm hm')
      have HC1 := hide (fun W (h : W.cell? ⟨w.heap.size, 0, none⟩ = some (.int .i64 m)) => clip1_wave v1 m ⟨w.heap.size, 0, none⟩ W h hm hm')
      have q0 := clp_bd hm v0
      have q2 := clp_bd hm v1
      obtain ⟨u, hu⟩ : ∃ u, clp m v0 = u := ⟨_, rfl⟩
      obtain ⟨v, hv⟩ : ∃ v, clp m v1 = v := ⟨_, rfl⟩
      rw [hu] at HC0 hsc q0
      rw [hv] at HC1 hsc q2
      have HSC2 := hide (show gv (T (k + 1)) = gv (T k) ++ [.int .i64 u, .int .i64 v] by rw [hsc, gv_snoc])
      have HROW := hide hrow
      have HBX := hide (HB4.out.below hbel hg4)
      have g0 := HBX.out.cell 0
      clear hle hsc hz hu hv hrow e0 e1
      go_wp2
      have ne1 : ¬ w.heap.size = wr.heap.size := by omega
      have HA : Hid (((wr.alloc (.cells #[.int .i64 v0, .int .i64 v1] 30)).alloc (.cells #[.int .i64 u, .int .i64 v] 30)).drew.ownsRow w4.heap.size 30 2 (.slice C k c1) k (gv (T k))) := hide ((HROW.out.alloc _).alloc _)
      have HCE : Hid (Reads ((wr.alloc (.cells #[.int .i64 v0, .int .i64 v1] 30)).alloc (.cells #[.int .i64 u, .int .i64 v] 30)).drew (wr.heap.size + 1 + 1) 2 (some ⟨wr.heap.size + 1, 0, none⟩) 1 [.int .i64 u, .int .i64 v]) := hide ⟨rfl, fun _ => ⟨_, rfl, by simp, fun j y hy => by
        have := cells_new (wr.alloc (.cells #[.int .i64 v0, .int .i64 v1] 30)) [.int .i64 u, .int .i64 v] 30 j y hy
        simpa using this⟩⟩
      go_region_held3 (fun w' => w'.cell? ⟨w.heap.size, 0, none⟩ = some (.int .i64 m) ∧ w'.cell? ⟨wr.heap.size, 0, none⟩ = some (.int .i64 v0) ∧ w'.cell? ⟨wr.heap.size, 1, none⟩ = some (.int .i64 v1)) (first | (simp [go_sem]; done) | (simp [go_sem, *]; done) | go_keep)
        (first
          | (go_at_call 143; (with_reducible refine (HC0.out _ ?_).mono ?_); (simp [*]); rintro e w' ⟨rfl, rfl⟩)
          | (go_at_call 143; (with_reducible refine (HC1.out _ ?_).mono ?_); (simp [*]); rintro e w' ⟨rfl, rfl⟩)
          | ((
             refine step_append_any _ ?_ (.tmp 35) (.tmp 45) 83 ?_ w4.heap.size 30 i0 _ 2 16 Try.underlying83 hi0 hz0 hz1 hz2 ?_ ?_ (.slice C k c1) k (gv (T k)) ?_ HA.out (wr.heap.size + 1 + 1) (some ⟨wr.heap.size + 1, 0, none⟩) 1 1 [.int .i64 u, .int .i64 v] ?_ HCE.out ?_ ?_ ?_ ?_ ?_
             · rfl
             · rfl
             · rfl
             · omega
             · rfl
             · rfl
             · simp [Value.oneCell']
             · simp only [maxLen]; omega
             · omega
             · simp; omega
             intro v' w6 hown' hgrow0 _
             have hgrow := grown_drew hgrow0
             obtain ⟨C2, k2, rfl⟩ := own_form hown'
             have hbel6 : Below w4.heap.size w4 w6 := Below.app (hbel.alloc hbz (.cells #[.int .i64 v0, .int .i64 v1] 30)) (HROW.out.alloc _) hgrow
             have p0 : w6.cell? ⟨w.heap.size, 0, none⟩ = some (.int .i64 m) := (HB4.out.below hbel6 hg4).cell 0
             have hbox : Blk w6 wr.heap.size 30 #[.int .i64 v0, .int .i64 v1] := ((Blk.new wr 30 #[.int .i64 v0, .int .i64 v1]).alloc (.cells #[.int .i64 u, .int .i64 v] 30)).grown hgrow (fun e => by have := (HROW.out.lt _ e.symm).2; omega)
             have p1 : w6.cell? ⟨wr.heap.size, 0, none⟩ = some (.int .i64 v0) := hbox.cell 0
             have p2 : w6.cell? ⟨wr.heap.size, 1, none⟩ = some (.int .i64 v1) := hbox.cell 1)))
      all_goals
        go_wp2
        go_roundw
        case rel => exact ⟨k + 1, C2, k2, by omega, by go_num, rfl, by rw [HSC2.out]; exact hown', hbel6⟩
        case measure => simp [intOf]; omega
    · obtain rfl : k = n := by omega
      have HROW := hide hrow
      clear hrow
      go_wp2
      go_ret2
      exact ⟨⟨C, c1, rfl, Sl.of_ownN HROW.out⟩, Below.step b4 hbel⟩
end Go.Proofs.Ythfmjohbokpceaa
