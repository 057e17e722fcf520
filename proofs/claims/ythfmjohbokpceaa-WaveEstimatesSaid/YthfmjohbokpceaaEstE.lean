import Derived.Test.YthfmjohbokpceaaCelA
import Derived.Test.YthfmjohbokpceaaWvCC
namespace Go.Proofs.Ythfmjohbokpceaa
open Go.RowKit Go.WideShapes Go.ChangeShapes

/-! estimates at reference symbols (program) -/
def isRB (z : Int × Int) : Bool := decide (z.1 * z.2 = 0) && decide (z.1 * z.1 + z.2 * z.2 = 1)
def refE (z : Int × Int) : Int := unlessE (entB 1 z && isRB z) 3
theorem entB_one {z : Int × Int} (h : entB 1 z = true) : (z.1 = -1 ∨ z.1 = 0 ∨ z.1 = 1) ∧ (z.2 = -1 ∨ z.2 = 0 ∨ z.2 = 1) := by
  unfold entB withinB at h
  simp at h
  omega
set_option maxRecDepth 100000 in
theorem isReference_wave (z : Int × Int) (w : World) (h : entB 1 z = true) : Calls Try.prog 162 #[.agg #[.int .i64 z.1, .int .i64 z.2]] w fun e w' => e = .returned (.bool (isRB z)) ∧ Below w.heap.size w w' := by
  obtain ⟨h1, h2⟩ := entB_one h
  obtain ⟨a, b⟩ := z
  dsimp only at h1 h2
  clear h
  rcases h1 with rfl | rfl | rfl <;> rcases h2 with rfl | rfl | rfl
  all_goals
    go_enter Try.func162, Try.ntmps162
    go_wp2
    go_ret
    exact ⟨rfl, by go_grown⟩
set_option maxRecDepth 100000 in
theorem refErr_wave (z : Int × Int) (w : World) : Calls Try.prog 161 #[.agg #[.int .i64 z.1, .int .i64 z.2]] w fun e w' => e = .returned (.int .i64 (refE z)) ∧ Below w.heap.size w w' := by
  have HE := hide (fun W => isEntry_wave z 1 W (by omega) (by omega))
  cases h : entB 1 z
  · rw [h] at HE
    have hv : refE z = 3 := by unfold refE; rw [h]; rfl
    rw [hv]
    clear h hv
    go_enter Try.func161, Try.ntmps161
    go_wp2_with (first
      | (go_at_call 146; go_must (refine (HE.out _).mono ?_; rintro e w1 ⟨rfl, hb⟩; have HB := hide (Below.step (show Below w.heap.size w (w.alloc _) from (Below.refl _ _).alloc (Nat.le_refl _) _) hb); clear hb; simp only []))
      | (go_at_call 115; refine (unless_any _ _ _).mono ?_; rintro e w' ⟨rfl, rfl⟩; simp only []))
    go_ret
    exact ⟨rfl, HB.out⟩
  · rw [h] at HE
    have HR := hide (fun W => isReference_wave z W h)
    have hv : refE z = unlessE (isRB z) 3 := by unfold refE; rw [h]; rfl
    rw [hv]
    have HZ := hide (stay_new w 30 #[.int .i64 z.1, .int .i64 z.2])
    clear h hv
    go_enter Try.func161, Try.ntmps161
    go_wp2_with (first
      | (go_at_call 146; go_must (refine (HE.out _).mono ?_; rintro e w1 ⟨rfl, hb⟩; have HB := hide (Below.step (show Below w.heap.size w (w.alloc _) from (Below.refl _ _).alloc (Nat.le_refl _) _) hb); have z0 := (HZ.out.step hb).now.cell 0; have z1 := (HZ.out.step hb).now.cell 1; clear hb; simp only []))
      | (go_at_call 162; go_must (refine (HR.out _).mono ?_; rintro e w2 ⟨rfl, hb⟩; have HB2 := hide (Below.step HB.out hb); clear hb z0 z1; simp only []))
      | (go_at_call 115; refine (unless_any _ _ _).mono ?_; rintro e w' ⟨rfl, rfl⟩; simp only []))
    go_ret
    exact ⟨rfl, HB2.out⟩
def esE0 (k x : List (Int × Int)) : Int := if 40 < k.length then 8 else if x.length ≠ k.length then 10 else 0
def esE (k x : List (Int × Int)) : Int := if esE0 k x ≠ 0 then esE0 k x else if eachE refE k ≠ 0 then eachE refE k else eachE entE x
theorem esE_ok {k x : List (Int × Int)} (h : esE k x = 0) : k.length ≤ 40 ∧ x.length = k.length ∧ eachE refE k = 0 ∧ eachE entE x = 0 := by
  unfold esE at h
  by_cases h0 : esE0 k x = 0
  · rw [if_neg (by omega)] at h
    by_cases h1 : eachE refE k = 0
    · rw [if_neg (by omega)] at h
      unfold esE0 at h0
      by_cases h2 : 40 < k.length
      · rw [if_pos h2] at h0; exact absurd h0 (by decide)
      · rw [if_neg h2] at h0
        by_cases h3 : x.length ≠ k.length
        · rw [if_pos h3] at h0; exact absurd h0 (by decide)
        · exact ⟨by omega, by omega, h1, h⟩
    · rw [if_pos h1] at h; exact absurd h h1
  · rw [if_pos h0] at h; exact absurd h h0
set_option maxRecDepth 100000 in
set_option maxHeartbeats 4000000 in
theorem EstimatesOf_err (A B : Option Addr) (c d : Nat) (k x : List (Int × Int)) (w : World) (hs : Sl w A (gv k)) (hs' : Sl w B (gv x)) (hl : k.length ≤ 1000000) (hl' : x.length ≤ 1000000) (h : esE k x ≠ 0) :
    Calls Try.prog 95 #[.slice A k.length c, .slice B x.length d] w fun e w' => e = .returned (.tuple #[.slice none 0 0, .int .i64 (esE k x)]) ∧ Below w.heap.size w w' := by
  have hK := hide (enters Try.func141 (by kernel_rfl) rfl)
  have hK2 := hide (enters Try.func161 (by kernel_rfl) rfl)
  have HKN := hide (fun W (h : Sl W A (gv k)) => each_gauss 161 refE A c k W hK2.out (fun z W => refErr_wave z W) h hl)
  have HXN := hide (fun W (h : Sl W B (gv x)) => each_gauss 141 entE B d x W hK.out (fun z W => entryErr_wave z W) h hl')
  have HT := hide ((stay_sl hs).and (stay_sl hs'))
  clear hs hs'
  by_cases h1 : 40 < k.length
  · have e1 : esE k x = 8 := by unfold esE esE0; rw [if_pos h1]; rfl
    rw [e1]
    have q1 : decide ((k.length : Int) ≤ 40) = false := by rw [decide_eq_false_iff_not]; omega
    clear e1 h h1 HKN HXN
    obtain ⟨bv, hbv⟩ : ∃ bv, ((x.length : Int) == (k.length : Int)) = bv := ⟨_, rfl⟩
    obtain ⟨bv2, hbv2⟩ : ∃ bv, (x.length == k.length) = bv := ⟨_, rfl⟩
    go_enter Try.func95, Try.ntmps95
    go_wp2_with (first
      | (go_at_call 115; refine (unless_any _ _ _).mono ?_; rintro e w' ⟨rfl, rfl⟩; simp only [])
      | (go_at_call 107; refine (first2 _ _ _ _ (by simp)).mono ?_; rintro e w' ⟨rfl, rfl⟩; (first | rw [show firstOf [unlessE false 8, unlessE bv 10] = 8 from rfl] | rw [show firstOf [unlessE false 8, unlessE bv2 10] = 8 from rfl]); simp only []))
    go_ret2
    exact ⟨rfl, by go_grown⟩
  have q1 : decide ((k.length : Int) ≤ 40) = true := by rw [decide_eq_true_iff]; omega
  by_cases h2 : x.length = k.length
  rotate_left
  · have e1 : esE k x = 10 := by unfold esE esE0; rw [if_neg h1, if_pos h2]; rfl
    rw [e1]
    have q2 : ((x.length : Int) == (k.length : Int)) = false := by first | (rw [decide_eq_true_iff]; omega) | (rw [decide_eq_false_iff_not]; omega) | (rw [beq_iff_eq]; omega) | (rw [beq_eq_false_iff_ne]; omega)
    have q3 : (x.length == k.length) = false := by rw [beq_eq_false_iff_ne]; exact h2
    clear e1 h h1 h2 HKN HXN
    go_enter Try.func95, Try.ntmps95
    go_wp2_with (first
      | (go_at_call 115; refine (unless_any _ _ _).mono ?_; rintro e w' ⟨rfl, rfl⟩; simp only [])
      | (go_at_call 107; refine (first2 _ _ _ _ (by simp)).mono ?_; rintro e w' ⟨rfl, rfl⟩; rw [show firstOf [unlessE true 8, unlessE false 10] = 10 from rfl]; simp only []))
    go_ret2
    exact ⟨rfl, by go_grown⟩
  have e0 : esE0 k x = 0 := by unfold esE0; rw [if_neg h1, if_neg (by omega)]
  have q2 : ((x.length : Int) == (k.length : Int)) = true := by rw [beq_iff_eq]; omega
  have q3 : (x.length == k.length) = true := by rw [beq_iff_eq]; exact h2
  by_cases h3 : eachE refE k = 0
  rotate_left
  · have e1 : esE k x = eachE refE k := by unfold esE; rw [if_neg (by omega), if_pos h3]
    rw [e1]
    obtain ⟨V, hV⟩ : ∃ V, eachE refE k = V := ⟨_, rfl⟩
    rw [hV] at h3 HKN ⊢
    have hq : (V != 0) = true := by rw [bne_iff_ne]; exact h3
    have hq2 : (V == 0) = false := by rw [beq_eq_false_iff_ne]; exact h3
    clear e0 e1 h h1 h2 h3 hV HXN
    go_enter Try.func95, Try.ntmps95
    go_wp2_with (first
      | (go_at_call 115; refine (unless_any _ _ _).mono ?_; rintro e w' ⟨rfl, rfl⟩; simp only [])
      | (go_at_call 107; refine (first2 _ _ _ _ (by simp)).mono ?_; rintro e w' ⟨rfl, rfl⟩; rw [show firstOf [unlessE true 8, unlessE true 10] = 0 from rfl]; simp only [])
      | (go_at_call 140; with_reducible refine (HKN.out _ (HT.out.alloc _).now.1).mono ?_; rintro e w1 ⟨rfl, hb⟩; have HT1 := hide ((HT.out.alloc _).step hb); have HB1 := hide (Below.step (show Below w.heap.size w (w.alloc _) from (Below.refl _ _).alloc (Nat.le_refl _) _) hb); clear hb; simp only []))
    go_ret2
    exact ⟨rfl, HB1.out⟩
  · have e1 : esE k x = eachE entE x := by unfold esE; rw [if_neg (by omega), if_neg (by omega)]
    rw [e1] at h ⊢
    rw [h3] at HKN
    obtain ⟨V, hV⟩ : ∃ V, eachE entE x = V := ⟨_, rfl⟩
    rw [hV] at h HXN ⊢
    have hq : (V != 0) = true := by rw [bne_iff_ne]; exact h
    clear e0 e1 h h1 h2 h3 hV
    go_enter Try.func95, Try.ntmps95
    go_wp2_with (first
      | (go_at_call 115; refine (unless_any _ _ _).mono ?_; rintro e w' ⟨rfl, rfl⟩; simp only [])
      | (go_at_call 107; refine (first2 _ _ _ _ (by simp)).mono ?_; rintro e w' ⟨rfl, rfl⟩; rw [show firstOf [unlessE true 8, unlessE true 10] = 0 from rfl]; simp only [])
      | (go_at_call 140; with_reducible refine (HKN.out _ (HT.out.alloc _).now.1).mono ?_; rintro e w1 ⟨rfl, hb⟩; have HT1 := hide ((HT.out.alloc _).step hb); have HB1 := hide (Below.step (show Below w.heap.size w (w.alloc _) from (Below.refl _ _).alloc (Nat.le_refl _) _) hb); clear hb; simp only [])
      | (go_at_call 140; go_must (refine (HXN.out _ HT1.out.now.2).mono ?_; rintro e w2 ⟨rfl, hb⟩; have HT2 := hide (HT1.out.step hb); have HB2 := hide (Below.step HB1.out hb); clear hb; simp only [])))
    go_ret2
    exact ⟨rfl, HB2.out⟩
def estV (x k : Int × Int) : Int × Int := ((nmul (ent x) (nconj (ent k))).1, (nmul (ent x) (nconj (ent k))).2.2.1)
def estL (k x : List (Int × Int)) : Nat → List (Int × Int) := tab fun i => estV (kg x i) (kg k i)
end Go.Proofs.Ythfmjohbokpceaa
