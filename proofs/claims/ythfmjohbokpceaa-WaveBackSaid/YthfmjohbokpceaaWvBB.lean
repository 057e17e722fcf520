import Derived.Test.YthfmjohbokpceaaListN
namespace Go.Proofs.Ythfmjohbokpceaa
open Go.RowKit Go.WideShapes Go.ChangeShapes

/-! samples that are turned on: program and reference -/
/-- the first n values of a function -/
def tab {α : Type} (f : Nat → α) (n : Nat) : List α := (List.range n).map f
theorem tab_succ {α : Type} (f : Nat → α) (n : Nat) : tab f (n + 1) = tab f n ++ [f n] := by simp [tab, List.range_succ]
theorem tab_len {α : Type} (f : Nat → α) (n : Nat) : (tab f n).length = n := by simp [tab]
theorem tab_at {α : Type} (f : Nat → α) {n k : Nat} (h : k < n) : (tab f n)[k]? = some (f k) := by simp [tab, h]
theorem tab_congr {α : Type} {f g : Nat → α} {n : Nat} (h : ∀ k, k < n → f k = g k) : tab f n = tab g n := by
  unfold tab; exact List.map_congr_left fun k hk => h k (by simpa using hk)
theorem mem_tab {α : Type} {f : Nat → α} {n : Nat} {x : α} (h : x ∈ tab f n) : ∃ k, k < n ∧ x = f k := by
  unfold tab at h
  obtain ⟨k, hk, rfl⟩ := List.mem_map.1 h
  exact ⟨k, by simpa using hk, rfl⟩
theorem nvs_snoc (l : List Nm) (z : Nm) : nvs (l ++ [z]) = nvs l ++ [.int .i64 z.1, .int .i64 z.2.1, .int .i64 z.2.2.1, .int .i64 z.2.2.2] := by rw [nvs_append]; rfl
theorem told_ok (A : Option Addr) (c m : Nat) (l : List Nm) (w : World) (hm : l.length = m) (hs : Sl w A (nvs l)) (hl : m ≤ 1000000) (h : ∀ z ∈ l, nle 1000000000 z) :
    Calls Try.prog 113 #[.slice A m c] w fun e w' => (∃ C k, e = .returned (.tuple #[.slice C m k, .int .i64 0]) ∧ Sl w' C (nvs l)) ∧ Below w.heap.size w w' := by
  subst hm
  refine (toldIf_wave A c l w hs hl).mono fun e w' ht => ?_
  have hall : l.all (fitsB 1000000000) = true := by rw [List.all_eq_true]; exact fun z hz => (fitsB_iff _ _).2 (h z hz)
  rcases ht with ⟨_, h1, h2⟩ | ⟨h1, _, _⟩
  · exact ⟨h1, h2⟩
  · rw [hall] at h1; exact absurd h1 (by decide)
theorem smpE_ok {l : List Nm} (h : smpE l = 0) : l.length ≤ 120 ∧ ∀ z ∈ l, nle 1000000000 z := by
  unfold smpE at h
  by_cases hl : 120 < l.length
  · rw [if_pos hl] at h; omega
  · rw [if_neg hl] at h
    exact ⟨by omega, fun z hz => numE_ok (eachE_ok h z hz)⟩
theorem kn_le' {l : List Nm} {m : Int} (hm : 0 ≤ m) (h : ∀ z ∈ l, nle m z) (i : Nat) : nle m (kn l i) := by
  unfold kn
  cases hi : l[i]? with
  | none => exact nle_zero hm
  | some z =>
    obtain ⟨hi', e⟩ := List.getElem?_eq_some_iff.1 hi
    exact h z (by rw [← e]; exact List.getElem_mem hi')
theorem kn_at {l : List Nm} {i : Nat} (h : i < l.length) : kn l i = l[i] := by unfold kn; rw [List.getElem?_eq_getElem h]; rfl
theorem Sl.atN {w : World} {A : Option Addr} {h : List Nm} (hs : Sl w A (nvs h)) {k : Nat} (hk : k < h.length) :
    ∃ b off, A = some ⟨b, off, none⟩ ∧ w.cell? ⟨b, off + k * 4, none⟩ = some (.int .i64 (kn h k).1) ∧ w.cell? ⟨b, off + k * 4 + 1, none⟩ = some (.int .i64 (kn h k).2.1) ∧ w.cell? ⟨b, off + k * 4 + 2, none⟩ = some (.int .i64 (kn h k).2.2.1) ∧ w.cell? ⟨b, off + k * 4 + 3, none⟩ = some (.int .i64 (kn h k).2.2.2) := by
  rw [kn_at hk]; exact hs.at4 hk
def shE (x : List Nm) (n : Int) : Int := firstOf [smpE x, unlessE (withinB n 0 7) 2]
def shL (x : List Nm) (n : Int) : Nat → List Nm := tab fun i => tni (kn x i) (n * (i : Int))
theorem shE_ok {x : List Nm} {n : Int} (h : shE x n = 0) : (x.length ≤ 120 ∧ ∀ z ∈ x, nle 1000000000 z) ∧ 0 ≤ n ∧ n ≤ 7 :=
  ⟨smpE_ok (firstOf_ok h _ (by simp)), eighths_ok (firstOf_ok h _ (by simp : unlessE (withinB n 0 7) 2 ∈ [smpE x, unlessE (withinB n 0 7) 2]))⟩
theorem mul_bd {n : Int} {k : Nat} {B : Nat} (h : 0 ≤ n) (h' : n ≤ 7) (hk : k ≤ B) : 0 ≤ n * (k : Int) ∧ n * (k : Int) ≤ 7 * (B : Int) := by
  have h1 : 0 ≤ n * (k : Int) := Int.mul_nonneg h (by omega)
  have h2 : n * (k : Int) ≤ 7 * (k : Int) := Int.mul_le_mul_of_nonneg_right h' (by omega)
  omega
set_option maxRecDepth 100000 in
set_option maxHeartbeats 2000000 in
theorem Shifted_err (A : Option Addr) (c : Nat) (x : List Nm) (n : Int) (w : World) (hs : Sl w A (nvs x)) (hl : x.length ≤ 1000000) (h : shE x n ≠ 0) :
    Calls Try.prog 48 #[.slice A x.length c, .int .i64 n] w fun e w' => e = .returned (.tuple #[.slice none 0 0, .int .i64 (shE x n)]) ∧ Below w.heap.size w w' := by
  have HE := hide (show shE x n = firstOf [smpE x, unlessE (withinB n 0 7) 2] from rfl)
  have hq : (firstOf [smpE x, unlessE (withinB n 0 7) 2] != 0) = true := by rw [← HE.out, bne_iff_ne]; exact h
  have HS := hide hs
  clear hs h
  go_enter Try.func48, Try.ntmps48
  go_wp2_with (first
    | (go_at_call 108; go_must (refine (samplesErr_wave A c x _ HS.out hl).mono ?_; rintro e w1 ⟨rfl, hb1⟩; have b1 := hb1; have z1 := b1.size; clear hb1; simp only []))
    | (go_at_call 127; refine (eighthsErr_wave _ _).mono ?_; rintro e w' ⟨rfl, rfl⟩; simp only [])
    | (go_at_call 107; go_must (refine (first2 _ _ _ _ (by simp)).mono ?_; rintro e w' ⟨rfl, rfl⟩; simp only [])))
  go_ret2
  exact ⟨by rw [HE.out]; rfl, by go_grown⟩
set_option maxRecDepth 100000 in
set_option maxHeartbeats 4000000 in
theorem Shifted_ok (A : Option Addr) (c m : Nat) (x : List Nm) (n : Int) (w : World) (hm : x.length = m) (hs : Sl w A (nvs x)) (h : shE x n = 0) :
    Calls Try.prog 48 #[.slice A m c, .int .i64 n] w fun e w' => (∃ C k, e = .returned (.tuple #[.slice C m k, .int .i64 0]) ∧ Sl w' C (nvs (shL x n m))) ∧ Below w.heap.size w w' := by
  obtain ⟨i0, hi0, hz0, hz1, hz2⟩ := info_parts nu_info
  have HE := hide (show firstOf [smpE x, unlessE (withinB n 0 7) 2] = 0 from h)
  obtain ⟨⟨hl, hx⟩, hn, hn'⟩ := shE_ok h
  rw [hm] at hl
  have HSM := hide (fun W (h1 : Sl W A (nvs x)) => by have := samplesErr_wave A c x W h1 (by omega); rw [hm] at this; exact this)
  have HX := hide (kn_le' (by omega : (0 : Int) ≤ 1000000000) hx)
  have HS := hide (fun k (hk : k < m) => hs.atN (k := k) (by rw [hm]; exact hk))
  have HS0 := hide hs
  have HSC := hide (tab_succ fun i => tni (kn x i) (n * (i : Int)))
  have HSH : shL x n = tab fun i => tni (kn x i) (n * (i : Int)) := rfl
  have HFIN := hide (fun C k W (h1 : Sl W C (nvs (shL x n m))) => told_ok C k m (shL x n m) W (tab_len _ m) h1 (by omega) (fun z hz => by
    obtain ⟨i, _, rfl⟩ := mem_tab hz
    exact nle_tni (kn_le' (by omega) hx i) _))
  rw [HSH] at HFIN
  rw [HSH]
  obtain ⟨T, hT⟩ : ∃ T : Nat → List Nm, T = tab fun i => tni (kn x i) (n * (i : Int)) := ⟨_, rfl⟩
  rw [← hT] at HFIN HSC
  rw [← hT]
  have HT0 : T 0 = [] := by rw [hT]; rfl
  have HT0' := hide HT0
  clear hs h hx hm HSH hT HT0
  go_enter Try.func48, Try.ntmps48
  go_wp2_with (first
    | (go_at_call 108; go_must (refine (HSM.out _ HS0.out).mono ?_; rintro e w1 ⟨rfl, hb1⟩; have b1 := hb1; have z1 := b1.size; clear hb1; simp only []))
    | (go_at_call 127; refine (eighthsErr_wave _ _).mono ?_; rintro e w' ⟨rfl, rfl⟩; simp only [])
    | (go_at_call 107; go_must (refine (first2 _ _ _ _ (by simp)).mono ?_; rintro e w' ⟨rfl, rfl⟩; rw [HE.out]; simp only [])))
  have b2 : Below w.heap.size w (w1.alloc (.cells #[.int .i64 (smpE x), .int .i64 (unlessE (withinB n 0 7) 2)] 25)) := by go_grown
  go_loopw [7, 21] (fun o i wr => ∃ (k : Nat) (C : Option Addr) (c1 : Nat), k ≤ m ∧ i = .int .i64 k ∧ o = .slice C k c1 ∧ wr.ownsRow w.heap.size 162 4 (.slice C k c1) k (nvs (T k)) ∧ Below w.heap.size w wr) (fun _ i _ => m - (intOf i).toNat)
  case atStart => exact ⟨0, none, 0, Nat.zero_le _, rfl, rfl, by rw [HT0'.out]; exact World.ownsRow_nil _ _ _ _, b2⟩
  case round =>
    obtain ⟨k, C, c1, hk, rfl, rfl, hrow, hbel⟩ := hrel
    have hbz := hbel.size
    by_cases hlt : k < m
    · obtain ⟨b, off, rfl, e0, e1, e2, e3⟩ := HS.out k hlt
      have d0 := (hbel.cell (p := ⟨b, off + k * 4, none⟩) (lt_of_cell e0)).trans e0
      have d1 := (hbel.cell (p := ⟨b, off + k * 4 + 1, none⟩) (lt_of_cell e1)).trans e1
      have d2 := (hbel.cell (p := ⟨b, off + k * 4 + 2, none⟩) (lt_of_cell e2)).trans e2
      have d3 := (hbel.cell (p := ⟨b, off + k * 4 + 3, none⟩) (lt_of_cell e3)).trans e3
      have hle := HX.out k
      have hsc := HSC.out k
      obtain ⟨q1, q2⟩ := mul_bd hn hn' (by omega : k ≤ 120)
      obtain ⟨z, hz⟩ : ∃ z, kn x k = z := ⟨_, rfl⟩
      rw [hz] at d0 d1 d2 d3 hle
      rw [hz] at hsc
      obtain ⟨p, hp⟩ : ∃ p, n * (k : Int) = p := ⟨_, rfl⟩
      rw [hp] at q1 q2 hsc
      have HP := hide hp
      have HT := hide (fun W => turned_wave z p W (nle_mono hle (by omega)) (by omega) (by omega))
      obtain ⟨y, hy⟩ : ∃ y, tni z p = y := ⟨_, rfl⟩
      rw [hy] at hsc HT
      have HSC2 := hide (show nvs (T (k + 1)) = nvs (T k) ++ [.int .i64 y.1, .int .i64 y.2.1, .int .i64 y.2.2.1, .int .i64 y.2.2.2] by rw [hsc, nvs_snoc])
      have HROW := hide hrow
      have hwp : IntKind.i64.wrap (n * (k : Int)) = p := by rw [hp]; exact IntWalk.i64_in _ (by omega)
      have hz1' := b2.size
      clear hle hsc hz hy hrow e0 e1 e2 e3 b1 z1 hp
      go_wp2_with (first
        | (at_builtin; go_must (
             refine wpList_append_own _ rfl _ _ 160 rfl w.heap.size 162 i0 _ 4 32 Try.underlying160 hi0 hz0 hz1 hz2 rfl (by decide) (.slice C k c1) k (nvs (T k)) rfl (HROW3.out.alloc _) ⟨w4.heap.size, 0, none⟩ 1 1 [.int .i64 y.1, .int .i64 y.2.1, .int .i64 y.2.2.1, .int .i64 y.2.2.2] rfl rfl (cells_new _ _ _) (by simp [Value.oneCell']) (by simp only [maxLen]; omega) (by omega) (by simp; omega) ?_
             intro v' w5 hown' hgrow _
             obtain ⟨C2, k2, rfl⟩ := own_form hown'
             have hbel' := Below.app b4 HROW3.out hgrow))
        | (go_at_call 110; go_must (refine (numberOf_wave z _).mono ?_; rintro e w3 ⟨rfl, hb3⟩; have b3 : Below w.heap.size w w3 := Below.step (by go_grown) hb3; have HROW2 := hide (own_bel (HROW.out.alloc (.cells (ncells z) 38)) hb3); clear hb3; simp only []))
        | (go_at_call 128; go_must (refine (HT.out _).mono ?_; rintro e w4 ⟨rfl, hb4⟩; have b4 : Below w.heap.size w w4 := Below.step b3 hb4; have HROW3 := hide (own_bel HROW2.out hb4); have z4 := b4.size; clear hb4; simp only [])))
      go_roundw
      case rel => exact ⟨k + 1, C2, k2, by omega, by go_num, rfl, by rw [HSC2.out]; exact hown', hbel'⟩
      case measure => simp [intOf]; omega
    · obtain rfl : k = m := by omega
      have HROW := hide hrow
      clear hrow b1 z1
      go_wp2_with (go_at_call 113; go_must (refine (HFIN.out _ _ _ (Sl.of_ownN HROW.out)).mono ?_; rintro e w5 ⟨⟨C5, k5, rfl, hs5⟩, hb5⟩; have HS5 := hide hs5; have b5 := Below.step hbel hb5; clear hs5 hb5; simp only []))
      go_ret2
      exact ⟨⟨C5, k5, rfl, HS5.out⟩, b5⟩
end Go.Proofs.Ythfmjohbokpceaa
