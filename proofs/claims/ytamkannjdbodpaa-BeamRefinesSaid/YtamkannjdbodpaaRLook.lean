import Derived.Test.YtamkannjdbodpaaGainsB
import Derived.Test.YtamkannjdbodpaaRefd
namespace Go.Proofs.Ytamkannjdbodpaa
open Go.RowKit Go.WideShapes Go.ChangeShapes

theorem responseOf_n (A : Option Addr) (c : Nat) (l : List Int) (n : Nat) (step : Int) (w : World) (hn : l.length = n) (hs : Sl w A (iv l)) (hl : n ≤ 100) (hok : OnOk l) (h0 : 0 ≤ step) (h7 : step ≤ 7) :
    Calls Try.prog 49 #[.agg #[.slice A n c], .int .i64 step] w fun e w' => e = .returned (.agg (resp l step).cells) ∧ Below w.heap.size w w' := by
  subst hn
  exact responseOf_ref A c l step w hs hl hok h0 h7
/-- a steering beam, switched off up to place i -/
def mixL (k m : Int) (i : Nat) : List Int := (List.range 8).map (fun j => if j < i then steerAt k m j else steerAt k 1 j)
theorem mixL_len (k m : Int) (i : Nat) : (mixL k m i).length = 8 := by simp [mixL]
theorem mixL_zero (k m : Int) : mixL k m 0 = steerL k 1 8 := by simp [mixL, steerL]
theorem mixL_all (k m : Int) : mixL k m 8 = steerL k m 8 := by
  unfold mixL steerL
  apply List.map_congr_left
  intro j hj
  rw [if_pos (by simpa using hj)]
theorem steerAt_on {k m : Int} {i : Nat} (h : (i : Int) % m = 0) : steerAt k m i = steerAt k 1 i := by
  unfold steerAt; rw [if_pos h, if_pos (Int.emod_one _)]
theorem mixL_on {k m : Int} {i : Nat} (h : (i : Int) % m = 0) : mixL k m (i + 1) = mixL k m i := by
  unfold mixL
  apply List.map_congr_left
  intro j hj
  by_cases h1 : j < i
  · rw [if_pos h1, if_pos (by omega)]
  · by_cases h2 : j = i
    · subst h2; rw [if_pos (by omega), if_neg h1, steerAt_on h]
    · rw [if_neg h1, if_neg (by omega)]
theorem mixL_get (k m : Int) (i j : Nat) (h : j < (mixL k m i).length) : (mixL k m i)[j] = if j < i then steerAt k m j else steerAt k 1 j := by simp [mixL]
theorem mixL_off {k m : Int} {i : Nat} (h : (i : Int) % m ≠ 0) : (mixL k m i).set i (-1) = mixL k m (i + 1) := by
  apply List.ext_getElem
  · simp [mixL]
  · intro j h1 h2
    rw [List.getElem_set, mixL_get, mixL_get]
    by_cases e : i = j
    · subst e; rw [if_pos rfl, if_pos (by omega)]; unfold steerAt; rw [if_neg h]
    · rw [if_neg e]
      by_cases h3 : j < i
      · rw [if_pos h3, if_pos (by omega)]
      · rw [if_neg h3, if_neg (by omega)]

set_option maxRecDepth 100000 in
set_option maxHeartbeats 4000000 in
theorem look_ref (m k step : Int) (w : World) (hm : m = 4 ∨ m = 2 ∨ m = 1) (hk0 : 0 ≤ k) (hk1 : k ≤ 1000) (h0 : 0 ≤ step) (h7 : step ≤ 7) :
    Calls Try.prog 113 #[.int .i64 m, .int .i64 k, .int .i64 step] w fun e w' => ∃ A c, e = .returned (.agg #[.slice A 8 c, .int .i64 (resp (steerL k m 8) step).P, .int .i64 (resp (steerL k m 8) step).Q]) ∧ w'.ownsRow w.heap.size 3 1 (.slice A 8 c) 8 (iv (steerL k m 8)) ∧ Below w.heap.size w w' := by
  have K0 := hide (Blk.new w 150 #[.slice none 0 0, .int .i64 0, .int .i64 0])
  have hm1 : 1 ≤ m ∧ m ≤ 4 := by omega
  obtain ⟨m1, m4⟩ := hm1
  go_enter Try.func113, Try.ntmps113
  go_wp2_with (go_at_call 27; go_must (refine (steering_ref 8 k _ (by omega) (by omega) (by omega)).mono ?_; rintro e w1 ⟨A1, c1, rfl, ho1, hb1⟩; rw [OwnI, steerL_len] at ho1; have b1 : Below w.heap.size w w1 := Below.step (by go_grown) hb1; have B0 := K0.out.below hb1 (by first | omega | (simp; done) | (simp; omega)); have ho := ho1.weaken (base' := w.heap.size) (by first | omega | (simp; done) | (simp; omega)); clear hb1; simp only []))
  obtain ⟨g, cap, hv, hgb, hgl⟩ := ho1.form (by omega)
  obtain ⟨rfl, rfl⟩ : A1 = some ⟨g, 0, none⟩ ∧ c1 = cap := by injection hv with h1 h2 h3; exact ⟨h1, h3⟩
  clear hv ho1 hgb
  have y0 := B0.lt
  have HO := hide ho; clear ho
  have KB := hide (Blk.new w1 24 #[.slice (some ⟨g, 0, none⟩) 8 c1])
  have KL := hide (B0.alloc (.cells #[.slice (some ⟨g, 0, none⟩) 8 c1] 24))
  have KO := hide (HO.out.alloc (.cells #[.slice (some ⟨g, 0, none⟩) 8 c1] 24))
  have KBEL := hide (b1.alloc b1.size (.cells #[.slice (some ⟨g, 0, none⟩) 8 c1] 24))
  clear B0 K0
  go_loopw [8] (fun i wr => ∃ n : Nat, n ≤ 8 ∧ i = .int .i64 n ∧ wr.ownsRow w.heap.size 3 1 (.slice (some ⟨g, 0, none⟩) 8 c1) 8 (iv (mixL k m n)) ∧ Blk wr w.heap.size 150 #[.slice none 0 0, .int .i64 0, .int .i64 0] ∧ Blk wr w1.heap.size 24 #[.slice (some ⟨g, 0, none⟩) 8 c1] ∧ Below w.heap.size w wr) (fun i _ => 8 - (intOf i).toNat)
  case atStart => exact ⟨0, by omega, rfl, by rw [mixL_zero]; exact KO.out, KL.out, KB.out, KBEL.out⟩
  case round =>
    obtain ⟨n, hn, rfl, hrow, hl, hbm, hbel⟩ := hrel
    have d0 : wr.cell? ⟨w1.heap.size, 0, none⟩ = some (.slice (some ⟨g, 0, none⟩) 8 c1) := hbm.cell 0
    have yb := hbm.lt
    have yl := hl.lt
    by_cases hlt : n < 8
    · have et : ((n : Int)).tmod m = (n : Int) % m := Int.tmod_eq_emod_of_nonneg (by omega)
      have er0 := Int.emod_nonneg (n : Int) (show m ≠ 0 by omega)
      have er1 := Int.emod_lt_of_pos (n : Int) (show 0 < m by omega)
      have hnl : n < (mixL k m n).length := by rw [mixL_len]; exact hlt
      have e0 : wr.cell? ⟨g, n, none⟩ = some (.int .i64 (mixL k m n)[n]) := (hrow.cellAt n (by omega)).trans (by simp [iv, List.getElem?_eq_getElem hnl])
      have e1 := hrow.frozenAt n
      by_cases hr : (n : Int) % m = 0
      · have hd : ((n : Int) % m != 0) = false := by simp [hr]
        have hst := hide (mixL_on (k := k) hr)
        clear hr
        go_wp2
        go_roundw
        case rel => exact ⟨n + 1, by omega, by go_num, by rw [hst.out]; exact hrow, hl, hbm, hbel⟩
        case measure => simp [intOf]; omega
      · have hd : ((n : Int) % m != 0) = true := by simp [hr]
        have hst := hide (mixL_off (k := k) hr)
        clear hr
        have HROW := hide hrow; clear hrow
        go_wp2
        go_roundw
        case rel =>
          have hs := HROW.out.stored n (.int .i64 (-1))
          refine ⟨n + 1, by omega, by go_num, by rw [← hst.out, show iv ((mixL k m n).set n (-1)) = (iv (mixL k m n)).set n (.int .i64 (-1)) by simp [iv]]; exact hs.1, ?_, ?_, ?_⟩
          · exact hl.grown hs.2 (fun h => own_blk_ne HROW.out hl (by decide) (by simpa [Value.ownBlock] using h.symm))
          · exact hbm.grown hs.2 (fun h => own_blk_ne HROW.out hbm (by decide) (by simpa [Value.ownBlock] using h.symm))
          · exact hbel.grown hs.2 hbel.size (fun j h => by cases h; exact (HROW.out.lt _ rfl).1)
        case measure => simp [intOf]; omega
    · obtain rfl : n = 8 := by omega
      rw [mixL_all] at hrow
      have hsl := hide (Sl.of_own hrow)
      have hle := hide ((respS_le step (onUpto (steerL k m 8) (steerL k m 8).length)).mono (m' := 1000000000) (by have := onUpto_len (steerL k m 8) (steerL k m 8).length; rw [steerL_len] at this ⊢; omega))
      have hle2 : Hid ((resp (steerL k m 8) step).le 1000000000) := hle
      clear hle
      obtain ⟨X, hX⟩ : ∃ X, resp (steerL k m 8) step = X := ⟨_, rfl⟩
      rw [hX] at hle2
      have HX := hide hX; clear hX
      go_wp2
      go_region_with
        (first
          | (go_at_call 49; go_must (refine (responseOf_n _ c1 (steerL k m 8) 8 step _ (steerL_len _ _ _) (hsl.out.bel (by first | exact Below.drew (Below.refl _ _) | go_grown)) (by omega) (steerL_ok _ _ _) h0 h7).mono ?_; rw [HX.out]; rintro e w2 ⟨rfl, hb2⟩; have b2 : Below wr.heap.size wr w2 := Below.step (by first | exact Below.drew (Below.refl _ _) | go_grown) hb2; have i0 := (hbm.below b2 yb).cell 0; clear hb2))
          | (go_at_call 50; go_must (refine (squareOf_ref X hle2.out _).mono ?_; rintro e w3 ⟨rfl, hb3⟩; have b3 : Below wr.heap.size wr w3 := Below.step b2 hb3; have i1 := (hbm.below b3 yb).cell 0; have L3 := hl.below b3 yl; have O3 := own_bel hrow b3; have j0 := L3.cell 0; have j1 := L3.cell 1; have j2 := L3.cell 2; have f0 := L3.frozen 0; have f1 := L3.frozen 1; have f2 := L3.frozen 2; have bw3 := Below.step hbel b3; clear hb3; simp at i1 j0 j1 j2)))
      all_goals
        go_wp2
        have L4 := ((L3.set_ 0 (.slice (some ⟨g, 0, none⟩) 8 c1)).set_ 1 (.int .i64 X.P)).set_ 2 (.int .i64 X.Q)
        have O4 := own_far (u := .int .i64 X.Q) (i := 2) (own_far (u := .int .i64 X.P) (i := 1) (own_far (u := .slice (some ⟨g, 0, none⟩) 8 c1) (i := 0) O3 L3 (by decide)) (L3.set_ 0 _) (by decide)) ((L3.set_ 0 _).set_ 1 _) (by decide)
        have B4 := ((bw3.setCell (p := ⟨w.heap.size, 0, none⟩) (by first | omega | (simp; done) | (simp; omega)) (.slice (some ⟨g, 0, none⟩) 8 c1)).setCell (p := ⟨w.heap.size, 1, none⟩) (by first | omega | (simp; done) | (simp; omega)) (.int .i64 X.P)).setCell (p := ⟨w.heap.size, 2, none⟩) (by first | omega | (simp; done) | (simp; omega)) (.int .i64 X.Q)
        clear L3 O3 bw3 i0 i1 j0 j1 j2 f0 f1 f2 b2 b3 hrow hl hbm hbel d0
        revert L4 O4 B4
        generalize World.setCell _ _ _ = W
        intro L4 O4 B4
        have e0 : W.cell? ⟨w.heap.size, 0, none⟩ = some (.slice (some ⟨g, 0, none⟩) 8 c1) := L4.cell 0
        have e1 : W.cell? ⟨w.heap.size, 1, none⟩ = some (.int .i64 X.P) := L4.cell 1
        have e2 : W.cell? ⟨w.heap.size, 2, none⟩ = some (.int .i64 X.Q) := L4.cell 2
        refine bodyPost_ret (v := .agg #[.slice (some ⟨g, 0, none⟩) 8 c1, .int .i64 X.P, .int .i64 X.Q]) (by simp [results, Try.results113, go_sem, e0, e1, e2]) rfl ⟨_, _, by rw [HX.out], O4, B4⟩
end Go.Proofs.Ytamkannjdbodpaa
