import Derived.Test.YthfmjohbokpceaaOffLaw
import Derived.Test.YthfmjohbokpceaaStay
import Derived.Test.YthfmjohbokpceaaWvW
namespace Go.Proofs.Ythfmjohbokpceaa
open Go.RowKit Go.WideShapes Go.ChangeShapes

/-! the statement WaveOffsets -/
theorem eighths_cases (n : Int) : (unlessE (withinB n 0 7) 2 = 0 ∧ ∃ k : Nat, n = k ∧ k ≤ 7) ∨ unlessE (withinB n 0 7) 2 = 2 := by
  unfold unlessE withinB
  by_cases h1 : 0 ≤ n
  · by_cases h2 : n ≤ 7
    · rw [decide_eq_true h1, decide_eq_true h2]
      exact .inl ⟨rfl, n.toNat, by omega, by omega⟩
    · rw [decide_eq_false h2, Bool.and_false]; exact .inr rfl
  · rw [decide_eq_false h1]; exact .inr rfl
theorem Sl.none_nil (w : World) : Sl w none (nvs []) := fun k h => absurd h (by simp [nvs])
theorem shE_two {x : List Nm} {n : Int} (h : smpE x = 0) : shE x n = unlessE (withinB n 0 7) 2 := by
  unfold shE firstOf
  rw [if_pos h, firstOf]
  split
  · rename_i h'; rw [h']; rfl
  · rfl
theorem shE_one {x : List Nm} {n : Int} (h : smpE x ≠ 0) : shE x n = smpE x := by
  unfold shE firstOf
  rw [if_neg h]
theorem offE_shL {a : List Nm} {n : Int} (h : offE a a = 0) : offE a (shL a n a.length) = 0 := by
  obtain ⟨h1, h2, h3, h4, _⟩ := offE_ok h
  unfold offE
  have hl : (shL a n a.length).length = a.length := tab_len _ _
  rw [if_neg (by omega), if_neg (by omega)]
  refine eachE_zero fun z hz => ?_
  have hz' : nle 100 z := by
    rcases List.mem_append.1 hz with q | q
    · exact h4 z q
    · obtain ⟨i, _, rfl⟩ := mem_tab q
      exact nle_tni (kn_le h4 i) _
  unfold kE unlessE
  rw [(fitsB_iff _ _).2 hz']; rfl

set_option maxRecDepth 100000 in
set_option maxHeartbeats 20000000 in
theorem WaveOffsets_law (A0 : Option Addr) (c0 : Nat) (a : List Nm) (A1 : Option Addr) (c1 : Nat) (x : List Nm) (n : Int) (w : World) (hs0 : Sl w A0 (nvs a)) (hs1 : Sl w A1 (nvs x)) :
    Calls Try.prog 8 #[.slice A0 a.length c0, .slice A1 x.length c1, .int .i64 n] w fun e w' => e = .returned (.bool true) ∧ Below w.heap.size w w' := by
  have HT := hide (((stay_sl hs0).and (stay_sl hs1)).and (stay_below (Below.refl w.heap.size w)))
  by_cases hl0 : 18 < a.length
  · clear HT hs0 hs1
    go_enter Try.func8, Try.ntmps8
    go_wp2_with (go_at_call 20; go_must (refine (awake_ok _).mono ?_; rintro e w1 ⟨rfl, hb1⟩; simp only []))
    go_ret
    exact ⟨rfl, hb1⟩
  have hl0' : a.length ≤ 18 := by omega
  by_cases hl1 : 18 < x.length
  · clear HT hs0 hs1
    go_enter Try.func8, Try.ntmps8
    go_wp2_with (go_at_call 20; go_must (refine (awake_ok _).mono ?_; rintro e w1 ⟨rfl, hb1⟩; simp only []))
    go_ret
    exact ⟨rfl, hb1⟩
  have hl1' : x.length ≤ 18 := by omega
  clear hl0 hl1
  obtain ⟨U, HEI, hU⟩ : ∃ U : Int, Hid (∀ W, Calls Try.prog 37 #[.int .i64 n] W fun e w' => e = .returned (.int .i64 U) ∧ W = w') ∧ ((U = 0 ∧ ∃ k : Nat, n = k ∧ k ≤ 7) ∨ U = 2) ∧ U = unlessE (withinB n 0 7) 2 :=
    ⟨_, hide (fun W => eighthsErr_ref n W), eighths_cases n, rfl⟩
  obtain ⟨hU, hUe⟩ := hU
  obtain ⟨E, S, m, L, HSHI, HSM, hsh⟩ : ∃ (E S : Int) (m : Nat) (L : List Nm), Hid (∀ B cb W, Sl W B (nvs x) → Calls Try.prog 48 #[.slice B x.length cb, .int .i64 n] W fun e w' => ∃ C k, e = .returned (.tuple #[.slice C m k, .int .i64 E]) ∧ Sl w' C (nvs L) ∧ Below W.heap.size W w') ∧
      Hid (∀ W, Sl W A1 (nvs x) → Calls Try.prog 51 #[.slice A1 x.length c1] W fun e w' => e = .returned (.int .i64 S) ∧ Below W.heap.size W w') ∧
      ((E = S ∧ (S != 0) = true ∧ (S == 0) = false ∧ m = 0 ∧ L = []) ∨ (S = 0 ∧ E = U ∧ U = 2 ∧ m = 0 ∧ L = []) ∨
        (S = 0 ∧ E = 0 ∧ U = 0 ∧ m = x.length ∧ L.length = x.length ∧ Hid (∀ W, Sl W A1 (nvs x) → Calls Try.prog 53 #[.slice A1 x.length c1, .int .i64 n] W fun e w' => ∃ C k, e = .returned (.slice C x.length k) ∧ Sl w' C (nvs L) ∧ Below W.heap.size W w') ∧
          Hid (∀ B D cb cd W, Sl W B (nvs L) → Sl W D (nvs L) → Calls Try.prog 52 #[.slice B x.length cb, .slice D x.length cd] W fun e w' => e = .returned (.bool true) ∧ ∃ q, w' = W.drewN q))) := by
    by_cases h1 : smpE x = 0
    · have h2 := shE_two (n := n) h1
      rw [← hUe] at h2
      have hsm : ∀ W, Sl W A1 (nvs x) → Calls Try.prog 51 #[.slice A1 x.length c1] W fun e w' => e = .returned (.int .i64 0) ∧ Below W.heap.size W w' := fun W h => by
        have := samplesErr_ref A1 c1 x W h (by omega)
        rw [h1] at this
        exact this
      rcases hU with ⟨hU0, _⟩ | hU2
      · rw [hU0] at h2
        have hL : (shL x n x.length).length = x.length := tab_len _ _
        refine ⟨0, 0, x.length, shL x n x.length, hide (fun B cb W h => (Shifted_ok B cb x.length x n W rfl h h2).mono fun e w' ⟨⟨C, k, h3, h4⟩, h5⟩ => ⟨C, k, h3, h4, h5⟩), hide hsm, .inr (.inr ⟨rfl, rfl, hU0, rfl, hL, hide (fun W h => Shifted_ref A1 c1 x.length x n W rfl h h2), hide (fun B D cb cd W h h' => ?_)⟩)⟩
        have := sameNum B D cb cd _ _ W h h' (by omega) (by omega)
        rw [hL, decide_eq_true rfl] at this
        exact this
      · rw [hU2] at h2
        refine ⟨2, 0, 0, [], hide (fun B cb W h => ?_), hide hsm, .inr (.inl ⟨rfl, hU2.symm, hU2, rfl, rfl⟩)⟩
        have := Shifted_err B cb x n W h (by omega) (by rw [h2]; decide)
        rw [h2] at this
        exact this.mono fun e w' ⟨h3, h4⟩ => ⟨none, 0, h3, Sl.none_nil _, h4⟩
    · have h2 := shE_one (n := n) h1
      refine ⟨smpE x, smpE x, 0, [], hide (fun B cb W h => ?_), hide (fun W h => samplesErr_ref A1 c1 x W h (by omega)), .inl ⟨rfl, by rw [bne_iff_ne]; exact h1, by rw [beq_eq_false_iff_ne]; exact h1, rfl, rfl⟩⟩
      have := Shifted_err B cb x n W h (by omega) (by rw [h2]; exact h1)
      rw [h2] at this
      exact this.mono fun e w' ⟨h3, h4⟩ => ⟨none, 0, h3, Sl.none_nil _, h4⟩
  obtain ⟨N, G, HOFF, HKE, hoff⟩ : ∃ N G : Int, Hid (∀ B D cb cd W, Sl W B (nvs a) → Sl W D (nvs x) → Calls Try.prog 50 #[.slice B a.length cb, .slice D x.length cd] W fun e w' => e = .returned (.tuple #[.int .i64 N, .int .i64 G]) ∧ Below W.heap.size W w') ∧
      Hid (∀ W, Sl W A0 (nvs a) → Sl W A1 (nvs x) → Calls Try.prog 54 #[.slice A0 a.length c0, .slice A1 x.length c1] W fun e w' => e = .returned (.int .i64 G) ∧ Below W.heap.size W w') ∧
      (((G != 0) = true ∧ (G == 0) = false ∧ N = 0) ∨ (G = 0 ∧ Hid (∀ W, Sl W A0 (nvs a) → Sl W A1 (nvs x) → Calls Try.prog 55 #[.slice A0 a.length c0, .slice A1 x.length c1] W fun e w' => e = .returned (.int .i64 N) ∧ Below W.heap.size W w'))) := by
    have hke := fun W (h : Sl W A0 (nvs a)) (h' : Sl W A1 (nvs x)) => knownErr_ref A0 A1 c0 c1 a x W h h' (by omega) (by omega)
    by_cases h1 : offE a x = 0
    · obtain ⟨_, hlen, _⟩ := offE_ok h1
      rw [h1] at hke
      refine ⟨(offSt a x 8).1, 0, hide (fun B D cb cd W h h' => ?_), hide hke, .inr ⟨rfl, hide (fun W h h' => ?_)⟩⟩
      · have := offsetOf_ok B D cb cd a.length a x W rfl h h' h1
        rw [hlen]; exact this
      · have := offsetOf_ref A0 A1 c0 c1 a.length a x W rfl h h' h1
        rw [hlen]; exact this
    · exact ⟨0, offE a x, hide (fun B D cb cd W h h' => OffsetOf_err B D cb cd a x W h h' (by omega) (by omega) h1), hide hke, .inl ⟨by rw [bne_iff_ne]; exact h1, by rw [beq_eq_false_iff_ne]; exact h1, rfl⟩⟩
  obtain ⟨K, HKK, htail⟩ : ∃ K : Int, Hid (∀ W, Sl W A0 (nvs a) → Calls Try.prog 54 #[.slice A0 a.length c0, .slice A0 a.length c0] W fun e w' => e = .returned (.int .i64 K) ∧ Below W.heap.size W w') ∧
      (U = 2 ∨ (U = 0 ∧ a.length < 2) ∨ (U = 0 ∧ 2 ≤ a.length ∧ (K != 0) = true) ∨ (U = 0 ∧ 2 ≤ a.length ∧ K = 0 ∧ kn a 0 = n0) ∨ (U = 0 ∧ 2 ≤ a.length ∧ K = 0 ∧ kn a 0 ≠ n0 ∧ kn a 1 = n0) ∨
        (U = 0 ∧ 2 ≤ a.length ∧ K = 0 ∧ kn a 0 ≠ n0 ∧ kn a 1 ≠ n0 ∧ ∃ L2 : List Nm, Hid (∀ B cb W, Sl W B (nvs a) → Calls Try.prog 48 #[.slice B a.length cb, .int .i64 n] W fun e w' => ∃ C k, e = .returned (.tuple #[.slice C a.length k, .int .i64 0]) ∧ Sl w' C (nvs L2) ∧ Below W.heap.size W w') ∧
          Hid (∀ B D cb cd W, Sl W B (nvs a) → Sl W D (nvs L2) → Calls Try.prog 50 #[.slice B a.length cb, .slice D a.length cd] W fun e w' => e = .returned (.tuple #[.int .i64 n, .int .i64 0]) ∧ Below W.heap.size W w'))) := by
    have hkk := fun W (h : Sl W A0 (nvs a)) => knownErr_ref A0 A0 c0 c0 a a W h h (by omega) (by omega)
    refine ⟨offE a a, hide hkk, ?_⟩
    rcases hU with ⟨hU0, k, rfl, hk⟩ | hU2
    · refine .inr ?_
      by_cases h2 : a.length < 2
      · exact .inl ⟨hU0, h2⟩
      · refine .inr ?_
        by_cases hK : offE a a = 0
        · refine .inr ?_
          by_cases q0 : kn a 0 = n0
          · exact .inl ⟨hU0, by omega, hK, q0⟩
          · refine .inr ?_
            by_cases q1 : kn a 1 = n0
            · exact .inl ⟨hU0, by omega, hK, q0, q1⟩
            · obtain ⟨_, _, ha16, hle, _⟩ := offE_ok hK
              have hse : shE a (k : Int) = 0 := by
                have hsm : smpE a = 0 := by
                  unfold smpE
                  rw [if_neg (by omega)]
                  refine eachE_zero fun z hz => ?_
                  unfold numE unlessE
                  rw [(fitsB_iff _ _).2 (nle_mono (hle z hz) (by decide))]; rfl
                rw [shE_two hsm, ← hUe, hU0]
              refine .inr ⟨hU0, by omega, hK, q0, q1, shL a k a.length, hide (fun B cb W h => (Shifted_ok B cb a.length a k W rfl h hse).mono fun e w' ⟨⟨C, k, h3, h4⟩, h5⟩ => ⟨C, k, h3, h4, h5⟩), hide (fun B D cb cd W h h' => ?_)⟩
              have := offsetOf_ok B D cb cd a.length a (shL a k a.length) W rfl h h' (offE_shL hK)
              rw [off_law a k hk (by omega) q0 q1] at this
              exact this
        · exact .inl ⟨hU0, by omega, by rw [bne_iff_ne]; exact hK⟩
    · exact .inl hU2
  have HAT := hide (fun W (h : Sl W A0 (nvs a)) k (hk : k < a.length) => h.atN hk)
  have HNIL := hide (fun (h : 2 ≤ a.length) => hs0.all (by rw [nvs_len]; omega))
  clear hs0 hs1 hU hUe
  have hl0 : a.length ≤ 1000000 := by omega
  have hl1 : x.length ≤ 1000000 := by omega
  rcases htail with rfl | ⟨rfl, hlen⟩ | ⟨rfl, hlen, hK⟩ | ⟨rfl, hlen, rfl, q0⟩ | ⟨rfl, hlen, rfl, q0, q1⟩ | ⟨rfl, hlen, rfl, q0, q1, L2, HSA, HOA⟩
  · rcases hsh with ⟨rfl, hS1, hS2, rfl, rfl⟩ | ⟨rfl, rfl, h2, rfl, rfl⟩ | ⟨rfl, rfl, h2, rfl, hL, HSR, HSAME⟩
    all_goals first | exact absurd h2 (by decide) | skip
    all_goals rcases hoff with ⟨hG1, hG2, rfl⟩ | ⟨rfl, HOR⟩
    all_goals
      go_enter Try.func8, Try.ntmps8
      go_wp2_with (first
        | (go_at_call 20; go_must (refine (awake_ok _).mono ?_; rintro e w1 ⟨rfl, hb⟩; replace HT := hide (HT.out.step hb); clear hb; simp only []))
        | (go_at_call 49; (with_reducible refine (copyNum A1 c1 x _ HT.out.now.1.2 hl1).mono ?_); rintro e w2 ⟨D, kd, rfl, ho, hb⟩; replace HT := hide (HT.out.step hb); have HDX := hide (Sl.of_ownN ho); (try replace HDK := hide (HDK.out.bel hb)); (try replace HSL := hide (HSL.out.step hb)); clear hb ho; simp only [])
        | (go_at_call 49; (with_reducible refine (copyNum _ c0 a _ HT.out.now.1.1 hl0).mono ?_); rintro e w4 ⟨D', kd', rfl, ho, hb⟩; replace HT := hide (HT.out.step hb); have HDK := hide (Sl.of_ownN ho); (try replace HSL := hide (HSL.out.step hb)); (try replace HSL2 := hide (HSL2.out.step hb)); clear hb ho; simp only [])
        | (go_at_call 48; have qq := tk9; go_must (refine (HSA.out _ _ _ HDK.out).mono ?_; rintro e w13 ⟨C2, k2, rfl, ho, hb⟩; replace HT := hide (HT.out.step hb); have HSL2 := hide (stay_sl ho); clear hb ho qq; simp only []))
        | (go_at_call 48; go_must (refine (HSHI.out _ _ _ HDX.out).mono ?_; rintro e w3 ⟨C, k, rfl, ho, hb⟩; replace HT := hide (HT.out.step hb); have HSL := hide (stay_sl ho); clear hb ho; simp only []))
        | (go_at_call 50; have qq := tk9; go_must (refine (HOA.out _ _ _ _ _ HDK.out HSL2.out.now).mono ?_; rintro e w15 ⟨rfl, hb⟩; replace HT := hide (HT.out.step hb); clear hb qq; simp only []))
        | (go_at_call 50; go_must (refine (HOFF.out _ _ _ _ _ HDK.out HDX.out).mono ?_; rintro e w6 ⟨rfl, hb⟩; replace HT := hide (HT.out.step hb); replace HSL := hide (HSL.out.step hb); clear hb; simp only []))
        | (go_at_call 51; go_must (refine (HSM.out _ HT.out.now.1.2).mono ?_; rintro e w7 ⟨rfl, hb⟩; replace HT := hide (HT.out.step hb); replace HSL := hide (HSL.out.step hb); clear hb; simp only []))
        | (go_at_call 37; go_must (refine (HEI.out _).mono ?_; rintro e w' ⟨rfl, rfl⟩; simp only []))
        | (go_at_call 53; go_must (refine (HSR.out _ HT.out.now.1.2).mono ?_; rintro e w8 ⟨C8, k8, rfl, ho, hb⟩; replace HT := hide (HT.out.step hb); replace HSL := hide (HSL.out.step hb); have HS8 := hide ho; clear hb ho; simp only []))
        | (go_at_call 52; go_must (refine (HSAME.out _ _ _ _ _ HSL.out.now HS8.out).mono ?_; rintro e w9 ⟨rfl, q9, rfl⟩; replace HT := hide (HT.out.drewN q9); simp only []))
        | (go_at_call 54; have qq := tk8; go_must (refine (HKK.out _ HT.out.now.1.1).mono ?_; rintro e w11 ⟨rfl, hb⟩; replace HT := hide (HT.out.step hb); have tk9 := hide trivial; skip; clear hb qq; simp only []))
        | (go_at_call 54; go_must (refine (HKE.out _ HT.out.now.1.1 HT.out.now.1.2).mono ?_; rintro e w10 ⟨rfl, hb⟩; replace HT := hide (HT.out.step hb); have tk8 := hide trivial; clear hb; simp only []))
        | (go_at_call 55; go_must (refine (HOR.out _ HT.out.now.1.1 HT.out.now.1.2).mono ?_; rintro e w12 ⟨rfl, hb⟩; replace HT := hide (HT.out.step hb); clear hb; simp only [])))
      go_ret
      exact ⟨rfl, HT.out.now.2⟩
  · rcases hsh with ⟨rfl, hS1, hS2, rfl, rfl⟩ | ⟨rfl, rfl, h2, rfl, rfl⟩ | ⟨rfl, rfl, h2, rfl, hL, HSR, HSAME⟩
    all_goals first | exact absurd h2 (by decide) | skip
    all_goals rcases hoff with ⟨hG1, hG2, rfl⟩ | ⟨rfl, HOR⟩
    all_goals
      go_enter Try.func8, Try.ntmps8
      go_wp2_with (first
        | (go_at_call 20; go_must (refine (awake_ok _).mono ?_; rintro e w1 ⟨rfl, hb⟩; replace HT := hide (HT.out.step hb); clear hb; simp only []))
        | (go_at_call 49; (with_reducible refine (copyNum A1 c1 x _ HT.out.now.1.2 hl1).mono ?_); rintro e w2 ⟨D, kd, rfl, ho, hb⟩; replace HT := hide (HT.out.step hb); have HDX := hide (Sl.of_ownN ho); (try replace HDK := hide (HDK.out.bel hb)); (try replace HSL := hide (HSL.out.step hb)); clear hb ho; simp only [])
        | (go_at_call 49; (with_reducible refine (copyNum _ c0 a _ HT.out.now.1.1 hl0).mono ?_); rintro e w4 ⟨D', kd', rfl, ho, hb⟩; replace HT := hide (HT.out.step hb); have HDK := hide (Sl.of_ownN ho); (try replace HSL := hide (HSL.out.step hb)); (try replace HSL2 := hide (HSL2.out.step hb)); clear hb ho; simp only [])
        | (go_at_call 48; have qq := tk9; go_must (refine (HSA.out _ _ _ HDK.out).mono ?_; rintro e w13 ⟨C2, k2, rfl, ho, hb⟩; replace HT := hide (HT.out.step hb); have HSL2 := hide (stay_sl ho); clear hb ho qq; simp only []))
        | (go_at_call 48; go_must (refine (HSHI.out _ _ _ HDX.out).mono ?_; rintro e w3 ⟨C, k, rfl, ho, hb⟩; replace HT := hide (HT.out.step hb); have HSL := hide (stay_sl ho); clear hb ho; simp only []))
        | (go_at_call 50; have qq := tk9; go_must (refine (HOA.out _ _ _ _ _ HDK.out HSL2.out.now).mono ?_; rintro e w15 ⟨rfl, hb⟩; replace HT := hide (HT.out.step hb); clear hb qq; simp only []))
        | (go_at_call 50; go_must (refine (HOFF.out _ _ _ _ _ HDK.out HDX.out).mono ?_; rintro e w6 ⟨rfl, hb⟩; replace HT := hide (HT.out.step hb); replace HSL := hide (HSL.out.step hb); clear hb; simp only []))
        | (go_at_call 51; go_must (refine (HSM.out _ HT.out.now.1.2).mono ?_; rintro e w7 ⟨rfl, hb⟩; replace HT := hide (HT.out.step hb); replace HSL := hide (HSL.out.step hb); clear hb; simp only []))
        | (go_at_call 37; go_must (refine (HEI.out _).mono ?_; rintro e w' ⟨rfl, rfl⟩; simp only []))
        | (go_at_call 53; go_must (refine (HSR.out _ HT.out.now.1.2).mono ?_; rintro e w8 ⟨C8, k8, rfl, ho, hb⟩; replace HT := hide (HT.out.step hb); replace HSL := hide (HSL.out.step hb); have HS8 := hide ho; clear hb ho; simp only []))
        | (go_at_call 52; go_must (refine (HSAME.out _ _ _ _ _ HSL.out.now HS8.out).mono ?_; rintro e w9 ⟨rfl, q9, rfl⟩; replace HT := hide (HT.out.drewN q9); simp only []))
        | (go_at_call 54; have qq := tk8; go_must (refine (HKK.out _ HT.out.now.1.1).mono ?_; rintro e w11 ⟨rfl, hb⟩; replace HT := hide (HT.out.step hb); have tk9 := hide trivial; skip; clear hb qq; simp only []))
        | (go_at_call 54; go_must (refine (HKE.out _ HT.out.now.1.1 HT.out.now.1.2).mono ?_; rintro e w10 ⟨rfl, hb⟩; replace HT := hide (HT.out.step hb); have tk8 := hide trivial; clear hb; simp only []))
        | (go_at_call 55; go_must (refine (HOR.out _ HT.out.now.1.1 HT.out.now.1.2).mono ?_; rintro e w12 ⟨rfl, hb⟩; replace HT := hide (HT.out.step hb); clear hb; simp only [])))
      go_ret
      exact ⟨rfl, HT.out.now.2⟩
  · rcases hsh with ⟨rfl, hS1, hS2, rfl, rfl⟩ | ⟨rfl, rfl, h2, rfl, rfl⟩ | ⟨rfl, rfl, h2, rfl, hL, HSR, HSAME⟩
    all_goals first | exact absurd h2 (by decide) | skip
    all_goals rcases hoff with ⟨hG1, hG2, rfl⟩ | ⟨rfl, HOR⟩
    all_goals
      go_enter Try.func8, Try.ntmps8
      go_wp2_with (first
        | (go_at_call 20; go_must (refine (awake_ok _).mono ?_; rintro e w1 ⟨rfl, hb⟩; replace HT := hide (HT.out.step hb); clear hb; simp only []))
        | (go_at_call 49; (with_reducible refine (copyNum A1 c1 x _ HT.out.now.1.2 hl1).mono ?_); rintro e w2 ⟨D, kd, rfl, ho, hb⟩; replace HT := hide (HT.out.step hb); have HDX := hide (Sl.of_ownN ho); (try replace HDK := hide (HDK.out.bel hb)); (try replace HSL := hide (HSL.out.step hb)); clear hb ho; simp only [])
        | (go_at_call 49; (with_reducible refine (copyNum _ c0 a _ HT.out.now.1.1 hl0).mono ?_); rintro e w4 ⟨D', kd', rfl, ho, hb⟩; replace HT := hide (HT.out.step hb); have HDK := hide (Sl.of_ownN ho); (try replace HSL := hide (HSL.out.step hb)); (try replace HSL2 := hide (HSL2.out.step hb)); clear hb ho; simp only [])
        | (go_at_call 48; have qq := tk9; go_must (refine (HSA.out _ _ _ HDK.out).mono ?_; rintro e w13 ⟨C2, k2, rfl, ho, hb⟩; replace HT := hide (HT.out.step hb); have HSL2 := hide (stay_sl ho); clear hb ho qq; simp only []))
        | (go_at_call 48; go_must (refine (HSHI.out _ _ _ HDX.out).mono ?_; rintro e w3 ⟨C, k, rfl, ho, hb⟩; replace HT := hide (HT.out.step hb); have HSL := hide (stay_sl ho); clear hb ho; simp only []))
        | (go_at_call 50; have qq := tk9; go_must (refine (HOA.out _ _ _ _ _ HDK.out HSL2.out.now).mono ?_; rintro e w15 ⟨rfl, hb⟩; replace HT := hide (HT.out.step hb); clear hb qq; simp only []))
        | (go_at_call 50; go_must (refine (HOFF.out _ _ _ _ _ HDK.out HDX.out).mono ?_; rintro e w6 ⟨rfl, hb⟩; replace HT := hide (HT.out.step hb); replace HSL := hide (HSL.out.step hb); clear hb; simp only []))
        | (go_at_call 51; go_must (refine (HSM.out _ HT.out.now.1.2).mono ?_; rintro e w7 ⟨rfl, hb⟩; replace HT := hide (HT.out.step hb); replace HSL := hide (HSL.out.step hb); clear hb; simp only []))
        | (go_at_call 37; go_must (refine (HEI.out _).mono ?_; rintro e w' ⟨rfl, rfl⟩; simp only []))
        | (go_at_call 53; go_must (refine (HSR.out _ HT.out.now.1.2).mono ?_; rintro e w8 ⟨C8, k8, rfl, ho, hb⟩; replace HT := hide (HT.out.step hb); replace HSL := hide (HSL.out.step hb); have HS8 := hide ho; clear hb ho; simp only []))
        | (go_at_call 52; go_must (refine (HSAME.out _ _ _ _ _ HSL.out.now HS8.out).mono ?_; rintro e w9 ⟨rfl, q9, rfl⟩; replace HT := hide (HT.out.drewN q9); simp only []))
        | (go_at_call 54; have qq := tk8; go_must (refine (HKK.out _ HT.out.now.1.1).mono ?_; rintro e w11 ⟨rfl, hb⟩; replace HT := hide (HT.out.step hb); have tk9 := hide trivial; skip; clear hb qq; simp only []))
        | (go_at_call 54; go_must (refine (HKE.out _ HT.out.now.1.1 HT.out.now.1.2).mono ?_; rintro e w10 ⟨rfl, hb⟩; replace HT := hide (HT.out.step hb); have tk8 := hide trivial; clear hb; simp only []))
        | (go_at_call 55; go_must (refine (HOR.out _ HT.out.now.1.1 HT.out.now.1.2).mono ?_; rintro e w12 ⟨rfl, hb⟩; replace HT := hide (HT.out.step hb); clear hb; simp only [])))
      go_ret
      exact ⟨rfl, HT.out.now.2⟩
  · obtain ⟨bk, ok, rfl, _⟩ := HNIL.out hlen
    have HK0 := hide (show (nvs a)[0]? = some (.int .i64 (kn a 0).1) ∧ (nvs a)[1]? = some (.int .i64 (kn a 0).2.1) ∧ (nvs a)[2]? = some (.int .i64 (kn a 0).2.2.1) ∧ (nvs a)[3]? = some (.int .i64 (kn a 0).2.2.2) by rw [kn_at (by omega)]; exact nvs_at a 0 (by omega))
    have HK1 := hide (show (nvs a)[4]? = some (.int .i64 (kn a 1).1) ∧ (nvs a)[4 + 1]? = some (.int .i64 (kn a 1).2.1) ∧ (nvs a)[4 + 2]? = some (.int .i64 (kn a 1).2.2.1) ∧ (nvs a)[4 + 3]? = some (.int .i64 (kn a 1).2.2.2) by rw [kn_at (by omega)]; exact nvs_at a 1 (by omega))
    obtain ⟨k0, hk0⟩ : ∃ z, kn a 0 = z := ⟨_, rfl⟩
    obtain ⟨k1, hk1⟩ : ∃ z, kn a 1 = z := ⟨_, rfl⟩
    rw [hk0] at HK0 q0
    rw [hk1] at HK1
    have hq0 : ∀ W, (binOp .eql 38 (nv k0) (.agg #[.int .i64 0, .int .i64 0, .int .i64 0, .int .i64 0])).run Try.prog W = .ok (.bool true) W := fun W => (wn_eql k0 n0 W).trans (by rw [decide_eq_true q0])
    have i1 : (0 : Int) < (a.length : Int) := by omega
    have i2 : (1 : Int) < (a.length : Int) := by omega
    clear hk0 hk1 q0
    rcases hsh with ⟨rfl, hS1, hS2, rfl, rfl⟩ | ⟨rfl, rfl, h2, rfl, rfl⟩ | ⟨rfl, rfl, h2, rfl, hL, HSR, HSAME⟩
    all_goals first | exact absurd h2 (by decide) | skip
    all_goals rcases hoff with ⟨hG1, hG2, rfl⟩ | ⟨rfl, HOR⟩
    all_goals
      go_enter Try.func8, Try.ntmps8
      go_wp2_with (first
        | (go_at_call 20; go_must (refine (awake_ok _).mono ?_; rintro e w1 ⟨rfl, hb⟩; replace HT := hide (HT.out.step hb); clear hb; simp only []))
        | (go_at_call 49; (with_reducible refine (copyNum A1 c1 x _ HT.out.now.1.2 hl1).mono ?_); rintro e w2 ⟨D, kd, rfl, ho, hb⟩; replace HT := hide (HT.out.step hb); have HDX := hide (Sl.of_ownN ho); (try replace HDK := hide (HDK.out.bel hb)); (try replace HSL := hide (HSL.out.step hb)); clear hb ho; simp only [])
        | (go_at_call 49; (with_reducible refine (copyNum _ c0 a _ HT.out.now.1.1 hl0).mono ?_); rintro e w4 ⟨D', kd', rfl, ho, hb⟩; replace HT := hide (HT.out.step hb); have HDK := hide (Sl.of_ownN ho); (try replace HSL := hide (HSL.out.step hb)); (try replace HSL2 := hide (HSL2.out.step hb)); clear hb ho; simp only [])
        | (go_at_call 48; have qq := tk9; go_must (refine (HSA.out _ _ _ HDK.out).mono ?_; rintro e w13 ⟨C2, k2, rfl, ho, hb⟩; replace HT := hide (HT.out.step hb); have HSL2 := hide (stay_sl ho); clear hb ho qq; simp only []))
        | (go_at_call 48; go_must (refine (HSHI.out _ _ _ HDX.out).mono ?_; rintro e w3 ⟨C, k, rfl, ho, hb⟩; replace HT := hide (HT.out.step hb); have HSL := hide (stay_sl ho); clear hb ho; simp only []))
        | (go_at_call 50; have qq := tk9; go_must (refine (HOA.out _ _ _ _ _ HDK.out HSL2.out.now).mono ?_; rintro e w15 ⟨rfl, hb⟩; replace HT := hide (HT.out.step hb); clear hb qq; simp only []))
        | (go_at_call 50; go_must (refine (HOFF.out _ _ _ _ _ HDK.out HDX.out).mono ?_; rintro e w6 ⟨rfl, hb⟩; replace HT := hide (HT.out.step hb); replace HSL := hide (HSL.out.step hb); clear hb; simp only []))
        | (go_at_call 51; go_must (refine (HSM.out _ HT.out.now.1.2).mono ?_; rintro e w7 ⟨rfl, hb⟩; replace HT := hide (HT.out.step hb); replace HSL := hide (HSL.out.step hb); clear hb; simp only []))
        | (go_at_call 37; go_must (refine (HEI.out _).mono ?_; rintro e w' ⟨rfl, rfl⟩; simp only []))
        | (go_at_call 53; go_must (refine (HSR.out _ HT.out.now.1.2).mono ?_; rintro e w8 ⟨C8, k8, rfl, ho, hb⟩; replace HT := hide (HT.out.step hb); replace HSL := hide (HSL.out.step hb); have HS8 := hide ho; clear hb ho; simp only []))
        | (go_at_call 52; go_must (refine (HSAME.out _ _ _ _ _ HSL.out.now HS8.out).mono ?_; rintro e w9 ⟨rfl, q9, rfl⟩; replace HT := hide (HT.out.drewN q9); simp only []))
        | (go_at_call 54; have qq := tk8; go_must (refine (HKK.out _ HT.out.now.1.1).mono ?_; rintro e w11 ⟨rfl, hb⟩; replace HT := hide (HT.out.step hb); have tk9 := hide trivial; have z0 : w11.cell? ⟨bk, ok, none⟩ = some (.int .i64 k0.1) := HT.out.now.1.1.one rfl HK0.out.1; have z1 := HT.out.now.1.1.one rfl HK0.out.2.1; have z2 := HT.out.now.1.1.one rfl HK0.out.2.2.1; have z3 := HT.out.now.1.1.one rfl HK0.out.2.2.2; have y0 := HT.out.now.1.1.one rfl HK1.out.1; have y1 := HT.out.now.1.1.one rfl HK1.out.2.1; have y2 := HT.out.now.1.1.one rfl HK1.out.2.2.1; have y3 := HT.out.now.1.1.one rfl HK1.out.2.2.2; clear hb qq; simp only []))
        | (go_at_call 54; go_must (refine (HKE.out _ HT.out.now.1.1 HT.out.now.1.2).mono ?_; rintro e w10 ⟨rfl, hb⟩; replace HT := hide (HT.out.step hb); have tk8 := hide trivial; clear hb; simp only []))
        | (go_at_call 55; go_must (refine (HOR.out _ HT.out.now.1.1 HT.out.now.1.2).mono ?_; rintro e w12 ⟨rfl, hb⟩; replace HT := hide (HT.out.step hb); clear hb; simp only [])))
      go_ret
      exact ⟨rfl, HT.out.now.2⟩
  · obtain ⟨bk, ok, rfl, _⟩ := HNIL.out hlen
    have HK0 := hide (show (nvs a)[0]? = some (.int .i64 (kn a 0).1) ∧ (nvs a)[1]? = some (.int .i64 (kn a 0).2.1) ∧ (nvs a)[2]? = some (.int .i64 (kn a 0).2.2.1) ∧ (nvs a)[3]? = some (.int .i64 (kn a 0).2.2.2) by rw [kn_at (by omega)]; exact nvs_at a 0 (by omega))
    have HK1 := hide (show (nvs a)[4]? = some (.int .i64 (kn a 1).1) ∧ (nvs a)[4 + 1]? = some (.int .i64 (kn a 1).2.1) ∧ (nvs a)[4 + 2]? = some (.int .i64 (kn a 1).2.2.1) ∧ (nvs a)[4 + 3]? = some (.int .i64 (kn a 1).2.2.2) by rw [kn_at (by omega)]; exact nvs_at a 1 (by omega))
    obtain ⟨k0, hk0⟩ : ∃ z, kn a 0 = z := ⟨_, rfl⟩
    obtain ⟨k1, hk1⟩ : ∃ z, kn a 1 = z := ⟨_, rfl⟩
    rw [hk0] at HK0 q0
    rw [hk1] at HK1 q1
    have hq0 : ∀ W, (binOp .eql 38 (nv k0) (.agg #[.int .i64 0, .int .i64 0, .int .i64 0, .int .i64 0])).run Try.prog W = .ok (.bool false) W := fun W => (wn_eql k0 n0 W).trans (by rw [decide_eq_false q0])
    have hq1 : ∀ W, (binOp .eql 38 (nv k1) (.agg #[.int .i64 0, .int .i64 0, .int .i64 0, .int .i64 0])).run Try.prog W = .ok (.bool true) W := fun W => (wn_eql k1 n0 W).trans (by rw [decide_eq_true q1])
    have i1 : (0 : Int) < (a.length : Int) := by omega
    have i2 : (1 : Int) < (a.length : Int) := by omega
    clear hk0 hk1 q0 q1
    rcases hsh with ⟨rfl, hS1, hS2, rfl, rfl⟩ | ⟨rfl, rfl, h2, rfl, rfl⟩ | ⟨rfl, rfl, h2, rfl, hL, HSR, HSAME⟩
    all_goals first | exact absurd h2 (by decide) | skip
    all_goals rcases hoff with ⟨hG1, hG2, rfl⟩ | ⟨rfl, HOR⟩
    all_goals
      go_enter Try.func8, Try.ntmps8
      go_wp2_with (first
        | (go_at_call 20; go_must (refine (awake_ok _).mono ?_; rintro e w1 ⟨rfl, hb⟩; replace HT := hide (HT.out.step hb); clear hb; simp only []))
        | (go_at_call 49; (with_reducible refine (copyNum A1 c1 x _ HT.out.now.1.2 hl1).mono ?_); rintro e w2 ⟨D, kd, rfl, ho, hb⟩; replace HT := hide (HT.out.step hb); have HDX := hide (Sl.of_ownN ho); (try replace HDK := hide (HDK.out.bel hb)); (try replace HSL := hide (HSL.out.step hb)); clear hb ho; simp only [])
        | (go_at_call 49; (with_reducible refine (copyNum _ c0 a _ HT.out.now.1.1 hl0).mono ?_); rintro e w4 ⟨D', kd', rfl, ho, hb⟩; replace HT := hide (HT.out.step hb); have HDK := hide (Sl.of_ownN ho); (try replace HSL := hide (HSL.out.step hb)); (try replace HSL2 := hide (HSL2.out.step hb)); clear hb ho; simp only [])
        | (go_at_call 48; have qq := tk9; go_must (refine (HSA.out _ _ _ HDK.out).mono ?_; rintro e w13 ⟨C2, k2, rfl, ho, hb⟩; replace HT := hide (HT.out.step hb); have HSL2 := hide (stay_sl ho); clear hb ho qq; simp only []))
        | (go_at_call 48; go_must (refine (HSHI.out _ _ _ HDX.out).mono ?_; rintro e w3 ⟨C, k, rfl, ho, hb⟩; replace HT := hide (HT.out.step hb); have HSL := hide (stay_sl ho); clear hb ho; simp only []))
        | (go_at_call 50; have qq := tk9; go_must (refine (HOA.out _ _ _ _ _ HDK.out HSL2.out.now).mono ?_; rintro e w15 ⟨rfl, hb⟩; replace HT := hide (HT.out.step hb); clear hb qq; simp only []))
        | (go_at_call 50; go_must (refine (HOFF.out _ _ _ _ _ HDK.out HDX.out).mono ?_; rintro e w6 ⟨rfl, hb⟩; replace HT := hide (HT.out.step hb); replace HSL := hide (HSL.out.step hb); clear hb; simp only []))
        | (go_at_call 51; go_must (refine (HSM.out _ HT.out.now.1.2).mono ?_; rintro e w7 ⟨rfl, hb⟩; replace HT := hide (HT.out.step hb); replace HSL := hide (HSL.out.step hb); clear hb; simp only []))
        | (go_at_call 37; go_must (refine (HEI.out _).mono ?_; rintro e w' ⟨rfl, rfl⟩; simp only []))
        | (go_at_call 53; go_must (refine (HSR.out _ HT.out.now.1.2).mono ?_; rintro e w8 ⟨C8, k8, rfl, ho, hb⟩; replace HT := hide (HT.out.step hb); replace HSL := hide (HSL.out.step hb); have HS8 := hide ho; clear hb ho; simp only []))
        | (go_at_call 52; go_must (refine (HSAME.out _ _ _ _ _ HSL.out.now HS8.out).mono ?_; rintro e w9 ⟨rfl, q9, rfl⟩; replace HT := hide (HT.out.drewN q9); simp only []))
        | (go_at_call 54; have qq := tk8; go_must (refine (HKK.out _ HT.out.now.1.1).mono ?_; rintro e w11 ⟨rfl, hb⟩; replace HT := hide (HT.out.step hb); have tk9 := hide trivial; have z0 : w11.cell? ⟨bk, ok, none⟩ = some (.int .i64 k0.1) := HT.out.now.1.1.one rfl HK0.out.1; have z1 := HT.out.now.1.1.one rfl HK0.out.2.1; have z2 := HT.out.now.1.1.one rfl HK0.out.2.2.1; have z3 := HT.out.now.1.1.one rfl HK0.out.2.2.2; have y0 := HT.out.now.1.1.one rfl HK1.out.1; have y1 := HT.out.now.1.1.one rfl HK1.out.2.1; have y2 := HT.out.now.1.1.one rfl HK1.out.2.2.1; have y3 := HT.out.now.1.1.one rfl HK1.out.2.2.2; clear hb qq; simp only []))
        | (go_at_call 54; go_must (refine (HKE.out _ HT.out.now.1.1 HT.out.now.1.2).mono ?_; rintro e w10 ⟨rfl, hb⟩; replace HT := hide (HT.out.step hb); have tk8 := hide trivial; clear hb; simp only []))
        | (go_at_call 55; go_must (refine (HOR.out _ HT.out.now.1.1 HT.out.now.1.2).mono ?_; rintro e w12 ⟨rfl, hb⟩; replace HT := hide (HT.out.step hb); clear hb; simp only [])))
      go_ret
      exact ⟨rfl, HT.out.now.2⟩
  · obtain ⟨bk, ok, rfl, _⟩ := HNIL.out hlen
    have HK0 := hide (show (nvs a)[0]? = some (.int .i64 (kn a 0).1) ∧ (nvs a)[1]? = some (.int .i64 (kn a 0).2.1) ∧ (nvs a)[2]? = some (.int .i64 (kn a 0).2.2.1) ∧ (nvs a)[3]? = some (.int .i64 (kn a 0).2.2.2) by rw [kn_at (by omega)]; exact nvs_at a 0 (by omega))
    have HK1 := hide (show (nvs a)[4]? = some (.int .i64 (kn a 1).1) ∧ (nvs a)[4 + 1]? = some (.int .i64 (kn a 1).2.1) ∧ (nvs a)[4 + 2]? = some (.int .i64 (kn a 1).2.2.1) ∧ (nvs a)[4 + 3]? = some (.int .i64 (kn a 1).2.2.2) by rw [kn_at (by omega)]; exact nvs_at a 1 (by omega))
    obtain ⟨k0, hk0⟩ : ∃ z, kn a 0 = z := ⟨_, rfl⟩
    obtain ⟨k1, hk1⟩ : ∃ z, kn a 1 = z := ⟨_, rfl⟩
    rw [hk0] at HK0 q0
    rw [hk1] at HK1 q1
    have hq0 : ∀ W, (binOp .eql 38 (nv k0) (.agg #[.int .i64 0, .int .i64 0, .int .i64 0, .int .i64 0])).run Try.prog W = .ok (.bool false) W := fun W => (wn_eql k0 n0 W).trans (by rw [decide_eq_false q0])
    have hq1 : ∀ W, (binOp .eql 38 (nv k1) (.agg #[.int .i64 0, .int .i64 0, .int .i64 0, .int .i64 0])).run Try.prog W = .ok (.bool false) W := fun W => (wn_eql k1 n0 W).trans (by rw [decide_eq_false q1])
    have i1 : (0 : Int) < (a.length : Int) := by omega
    have i2 : (1 : Int) < (a.length : Int) := by omega
    clear hk0 hk1 q0 q1
    rcases hsh with ⟨rfl, hS1, hS2, rfl, rfl⟩ | ⟨rfl, rfl, h2, rfl, rfl⟩ | ⟨rfl, rfl, h2, rfl, hL, HSR, HSAME⟩
    all_goals first | exact absurd h2 (by decide) | skip
    all_goals rcases hoff with ⟨hG1, hG2, rfl⟩ | ⟨rfl, HOR⟩
    all_goals
      go_enter Try.func8, Try.ntmps8
      go_wp2_with (first
        | (go_at_call 20; go_must (refine (awake_ok _).mono ?_; rintro e w1 ⟨rfl, hb⟩; replace HT := hide (HT.out.step hb); clear hb; simp only []))
        | (go_at_call 49; (with_reducible refine (copyNum A1 c1 x _ HT.out.now.1.2 hl1).mono ?_); rintro e w2 ⟨D, kd, rfl, ho, hb⟩; replace HT := hide (HT.out.step hb); have HDX := hide (Sl.of_ownN ho); (try replace HDK := hide (HDK.out.bel hb)); (try replace HSL := hide (HSL.out.step hb)); clear hb ho; simp only [])
        | (go_at_call 49; (with_reducible refine (copyNum _ c0 a _ HT.out.now.1.1 hl0).mono ?_); rintro e w4 ⟨D', kd', rfl, ho, hb⟩; replace HT := hide (HT.out.step hb); have HDK := hide (Sl.of_ownN ho); (try replace HSL := hide (HSL.out.step hb)); (try replace HSL2 := hide (HSL2.out.step hb)); clear hb ho; simp only [])
        | (go_at_call 48; have qq := tk9; go_must (refine (HSA.out _ _ _ HDK.out).mono ?_; rintro e w13 ⟨C2, k2, rfl, ho, hb⟩; replace HT := hide (HT.out.step hb); have HSL2 := hide (stay_sl ho); clear hb ho qq; simp only []))
        | (go_at_call 48; go_must (refine (HSHI.out _ _ _ HDX.out).mono ?_; rintro e w3 ⟨C, k, rfl, ho, hb⟩; replace HT := hide (HT.out.step hb); have HSL := hide (stay_sl ho); clear hb ho; simp only []))
        | (go_at_call 50; have qq := tk9; go_must (refine (HOA.out _ _ _ _ _ HDK.out HSL2.out.now).mono ?_; rintro e w15 ⟨rfl, hb⟩; replace HT := hide (HT.out.step hb); clear hb qq; simp only []))
        | (go_at_call 50; go_must (refine (HOFF.out _ _ _ _ _ HDK.out HDX.out).mono ?_; rintro e w6 ⟨rfl, hb⟩; replace HT := hide (HT.out.step hb); replace HSL := hide (HSL.out.step hb); clear hb; simp only []))
        | (go_at_call 51; go_must (refine (HSM.out _ HT.out.now.1.2).mono ?_; rintro e w7 ⟨rfl, hb⟩; replace HT := hide (HT.out.step hb); replace HSL := hide (HSL.out.step hb); clear hb; simp only []))
        | (go_at_call 37; go_must (refine (HEI.out _).mono ?_; rintro e w' ⟨rfl, rfl⟩; simp only []))
        | (go_at_call 53; go_must (refine (HSR.out _ HT.out.now.1.2).mono ?_; rintro e w8 ⟨C8, k8, rfl, ho, hb⟩; replace HT := hide (HT.out.step hb); replace HSL := hide (HSL.out.step hb); have HS8 := hide ho; clear hb ho; simp only []))
        | (go_at_call 52; go_must (refine (HSAME.out _ _ _ _ _ HSL.out.now HS8.out).mono ?_; rintro e w9 ⟨rfl, q9, rfl⟩; replace HT := hide (HT.out.drewN q9); simp only []))
        | (go_at_call 54; have qq := tk8; go_must (refine (HKK.out _ HT.out.now.1.1).mono ?_; rintro e w11 ⟨rfl, hb⟩; replace HT := hide (HT.out.step hb); have tk9 := hide trivial; have z0 : w11.cell? ⟨bk, ok, none⟩ = some (.int .i64 k0.1) := HT.out.now.1.1.one rfl HK0.out.1; have z1 := HT.out.now.1.1.one rfl HK0.out.2.1; have z2 := HT.out.now.1.1.one rfl HK0.out.2.2.1; have z3 := HT.out.now.1.1.one rfl HK0.out.2.2.2; have y0 := HT.out.now.1.1.one rfl HK1.out.1; have y1 := HT.out.now.1.1.one rfl HK1.out.2.1; have y2 := HT.out.now.1.1.one rfl HK1.out.2.2.1; have y3 := HT.out.now.1.1.one rfl HK1.out.2.2.2; clear hb qq; simp only []))
        | (go_at_call 54; go_must (refine (HKE.out _ HT.out.now.1.1 HT.out.now.1.2).mono ?_; rintro e w10 ⟨rfl, hb⟩; replace HT := hide (HT.out.step hb); have tk8 := hide trivial; clear hb; simp only []))
        | (go_at_call 55; go_must (refine (HOR.out _ HT.out.now.1.1 HT.out.now.1.2).mono ?_; rintro e w12 ⟨rfl, hb⟩; replace HT := hide (HT.out.step hb); clear hb; simp only [])))
      go_ret
      exact ⟨rfl, HT.out.now.2⟩
end Go.Proofs.Ythfmjohbokpceaa
