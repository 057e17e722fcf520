import Derived.Test.YthfmjohbokpceaaEstI
import Derived.Test.YthfmjohbokpceaaEstJ
import Derived.Test.YthfmjohbokpceaaEstK
import Derived.Test.YthfmjohbokpceaaEstL
import Derived.Test.YthfmjohbokpceaaWvQ
namespace Go.Proofs.Ythfmjohbokpceaa
open Go.RowKit Go.WideShapes Go.ChangeShapes

/-! the statement WaveEstimates -/
theorem es_key1 (k x : List (Int × Int)) (hk : k.length ≤ 42) (hx : x.length ≤ 42) : ∃ (E : Int) (N : Nat) (L : List (Int × Int)), L.length = N ∧ N ≤ 1000 ∧
    Hid (∀ D D' q q' W, Sl W D (gv k) → Sl W D' (gv x) → Calls Try.prog 95 #[.slice D k.length q, .slice D' x.length q'] W fun e w' => ∃ C r, e = .returned (.tuple #[.slice C N r, .int .i64 E]) ∧ Sl w' C (gv L) ∧ Below W.heap.size W w') ∧
    Hid (∀ D D' q q' W, Sl W D (gv k) → Sl W D' (gv x) → Calls Try.prog 96 #[.slice D k.length q, .slice D' x.length q'] W fun e w' => e = .returned (.int .i64 E) ∧ Below W.heap.size W w') ∧
    ((E = 0 ∧ Hid (∀ D D' q q' W, Sl W D (gv k) → Sl W D' (gv x) → Calls Try.prog 97 #[.slice D k.length q, .slice D' x.length q'] W fun e w' => ∃ C r, e = .returned (.slice C N r) ∧ Sl w' C (gv L) ∧ Below W.heap.size W w')) ∨
     ((E == 0) = false ∧ (E != 0) = true ∧ N = 0)) := by
  have HE := hide (fun D D' q q' W (h : Sl W D (gv k)) (h' : Sl W D' (gv x)) => EstimatesErr_ref D D' q q' k x W h h' (by omega) (by omega))
  by_cases h : esE k x = 0
  · obtain ⟨h1, h2, h3, h4⟩ := esE_ok h
    rw [h] at HE
    obtain ⟨m, hm⟩ : ∃ m, k.length = m := ⟨_, rfl⟩
    have hm' : x.length = m := by omega
    rw [hm, hm'] at HE ⊢
    have hL : (estL k x m).length = m := by simp [estL, tab]
    exact ⟨0, m, estL k x m, hL, by omega,
      hide (fun D D' q q' W hs hs' => (EstimatesOf_ok D D' q q' m k x W hs hs' hm hm' (by omega) h3 h4).mono fun e w' ⟨C, r, e1, e2, e3⟩ => ⟨C, r, e1, Sl.of_ownN e2, e3⟩), HE,
      .inl ⟨rfl, hide (fun D D' q q' W hs hs' => (EstimatesOf_ref D D' q q' m k x W hs hs' hm hm' (by omega) h3 h4).mono fun e w' ⟨C, r, e1, e2, e3⟩ => ⟨C, r, e1, Sl.of_ownN e2, e3⟩)⟩⟩
  · exact ⟨esE k x, 0, [], rfl, by omega,
      hide (fun D D' q q' W hs hs' => (EstimatesOf_err D D' q q' k x W hs hs' (by omega) (by omega) h).mono fun e w' ⟨h1, h2⟩ => ⟨none, 0, h1, fun j hj => absurd hj (by simp [gv]), h2⟩), HE,
      .inr ⟨by rw [beq_eq_false_iff_ne]; exact h, by rw [bne_iff_ne]; exact h, rfl⟩⟩
theorem es_key2 (x : List (Int × Int)) (st : Int) (hx : x.length ≤ 42) : ∃ (E : Int) (N : Nat) (L : List Pth), L.length = N ∧ N ≤ 1000 ∧
    Hid (∀ D q W, Sl W D (gv x) → Calls Try.prog 75 #[.slice D x.length q, .int .i64 st] W fun e w' => ∃ C r, e = .returned (.tuple #[.slice C N r, .int .i64 E]) ∧ Sl w' C (pvs L) ∧ Below W.heap.size W w') ∧
    Hid (∀ D q W, Sl W D (gv x) → Calls Try.prog 98 #[.slice D x.length q, .int .i64 st] W fun e w' => e = .returned (.int .i64 E) ∧ Below W.heap.size W w') ∧
    ((E = 0 ∧ Hid (∀ D q W, Sl W D (gv x) → Calls Try.prog 100 #[.slice D x.length q, .int .i64 st] W fun e w' => ∃ C r, e = .returned (.slice C N r) ∧ Sl w' C (pvs L) ∧ Below W.heap.size W w')) ∨
     ((E == 0) = false ∧ (E != 0) = true ∧ N = 0)) := by
  have HE := hide (fun D q W (h : Sl W D (gv x)) => BetweenErr_ref D q x.length x st W rfl h (by omega))
  by_cases h : btE x st = 0
  · obtain ⟨h1, h2, h3, h4, h5⟩ := btE_ok h
    rw [h] at HE
    obtain ⟨s, rfl⟩ : ∃ s : Nat, st = (s : Int) := ⟨st.toNat, by omega⟩
    have hN : (x.length - 1) * s ≤ 39 * 20 := Nat.mul_le_mul (by omega) (by omega)
    have hL : (phL x s ((x.length - 1) * s + 1)).length = (x.length - 1) * s + 1 := by simp [phL, tab]
    exact ⟨0, (x.length - 1) * s + 1, phL x s ((x.length - 1) * s + 1), hL, by omega,
      hide (fun D q W hs => (Interpolated_ok D q x.length s _ x W rfl hs h1 h2 h3 (by omega) (by omega) rfl).mono fun e w' ⟨C, r, e1, e2, e3⟩ => ⟨C, r, e1, Sl.of_ownN e2, e3⟩), HE,
      .inl ⟨rfl, hide (fun D q W hs => (Interpolated_ref D q x.length s _ x W rfl hs h1 h2 h3 (by omega) (by omega) rfl).mono fun e w' ⟨C, r, e1, e2, e3⟩ => ⟨C, r, e1, Sl.of_ownN e2, e3⟩)⟩⟩
  · exact ⟨btE x st, 0, [], rfl, by omega,
      hide (fun D q W hs => (Interpolated_err D q x st W hs (by omega) h).mono fun e w' ⟨h1, h2⟩ => ⟨none, 0, h1, fun j hj => absurd hj (by simp [pvs]), h2⟩), HE,
      .inr ⟨by rw [beq_eq_false_iff_ne]; exact h, by rw [bne_iff_ne]; exact h, rfl⟩⟩
theorem bnE_ok {l : List (Int × Int)} (h : bnE l = 0) : l.length ≤ 800 ∧ eachE entE l = 0 := by
  unfold bnE at h
  by_cases h1 : 800 < l.length
  · rw [if_pos h1] at h; exact absurd h (by decide)
  · rw [if_neg h1] at h; exact ⟨by omega, h⟩
theorem es_key3 (x : List (Int × Int)) (hx : x.length ≤ 42) : ∃ (E V : Int),
    Hid (∀ D q W, Sl W D (gv x) → Calls Try.prog 76 #[.slice D x.length q] W fun e w' => e = .returned (.tuple #[.int .i64 V, .int .i64 E]) ∧ Below W.heap.size W w') ∧
    Hid (∀ D q W, Sl W D (gv x) → Calls Try.prog 101 #[.slice D x.length q] W fun e w' => e = .returned (.int .i64 E) ∧ Below W.heap.size W w') ∧
    ((E = 0 ∧ Hid (∀ D q W, Sl W D (gv x) → Calls Try.prog 102 #[.slice D x.length q] W fun e w' => e = .returned (.int .i64 V) ∧ Below W.heap.size W w')) ∨
     ((E == 0) = false ∧ (E != 0) = true ∧ V = 0)) := by
  have HE := hide (fun D q W (h : Sl W D (gv x)) => BendErr_ref D q x.length x W rfl h (by omega))
  by_cases h : bnE x = 0
  · obtain ⟨h1, h2⟩ := bnE_ok h
    rw [h] at HE
    exact ⟨0, bendF x (x.length - 2), hide (fun D q W hs => BendOf_ok D q x.length x W rfl hs h1 h2), HE, .inl ⟨rfl, hide (fun D q W hs => BendOf_ref D q x.length x W rfl hs h1 h2)⟩⟩
  · exact ⟨bnE x, 0, hide (fun D q W hs => BendOf_err D q x W hs (by omega) h), HE, .inr ⟨by rw [beq_eq_false_iff_ne]; exact h, by rw [bne_iff_ne]; exact h, rfl⟩⟩
set_option maxRecDepth 100000 in
set_option maxHeartbeats 20000000 in
theorem WaveEstimates_law (A : Option Addr) (c : Nat) (k : List (Int × Int)) (B : Option Addr) (d : Nat) (x : List (Int × Int)) (st : Int) (w : World) (hs : Sl w A (gv k)) (hs' : Sl w B (gv x)) :
    Calls Try.prog 17 #[.slice A k.length c, .slice B x.length d, .int .i64 st] w fun e w' => e = .returned (.bool true) ∧ Below w.heap.size w w' := by
  have HT := hide (((stay_sl hs).and (stay_sl hs')).and (stay_below (Below.refl w.heap.size w)))
  clear hs hs'
  obtain ⟨m, hm⟩ : ∃ m, k.length = m := ⟨_, rfl⟩
  obtain ⟨m', hm'⟩ : ∃ m, x.length = m := ⟨_, rfl⟩
  by_cases h1 : 42 < m
  · rw [hm, hm']
    clear hm hm'
    go_enter Try.func17, Try.ntmps17
    go_wp2_with (first
      | (go_at_call 20; go_must (refine (awake_ok _).mono ?_; rintro e w1 ⟨rfl, hb⟩; replace HT := hide (HT.out.step hb); clear hb; simp only [])))
    go_ret
    exact ⟨rfl, HT.out.now.2⟩
  by_cases h2 : 42 < m'
  · rw [hm, hm']
    clear hm hm'
    go_enter Try.func17, Try.ntmps17
    go_wp2_with (first
      | (go_at_call 20; go_must (refine (awake_ok _).mono ?_; rintro e w1 ⟨rfl, hb⟩; replace HT := hide (HT.out.step hb); clear hb; simp only [])))
    go_ret
    exact ⟨rfl, HT.out.now.2⟩
  by_cases h3 : 4 < st ∧ st ≤ 20
  · obtain ⟨h4, h5⟩ := h3
    rw [hm, hm']
    clear hm hm'
    go_enter Try.func17, Try.ntmps17
    go_wp2_with (first
      | (go_at_call 20; go_must (refine (awake_ok _).mono ?_; rintro e w1 ⟨rfl, hb⟩; replace HT := hide (HT.out.step hb); clear hb; simp only [])))
    go_ret
    exact ⟨rfl, HT.out.now.2⟩
  obtain ⟨E1, N1, L1, hl1, hn1, HP1, HE1, hc1⟩ := es_key1 k x (by omega) (by omega)
  obtain ⟨E2, N2, L2, hl2, hn2, HP2, HE2, hc2⟩ := es_key2 x st (by omega)
  obtain ⟨E3, V3, HP3, HE3, hc3⟩ := es_key3 x (by omega)
  have HCK := hide (fun W (h : Sl W A (gv k)) => copyGauss A c k W h (by omega))
  have HCX := hide (fun W (h : Sl W B (gv x)) => copyGauss B d x W h (by omega))
  have HSG := hide (fun D E q q' W (h : Sl W D (gv L1)) (h' : Sl W E (gv L1)) => by have := sameGauss D E q q' L1 L1 W h h' (by omega) (by omega); rw [decide_eq_true rfl, hl1] at this; exact this)
  have HSP := hide (fun D E q q' W (h : Sl W D (pvs L2)) (h' : Sl W E (pvs L2)) => by have := samePhasor D E q q' L2 L2 W h h' (by omega) (by omega); rw [decide_eq_true rfl, hl2] at this; exact this)
  rw [hm] at HCK
  rw [hm'] at HCX HP2 HE2 HP3 HE3 hc2 hc3
  rw [hm, hm'] at HP1 HE1 hc1
  rw [hm, hm']
  clear hm hm' hl1 hl2 hn1 hn2
  have hst : (4 < st ∧ 20 < st) ∨ st ≤ 4 := by omega
  clear h3
  rcases hst with ⟨h3, h4⟩ | h3
  all_goals
    rcases hc1 with ⟨rfl, HR1⟩ | ⟨b1, b2, rfl⟩
    all_goals
      rcases hc2 with ⟨rfl, HR2⟩ | ⟨b3, b4, rfl⟩
      all_goals
        rcases hc3 with ⟨rfl, HR3⟩ | ⟨b5, b6, rfl⟩
        all_goals
          go_enter Try.func17, Try.ntmps17
          go_wp2_with (first
            | (go_at_call 20; go_must (refine (awake_ok _).mono ?_; rintro e w1 ⟨rfl, hb⟩; replace HT := hide (HT.out.step hb); clear hb; simp only []))
            | (go_at_call 57; (with_reducible refine (HCK.out _ HT.out.now.1.1).mono ?_; rintro e wa ⟨D1, k1, rfl, ho, hb⟩; replace HT := hide (HT.out.step hb); (try replace HD1 := hide (HD1.out.step hb)); (try replace HX := hide (HX.out.step hb)); (try replace HC1 := hide (HC1.out.step hb)); (try replace HC2 := hide (HC2.out.step hb)); have HD1 := hide (stay_sl (Sl.of_ownN ho)); clear ho; clear hb; simp only []))
            | (go_at_call 57; go_must (with_reducible refine (HCX.out _ HT.out.now.1.2).mono ?_; rintro e wb ⟨D2, k2, rfl, ho, hb⟩; replace HT := hide (HT.out.step hb); (try replace HD1 := hide (HD1.out.step hb)); (try replace HX := hide (HX.out.step hb)); (try replace HC1 := hide (HC1.out.step hb)); (try replace HC2 := hide (HC2.out.step hb)); have HX := hide (stay_sl (Sl.of_ownN ho)); clear ho; clear hb; simp only []))
            | (go_at_call 95; go_must (refine (HP1.out _ _ _ _ _ HD1.out.now HX.out.now).mono ?_; rintro e wc ⟨C1, q1, rfl, hg, hb⟩; replace HT := hide (HT.out.step hb); (try replace HD1 := hide (HD1.out.step hb)); (try replace HX := hide (HX.out.step hb)); (try replace HC1 := hide (HC1.out.step hb)); (try replace HC2 := hide (HC2.out.step hb)); have HC1 := hide (stay_sl hg); clear hg HD1 HX; clear hb; simp only []))
            | (go_at_call 75; go_must (refine (HP2.out _ _ _ HX.out.now).mono ?_; rintro e wd ⟨C2, q2, rfl, hg, hb⟩; replace HT := hide (HT.out.step hb); (try replace HD1 := hide (HD1.out.step hb)); (try replace HX := hide (HX.out.step hb)); (try replace HC1 := hide (HC1.out.step hb)); (try replace HC2 := hide (HC2.out.step hb)); have HC2 := hide (stay_sl hg); clear hg HX; clear hb; simp only []))
            | (go_at_call 76; go_must (refine (HP3.out _ _ _ HX.out.now).mono ?_; rintro e we ⟨rfl, hb⟩; replace HT := hide (HT.out.step hb); (try replace HD1 := hide (HD1.out.step hb)); (try replace HX := hide (HX.out.step hb)); (try replace HC1 := hide (HC1.out.step hb)); (try replace HC2 := hide (HC2.out.step hb)); clear HX; clear hb; simp only []))
            | (go_at_call 96; go_must (refine (HE1.out _ _ _ _ _ HT.out.now.1.1 HT.out.now.1.2).mono ?_; rintro e wf ⟨rfl, hb⟩; replace HT := hide (HT.out.step hb); (try replace HD1 := hide (HD1.out.step hb)); (try replace HX := hide (HX.out.step hb)); (try replace HC1 := hide (HC1.out.step hb)); (try replace HC2 := hide (HC2.out.step hb)); clear hb; simp only []))
            | (go_at_call 97; go_must (refine (HR1.out _ _ _ _ _ HT.out.now.1.1 HT.out.now.1.2).mono ?_; rintro e wg ⟨C3, q3, rfl, hg, hb⟩; replace HT := hide (HT.out.step hb); (try replace HD1 := hide (HD1.out.step hb)); (try replace HX := hide (HX.out.step hb)); (try replace HC1 := hide (HC1.out.step hb)); (try replace HC2 := hide (HC2.out.step hb)); have HG1 := hide (stay_sl hg); clear hg; clear hb; simp only []))
            | (go_at_call 61; go_must (refine (HSG.out _ _ _ _ _ HC1.out.now HG1.out.now).mono ?_; rintro e wh ⟨rfl, hq⟩; clear HG1; obtain ⟨q9, rfl⟩ := hq; replace HT := hide (HT.out.drewN q9); (try replace HC1 := hide (HC1.out.drewN q9)); (try replace HC2 := hide (HC2.out.drewN q9)); simp only []))
            | (go_at_call 98; go_must (refine (HE2.out _ _ _ HT.out.now.1.2).mono ?_; rintro e wi ⟨rfl, hb⟩; replace HT := hide (HT.out.step hb); (try replace HD1 := hide (HD1.out.step hb)); (try replace HX := hide (HX.out.step hb)); (try replace HC1 := hide (HC1.out.step hb)); (try replace HC2 := hide (HC2.out.step hb)); clear hb; simp only []))
            | (go_at_call 100; go_must (refine (HR2.out _ _ _ HT.out.now.1.2).mono ?_; rintro e wj ⟨C4, q4, rfl, hg, hb⟩; replace HT := hide (HT.out.step hb); (try replace HD1 := hide (HD1.out.step hb)); (try replace HX := hide (HX.out.step hb)); (try replace HC1 := hide (HC1.out.step hb)); (try replace HC2 := hide (HC2.out.step hb)); have HG2 := hide (stay_sl hg); clear hg; clear hb; simp only []))
            | (go_at_call 99; go_must (refine (HSP.out _ _ _ _ _ HC2.out.now HG2.out.now).mono ?_; rintro e wk ⟨rfl, hq⟩; clear HG2; obtain ⟨q9, rfl⟩ := hq; replace HT := hide (HT.out.drewN q9); (try replace HC1 := hide (HC1.out.drewN q9)); (try replace HC2 := hide (HC2.out.drewN q9)); simp only []))
            | (go_at_call 101; go_must (refine (HE3.out _ _ _ HT.out.now.1.2).mono ?_; rintro e wl ⟨rfl, hb⟩; replace HT := hide (HT.out.step hb); (try replace HD1 := hide (HD1.out.step hb)); (try replace HX := hide (HX.out.step hb)); (try replace HC1 := hide (HC1.out.step hb)); (try replace HC2 := hide (HC2.out.step hb)); clear hb; simp only []))
            | (go_at_call 102; go_must (refine (HR3.out _ _ _ HT.out.now.1.2).mono ?_; rintro e wn ⟨rfl, hb⟩; replace HT := hide (HT.out.step hb); (try replace HD1 := hide (HD1.out.step hb)); (try replace HX := hide (HX.out.step hb)); (try replace HC1 := hide (HC1.out.step hb)); (try replace HC2 := hide (HC2.out.step hb)); clear hb; simp only [])))
          go_ret
          exact ⟨rfl, HT.out.now.2⟩
end Go.Proofs.Ythfmjohbokpceaa
