import Derived.Test.YthfmjohbokpceaaWvBB
namespace Go.Proofs.Ythfmjohbokpceaa
open Go.RowKit Go.WideShapes Go.ChangeShapes

/-! samples turned on, known samples (reference); errors of offsets (program) -/
theorem conj_ref (x : Nm) (w : World) (h : nle 1000000000000000000 x) : Calls Try.prog 139 #[nv x] w fun e w' => e = .returned (nv (nconj x)) ∧ Below w.heap.size w w' := by
  obtain ⟨a, b, c, d⟩ := x
  unfold nle at h
  dsimp only at h
  obtain ⟨a1, a2, b1, b2, c1, c2, d1, d2⟩ := h
  go_enter Try.func139, Try.ntmps139
  go_wp2
  go_returns
  exact ⟨rfl, by go_grown⟩
set_option maxRecDepth 100000 in
set_option maxHeartbeats 4000000 in
theorem Shifted_ref (A : Option Addr) (c m : Nat) (x : List Nm) (n : Int) (w : World) (hm : x.length = m) (hs : Sl w A (nvs x)) (h : shE x n = 0) :
    Calls Try.prog 53 #[.slice A m c, .int .i64 n] w fun e w' => ∃ C k, e = .returned (.slice C m k) ∧ Sl w' C (nvs (shL x n m)) ∧ Below w.heap.size w w' := by
  obtain ⟨i0, hi0, hz0, hz1, hz2⟩ := info_parts wn_info
  obtain ⟨⟨hl, hx⟩, hn, hn'⟩ := shE_ok h
  rw [hm] at hl
  have HX := hide (kn_le' (by omega : (0 : Int) ≤ 1000000000) hx)
  have HS := hide (fun k (hk : k < m) => hs.atN (k := k) (by rw [hm]; exact hk))
  have HSC := hide (tab_succ fun i => tni (kn x i) (n * (i : Int)))
  have HSH : shL x n = tab fun i => tni (kn x i) (n * (i : Int)) := rfl
  rw [HSH]
  obtain ⟨T, hT⟩ : ∃ T : Nat → List Nm, T = tab fun i => tni (kn x i) (n * (i : Int)) := ⟨_, rfl⟩
  rw [← hT] at HSC
  rw [← hT]
  have HT0 : T 0 = [] := by rw [hT]; rfl
  have HT0' := hide HT0
  clear hs h hx hm HSH hT HT0
  go_enter Try.func53, Try.ntmps53
  go_wp2
  go_loopw [5, 6] (fun o i wr => ∃ (k : Nat) (C : Option Addr) (c1 : Nat), k ≤ m ∧ i = .int .i64 k ∧ o = .slice C k c1 ∧ wr.ownsRow w.heap.size 38 4 (.slice C k c1) k (nvs (T k)) ∧ Below w.heap.size w wr) (fun _ i _ => m - (intOf i).toNat)
  case atStart => exact ⟨0, none, 0, Nat.zero_le _, rfl, rfl, by rw [HT0'.out]; exact World.ownsRow_nil _ _ _ _, Below.refl _ _⟩
  case round =>
    obtain ⟨k, C, c1, hk, rfl, rfl, hrow, hbel⟩ := hrel
    have hbz := hbel.size
    by_cases hlt : k < m
    · obtain ⟨b, off, rfl, e0, e1, e2, e3⟩ := HS.out k hlt
      have d0 := (hbel.cell (p := ⟨b, off + k * 4, none⟩) (lt_of_cell e0)).trans e0
      have d1 := (hbel.cell (p := ⟨b, off + k * 4 + 1, none⟩) (lt_of_cell e1)).trans e1
      have d2 := (hbel.cell (p := ⟨b, off + k * 4 + 2, none⟩) (lt_of_cell e2)).trans e2
      have d3 := (hbel.cell (p := ⟨b, off + k * 4 + 3, none⟩) (lt_of_cell e3)).trans e3
      have hle := HX.out k
      have hsc := HSC.out k
      obtain ⟨q1, q2⟩ := mul_bd hn hn' (by omega : k ≤ 120)
      obtain ⟨z, hz⟩ : ∃ z, kn x k = z := ⟨_, rfl⟩
      rw [hz] at d0 d1 d2 d3 hle
      rw [hz] at hsc
      obtain ⟨p, hp⟩ : ∃ p, n * (k : Int) = p := ⟨_, rfl⟩
      rw [hp] at q1 q2 hsc
      have HT := hide (fun W => turn_ref z p W (nle_mono hle (by omega)) (by omega) (by omega))
      obtain ⟨y, hy⟩ : ∃ y, tni z p = y := ⟨_, rfl⟩
      rw [hy] at hsc HT
      have HSC2 := hide (show nvs (T (k + 1)) = nvs (T k) ++ [.int .i64 y.1, .int .i64 y.2.1, .int .i64 y.2.2.1, .int .i64 y.2.2.2] by rw [hsc, nvs_snoc])
      have HROW := hide hrow
      have hwp : IntKind.i64.wrap (n * (k : Int)) = p := by rw [hp]; exact IntWalk.i64_in _ (by omega)
      clear hle hsc hz hy hrow e0 e1 e2 e3 hp
      go_wp2_with (first
        | (at_builtin; go_must (
             refine wpList_append_own _ rfl _ _ 36 rfl w.heap.size 38 i0 _ 4 32 Try.underlying36 hi0 hz0 hz1 hz2 rfl (by decide) (.slice C k c1) k (nvs (T k)) rfl (HROW3.out.alloc _) ⟨w4.heap.size, 0, none⟩ 1 1 [.int .i64 y.1, .int .i64 y.2.1, .int .i64 y.2.2.1, .int .i64 y.2.2.2] rfl rfl (cells_new _ _ _) (by simp [Value.oneCell']) (by simp only [maxLen]; omega) (by omega) (by simp; omega) ?_
             intro v' w5 hown' hgrow _
             obtain ⟨C2, k2, rfl⟩ := own_form hown'
             have hbel' := Below.app b4 HROW3.out hgrow))
        | (go_at_call 38; go_must (refine (HT.out _).mono ?_; rintro e w4 ⟨rfl, hb4⟩; have b4 : Below w.heap.size w w4 := Below.step hbel hb4; have HROW3 := hide (own_bel HROW.out hb4); have z4 := b4.size; clear hb4; simp only [])))
      go_roundw
      case rel => exact ⟨k + 1, C2, k2, by omega, by go_num, rfl, by rw [HSC2.out]; exact hown', hbel'⟩
      case measure => simp [intOf]; omega
    · obtain rfl : k = m := by omega
      have HROW := hide hrow
      clear hrow
      go_wp2
      go_ret
      exact ⟨C, c1, rfl, Sl.of_ownN HROW.out, hbel⟩
theorem kE_cases (x : Nm) : (fitsB 100 x = true ∧ kE x = 0) ∨ (fitsB 100 x = false ∧ kE x = 2) := by
  unfold kE unlessE; cases fitsB 100 x <;> simp
/-- the shape of known samples and others -/
theorem offE_cases (a b : List Nm) : (a.length = 0 ∧ offE a b = 10) ∨ (a.length ≠ 0 ∧ b.length ≠ a.length ∧ offE a b = 10) ∨ (a.length ≠ 0 ∧ b.length = a.length ∧ 16 < a.length ∧ offE a b = 8) ∨
    (a.length ≠ 0 ∧ b.length = a.length ∧ a.length ≤ 16 ∧ offE a b = eachE kE (a ++ b)) := by
  unfold offE
  by_cases h : a.length = 0
  · exact .inl ⟨h, if_pos (.inl h)⟩
  · by_cases h' : b.length = a.length
    · rw [if_neg (by omega)]
      by_cases h2 : 16 < a.length
      · exact .inr (.inr (.inl ⟨h, h', h2, if_pos h2⟩))
      · exact .inr (.inr (.inr ⟨h, h', by omega, if_neg h2⟩))
    · exact .inr (.inl ⟨h, h', if_pos (.inr h')⟩)
set_option maxRecDepth 100000 in
set_option maxHeartbeats 4000000 in
theorem knownErr_ref (A B : Option Addr) (c d : Nat) (a b : List Nm) (w : World) (ha : Sl w A (nvs a)) (hb : Sl w B (nvs b)) (hl : a.length ≤ 1000000) (hl' : b.length ≤ 1000000) :
    Calls Try.prog 54 #[.slice A a.length c, .slice B b.length d] w fun e w' => e = .returned (.int .i64 (offE a b)) ∧ Below w.heap.size w w' := by
  have HA := hide ha
  have HB := hide hb
  clear ha hb
  rcases offE_cases a b with ⟨h1, he⟩ | ⟨h1, h2, he⟩ | ⟨h1, h2, h3, he⟩ | ⟨h1, h2, h3, he⟩
  · have q1 : ((a.length : Int) == 0) = true := by rw [h1]; rfl
    rw [he]
    clear h1 he
    go_enter Try.func54, Try.ntmps54
    go_wp2
    go_ret
    exact ⟨rfl, Below.refl _ _⟩
  · have q1 : ((a.length : Int) == 0) = false := by rw [beq_eq_false_iff_ne]; omega
    have q2 : ((b.length : Int) != (a.length : Int)) = true := by rw [bne_iff_ne]; omega
    rw [he]
    clear h1 h2 he
    go_enter Try.func54, Try.ntmps54
    go_wp2
    go_ret
    exact ⟨rfl, Below.refl _ _⟩
  · have q1 : ((a.length : Int) == 0) = false := by rw [beq_eq_false_iff_ne]; omega
    have q2 : ((b.length : Int) != (a.length : Int)) = false := by rw [h2]; simp
    rw [he]
    clear h1 h2 he
    go_enter Try.func54, Try.ntmps54
    go_wp2
    go_ret
    exact ⟨rfl, Below.refl _ _⟩
  · have q1 : ((a.length : Int) == 0) = false := by rw [beq_eq_false_iff_ne]; omega
    have q2 : ((b.length : Int) != (a.length : Int)) = false := by rw [h2]; simp
    rw [he]
    have H2 := hide h2
    have HLEN := hide (show (a ++ b).length = a.length + b.length by simp)
    have HGA := hide (fun k (hk : k < a.length) => show (a ++ b)[k]'(by rw [List.length_append]; exact Nat.lt_of_lt_of_le hk (Nat.le_add_right _ _)) = kn a k by rw [List.getElem_append_left hk, kn_at hk])
    have HGB := hide (fun k (hk : k < b.length) => show (a ++ b)[a.length + k]'(by rw [List.length_append]; exact Nat.add_lt_add_left hk _) = kn b k by rw [List.getElem_append_right (Nat.le_add_right _ _), kn_at hk]; simp)
    have HSK := hide (fun k hk => eachE_skip kE (a ++ b) k hk)
    have HHT := hide (fun k hk => eachE_hit kE (a ++ b) k hk)
    have HA4 := hide (fun W (h : Below w.heap.size w W) k (hk : k < a.length) => (HA.out.bel h).atN hk)
    have HB4 := hide (fun W (h : Below w.heap.size w W) k (hk : k < b.length) => (HB.out.bel h).atN hk)
    clear h1 h2 he
    go_enter Try.func54, Try.ntmps54
    go_wp2
    go_loopw [5] (fun i wr => ∃ k : Nat, k ≤ a.length ∧ i = .int .i64 k ∧ eachE kE (a ++ b) = eachE kE ((a ++ b).drop k) ∧ Below w.heap.size w wr) (fun i _ => a.length - (intOf i).toNat)
    case atStart => exact ⟨0, Nat.zero_le _, rfl, by simp, Below.refl _ _⟩
    case round =>
      obtain ⟨k, hk, rfl, he, hbel⟩ := hrel
      have HE := hide he; clear he
      have hbz := hbel.size
      by_cases hlt : k < a.length
      · obtain ⟨b1, off, rfl, c0, c1, c2, c3⟩ := HA4.out _ hbel k hlt
        have hkl : k < (a ++ b).length := by rw [HLEN.out]; omega
        have hg := HGA.out k hlt
        have HH := hide (HSK.out k hkl)
        have HT := hide (HHT.out k hkl)
        rw [hg] at HH HT
        obtain ⟨x, hx⟩ : ∃ x, kn a k = x := ⟨_, rfl⟩
        rw [hx] at c0 c1 c2 c3 HH HT
        have HC := hide (fun W => within_ref x 100 W (by omega) (by omega))
        rcases kE_cases x with ⟨hf, h0⟩ | ⟨hf, h0⟩
        · rw [hf] at HC
          have H0 := hide h0
          clear hx hg hf h0 HT hkl
          go_wp2_with (go_at_call 122; go_must (refine (HC.out _).mono ?_; rintro e w1 ⟨rfl, hb1⟩; have b1 := Below.step hbel hb1; clear hb1; simp only []))
          go_roundw
          case rel => exact ⟨k + 1, by omega, by go_num, by rw [HE.out, HH.out H0.out], by assumption⟩
          case measure => simp [intOf]; omega
        · rw [hf] at HC
          have H0 := hide h0
          clear hx hg hf h0 HH hkl
          go_wp2_with (go_at_call 122; go_must (refine (HC.out _).mono ?_; rintro e w1 ⟨rfl, hb1⟩; have b1 := Below.step hbel hb1; clear hb1; simp only []))
          go_ret
          exact ⟨by rw [HE.out, HT.out (by rw [H0.out]; decide), H0.out]; rfl, by assumption⟩
      · have hka : k = a.length := by omega
        rw [hka] at HE
        obtain ⟨n, hn⟩ : ∃ n, a.length = n := ⟨_, rfl⟩
        have hd : decide ((k : Int) < (a.length : Int)) = false := by rw [decide_eq_false_iff_not]; omega
        have HKA := hide hka
        clear hka hn
        go_wp2
        obtain ⟨wo, rfl⟩ : ∃ wo : World, wo = wr := ⟨_, rfl⟩
        go_loopw [6] (fun i wr => ∃ k : Nat, k ≤ b.length ∧ i = .int .i64 k ∧ eachE kE (a ++ b) = eachE kE ((a ++ b).drop (a.length + k)) ∧ Below w.heap.size w wr) (fun i _ => b.length - (intOf i).toNat)
        case atStart => exact ⟨0, Nat.zero_le _, rfl, by rw [HE.out]; simp, hbel⟩
        case round =>
          clear HE hbel hbz hd hlt
          obtain ⟨j, hj, rfl, he, hbel⟩ := hrel
          have HE := hide he; clear he
          have hbz := hbel.size
          by_cases hlt : j < b.length
          · obtain ⟨b1, off, rfl, c0, c1, c2, c3⟩ := HB4.out _ hbel j hlt
            have hkl : a.length + j < (a ++ b).length := by rw [HLEN.out]; omega
            have hg := HGB.out j hlt
            have HH := hide (HSK.out _ hkl)
            have HT := hide (HHT.out _ hkl)
            rw [hg] at HH HT
            obtain ⟨x, hx⟩ : ∃ x, kn b j = x := ⟨_, rfl⟩
            rw [hx] at c0 c1 c2 c3 HH HT
            have HC := hide (fun W => within_ref x 100 W (by omega) (by omega))
            rcases kE_cases x with ⟨hf, h0⟩ | ⟨hf, h0⟩
            · rw [hf] at HC
              have H0 := hide h0
              clear hx hg hf h0 HT hkl
              go_wp2_with (go_at_call 122; go_must (refine (HC.out _).mono ?_; rintro e w1 ⟨rfl, hb1⟩; have b1 := Below.step hbel hb1; clear hb1; simp only []))
              go_roundw
              case rel => exact ⟨j + 1, by omega, by go_num, by rw [HE.out, HH.out H0.out, Nat.add_assoc], by assumption⟩
              case measure => simp [intOf]; omega
            · rw [hf] at HC
              have H0 := hide h0
              clear hx hg hf h0 HH hkl
              go_wp2_with (go_at_call 122; go_must (refine (HC.out _).mono ?_; rintro e w1 ⟨rfl, hb1⟩; have b1 := Below.step hbel hb1; clear hb1; simp only []))
              go_ret
              exact ⟨by rw [HE.out, HT.out (by rw [H0.out]; decide), H0.out]; rfl, by assumption⟩
          · have hjb : j = b.length := by omega
            rw [hjb] at HE
            have hd : decide ((j : Int) < (b.length : Int)) = false := by rw [decide_eq_false_iff_not]; omega
            clear hjb
            go_wp2
            go_ret
            exact ⟨by rw [HE.out, List.drop_eq_nil_of_le (by rw [HLEN.out]; exact Nat.le_refl _)]; rfl, hbel⟩
set_option maxRecDepth 100000 in
set_option maxHeartbeats 4000000 in
theorem OffsetOf_err (A B : Option Addr) (c d : Nat) (a b : List Nm) (w : World) (ha : Sl w A (nvs a)) (hb : Sl w B (nvs b)) (hl : a.length ≤ 1000000) (hl' : b.length ≤ 1000000) (h : offE a b ≠ 0) :
    Calls Try.prog 50 #[.slice A a.length c, .slice B b.length d] w fun e w' => e = .returned (.tuple #[.int .i64 0, .int .i64 (offE a b)]) ∧ Below w.heap.size w w' := by
  have HA := hide ha
  have HB := hide hb
  clear ha hb
  have u1 : ∀ x, firstOf [unlessE false 10, unlessE x 8] = 10 := fun x => rfl
  have u2 : firstOf [unlessE true 10, unlessE false 8] = 8 := rfl
  have u3 : firstOf [unlessE true 10, unlessE true 8] = 0 := rfl
  rcases offE_cases a b with ⟨h1, he⟩ | ⟨h1, h2, he⟩ | ⟨h1, h2, h3, he⟩ | ⟨h1, h2, h3, he⟩
  · have q1 : decide (0 < a.length) = false := by rw [decide_eq_false_iff_not]; omega
    obtain ⟨x, hx⟩ : ∃ x, decide ((a.length : Int) ≤ 16) = x := ⟨_, rfl⟩
    rw [he]
    clear h1 he h
    go_enter Try.func50, Try.ntmps50
    go_wp2_with (first
      | (go_at_call 115; refine (unless_any _ _ _).mono ?_; rintro e w' ⟨rfl, rfl⟩; simp only [])
      | (go_at_call 107; go_must (refine (first2 _ _ _ _ (by simp)).mono ?_; rintro e w' ⟨rfl, rfl⟩; rw [u1]; simp only [])))
    go_ret2
    exact ⟨rfl, by go_grown⟩
  · have q1 : decide (0 < a.length) = true := by rw [decide_eq_true_iff]; omega
    have q2 : ((b.length : Int) == (a.length : Int)) = false := by rw [beq_eq_false_iff_ne]; omega
    obtain ⟨x, hx⟩ : ∃ x, decide ((a.length : Int) ≤ 16) = x := ⟨_, rfl⟩
    rw [he]
    clear h1 h2 he h
    go_enter Try.func50, Try.ntmps50
    go_wp2_with (first
      | (go_at_call 115; refine (unless_any _ _ _).mono ?_; rintro e w' ⟨rfl, rfl⟩; simp only [])
      | (go_at_call 107; go_must (refine (first2 _ _ _ _ (by simp)).mono ?_; rintro e w' ⟨rfl, rfl⟩; rw [u1]; simp only [])))
    go_ret2
    exact ⟨rfl, by go_grown⟩
  · have q1 : decide (0 < a.length) = true := by rw [decide_eq_true_iff]; omega
    have q2 : ((b.length : Int) == (a.length : Int)) = true := by rw [h2]; simp
    have q3 : decide ((a.length : Int) ≤ 16) = false := by rw [decide_eq_false_iff_not]; omega
    rw [he]
    clear h1 h2 he h
    go_enter Try.func50, Try.ntmps50
    go_wp2_with (first
      | (go_at_call 115; refine (unless_any _ _ _).mono ?_; rintro e w' ⟨rfl, rfl⟩; simp only [])
      | (go_at_call 107; go_must (refine (first2 _ _ _ _ (by simp)).mono ?_; rintro e w' ⟨rfl, rfl⟩; rw [u2]; simp only [])))
    go_ret2
    exact ⟨rfl, by go_grown⟩
  · have q1 : decide (0 < a.length) = true := by rw [decide_eq_true_iff]; omega
    have q2 : ((b.length : Int) == (a.length : Int)) = true := by rw [h2]; simp
    have q3 : decide ((a.length : Int) ≤ 16) = true := by rw [decide_eq_true_iff]; omega
    have hK := hide (enters Try.func137 (by kernel_rfl) rfl)
    obtain ⟨E, hE⟩ : ∃ E, eachE kE (a ++ b) = E := ⟨_, rfl⟩
    rw [he, hE] at h
    have HEACH := hide (fun C k W (hc : Sl W C (nvs (a ++ b))) => by
      have := each_num 137 kE C k (a ++ b) W hK.out (fun z W => offset1_wave z W) hc (by simp; omega)
      rw [hE, show (a ++ b).length = a.length + b.length by simp] at this
      exact this)
    have HCON := hide (fun W g (hg : W.heap.size = g) (k1 : Sl W A (nvs a)) (k2 : Sl W B (nvs b)) => concat_num2 A B a.length b.length c d a b W rfl rfl k1 k2 (by omega) g hg)
    have hne : (E != 0) = true := by rw [bne_iff_ne]; exact h
    rw [he, hE]
    clear h1 h2 he hE h
    go_enter Try.func50, Try.ntmps50
    go_wp2_with (first
      | (go_at_call 115; refine (unless_any _ _ _).mono ?_; rintro e w' ⟨rfl, rfl⟩; simp only [])
      | (go_at_call 107; go_must (refine (first2 _ _ _ _ (by simp)).mono ?_; rintro e w' ⟨rfl, rfl⟩; rw [u3]; simp only []))
      | (go_at_call 136; go_must (refine (HCON.out _ _ (by simp) (HA.out.bel (by go_grown)) (HB.out.bel (by go_grown))).mono ?_; rintro e w1 ⟨C, k, rfl, hc, hb1⟩; have b1 : Below w.heap.size w w1 := Below.step (by go_grown) hb1; have HC := hide hc; clear hb1 hc; simp only []))
      | (go_at_call 135; go_must (refine (HEACH.out _ _ _ HC.out).mono ?_; rintro e w2 ⟨rfl, hb2⟩; have b2 : Below w.heap.size w w2 := Below.step b1 hb2; clear hb2; simp only [])))
    go_ret2
    exact ⟨rfl, b2⟩
end Go.Proofs.Ythfmjohbokpceaa
