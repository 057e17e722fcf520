import Derived.Test.YthfmjohbokpceaaCelC
namespace Go.Proofs.Ythfmjohbokpceaa
open Go.RowKit Go.WideShapes Go.ChangeShapes

/-! the identity at a place, and at all places: right values -/
def srch (g : Nat → Int × Int) : Nat → Nat × Int × Int
  | 0 => (0, g 0)
  | k + 1 => if (srch g k).2.2 < (g (k + 1)).2 then (k + 1, g (k + 1)) else srch g k
theorem srch_yes {g : Nat → Int × Int} {k : Nat} (h : (srch g k).2.2 < (g (k + 1)).2) : srch g (k + 1) = (k + 1, g (k + 1)) := if_pos h
theorem srch_no {g : Nat → Int × Int} {k : Nat} (h : (g (k + 1)).2 ≤ (srch g k).2.2) : srch g (k + 1) = srch g k := if_neg (by omega)
set_option maxRecDepth 100000 in
set_option maxHeartbeats 4000000 in
theorem IdentityAt_ok (A : Option Addr) (c : Nat) (x : List Int) (t : Nat) (w : World) (hs : Sl w A (iv x)) (hc : x.length ≤ c) (h : idE x t = 0) :
    Calls Try.prog 85 #[.slice A x.length c, .int .i64 (t : Int)] w fun e w' => e = .returned (.tuple #[.agg #[.int .i64 (t : Int), .int .i64 (idAt x t).1, .int .i64 (idAt x t).2], .int .i64 0]) ∧ Below w.heap.size w w' := by
  obtain ⟨h1, h2, h3⟩ := idE_ok' h
  obtain ⟨hl, hx⟩ := rcvE_ok h1
  have hb : withinB (t : Int) 0 ((x.length : Int) - 62) = true := by unfold withinB; simp; omega
  have HB := hide hb
  obtain ⟨b, off, rfl, -⟩ := hs.int (k := 0) (by omega)
  have HR := hide (fun W (h : Sl W (some ⟨b, off, none⟩) (iv x)) => by have := receivedErr_wave (some ⟨b, off, none⟩) c x W h (by omega); rw [h1] at this; exact this)
  have HA := hide (fun SA c1 GA c2 W (hS : LstI W SA secL 3) (hG : LstI W GA grpL 336) (h : Sl W (some ⟨b, off, none⟩) (iv x)) => at_wave SA c1 GA c2 b off c t x W hS hG h (by omega) hc (by omega) hx)
  obtain ⟨P, hP⟩ : ∃ P, idAt x t = P := ⟨_, rfl⟩
  rw [hP] at HA
  rw [hP]
  have HT := hide (stay_sl hs)
  clear hs h h1 h2 h3 hx hb hP
  go_enter Try.func85, Try.ntmps85
  go_wp2_with (first
    | (go_at_call 114; go_must (refine (HR.out _ (HT.out.alloc _).now).mono ?_; rintro e w1 ⟨rfl, hb1⟩; have b1 : Below w.heap.size w w1 := Below.step ((Below.refl _ _).alloc (Nat.le_refl _) _) hb1; have HZ := hide (stay_blk ((Blk.new w 42 #[.int .i64 0, .int .i64 0, .int .i64 0]).below hb1 (by simp))); clear hb1; simp only []))
    | (go_at_call 142; go_must (refine (within_wave _ _ _ _).mono ?_; rintro e w' ⟨rfl, rfl⟩; rw [HB.out]; simp only []))
    | (go_at_call 115; refine (unless_any _ _ _).mono ?_; rintro e w' ⟨rfl, rfl⟩; simp only [])
    | (go_at_call 107; go_must (refine (first2 _ _ _ _ (by simp)).mono ?_; rintro e w' ⟨rfl, rfl⟩; rw [show firstOf [0, unlessE true 6] = 0 from rfl]; simp only []))
    | (go_at_call 116; go_must (refine (all_wave _).mono ?_; rintro e w2 ⟨SA, c1, GA, c2, rfl, hS, hG, hb⟩; have b2 : Below w.heap.size w w2 := Below.step (b1.alloc b1.size _) hb; have HZ2 := hide ((HZ.out.alloc _).step hb); have HS := hide hS; have HG := hide hG; clear hb hS hG; simp only []))
    | (go_at_call 117; go_must (refine (HA.out SA c1 GA c2 _ HS.out HG.out (HT.out.step b2).now).mono ?_; rintro e w3 ⟨rfl, hb⟩; have b3 : Below w.heap.size w w3 := Below.step b2 hb; have HZ3 := hide (HZ2.out.step hb).now; clear hb; simp only []))
    | (refine wpList_store_row rfl 42 (.tmp 4) (.tmp 24) rfl w.heap.size #[.int .i64 (t : Int), .int .i64 P.1, .int .i64 P.2] rfl rfl 42 #[.int .i64 0, .int .i64 0, .int .i64 0] HZ3.out (by kernel_rfl) rfl (by simp [Value.oneCell']) ?_))
  exact bodyPost_ret (results_row_tmp rfl _ _ w.heap.size 42 #[.int .i64 (t : Int), .int .i64 P.1, .int .i64 P.2] _ (.int .i64 0) rfl rfl (HZ3.out.row _) Try.underlying42 rfl (by kernel_rfl)) rfl ⟨rfl, Below.row b3 (Nat.le_refl _) _⟩
set_option maxRecDepth 100000 in
set_option maxHeartbeats 4000000 in
theorem Search_ok (A : Option Addr) (c N : Nat) (x : List Int) (w : World) (hs : Sl w A (iv x)) (hc : x.length ≤ c) (h : srE x = 0) (hN : x.length = N + 62) :
    Calls Try.prog 27 #[.slice A x.length c] w fun e w' => e = .returned (.tuple #[.agg #[.int .i64 ((srch (idAt x) N).1 : Int), .int .i64 (srch (idAt x) N).2.1, .int .i64 (srch (idAt x) N).2.2], .int .i64 0]) ∧ Below w.heap.size w w' := by
  obtain ⟨h1, h2⟩ := srE_ok h
  obtain ⟨hl, hx⟩ := rcvE_ok h1
  have hb : decide (62 ≤ (x.length : Int)) = true := by rw [decide_eq_true_iff]; omega
  obtain ⟨b, off, rfl, -⟩ := hs.int (k := 0) (by omega)
  have HR := hide (fun W (h : Sl W (some ⟨b, off, none⟩) (iv x)) => by have := receivedErr_wave (some ⟨b, off, none⟩) c x W h (by omega); rw [h1] at this; exact this)
  have HA := hide (fun (t : Nat) (ht : t ≤ N) SA c1 GA c2 W (hS : LstI W SA secL 3) (hG : LstI W GA grpL 336) (h : Sl W (some ⟨b, off, none⟩) (iv x)) => at_wave SA c1 GA c2 b off c t x W hS hG h (by omega) hc (by omega) hx)
  have HBD := hide (show ∀ t, -6200000 ≤ (idAt x t).2 ∧ (idAt x t).2 ≤ 6200000 from fun t => by have := secB_bd hx t; have := grpB_bd hx t; unfold idAt; dsimp only; omega)
  obtain ⟨G, hG⟩ : ∃ G, idAt x = G := ⟨_, rfl⟩
  have HG := hide (show ∀ t, idAt x t = G t from fun t => by rw [hG])
  rw [hG]
  have HA2 := hide (fun (t : Nat) (ht : t ≤ N) SA c1 GA c2 W (hS : LstI W SA secL 3) (hG : LstI W GA grpL 336) (h : Sl W (some ⟨b, off, none⟩) (iv x)) => by have := HA.out t ht SA c1 GA c2 W hS hG h; rw [HG.out] at this; exact this)
  rw [hG] at HBD
  have HT := hide (stay_sl hs)
  have hN' : (x.length : Int) = N + 62 := by omega
  have HNN := hide hN'
  clear hs h h1 h2 hx hG HG HA hN'
  rw [hN] at HR HA2 hb hl hc ⊢
  have HD := hide (show decide (62 ≤ (N : Int) + 62) = true by rw [decide_eq_true_iff]; omega)
  clear hb
  go_enter Try.func27, Try.ntmps27
  go_wp2_with (first
    | (go_at_call 114; go_must (refine (HR.out _ (HT.out.alloc _).now).mono ?_; rintro e w1 ⟨rfl, hb1⟩; have b1 : Below w.heap.size w w1 := Below.step ((Below.refl _ _).alloc (Nat.le_refl _) _) hb1; have HZ := hide (stay_blk ((Blk.new w 42 #[.int .i64 0, .int .i64 0, .int .i64 0]).below hb1 (by simp))); clear hb1; simp only []))
    | (go_at_call 115; refine (unless_any _ _ _).mono ?_; rintro e w' ⟨rfl, rfl⟩; rw [HD.out]; simp only [])
    | (go_at_call 107; go_must (refine (first2 _ _ _ _ (by simp)).mono ?_; rintro e w' ⟨rfl, rfl⟩; rw [show firstOf [0, unlessE true 10] = 0 from rfl]; simp only []))
    | (go_at_call 116; go_must (refine (all_wave _).mono ?_; rintro e w2 ⟨SA, c1, GA, c2, rfl, hS, hG, hb⟩; have b2 : Below w.heap.size w w2 := Below.step (b1.alloc b1.size _) hb; replace HZ := hide ((HZ.out.alloc _).step hb); have HS := hide (fun W hW => LstI.bel hS (w' := W) hW); have HG := hide (fun W hW => LstI.bel hG (w' := W) hW); clear hb hS hG; simp only []))
    | (go_at_call 117; go_must (refine (HA2.out 0 (by omega) SA c1 GA c2 _ (HS.out _ ((Below.refl _ _).alloc (Nat.le_refl _) _)) (HG.out _ ((Below.refl _ _).alloc (Nat.le_refl _) _)) ((HT.out.step b2).alloc _).now).mono ?_; rintro e w3 ⟨rfl, hb⟩; have hv := (Blk.new w2 171 #[.slice SA 3 c1, .slice GA 336 c2]).below hb (by simp); have b3 : Below w2.heap.size w2 w3 := Below.step ((Below.refl _ _).alloc (Nat.le_refl _) _) hb; clear hb; simp only [])))
  have ho0 := Blk.new w3 42 #[.int .i64 0, .int .i64 (G 0).1, .int .i64 (G 0).2]
  have hv0 := hv.alloc (.cells #[.int .i64 0, .int .i64 (G 0).1, .int .i64 (G 0).2] 42)
  have hb0 := b3.alloc b3.size (.cells #[.int .i64 0, .int .i64 (G 0).1, .int .i64 (G 0).2] 42)
  have hge := b3.size
  obtain ⟨W4, hW4⟩ : ∃ W4, w3.alloc (.cells #[.int .i64 0, .int .i64 (G 0).1, .int .i64 (G 0).2] 42) = W4 := ⟨_, rfl⟩
  rw [hW4] at ho0 hv0 hb0 ⊢
  obtain ⟨o, ho⟩ : ∃ o, w3.heap.size = o := ⟨_, rfl⟩
  rw [ho] at ho0 hge ⊢
  obtain ⟨q, hq⟩ : ∃ q, w2.heap.size = q := ⟨_, rfl⟩
  rw [hq] at hv0 ⊢
  have HQ2 := hide hq
  have hne : o ≠ q := ho0.ne_ hv0 (by decide)
  have hne' : q ≠ o := hne.symm
  clear hW4 ho hv b3 HR hq
  go_loopw [7] (fun i wr => ∃ k : Nat, k ≤ N ∧ i = .int .i64 ((k + 1 : Nat) : Int) ∧ Blk wr o 42 #[.int .i64 ((srch G k).1 : Int), .int .i64 (srch G k).2.1, .int .i64 (srch G k).2.2] ∧ Blk wr q 171 #[.slice SA 3 c1, .slice GA 336 c2] ∧ Below w2.heap.size w2 wr) (fun i _ => N + 1 - (intOf i).toNat)
  case atStart => exact ⟨0, Nat.zero_le _, rfl, ho0, hv0, hb0⟩
  case round =>
    obtain ⟨k, hk, rfl, hO, hV, hbel⟩ := hrel
    have HY := hide (srch_yes (g := G) (k := k))
    have HN2 := hide (srch_no (g := G) (k := k))
    obtain ⟨st, hst⟩ : ∃ st, srch G k = st := ⟨_, rfl⟩
    rw [hst] at hO HY HN2
    have HST := hide hst
    clear hst ho0 hv0 hb0
    have hol := hO.lt
    have hql := hV.lt
    have v0 := hV.cell 0
    have v1 := hV.cell 1
    have HO := hide hO
    have HV := hide hV
    have HB := hide hbel
    clear hO hV hbel
    by_cases hlt : k < N
    · have HAT := hide (HA2.out (k + 1) (by omega) SA c1 GA c2 wr (HS.out wr HB.out) (HG.out wr HB.out) ((HT.out.step b2).step HB.out).now)
      have hbd := HBD.out (k + 1)
      obtain ⟨R, hR⟩ : ∃ R, G (k + 1) = R := ⟨_, rfl⟩
      rw [hR] at HAT HY HN2 hbd
      clear hR
      by_cases hgt : st.2.2 < R.2
      · go_wp2_with (first
          | (go_at_call 117; go_must (refine HAT.out.mono ?_; rintro e w5 ⟨rfl, hb⟩; have HO5 := hide (HO.out.below hb hol); have HV5 := hide (HV.out.below hb hql); have HB5 := hide (Below.step HB.out hb); have hs5 := hb.size; have o2 := fun ob => (HO5.out.alloc ob).cell 2; clear hb v0 v1; simp only []))
          | (refine wpList_store_row rfl 42 (.tmp 6) (.tmp 41) rfl o #[.int .i64 ((k + 1 : Nat) : Int), .int .i64 R.1, .int .i64 R.2] rfl rfl 42 #[.int .i64 (st.1 : Int), .int .i64 st.2.1, .int .i64 st.2.2] (HO5.out.alloc _) (by kernel_rfl) rfl (by simp [Value.oneCell']) ?_))
        go_roundw
        case rel => (repeat apply Exists.intro); exact ⟨⟨k + 1, by omega, by go_num, by rw [HY.out hgt]; exact (HO5.out.alloc _).row _, (HV5.out.alloc _).rowFar hne' _, Below.row (HB5.out.alloc HB5.out.size _) (by omega) _⟩, rfl⟩
        case measure => simp [intOf]; omega
      · have hle : R.2 ≤ st.2.2 := by omega
        go_wp2_with (first
          | (go_at_call 117; go_must (refine HAT.out.mono ?_; rintro e w5 ⟨rfl, hb⟩; have HO5 := hide (HO.out.below hb hol); have HV5 := hide (HV.out.below hb hql); have HB5 := hide (Below.step HB.out hb); have hs5 := hb.size; have o2 := fun ob => (HO5.out.alloc ob).cell 2; clear hb v0 v1; simp only [])))
        go_roundw
        case rel => exact ⟨k + 1, by omega, by go_num, by rw [HN2.out hle]; exact HO5.out.alloc _, HV5.out.alloc _, HB5.out.alloc HB5.out.size _⟩
        case measure => simp [intOf]; omega
    · obtain rfl : k = N := by omega
      have hr := ((HZ.out.step HB.out).now)
      have HRZ := hide hr
      have u0 := HO.out.cell 0
      have u1 := HO.out.cell 1
      have u2 := HO.out.cell 2
      clear hr
      go_wp2_with (first
        | (refine wpList_store_row rfl 42 (.tmp 2) (.tmp 42) rfl w.heap.size #[.int .i64 (st.1 : Int), .int .i64 st.2.1, .int .i64 st.2.2] rfl rfl 42 #[.int .i64 0, .int .i64 0, .int .i64 0] HRZ.out (by kernel_rfl) rfl (by simp [Value.oneCell']) ?_))
      exact bodyPost_ret (results_row_tmp rfl _ _ w.heap.size 42 #[.int .i64 (st.1 : Int), .int .i64 st.2.1, .int .i64 st.2.2] _ (.int .i64 0) rfl rfl (HRZ.out.row _) Try.underlying42 rfl (by kernel_rfl)) rfl ⟨by rw [HST.out], Below.row (Below.step b2 HB.out) (Nat.le_refl _) _⟩
end Go.Proofs.Ythfmjohbokpceaa
