import Derived.Test.YthfmjohbokpceaaCelE
namespace Go.Proofs.Ythfmjohbokpceaa
open Go.RowKit Go.WideShapes Go.ChangeShapes

/-! the identity at a place, and at all places: the reference -/
theorem seq_grp (n i : Nat) (hi : i < 31) : (seqL (3 * n))[31 + i]?.getD 0 = (grpL n)[i]?.getD 0 := by
  unfold seqL
  rw [List.getElem?_append_right (by rw [secL_len]; omega), secL_len, Nat.add_sub_cancel_left, show 3 * n / 3 = n by omega]
theorem seq_sec (n i : Nat) (hn : n < 3) (hi : i < 31) : (seqL (1 * n))[0 + i]?.getD 0 = (secL n)[i]?.getD 0 := by
  unfold seqL
  rw [List.getElem?_append_left (by rw [secL_len]; omega), Nat.zero_add, Nat.one_mul, Nat.mod_eq_of_lt hn]
theorem grp_ref (B : Option Addr) (cx : Nat) (xs : List Int) (w : World) (hx : xs.length = 31) (hB : Sl w B (iv xs)) (hb : ∀ x ∈ xs, -100000 ≤ x ∧ x ≤ 100000) :
    Calls Try.prog 159 #[.slice B 31 cx, .int .i64 336, .int .i64 31, .int .i64 3] w fun e w' => e = .returned (.tuple #[.int .i64 ((bst (fun j => innS (grpL j) xs 31) 336).1 : Int), .int .i64 (bst (fun j => innS (grpL j) xs 31) 336).2]) ∧ Below w.heap.size w w' :=
  best_ref B cx xs w 336 31 3 grpL (by omega) hx hB hb grpL_len grpL_bd (by omega) (fun n hn => by omega) (by omega) (by omega) (fun n _ i hi => seq_grp n i hi)
theorem sec_ref (B : Option Addr) (cx : Nat) (xs : List Int) (w : World) (hx : xs.length = 31) (hB : Sl w B (iv xs)) (hb : ∀ x ∈ xs, -100000 ≤ x ∧ x ≤ 100000) :
    Calls Try.prog 159 #[.slice B 31 cx, .int .i64 3, .int .i64 0, .int .i64 1] w fun e w' => e = .returned (.tuple #[.int .i64 ((bst (fun j => innS (secL j) xs 31) 3).1 : Int), .int .i64 (bst (fun j => innS (secL j) xs 31) 3).2]) ∧ Below w.heap.size w w' :=
  best_ref B cx xs w 3 0 1 secL (by omega) hx hB hb secL_len secL_bd (by omega) (fun n hn => by omega) (by omega) (by omega) (fun n hn i hi => seq_sec n i hn hi)
set_option maxRecDepth 100000 in
set_option maxHeartbeats 4000000 in
theorem IdentityAt_ref_bad (A : Option Addr) (c : Nat) (x : List Int) (t : Int) (w : World) (hl : x.length ≤ 1000000) (h : withinB t 0 ((x.length : Int) - 62) = false) :
    Calls Try.prog 86 #[.slice A x.length c, .int .i64 t] w fun e w' => e = .returned (.tuple #[.agg #[.int .i64 0, .int .i64 0, .int .i64 0], .int .i64 6]) ∧ Below w.heap.size w w' := by
  have HB := hide h
  have HR := hide (Blk.new w 42 #[.int .i64 0, .int .i64 0, .int .i64 0])
  clear h
  go_enter Try.func86, Try.ntmps86
  go_wp2_with (first
    | (go_at_call 24; go_must (refine (within_base _ _ _ _).mono ?_; rintro e w' ⟨rfl, rfl⟩; rw [HB.out]; simp only []))
    | (refine wpList_store_row rfl 42 (.tmp 4) (.tmp 16) rfl w.heap.size #[.int .i64 0, .int .i64 0, .int .i64 0] rfl rfl 42 #[.int .i64 0, .int .i64 0, .int .i64 0] HR.out (by kernel_rfl) rfl (by simp [Value.oneCell']) ?_))
  exact bodyPost_ret (results_row_tmp rfl _ _ w.heap.size 42 #[.int .i64 0, .int .i64 0, .int .i64 0] _ (.int .i64 6) rfl rfl (HR.out.row #[.int .i64 0, .int .i64 0, .int .i64 0]) Try.underlying42 rfl (by kernel_rfl)) rfl ⟨rfl, Below.row ((Below.refl _ _).alloc (Nat.le_refl _) _) (Nat.le_refl _) _⟩
set_option maxRecDepth 100000 in
set_option maxHeartbeats 4000000 in
theorem IdentityAt_ref (A : Option Addr) (c : Nat) (x : List Int) (t : Nat) (w : World) (hs : Sl w A (iv x)) (hc : x.length ≤ c) (h : idE x t = 0) :
    Calls Try.prog 86 #[.slice A x.length c, .int .i64 (t : Int)] w fun e w' => e = .returned (.tuple #[.agg #[.int .i64 (t : Int), .int .i64 (idAt x t).1, .int .i64 (idAt x t).2], .int .i64 0]) ∧ Below w.heap.size w w' := by
  obtain ⟨h1, h2, h3⟩ := idE_ok' h
  obtain ⟨hl, hx⟩ := rcvE_ok h1
  have hb : withinB (t : Int) 0 ((x.length : Int) - 62) = true := by unfold withinB; simp; omega
  have HB := hide hb
  obtain ⟨b, off, rfl, -⟩ := hs.int (k := 0) (by omega)
  have hsl1 := slice_cut b off x.length c t (by omega)
  have hsl2 := slice_cut b off x.length c (t + 31) (by omega)
  rw [show ((t + 31 : Nat) : Int) = (t : Int) + 31 by omega, show (t : Int) + 31 + 31 = (t : Int) + 62 by omega] at hsl2
  have HG := hide (fun W (h : Sl W (some ⟨b, off, none⟩) (iv x)) => grp_ref (some ⟨b, off + (t + 31), none⟩) (c - (t + 31)) (cut31 x (t + 31)) W (cut31_len (by omega)) h.cut (cut31_bd hx (t + 31)))
  have HS := hide (fun W (h : Sl W (some ⟨b, off, none⟩) (iv x)) => sec_ref (some ⟨b, off + t, none⟩) (c - t) (cut31 x t) W (cut31_len (by omega)) h.cut (cut31_bd hx t))
  obtain ⟨s1, s2, s3⟩ := secB_bd hx t
  obtain ⟨g1, g2, g3⟩ := grpB_bd hx t
  have HV := hide (show idAt x t = (3 * ((grpB x t).1 : Int) + (secB x t).1, (secB x t).2 + (grpB x t).2) from rfl)
  obtain ⟨P, hP⟩ : ∃ P, secB x t = P := ⟨_, rfl⟩
  obtain ⟨Q, hQ⟩ : ∃ Q, grpB x t = Q := ⟨_, rfl⟩
  rw [show bst (fun s => innS (secL s) (cut31 x t) 31) 3 = P from hP] at HS
  rw [show bst (fun g => innS (grpL g) (cut31 x (t + 31)) 31) 336 = Q from hQ] at HG
  rw [hP, hQ] at HV
  rw [hP] at s1 s2 s3
  rw [hQ] at g1 g2 g3
  rw [HV.out]
  have HT := hide (((stay_sl hs).alloc (.cells #[.int .i64 0, .int .i64 0, .int .i64 0] 42)).and (stay_new w 42 #[.int .i64 0, .int .i64 0, .int .i64 0]))
  have hbb : Below w.heap.size w (w.alloc (.cells #[.int .i64 0, .int .i64 0, .int .i64 0] 42)) := (Below.refl _ _).alloc (Nat.le_refl _) _
  have HBB := hide hbb
  clear hP hQ HV hs h h1 hx hb hbb
  go_enter Try.func86, Try.ntmps86
  go_wp2_with (first
    | (go_at_call 24; go_must (refine (within_base _ _ _ _).mono ?_; rintro e w' ⟨rfl, rfl⟩; rw [HB.out]; simp only []))
    | (go_at_call 159; with_reducible refine (HG.out _ HT.out.now.1).mono ?_; rintro e w2 ⟨rfl, hb⟩; have HT2 := hide (HT.out.step hb); have HB2 := hide (Below.step HBB.out hb); clear hb; simp only [])
    | (go_at_call 159; go_must (refine (HS.out _ HT2.out.now.1).mono ?_; rintro e w3 ⟨rfl, hb⟩; have HT3 := hide (HT2.out.step hb).now.2; have HB3 := hide (Below.step HB2.out hb); clear hb; simp only []))
    | (refine wpList_store_row rfl 42 (.tmp 4) (.tmp 44) rfl w.heap.size #[.int .i64 (t : Int), .int .i64 (3 * (Q.1 : Int) + (P.1 : Int)), .int .i64 (P.2 + Q.2)] rfl rfl 42 #[.int .i64 0, .int .i64 0, .int .i64 0] HT3.out (by kernel_rfl) rfl (by simp [Value.oneCell']) ?_))
  exact bodyPost_ret (results_row_tmp rfl _ _ w.heap.size 42 #[.int .i64 (t : Int), .int .i64 (3 * (Q.1 : Int) + (P.1 : Int)), .int .i64 (P.2 + Q.2)] _ (.int .i64 0) rfl rfl (HT3.out.row _) Try.underlying42 rfl (by kernel_rfl)) rfl ⟨rfl, Below.row HB3.out (Nat.le_refl _) _⟩
def rsr (g : Nat → Int × Int) (k : Nat) : Nat × Int × Int := if k = 0 then (0, 0, 0) else srch g (k - 1)
theorem rsr_yes {g : Nat → Int × Int} {k : Nat} {st : Nat × Int × Int} {R : Int × Int} (h : rsr g k = st) (hg : g k = R) (hy : k = 0 ∨ st.2.2 < R.2) : rsr g (k + 1) = (k, R) := by
  subst h hg
  rcases k with _ | k
  · rfl
  · rcases hy with h | h
    · omega
    · exact srch_yes h
theorem rsr_no {g : Nat → Int × Int} {k : Nat} {st : Nat × Int × Int} {R : Int × Int} (h : rsr g k = st) (hg : g k = R) (h0 : 0 < k) (hy : R.2 ≤ st.2.2) : rsr g (k + 1) = st := by
  subst h hg
  rcases k with _ | k
  · omega
  · exact srch_no hy
theorem rsr_last (g : Nat → Int × Int) (k : Nat) : rsr g (k + 1) = srch g k := rfl
set_option maxRecDepth 100000 in
set_option maxHeartbeats 4000000 in
theorem Search_ref_bad (A : Option Addr) (c : Nat) (x : List Int) (w : World) (h : x.length < 62) :
    Calls Try.prog 87 #[.slice A x.length c] w fun e w' => e = .returned (.tuple #[.agg #[.int .i64 0, .int .i64 0, .int .i64 0], .int .i64 10]) ∧ Below w.heap.size w w' := by
  have HR := hide (Blk.new w 42 #[.int .i64 0, .int .i64 0, .int .i64 0])
  go_enter Try.func87, Try.ntmps87
  go_wp2_with (first
    | (refine wpList_store_row rfl 42 (.tmp 2) (.tmp 11) rfl w.heap.size #[.int .i64 0, .int .i64 0, .int .i64 0] rfl rfl 42 #[.int .i64 0, .int .i64 0, .int .i64 0] HR.out (by kernel_rfl) rfl (by simp [Value.oneCell']) ?_))
  exact bodyPost_ret (results_row_tmp rfl _ _ w.heap.size 42 #[.int .i64 0, .int .i64 0, .int .i64 0] _ (.int .i64 10) rfl rfl (HR.out.row #[.int .i64 0, .int .i64 0, .int .i64 0]) Try.underlying42 rfl (by kernel_rfl)) rfl ⟨rfl, Below.row ((Below.refl _ _).alloc (Nat.le_refl _) _) (Nat.le_refl _) _⟩
set_option maxRecDepth 100000 in
set_option maxHeartbeats 4000000 in
theorem Search_ref (A : Option Addr) (c N : Nat) (x : List Int) (w : World) (hs : Sl w A (iv x)) (hc : x.length ≤ c) (h : srE x = 0) (hN : x.length = N + 62) :
    Calls Try.prog 87 #[.slice A x.length c] w fun e w' => e = .returned (.tuple #[.agg #[.int .i64 ((srch (idAt x) N).1 : Int), .int .i64 (srch (idAt x) N).2.1, .int .i64 (srch (idAt x) N).2.2], .int .i64 0]) ∧ Below w.heap.size w w' := by
  obtain ⟨h1, h2⟩ := srE_ok h
  obtain ⟨hl, hx⟩ := rcvE_ok h1
  have HA := hide (fun (t : Nat) (ht : t ≤ N) W (h : Sl W A (iv x)) => IdentityAt_ref A c x t W h hc (by unfold idE firstOf; rw [if_pos h1]; unfold firstOf; rw [if_pos (by unfold unlessE withinB; rw [if_pos (by simp; omega)])]; rfl))
  have HBD := hide (show ∀ t, -6200000 ≤ (idAt x t).2 ∧ (idAt x t).2 ≤ 6200000 from fun t => by have := secB_bd hx t; have := grpB_bd hx t; unfold idAt; dsimp only; omega)
  obtain ⟨G, hG⟩ : ∃ G, idAt x = G := ⟨_, rfl⟩
  have HG := hide (show ∀ t, idAt x t = G t from fun t => by rw [hG])
  rw [hG]
  have HA2 := hide (fun (t : Nat) (ht : t ≤ N) W (h : Sl W A (iv x)) => by have := HA.out t ht W h; rw [HG.out] at this; exact this)
  rw [hG] at HBD
  have HT := hide (stay_sl hs)
  have HRES := hide (rsr_last G N)
  rw [← HRES.out]
  clear hs h h1 h2 hx hG HG HA HRES
  rw [hN] at HA2 hl hc ⊢
  have hr0 := (Blk.new w 42 #[.int .i64 0, .int .i64 0, .int .i64 0]).alloc (.cells #[.int .i64 0, .int .i64 0, .int .i64 0] 42)
  have ho0 := Blk.newN (w.alloc (.cells #[.int .i64 0, .int .i64 0, .int .i64 0] 42)) 42 #[.int .i64 0, .int .i64 0, .int .i64 0] (g := w.heap.size + 1) (by simp)
  have hb0 : Below w.heap.size w ((w.alloc (.cells #[.int .i64 0, .int .i64 0, .int .i64 0] 42)).alloc (.cells #[.int .i64 0, .int .i64 0, .int .i64 0] 42)) := by go_grown
  have H0 := hide (And.intro hr0 (And.intro ho0 hb0))
  clear hr0 ho0 hb0
  go_enter Try.func87, Try.ntmps87
  go_wp2
  obtain ⟨W0, hW0⟩ : ∃ W0, (w.alloc (.cells #[.int .i64 0, .int .i64 0, .int .i64 0] 42)).alloc (.cells #[.int .i64 0, .int .i64 0, .int .i64 0] 42) = W0 := ⟨_, rfl⟩
  rw [hW0] at H0 ⊢
  clear hW0
  go_loopw [5] (fun i wr => ∃ k : Nat, k ≤ N + 1 ∧ i = .int .i64 (k : Int) ∧ Blk wr w.heap.size 42 #[.int .i64 0, .int .i64 0, .int .i64 0] ∧ Blk wr (w.heap.size + 1) 42 #[.int .i64 ((rsr G k).1 : Int), .int .i64 (rsr G k).2.1, .int .i64 (rsr G k).2.2] ∧ Below w.heap.size w wr) (fun i _ => N + 1 - (intOf i).toNat)
  case atStart => exact ⟨0, Nat.zero_le _, rfl, H0.out.1, H0.out.2.1, H0.out.2.2⟩
  case round =>
    obtain ⟨k, hk, rfl, hR, hO, hbel⟩ := hrel
    obtain ⟨st, hst⟩ : ∃ st, rsr G k = st := ⟨_, rfl⟩
    rw [hst] at hO
    have HST := hide hst
    have HO := hide hO
    have HR := hide hR
    have HB := hide hbel
    have hol := hO.lt
    have hsz := hbel.size
    clear hst hO hR hbel
    by_cases hlt : k ≤ N
    · have HAT := hide (HA2.out k hlt wr (HT.out.step HB.out).now)
      obtain ⟨R, hR⟩ : ∃ R, G k = R := ⟨_, rfl⟩
      have HGK := hide hR
      have hbd := HBD.out k
      rw [hR] at HAT hbd
      clear hR
      by_cases hyes : k = 0 ∨ st.2.2 < R.2
      · have HNX := hide (rsr_yes HST.out HGK.out hyes)
        rcases Nat.eq_zero_or_pos k with hk0 | hk0
        · have hz : ((k : Int) == 0) = true := by rw [beq_iff_eq]; omega
          clear hk0 hyes
          go_wp2_with (first
            | (go_at_call 86; go_must (refine HAT.out.mono ?_; rintro e w5 ⟨rfl, hb⟩; have HO5 := hide (HO.out.below hb hol); have HR5 := hide (HR.out.below hb (by omega)); have HB5 := hide (Below.step HB.out hb); have hs5 := hb.size; have o2 := fun ob => (HO5.out.alloc ob).cell 2; clear hb; simp only []))
            | (refine wpList_store_row rfl 42 (.tmp 4) (.tmp 34) rfl (w.heap.size + 1) #[.int .i64 (k : Int), .int .i64 R.1, .int .i64 R.2] rfl rfl 42 #[.int .i64 (st.1 : Int), .int .i64 st.2.1, .int .i64 st.2.2] (HO5.out.alloc _) (by kernel_rfl) rfl (by simp [Value.oneCell']) ?_))
          go_roundw
          case rel => first | exact ⟨k + 1, by omega, by go_num, (HR5.out.alloc _).rowFar (by omega) _, by rw [HNX.out]; exact (HO5.out.alloc _).row _, Below.row (HB5.out.alloc HB5.out.size _) (by omega) _⟩ | ((repeat apply Exists.intro); exact ⟨⟨k + 1, by omega, by go_num, (HR5.out.alloc _).rowFar (by omega) _, by rw [HNX.out]; exact (HO5.out.alloc _).row _, Below.row (HB5.out.alloc HB5.out.size _) (by omega) _⟩, rfl⟩)
          case measure => simp [intOf]; omega
        · have hz : ((k : Int) == 0) = false := by rw [beq_eq_false_iff_ne]; omega
          have hgt : st.2.2 < R.2 := by rcases hyes with h | h <;> omega
          clear hk0 hyes
          go_wp2_with (first
            | (go_at_call 86; go_must (refine HAT.out.mono ?_; rintro e w5 ⟨rfl, hb⟩; have HO5 := hide (HO.out.below hb hol); have HR5 := hide (HR.out.below hb (by omega)); have HB5 := hide (Below.step HB.out hb); have hs5 := hb.size; have o2 := fun ob => (HO5.out.alloc ob).cell 2; clear hb; simp only []))
            | (refine wpList_store_row rfl 42 (.tmp 4) (.tmp 34) rfl (w.heap.size + 1) #[.int .i64 (k : Int), .int .i64 R.1, .int .i64 R.2] rfl rfl 42 #[.int .i64 (st.1 : Int), .int .i64 st.2.1, .int .i64 st.2.2] (HO5.out.alloc _) (by kernel_rfl) rfl (by simp [Value.oneCell']) ?_))
          go_roundw
          case rel => first | exact ⟨k + 1, by omega, by go_num, (HR5.out.alloc _).rowFar (by omega) _, by rw [HNX.out]; exact (HO5.out.alloc _).row _, Below.row (HB5.out.alloc HB5.out.size _) (by omega) _⟩ | ((repeat apply Exists.intro); exact ⟨⟨k + 1, by omega, by go_num, (HR5.out.alloc _).rowFar (by omega) _, by rw [HNX.out]; exact (HO5.out.alloc _).row _, Below.row (HB5.out.alloc HB5.out.size _) (by omega) _⟩, rfl⟩)
          case measure => simp [intOf]; omega
      · have hz : ((k : Int) == 0) = false := by rw [beq_eq_false_iff_ne]; omega
        have hle : R.2 ≤ st.2.2 := by omega
        have HNX := hide (rsr_no HST.out HGK.out (by omega) hle)
        go_wp2_with (first
          | (go_at_call 86; go_must (refine HAT.out.mono ?_; rintro e w5 ⟨rfl, hb⟩; have HO5 := hide (HO.out.below hb hol); have HR5 := hide (HR.out.below hb (by omega)); have HB5 := hide (Below.step HB.out hb); have hs5 := hb.size; have o2 := fun ob => (HO5.out.alloc ob).cell 2; clear hb; simp only [])))
        go_roundw
        case rel => exact ⟨k + 1, by omega, by go_num, HR5.out.alloc _, by rw [HNX.out]; exact HO5.out.alloc _, HB5.out.alloc HB5.out.size _⟩
        case measure => simp [intOf]; omega
    · obtain rfl : k = N + 1 := by omega
      have u0 := HO.out.cell 0
      have u1 := HO.out.cell 1
      have u2 := HO.out.cell 2
      go_wp2_with (first
        | (refine wpList_store_row rfl 42 (.tmp 2) (.tmp 35) rfl w.heap.size #[.int .i64 (st.1 : Int), .int .i64 st.2.1, .int .i64 st.2.2] rfl rfl 42 #[.int .i64 0, .int .i64 0, .int .i64 0] HR.out (by kernel_rfl) rfl (by simp [Value.oneCell']) ?_))
      exact bodyPost_ret (results_row_tmp rfl _ _ w.heap.size 42 #[.int .i64 (st.1 : Int), .int .i64 st.2.1, .int .i64 st.2.2] _ (.int .i64 0) rfl rfl (HR.out.row _) Try.underlying42 rfl (by kernel_rfl)) rfl ⟨by rw [HST.out], Below.row HB.out (Nat.le_refl _) _⟩
end Go.Proofs.Ythfmjohbokpceaa
