import Derived.Test.YtamkannjdbodpaaMPairs
import Derived.Test.YtamkannjdbodpaaLApart
import Derived.Deep.CutRange
import Derived.OpenShut
namespace Go.Proofs.Ytamkannjdbodpaa
open Go.RowKit Go.WideShapes Go.ChangeShapes

theorem rows_two {w : World} {A B : Option Addr} {g h : List (Int × Int)} {c c' : Nat} (t : Nat) (hA : Sl w A (gv g)) (hB : Sl w B (gv h)) :
    RowsAt GR (w.alloc (.cells #[.slice A g.length c, .slice B h.length c'] t)) (some ⟨w.heap.size, 0, none⟩) [g, h] := by
  refine ⟨[.slice A g.length c, .slice B h.length c'], ?_, rfl, fun k hk => ?_⟩
  · exact Sl.new w [.slice A g.length c, .slice B h.length c'] t w.heap.size rfl
  · match k, hk with
    | 0, _ => exact ⟨A, c, rfl, hA.alloc _⟩
    | 1, _ => exact ⟨B, c', rfl, hB.alloc _⟩
theorem users_two {g h : List (Int × Int)} (h0 : twoE g h = 0) : usersE [g, h] = 0 := by
  have h1 := firstOf_ok h0 (chE g) (by simp)
  have h2 := firstOf_ok h0 (chE h) (by simp)
  have h3 := lenE_ok (firstOf_ok h0 (lenE g h) (by simp))
  have h4 := firstOf_ok h0 (unlessE (g.any someG && h.any someG) 11) (by simp)
  have h5 : g.any someG = true ∧ h.any someG = true := by
    cases q1 : g.any someG <;> cases q2 : h.any someG <;> rw [q1, q2] at h4 <;> simp [unlessE] at h4 <;> exact ⟨rfl, rfl⟩
  have e1 : userE g.length g = 0 := by unfold userE; rw [h1, h5.1, decide_eq_true rfl]; rfl
  have e2 : userE g.length h = 0 := by unfold userE; rw [h2, h5.2, decide_eq_true h3.symm]; rfl
  show (if 6 < 2 then (8 : Int) else usE g.length [g, h]) = 0
  rw [if_neg (by decide)]
  unfold usE
  rw [if_pos e1]
  unfold usE
  rw [if_pos e2]
  rfl
theorem most_two {g h : List (Int × Int)} {a b : Int} (h0 : twoE g h = 0) (hm : mostE a b = 0) : (((mostL [g, h] a b).length : Int) == 1) = shB g h a b := by
  have e : mostL [g, h] a b = bestF (shU [g, h] a b) 2 0 0 := if_pos (by rw [users_two h0, hm]; rfl)
  have e2 : shU [g, h] a b 0 1 = shB g h a b := rfl
  rw [e]
  simp only [bestF, outF, Nat.zero_testBit, Bool.false_or, e2, Nat.zero_add, Nat.add_zero]
  cases shB g h a b <;> rfl
set_option maxRecDepth 100000 in
set_option maxHeartbeats 2000000 in
theorem TopBeamShared_err (A B : Option Addr) (c c' : Nat) (g h : List (Int × Int)) (a b : Int) (w : World) (hs : Sl w A (gv g)) (hs' : Sl w B (gv h)) (a1 : -9223372036854775808 ≤ a) (a2 : a ≤ 9223372036854775807) (b2 : b ≤ 9223372036854775807)
    (h0 : twoE g h ≠ 0 ∨ mostE a b ≠ 0) :
    Calls Try.prog 17 #[.slice A g.length c, .slice B h.length c', .agg #[.int .i64 a, .int .i64 b]] w fun e w' => e = .returned (.bool true) ∧ Below w.heap.size w w' := by
  have HRT := hide (fun W k1 k2 => twoErr_ref A B c c' g h W k1 k2)
  have HRM := hide (fun W => mostErr_ref a b W a1 a2 b2)
  have HS := hide hs; clear hs
  have HS' := hide hs'; clear hs'
  have HB := hide ((Below.refl w.heap.size w).alloc (Nat.le_refl _) (.cells #[.int .i64 a, .int .i64 b] 86))
  have HBX := hide (stay_new w 86 #[.int .i64 a, .int .i64 b])
  clear a1 a2 b2
  by_cases q : twoE g h = 0
  · have hne : (twoE g h != 0) = false := by rw [bne_eq_false_iff_eq]; exact q
    have hne2 : (mostE a b != 0) = true := by rw [bne_iff_ne]; rcases h0 with h0 | h0; exact absurd q h0; exact h0
    clear h0 q
    go_enter Try.func17, Try.ntmps17
    go_wp2_with (first
      | (go_at_call 90; go_must (refine (beamed_ok _).mono ?_; rintro e w1 ⟨rfl, hb⟩; replace HB := hide (Below.step HB.out hb); replace HBX := hide (HBX.out.step hb); clear hb; simp only []))
      | (go_at_call 51; go_must (refine (HRT.out _ (HS.out.bel HB.out) (HS'.out.bel HB.out)).mono ?_; rintro e w2 ⟨rfl, hb⟩; replace HB := hide (Below.step HB.out hb); replace HBX := hide (HBX.out.step hb); clear hb; have q0 : w2.cell? ⟨w.heap.size, 0, none⟩ = some (.int .i64 a) := HBX.out.now.cell 0; have q1 : w2.cell? ⟨w.heap.size, 1, none⟩ = some (.int .i64 b) := HBX.out.now.cell 1; simp only []))
      | (go_at_call 69; go_must (refine (HRM.out _).mono ?_; rintro e w3 ⟨rfl, hb⟩; replace HB := hide (Below.step HB.out hb); clear hb; simp only [])))
    go_ret
    exact ⟨rfl, HB.out⟩
  · have hne : (twoE g h != 0) = true := by rw [bne_iff_ne]; exact q
    clear h0 q
    go_enter Try.func17, Try.ntmps17
    go_wp2_with (first
      | (go_at_call 90; go_must (refine (beamed_ok _).mono ?_; rintro e w1 ⟨rfl, hb⟩; replace HB := hide (Below.step HB.out hb); clear hb; simp only []))
      | (go_at_call 51; go_must (refine (HRT.out _ (HS.out.bel HB.out) (HS'.out.bel HB.out)).mono ?_; rintro e w2 ⟨rfl, hb⟩; replace HB := hide (Below.step HB.out hb); clear hb; simp only [])))
    go_ret
    exact ⟨rfl, HB.out⟩

set_option maxRecDepth 100000 in
set_option maxHeartbeats 8000000 in
theorem TopBeamShared_ok (A B : Option Addr) (c c' n : Nat) (g h : List (Int × Int)) (a b : Int) (w : World) (hs : Sl w A (gv g)) (hs' : Sl w B (gv h)) (hg : g.length = n) (hh : h.length = n) (h0 : twoE g h = 0) (hm : mostE a b = 0) :
    Calls Try.prog 17 #[.slice A n c, .slice B n c', .agg #[.int .i64 a, .int .i64 b]] w fun e w' => e = .returned (.bool true) ∧ Below w.heap.size w w' := by
  obtain ⟨-, sg, sh, -, hen, -⟩ := twoE_ok h0
  obtain ⟨m1, m2, m3, m4, -⟩ := mostE_ok hm
  have hl8 := sg.1
  rw [hg] at hl8
  have hlh : h.length = g.length := by omega
  have HMAY := hide (fun A B c c' W k1 k2 => mayShare_ok A B c c' n g h a b W h0 hm hg hh k1 k2)
  have HK := hide (fun A B c c' W k1 k2 => keptOf_ok A B c c' n g h W h0 hg hh k1 k2)
  have HC := hide (fun A B c c' W k1 k2 => cleared_ok A B c c' n g h W h0 hg hh k1 k2)
  have HMP := hide (show ∀ A B cA cB W, Sl W A (gv g) → Sl W B (gv h) → ∀ t, Calls Try.prog 70 #[.slice (some ⟨W.heap.size, 0, none⟩) 2 2, .agg #[.int .i64 a, .int .i64 b]] (W.alloc (.cells #[.slice A n cA, .slice B n cB] t)) fun e w' => ∃ P k, e = .returned (.tuple #[.slice P (mostL [g, h] a b).length k, .int .i64 0]) ∧ Below (W.alloc (.cells #[.slice A n cA, .slice B n cB] t)).heap.size (W.alloc (.cells #[.slice A n cA, .slice B n cB] t)) w' from fun A B cA cB W k1 k2 t => by
    have hr := rows_two (c := cA) (c' := cB) t k1 k2
    rw [hg, hh] at hr
    have := mostPairs_beam (some ⟨W.heap.size, 0, none⟩) 2 [g, h] a b _ hr (fun u hu => by
      rcases List.mem_cons.1 hu with rfl | hu
      · omega
      · rcases List.mem_cons.1 hu with rfl | hu
        · omega
        · cases hu) (by simp) (by omega) (by omega) (by omega)
    rw [users_two h0, hm] at this
    exact this.mono fun e w' ⟨P, k, h1, _, h3⟩ => ⟨P, k, h1, h3⟩)
  have hml := most_two h0 hm
  have HRT := hide (show ∀ A B c c' W, Sl W A (gv g) → Sl W B (gv h) → Calls Try.prog 51 #[.slice A n c, .slice B n c'] W fun e w' => e = .returned (.int .i64 0) ∧ Below W.heap.size W w' from fun A B c c' W k1 k2 => by
    have := twoErr_ref A B c c' g h W k1 k2
    rw [hg, hh, h0] at this
    exact this)
  have HRM := hide (fun W => mostErr_ref a b W (by omega) (by omega) (by omega))
  rw [hm] at HRM
  have HGC := hide (fun A c W k => copyG_at A c n g W hg k (by omega))
  have HHC := hide (fun A c W k => copyG_at A c n h W hh k (by omega))
  have HEG := hide (fun W k => energy_ref A c n g W k hg sg)
  have HEH := hide (fun W k => energy_ref B c' n h W k hh sh)
  obtain ⟨d1, d2⟩ := pD_bd h0
  obtain ⟨n1, n2⟩ := pN_bd h0
  have hcau := cauchy g h hlh hen
  obtain ⟨r1, r2⟩ := low_rest (pN g h) (pD g h) d1
  obtain ⟨r3, r4⟩ := low_pos (pD g h - pN g h) (pD g h) d1
  replace r4 := Int.le_trans r4 d2
  have r5 := low_nn (pD g h - pN g h) (pD g h) (by omega)
  have r6 := low_le (pD g h - pN g h) (pD g h) d1 (by omega)
  have r7 := low_num (pD g h - pN g h) (pD g h) d1
  have r8 := low_den (pD g h - pN g h) (pD g h) d1
  have r9 := low_gcd (pD g h - pN g h) (pD g h) d1
  have hap := clr_apart g h
  have hse := clr_second g h hlh
  have HLL := clrL_len g h n
  rw [hg] at hap hse
  have hPQ : enG g n * enG h n = pD g h := by unfold pD; rw [hg, hh]
  obtain ⟨g1, g2⟩ := sg.en
  obtain ⟨g3, g4⟩ := sh.en
  rw [hg] at g1 g2
  rw [hh] at g3 g4
  have hsh : shB g h a b = decide (pN g h * b ≤ a * pD g h) := rfl
  have SG := hide sg.2
  have SH := hide sh.2
  have hcb : ∀ k < n, cle 2000000 ((clrL g h n)[k]?.getD (0, 0)) := fun k hk => by
    rw [clrL_at g h n k hk]
    have c0 := Ch30.in_ sg sh
    have c1 := Ch30.in_ sg sg
    have g3 := SG.out.get (by decide) k
    have g4 := SH.out.get (by decide) k
    have c2 := cmul_le c1 g4
    have c3 := cmul_le c0 g3
    unfold clrAt clrBy
    unfold cle csub at *
    dsimp only
    omega
  obtain ⟨V, hV⟩ : ∃ V, shB g h a b = V := ⟨_, rfl⟩
  obtain ⟨Lp, hLp⟩ : ∃ Lp, (mostL [g, h] a b).length = Lp := ⟨_, rfl⟩
  obtain ⟨b1, e2⟩ : ∃ x, lowD (pD g h - pN g h) (pD g h) = x := ⟨_, rfl⟩
  obtain ⟨a2, e3⟩ : ∃ x, lowN (pD g h - pN g h) (pD g h) = x := ⟨_, rfl⟩
  obtain ⟨G, e4⟩ : ∃ x : Int, (Int.gcd (pD g h - pN g h) (pD g h) : Int) = x := ⟨_, rfl⟩
  obtain ⟨N, e5⟩ : ∃ x, pN g h = x := ⟨_, rfl⟩
  obtain ⟨D, e6⟩ : ∃ x, pD g h = x := ⟨_, rfl⟩
  obtain ⟨P, e7⟩ : ∃ x, enG g n = x := ⟨_, rfl⟩
  obtain ⟨Q, e8⟩ : ∃ x, enG h n = x := ⟨_, rfl⟩
  obtain ⟨L, hL⟩ : ∃ L, clrL g h n = L := ⟨_, rfl⟩
  rw [hV] at HMAY hml hsh
  rw [hLp] at HMP hml
  rw [e2] at HK r3 r4 r8
  rw [e3] at HK r5 r6 r7
  rw [e4] at r7 r8 r9
  rw [e5] at hsh n1 n2 hcau r6 r7 hse
  rw [e6] at hsh d1 d2 hcau r6 r7 r8 hse hPQ
  rw [e7] at HEG hPQ g1 g2
  rw [e8] at HEH hPQ g3 g4
  rw [hL] at HC HLL hap hse hcb
  have hc1 : cmpZ ((D - N) * b1) (a2 * (P * Q)) = 0 := by
    rw [hPQ]
    have : (D - N) * b1 = a2 * D := by rw [← r7, ← r8]; grind
    rw [this]
    unfold cmpZ; rw [if_neg (by omega), if_neg (by omega)]
  have HCM1 := hide (show ∀ W, Calls Try.prog 92 #[.int .i64 (D - N), .int .i64 (P * Q), .int .i64 a2, .int .i64 b1] W fun x w' => x = .returned (.int .i64 0) ∧ W = w' from fun W => by
    have := compare_base (D - N) (P * Q) a2 b1 W (by omega) (by omega) (by omega) (by omega) (by omega) (by omega) (by omega) (by omega)
    rw [hc1] at this
    exact this)
  have HCM2 := hide (fun W => compare_base a2 b1 (b - a) b W (by omega) (by omega) (by omega) (by omega) (by omega) (by omega) (by omega) (by omega))
  have hc2 : V = true → decide (0 ≤ cmpZ (a2 * b) ((b - a) * b1)) = true := fun hv => by
    rw [hv] at hsh
    have h1 : N * b ≤ a * D := of_decide_eq_true hsh.symm
    have h2 : (b - a) * D ≤ (D - N) * b := by
      have x1 : (b - a) * D = b * D - a * D := Int.sub_mul b a D
      have x2 : (D - N) * b = D * b - N * b := Int.sub_mul D N b
      rw [Int.mul_comm D b] at x2
      omega
    have h3 : G * ((b - a) * b1) ≤ G * (a2 * b) := by
      have x1 : G * ((b - a) * b1) = (b - a) * D := by rw [← r8]; grind
      have x2 : G * (a2 * b) = (D - N) * b := by rw [← r7]; grind
      rw [x1, x2]; exact h2
    have h4 := Int.le_of_mul_le_mul_left h3 (by omega)
    rw [decide_eq_true_iff]
    unfold cmpZ
    (repeat' split) <;> omega
  obtain ⟨Cv, hCv⟩ : ∃ Cv, cmpZ (a2 * b) ((b - a) * b1) = Cv := ⟨_, rfl⟩
  rw [hCv] at HCM2 hc2
  have HCV := hide hc2
  have HAP := hide hap
  have HSE := hide hse
  have HCB := hide hcb
  have HLG := hide (innerZ_le (m := 30) (n := 2000000) SG.out (h := L) (fun z hz => by
    obtain ⟨k, hk, e⟩ := List.mem_iff_getElem.1 hz
    have := hcb k (by omega)
    rw [List.getElem?_eq_getElem hk, Option.getD_some, e] at this
    exact this) (by decide) (by decide))
  have HLH := hide (innerZ_le (m := 30) (n := 2000000) SH.out (h := L) (fun z hz => by
    obtain ⟨k, hk, e⟩ := List.mem_iff_getElem.1 hz
    have := hcb k (by omega)
    rw [List.getElem?_eq_getElem hk, Option.getD_some, e] at this
    exact this) (by decide) (by decide))
  have HGL := hide hg
  have HHL := hide hh
  have HLL2 := hide HLL
  have HS := hide hs
  have HS' := hide hs'
  have p1 : -9000000000000000000 ≤ P * Q := by omega
  have p2 : P * Q ≤ 9000000000000000000 := by omega
  have s1 : -9000000000000000000 ≤ b - a := by omega
  have s2 : b - a ≤ 9000000000000000000 := by omega
  clear hs hs' HLL hV hLp e2 e3 e4 e5 e6 e7 e8 hL h0 hm sg sh hg hh hlh hen d1 d2 n1 n2 hcau r1 r2 r4 r5 r6 r7 r8 r9 hap hse hcb hc1 hc2 hCv hPQ g1 g2 g3 g4 hsh m1 m2 m3 m4
  have hq3 : ∀ w, (binOp .neq 90 (.agg #[.int .i64 0, .int .i64 0]) (.agg #[.int .i64 0, .int .i64 0])).run Try.prog w = .ok (.bool false) w := fun w => ga_neq _ _ _ _ w
  have HB := hide ((Below.refl w.heap.size w).alloc (Nat.le_refl _) (.cells #[.int .i64 a, .int .i64 b] 86))
  have HT := hide (Stay.triv (w.alloc (.cells #[.int .i64 a, .int .i64 b] 86)))
  have HBX := hide (stay_new w 86 #[.int .i64 a, .int .i64 b])
  go_enter Try.func17, Try.ntmps17
  go_wp2_with (first
    | (go_at_call 90; go_must (refine (beamed_ok _).mono ?_; rintro e w1 ⟨rfl, hb⟩; replace HB := hide (Below.step HB.out hb); replace HT := hide (HT.out.step hb); replace HBX := hide (HBX.out.step hb); clear hb; simp only []))
    | (go_at_call 51; go_must (refine (HRT.out _ _ _ _ _ (HS.out.bel HB.out) (HS'.out.bel HB.out)).mono ?_; rintro e w2 ⟨rfl, hb⟩; replace HB := hide (Below.step HB.out hb); replace HT := hide (HT.out.step hb); replace HBX := hide (HBX.out.step hb); clear hb; have q0 : w2.cell? ⟨w.heap.size, 0, none⟩ = some (.int .i64 a) := HBX.out.now.cell 0; have q1 : w2.cell? ⟨w.heap.size, 1, none⟩ = some (.int .i64 b) := HBX.out.now.cell 1; simp only []))
    | (go_at_call 69; go_must (refine (HRM.out _).mono ?_; rintro e w3 ⟨rfl, hb⟩; replace HB := hide (Below.step HB.out hb); replace HT := hide (HT.out.step hb); replace HBX := hide (HBX.out.step hb); clear hb; have q0 : w3.cell? ⟨w.heap.size, 0, none⟩ = some (.int .i64 a) := HBX.out.now.cell 0; have q1 : w3.cell? ⟨w.heap.size, 1, none⟩ = some (.int .i64 b) := HBX.out.now.cell 1; simp only [])))
  go_region_held3 (fun w' => w'.cell? ⟨w.heap.size, 0, none⟩ = some (.int .i64 a) ∧ w'.cell? ⟨w.heap.size, 1, none⟩ = some (.int .i64 b)) (first | (simp [go_sem]; done) | (simp [go_sem, *]; done) | exact ⟨q0, q1⟩ | go_keep)
    (first
      | (go_at_call 53; have qq := HG1; go_must (refine (HHC.out _ _ _ (HS'.out.bel HB.out)).mono ?_; rintro e wb ⟨Ah, ch, rfl, hsh, hb⟩; have HH2 := hide hsh; have HG2 := hide (HG1.out.bel hb); replace HB := hide (Below.step HB.out hb); replace HT := hide (HT.out.step hb); replace HBX := hide (HBX.out.step hb); have q0 : wb.cell? ⟨w.heap.size, 0, none⟩ = some (.int .i64 a) := HBX.out.now.cell 0; have q1 : wb.cell? ⟨w.heap.size, 1, none⟩ = some (.int .i64 b) := HBX.out.now.cell 1; clear hb hsh qq HG1))
      | (go_at_call 53; go_must (refine (HGC.out _ _ _ (HS.out.bel (below_drew HB.out))).mono ?_; rintro e wa ⟨Ag, cg, rfl, hsg, hb⟩; have HG1 := hide hsg; replace HB := hide (Below.step (below_drew HB.out) hb); replace HT := hide (HT.out.drew.step hb); replace HBX := hide (HBX.out.drew.step hb); have q0 : wa.cell? ⟨w.heap.size, 0, none⟩ = some (.int .i64 a) := HBX.out.now.cell 0; have q1 : wa.cell? ⟨w.heap.size, 1, none⟩ = some (.int .i64 b) := HBX.out.now.cell 1; clear hb hsg))
      | (go_at_call 75; go_must (refine (HMAY.out _ _ _ _ _ HG2.out HH2.out).mono ?_; rintro e w4 ⟨rfl, hb⟩; replace HB := hide (Below.step HB.out hb); replace HT := hide (HT.out.step hb); replace HBX := hide (HBX.out.step hb); clear hb HG2 HH2; have q0 : w4.cell? ⟨w.heap.size, 0, none⟩ = some (.int .i64 a) := HBX.out.now.cell 0; have q1 : w4.cell? ⟨w.heap.size, 1, none⟩ = some (.int .i64 b) := HBX.out.now.cell 1)))
  go_wp2_with (first
    | (go_at_call 53; have qq := HG1; go_must (refine (HHC.out _ _ _ (HS'.out.bel HB.out)).mono ?_; rintro e wb ⟨Ah, ch, rfl, hsh, hb⟩; have HH2 := hide hsh; have HG2 := hide (HG1.out.bel hb); replace HB := hide (Below.step HB.out hb); replace HT := hide (HT.out.step hb); replace HBX := hide (HBX.out.step hb); have q0 : wb.cell? ⟨w.heap.size, 0, none⟩ = some (.int .i64 a) := HBX.out.now.cell 0; have q1 : wb.cell? ⟨w.heap.size, 1, none⟩ = some (.int .i64 b) := HBX.out.now.cell 1; clear hb hsh qq HG1; simp only []))
    | (go_at_call 53; go_must (refine (HGC.out _ _ _ (HS.out.bel HB.out)).mono ?_; rintro e wa ⟨Ag, cg, rfl, hsg, hb⟩; have HG1 := hide hsg; replace HB := hide (Below.step HB.out hb); replace HT := hide (HT.out.step hb); replace HBX := hide (HBX.out.step hb); have q0 : wa.cell? ⟨w.heap.size, 0, none⟩ = some (.int .i64 a) := HBX.out.now.cell 0; have q1 : wa.cell? ⟨w.heap.size, 1, none⟩ = some (.int .i64 b) := HBX.out.now.cell 1; clear hb hsg; simp only []))
    | (go_at_call 52; go_must (refine (HC.out _ _ _ _ _ HG2.out HH2.out).mono ?_; rintro e w5 ⟨CL, cl, rfl, hcl, hb⟩; replace HB := hide (Below.step HB.out hb); replace HT := hide ((HT.out.step hb).and (stay_sl hcl)); replace HBX := hide (HBX.out.step hb); clear hb hcl HG2 HH2; simp only []))
    | (go_at_call 55; go_must (refine (HK.out _ _ _ _ _ HG2.out HH2.out).mono ?_; rintro e w6 ⟨rfl, hb⟩; replace HB := hide ((Below.step HB.out hb).alloc (Below.step HB.out hb).size (.cells #[.int .i64 a2, .int .i64 b1] 86)); replace HT := hide (((HT.out.step hb).alloc (.cells #[.int .i64 a2, .int .i64 b1] 86)).and (stay_new w6 86 #[.int .i64 a2, .int .i64 b1])); replace HBX := hide ((HBX.out.step hb).alloc (.cells #[.int .i64 a2, .int .i64 b1] 86)); clear hb HG2 HH2; have q0 : (w6.alloc (.cells #[.int .i64 a2, .int .i64 b1] 86)).cell? ⟨w.heap.size, 0, none⟩ = some (.int .i64 a) := HBX.out.now.cell 0; have q1 : (w6.alloc (.cells #[.int .i64 a2, .int .i64 b1] 86)).cell? ⟨w.heap.size, 1, none⟩ = some (.int .i64 b) := HBX.out.now.cell 1; simp only [])))
  go_region_held3 (fun w' => w'.cell? ⟨w.heap.size, 0, none⟩ = some (.int .i64 a) ∧ w'.cell? ⟨w.heap.size, 1, none⟩ = some (.int .i64 b)) (first | (simp [go_sem]; done) | (simp [go_sem, *]; done) | exact ⟨q0, q1⟩ | go_keep)
    (first
      | (go_at_call 53; have qq := HG1; go_must (refine (HHC.out _ _ _ (HS'.out.bel HB.out)).mono ?_; rintro e wb ⟨Ah, ch, rfl, hsh, hb⟩; have HH2 := hide hsh; have HG2 := hide (HG1.out.bel hb); replace HB := hide (Below.step HB.out hb); replace HT := hide (HT.out.step hb); replace HBX := hide (HBX.out.step hb); have q0 : wb.cell? ⟨w.heap.size, 0, none⟩ = some (.int .i64 a) := HBX.out.now.cell 0; have q1 : wb.cell? ⟨w.heap.size, 1, none⟩ = some (.int .i64 b) := HBX.out.now.cell 1; clear hb hsh qq HG1))
      | (go_at_call 53; go_must (refine (HGC.out _ _ _ (HS.out.bel (below_drew HB.out))).mono ?_; rintro e wa ⟨Ag, cg, rfl, hsg, hb⟩; have HG1 := hide hsg; replace HB := hide (Below.step (below_drew HB.out) hb); replace HT := hide (HT.out.drew.step hb); replace HBX := hide (HBX.out.drew.step hb); have q0 : wa.cell? ⟨w.heap.size, 0, none⟩ = some (.int .i64 a) := HBX.out.now.cell 0; have q1 : wa.cell? ⟨w.heap.size, 1, none⟩ = some (.int .i64 b) := HBX.out.now.cell 1; clear hb hsg))
      | (go_at_call 70; go_must (refine (HMP.out _ _ _ _ _ HG2.out HH2.out _).mono ?_; rintro e w7 ⟨PP, kp, rfl, hb⟩; have hb' := Below.step ((Below.refl wb.heap.size wb).alloc (Nat.le_refl _) (.cells #[.slice Ag n cg, .slice Ah n ch] 80)) hb; replace HB := hide (Below.step HB.out hb'); replace HT := hide (HT.out.step hb'); replace HBX := hide (HBX.out.step hb'); clear hb hb' HG2 HH2; have q0 : w7.cell? ⟨w.heap.size, 0, none⟩ = some (.int .i64 a) := HBX.out.now.cell 0; have q1 : w7.cell? ⟨w.heap.size, 1, none⟩ = some (.int .i64 b) := HBX.out.now.cell 1)))
  clear HRT HRM HGC HHC HMAY HMP HK HC q0 q1
  go_wp2
  go_loopw [17] (fun i wr => ∃ k : Nat, k ≤ n ∧ i = .int .i64 k ∧ Blk wr w7.heap.size 90 #[.int .i64 (innerZ g L k).1, .int .i64 (innerZ g L k).2] ∧ Blk wr (w7.heap.size + 1) 90 #[.int .i64 (innerZ h L k).1, .int .i64 (innerZ h L k).2] ∧ Below w7.heap.size w7 wr) (fun i _ => n - (intOf i).toNat)
  case atStart => exact ⟨0, Nat.zero_le _, rfl, (Blk.new w7 _ _).alloc _, (by have := Blk.new (w7.alloc (.cells #[.int .i64 0, .int .i64 0] 90)) 90 #[.int .i64 0, .int .i64 0]; rw [World.size_alloc] at this; exact this), by go_grown⟩
  case round =>
    obtain ⟨k, hk, rfl, hb1, hb2, hbel⟩ := hrel
    have yl1 := hb1.lt
    have yl2 := hb2.lt
    by_cases hlt : k < n
    · have hlk := HLG.out k
      have hlk2 := HLH.out k
      have hgl := HGL.out
      have hhl := HHL.out
      have hll := HLL2.out
      obtain ⟨bg, og, rfl, e1, e2⟩ := HS.out.at2 (by omega : k < g.length)
      obtain ⟨bh, oh, rfl, e3, e4⟩ := HS'.out.at2 (by omega : k < h.length)
      obtain ⟨bl, ol, rfl, e5, e6⟩ := HT.out.now.1.2.at2 (by omega : k < L.length)
      have HG1c := hide (fun W (q : Below w.heap.size w W) => (q.cell (p := ⟨bg, og + k * 2, none⟩) (lt_of_cell e1)).trans e1)
      have HG2c := hide (fun W (q : Below w.heap.size w W) => (q.cell (p := ⟨bg, og + k * 2 + 1, none⟩) (lt_of_cell e2)).trans e2)
      have HH1c := hide (fun W (q : Below w.heap.size w W) => (q.cell (p := ⟨bh, oh + k * 2, none⟩) (lt_of_cell e3)).trans e3)
      have HH2c := hide (fun W (q : Below w.heap.size w W) => (q.cell (p := ⟨bh, oh + k * 2 + 1, none⟩) (lt_of_cell e4)).trans e4)
      have HL1c := hide (fun W (q : Below w7.heap.size w7 W) => (q.cell (p := ⟨bl, ol + k * 2, none⟩) (lt_of_cell e5)).trans e5)
      have HL2c := hide (fun W (q : Below w7.heap.size w7 W) => (q.cell (p := ⟨bl, ol + k * 2 + 1, none⟩) (lt_of_cell e6)).trans e6)
      have g1 : cle 30 g[k] := SG.out _ (List.getElem_mem (by omega))
      have g1' : cle 30 h[k] := SH.out _ (List.getElem_mem (by omega))
      have g2 : cle 2000000 L[k] := by have := HCB.out k hlt; rw [List.getElem?_eq_getElem (by omega : k < L.length)] at this; exact this
      have g3 := cmul_le (cconj_le g1) g2
      have g3' := cmul_le (cconj_le g1') g2
      have hst : innerZ g L (k + 1) = cadd (innerZ g L k) (cmul (cconj g[k]) L[k]) := by
        rw [innerZ, List.getElem?_eq_getElem (by omega : k < g.length), List.getElem?_eq_getElem (by omega : k < L.length)]; rfl
      have hst' : innerZ h L (k + 1) = cadd (innerZ h L k) (cmul (cconj h[k]) L[k]) := by
        rw [innerZ, List.getElem?_eq_getElem (by omega : k < h.length), List.getElem?_eq_getElem (by omega : k < L.length)]; rfl
      obtain ⟨S, hS⟩ : ∃ S, innerZ g L k = S := ⟨_, rfl⟩
      obtain ⟨S', hS'⟩ : ∃ S, innerZ h L k = S := ⟨_, rfl⟩
      obtain ⟨T, hT⟩ : ∃ S, innerZ g L (k + 1) = S := ⟨_, rfl⟩
      obtain ⟨T', hT'⟩ : ∃ S, innerZ h L (k + 1) = S := ⟨_, rfl⟩
      obtain ⟨G, hG⟩ : ∃ G, g[k] = G := ⟨_, rfl⟩
      obtain ⟨G', hG'⟩ : ∃ G, h[k] = G := ⟨_, rfl⟩
      obtain ⟨H, hH⟩ : ∃ H, L[k] = H := ⟨_, rfl⟩
      rw [hS, hT, hG, hH] at hst
      rw [hS', hT', hG', hH] at hst'
      rw [hS] at hlk hb1
      rw [hS'] at hlk2 hb2
      rw [hG] at g1 g3 HG1c HG2c
      rw [hG'] at g1' g3' HH1c HH2c
      rw [hH] at g2 g3 g3' HL1c HL2c
      have c1 := hide (show cle 1000000000000000 G by unfold cle at *; omega)
      have c1' := hide (show cle 1000000000000000 G' by unfold cle at *; omega)
      have c2 := hide (show cle 1000000000 (cconj G) by have := cconj_le g1; unfold cle at *; omega)
      have c2' := hide (show cle 1000000000 (cconj G') by have := cconj_le g1'; unfold cle at *; omega)
      have c3 := hide (show cle 1000000000 H by unfold cle at *; omega)
      have c4 := hide (show cle 1000000000000000000 S by unfold cle at *; omega)
      have c4' := hide (show cle 1000000000000000000 S' by unfold cle at *; omega)
      have c5 := hide (show cle 1000000000000000000 (cmul (cconj G) H) by unfold cle at *; omega)
      have c5' := hide (show cle 1000000000000000000 (cmul (cconj G') H) by unfold cle at *; omega)
      have hw1 := hide (show withinB H.1 (-1000000000000) 1000000000000 = true by unfold cle at g2; unfold withinB; rw [decide_eq_true (by omega), decide_eq_true (by omega)]; rfl)
      have hw2 := hide (show withinB H.2 (-1000000000000) 1000000000000 = true by unfold cle at g2; unfold withinB; rw [decide_eq_true (by omega), decide_eq_true (by omega)]; rfl)
      have HST := hide hst
      have HST' := hide hst'
      have HT1 := hide hT
      have HT1' := hide hT'
      have hbw := Below.step HB.out hbel
      have d1 := HG1c.out _ hbw
      have d2 := HG2c.out _ hbw
      have d3 := HL1c.out _ hbel
      have d4 := HL2c.out _ hbel
      have e0 : wr.cell? ⟨w7.heap.size, 0, none⟩ = some (.int .i64 S.1) := hb1.cell 0
      have e9 : wr.cell? ⟨w7.heap.size, 1, none⟩ = some (.int .i64 S.2) := hb1.cell 1
      clear e1 e2 e3 e4 e5 e6 g1 g1' g2 g3 g3' hS hS' hT hT' hG hG' hH hst hst' hlk hlk2 hgl hhl hll hbw
      go_wp2_with (go_at_call 24; refine (within_base _ _ _ _).mono ?_; rintro e w' ⟨rfl, rfl⟩; first | rw [hw1.out] | rw [hw2.out]; simp only [])
      go_cut [] from 115 to 126 (fun wx => Blk wx w7.heap.size 90 #[.int .i64 T.1, .int .i64 T.2] ∧ Blk wx (w7.heap.size + 1) 90 #[.int .i64 S'.1, .int .i64 S'.2] ∧ Below w7.heap.size w7 wx)
      case first =>
        go_region_with
          (first
            | (go_at_call 58; go_must (refine (gconj_ref G _ c1.out).mono ?_; rintro e w1 ⟨rfl, hb⟩; have b1' : Below wr.heap.size wr w1 := Below.step (by go_grown) hb; clear hb; have i0 := b1'.keeps e0; have i1 := b1'.keeps e9; have i3 := b1'.keeps d3; have i4 := b1'.keeps d4))
            | (go_at_call 57; go_must (refine (gmul_ref (cconj G) H _ c2.out c3.out).mono ?_; rintro e w2 ⟨rfl, hb⟩; have b2 : Below wr.heap.size wr w2 := Below.step (by go_grown) hb; clear hb; have j0 := b2.keeps e0; have j1 := b2.keeps e9))
            | (go_at_call 56; go_must (refine (gadd_ref S (cmul (cconj G) H) _ c4.out c5.out).mono ?_; rintro e w3 ⟨rfl, hb⟩; have b3 : Below wr.heap.size wr w3 := Below.step (by go_grown) hb; clear hb; have B3 := hb1.below b3 yl1; have f0 := B3.frozen 0; have f1 := B3.frozen 1; have j2 := b3.keeps e0; have j3 := b3.keeps e9; rw [← HST.out])))
        all_goals
          have B4 := (B3.set_ 0 (.int .i64 T.1)).set_ 1 (.int .i64 T.2)
          have B5 := ((hb2.below b3 yl2).far (p := ⟨w7.heap.size, 0, none⟩) (by simp) (.int .i64 T.1)).far (p := ⟨w7.heap.size, 1, none⟩) (by simp) (.int .i64 T.2)
          have hb4 := ((Below.step hbel b3).setCell (p := ⟨w7.heap.size, 0, none⟩) (by simp) (.int .i64 T.1)).setCell (p := ⟨w7.heap.size, 1, none⟩) (by simp) (.int .i64 T.2)
          clear B3 b3 f0 f1 j2 j3 d1 d2 d3 d4 e0 e9
          go_wp2_with fail
          go_meet
          exact ⟨B4, B5, hb4⟩
      case rest =>
        obtain ⟨C1, C2, hbc⟩ := hcut
        clear hb1 hb2 hbel yl1 yl2 d1 d2 d3 d4 e0 e9
        have yl1 := C1.lt
        have yl2 := C2.lt
        have hbw := Below.step HB.out hbc
        have d1 := HH1c.out _ hbw
        have d2 := HH2c.out _ hbw
        have d3 := HL1c.out _ hbc
        have d4 := HL2c.out _ hbc
        have e0 : wc.cell? ⟨w7.heap.size + 1, 0, none⟩ = some (.int .i64 S'.1) := C2.cell 0
        have e9 : wc.cell? ⟨w7.heap.size + 1, 1, none⟩ = some (.int .i64 S'.2) := C2.cell 1
        clear hbw
        go_wp2
        go_region_with
          (first
            | (go_at_call 58; go_must (refine (gconj_ref G' _ c1'.out).mono ?_; rintro e w1 ⟨rfl, hb⟩; have b1' : Below wc.heap.size wc w1 := Below.step (by go_grown) hb; clear hb; have i0 := b1'.keeps e0; have i1 := b1'.keeps e9; have i3 := b1'.keeps d3; have i4 := b1'.keeps d4))
            | (go_at_call 57; go_must (refine (gmul_ref (cconj G') H _ c2'.out c3.out).mono ?_; rintro e w2 ⟨rfl, hb⟩; have b2 : Below wc.heap.size wc w2 := Below.step (by go_grown) hb; clear hb; have j0 := b2.keeps e0; have j1 := b2.keeps e9))
            | (go_at_call 56; go_must (refine (gadd_ref S' (cmul (cconj G') H) _ c4'.out c5'.out).mono ?_; rintro e w3 ⟨rfl, hb⟩; have b3 : Below wc.heap.size wc w3 := Below.step (by go_grown) hb; clear hb; have B3 := C2.below b3 yl2; have f0 := B3.frozen 0; have f1 := B3.frozen 1; have j2 := b3.keeps e0; have j3 := b3.keeps e9; rw [← HST'.out])))
        all_goals
          have B4 := (B3.set_ 0 (.int .i64 T'.1)).set_ 1 (.int .i64 T'.2)
          have B5 := ((C1.below b3 yl1).far (p := ⟨w7.heap.size + 1, 0, none⟩) (by simp) (.int .i64 T'.1)).far (p := ⟨w7.heap.size + 1, 1, none⟩) (by simp) (.int .i64 T'.2)
          have hb4 := ((Below.step hbc b3).setCell (p := ⟨w7.heap.size + 1, 0, none⟩) (by simp) (.int .i64 T'.1)).setCell (p := ⟨w7.heap.size + 1, 1, none⟩) (by simp) (.int .i64 T'.2)
          clear B3 b3 f0 f1 j2 j3 d1 d2 d3 d4 e0 e9
          revert B4 B5 hb4
          generalize World.setCell _ _ _ = W
          intro B4 B5 hb4
          go_wp2
          go_roundw
          case rel => exact ⟨k + 1, by omega, by go_num, by rw [HT1.out]; exact B5, by rw [HT1'.out]; exact B4, hb4⟩
          case measure => simp [intOf]; omega
    · obtain rfl : k = n := by omega
      rw [HAP.out] at hb1
      rw [HSE.out] at hb2
      have e0 : wr.cell? ⟨w7.heap.size, 0, none⟩ = some (.int .i64 0) := hb1.cell 0
      have e9 : wr.cell? ⟨w7.heap.size, 1, none⟩ = some (.int .i64 0) := hb1.cell 1
      have HT2 := hide (((HT.out.step hbel).and (stay_blk hb1)).and (stay_blk hb2))
      have HBX2 := hide (HBX.out.step hbel)
      have HB2 := hide (Below.step HB.out hbel)
      clear hb1 hb2 hbel HB HT HBX yl1 yl2
      cases V
      all_goals
        go_wp2_with (first
          | (go_at_call 91; have qq := hen1; go_must (refine (HEH.out _ (HS'.out.bel HB2.out)).mono ?_; rintro e w9 ⟨rfl, hb⟩; replace HB2 := hide (Below.step HB2.out hb); replace HT2 := hide (HT2.out.step hb); replace HBX2 := hide (HBX2.out.step hb); clear hb; have t0 : w9.cell? ⟨w7.heap.size, 0, none⟩ = some (.int .i64 0) := HT2.out.now.1.2.cell 0; have t1 : w9.cell? ⟨w7.heap.size, 1, none⟩ = some (.int .i64 0) := HT2.out.now.1.2.cell 1; have t2 : w9.cell? ⟨w7.heap.size + 1, 0, none⟩ = some (.int .i64 (D - N)) := HT2.out.now.2.cell 0; have t3 : w9.cell? ⟨w7.heap.size + 1, 1, none⟩ = some (.int .i64 0) := HT2.out.now.2.cell 1; have t4 : w9.cell? ⟨w6.heap.size, 0, none⟩ = some (.int .i64 a2) := HT2.out.now.1.1.2.cell 0; have t5 : w9.cell? ⟨w6.heap.size, 1, none⟩ = some (.int .i64 b1) := HT2.out.now.1.1.2.cell 1; have t6 : w9.cell? ⟨w.heap.size, 0, none⟩ = some (.int .i64 a) := HBX2.out.now.cell 0; have t7 : w9.cell? ⟨w.heap.size, 1, none⟩ = some (.int .i64 b) := HBX2.out.now.cell 1; simp only []))
          | (go_at_call 91; go_must (refine (HEG.out _ (HS.out.bel HB2.out)).mono ?_; rintro e w8 ⟨rfl, hb⟩; have hen1 := hide (Eq.refl 0); replace HB2 := hide (Below.step HB2.out hb); replace HT2 := hide (HT2.out.step hb); replace HBX2 := hide (HBX2.out.step hb); clear hb; simp only []))
          | (go_at_call 92; have qq := hcmp1; go_must (refine (HCM2.out _).mono ?_; rintro e w' ⟨rfl, rfl⟩; have hcv := HCV.out rfl; simp only []))
          | (go_at_call 92; go_must (refine (HCM1.out _).mono ?_; rintro e w' ⟨rfl, rfl⟩; have hcmp1 := hide (Eq.refl 0); simp only [])))
        go_ret
        exact ⟨by first | rfl | simp, HB2.out⟩
theorem TopBeamShared_law (A : Option Addr) (c : Nat) (g : List (Int × Int)) (B : Option Addr) (c' : Nat) (h : List (Int × Int)) (a b : Int) (w : World) (hs : Sl w A (gv g)) (hs' : Sl w B (gv h)) (wa : (Lit.int .i64 a).wf = true) (wb : (Lit.int .i64 b).wf = true) :
    Calls Try.prog 17 #[.slice A g.length c, .slice B h.length c', .agg #[.int .i64 a, .int .i64 b]] w fun e w' => e = .returned (.bool true) ∧ Below w.heap.size w w' := by
  have ra := bounds_i64 wa
  have rb := bounds_i64 wb
  by_cases h0 : twoE g h = 0
  · by_cases hm : mostE a b = 0
    · obtain ⟨_, _, _, e, _, _⟩ := twoE_ok h0
      have := TopBeamShared_ok A B c c' g.length g h a b w hs hs' rfl e.symm h0 hm
      rw [← e]
      exact this
    · exact TopBeamShared_err A B c c' g h a b w hs hs' ra.1 ra.2 rb.2 (.inr hm)
  · exact TopBeamShared_err A B c c' g h a b w hs hs' ra.1 ra.2 rb.2 (.inl h0)
end Go.Proofs.Ytamkannjdbodpaa
