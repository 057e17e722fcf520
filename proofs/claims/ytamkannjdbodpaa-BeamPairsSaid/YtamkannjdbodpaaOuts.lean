import Derived.Test.YtamkannjdbodpaaCmpr
import Derived.Test.YtamkannjdbodpaaChR
import Derived.ChangeKeysEq
import Derived.Test.YtamkannjdbodpaaChkP
import Derived.Test.YtamkannjdbodpaaPairLaw
import Derived.Test.YtamkannjdbodpaaPairU
namespace Go.Proofs.Ytamkannjdbodpaa
open Go.RowKit Go.WideShapes Go.ChangeShapes

theorem take_has {T : List Int} {x : Int} {k : Nat} (hk : k < T.length) (h : (T.take k).contains x = false) (hx : (T[k] == x) = false) : (T.take (k + 1)).contains x = false := by
  rw [List.take_succ_eq_append_getElem hk, List.contains_eq_any_beq, List.any_append, ← List.contains_eq_any_beq, h]
  have : (x == T[k]) = false := by rw [beq_eq_false_iff_ne] at *; exact fun e => hx e.symm
  simp [this]
theorem has_at {T : List Int} {x : Int} {k : Nat} (hk : k < T.length) (hx : (T[k] == x) = true) : T.contains x = true := by
  rw [beq_iff_eq] at hx
  subst hx
  rw [List.contains_iff_mem]
  exact List.getElem_mem hk
theorem has_base (A : Option Addr) (c n : Nat) (T : List Int) (x : Int) (w : World) (hn : T.length = n) (hs : Sl w A (iv T)) (hl : n ≤ 1000000) :
    Calls Try.prog 89 #[.slice A n c, .int .i64 x] w fun e w' => e = .returned (.bool (T.contains x)) ∧ w = w' := by
  subst hn
  have HS := hide hs; clear hs
  obtain ⟨v, hv⟩ : ∃ v, T.contains x = v := ⟨_, rfl⟩
  rw [hv]
  have HV := hide hv; clear hv
  go_enter Try.func89, Try.ntmps89
  go_wp2
  go_loopw [5] (fun i wr => ∃ k : Nat, k ≤ T.length ∧ i = .int .i64 k ∧ (T.take k).contains x = false ∧ wr = w) (fun i _ => T.length - (intOf i).toNat)
  case atStart => exact ⟨0, Nat.zero_le _, rfl, by simp, rfl⟩
  case round =>
    obtain ⟨k, hk, rfl, he, rfl⟩ := hrel
    have HE := hide he; clear he
    by_cases hlt : k < T.length
    · obtain ⟨b1, o1, rfl, c1⟩ := HS.out.int hlt
      obtain ⟨z, hz⟩ : ∃ z, T[k] = z := ⟨_, rfl⟩
      rw [hz] at c1
      have g1 : (k : Int) < (T.length : Int) := by omega
      cases hx : (z == x)
      · have HX := hide (show (T[k] == x) = false by rw [hz]; exact hx)
        clear hz
        go_wp2
        go_roundw
        case rel => exact ⟨k + 1, by omega, by go_num, take_has hlt HE.out HX.out, by trivial⟩
        case measure => simp [intOf]; omega
      · have HX := hide (show (T[k] == x) = true by rw [hz]; exact hx)
        clear hz
        go_wp2
        go_ret
        exact ⟨by rw [← HV.out, has_at hlt HX.out]; rfl, rfl⟩
    · go_wp2
      go_ret
      exact ⟨by rw [← HV.out, ← HE.out, List.take_of_length_le (by omega)]; rfl, rfl⟩

/-! equal pairs -/
theorem p2_under : Try.prog.underlying 183 = some (.array 2 3) := by kernel_rfl
set_option maxRecDepth 100000 in
theorem p2_neq (a b a' b' : Int) (w : World) : (binOp .neq 183 (.agg #[.int .i64 a, .int .i64 b]) (.agg #[.int .i64 a', .int .i64 b'])).run Try.prog w = .ok (.bool (!(a == a' && b == b'))) w := by
  obtain ⟨i, hi, -, -, -⟩ := info_parts int_info
  rw [run_neq_struct, run_equalIn_array (w := w) (d := 9999) (hu := p2_under) (hi := hi), int_cells]
  simp [go_sem, Op.eqItems, List.range_succ, part]
  (repeat' split) <;> simp_all
set_option maxRecDepth 100000 in
theorem samePairs_ref (A B : Option Addr) (c d : Nat) (a b : List (Int × Int)) (w : World) (ha : Sl w A (gv a)) (hb : Sl w B (gv b)) (hl : a.length ≤ 1000000) (hl' : b.length ≤ 1000000) :
    Calls Try.prog 78 #[.slice A a.length c, .slice B b.length d] w fun x w' => x = .returned (.bool (gEq a b)) ∧ ∃ n, w' = w.drewN n := by
  have HA := hide ha; clear ha
  have HB := hide hb; clear hb
  by_cases hlen : a.length = b.length
  · have hL : ((a.length : Int) != (b.length : Int)) = false := by simp [hlen]
    have h1 : b.length ≤ a.length := by omega
    have h2 : a.length ≤ b.length := by omega
    have HL := hide hlen; clear hlen
    go_enter Try.func78, Try.ntmps78
    go_wp2
    go_loopw [5] (fun i wr => ∃ k : Nat, k ≤ a.length ∧ i = .int .i64 k ∧ a.take k = b.take k ∧ ∃ n, wr = w.drewN n) (fun i _ => a.length - (intOf i).toNat)
    case atStart => exact ⟨0, Nat.zero_le _, rfl, by simp, 0, rfl⟩
    case round =>
      obtain ⟨k, hk, rfl, he, n, rfl⟩ := hrel
      have HE := hide he; clear he
      by_cases hlt : k < a.length
      · have hlt' : k < b.length := by omega
        obtain ⟨b1, o1, rfl, c1, c2⟩ := HA.out.at2 hlt
        obtain ⟨b2, o2, rfl, c3, c4⟩ := HB.out.at2 hlt'
        have d1 : (w.drewN n).cell? ⟨b1, o1 + k * 2, none⟩ = some (.int .i64 a[k].1) := c1
        have d2 : (w.drewN n).cell? ⟨b1, o1 + k * 2 + 1, none⟩ = some (.int .i64 a[k].2) := c2
        have d3 : (w.drewN n).cell? ⟨b2, o2 + k * 2, none⟩ = some (.int .i64 b[k].1) := c3
        have d4 : (w.drewN n).cell? ⟨b2, o2 + k * 2 + 1, none⟩ = some (.int .i64 b[k].2) := c4
        have g1 : (0 : Int) ≤ (k : Int) := by omega
        have g2 : (k : Int) < (a.length : Int) := by omega
        have g3 : (k : Int) < (b.length : Int) := by omega
        have hq := p2_neq a[k].1 a[k].2 b[k].1 b[k].2
        by_cases hx : a[k] = b[k]
        · have hx' : (!(a[k].1 == b[k].1 && a[k].2 == b[k].2)) = false := by simp [hx]
          simp only [hx'] at hq
          have HX := hide hx; clear hx hx'
          go_wp2
          go_quiet (fail)
          go_wp2
          go_roundw
          case rel => exact ⟨k + 1, by omega, by go_num, by rw [List.take_succ_eq_append_getElem hlt, List.take_succ_eq_append_getElem hlt', HE.out, HX.out], by first | exact drewN2 _ _ _ | exact ⟨_, rfl⟩⟩
          case measure => simp [intOf]; omega
        · have hx' : (!(a[k].1 == b[k].1 && a[k].2 == b[k].2)) = true := by
            rw [Bool.not_eq_true', Bool.and_eq_false_iff, beq_eq_false_iff_ne, beq_eq_false_iff_ne]
            by_cases q : a[k].1 = b[k].1
            · exact .inr fun e => hx (Prod.ext q e)
            · exact .inl q
          simp only [hx'] at hq
          have hne : a ≠ b := by rintro rfl; exact hx rfl
          have HN := hide hne; clear hne hx hx'
          go_wp2
          go_quiet (fail)
          go_wp2
          go_ret
          exact ⟨by rw [gEq, decide_eq_false HN.out]; rfl, by first | exact drewN2 _ _ _ | exact ⟨_, rfl⟩⟩
      · go_wp2
        go_ret
        have : a = b := by
          have h3 : k = a.length := by omega
          subst h3
          have he := HE.out
          rw [List.take_length, List.take_of_length_le (by omega)] at he
          exact he
        exact ⟨by rw [gEq, decide_eq_true this]; rfl, n, rfl⟩
  · have hL : ((a.length : Int) != (b.length : Int)) = true := by simp; omega
    have hne : a ≠ b := by rintro rfl; exact hlen rfl
    have HN := hide hne; clear hne hlen
    go_enter Try.func78, Try.ntmps78
    go_wp2
    go_ret
    exact ⟨by rw [gEq, decide_eq_false HN.out]; rfl, 0, rfl⟩

open WalkArith in
set_option maxRecDepth 100000 in
set_option maxHeartbeats 8000000 in
theorem checkPairs_ref (A : Option Addr) (c : Nat) (us : List (List (Int × Int))) (a b : Int) (PA : Option Addr) (pc : Nat) (ps : List (Int × Int)) (w : World) (hs : RowsAt GR w A us)
    (h0 : firstOf [usersE us, mostE a b] = 0) (hp : Sl w PA (gv ps)) (hpl : ps.length ≤ 100) :
    Calls Try.prog 77 #[.slice A us.length c, .agg #[.int .i64 a, .int .i64 b], .slice PA ps.length pc] w fun e w' => e = .returned (.tuple #[.int .i64 (if chkE us.length (shU us a b) [] ps = 0 then (ps.length : Int) else 0), .int .i64 (chkE us.length (shU us a b) [] ps)]) ∧ Below w.heap.size w w' := by
  obtain ⟨u0, m0⟩ := firstOf_two h0
  obtain ⟨hn6, hv⟩ := usersE_ok u0
  obtain ⟨i0, hi0, hz0, hz1, hz2⟩ := info_parts int_info
  obtain ⟨n, hn⟩ : ∃ n, us.length = n := ⟨_, rfl⟩
  have HM := hide (show ∀ B B' k k' (i j : Nat) W (hi : i < us.length) (hj : j < us.length), Sl W B (gv us[i]) → Sl W B' (gv us[j]) → Calls Try.prog 76 #[.slice B us[i].length k, .slice B' us[j].length k', .agg #[.int .i64 a, .int .i64 b]] W fun e W' => e = .returned (.bool (shU us a b i j)) ∧ Below W.heap.size W W' from fun B B' k k' i j W hi hj s1 s2 => by
    have ht := hv i j hi hj
    have hll : us[j].length = us[i].length := by obtain ⟨-, -, -, hq, -, -⟩ := twoE_ok ht; exact hq.symm
    have := mayShare_ref B B' k k' us[i].length us[i] us[j] a b W ht m0 rfl hll s1 s2
    rw [show shU us a b i j = shB us[i] us[j] a b by unfold shU; rw [List.getElem?_eq_getElem hi, List.getElem?_eq_getElem hj]; rfl, hll]
    exact this)
  have HS := hide hs; clear hs
  have HPS := hide hp; clear hp
  have HN := hide hn
  have HU := hide (show ∀ W, Below w.heap.size w W → ∀ i (hi : i < us.length), ∃ bb oo B k, A = some ⟨bb, oo, none⟩ ∧ W.cell? ⟨bb, oo + i, none⟩ = some (.slice B us[i].length k) ∧ GR W B us[i] from fun W hb i hi => (HS.out.bel gr_lasts hb).at_ hi)
  clear h0 u0 m0 hv
  rw [hn] at hn6
  rw [hn]
  obtain ⟨sh, hsh⟩ : ∃ sh, shU us a b = sh := ⟨_, rfl⟩
  rw [hsh] at HM
  rw [hsh]
  clear hsh hn
  have hcE := hide (show ∀ (T : List Int) (k : Nat) (hk : k < ps.length), chkE n sh T (ps.drop k) = if pairE n sh T ps[k] = 0 then chkE n sh (T ++ [ps[k].1, ps[k].2]) (ps.drop (k + 1)) else pairE n sh T ps[k] from fun T k hk => by rw [List.drop_eq_getElem_cons hk]; rfl)
  obtain ⟨Z, hZ⟩ : ∃ Z, chkE n sh [] ps = Z := ⟨_, rfl⟩
  rw [hZ]
  have HZ := hide hZ; clear hZ
  obtain ⟨VN, hVN⟩ : ∃ v : Int, (if Z = 0 then (ps.length : Int) else 0) = v := ⟨_, rfl⟩
  rw [hVN]
  have HV1 := hide (show Z = 0 → VN = ps.length from fun h => by rw [← hVN, if_pos h])
  have HV2 := hide (show Z ≠ 0 → VN = 0 from fun h => by rw [← hVN, if_neg h])
  clear hVN
  go_enter Try.func77, Try.ntmps77
  go_wp2
  go_loopw [8, 9] (fun o i wr => ∃ (k m : Nat) (T : List Int) (TA : Option Addr) (tc : Nat), k ≤ ps.length ∧ i = .int .i64 k ∧ o = .slice TA m tc ∧ T.length = m ∧ m ≤ 2 * k ∧ Z = chkE n sh T (ps.drop k) ∧ wr.ownsRow w.heap.size 3 1 (.slice TA m tc) m (iv T) ∧ Blk wr w.heap.size 86 #[.int .i64 a, .int .i64 b] ∧ Below w.heap.size w wr) (fun _ i _ => ps.length - (intOf i).toNat)
  case atStart => exact ⟨0, 0, [], none, 0, Nat.zero_le _, rfl, rfl, rfl, by omega, by rw [List.drop_zero, HZ.out], World.ownsRow_nil _ _ _ _, Blk.new w _ _, by go_grown⟩
  case round =>
    obtain ⟨k, m, T, TA, tc, hk, rfl, rfl, hTm, hmk, hz, hrow, hbu, hbel⟩ := hrel
    have HE := hide hz; clear hz
    have HROW := hide hrow
    have HTM := hide hTm
    have yu := hbu.lt
    have hbz := hbel.size
    by_cases hlt : k < ps.length
    · obtain ⟨bp, op, rfl, e1, e2⟩ := HPS.out.at2 hlt
      have d1 : wr.cell? ⟨bp, op + k * 2, none⟩ = some (.int .i64 ps[k].1) := (hbel.cell (p := ⟨bp, op + k * 2, none⟩) (lt_of_cell e1)).trans e1
      have d2 : wr.cell? ⟨bp, op + k * 2 + 1, none⟩ = some (.int .i64 ps[k].2) := (hbel.cell (p := ⟨bp, op + k * 2 + 1, none⟩) (lt_of_cell e2)).trans e2
      have hck := hcE.out T k hlt
      obtain ⟨p, hp⟩ : ∃ p, ps[k] = p := ⟨_, rfl⟩
      rw [hp] at d1 d2 hck
      obtain ⟨x, y⟩ := p
      dsimp only at d1 d2 hck
      have HCK := hide hck
      have c0 : wr.cell? ⟨w.heap.size, 0, none⟩ = some (.int .i64 a) := hbu.cell 0
      have c1 : wr.cell? ⟨w.heap.size, 1, none⟩ = some (.int .i64 b) := hbu.cell 1
      have hnn : (n : Int) ≤ 6 := by omega
      have hus : (us.length : Int) = n := by rw [HN.out]
      have HUS := hide hus
      clear e1 e2 hp hck hrow hTm
      cases hwx : withinB x 0 ((n : Int) - 1)
      · have HWX := hide hwx
        have hpe : pairE n sh T (x, y) = 6 := by unfold pairE; rw [hwx]; rfl
        have HV := hide (show Z = 6 by rw [HE.out, HCK.out, hpe]; rfl)
        clear hwx hpe
        go_wp2
        go_quiet (fail)
        go_wp2_with (first
          | (go_at_call 24; go_must (refine (within_base _ _ _ _).mono ?_; rintro e w' ⟨rfl, rfl⟩; rw [HWX.out]; simp only [])))
        go_ret2
        exact ⟨by rw [HV.out, HV2.out (by rw [HV.out]; decide)]; rfl, by first | exact below_drew hbel | exact below_drewN hbel _ | exact hbel⟩
      · cases hwy : withinB y 0 ((n : Int) - 1)
        · have HWX := hide hwx
          have HWY := hide hwy
          have hpe : pairE n sh T (x, y) = 6 := by unfold pairE; rw [hwx, hwy]; rfl
          have HV := hide (show Z = 6 by rw [HE.out, HCK.out, hpe]; rfl)
          clear hwx hwy hpe
          go_wp2
          go_quiet (fail)
          go_wp2_with (first
            | (go_at_call 24; go_must (refine (within_base _ _ _ _).mono ?_; rintro e w' ⟨rfl, rfl⟩; (first | rw [HWX.out] | rw [HWY.out]); simp only [])))
          go_ret2
          exact ⟨by rw [HV.out, HV2.out (by rw [HV.out]; decide)]; rfl, by first | exact below_drew hbel | exact below_drewN hbel _ | exact hbel⟩
        · have hxr : 0 ≤ x ∧ x ≤ (n : Int) - 1 := by simpa [withinB] using hwx
          have hyr : 0 ≤ y ∧ y ≤ (n : Int) - 1 := by simpa [withinB] using hwy
          obtain ⟨xi, rfl⟩ := Int.eq_ofNat_of_zero_le hxr.1
          obtain ⟨yi, rfl⟩ := Int.eq_ofNat_of_zero_le hyr.1
          have hxi : xi < n := by omega
          have hyi : yi < n := by omega
          have HWX := hide hwx
          have HWY := hide hwy
          have hpe : pairE n sh T ((xi : Int), (yi : Int)) = firstOf [unlessE (decide ((xi : Int) < (yi : Int))) 9, unlessE (!(T.contains (xi : Int)) && !(T.contains (yi : Int))) 26, unlessE (sh xi yi) 13] := by
            unfold pairE
            rw [hwx, hwy]
            rfl
          have HPE := hide hpe
          have HHAS := hide (show ∀ (z : Int) W, (∃ q, W = wr.drewN q) → Calls Try.prog 89 #[.slice TA m tc, .int .i64 z] W fun e w' => e = .returned (.bool (T.contains z)) ∧ W = w' from fun z W hW => by
            obtain ⟨q, rfl⟩ := hW
            exact has_base TA tc m T z _ HTM.out ((Sl.of_own HROW.out).drewN q) (by omega))
          clear hpe hwx hwy hxr hyr
          by_cases hxy : xi < yi
          · have HXY := hide (show decide ((xi : Int) < (yi : Int)) = true by rw [decide_eq_true_iff]; omega)
            cases htx : T.contains (xi : Int)
            · have HTX := hide htx
              cases hty : T.contains (yi : Int)
              · have HTY := hide hty
                obtain ⟨bb, oo, B1, k1, hA1, r1, g1⟩ := HU.out wr hbel xi (by rw [HN.out]; exact hxi)
                obtain ⟨bb', oo', B2, k2, hA2, r2, g2⟩ := HU.out wr hbel yi (by rw [HN.out]; exact hyi)
                subst hA1
                injection hA2 with hA
                injection hA with hA1 hA2
                subst hA1 hA2
                have hm1 := HM.out B1 B2 k1 k2 xi yi
                have hm2 := fun W (hb : Below wr.heap.size wr W) => hm1 W (by rw [HN.out]; exact hxi) (by rw [HN.out]; exact hyi) (Sl.bel g1 hb) (Sl.bel g2 hb)
                clear hm1
                obtain ⟨l1, hl1⟩ : ∃ l, (us[xi]'(by rw [HN.out]; exact hxi)).length = l := ⟨_, rfl⟩
                obtain ⟨l2, hl2⟩ : ∃ l, (us[yi]'(by rw [HN.out]; exact hyi)).length = l := ⟨_, rfl⟩
                rw [hl1] at r1 hm2
                rw [hl2] at r2 hm2
                have HMM := hide hm2
                clear hm2 g1 g2 hl1 hl2 HM HU
                obtain ⟨sv, hsv⟩ : ∃ sv, sh xi yi = sv := ⟨_, rfl⟩
                rw [hsv] at HMM
                have hze : Z = if firstOf [unlessE true 9, unlessE (!false && !false) 26, unlessE sv 13] = 0 then chkE n sh (T ++ [(xi : Int), (yi : Int)]) (ps.drop (k + 1)) else firstOf [unlessE true 9, unlessE (!false && !false) 26, unlessE sv 13] := by
                  rw [HE.out, HCK.out, HPE.out, HXY.out, htx, hty, hsv]
                have HZE := hide hze
                have HRB := hide hbu
                clear hze htx hty hsv
                go_wp2
                go_quiet (fail)
                go_wp2_with (first
                  | (go_at_call 24; go_must (refine (within_base _ _ _ _).mono ?_; rintro e w' ⟨rfl, rfl⟩; (first | rw [HWX.out] | rw [HWY.out]); simp only []))
                  | (go_at_call 89; go_must (refine (HHAS.out _ _ ⟨_, rfl⟩).mono ?_; rintro e w' ⟨rfl, rfl⟩; (first | rw [HTX.out] | rw [HTY.out]); simp only [])))
                go_region_held3 (fun w' => w'.cell? ⟨bb, oo + xi, none⟩ = some (.slice B1 l1 k1) ∧ w'.cell? ⟨bb, oo + yi, none⟩ = some (.slice B2 l2 k2) ∧ w'.cell? ⟨w.heap.size, 0, none⟩ = some (.int .i64 a) ∧ w'.cell? ⟨w.heap.size, 1, none⟩ = some (.int .i64 b)) (first | exact ⟨q1, q2, q3, q4⟩ | exact ⟨r1, r2, c0, c1⟩ | go_keep)
                  (first
                    | (go_at_call 76; go_must (refine (HMM.out _ (below_drew (below_drewN (Below.refl _ _) _))).mono ?_; rintro e w5 ⟨rfl, hb5⟩; have b5 : Below wr.heap.size wr w5 := Below.step (below_drew (below_drewN (Below.refl _ _) _)) hb5; clear hb5; have q1 := b5.keeps r1; have q2 := b5.keeps r2; have q3 := b5.keeps c0; have q4 := b5.keeps c1)))
                have z5 := b5.size
                cases sv
                · have HV := hide (show Z = 13 by rw [HZE.out]; rfl)
                  go_wp2
                  go_ret2
                  exact ⟨by rw [HV.out, HV2.out (by rw [HV.out]; decide)]; rfl, Below.step hbel b5⟩
                · have HZ2 := hide (show Z = chkE n sh (T ++ [(xi : Int), (yi : Int)]) (ps.drop (k + 1)) by rw [HZE.out]; rfl)
                  have hsz5 : w.heap.size ≤ w5.heap.size := by omega
                  go_wp2_with (at_builtin; go_must (
                     refine wpList_append_any _ rfl (.tmp 64) (.tmp 67) _ rfl w.heap.size 3 i0 _ 1 8 Try.underlying22 hi0 hz0 hz1 hz2 rfl (by omega) _ m (iv T) rfl ((own_bel HROW.out b5).alloc _) _ (some ⟨w5.heap.size, 0, none⟩) 2 2 [.int .i64 xi, .int .i64 yi] rfl (Sl.new w5 [.int .i64 xi, .int .i64 yi] _ _ rfl).reads (by simp [Value.oneCell']) (by simp only [maxLen]; omega) (by omega) (by simp; omega) ?_
                     intro v1 w3 hown3 hg3 _
                     obtain ⟨P3, k3, rfl⟩ := own_form hown3
                     have hbel3 := Below.app (Below.step hbel b5) (own_bel HROW.out b5) hg3
                     have U0 := (HRB.out.below b5 yu).app (own_bel HROW.out b5) hg3 (by decide)))
                  go_roundw
                  case rel => exact ⟨k + 1, m + 2, T ++ [(xi : Int), (yi : Int)], P3, k3, by omega, by go_num, rfl, by simp [HTM.out], by omega, HZ2.out, (by rw [iv_append]; exact hown3), U0, hbel3⟩
                  case measure => simp [intOf]; omega
              · have HTY := hide hty
                have HV := hide (show Z = 26 by rw [HE.out, HCK.out, HPE.out, HXY.out, htx, hty]; rfl)
                clear htx hty
                go_wp2
                go_quiet (fail)
                go_wp2_with (first
                  | (go_at_call 24; go_must (refine (within_base _ _ _ _).mono ?_; rintro e w' ⟨rfl, rfl⟩; (first | rw [HWX.out] | rw [HWY.out]); simp only []))
                  | (go_at_call 89; go_must (refine (HHAS.out _ _ ⟨_, rfl⟩).mono ?_; rintro e w' ⟨rfl, rfl⟩; (first | rw [HTX.out] | rw [HTY.out]); simp only [])))
                go_ret2
                exact ⟨by rw [HV.out, HV2.out (by rw [HV.out]; decide)]; rfl, by first | exact below_drew hbel | exact below_drewN hbel _ | exact hbel⟩
            · have HTX := hide htx
              have HV := hide (show Z = 26 by rw [HE.out, HCK.out, HPE.out, HXY.out, htx]; rfl)
              clear htx
              go_wp2
              go_quiet (fail)
              go_wp2_with (first
                | (go_at_call 24; go_must (refine (within_base _ _ _ _).mono ?_; rintro e w' ⟨rfl, rfl⟩; (first | rw [HWX.out] | rw [HWY.out]); simp only []))
                | (go_at_call 89; go_must (refine (HHAS.out _ _ ⟨_, rfl⟩).mono ?_; rintro e w' ⟨rfl, rfl⟩; rw [HTX.out]; simp only [])))
              go_ret2
              exact ⟨by rw [HV.out, HV2.out (by rw [HV.out]; decide)]; rfl, by first | exact below_drew hbel | exact below_drewN hbel _ | exact hbel⟩
          · have HV := hide (show Z = 9 by rw [HE.out, HCK.out, HPE.out, show decide ((xi : Int) < (yi : Int)) = false by rw [decide_eq_false_iff_not]; omega]; rfl)
            go_wp2
            go_quiet (fail)
            go_wp2_with (first
              | (go_at_call 24; go_must (refine (within_base _ _ _ _).mono ?_; rintro e w' ⟨rfl, rfl⟩; (first | rw [HWX.out] | rw [HWY.out]); simp only [])))
            go_ret2
            exact ⟨by rw [HV.out, HV2.out (by rw [HV.out]; decide)]; rfl, by first | exact below_drew hbel | exact below_drewN hbel _ | exact hbel⟩
    · obtain rfl : k = ps.length := by omega
      have HV := hide (show Z = 0 by rw [HE.out, List.drop_length]; rfl)
      go_wp2
      go_ret2
      exact ⟨by rw [HV.out, HV1.out HV.out]; rfl, hbel⟩
end Go.Proofs.Ytamkannjdbodpaa

namespace Go.Proofs.Ytamkannjdbodpaa
open Go.RowKit Go.WideShapes Go.ChangeShapes

/-! lists of pairs that a call makes -/
def OutAt (w : World) (base : Nat) (v : Value) (ls : List (List (Int × Int))) : Prop :=
  ∃ vs : List Value, w.ownsRow base 101 1 v ls.length vs ∧ vs.length = ls.length ∧ ∀ j (hj : j < ls.length), ∃ B c, vs[j]? = some (.slice B ls[j].length c) ∧ w.ownsRow base 183 2 (.slice B ls[j].length c) ls[j].length (gv ls[j])
theorem OutAt.bel {w w' : World} {base : Nat} {v : Value} {ls : List (List (Int × Int))} (h : OutAt w base v ls) (hb : Below w.heap.size w w') : OutAt w' base v ls := by
  obtain ⟨vs, h1, h2, h3⟩ := h
  refine ⟨vs, own_bel h1 hb, h2, fun j hj => ?_⟩
  obtain ⟨B, c, h4, h5⟩ := h3 j hj
  exact ⟨B, c, h4, own_bel h5 hb⟩
theorem OutAt.drewN {w : World} {base : Nat} {v : Value} {ls : List (List (Int × Int))} (h : OutAt w base v ls) (n : Nat) : OutAt (w.drewN n) base v ls := h
theorem OutAt.weaken {w : World} {base base' : Nat} {v : Value} {ls : List (List (Int × Int))} (h : OutAt w base v ls) (hb : base' ≤ base) : OutAt w base' v ls := by
  obtain ⟨vs, h1, h2, h3⟩ := h
  refine ⟨vs, h1.weaken hb, h2, fun j hj => ?_⟩
  obtain ⟨B, c, h4, h5⟩ := h3 j hj
  exact ⟨B, c, h4, h5.weaken hb⟩
theorem OutAt.form {w : World} {base : Nat} {v : Value} {ls : List (List (Int × Int))} (h : OutAt w base v ls) : ∃ A c, v = .slice A ls.length c := by
  obtain ⟨vs, h1, _⟩ := h
  exact own_form h1
/-- kept through a growth of another row -/
theorem OutAt.kept {w w' : World} {base : Nat} {v : Value} {ls : List (List (Int × Int))} (h : OutAt w base v ls) {row : Option Nat} (hg : w.grownBy w' row) (hne : v.ownBlock = none ∨ v.ownBlock ≠ row)
    (hi : ∀ (u : Value) (n : Nat) (xs : List Value), w.ownsRow base 183 2 u n xs → u.ownBlock = none ∨ u.ownBlock ≠ row) : OutAt w' base v ls := by
  obtain ⟨vs, h1, h2, h3⟩ := h
  refine ⟨vs, h1.kept hg hne, h2, fun j hj => ?_⟩
  obtain ⟨B, c, h4, h5⟩ := h3 j hj
  exact ⟨B, c, h4, h5.kept hg (hi _ _ _ h5)⟩
/-- one list more -/
theorem OutAt.snoc {w w' : World} {base : Nat} {v v' : Value} {ls : List (List (Int × Int))} {l : List (Int × Int)} {B : Option Addr} {c : Nat} {vs : List Value}
    (hv : w.ownsRow base 101 1 v ls.length vs) (hvl : vs.length = ls.length) (hi : ∀ j (hj : j < ls.length), ∃ B c, vs[j]? = some (.slice B ls[j].length c) ∧ w.ownsRow base 183 2 (.slice B ls[j].length c) ls[j].length (gv ls[j]))
    (hl : w.ownsRow base 183 2 (.slice B l.length c) l.length (gv l))
    (h' : w'.ownsRow base 101 1 v' (ls.length + 1) (vs ++ [.slice B l.length c])) (hg : w.grownBy w' v.ownBlock) : OutAt w' base v' (ls ++ [l]) := by
  refine ⟨vs ++ [.slice B l.length c], by rw [List.length_append]; exact h', by simp [hvl], fun j hj => ?_⟩
  by_cases q : j < ls.length
  · obtain ⟨B2, c2, h4, h5⟩ := hi j q
    refine ⟨B2, c2, ?_, ?_⟩
    · rw [List.getElem?_append_left (by omega), List.getElem_append_left q]; exact h4
    · rw [List.getElem_append_left q]
      exact h5.kept hg (rows_ne h5 hv (by decide))
  · have hj' : j = ls.length := by rw [List.length_append] at hj; simp at hj; omega
    subst hj'
    refine ⟨B, c, ?_, ?_⟩
    · rw [List.getElem?_append_right (by omega), hvl, Nat.sub_self]; simp
    · simp only [List.getElem_append_right (Nat.le_refl _), Nat.sub_self, List.getElem_cons_zero]
      exact hl.kept hg (rows_ne hl hv (by decide))
theorem OutAt.at_ {w : World} {base : Nat} {A : Option Addr} {L c : Nat} {ls : List (List (Int × Int))} (h : OutAt w base (.slice A L c) ls) {k : Nat} (hk : k < ls.length) :
    ∃ b B cc, A = some ⟨b, 0, none⟩ ∧ w.cell? ⟨b, 0 + k, none⟩ = some (.slice B ls[k].length cc) ∧ w.ownsRow base 183 2 (.slice B ls[k].length cc) ls[k].length (gv ls[k]) := by
  obtain ⟨vs, h1, h2, h3⟩ := h
  obtain ⟨B, cc, h4, h5⟩ := h3 k hk
  rcases h1.2 with ⟨_, hn⟩ | ⟨g, cap, cur, hv, hh⟩
  · omega
  · injection hv with hA _ _
    subst hA
    have := h1.cells (g := g) rfl k _ h4
    rw [add_lit] at this
    exact ⟨g, B, cc, rfl, this, h5⟩

/-! how many lists -/
def fct : Nat → Nat
  | 0 => 1
  | m + 1 => (m + 1) * fct m
theorem row_count (f : Nat → List (List (Int × Int))) (sh : Nat → Nat → Bool) (T : List Int) (i b : Nat) (hf : ∀ k, (f k).length ≤ b) : ∀ j : Nat, (rowF f sh T i j).length ≤ j * b
  | 0 => by simp [rowF]
  | j + 1 => by
    have ih := row_count f sh T i b hf j
    have := hf (i + 1 + j)
    rw [rowF, List.length_append, Nat.succ_mul]
    split
    · simp; omega
    · rw [List.length_map]; omega
theorem blocks_count (sh : Nat → Nat → Bool) : ∀ (m i : Nat) (T : List Int), (blocksF sh m i T).length + 1 ≤ fct m
  | 0, _, _ => by simp [blocksF, fct]
  | m + 1, i, T => by
    have h1 := row_count (fun k => [] :: blocksF sh m (i + 1) (T ++ [(i : Int), (k : Int)])) sh T i (fct m) (fun k => by have := blocks_count sh m (i + 1) (T ++ [(i : Int), (k : Int)]); simpa using this) m
    have h2 := blocks_count sh m (i + 1) T
    rw [blocksF, List.length_append, fct, Nat.succ_mul]
    omega
def listsF (sh : Nat → Nat → Bool) (m i : Nat) (T : List Int) : List (List (Int × Int)) := [] :: blocksF sh m i T
theorem fct_le {m : Nat} (h : m ≤ 6) : fct m ≤ 720 := by
  obtain rfl | rfl | rfl | rfl | rfl | rfl | rfl : m = 0 ∨ m = 1 ∨ m = 2 ∨ m = 3 ∨ m = 4 ∨ m = 5 ∨ m = 6 := by omega
  all_goals decide
theorem lists_count (sh : Nat → Nat → Bool) {m : Nat} (h : m ≤ 6) (i : Nat) (T : List Int) : (listsF sh m i T).length ≤ 720 := by
  have h1 := blocks_count sh m i T
  have h2 := fct_le h
  unfold listsF
  simp only [List.length_cons]
  omega
end Go.Proofs.Ytamkannjdbodpaa
