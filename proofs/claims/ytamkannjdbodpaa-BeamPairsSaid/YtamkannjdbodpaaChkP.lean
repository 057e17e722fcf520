import Derived.Test.YtamkannjdbodpaaMPairs
import Derived.Maps.OwnSet
import Derived.Test.YtamkannjdbodpaaPairLaw
namespace Go.Proofs.Ytamkannjdbodpaa
open Go.RowKit Go.WideShapes Go.ChangeShapes

/-! a map of taken users, that the call makes -/
theorem intK : Go.Maps.Keyed Try.prog 3 := Go.Maps.int_keyed Try.underlying3
theorem zeroB (w : World) : (zeroValue 4).run Try.prog w = .ok (.bool false) w := by kernel_rfl
theorem plainElem_bool_inv {H : Type} {P : Program} {e : TypeId} (he : P.underlying e = some .bool) {v : Value} {z : DataW H × List MemPlace} (h : plainElem P e v = some z) : ∃ a, v = .bool a ∧ z = (.lit (.bool a), []) := by
  unfold plainElem at h
  rw [he] at h
  cases v <;> simp at h
  exact ⟨_, rfl, h.symm⟩
/-- block g is a map, of at most n entries, in which just the listed numbers are true -/
def MapIs (w : World) (g n : Nat) (T : List Int) : Prop :=
  ∃ D : DataW Unit, w.ownsMap Try.prog 3 (plainElem Try.prog 4) g n D ∧ ∀ k : Int, (Lit.int .i64 k).wf = true → D.atKey (.int .i64 k) (.lit (.bool false)) = .lit (.bool (T.contains k))
theorem mapis_made (w : World) : MapIs (w.alloc (.map #[] 0)) w.heap.size 0 [] :=
  ⟨.map [], World.ownsMap_made w _ _ _, fun _ _ => rfl⟩
theorem MapIs.lt {w : World} {g n : Nat} {T : List Int} (h : MapIs w g n T) : g < w.heap.size := by
  obtain ⟨D, h1, _⟩ := h; exact h1.lt
theorem MapIs.below {w w' : World} {g n : Nat} {T : List Int} (h : MapIs w g n T) (hb : Below w.heap.size w w') : MapIs w' g n T := by
  obtain ⟨D, h1, h2⟩ := h
  exact ⟨D, h1.kept (only_of_below hb none) (by simp), h2⟩
theorem MapIs.drew {w : World} {g n : Nat} {T : List Int} (h : MapIs w g n T) : MapIs w.drew g n T := h
theorem MapIs.setCell {w : World} {g n : Nat} {T : List Int} (h : MapIs w g n T) {a : Addr} (ha : g ≠ a.block) (u : Value) : MapIs (w.setCell a u) g n T := by
  obtain ⟨D, h1, h2⟩ := h
  exact ⟨D, h1.setCell ha u, h2⟩
set_option maxRecDepth 100000 in
theorem MapIs.look {w : World} {g n : Nat} {T : List Int} (h : MapIs w g n T) {k : Int} (hk : (Lit.int .i64 k).wf = true) :
    (Instr.lookup 182 (.map (some g)) (.int .i64 k) false).run Try.prog w = .ok (.bool (T.contains k)) w := by
  obtain ⟨D, h1, h2⟩ := h
  obtain ⟨v, ps, hrun, hv⟩ := h1.lookup intK Try.underlying182 (zeroB w) (plainElem_bool Try.underlying4 false) (Go.Maps.keyOf_int_mk Try.underlying3 hk)
  obtain ⟨a, rfl, ha⟩ := plainElem_bool_inv Try.underlying4 hv
  rw [h2 k hk] at ha
  injection ha with ha _
  injection ha with ha
  injection ha with ha
  rw [ha]; exact hrun
set_option maxRecDepth 100000 in
theorem MapIs.put {w : World} {g n : Nat} {T : List Int} (h : MapIs w g n T) {k : Int} (hk : (Lit.int .i64 k).wf = true) (hn : n < maxLen) :
    ∃ w', (Instr.mapUpdate 182 (.map (some g)) (.int .i64 k) (.bool true)).run Try.prog w = .ok () w' ∧ MapIs w' g (n + 1) (T ++ [k]) ∧ w.grownBy w' (some g) := by
  obtain ⟨D, h1, h2⟩ := h
  obtain ⟨w', e1, e2, e3⟩ := h1.update intK Try.underlying182 hn (Go.Maps.keyOf_int_mk Try.underlying3 hk) (plainElem_bool Try.underlying4 true)
  refine ⟨w', e1, ⟨_, e2, fun k' hk' => ?_⟩, e3⟩
  by_cases q : k' = k
  · subst q
    rw [Go.Maps.atKey_put_same h1.isMap (by first | exact hk | trivial | simp [WideAt.IsKeyLit])]
    simp
  · rw [Go.Maps.atKey_put_other (by intro e; injection e with _ e; exact q e), h2 k' hk']
    have : (T ++ [k]).contains k' = T.contains k' := by
      have hq : (k' == k) = false := by rw [beq_eq_false_iff_ne]; exact q
      rw [List.contains_eq_any_beq, List.contains_eq_any_beq, List.any_append]
      simp [hq]
    rw [this]
end Go.Proofs.Ytamkannjdbodpaa

namespace Go.Proofs.Ytamkannjdbodpaa
open Go.RowKit Go.WideShapes Go.ChangeShapes

theorem isUser_beam (x : Int) (g : Nat) (A : Option Addr) (n c : Nat) (w : World) (h : w.cell? ⟨g, 0, none⟩ = some (.slice A n c)) (hn : n ≤ 100) :
    Calls Try.prog 138 #[.int .i64 x, .pointer (some ⟨g, 0, none⟩)] w fun e w' => e = .returned (.bool (withinB x 0 ((n : Int) - 1))) ∧ w = w' := by
  go_enter Try.func138, Try.ntmps138
  go_wp2_with (go_at_call 100; go_must (refine (within_beam _ _ _ _).mono ?_; rintro e w' ⟨rfl, rfl⟩; simp only []))
  go_ret
  exact ⟨rfl, rfl⟩

set_option maxRecDepth 100000 in
set_option maxHeartbeats 8000000 in
theorem checkPairs_ok (A : Option Addr) (c : Nat) (us : List (List (Int × Int))) (a b : Int) (PA : Option Addr) (pc : Nat) (ps : List (Int × Int)) (w : World) (hs : RowsAt GR w A us) (hl : ∀ u ∈ us, u.length ≤ 100)
    (h0 : firstOf [usersE us, mostE a b] = 0) (hp : Sl w PA (gv ps)) (hwf : ∀ p ∈ ps, (Lit.int .i64 p.1).wf = true ∧ (Lit.int .i64 p.2).wf = true) (hpl : ps.length ≤ 100) :
    Calls Try.prog 72 #[.slice A us.length c, .agg #[.int .i64 a, .int .i64 b], .slice PA ps.length pc] w fun e w' => e = .returned (.tuple #[.int .i64 (if chkE us.length (shU us a b) [] ps = 0 then (ps.length : Int) else 0), .int .i64 (chkE us.length (shU us a b) [] ps)]) ∧ Below w.heap.size w w' := by
  obtain ⟨u0, m0⟩ := firstOf_two h0
  obtain ⟨hn6, hv⟩ := usersE_ok u0
  obtain ⟨m1, m2, m3, m4, -⟩ := mostE_ok m0
  have HO := hide (fun W hb => openUsers_beam A c us a b W hb hl (by omega) (by omega) (by omega) (by omega))
  rw [h0] at HO
  obtain ⟨n, hn⟩ : ∃ n, us.length = n := ⟨_, rfl⟩
  have HM := hide (show ∀ C c' (i j : Nat) W, RowsAt CR W C us → i < n → j < n → Calls Try.prog 139 #[.agg #[.slice C n c', .int .i64 a, .int .i64 b], .int .i64 i, .int .i64 j] W fun e w' => e = .returned (.bool (shU us a b i j)) ∧ Below W.heap.size W w' from fun C c' i j W k hi hj => by
    have hi' : i < us.length := by omega
    have hj' : j < us.length := by omega
    have := usMay_beam C c' n us a b i j W k hn (by omega) hi' hj' (hv i j hi' hj') m0
    rw [show shU us a b i j = shB us[i] us[j] a b by unfold shU; rw [List.getElem?_eq_getElem hi', List.getElem?_eq_getElem hj']; rfl]
    exact this)
  have HS := hide hs; clear hs
  have HPS := hide hp; clear hp
  have HWF := hide hwf; clear hwf
  have HB := hide (((Below.refl w.heap.size w).alloc (Nat.le_refl _) (.cells #[.slice A us.length c] 100)).alloc (by simp) (.cells #[.int .i64 a, .int .i64 b] 86))
  have HBX := hide ((stay_new w 100 #[.slice A us.length c]).alloc (.cells #[.int .i64 a, .int .i64 b] 86))
  clear h0 u0 m0 hv hl m1 m2 m3 m4
  rw [hn] at HO HB HBX hn6
  rw [hn]
  obtain ⟨sh, hsh⟩ : ∃ sh, shU us a b = sh := ⟨_, rfl⟩
  rw [hsh] at HM
  rw [hsh]
  clear hsh
  have hmk : ∀ w, (Instr.makeMap 182 none).run Try.prog w = .ok (.map (some w.heap.size)) (w.alloc (.map #[] 0)) := fun w => by
    first
      | exact run_makeMap _ _ _ Try.underlying182 w
      | (simp [Instr.makeMap]; done)
      | (simp [Instr.makeMap]; rfl)
  have hcE := hide (show ∀ (T : List Int) (k : Nat) (hk : k < ps.length), chkE n sh T (ps.drop k) = if pairE n sh T ps[k] = 0 then chkE n sh (T ++ [ps[k].1, ps[k].2]) (ps.drop (k + 1)) else pairE n sh T ps[k] from fun T k hk => by rw [List.drop_eq_getElem_cons hk]; rfl)
  obtain ⟨Z, hZ⟩ : ∃ Z, chkE n sh [] ps = Z := ⟨_, rfl⟩
  rw [hZ]
  have HZ := hide hZ; clear hZ
  obtain ⟨VN, hVN⟩ : ∃ v : Int, (if Z = 0 then (ps.length : Int) else 0) = v := ⟨_, rfl⟩
  rw [hVN]
  have HV1 := hide (show Z = 0 → VN = ps.length from fun h => by rw [← hVN, if_pos h])
  have HV2 := hide (show Z ≠ 0 → VN = 0 from fun h => by rw [← hVN, if_neg h])
  clear hVN
  go_enter Try.func72, Try.ntmps72
  go_wp2_with (go_at_call 136; go_must (refine (HO.out _ (HS.out.bel gr_lasts (by go_grown))).mono ?_; rintro e w1 ⟨C, kc, rfl, hrc, hb⟩; have HRC := hide hrc; have b1 : Below w.heap.size w w1 := Below.step HB.out hb; have HBX1 := hide (HBX.out.step hb); clear hb hrc; simp only []))
  clear HO HB HBX hmk
  have z1 := b1.size
  go_loopw [28] (fun i wr => ∃ (k : Nat) (T : List Int), k ≤ ps.length ∧ i = .int .i64 k ∧ Z = chkE n sh T (ps.drop k) ∧ MapIs wr (w1.heap.size + 1) (2 * k) T ∧ Blk wr w1.heap.size 177 #[.slice C n kc, .int .i64 a, .int .i64 b] ∧ Below w1.heap.size w1 wr) (fun i _ => ps.length - (intOf i).toNat)
  case atStart => exact ⟨0, [], Nat.zero_le _, rfl, by rw [List.drop_zero, HZ.out], (by have := mapis_made (w1.alloc (.cells #[.slice C n kc, .int .i64 a, .int .i64 b] 177)); rw [World.size_alloc] at this; exact this), (Blk.new w1 _ _).alloc _, by go_grown⟩
  case round =>
    obtain ⟨k, T, hk, rfl, hz, hmp, hbu, hbel⟩ := hrel
    have HE := hide hz; clear hz
    have HMP := hide hmp
    have ym := hmp.lt
    have yu := hbu.lt
    by_cases hlt : k < ps.length
    · obtain ⟨bp, op, rfl, e1, e2⟩ := HPS.out.at2 hlt
      have hbw : Below w.heap.size w wr := b1.trans (hbel.mono z1)
      have d1 : wr.cell? ⟨bp, op + k * 2, none⟩ = some (.int .i64 ps[k].1) := (hbw.cell (p := ⟨bp, op + k * 2, none⟩) (lt_of_cell e1)).trans e1
      have d2 : wr.cell? ⟨bp, op + k * 2 + 1, none⟩ = some (.int .i64 ps[k].2) := (hbw.cell (p := ⟨bp, op + k * 2 + 1, none⟩) (lt_of_cell e2)).trans e2
      have hwfk := HWF.out _ (List.getElem_mem hlt)
      have hck := hcE.out T k hlt
      obtain ⟨p, hp⟩ : ∃ p, ps[k] = p := ⟨_, rfl⟩
      rw [hp] at d1 d2 hwfk hck
      obtain ⟨x, y⟩ := p
      dsimp only at d1 d2 hwfk hck
      have HCK := hide hck
      have c0 : wr.cell? ⟨w.heap.size, 0, none⟩ = some (.slice A n c) := (HBX1.out _ hbel).cell 0
      have y0 := (HBX1.out _ hbel).lt
      have hnn : (n : Int) ≤ 6 := by omega
      clear e1 e2 hp hck hmp
      cases hwx : withinB x 0 ((n : Int) - 1)
      · have HWX := hide hwx
        have hpe : pairE n sh T (x, y) = 6 := by unfold pairE; rw [hwx]; rfl
        have HV := hide (show Z = 6 by rw [HE.out, HCK.out, hpe]; rfl)
        clear hwx hpe
        go_wp2_with (first
          | (go_at_call 138; go_must (refine (isUser_beam _ w.heap.size A n c _ (by first | exact c0 | simp [go_sem, *]) (by omega)).mono ?_; rintro e w' ⟨rfl, rfl⟩; rw [HWX.out]; simp only [])))
        go_ret2
        exact ⟨by rw [HV.out, HV2.out (by rw [HV.out]; decide)]; rfl, by first | exact hbw.alloc hbw.size _ | go_grown⟩
      · cases hwy : withinB y 0 ((n : Int) - 1)
        · have HWX := hide hwx
          have HWY := hide hwy
          have hpe : pairE n sh T (x, y) = 6 := by unfold pairE; rw [hwx, hwy]; rfl
          have HV := hide (show Z = 6 by rw [HE.out, HCK.out, hpe]; rfl)
          clear hwx hwy hpe
          go_wp2_with (first
            | (go_at_call 138; have qq := hus1; go_must (refine (isUser_beam _ w.heap.size A n c _ (by first | exact c0 | simp [go_sem, *]) (by omega)).mono ?_; rintro e w' ⟨rfl, rfl⟩; rw [HWY.out]; simp only []))
            | (go_at_call 138; go_must (refine (isUser_beam _ w.heap.size A n c _ (by first | exact c0 | simp [go_sem, *]) (by omega)).mono ?_; rintro e w' ⟨rfl, rfl⟩; rw [HWX.out]; have hus1 := hide (Eq.refl 0); simp only [])))
          go_ret2
          exact ⟨by rw [HV.out, HV2.out (by rw [HV.out]; decide)]; rfl, by first | exact hbw.alloc hbw.size _ | go_grown⟩
        · have hxr : 0 ≤ x ∧ x ≤ (n : Int) - 1 := by simpa [withinB] using hwx
          have hyr : 0 ≤ y ∧ y ≤ (n : Int) - 1 := by simpa [withinB] using hwy
          obtain ⟨xi, rfl⟩ := Int.eq_ofNat_of_zero_le hxr.1
          obtain ⟨yi, rfl⟩ := Int.eq_ofNat_of_zero_le hyr.1
          have hxi : xi < n := by omega
          have hyi : yi < n := by omega
          have HWX := hide hwx
          have HWY := hide hwy
          have hpe : pairE n sh T ((xi : Int), (yi : Int)) = firstOf [unlessE (decide ((xi : Int) < (yi : Int))) 9, unlessE (!(T.contains (xi : Int)) && !(T.contains (yi : Int))) 26, unlessE (sh xi yi) 13] := by
            unfold pairE
            rw [hwx, hwy]
            rfl
          have HMS := hide (fun W k => HM.out C kc xi yi W k hxi hyi)
          have hlt' : decide ((xi : Int) < (yi : Int)) = decide (xi < yi) := by simp
          obtain ⟨sv, hsv⟩ : ∃ sv, sh xi yi = sv := ⟨_, rfl⟩
          rw [hsv] at HMS hpe
          rw [hlt'] at hpe
          have hw2' := hwfk.1
          have hw3' := hwfk.2
          have HST := hide (show Stay (wr.alloc (.cells #[.int .i64 (xi : Int), .int .i64 (yi : Int)] 183)) (fun w' => w'.cell? ⟨wr.heap.size, 0, none⟩ = some (.int .i64 (xi : Int)) ∧ w'.cell? ⟨wr.heap.size, 1, none⟩ = some (.int .i64 (yi : Int)) ∧ w'.cell? ⟨w1.heap.size, 0, none⟩ = some (.slice C n kc) ∧ w'.cell? ⟨w1.heap.size, 1, none⟩ = some (.int .i64 a) ∧ w'.cell? ⟨w1.heap.size, 2, none⟩ = some (.int .i64 b) ∧ (Instr.lookup 182 (.map (some (w1.heap.size + 1))) (.int .i64 (xi : Int)) false).run Try.prog w' = .ok (.bool (T.contains (xi : Int))) w' ∧ (Instr.lookup 182 (.map (some (w1.heap.size + 1))) (.int .i64 (yi : Int)) false).run Try.prog w' = .ok (.bool (T.contains (yi : Int))) w') from fun W hW => by
            have s0 : Stay (wr.alloc (.cells #[.int .i64 (xi : Int), .int .i64 (yi : Int)] 183)) (fun W => Blk W wr.heap.size 183 #[.int .i64 (xi : Int), .int .i64 (yi : Int)]) := stay_new wr _ _
            have s1 := (stay_blk hbu).alloc (.cells #[.int .i64 (xi : Int), .int .i64 (yi : Int)] 183)
            have hm := HMP.out.below ((Below.step ((Below.refl _ _).alloc (Nat.le_refl _) (.cells #[.int .i64 (xi : Int), .int .i64 (yi : Int)] 183)) hW))
            exact ⟨(s0 W hW).cell 0, (s0 W hW).cell 1, (s1 W hW).cell 0, (s1 W hW).cell 1, (s1 W hW).cell 2, hm.look hw2', hm.look hw3'⟩)
          have HMP0 := hide (HMP.out.below ((Below.refl _ _).alloc (Nat.le_refl _) (.cells #[.int .i64 (xi : Int), .int .i64 (yi : Int)] 183)))
          have HRC0 := hide (fun W (q : Below (wr.alloc (.cells #[.int .i64 (xi : Int), .int .i64 (yi : Int)] 183)).heap.size (wr.alloc (.cells #[.int .i64 (xi : Int), .int .i64 (yi : Int)] 183)) W) => HRC.out.bel cr_lasts (Below.step hbel (Below.step ((Below.refl _ _).alloc (Nat.le_refl _) (.cells #[.int .i64 (xi : Int), .int .i64 (yi : Int)] 183)) q)))
          cases htx : T.contains (xi : Int)
          · obtain ⟨ty, hty⟩ : ∃ ty, T.contains (yi : Int) = ty := ⟨_, rfl⟩
            rw [htx, hty] at HST hpe
            obtain ⟨E, hE⟩ : ∃ E, firstOf [unlessE (decide (xi < yi)) 9, unlessE (!false && !ty) 26, unlessE sv 13] = E := ⟨_, rfl⟩
            rw [hE] at hpe
            rw [hpe] at HCK
            have HEE := hide hE
            have HEE2 : Hid (firstOf [unlessE (decide (xi < yi)) 9, unlessE (!ty) 26, unlessE sv 13] = E) := hE
            clear hpe hsv hE hwx hwy hxr hyr htx hty HM
            go_wp2_with (first
              | (go_at_call 138; have qq := hus1; go_must (refine (isUser_beam _ w.heap.size A n c _ (by first | exact c0 | simp [go_sem, *]) (by omega)).mono ?_; rintro e w' ⟨rfl, rfl⟩; rw [HWY.out]; simp only []))
              | (go_at_call 138; go_must (refine (isUser_beam _ w.heap.size A n c _ (by first | exact c0 | simp [go_sem, *]) (by omega)).mono ?_; rintro e w' ⟨rfl, rfl⟩; rw [HWX.out]; have hus1 := hide (Eq.refl 0); simp only [])))
            go_region_held3 (fun w' => w'.cell? ⟨wr.heap.size, 0, none⟩ = some (.int .i64 (xi : Int)) ∧ w'.cell? ⟨wr.heap.size, 1, none⟩ = some (.int .i64 (yi : Int)) ∧ w'.cell? ⟨w1.heap.size, 0, none⟩ = some (.slice C n kc) ∧ w'.cell? ⟨w1.heap.size, 1, none⟩ = some (.int .i64 a) ∧ w'.cell? ⟨w1.heap.size, 2, none⟩ = some (.int .i64 b) ∧ (Instr.lookup 182 (.map (some (w1.heap.size + 1))) (.int .i64 (xi : Int)) false).run Try.prog w' = .ok (.bool false) w' ∧ (Instr.lookup 182 (.map (some (w1.heap.size + 1))) (.int .i64 (yi : Int)) false).run Try.prog w' = .ok (.bool ty) w') (first | exact HST.out _ (below_drew (Below.refl _ _)) | exact HST.out _ b5 | exact HST.out _ (b5.alloc b5.size _) | assumption)
              (first
                | (go_at_call 94; go_must (refine (unless_any _ _ _).mono ?_; rintro e w' ⟨rfl, rfl⟩))
                | (go_at_call 139; go_must (refine (HMS.out _ (HRC0.out _ (below_drew (Below.refl _ _)))).mono ?_; rintro e w5 ⟨rfl, hb5⟩; have b5 := Below.step (below_drew (Below.refl (wr.alloc (.cells #[.int .i64 (xi : Int), .int .i64 (yi : Int)] 183)).heap.size (wr.alloc (.cells #[.int .i64 (xi : Int), .int .i64 (yi : Int)] 183)))) hb5; clear hb5))
                | (go_at_call 93; go_must (refine (first3 _ _ _ _ _ (by simp)).mono ?_; rintro e w' ⟨rfl, rfl⟩)))
            all_goals
              generalize hW5 : World.alloc w5 _ = W5
              have b6 : Below (wr.alloc (.cells #[.int .i64 (xi : Int), .int .i64 (yi : Int)] 183)).heap.size (wr.alloc (.cells #[.int .i64 (xi : Int), .int .i64 (yi : Int)] 183)) W5 := by rw [← hW5]; exact b5.alloc b5.size _
              have b7 : Below wr.heap.size wr W5 := Below.step ((Below.refl _ _).alloc (Nat.le_refl _) (.cells #[.int .i64 (xi : Int), .int .i64 (yi : Int)] 183)) b6
              have hlt7 : wr.heap.size < W5.heap.size := by have := b6.size; simp at this; omega
              clear hW5 b5
              rw [HEE2.out]
              by_cases hE0 : E = 0
              · have hne : (E != 0) = false := by rw [bne_eq_false_iff_eq]; exact hE0
                have HZ2 := hide (show Z = chkE n sh (T ++ [(xi : Int), (yi : Int)]) (ps.drop (k + 1)) by rw [HE.out, HCK.out, if_pos hE0])
                obtain ⟨f0, f1, -, -, -, -, -⟩ := HST.out _ b6
                have hm5 := HMP0.out.below b6
                obtain ⟨w6, u1, m6, g6⟩ := hm5.drew.put hw2' (by unfold maxLen; omega)
                obtain ⟨w7, u2, m7, g7⟩ := m6.put hw3' (by unfold maxLen; omega)
                have k0 : w6.cell? ⟨wr.heap.size, 0, none⟩ = some (.int .i64 (xi : Int)) := (World.cell?_of_block (g6.block wr.heap.size hlt7 (by simp; omega))).trans f0
                have k1 : w6.cell? ⟨wr.heap.size, 1, none⟩ = some (.int .i64 (yi : Int)) := (World.cell?_of_block (g6.block wr.heap.size hlt7 (by simp; omega))).trans f1
                have BU := (((hbu.below b7 yu).drew).grown g6 (by simp)).grown g7 (by simp)
                have bel7 : Below w1.heap.size w1 w7 := ((below_drew (Below.step hbel b7)).grown g6 (Below.step hbel b7).size (fun j hj => by cases hj; omega)).grown g7 (by have := (Below.step hbel b7).size; have := g6.size; simp at this; omega) (fun j hj => by cases hj; omega)
                have M7 := hide m7
                have G7 := hide g7
                have G6 := hide g6
                clear hm5 m6 m7 g6 g7 b6 b7
                go_wp2
                go_region
                all_goals
                  go_wp2
                  go_roundw
                  case rel => exact ⟨k + 1, T ++ [(xi : Int), (yi : Int)], by omega, by go_num, HZ2.out, (by have := M7.out; rw [List.append_assoc] at this; exact this), BU, bel7⟩
                  case measure => simp [intOf]; omega
              · have hne : (E != 0) = true := by rw [bne_iff_ne]; exact hE0
                have HV := hide (show Z = E by rw [HE.out, HCK.out, if_neg hE0])
                go_wp2
                go_ret2
                exact ⟨by rw [HV.out, HV2.out (by rw [HV.out]; exact hE0)]; rfl, b1.trans ((Below.step hbel b7).mono z1)⟩
          · obtain ⟨ty, hty⟩ : ∃ ty, T.contains (yi : Int) = ty := ⟨_, rfl⟩
            rw [htx, hty] at HST hpe
            obtain ⟨E, hE⟩ : ∃ E, firstOf [unlessE (decide (xi < yi)) 9, unlessE (!true && !ty) 26, unlessE sv 13] = E := ⟨_, rfl⟩
            rw [hE] at hpe
            rw [hpe] at HCK
            have HEE2 : Hid (firstOf [unlessE (decide (xi < yi)) 9, unlessE false 26, unlessE sv 13] = E) := hE
            clear hpe hsv hE hwx hwy hxr hyr htx hty HM
            go_wp2_with (first
              | (go_at_call 138; have qq := hus1; go_must (refine (isUser_beam _ w.heap.size A n c _ (by first | exact c0 | simp [go_sem, *]) (by omega)).mono ?_; rintro e w' ⟨rfl, rfl⟩; rw [HWY.out]; simp only []))
              | (go_at_call 138; go_must (refine (isUser_beam _ w.heap.size A n c _ (by first | exact c0 | simp [go_sem, *]) (by omega)).mono ?_; rintro e w' ⟨rfl, rfl⟩; rw [HWX.out]; have hus1 := hide (Eq.refl 0); simp only [])))
            refine wp_region_held_drew (S := (fun w' => w'.cell? ⟨wr.heap.size, 0, none⟩ = some (.int .i64 (xi : Int)) ∧ w'.cell? ⟨wr.heap.size, 1, none⟩ = some (.int .i64 (yi : Int)) ∧ w'.cell? ⟨w1.heap.size, 0, none⟩ = some (.slice C n kc) ∧ w'.cell? ⟨w1.heap.size, 1, none⟩ = some (.int .i64 a) ∧ w'.cell? ⟨w1.heap.size, 2, none⟩ = some (.int .i64 b) ∧ (Instr.lookup 182 (.map (some (w1.heap.size + 1))) (.int .i64 (xi : Int)) false).run Try.prog w' = .ok (.bool true) w' ∧ (Instr.lookup 182 (.map (some (w1.heap.size + 1))) (.int .i64 (yi : Int)) false).run Try.prog w' = .ok (.bool ty) w')) (by kernel_rfl) ?_ (fun hHeld => ?_)
            · exact HST.out _ (below_drew (Below.refl _ _))
            refine wpAnyH_take (i := 0) (v := ?_) rfl (by kernel_rfl) (by kernel_rfl) (by kernel_rfl) (fun _ _ _ h => h) (Or.inl ⟨by rfl, ?_⟩) (by assumption) ?_
            rotate_left
            · intro w' hSw; (try dsimp only at hSw); go_simp; try with_reducible rfl
            try simp only [Act.put, List.setIfInBounds_toArray]
            refine wpAnyH_take (i := 1) (v := ?_) rfl (by kernel_rfl) (by kernel_rfl) (by kernel_rfl) (fun _ _ _ h => h) (Or.inl ⟨by rfl, ?_⟩) (by assumption) ?_
            rotate_left
            · intro w' hSw; (try dsimp only at hSw); go_simp; try with_reducible rfl
            try simp only [Act.put]
            refine wpAnyH_take (i := 2) (v := ?_) rfl (by kernel_rfl) (by kernel_rfl) (by kernel_rfl) (fun _ _ _ h => h) (Or.inl ⟨by rfl, ?_⟩) (by assumption) ?_
            rotate_left
            · intro w' hSw; (try dsimp only at hSw); go_simp; try with_reducible rfl
            try simp only [Act.put]
            refine wpAnyH_take (i := 3) (v := ?_) rfl (by kernel_rfl) (by kernel_rfl) (by kernel_rfl) (fun _ _ _ h => h) (Or.inl ⟨by rfl, ?_⟩) (by assumption) ?_
            rotate_left
            · intro w' hSw; (try dsimp only at hSw); go_simp; try with_reducible rfl
            try simp only [Act.put]
            refine wpAnyH_take (i := 4) (v := ?_) rfl (by kernel_rfl) (by kernel_rfl) (by kernel_rfl) (fun _ _ _ h => h) (Or.inl ⟨by rfl, ?_⟩) (by assumption) ?_
            rotate_left
            · intro w' hSw; (try dsimp only at hSw); go_simp; try with_reducible rfl
            try simp only [Act.put]
            refine wpAnyH_take (i := 6) (v := ?_) rfl (by kernel_rfl) (by kernel_rfl) (by kernel_rfl) (fun _ _ _ h => h) (Or.inl ⟨by rfl, ?_⟩) (by assumption) ?_
            rotate_left
            · intro w' hSw; (try dsimp only at hSw); go_simp; try with_reducible rfl
            try simp only [Act.put]
            refine wpAnyH_take (i := 7) (v := ?_) rfl (by kernel_rfl) (by kernel_rfl) (by kernel_rfl) (fun _ _ _ h => h) (Or.inl ⟨by rfl, ?_⟩) (by assumption) ?_
            rotate_left
            · intro w' hSw; (try dsimp only at hSw); go_simp; try with_reducible rfl
            try simp only [Act.put]
            refine wpAnyH_take (i := 8) (v := ?_) rfl (by kernel_rfl) (by kernel_rfl) (by kernel_rfl) (fun _ _ _ h => h) (Or.inl ⟨by rfl, ?_⟩) (by assumption) ?_
            rotate_left
            · intro w' hSw; (try dsimp only at hSw); go_simp; try with_reducible rfl
            try simp only [Act.put]
            refine wpAnyH_take (i := 9) (v := ?_) rfl (by kernel_rfl) (by kernel_rfl) (by kernel_rfl) (fun _ _ _ h => h) (Or.inl ⟨by rfl, ?_⟩) (by assumption) ?_
            rotate_left
            · intro w' hSw; (try dsimp only at hSw); go_simp; try with_reducible rfl
            try simp only [Act.put]
            refine wpAnyH_take (i := 10) (v := ?_) rfl (by kernel_rfl) (by kernel_rfl) (by kernel_rfl) (fun _ _ _ h => h) (Or.inl ⟨by rfl, ?_⟩) (by assumption) ?_
            rotate_left
            · intro w' hSw; (try dsimp only at hSw); go_simp; try with_reducible rfl
            try simp only [Act.put]
            refine wpAnyH_take (i := 19) (v := ?_) rfl (by kernel_rfl) (by kernel_rfl) (by kernel_rfl) (fun _ _ _ h => h) (Or.inl ⟨by rfl, ?_⟩) (by assumption) ?_
            rotate_left
            · intro w' hSw; (try dsimp only at hSw); go_simp; try with_reducible rfl
            try simp only [Act.put]
            refine wpAnyH_take (i := 20) (v := ?_) rfl (by kernel_rfl) (by kernel_rfl) (by kernel_rfl) (fun _ _ _ h => h) (Or.inl ⟨by rfl, ?_⟩) (by assumption) ?_
            rotate_left
            · intro w' hSw; (try dsimp only at hSw); go_simp; try with_reducible rfl
            try simp only [Act.put]
            refine wpAnyH_take (i := 21) (v := ?_) rfl (by kernel_rfl) (by kernel_rfl) (by kernel_rfl) (fun _ _ _ h => h) (Or.inl ⟨by rfl, ?_⟩) (by assumption) ?_
            rotate_left
            · intro w' hSw; (try dsimp only at hSw); go_simp; try with_reducible rfl
            try simp only [Act.put]
            refine wpAnyH_take (i := 22) (v := ?_) rfl (by kernel_rfl) (by kernel_rfl) (by kernel_rfl) (fun _ _ _ h => h) (Or.inl ⟨by rfl, ?_⟩) (by assumption) ?_
            rotate_left
            · intro w' hSw; (try dsimp only at hSw); go_simp; try with_reducible rfl
            try simp only [Act.put]
            refine wpAnyH_take (i := 23) (v := ?_) rfl (by kernel_rfl) (by kernel_rfl) (by kernel_rfl) (fun _ _ _ h => h) (Or.inl ⟨by rfl, ?_⟩) (by assumption) ?_
            rotate_left
            · intro w' hSw; (try dsimp only at hSw); go_simp; try with_reducible rfl
            try simp only [Act.put]
            refine wpAnyH_ready (rs := [5]) (by kernel_rfl) (by simp) ?_
            refine AllReadyH.cons rfl (fun K hK => ?_) AllReadyH.nil
            go_simp
            go_at_call 94
            refine (unless_any _ _ _).mono ?_
            rintro e w' ⟨rfl, rfl⟩
            try simp only []
            refine hK.out _ _ ?_ (fun hHeld => ?_)
            · exact HST.out _ (below_drew (Below.refl _ _))
            clear hK K
            try simp only [Act.put, List.setIfInBounds_toArray, List.set_cons_zero, List.set_cons_succ]
            refine wpAnyH_take (i := 11) (v := ?_) rfl (by kernel_rfl) (by kernel_rfl) (by kernel_rfl) (fun _ _ _ h => h) (Or.inl ⟨by rfl, ?_⟩) (by assumption) ?_
            rotate_left
            · intro w' hSw; (try dsimp only at hSw); go_simp; try with_reducible rfl
            try simp only [Act.put, List.setIfInBounds_toArray]
            refine wpAnyH_take (i := 12) (v := undef) rfl (by kernel_rfl) (by kernel_rfl) (by kernel_rfl) (fun _ _ _ h => h) (Or.inr ⟨by rfl, rfl⟩) (by assumption) ?_
            try simp only [Act.put]
            refine wpAnyH_take (i := 13) (v := undef) rfl (by kernel_rfl) (by kernel_rfl) (by kernel_rfl) (fun _ _ _ h => h) (Or.inr ⟨by rfl, rfl⟩) (by assumption) ?_
            try simp only [Act.put]
            refine wpAnyH_take (i := 14) (v := undef) rfl (by kernel_rfl) (by kernel_rfl) (by kernel_rfl) (fun _ _ _ h => h) (Or.inr ⟨by rfl, rfl⟩) (by assumption) ?_
            try simp only [Act.put]
            refine wpAnyH_take (i := 15) (v := undef) rfl (by kernel_rfl) (by kernel_rfl) (by kernel_rfl) (fun _ _ _ h => h) (Or.inr ⟨by rfl, rfl⟩) (by assumption) ?_
            try simp only [Act.put]
            refine wpAnyH_take (i := 16) (v := undef) rfl (by kernel_rfl) (by kernel_rfl) (by kernel_rfl) (fun _ _ _ h => h) (Or.inr ⟨by rfl, rfl⟩) (by assumption) ?_
            try simp only [Act.put]
            refine wpAnyH_take (i := 17) (v := ?_) rfl (by kernel_rfl) (by kernel_rfl) (by kernel_rfl) (fun _ _ _ h => h) (Or.inl ⟨by rfl, ?_⟩) (by assumption) ?_
            rotate_left
            · intro w' hSw; (try dsimp only at hSw); go_simp; try with_reducible rfl
            try simp only [Act.put]
            refine wpAnyH_ready (rs := [18]) (by kernel_rfl) (by simp) ?_
            refine AllReadyH.cons rfl (fun K hK => ?_) AllReadyH.nil
            go_simp
            go_at_call 94
            refine (unless_any _ _ _).mono ?_
            rintro e w' ⟨rfl, rfl⟩
            try simp only []
            refine hK.out _ _ ?_ (fun hHeld => ?_)
            · exact HST.out _ (below_drew (Below.refl _ _))
            clear hK K
            try simp only [Act.put, List.setIfInBounds_toArray, List.set_cons_zero, List.set_cons_succ]
            refine wpAnyH_ready (rs := [24]) (by kernel_rfl) (by simp) ?_
            refine AllReadyH.cons rfl (fun K hK => ?_) AllReadyH.nil
            go_simp
            go_at_call 139
            refine (HMS.out _ (HRC0.out _ (below_drew (Below.refl _ _)))).mono ?_
            rintro e w5 ⟨rfl, hb5⟩
            have b5 := Below.step (below_drew (Below.refl (wr.alloc (.cells #[.int .i64 (xi : Int), .int .i64 (yi : Int)] 183)).heap.size (wr.alloc (.cells #[.int .i64 (xi : Int), .int .i64 (yi : Int)] 183)))) hb5
            clear hb5
            try simp only []
            refine hK.out _ _ ?_ (fun hHeld => ?_)
            · exact HST.out _ b5
            clear hK K
            try simp only [Act.put, List.setIfInBounds_toArray, List.set_cons_zero, List.set_cons_succ]
            refine wpAnyH_ready (rs := [25]) (by kernel_rfl) (by simp) ?_
            refine AllReadyH.cons rfl (fun K hK => ?_) AllReadyH.nil
            go_simp
            go_at_call 94
            refine (unless_any _ _ _).mono ?_
            rintro e w' ⟨rfl, rfl⟩
            try simp only []
            refine hK.out _ _ ?_ (fun hHeld => ?_)
            · exact HST.out _ b5
            clear hK K
            try simp only [Act.put, List.setIfInBounds_toArray, List.set_cons_zero, List.set_cons_succ]
            refine wpAnyH_ready (rs := [26]) (by kernel_rfl) (by simp) ?_
            refine AllReadyH.cons rfl (fun K hK => ?_) AllReadyH.nil
            go_simp
            refine hK.out _ _ ?_ (fun hHeld => ?_)
            · exact HST.out _ (b5.alloc b5.size _)
            clear hK K
            try simp only [Act.put, List.setIfInBounds_toArray, List.set_cons_zero, List.set_cons_succ]
            refine wpAnyH_ready (rs := [27]) (by kernel_rfl) (by simp) ?_
            refine AllReadyH.cons rfl (fun K hK => ?_) AllReadyH.nil
            go_simp
            go_at_call 93
            refine (first3 _ _ _ _ _ (by simp)).mono ?_
            rintro e w' ⟨rfl, rfl⟩
            try simp only []
            refine hK.out _ _ ?_ (fun hHeld => ?_)
            · exact HST.out _ (b5.alloc b5.size _)
            clear hK K
            try simp only [Act.put, List.setIfInBounds_toArray, List.set_cons_zero, List.set_cons_succ]
            refine wpAnyH_take (i := 28) (v := ?_) rfl (by kernel_rfl) (by kernel_rfl) (by kernel_rfl) (fun _ _ _ h => h) (Or.inl ⟨by rfl, ?_⟩) (by assumption) ?_
            rotate_left
            · intro w' hSw; (try dsimp only at hSw); go_simp; try with_reducible rfl
            try simp only [Act.put, List.setIfInBounds_toArray]
            refine wpAnyH_done (by kernel_rfl) ?_ _
            have hE0 : E ≠ 0 := by
              rw [← HEE2.out]
              cases decide (xi < yi) <;> simp [firstOf, unlessE]
            have hne : (E != 0) = true := by rw [bne_iff_ne]; exact hE0
            have HV := hide (show Z = E by rw [HE.out, HCK.out, if_neg hE0])
            have b7 : Below wr.heap.size wr w5 := Below.step ((Below.refl _ _).alloc (Nat.le_refl _) (.cells #[.int .i64 (xi : Int), .int .i64 (yi : Int)] 183)) b5
            have z7 := b7.size
            rw [HEE2.out]
            go_wp2
            go_ret2
            exact ⟨by rw [HV.out, HV2.out (by rw [HV.out]; exact hE0)]; rfl, b1.trans (((Below.step hbel b7).alloc (Below.step hbel b7).size _).mono z1)⟩
    · obtain rfl : k = ps.length := by omega
      have HV := hide (show Z = 0 by rw [HE.out, List.drop_eq_nil_of_le (Nat.le_refl _)]; rfl)
      go_wp2
      go_ret2
      exact ⟨by rw [HV.out, HV1.out HV.out]; rfl, b1.trans (hbel.mono z1)⟩
end Go.Proofs.Ytamkannjdbodpaa
