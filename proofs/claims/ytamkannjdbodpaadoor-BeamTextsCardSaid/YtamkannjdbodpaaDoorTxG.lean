import Derived.Test.YtamkannjdbodpaaDoorTxC
import Derived.Test.YtamkannjdbodpaaDoorWvZ
namespace Go.Proofs.YtamkannjdbodpaaDoor
open Go.RowKit Go.WideShapes Go.ChangeShapes

/-! ParseBeam (reference) -/
theorem ph_dash : phO [45] = some (-1) := rfl
theorem ph_bad {x : Bs} (h : x ≠ [45]) (hl : x.length ≠ 1) : phO x = none := by
  unfold phO
  rw [if_neg h]
  match x, hl with
  | [], _ => rfl
  | [a], hl => simp at hl
  | a :: b :: r, _ => rfl
theorem ph_one {x : Bs} (h : x ≠ [45]) (hl : x.length = 1) : phO x = if 48 ≤ (x[0]'(by omega)).toNat ∧ (x[0]'(by omega)).toNat ≤ 55 then some (((x[0]'(by omega)).toNat : Int) - 48) else none := by
  match x, hl with
  | [c], _ =>
    unfold phO
    rw [if_neg h]; rfl
theorem map_snoc {α β : Type} (f : α → β) (l : List α) (k : Nat) (hk : k < l.length) : (l.take (k + 1)).map f = (l.take k).map f ++ [f l[k]] := by
  rw [List.take_succ_eq_append_getElem hk, List.map_append]; rfl
theorem bb_dot : Tryd.prog.underlying 24 = some (.struct (Tryd.prog.fieldsOf 24)) := by kernel_rfl
theorem results_bb {P : Program} {fn : Func} {p q : Tmp} {ty : TypeId} (h : fn.results = #[.cell p ty, .tmp q]) (tmps : Array Value) (w : World) (g : Nat) (t : TypeId) (cs : Array Value) (d : TypeDesc) (v : Value)
    (hp : tmps.getD p undef = .pointer (some ⟨g, 0, none⟩)) (hq : tmps.getD q undef = v) (hg : Blk w g t cs)
    (hu : P.underlying ty = some d) (hd : (match d with | .struct _ | .array _ _ => true | _ => false) = true) (hi : (P.info? ty).map (·.size) = some cs.size) :
    (results fn tmps).run P w = .ok (.tuple #[.agg cs, v]) w := by
  have hp' : tmps[p]?.getD undef = .pointer (some ⟨g, 0, none⟩) := by simpa using hp
  have hq' : tmps[q]?.getD undef = v := by simpa using hq
  simp [results, h, hp', hq', asAddr, run_loadVar_row w g t ty cs (0, 0) d hg hu hd hi]
theorem own_far_block {w : World} {base e size n c b off : Nat} {A : Option Addr} {xs : List Value} (h : w.ownsRow base e size (.slice A n c) n xs) (hA : A = some ⟨b, off, none⟩) : base ≤ b := by
  rcases h.2 with ⟨hv, _⟩ | ⟨g, cap, cur, hv, hg, _⟩
  · injection hv with h1 _ _
    rw [h1] at hA
    cases hA
  · injection hv with h1 _ _
    rw [h1] at hA
    injection hA with h2
    injection h2 with h3
    omega
theorem sl_nil (W : World) : Sl W none (iv []) := fun k hk => absurd hk (by simp [iv])
set_option maxRecDepth 100000 in
set_option maxHeartbeats 8000000 in
theorem parse_ref (s : Bs) (w : World) (hl : s.length ≤ 40) : Calls Tryd.prog 10 #[strV s] w fun e w' => ∃ C q, e = .returned (.tuple #[.agg #[.slice C (prsL s).length q], .int .i64 (prsE s)]) ∧ Sl w' C (iv (prsL s)) ∧ Below w.heap.size w w' := by
  obtain ⟨i0, hi0, hz0, hz1, hz2⟩ := info_parts int_info
  have HCUT := hide (fun W => cut_ref s W (by omega))
  obtain ⟨P, hP⟩ : ∃ P, cutL s = P := ⟨_, rfl⟩
  have HPL := hide (show P.length ≤ 41 from by rw [← hP]; have := cutL_len s; omega)
  have HE := hide (show prsE s = if P.all okP = true then (chk (P.map phV)).2 else 7 from by rw [← hP]; rfl)
  have HL := hide (show prsL s = if prsE s = 0 then P.map phV else [] from by rw [← hP]; rfl)
  rw [hP] at HCUT
  clear hP
  go_enter Tryd.func10, Tryd.ntmps10
  go_wp2_with (go_at_call 32; go_must (refine (HCUT.out _).mono ?_; rintro e w1 ⟨A4, c4, rfl, ho4, hb4⟩; have HT := hide ((stay_sl (Sl.of_own ho4)).and (stay_blk ((Blk.new w 24 #[.slice none 0 0]).below hb4 (by simp)))); have HB1 := hide (show Below w.heap.size w w1 from Below.step ((Below.refl _ _).alloc (Nat.le_refl _) _) hb4); have HW1 := hide (show w.heap.size < w1.heap.size from by have := hb4.size; simp at this; omega); clear ho4 hb4; simp only []))
  obtain ⟨m, hm⟩ : ∃ m, P.length = m := ⟨_, rfl⟩
  have HM := hide hm
  have HM41 := hide (show m ≤ 41 from by rw [← hm]; exact HPL.out)
  rw [hm]
  clear hm HPL
  go_loopw [6] (fun i wr => ∃ (k : Nat) (C : Option Addr) (q : Nat) (xs : List Int), k ≤ m ∧ i = .int .i64 k ∧ xs = (P.take k).map phV ∧ (P.take k).all okP = true ∧ Blk wr w1.heap.size 24 #[.slice C k q] ∧ wr.ownsRow w1.heap.size 3 1 (.slice C k q) k (iv xs) ∧ Below w1.heap.size w1 wr) (fun i _ => m - (intOf i).toNat)
  case atStart => exact ⟨0, none, 0, [], Nat.zero_le _, rfl, rfl, rfl, Blk.new w1 _ _, World.ownsRow_nil _ _ _ _, (Below.refl _ _).alloc (Nat.le_refl _) _⟩
  case round =>
    obtain ⟨k, C, q, xs, hk, rfl, hxs, hok, hb5, hrow, hbel⟩ := hrel
    have HXS0 := hide hxs
    have HOK0 := hide hok
    have HB5 := hide hb5
    have HROW := hide hrow
    have HBE := hide hbel
    have HM4 := hide (show m ≤ 41 from HM41.out)
    have hm41 := HM41.out
    have d0 := HB5.out.cell 0
    clear hxs hok hb5 hrow hbel
    by_cases hlt : k < m
    · have hkP : k < P.length := by rw [HM.out]; exact hlt
      have hSlv : (svL P)[k]? = some (strV P[k]) := by rw [svL, List.getElem?_map, List.getElem?_eq_getElem hkP]; rfl
      have hlS : k < (svL P).length := by rw [svL_len]; exact hkP
      obtain ⟨pb, po, hA, hc⟩ := (HT.out _ HBE.out).1 k hlS
      have HCX0 := hide (fun W (h : Below w1.heap.size w1 W) => show W.cell? ⟨pb, po + k, none⟩ = some (strV P[k]) from by
        obtain ⟨pb', po', hA', hc'⟩ := (HT.out W h).1 k hlS
        rw [hA] at hA'
        injection hA' with h1
        injection h1 with h2 h3
        rw [h2, h3, hc']
        rw [List.getElem?_eq_getElem hlS] at hSlv
        exact hSlv)
      subst hA
      have HXN := hide (show (P.take (k + 1)).map phV = xs ++ [phV P[k]] from by rw [map_snoc phV P k hkP, HXS0.out])
      have HON := hide (show (P.take (k + 1)).all okP = okP P[k] from by rw [all_takeS okP P k hkP, HOK0.out]; rfl)
      have HBAD := hide (fun h : okP P[k] = false => show prsE s = 7 ∧ prsL s = [] from by
        have e : prsE s = 7 := by rw [HE.out, all_badAt okP P k hkP h]; rfl
        exact ⟨e, by rw [HL.out, e]; rfl⟩)
      obtain ⟨x, hx⟩ : ∃ x, P[k] = x := ⟨_, rfl⟩
      rw [hx] at HCX0 HXN HON HBAD
      have HCX := hide HCX0.out
      have cx := HCX.out wr HBE.out
      have g1 : (0 : Int) ≤ (k : Int) := by omega
      have g2 : (k : Int) < (m : Int) := by omega
      have eq1 : ∀ W, (binOp .eql 9 (strV x) (.string ⟨#[45]⟩)).run Tryd.prog W = .ok (.bool (x == [45])) W := fun W => eq_str x [45] W
      have eg : ∀ op u v r z, eqGuard op 9 u v (strV r) z = pure () := fun op u v r z => eqG_str op u v r z
      have hlen := fun t W => len_str x t W
      have f2 := (HT.out _ HBE.out).2.frozen 0
      have d2 := (HT.out _ HBE.out).2.cell 0
      clear hx hc hSlv hlS hkP HCX0
      by_cases h45 : x = [45]
      · obtain ⟨pv, hpv⟩ : ∃ pv : Int, pv = -1 := ⟨_, rfl⟩
        have HXS := hide (show (P.take (k + 1)).map phV = xs ++ [pv] from by rw [HXN.out, h45, hpv]; rfl)
        have HOKN := hide (show (P.take (k + 1)).all okP = true from by rw [HON.out, h45]; rfl)
        have hq : (x == [45]) = true := by rw [h45]; rfl
        rw [hpv] at HXS
        clear h45 HBAD hpv
        go_wp2_with (at_builtin; refine wpList_append_any _ ?e1 (.tmp 22) (.tmp 23) _ ?e2 w1.heap.size 3 i0 _ 1 8 Tryd.underlying22 hi0 hz0 hz1 hz2 ?e3 ?e4 _ k (iv xs) ?e5 (HROW.out.alloc _) (wr.heap.size + 1) (some ⟨wr.heap.size, 0, none⟩) 1 1 [.int .i64 (-1)] ?e6 (reads_one wr (.int .i64 (-1)) 3) ?e7 ?e8 ?e9 ?e10 ?_; (case e1 => go_loud (rfl)); (case e2 => go_loud (rfl)); (case e3 => go_loud (rfl)); (case e4 => go_loud (omega)); (case e5 => go_loud (rfl)); (case e6 => go_loud (rfl)); (case e7 => go_loud (simp [Value.oneCell'])); (case e8 => go_loud (simp only [maxLen]; omega)); (case e9 => go_loud (omega)); (case e10 => go_loud (have := HBE.out.size; simp; omega)); go_loud (intro v' w6 hown' hgrow _); go_loud (obtain ⟨C6, q6, rfl⟩ := own_form hown'); go_loud (have HOW := hide hown'); go_loud (have HH6 := hide (show Blk w6 w1.heap.size 24 #[.slice C k q] ∧ Below w1.heap.size w1 w6 from ⟨(HB5.out.alloc (.cells #[.int .i64 (-1)] 3)).grown hgrow (fun e => own_blk_ne (HROW.out.alloc (.cells #[.int .i64 (-1)] 3)) (HB5.out.alloc (.cells #[.int .i64 (-1)] 3)) (by decide) e.symm), Below.app HBE.out HROW.out hgrow⟩)); go_loud (clear hown' hgrow); go_loud (have hc0 := HH6.out.1.cell 0); go_loud (have hf0 := HH6.out.1.frozen 0))
        clear hc0 hf0
        have HB6 := hide (HH6.out.1.set_ 0 (.slice C6 (k + 1) q6))
        have HO6 := hide (own_far (u := .slice C6 (k + 1) q6) (i := 0) HOW.out HH6.out.1 (by decide))
        have HE6 := hide (HH6.out.2.setCell (p := ⟨w1.heap.size, 0, none⟩) (Nat.le_refl _) (.slice C6 (k + 1) q6))
        go_roundw
        case rel => exact ⟨k + 1, C6, q6, xs ++ [-1], by omega, by go_num, by rw [HXS.out], HOKN.out, HB6.out, by rw [iv_append]; exact HO6.out, HE6.out⟩
        case measure => simp [intOf]; omega
      · have hq : (x == [45]) = false := by simpa using h45
        have HN45 := hide h45
        clear h45
        by_cases hl1 : x.length = 1
        · have hidx := fun W => idx_str x 0 (by omega) W
          have HPO := hide (ph_one HN45.out hl1)
          obtain ⟨c8, hc8⟩ : ∃ c8, x[0]'(by omega) = c8 := ⟨_, rfl⟩
          rw [hc8] at hidx HPO
          have hcb : c8.toNat < 256 := UInt8.toNat_lt c8
          obtain ⟨cc, hcc⟩ : ∃ cc, c8.toNat = cc := ⟨_, rfl⟩
          rw [hcc] at hidx HPO hcb
          have hidx0 : ∀ W, (Instr.index 9 (strV x) (.int .i64 0)).run Tryd.prog W = .ok (.int .u8 (cc : Int)) W := hidx
          have hl1' : ((x.length : Int) != 1) = false := by rw [hl1]; rfl
          have HL1 := hide hl1
          clear hl1 hc8 hcc hidx
          by_cases hr : 48 ≤ cc ∧ cc ≤ 55
          · obtain ⟨hr1, hr2⟩ := hr
            have HXS := hide (show (P.take (k + 1)).map phV = xs ++ [(cc : Int) - 48] from by rw [HXN.out]; unfold phV; rw [HPO.out, if_pos ⟨hr1, hr2⟩]; rfl)
            have HOKN := hide (show (P.take (k + 1)).all okP = true from by rw [HON.out]; unfold okP; rw [HPO.out, if_pos ⟨hr1, hr2⟩]; rfl)
            clear HBAD
            have wr8 : IntKind.u8.wrap ((cc : Int) - 48) = (cc : Int) - 48 := IntWalk.u8_in _ (by omega)
            have wr64 : IntKind.i64.wrap ((cc : Int) - 48) = (cc : Int) - 48 := IntWalk.i64_in _ (by omega)
            go_wp2
            have HH := hide (show Blk wr.drew w1.heap.size 24 #[.slice C k q] ∧ Below w1.heap.size w1 wr.drew from ⟨HB5.out, below_drewN HBE.out 1⟩)
            have hHeld := HH.out
            refine UpTo.start (z := 12) (S := fun W => Blk W w1.heap.size 24 #[.slice C k q] ∧ Below w1.heap.size w1 W) (by kernel_rfl) ?_
            refine UpTo.take (i := 0) 49 (v := .pointer (some ⟨w1.heap.size, 0, none⟩)) rfl rfl (by kernel_rfl) (by kernel_rfl) (by kernel_rfl) (by kernel_rfl) (fun _ _ _ h => h) hHeld (Or.inl ⟨by rfl, by intro w hSw; go_simp⟩) ?_
            try simp only [Act.put, List.setIfInBounds_toArray, List.set_cons_zero, List.set_cons_succ]
            refine UpTo.take (i := 1) 50 (v := .slice C k q) rfl rfl (by kernel_rfl) (by kernel_rfl) (by kernel_rfl) (by kernel_rfl) (fun _ _ _ h => h) hHeld (Or.inl ⟨by rfl, by intro w2 hSw; have q0 := hSw.1.cell 0; go_simp⟩) ?_
            try simp only [Act.put, List.setIfInBounds_toArray, List.set_cons_zero, List.set_cons_succ]
            refine UpTo.take (i := 2) 51 (v := .slice (some ⟨pb, po, none⟩) m c4) rfl rfl (by kernel_rfl) (by kernel_rfl) (by kernel_rfl) (by kernel_rfl) (fun _ _ _ h => h) hHeld (Or.inl ⟨by rfl, by intro w hSw; go_simp⟩) ?_
            try simp only [Act.put, List.setIfInBounds_toArray, List.set_cons_zero, List.set_cons_succ]
            refine UpTo.take (i := 3) 52 (v := .int .i64 (k : Int)) rfl rfl (by kernel_rfl) (by kernel_rfl) (by kernel_rfl) (by kernel_rfl) (fun _ _ _ h => h) hHeld (Or.inl ⟨by rfl, by intro w hSw; go_simp⟩) ?_
            try simp only [Act.put, List.setIfInBounds_toArray, List.set_cons_zero, List.set_cons_succ]
            refine UpTo.take (i := 4) 53 (v := .pointer (some ⟨pb, po + k, none⟩)) rfl rfl (by kernel_rfl) (by kernel_rfl) (by kernel_rfl) (by kernel_rfl) (fun _ _ _ h => h) hHeld (Or.inl ⟨by rfl, by intro w2 hSw; go_simp⟩) ?_
            try simp only [Act.put, List.setIfInBounds_toArray, List.set_cons_zero, List.set_cons_succ]
            refine UpTo.take (i := 5) 54 (v := strV x) rfl rfl (by kernel_rfl) (by kernel_rfl) (by kernel_rfl) (by kernel_rfl) (fun _ _ _ h => h) hHeld (Or.inl ⟨by rfl, by intro w2 hSw; have q0 := HCX.out w2 hSw.2; go_simp⟩) ?_
            try simp only [Act.put, List.setIfInBounds_toArray, List.set_cons_zero, List.set_cons_succ]
            refine UpTo.take (i := 6) 55 (v := .int .u8 (cc : Int)) rfl rfl (by kernel_rfl) (by kernel_rfl) (by kernel_rfl) (by kernel_rfl) (fun _ _ _ h => h) hHeld (Or.inl ⟨by rfl, by intro w2 hSw; go_simp⟩) ?_
            try simp only [Act.put, List.setIfInBounds_toArray, List.set_cons_zero, List.set_cons_succ]
            refine UpTo.take (i := 7) 56 (v := .int .u8 ((cc : Int) - 48)) rfl rfl (by kernel_rfl) (by kernel_rfl) (by kernel_rfl) (by kernel_rfl) (fun _ _ _ h => h) hHeld (Or.inl ⟨by rfl, by intro w2 hSw; go_simp⟩) ?_
            try simp only [Act.put, List.setIfInBounds_toArray, List.set_cons_zero, List.set_cons_succ]
            refine UpTo.take (i := 8) 57 (v := .int .i64 ((cc : Int) - 48)) rfl rfl (by kernel_rfl) (by kernel_rfl) (by kernel_rfl) (by kernel_rfl) (fun _ _ _ h => h) hHeld (Or.inl ⟨by rfl, by intro w2 hSw; go_simp⟩) ?_
            try simp only [Act.put, List.setIfInBounds_toArray, List.set_cons_zero, List.set_cons_succ]
            obtain ⟨u0, hu0⟩ : ∃ W, wr.drew = W := ⟨_, rfl⟩
            have HO := hide (show wr.drew.ownsRow w1.heap.size 3 1 (.slice C k q) k (iv xs) from HROW.out)
            rw [hu0] at HH hHeld HO ⊢
            refine UpTo.next (i := 9) (by kernel_rfl) rfl (fun K hK => ?_)
            go_simp
            have HH2 := hide (show Blk (u0.alloc (.cells #[.int .i64 ((cc : Int) - 48)] 3)) w1.heap.size 24 #[.slice C k q] ∧ Below w1.heap.size w1 (u0.alloc (.cells #[.int .i64 ((cc : Int) - 48)] 3)) from ⟨HH.out.1.alloc _, HH.out.2.alloc HH.out.2.size _⟩)
            refine hK.out _ _ (fun _ => HH2.out) ?_
            clear hK K
            try simp only [Act.put, List.setIfInBounds_toArray, List.set_cons_zero, List.set_cons_succ]
            refine UpTo.next (i := 10) (by kernel_rfl) rfl (fun K hK => ?_)
            refine step_append_any _ (by rfl) _ _ 22 (by rfl) w1.heap.size 3 i0 _ 1 8 Tryd.underlying22 hi0 hz0 hz1 hz2 rfl (by omega) _ k (iv xs) (by rfl) (HO.out.alloc (.cells #[.int .i64 ((cc : Int) - 48)] 3)) (u0.heap.size + 1) (some ⟨u0.heap.size, 0, none⟩) 1 1 [.int .i64 ((cc : Int) - 48)] (by rfl) (reads_one u0 _ _) (by simp [Value.oneCell']) (by simp only [maxLen]; omega) (by omega) HH2.out.2.size ?_
            intro v6 w6 hown hgr hor
            obtain ⟨C6, q6, rfl⟩ := own_form hown
            have HOW := hide hown
            have HH6 := hide (show Blk w6 w1.heap.size 24 #[.slice C k q] ∧ Below w1.heap.size w1 w6 from ⟨HH2.out.1.grown hgr (fun e => own_blk_ne (HO.out.alloc (.cells #[.int .i64 ((cc : Int) - 48)] 3)) HH2.out.1 (by decide) e.symm), Below.app HH.out.2 HO.out hgr⟩)
            clear hown hgr hor
            refine hK.out _ _ (fun _ => HH6.out) ?_
            clear hK K
            try simp only [Act.put, List.setIfInBounds_toArray]
            refine UpTo.next (i := 11) (by kernel_rfl) rfl (fun K hK => ?_)
            go_simp
            refine hK.out _ _ (fun _ => HH6.out) ?_
            clear hK K
            try simp only [Act.put, List.setIfInBounds_toArray, List.set_cons_zero, List.set_cons_succ]
            have hc0 := HH6.out.1.cell 0
            have hf0 := HH6.out.1.frozen 0
            refine UpTo.next (i := 12) (by kernel_rfl) rfl (fun K hK => ?_)
            go_simp
            refine hK.out _ _ (fun h => absurd rfl h) ?_
            clear hK K
            refine UpTo.done (by kernel_rfl) ?_ _
            clear hc0 hf0
            have HB6 := hide (HH6.out.1.set_ 0 (.slice C6 (k + 1) q6))
            have HO6 := hide (own_far (u := .slice C6 (k + 1) q6) (i := 0) HOW.out HH6.out.1 (by decide))
            have HE6 := hide (HH6.out.2.setCell (p := ⟨w1.heap.size, 0, none⟩) (Nat.le_refl _) (.slice C6 (k + 1) q6))
            go_wp2
            go_roundw
            case rel => exact ⟨k + 1, C6, q6, xs ++ [(cc : Int) - 48], by omega, by go_num, by rw [HXS.out], HOKN.out, HB6.out, by rw [iv_append]; exact HO6.out, HE6.out⟩
            case measure => simp [intOf]; omega
          · have HNO := hide (show okP x = false from by unfold okP; rw [HPO.out, if_neg hr]; rfl)
            by_cases hr1 : cc < 48
            · clear hr
              obtain ⟨he, hl⟩ := HBAD.out HNO.out
              have HHE := hide he
              have HHL := hide hl
              clear he hl
              go_wp2
              refine bodyPost_ret (results_bb (fn := Tryd.f10) (p := 2) (q := 3) rfl _ _ w.heap.size 24 #[.slice none 0 0] _ (.int .i64 7) rfl rfl ((HT.out _ HBE.out).2.set_ 0 (.slice none 0 0)) Tryd.underlying24 rfl (by kernel_rfl)) rfl ?_
              have q1 : Ending.returned (.tuple #[.agg #[.slice none 0 0], .int .i64 7]) = Ending.returned (.tuple #[.agg #[.slice none (prsL s).length 0], .int .i64 (prsE s)]) := by rw [HHL.out, HHE.out]; rfl
              have q2 : ∀ W, Sl W none (iv (prsL s)) := fun W => by rw [HHL.out]; exact sl_nil W
              have q3 := (Below.step HB1.out HBE.out).setCell (p := ⟨w.heap.size, 0, none⟩) (Nat.le_refl _) (.slice none 0 0)
              first
                | exact ⟨none, 0, q1, q2 _, q3⟩
                | exact ⟨none, ⟨0, q1⟩, q2 _, q3⟩
            · have hr2 : 55 < cc := by omega
              clear hr
              obtain ⟨he, hl⟩ := HBAD.out HNO.out
              have HHE := hide he
              have HHL := hide hl
              clear he hl
              go_wp2
              refine bodyPost_ret (results_bb (fn := Tryd.f10) (p := 2) (q := 3) rfl _ _ w.heap.size 24 #[.slice none 0 0] _ (.int .i64 7) rfl rfl ((HT.out _ HBE.out).2.set_ 0 (.slice none 0 0)) Tryd.underlying24 rfl (by kernel_rfl)) rfl ?_
              have q1 : Ending.returned (.tuple #[.agg #[.slice none 0 0], .int .i64 7]) = Ending.returned (.tuple #[.agg #[.slice none (prsL s).length 0], .int .i64 (prsE s)]) := by rw [HHL.out, HHE.out]; rfl
              have q2 : ∀ W, Sl W none (iv (prsL s)) := fun W => by rw [HHL.out]; exact sl_nil W
              have q3 := (Below.step HB1.out HBE.out).setCell (p := ⟨w.heap.size, 0, none⟩) (Nat.le_refl _) (.slice none 0 0)
              first
                | exact ⟨none, 0, q1, q2 _, q3⟩
                | exact ⟨none, ⟨0, q1⟩, q2 _, q3⟩
        · have hl1' : ((x.length : Int) != 1) = true := by rw [bne_iff_ne]; omega
          have HNO := hide (show okP x = false from by unfold okP; rw [ph_bad HN45.out hl1]; rfl)
          clear hl1
          obtain ⟨he, hl⟩ := HBAD.out HNO.out
          have HHE := hide he
          have HHL := hide hl
          clear he hl
          go_wp2
          refine bodyPost_ret (results_bb (fn := Tryd.f10) (p := 2) (q := 3) rfl _ _ w.heap.size 24 #[.slice none 0 0] _ (.int .i64 7) rfl rfl ((HT.out _ HBE.out).2.set_ 0 (.slice none 0 0)) Tryd.underlying24 rfl (by kernel_rfl)) rfl ?_
          have q1 : Ending.returned (.tuple #[.agg #[.slice none 0 0], .int .i64 7]) = Ending.returned (.tuple #[.agg #[.slice none (prsL s).length 0], .int .i64 (prsE s)]) := by rw [HHL.out, HHE.out]; rfl
          have q2 : ∀ W, Sl W none (iv (prsL s)) := fun W => by rw [HHL.out]; exact sl_nil W
          have q3 := (Below.step HB1.out HBE.out).setCell (p := ⟨w.heap.size, 0, none⟩) (Nat.le_refl _) (.slice none 0 0)
          first
            | exact ⟨none, 0, q1, q2 _, q3⟩
            | exact ⟨none, ⟨0, q1⟩, q2 _, q3⟩
    · obtain rfl : k = m := by omega
      have HXA := hide (show xs = P.map phV from by have h1 := HXS0.out; have h2 := HM.out; rw [← h2, List.take_length] at h1; exact h1)
      have HOA := hide (show P.all okP = true from by have h1 := HOK0.out; have h2 := HM.out; rw [← h2, List.take_length] at h1; exact h1)
      have HEE := hide (show prsE s = (chk xs).2 from by rw [HE.out, if_pos HOA.out, HXA.out])
      have HLL := hide (show prsL s = if (chk xs).2 = 0 then xs else [] from by rw [HL.out, HEE.out, HXA.out])
      have HXL := hide (show xs.length = k from by rw [HXA.out, List.length_map]; exact HM.out)
      have HBR := hide (fun W (h : Sl W C (iv xs)) => (by have := beamErr_ref C q xs W h (by rw [HXL.out]; omega); rw [HXL.out] at this; exact this : Calls Tryd.prog 13 #[.agg #[.slice C k q]] W fun e w' => e = .returned (.int .i64 (chk xs).2) ∧ Below W.heap.size W w'))
      have HSX := hide (Sl.of_own HROW.out)
      obtain ⟨E, hE⟩ : ∃ E, (chk xs).2 = E := ⟨_, rfl⟩
      rw [hE] at HEE HLL HBR
      clear hE
      by_cases hE0 : E = 0
      · subst hE0
        have HLX := hide (show prsL s = xs from by rw [HLL.out]; rfl)
        go_wp2_with (go_at_call 13; refine (HBR.out _ HSX.out).mono ?_; rintro e w2 ⟨rfl, hb2⟩; have HB2 := hide hb2; have D5 := hide (HB5.out.below hb2 HB5.out.lt); have T2 := hide ((HT.out _ (Below.step HBE.out hb2)).2); have S2 := hide (HSX.out.bel hb2); clear hb2; have d5 := D5.out.cell 0; have f2 := T2.out.frozen 0; have c2 := T2.out.cell 0; simp only [])
        refine bodyPost_ret (results_bb (fn := Tryd.f10) (p := 2) (q := 3) rfl _ _ w.heap.size 24 #[.slice C k q] _ (.int .i64 0) rfl rfl (T2.out.set_ 0 (.slice C k q)) Tryd.underlying24 rfl (by kernel_rfl)) rfl ?_
        have q1 : Ending.returned (.tuple #[.agg #[.slice C k q], .int .i64 0]) = Ending.returned (.tuple #[.agg #[.slice C (prsL s).length q], .int .i64 (prsE s)]) := by rw [HLX.out, HEE.out, HXL.out]
        have q2 : Sl (w2.setCell ⟨w.heap.size, 0, none⟩ (.slice C k q)) C (iv (prsL s)) := by
          rw [HLX.out]
          exact S2.out.setCell (fun b off e => by
            have hr := own_far_block HROW.out e
            have := HB1.out.size
            have h2 := HW1.out
            omega) _
        have q3 := (Below.step (Below.step HB1.out HBE.out) HB2.out).setCell (p := ⟨w.heap.size, 0, none⟩) (Nat.le_refl _) (.slice C k q)
        first
          | exact ⟨C, q, q1, q2, q3⟩
          | exact ⟨C, ⟨q, q1⟩, q2, q3⟩
      · have hne : (E != 0) = true := by rw [bne_iff_ne]; exact hE0
        have HHL := hide (show prsL s = [] from by rw [HLL.out, if_neg hE0])
        clear hE0
        go_wp2_with (go_at_call 13; refine (HBR.out _ HSX.out).mono ?_; rintro e w2 ⟨rfl, hb2⟩; have HB2 := hide hb2; have D5 := hide (HB5.out.below hb2 HB5.out.lt); have T2 := hide ((HT.out _ (Below.step HBE.out hb2)).2); clear hb2; have d5 := D5.out.cell 0; have f2 := T2.out.frozen 0; have c2 := T2.out.cell 0; simp only [])
        refine bodyPost_ret (results_bb (fn := Tryd.f10) (p := 2) (q := 3) rfl _ _ w.heap.size 24 #[.slice none 0 0] _ (.int .i64 E) rfl rfl (T2.out.set_ 0 (.slice none 0 0)) Tryd.underlying24 rfl (by kernel_rfl)) rfl ?_
        have q1 : Ending.returned (.tuple #[.agg #[.slice none 0 0], .int .i64 E]) = Ending.returned (.tuple #[.agg #[.slice none (prsL s).length 0], .int .i64 (prsE s)]) := by rw [HHL.out, HEE.out]; rfl
        have q2 : ∀ W, Sl W none (iv (prsL s)) := fun W => by rw [HHL.out]; exact sl_nil W
        have q3 := (Below.step (Below.step HB1.out HBE.out) HB2.out).setCell (p := ⟨w.heap.size, 0, none⟩) (Nat.le_refl _) (.slice none 0 0)
        first
          | exact ⟨none, 0, q1, q2 _, q3⟩
          | exact ⟨none, ⟨0, q1⟩, q2 _, q3⟩
end Go.Proofs.YtamkannjdbodpaaDoor
