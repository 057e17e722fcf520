import Derived.Test.YthfmjohbokpceaaWvN
import Derived.Test.YthfmjohbokpceaaWvZ
namespace Go.Proofs.Ythfmjohbokpceaa
open Go.RowKit Go.WideShapes Go.ChangeShapes

/-! the response of paths (program) -/
/-- an array of n numbers, of which the first ones are these, the others zeros -/
def numArr (l : List Nm) (n : Nat) : Array Value := (nvs (l ++ List.replicate (n - l.length) n0)).toArray
theorem numArr_size (l : List Nm) (n : Nat) (h : l.length ≤ n) : (numArr l n).size = n * 4 := by
  simp only [numArr, List.size_toArray, nvs_len, List.length_append, List.length_replicate]; omega
theorem numArr_one (l : List Nm) (n : Nat) : (numArr l n).all (·.oneCell') = true := by
  rw [Array.all_eq_true_iff_forall_mem]
  intro x hx
  exact nvs_one _ x (by simpa [numArr] using hx)
theorem set_at (a b : List Value) (v x : Value) (k : Nat) (hk : k = a.length) : (a ++ v :: b).set k x = a ++ x :: b := by
  subst hk
  rw [List.set_append_right _ _ (Nat.le_refl _), Nat.sub_self]; rfl
theorem numArr_set (l : List Nm) (n : Nat) (x : Nm) (h : l.length < n) :
    ((((numArr l n).setIfInBounds (l.length * 4) (.int .i64 x.1)).setIfInBounds (l.length * 4 + 1) (.int .i64 x.2.1)).setIfInBounds (l.length * 4 + 2) (.int .i64 x.2.2.1)).setIfInBounds (l.length * 4 + 3) (.int .i64 x.2.2.2) = numArr (l ++ [x]) n := by
  unfold numArr
  rw [show n - l.length = (n - l.length - 1) + 1 by omega, List.replicate_succ, show n - (l ++ [x]).length = n - l.length - 1 by simp; omega]
  generalize List.replicate (n - l.length - 1) n0 = r
  simp only [List.setIfInBounds_toArray]
  congr 1
  rw [nvs_append, nvs_cons, nvs_append, nvs_append]
  have hl := nvs_len l
  rw [set_at (nvs l) _ _ _ _ hl.symm]
  rw [show nvs l ++ Value.int .i64 x.1 :: Value.int .i64 n0.2.1 :: Value.int .i64 n0.2.2.1 :: Value.int .i64 n0.2.2.2 :: nvs r = (nvs l ++ [Value.int .i64 x.1]) ++ Value.int .i64 n0.2.1 :: (Value.int .i64 n0.2.2.1 :: Value.int .i64 n0.2.2.2 :: nvs r) by simp, set_at _ _ _ _ _ (by simp [hl])]
  rw [show (nvs l ++ [Value.int .i64 x.1]) ++ Value.int .i64 x.2.1 :: (Value.int .i64 n0.2.2.1 :: Value.int .i64 n0.2.2.2 :: nvs r) = (nvs l ++ [Value.int .i64 x.1, Value.int .i64 x.2.1]) ++ Value.int .i64 n0.2.2.1 :: (Value.int .i64 n0.2.2.2 :: nvs r) by simp, set_at _ _ _ _ _ (by simp [hl])]
  rw [show (nvs l ++ [Value.int .i64 x.1, Value.int .i64 x.2.1]) ++ Value.int .i64 x.2.2.1 :: (Value.int .i64 n0.2.2.2 :: nvs r) = (nvs l ++ [Value.int .i64 x.1, Value.int .i64 x.2.1, Value.int .i64 x.2.2.1]) ++ Value.int .i64 n0.2.2.2 :: nvs r by simp, set_at _ _ _ _ _ (by simp [hl])]
  simp [nvs]
/-- the response on a subcarrier, summed over the first so many paths -/
def rsum (l : List Pth) (k : Nat) : Nat → Nm := nsum fun i => tni (ent (l[i]?.getD (0, 0, 0)).2) (-(k : Int) * (l[i]?.getD (0, 0, 0)).1)
def rspL (l : List Pth) (n : Nat) : List Nm := (List.range n).map fun k => rsum l k l.length
theorem rspL_len (l : List Pth) (n : Nat) : (rspL l n).length = n := by simp [rspL]
theorem rspL_succ (l : List Pth) (n : Nat) : rspL l (n + 1) = rspL l n ++ [rsum l n l.length] := by simp [rspL, List.range_succ]
theorem pthG_ok : ∀ (l : List Pth) (last i : Int), (pthG last i l).2 = 0 → ∀ p ∈ l, rightB p = true
  | [], _, _, _ => by simp
  | q :: r, last, i, h => by
    rw [pthG] at h
    cases hq : rightB q
    · rw [hq] at h; exact absurd (show (2 : Int) = 0 from h) (by decide)
    · rw [hq, if_pos rfl] at h
      by_cases hx : last < q.1
      · rw [if_pos hx] at h
        intro p hp
        rcases List.mem_cons.1 hp with rfl | hp
        · exact hq
        · exact pthG_ok r _ _ h p hp
      · rw [if_neg hx] at h; exact absurd (show (9 : Int) = 0 from h) (by decide)
theorem right_iff {p : Pth} (h : rightB p = true) : 0 ≤ p.1 ∧ p.1 ≤ 7 ∧ -100 ≤ p.2.1 ∧ p.2.1 ≤ 100 ∧ -100 ≤ p.2.2 ∧ p.2.2 ≤ 100 := by
  unfold rightB at h
  rw [Bool.and_eq_true] at h
  have h1 := (entB_iff 100 p.2).1 h.2
  have h2 := h.1
  unfold withinB at h2
  simp only [Bool.and_eq_true, decide_eq_true_eq] at h2
  omega
theorem pthV_ok {l : List Pth} (h : (pthV l).2 = 0) : 0 < l.length ∧ l.length ≤ 6 ∧ ∀ p ∈ l, rightB p = true := by
  unfold pthV at h
  by_cases h0 : l.length = 0
  · rw [if_pos h0] at h; exact absurd h (by decide)
  · rw [if_neg h0] at h
    by_cases h6 : 6 < l.length
    · rw [if_pos h6] at h; exact absurd h (by decide)
    · rw [if_neg h6] at h
      exact ⟨by omega, by omega, pthG_ok l _ _ h⟩
theorem rsum_le {l : List Pth} (h : ∀ p ∈ l, rightB p = true) (k n : Nat) : nle (n * 100) (rsum l k n) :=
  nle_nsum n fun i _ => by
    refine nle_tni (nle_ent ?_) _
    cases hi : l[i]? with
    | none => simp
    | some p =>
      obtain ⟨hi', e⟩ := List.getElem?_eq_some_iff.1 hi
      have := right_iff (h p (by rw [← e]; exact List.getElem_mem hi'))
      simp only [Option.getD_some]
      omega

theorem results_row_tmp {P : Program} {fn : Func} {p q : Tmp} {ty : TypeId} (h : fn.results = #[.cell p ty, .tmp q]) (tmps : Array Value) (w : World) (g : Nat) (t : TypeId) (cs : Array Value) (d : TypeDesc) (v : Value)
    (hp : tmps.getD p undef = .pointer (some ⟨g, 0, none⟩)) (hq : tmps.getD q undef = v) (hg : Blk w g t cs)
    (hu : P.underlying ty = some d) (hd : (match d with | .struct _ | .array _ _ => true | _ => false) = true) (hi : (P.info? ty).map (·.size) = some cs.size) :
    (results fn tmps).run P w = .ok (.tuple #[.agg cs, v]) w := by
  have hp' : tmps[p]?.getD undef = .pointer (some ⟨g, 0, none⟩) := by simpa using hp
  have hq' : tmps[q]?.getD undef = v := by simpa using hq
  simp [results, h, hp', hq', asAddr, run_loadVar_row w g t ty cs (0, 0) d hg hu hd hi]
set_option maxRecDepth 100000 in
set_option maxHeartbeats 8000000 in
theorem responseOf_ok (A : Option Addr) (c m : Nat) (l : List Pth) (w : World) (hm : l.length = m) (hs : Sl w A (pvs l)) (h0 : (pthV l).2 = 0) :
    Calls Try.prog 65 #[.slice A m c] w fun e w' => e = .returned (.tuple #[.agg (numArr (rspL l 8) 8), .int .i64 0]) ∧ Below w.heap.size w w' := by
  obtain ⟨hl0, hl6, hr⟩ := pthV_ok h0
  have HP := hide (show ∀ W, Sl W A (pvs l) → Calls Try.prog 63 #[.slice A m c] W fun e w' => e = .returned (.tuple #[.int .i64 (pthV l).1, .int .i64 0]) ∧ Below W.heap.size W w' from fun W k => by
    have := checkPaths_wave A c l W k (by omega)
    rw [hm, h0] at this
    exact this)
  have HRT := hide (show ∀ k (hk : k < l.length), rightB l[k] = true from fun k hk => hr _ (List.getElem_mem hk))
  have HLE := hide (fun k n => rsum_le hr k n)
  have HS := hide hs
  have HM := hide hm
  have hm6 : m ≤ 6 := by omega
  have HSTEP := hide (show ∀ k n (hn : n < l.length), rsum l k (n + 1) = nadd (rsum l k n) (tni (ent l[n].2) (-(k : Int) * l[n].1)) from fun k n hn => by
    show nadd (rsum l k n) (tni (ent (l[n]?.getD (0, 0, 0)).2) (-(k : Int) * (l[n]?.getD (0, 0, 0)).1)) = _
    rw [List.getElem?_eq_getElem hn]; rfl)
  have HFULL := hide (rspL_succ l)
  have HLEN := hide (rspL_len l)
  clear hs hl0 hl6 hr h0 hm
  go_enter Try.func65, Try.ntmps65
  go_wp2_with (go_at_call 63; go_must (refine (HP.out _ (HS.out.bel (by go_grown))).mono ?_; rintro e w1 ⟨rfl, hb1⟩; have b1 : Below w.heap.size w w1 := Below.step (by go_grown) hb1; have hR := hide (Blk.bel2 hb1 (show Blk _ w.heap.size 96 (numArr [] 8) from (Blk.new w _ _).alloc _) (by simp <;> omega)); have hO := hide (Blk.bel2 hb1 (show Blk _ (w.heap.size + 1) 96 (numArr [] 8) from Blk.newN _ _ _ (by simp)) (by simp <;> omega)); clear hb1; simp only []))
  go_loopw [20] (fun i wr => ∃ k : Nat, k ≤ 8 ∧ i = .int .i64 k ∧ Blk wr w.heap.size 96 (numArr [] 8) ∧ Blk wr (w.heap.size + 1) 96 (numArr (rspL l k) 8) ∧ Below w.heap.size w wr) (fun i _ => 8 - (intOf i).toNat)
  case atStart => exact ⟨0, by omega, rfl, hR.out, hO.out, b1⟩
  case round =>
    clear hR hO b1
    obtain ⟨k, hk, rfl, hR, hO, hbel⟩ := hrel
    by_cases hlt : k < 8
    · have hd : decide ((k : Int) < 8) = true := by rw [decide_eq_true_iff]; omega
      have HR := hide hR
      have HO := hide hO
      have hbz := hbel.size
      have hly := hO.lt
      clear hR hO
      go_wp2
      obtain ⟨wo, rfl⟩ : ∃ wo : World, wo = wr := ⟨_, rfl⟩
      go_loopw [25] (fun i wr => ∃ j : Nat, j ≤ m ∧ i = .int .i64 j ∧ Blk wr wo.heap.size 162 (ncells (rsum l k j)) ∧ Below wo.heap.size wo wr) (fun i _ => m - (intOf i).toNat)
      case atStart => exact ⟨0, Nat.zero_le _, rfl, Blk.new wo 162 (ncells n0), by go_grown⟩
      case round =>
        obtain ⟨j, hj, rfl, hT, hbo⟩ := hrel
        have hbo1 : Below w.heap.size w wr := Below.step hbel hbo
        have hboz := hbo.size
        have hTl := hT.lt
        by_cases hlt2 : j < m
        · have hjl : j < l.length := by rw [HM.out]; exact hlt2
          obtain ⟨b, off, rfl, e0, e1, e2⟩ := HS.out.at3 hjl
          have d0 := (hbo1.cell (p := ⟨b, off + j * 3, none⟩) (lt_of_cell e0)).trans e0
          have d1 := (hbo1.cell (p := ⟨b, off + j * 3 + 1, none⟩) (lt_of_cell e1)).trans e1
          have d2 := (hbo1.cell (p := ⟨b, off + j * 3 + 2, none⟩) (lt_of_cell e2)).trans e2
          have hst := HSTEP.out k j hjl
          have hrt := right_iff (HRT.out j hjl)
          have hle := HLE.out k j
          obtain ⟨p, hp⟩ : ∃ p, l[j] = p := ⟨_, rfl⟩
          rw [hp] at d0 d1 d2 hst hrt
          obtain ⟨S, hS⟩ : ∃ S, rsum l k j = S := ⟨_, rfl⟩
          rw [hS] at hT hst hle
          obtain ⟨r1, r2, r3, r4, r5, r6⟩ := hrt
          have hen := hide (nle_ent (m := 4000000000000000000) (g := p.2) (by omega))
          have HTN := hide (nle_tni hen.out (-(k : Int) * p.1))
          have HSL := hide (nle_mono hle (show (j : Int) * 100 ≤ 4000000000000000000 by omega))
          have hm1 := mul_le_size (a := -(k : Int)) (b := p.1) (m := 8) (n := 7) (by omega) (by omega) (by omega) (by omega)
          obtain ⟨m1, m2⟩ := hm1
          have HTU := hide (fun (e : Int) (he : e = -(k : Int) * p.1) W => he ▸ turned_wave (ent p.2) (-(k : Int) * p.1) W hen.out (by omega) (by omega))
          have HST := hide hst
          have g1 : IntKind.i64.wrap (-(k : Int)) = -(k : Int) := IntWalk.i64_in _ (by omega)
          have g2 : IntKind.i64.wrap (-(k : Int) * p.1) = -(k : Int) * p.1 := IntWalk.i64_in _ (by omega)
          have hT1 := hT.alloc (.cells #[.int .i64 p.1, .int .i64 p.2.1, .int .i64 p.2.2] 32)
          have hP1 := Blk.new wr 32 #[.int .i64 p.1, .int .i64 p.2.1, .int .i64 p.2.2]
          have HT1 := hide hT1
          have HP1 := hide hP1
          obtain ⟨y0, y1, y2, y3, _, _, _, _⟩ := hT.n4
          have xne : ¬ wo.heap.size = wr.heap.size := by omega
          clear hp hS hle hst hT e0 e1 e2 hT1 hP1 HSTEP HRT HLE HFULL HLEN HP
          go_wp2
          have hH0 : Blk (wr.alloc (.cells #[.int .i64 p.1, .int .i64 p.2.1, .int .i64 p.2.2] 32)).drew wo.heap.size 162 (ncells S) ∧ Blk (wr.alloc (.cells #[.int .i64 p.1, .int .i64 p.2.1, .int .i64 p.2.2] 32)).drew wr.heap.size 32 #[.int .i64 p.1, .int .i64 p.2.1, .int .i64 p.2.2] := ⟨HT1.out, HP1.out⟩
          have HH0 := hide hH0
          clear hH0 y0 y1 y2 y3
          refine UpTo.start (z := 11) (S := fun w' => Blk w' wo.heap.size 162 (ncells S) ∧ Blk w' wr.heap.size 32 #[.int .i64 p.1, .int .i64 p.2.1, .int .i64 p.2.2]) (by kernel_rfl) ?_
          refine UpTo.take (i := 0) 29 (v := nv S) rfl rfl (by kernel_rfl) (by kernel_rfl) (by kernel_rfl) (by kernel_rfl) (fun _ _ _ h => h) HH0.out (Or.inl ⟨by rfl, by intro w hSw; obtain ⟨q0, q1, q2, q3, _, _, _, _⟩ := hSw.1.n4; go_simp⟩) ?_
          try simp only [Act.put, List.setIfInBounds_toArray, List.set_cons_zero, List.set_cons_succ]
          refine UpTo.take (i := 1) 30 (v := .pointer (some ⟨wr.heap.size, 1, none⟩)) rfl rfl (by kernel_rfl) (by kernel_rfl) (by kernel_rfl) (by kernel_rfl) (fun _ _ _ h => h) HH0.out (Or.inl ⟨by rfl, by intro w hSw; go_simp⟩) ?_
          try simp only [Act.put, List.setIfInBounds_toArray, List.set_cons_zero, List.set_cons_succ]
          refine UpTo.take (i := 2) 31 (v := .agg #[.int .i64 p.2.1, .int .i64 p.2.2]) rfl rfl (by kernel_rfl) (by kernel_rfl) (by kernel_rfl) (by kernel_rfl) (fun _ _ _ h => h) HH0.out (Or.inl ⟨by rfl, by intro w hSw; have q1 : w.cell? ⟨wr.heap.size, 1, none⟩ = some (.int .i64 p.2.1) := hSw.2.cell 1; have q2 : w.cell? ⟨wr.heap.size, 2, none⟩ = some (.int .i64 p.2.2) := hSw.2.cell 2; go_simp⟩) ?_
          try simp only [Act.put, List.setIfInBounds_toArray, List.set_cons_zero, List.set_cons_succ]
          refine UpTo.take (i := 4) 33 (v := .int .i64 (k : Int)) rfl rfl (by kernel_rfl) (by kernel_rfl) (by kernel_rfl) (by kernel_rfl) (fun _ _ _ h => h) HH0.out (Or.inl ⟨by rfl, by intro w hSw; go_simp⟩) ?_
          try simp only [Act.put, List.setIfInBounds_toArray, List.set_cons_zero, List.set_cons_succ]
          refine UpTo.take (i := 5) 34 (v := .int .i64 (-(k : Int))) rfl rfl (by kernel_rfl) (by kernel_rfl) (by kernel_rfl) (by kernel_rfl) (fun _ _ _ h => h) HH0.out (Or.inl ⟨by rfl, by intro w hSw; go_simp⟩) ?_
          try simp only [Act.put, List.setIfInBounds_toArray, List.set_cons_zero, List.set_cons_succ]
          refine UpTo.take (i := 6) 35 (v := .pointer (some ⟨wr.heap.size, 0, none⟩)) rfl rfl (by kernel_rfl) (by kernel_rfl) (by kernel_rfl) (by kernel_rfl) (fun _ _ _ h => h) HH0.out (Or.inl ⟨by rfl, by intro w hSw; go_simp⟩) ?_
          try simp only [Act.put, List.setIfInBounds_toArray, List.set_cons_zero, List.set_cons_succ]
          refine UpTo.take (i := 7) 36 (v := .int .i64 p.1) rfl rfl (by kernel_rfl) (by kernel_rfl) (by kernel_rfl) (by kernel_rfl) (fun _ _ _ h => h) HH0.out (Or.inl ⟨by rfl, by intro w hSw; have q1 : w.cell? ⟨wr.heap.size, 0, none⟩ = some (.int .i64 p.1) := hSw.2.cell 0; go_simp⟩) ?_
          try simp only [Act.put, List.setIfInBounds_toArray, List.set_cons_zero, List.set_cons_succ]
          refine UpTo.take (i := 8) 37 (v := .int .i64 (-(k : Int) * p.1)) rfl rfl (by kernel_rfl) (by kernel_rfl) (by kernel_rfl) (by kernel_rfl) (fun _ _ _ h => h) HH0.out (Or.inl ⟨by rfl, by intro w hSw; go_simp⟩) ?_
          try simp only [Act.put, List.setIfInBounds_toArray, List.set_cons_zero, List.set_cons_succ]
          refine UpTo.next (i := 3) (by kernel_rfl) rfl (fun K hK => ?_)
          go_simp
          refine (whole_wave p.2 _).mono ?_
          rintro e w1 ⟨rfl, hb1⟩
          have c1 : Below wo.heap.size wo w1 := Below.step (by go_grown) hb1
          have HH1 := hide (show Blk w1 wo.heap.size 162 (ncells S) ∧ Blk w1 wr.heap.size 32 #[.int .i64 p.1, .int .i64 p.2.1, .int .i64 p.2.2] from ⟨HH0.out.1.below hb1 HH0.out.1.lt, HH0.out.2.below hb1 HH0.out.2.lt⟩)
          clear hb1
          simp only []
          refine hK.out _ _ (fun _ => HH1.out) ?_
          clear hK K
          try simp only [Act.put, List.setIfInBounds_toArray, List.set_cons_zero, List.set_cons_succ]
          refine UpTo.next (i := 9) (by kernel_rfl) rfl (fun K hK => ?_)
          go_simp
          refine (HTU.out _ (by first | rfl | (simp; done) | grind) _).mono ?_
          rintro e w2 ⟨rfl, hb2⟩
          have c2 : Below wo.heap.size wo w2 := Below.step c1 hb2
          have HH2 := hide (show Blk w2 wo.heap.size 162 (ncells S) ∧ Blk w2 wr.heap.size 32 #[.int .i64 p.1, .int .i64 p.2.1, .int .i64 p.2.2] from ⟨HH1.out.1.below hb2 HH1.out.1.lt, HH1.out.2.below hb2 HH1.out.2.lt⟩)
          clear hb2
          simp only []
          refine hK.out _ _ (fun _ => HH2.out) ?_
          clear hK K
          try simp only [Act.put, List.setIfInBounds_toArray, List.set_cons_zero, List.set_cons_succ]
          refine UpTo.next (i := 10) (by kernel_rfl) rfl (fun K hK => ?_)
          go_simp
          refine (plus_wave S _ _ HSL.out HTN.out).mono ?_
          rintro e w3 ⟨rfl, hb3⟩
          have c3 : Below wo.heap.size wo w3 := Below.step c2 hb3
          have HT4 := hide (HH2.out.1.below hb3 HH2.out.1.lt)
          have HH3 := hide (show Blk w3 wo.heap.size 162 (ncells S) ∧ Blk w3 wr.heap.size 32 #[.int .i64 p.1, .int .i64 p.2.1, .int .i64 p.2.2] from ⟨HT4.out, HH2.out.2.below hb3 HH2.out.2.lt⟩)
          clear hb3
          simp only []
          refine hK.out _ _ (fun _ => HH3.out) ?_
          clear hK K
          try simp only [Act.put, List.setIfInBounds_toArray, List.set_cons_zero, List.set_cons_succ]
          obtain ⟨u0, u1, u2, u3, f0, f1, f2, f3⟩ := HT4.out.n4
          refine UpTo.next (i := 11) (by kernel_rfl) rfl (fun K hK => ?_)
          go_simp
          refine hK.out _ _ (fun h => absurd rfl h) ?_
          clear hK K
          refine UpTo.done (by kernel_rfl) ?_ _
          go_wp2
          go_roundw
          case rel => exact ⟨j + 1, by omega, by go_num, by rw [HST.out]; exact (((HT4.out.set_ 0 _).set_ 1 _).set_ 2 _).set_ 3 _, by go_grown⟩
          case measure => simp [intOf]; omega
        · have hjm : j = m := by omega
          have hT' : Blk wr wo.heap.size 162 (ncells (rsum l k l.length)) := by rw [HM.out, ← hjm]; exact hT
          have hfull := HFULL.out k
          obtain ⟨X, hX⟩ : ∃ X, rsum l k l.length = X := ⟨_, rfl⟩
          rw [hX] at hT' hfull
          have HF := hide hfull
          have hlen := HLEN.out k
          have hset := numArr_set (rspL l k) 8 X (by omega)
          rw [hlen, ← HF.out] at hset
          have hsz := numArr_size (rspL l k) 8 (by omega)
          have HSET := hide hset
          have HSZ := hide hsz
          have HLK := hide hlen
          have HO1 := hide (HO.out.below hbo hly)
          have HR1 := hide (HR.out.below hbo HR.out.lt)
          obtain ⟨y0, y1, y2, y3, _, _, _, _⟩ := hT'.n4
          have HTO := hide (fun W => told_wave X W)
          have HB1 := hide hbo1
          clear hX hfull hset hsz hlen hT hT' hjm
          go_wp2_with (go_at_call 129; go_must (refine (HTO.out _).mono ?_; rintro e w2 ⟨rfl, hb2⟩; have c2 : Below w.heap.size w w2 := Below.step HB1.out hb2; have HO2 := hide (HO1.out.below hb2 HO1.out.lt); have HR2 := hide (HR1.out.below hb2 HR1.out.lt); have hl2 := HO2.out.lt; have v0 := HO2.out.cell (k * 4); have v1 := HO2.out.cell (k * 4 + 1); have v2 := HO2.out.cell (k * 4 + 2); have v3 := HO2.out.cell (k * 4 + 3); rw [Array.getElem?_eq_getElem (by rw [HSZ.out]; omega)] at v0 v1 v2 v3; have f0 := HO2.out.frozen (k * 4); have f1 := HO2.out.frozen (k * 4 + 1); have f2 := HO2.out.frozen (k * 4 + 2); have f3 := HO2.out.frozen (k * 4 + 3); clear hb2; simp only []))
          go_roundw
          case rel =>
            refine ⟨k + 1, by omega, by go_num, ?_, ?_, by go_grown⟩
            · exact (((HR2.out.far (by simp) _).far (by simp) _).far (by simp) _).far (by simp) _
            · have := (((HO2.out.set_ (k * 4) (.int .i64 X.1)).set_ (k * 4 + 1) (.int .i64 X.2.1)).set_ (k * 4 + 2) (.int .i64 X.2.2.1)).set_ (k * 4 + 3) (.int .i64 X.2.2.2)
              rw [HSET.out] at this
              exact this
          case measure => simp [intOf]; omega
    · have hd : decide ((k : Int) < 8) = false := by rw [decide_eq_false_iff_not]; omega
      have hk8 : k = 8 := by omega
      have hO' : Blk wr (w.heap.size + 1) 96 (numArr (rspL l 8) 8) := by rw [hk8] at hO; exact hO
      have HSZ := hide (numArr_size (rspL l 8) 8 (by rw [HLEN.out]; omega))
      have HSZ0 := hide (numArr_size [] 8 (by simp))
      have HONE := hide (numArr_one (rspL l 8) 8)
      obtain ⟨cs, hcs⟩ : ∃ cs, numArr (rspL l 8) 8 = cs := ⟨_, rfl⟩
      obtain ⟨z0, hz0⟩ : ∃ cs, numArr [] 8 = cs := ⟨_, rfl⟩
      rw [hcs] at hO' HSZ HONE
      rw [hz0] at hR HSZ0
      have HCS := hide hcs
      have HO := hide hO'
      have HR := hide hR
      clear hcs hz0 hk8 hO hO' hR
      go_wp2_with (first
        | refine wpList_load_row rfl 96 (.tmp 4) rfl (w.heap.size + 1) rfl 96 cs (0, 0) _ HO.out Try.underlying96 rfl (by rw [HSZ.out]; kernel_rfl) ?_
        | refine wpList_store_row rfl 96 (.tmp 2) (.tmp 46) rfl w.heap.size cs rfl rfl 96 z0 HR.out (by rw [HSZ.out]; kernel_rfl) (by rw [HSZ.out, HSZ0.out]) HONE.out ?_)
      exact bodyPost_ret (results_row_tmp rfl _ _ w.heap.size 96 cs _ (.int .i64 0) rfl rfl (HR.out.row cs) Try.underlying96 rfl (by rw [HSZ.out]; kernel_rfl)) rfl ⟨by rw [HCS.out], Below.row hbel (Nat.le_refl _) _⟩
end Go.Proofs.Ythfmjohbokpceaa
