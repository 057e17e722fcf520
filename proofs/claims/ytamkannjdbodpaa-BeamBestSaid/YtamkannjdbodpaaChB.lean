import Derived.Test.YtamkannjdbodpaaChA
import Derived.Test.YtamkannjdbodpaaEqs
namespace Go.Proofs.Ytamkannjdbodpaa
open Go.RowKit Go.WideShapes Go.ChangeShapes

theorem ga_under : Try.prog.underlying 90 = some (.struct (Try.prog.fieldsOf 90)) := by kernel_rfl
theorem ga_held : Try.prog.stoodInHeld 90 = false := by kernel_rfl
set_option maxRecDepth 100000 in
theorem ga_neq (a b a' b' : Int) (w : World) : (binOp .neq 90 (.agg #[.int .i64 a, .int .i64 b]) (.agg #[.int .i64 a', .int .i64 b'])).run Try.prog w = .ok (.bool (!(a == a' && b == b'))) w := by
  rw [run_neq_struct, run_equalIn_agg (d := 9999) (ht := ga_under) (hp := ga_held)]
  simp [go_sem]
  (repeat' split) <;> simp_all
set_option maxRecDepth 100000 in
theorem ga_eql (a b a' b' : Int) (w : World) : (binOp .eql 90 (.agg #[.int .i64 a, .int .i64 b]) (.agg #[.int .i64 a', .int .i64 b'])).run Try.prog w = .ok (.bool (a == a' && b == b')) w := by
  rw [run_eql_struct, run_equalIn_agg (d := 9999) (ht := ga_under) (hp := ga_held)]
  simp [go_sem]
  (repeat' split) <;> simp_all
theorem isZero1_beam (z : Int × Int) (w : World) : Calls Try.prog 174 #[.agg #[.int .i64 z.1, .int .i64 z.2]] w fun e w' => e = .returned (.bool (someG z)) ∧ Below w.heap.size w w' := by
  have hq := ga_neq z.1 z.2 0 0
  have hs : someG z = (!(z.1 == 0) || !(z.2 == 0)) := by
    obtain ⟨a, b⟩ := z
    unfold someG
    by_cases h1 : a = 0 <;> by_cases h2 : b = 0 <;> simp [h1, h2]
  have HS := hide hs; clear hs
  go_enter Try.func174, Try.ntmps174
  go_wp2
  go_ret
  exact ⟨by rw [HS.out]; rfl, by go_grown⟩
theorem isZero_beam (A : Option Addr) (c : Nat) (h : List (Int × Int)) (w : World) (hs : Sl w A (gv h)) (hl : h.length ≤ 1000) :
    Calls Try.prog 158 #[.slice A h.length c] w fun e w' => e = .returned (.bool (!(h.any someG))) ∧ Below w.heap.size w w' := by
  have hK := hide (enters Try.func174 (by kernel_rfl) rfl)
  have HS := hide hs; clear hs
  go_enter Try.func158, Try.ntmps158
  go_wp2_with (go_at_call 160; go_must (refine (containsFuncG 174 someG A c h _ hK.out (fun z W => isZero1_beam z W) HS.out hl).mono ?_; rintro e w1 ⟨rfl, hb1⟩; simp only []))
  go_ret
  exact ⟨rfl, hb1⟩
set_option maxRecDepth 100000 in
theorem channelErr_beam (A : Option Addr) (c : Nat) (h : List (Int × Int)) (w : World) (hs : Sl w A (gv h)) (hl : h.length ≤ 1000) :
    Calls Try.prog 130 #[.slice A h.length c] w fun e w' => e = .returned (.int .i64 (chE h)) ∧ Below w.heap.size w w' := by
  have hK := hide (enters Try.func161 (by kernel_rfl) rfl)
  have HS := hide hs; clear hs
  have HE := hide (show chE h = firstOf [unlessE (decide (0 < (h.length : Int))) 10, unlessE (decide ((h.length : Int) ≤ 8)) 8, unlessE (!(h.any greatG)) 2] from rfl)
  go_enter Try.func130, Try.ntmps130
  go_wp2_with (first
    | (go_at_call 160; go_must (refine (containsFuncG 161 greatG A c h _ hK.out (fun z W => channelErr1_beam z W) HS.out hl).mono ?_; rintro e w1 ⟨rfl, hb1⟩; simp only []))
    | (go_at_call 94; refine (unless_any _ _ _).mono ?_; rintro e w' ⟨rfl, rfl⟩; simp only [])
    | (go_at_call 93; refine (first3 _ _ _ _ _ (by simp)).mono ?_; rintro e w' ⟨rfl, rfl⟩; simp only []))
  go_ret
  exact ⟨by rw [HE.out]; first | rfl | simp, by first | exact Below.step hb1 (by go_grown) | go_grown⟩

/-- complex numbers that stand for whole ones, one cell each -/
def ChIs : List Value → List (Int × Int) → Prop
  | [], [] => True
  | v :: r, z :: h => (∃ x y, v = .complex .f64 x y ∧ IsC x y z) ∧ ChIs r h
  | _, _ => False
theorem ChIs.len : ∀ {xs : List Value} {h : List (Int × Int)}, ChIs xs h → xs.length = h.length
  | [], [], _ => rfl
  | _ :: _, [], h => h.elim
  | [], _ :: _, h => h.elim
  | _ :: _, _ :: _, ⟨_, hr⟩ => by simp [ChIs.len hr]
theorem ChIs.snoc : ∀ {xs : List Value} {h : List (Int × Int)} {x y : Nat} {z : Int × Int}, ChIs xs h → IsC x y z → ChIs (xs ++ [.complex .f64 x y]) (h ++ [z])
  | [], [], x, y, _, _, hz => ⟨⟨x, y, rfl, hz⟩, trivial⟩
  | _ :: _, [], _, _, _, h, _ => h.elim
  | [], _ :: _, _, _, _, h, _ => h.elim
  | _ :: _, _ :: _, _, _, _, ⟨hv, hr⟩, hz => ⟨hv, ChIs.snoc hr hz⟩
theorem ChIs.get : ∀ {xs : List Value} {h : List (Int × Int)}, ChIs xs h → ∀ k (hk : k < h.length), ∃ x y, xs[k]? = some (.complex .f64 x y) ∧ IsC x y h[k]
  | [], [], _, k, hk => absurd hk (by simp)
  | _ :: _, [], h, _, _ => h.elim
  | [], _ :: _, h, _, _ => h.elim
  | _ :: _, _ :: _, ⟨⟨x, y, e, hz⟩, _⟩, 0, _ => ⟨x, y, by simp [e], hz⟩
  | _ :: _, _ :: _, ⟨_, hr⟩, k + 1, hk => by
    obtain ⟨x, y, h1, h2⟩ := ChIs.get hr k (by simpa using hk)
    exact ⟨x, y, by simpa using h1, by simpa using h2⟩
/-- parts of at most m in size, all of them -/
def Small (m : Int) (h : List (Int × Int)) : Prop := ∀ z ∈ h, cle m z

theorem cx_info : (Try.prog.info? 165).map (fun i => (i.zero, i.size, i.bytes)) = some (some (.complex .f64 0 0), 1, 16) := by kernel_rfl
theorem cx_float : Try.prog.underlying 198 = some (.float .f64) := by kernel_rfl
theorem cx_int : (Try.prog.underlying 3).isSome = true := by kernel_rfl
theorem cx_chan : Try.prog.underlying 162 = some (.slice 165) := by kernel_rfl

set_option maxRecDepth 100000 in
set_option maxHeartbeats 2000000 in
theorem channelOf_beam (A : Option Addr) (c : Nat) (h : List (Int × Int)) (w : World) (hs : Sl w A (gv h)) (hl : h.length ≤ 100) :
    Calls Try.prog 131 #[.slice A h.length c] w fun e w' => ∃ B k xs, e = .returned (.slice B h.length k) ∧ (Small 9000000000000 h → ChIs xs h) ∧ w'.ownsRow w.heap.size 165 1 (.slice B h.length k) h.length xs ∧ Below w.heap.size w w' := by
  obtain ⟨i0, hi0, hz0, hz1, hz2⟩ := info_parts cx_info
  have HS := hide hs; clear hs
  have hcv : ∀ (n : Int) (w : World), (convert 3 198 (.int .i64 n)).run Try.prog w = .ok (.float .f64 (floatOfInt .f64 n)) w := fun n w => run_convert_int_float w 3 198 .i64 .f64 n cx_int cx_float
  go_enter Try.func131, Try.ntmps131
  go_wp2
  go_loopw [3, 8] (fun o i wr => ∃ (k : Nat) (B : Option Addr) (c1 : Nat) (xs : List Value), k ≤ h.length ∧ i = .int .i64 k ∧ o = .slice B k c1 ∧ (Small 9000000000000 h → ChIs xs (h.take k)) ∧ wr.ownsRow w.heap.size 165 1 (.slice B k c1) k xs ∧ Below w.heap.size w wr) (fun _ i _ => h.length - (intOf i).toNat)
  case atStart => exact ⟨0, none, 0, [], Nat.zero_le _, rfl, rfl, (fun _ => trivial), World.ownsRow_nil _ _ _ _, Below.refl _ _⟩
  case round =>
    obtain ⟨k, B, c1, xs, hk, rfl, rfl, hch, hrow, hbel⟩ := hrel
    by_cases hlt : k < h.length
    · obtain ⟨b, off, rfl, e1, e2⟩ := HS.out.at2 hlt
      have d1 : wr.cell? ⟨b, off + k * 2, none⟩ = some (.int .i64 h[k].1) := (hbel.cell (p := ⟨b, off + k * 2, none⟩) (lt_of_cell e1)).trans e1
      have d2 : wr.cell? ⟨b, off + k * 2 + 1, none⟩ = some (.int .i64 h[k].2) := (hbel.cell (p := ⟨b, off + k * 2 + 1, none⟩) (lt_of_cell e2)).trans e2
      have htk := hide (List.take_succ_eq_append_getElem hlt)
      have hz := hide (show Small 9000000000000 h → IsC (floatOfInt .f64 h[k].1) (floatOfInt .f64 h[k].2) h[k] from fun hb => by
        have hsm := hb h[k] (List.getElem_mem hlt)
        exact ⟨fint_is _ (by unfold cle at hsm; omega), fint_is _ (by unfold cle at hsm; omega)⟩)
      have HCH := hide hch
      have hbz := hbel.size
      clear e1 e2 hch
      obtain ⟨u, hu⟩ : ∃ u, h[k].1 = u := ⟨_, rfl⟩
      obtain ⟨v, hv⟩ : ∃ v, h[k].2 = v := ⟨_, rfl⟩
      rw [hu] at d1 hz
      rw [hv] at d2 hz
      clear hu hv
      go_wp2_with (at_builtin; go_must (
                   refine wpList_append_own _ rfl _ _ 162 rfl w.heap.size 165 i0 (.complex .f64 0 0) 1 16 cx_chan hi0 hz0 hz1 hz2 rfl (by decide) _ _ _ rfl ((hrow.alloc _).alloc _) ⟨wr.heap.size + 1, 0, none⟩ 1 1 [.complex .f64 (floatOfInt .f64 u) (floatOfInt .f64 v)] rfl rfl (by have := cell_one_new (wr.alloc (.cells #[.int .i64 u, .int .i64 v] 90)) (.complex .f64 (floatOfInt .f64 u) (floatOfInt .f64 v)) 165; simpa using this) (by simp [Value.oneCell']) (by simp only [maxLen]; omega) (by omega) (by simp; omega) ?_
                   intro v' w1 hown' hgrow _
                   obtain ⟨B2, k2, rfl⟩ := own_form hown'
                   have hbel' := Below.app (hbel.alloc hbz _) (hrow.alloc _) hgrow))
      go_roundw
      case rel => exact ⟨k + 1, B2, k2, _, by omega, by go_num, rfl, (fun hb => by rw [htk.out]; exact (HCH.out hb).snoc (hz.out hb)), hown', hbel'⟩
      case measure => simp [intOf]; omega
    · obtain rfl : k = h.length := by omega
      rw [List.take_length] at hch
      go_wp2
      go_ret
      exact ⟨B, c1, xs, rfl, hch, hrow, hbel⟩

theorem neg_float (y : Nat) (w : World) : (Op.unary .neg (.float .f64 y)).run Try.prog w = .ok (.float .f64 (Op.negFloat .f64 y)) w := rfl
/-- the inner product, k summands of it -/
def innerZ (g h : List (Int × Int)) : Nat → Int × Int
  | 0 => (0, 0)
  | k + 1 => cadd (innerZ g h k) (cmul (cconj (g[k]?.getD (0, 0))) (h[k]?.getD (0, 0)))
theorem cadd_le {m n : Int} {z w : Int × Int} (h : cle m z) (h' : cle n w) : cle (m + n) (cadd z w) := by unfold cle cadd at *; dsimp only; omega
theorem cconj_le {m : Int} {z : Int × Int} (h : cle m z) : cle m (cconj z) := by unfold cle cconj at *; dsimp only; omega
theorem cmul_le {m n : Int} {z w : Int × Int} (hz : cle m z) (hw : cle n w) : cle (2 * (m * n)) (cmul z w) := by
  unfold cle at hz hw
  have p1 := mul_bd2 hz.1 hz.2.1 hw.1 hw.2.1
  have p2 := mul_bd2 hz.2.2.1 hz.2.2.2 hw.2.2.1 hw.2.2.2
  have p3 := mul_bd2 hz.1 hz.2.1 hw.2.2.1 hw.2.2.2
  have p4 := mul_bd2 hz.2.2.1 hz.2.2.2 hw.1 hw.2.1
  unfold cle cmul; dsimp only; omega
theorem Small.get {m : Int} {h : List (Int × Int)} (hs : Small m h) (hm : 0 ≤ m) (k : Nat) : cle m (h[k]?.getD (0, 0)) := by
  by_cases hk : k < h.length
  · rw [List.getElem?_eq_getElem hk, Option.getD_some]; exact hs _ (List.getElem_mem hk)
  · rw [List.getElem?_eq_none (by omega), Option.getD_none]; unfold cle; dsimp only; omega
theorem innerZ_le {m n : Int} {g h : List (Int × Int)} (hg : Small m g) (hh : Small n h) (hm : 0 ≤ m) (hn : 0 ≤ n) : ∀ k : Nat, cle (k * (2 * (m * n))) (innerZ g h k)
  | 0 => by simp [innerZ, cle]
  | k + 1 => by
    have h1 := cadd_le (innerZ_le hg hh hm hn k) (cmul_le (cconj_le (hg.get hm k)) (hh.get hn k))
    have e : ((k + 1 : Nat) : Int) * (2 * (m * n)) = k * (2 * (m * n)) + 2 * (m * n) := by push_cast; rw [Int.add_mul, Int.one_mul]
    rw [e]; exact h1

set_option maxRecDepth 100000 in
set_option maxHeartbeats 2000000 in
theorem inner_beam (A B : Option Addr) (c c' n : Nat) (g h : List (Int × Int)) (xs ys : List Value) (w : World) (hs : Sl w A xs) (hs' : Sl w B ys) (hx : ChIs xs g) (hy : ChIs ys h) (hg : g.length = n) (hh : h.length = n) (hn : n ≤ 100) {m m' : Int} (sg : Small m g) (sh : Small m' h) (m0 : 0 ≤ m) (m0' : 0 ≤ m') (hmm : m * m' ≤ 1000000000000) :
    Calls Try.prog 125 #[.slice A n c, .slice B n c'] w fun e w' => ∃ x y, e = .returned (.complex .f64 x y) ∧ IsC x y (innerZ g h n) ∧ w = w' := by
  have HS := hide hs; clear hs
  have HS' := hide hs'; clear hs'
  have HX := hide hx; clear hx
  have HY := hide hy; clear hy
  have HL := hide (innerZ_le sg sh m0 m0')
  have HSG := hide sg; clear sg
  have HSH := hide sh; clear sh
  have hmn : 0 ≤ m * m' := Int.mul_nonneg m0 m0'
  go_enter Try.func125, Try.ntmps125
  go_wp2
  go_loop [5, 10] (fun o i => ∃ (k x y : Nat), k ≤ n ∧ i = .int .i64 k ∧ o = .complex .f64 x y ∧ IsC x y (innerZ g h k)) (fun _ i => n - (intOf i).toNat)
  case atStart => exact ⟨0, 0, 0, Nat.zero_le _, rfl, rfl, fzero_is, fzero_is⟩
  case round =>
    obtain ⟨k, x, y, hk, rfl, rfl, hc⟩ := hrel
    by_cases hlt : k < n
    · obtain ⟨x1, y1, e1, i1⟩ := HX.out.get k (by omega)
      obtain ⟨x2, y2, e2, i2⟩ := HY.out.get k (by omega)
      obtain ⟨j1, f1⟩ := List.getElem?_eq_some_iff.1 e1
      obtain ⟨j2, f2⟩ := List.getElem?_eq_some_iff.1 e2
      obtain ⟨b, off, rfl, d1⟩ := HS.out k j1
      obtain ⟨b', off', rfl, d2⟩ := HS'.out k j2
      rw [f1] at d1
      rw [f2] at d2
      have g1 : cle m g[k] := HSG.out _ (List.getElem_mem (by omega))
      have g2 : cle m' h[k] := HSH.out _ (List.getElem_mem (by omega))
      have i3 : IsC x1 (Op.negFloat .f64 y1) (cconj g[k]) := ⟨i1.1, fneg_is i1.2⟩
      obtain ⟨r, s, hmu, i4, g4⟩ := cmul_is i3 i2 (cconj_le g1) g2 (by omega)
      have hbk := HL.out k
      have hkb : (k : Int) * (2 * (m * m')) ≤ 100 * 2000000000000 := Int.mul_le_mul (by omega) (by omega) (by omega) (by omega)
      obtain ⟨r2, s2, had, i5⟩ := cadd_is hc i4 hbk g4 (by omega)
      have hst := hide (show IsC r2 s2 (innerZ g h (k + 1)) by
        rw [innerZ, List.getElem?_eq_getElem (by omega : k < g.length), List.getElem?_eq_getElem (by omega : k < h.length)]; exact i5)
      have hng := neg_float y1
      have hmu' := fun w => run_complex_mul (P := Try.prog) w 165 _ _ _ _ _ _ hmu
      have had' := fun w => run_complex_sum (P := Try.prog) w .add (.inl rfl) 165 .f64 _ _ _ _ _ _ had
      clear hmu had i1 i2 i3 i4 i5 g1 g2 g4 hbk hkb hc e1 e2 f1 f2 j1 j2
      go_wp2
      go_round
      case rel => exact ⟨k + 1, r2, s2, by omega, by go_num, rfl, hst.out⟩
      case measure => simp [intOf]; omega
    · obtain rfl : k = n := by omega
      go_wp2
      go_ret
      exact ⟨x, y, rfl, hc, rfl⟩
end Go.Proofs.Ytamkannjdbodpaa
