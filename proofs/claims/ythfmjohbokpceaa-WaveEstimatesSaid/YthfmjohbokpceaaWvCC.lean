import Derived.Test.YthfmjohbokpceaaWvCB
import Derived.Test.YthfmjohbokpceaaStay
namespace Go.Proofs.Ythfmjohbokpceaa
open Go.RowKit Go.WideShapes Go.ChangeShapes

/-! clipped numbers, the error of two lists: the reference -/
theorem gsub_base (a b c d : Int) (w : World) (h : -10000 ≤ a ∧ a ≤ 10000 ∧ -10000 ≤ b ∧ b ≤ 10000 ∧ -10000 ≤ c ∧ c ≤ 10000 ∧ -10000 ≤ d ∧ d ≤ 10000) :
    Calls Try.prog 145 #[.agg #[.int .i64 a, .int .i64 b], .agg #[.int .i64 c, .int .i64 d]] w fun e w' => e = .returned (.agg #[.int .i64 (a - c), .int .i64 (b - d)]) ∧ Below w.heap.size w w' := by
  obtain ⟨h1, h2, h3, h4, h5, h6, h7, h8⟩ := h
  go_enter Try.func145, Try.ntmps145
  go_wp2
  go_returns
  exact ⟨rfl, by go_grown⟩
theorem gnorm_base (a b : Int) (w : World) (h : -1000000000 ≤ a ∧ a ≤ 1000000000 ∧ -1000000000 ≤ b ∧ b ≤ 1000000000) :
    Calls Try.prog 103 #[.agg #[.int .i64 a, .int .i64 b]] w fun e w' => e = .returned (.int .i64 (a * a + b * b)) ∧ Below w.heap.size w w' := by
  obtain ⟨h1, h2, h3, h4⟩ := h
  obtain ⟨m1, m2⟩ := mul_le_size h1 h2 h1 h2
  obtain ⟨m3, m4⟩ := mul_le_size h3 h4 h3 h4
  go_enter Try.func103, Try.ntmps103
  go_wp2
  go_ret
  exact ⟨rfl, by go_grown⟩
set_option maxRecDepth 100000 in
set_option maxHeartbeats 4000000 in
theorem ErrorOf_ref (A B : Option Addr) (c d n : Nat) (x y : List (Int × Int)) (w : World) (hn : x.length = n) (ha : Sl w A (gv x)) (hb : Sl w B (gv y)) (h : erE x y = 0) :
    Calls Try.prog 60 #[.slice A n c, .slice B n d] w fun e w' => e = .returned (.int .i64 (esum x y n)) ∧ Below w.heap.size w w' := by
  obtain ⟨hl, hyn, hx, hy⟩ := erE_ok h
  have HXK := hide (fun W (hb : Below w.heap.size w W) k (hk : k < n) => (ha.bel hb).atG (k := k) (by omega))
  have HYK := hide (fun W (h' : Below w.heap.size w W) k (hk : k < n) => (hb.bel h').atG (k := k) (by omega))
  have HX := hide (kg_le hx)
  have HY := hide (kg_le hy)
  have HBD := hide (esum_bd hx hy)
  have HST := hide (show ∀ k, esum x y (k + 1) = esum x y k + (((kg x k).1 - (kg y k).1) * ((kg x k).1 - (kg y k).1) + ((kg x k).2 - (kg y k).2) * ((kg x k).2 - (kg y k).2)) from fun k => rfl)
  rw [hn] at hl
  clear ha hb h hx hy hn hyn
  go_enter Try.func60, Try.ntmps60
  go_wp2
  go_loopw [5, 6] (fun s i wr => ∃ k : Nat, k ≤ n ∧ i = .int .i64 k ∧ s = .int .i64 (esum x y k) ∧ Below w.heap.size w wr) (fun _ i _ => n - (intOf i).toNat)
  case atStart => exact ⟨0, Nat.zero_le _, rfl, rfl, Below.refl _ _⟩
  case round =>
    obtain ⟨k, hk, rfl, rfl, hbel⟩ := hrel
    have hbz := hbel.size
    by_cases hlt : k < n
    · obtain ⟨b, off, rfl, d0, d1⟩ := HXK.out _ hbel k hlt
      obtain ⟨b', off', rfl, d2, d3⟩ := HYK.out _ hbel k hlt
      have HST2 := hide (show Stay wr (fun W => (W.cell? ⟨b, off + k * 2, none⟩ = some (.int .i64 (kg x k).1) ∧ W.cell? ⟨b, off + k * 2 + 1, none⟩ = some (.int .i64 (kg x k).2)) ∧ W.cell? ⟨b', off' + k * 2, none⟩ = some (.int .i64 (kg y k).1) ∧ W.cell? ⟨b', off' + k * 2 + 1, none⟩ = some (.int .i64 (kg y k).2)) from fun W hW =>
        ⟨⟨(hW.cell (p := ⟨b, off + k * 2, none⟩) (lt_of_cell d0)).trans d0, (hW.cell (p := ⟨b, off + k * 2 + 1, none⟩) (lt_of_cell d1)).trans d1⟩, (hW.cell (p := ⟨b', off' + k * 2, none⟩) (lt_of_cell d2)).trans d2, (hW.cell (p := ⟨b', off' + k * 2 + 1, none⟩) (lt_of_cell d3)).trans d3⟩)
      have hst := HST.out k
      obtain ⟨bd1, bd2⟩ := HBD.out k
      have hbd3 := (HBD.out (k + 1))
      have hlx := HX.out k
      have hly := HY.out k
      obtain ⟨⟨x0, x1⟩, hX⟩ : ∃ z, kg x k = z := ⟨_, rfl⟩
      obtain ⟨⟨y0, y1⟩, hY⟩ : ∃ z, kg y k = z := ⟨_, rfl⟩
      rw [hX] at d0 d1 hlx hst HST2
      rw [hY] at d2 d3 hly hst HST2
      dsimp only at d0 d1 d2 d3 hlx hly hst HST2
      obtain ⟨l1, l2, l3, l4⟩ := hlx
      obtain ⟨l5, l6, l7, l8⟩ := hly
      have HGS := hide (fun W => gsub_base x0 x1 y0 y1 W ⟨l1, l2, l3, l4, l5, l6, l7, l8⟩)
      have HGN := hide (fun W => gnorm_base (x0 - y0) (x1 - y1) W (by omega))
      obtain ⟨s, hs⟩ : ∃ s, esum x y k = s := ⟨_, rfl⟩
      rw [hst] at hbd3
      rw [hs] at hst bd1 bd2 hbd3
      rw [hs]
      obtain ⟨v, hv⟩ : ∃ v, (x0 - y0) * (x0 - y0) + (x1 - y1) * (x1 - y1) = v := ⟨_, rfl⟩
      rw [hv] at hst HGN hbd3
      obtain ⟨p, hp⟩ : ∃ p, x0 - y0 = p := ⟨_, rfl⟩
      obtain ⟨q, hq⟩ : ∃ q, x1 - y1 = q := ⟨_, rfl⟩
      rw [hp, hq] at HGS HGN
      have w1' : IntKind.i64.wrap (s + v) = s + v := IntWalk.i64_in _ (by omega)
      have g1 : (0 : Int) ≤ (k : Int) := by omega
      have g2 : (k : Int) < (n : Int) := by omega
      have HSTP := hide hst
      obtain ⟨bd4, bd5⟩ := hbd3
      clear hX hY hs hp hq hv hst l1 l2 l3 l4 l5 l6 l7 l8
      go_wp2
      go_region_held3 (fun w' => w'.cell? ⟨b, off + k * 2, none⟩ = some (.int .i64 x0) ∧ w'.cell? ⟨b, off + k * 2 + 1, none⟩ = some (.int .i64 x1) ∧ w'.cell? ⟨b', off' + k * 2, none⟩ = some (.int .i64 y0) ∧ w'.cell? ⟨b', off' + k * 2 + 1, none⟩ = some (.int .i64 y1)) (first | (simp [go_sem]; done) | (simp [go_sem, *]; done) | go_keep)
        (first
          | (go_at_call 145; go_must (refine (HGS.out _).mono ?_; rintro e w1 ⟨rfl, hb1⟩; have HST3 := hide (HST2.out.drew.step hb1); have b1 : Below w.heap.size w w1 := Below.step (below_drewN hbel 1) hb1; obtain ⟨⟨r0, r1⟩, r2, r3⟩ := HST3.out.now; clear hb1))
          | (go_at_call 103; go_must (refine (HGN.out _).mono ?_; rintro e w2 ⟨rfl, hb2⟩; have HST4 := hide (HST3.out.step hb2); have b2 : Below w.heap.size w w2 := Below.step b1 hb2; obtain ⟨⟨r4, r5⟩, r6, r7⟩ := HST4.out.now; clear hb2)))
      go_wp2
      go_roundw
      case rel => exact ⟨k + 1, by omega, by go_num, by rw [HSTP.out], by assumption⟩
      case measure => simp [intOf]; omega
    · obtain rfl : k = n := by omega
      go_wp2
      go_ret
      exact ⟨rfl, hbel⟩
set_option maxRecDepth 100000 in
set_option maxHeartbeats 4000000 in
theorem Clipped_ref (A : Option Addr) (c n : Nat) (x : List (Int × Int)) (m : Int) (w : World) (hn : x.length = n) (hs : Sl w A (gv x)) (h : clE x m = 0) :
    Calls Try.prog 62 #[.slice A n c, .int .i64 m] w fun e w' => ∃ C k, e = .returned (.slice C n k) ∧ Sl w' C (gv (clL x m n)) ∧ Below w.heap.size w w' := by
  obtain ⟨i0, hi0, hz0, hz1, hz2⟩ := info_parts ga_infoW
  have hm0 := firstOf_ok h (manE x) (by simp)
  have hl0 := firstOf_ok h (unlessE (withinB m 0 10000) 2) (by simp)
  obtain ⟨hl, hx⟩ := manE_ok hm0
  obtain ⟨hm, hm'⟩ := lim_ok hl0
  have HSLK := hide (fun k (hk : k < n) => hs.atG (k := k) (by omega))
  have HX := hide (kg_le hx)
  have HSC := hide (tab_succ fun i => (clp m (kg x i).1, clp m (kg x i).2))
  have HSH : clL x m = tab fun i => (clp m (kg x i).1, clp m (kg x i).2) := rfl
  rw [HSH]
  obtain ⟨T, hT⟩ : ∃ T : Nat → List (Int × Int), T = tab fun i => (clp m (kg x i).1, clp m (kg x i).2) := ⟨_, rfl⟩
  rw [← hT] at HSC
  rw [← hT]
  have HT0' := hide (show T 0 = [] by rw [hT]; rfl)
  rw [hn] at hl
  clear hs h hx hn HSH hT hm0 hl0
  go_enter Try.func62, Try.ntmps62
  go_wp2
  go_loopw [5, 6] (fun o i wr => ∃ (k : Nat) (C : Option Addr) (c1 : Nat), k ≤ n ∧ i = .int .i64 k ∧ o = .slice C k c1 ∧ wr.ownsRow w.heap.size 30 2 (.slice C k c1) k (gv (T k)) ∧ Below w.heap.size w wr) (fun _ i _ => n - (intOf i).toNat)
  case atStart => exact ⟨0, none, 0, Nat.zero_le _, rfl, rfl, by rw [HT0'.out]; exact World.ownsRow_nil _ _ _ _, Below.refl _ _⟩
  case round =>
    obtain ⟨k, C, c1, hk, rfl, rfl, hrow, hbel⟩ := hrel
    have hbz := hbel.size
    by_cases hlt : k < n
    · obtain ⟨b, off, rfl, e0, e1⟩ := HSLK.out k hlt
      have d0 := (hbel.cell (p := ⟨b, off + k * 2, none⟩) (lt_of_cell e0)).trans e0
      have d1 := (hbel.cell (p := ⟨b, off + k * 2 + 1, none⟩) (lt_of_cell e1)).trans e1
      have HE := hide (And.intro e0 e1)
      have hle := HX.out k
      have hsc := HSC.out k
      obtain ⟨z, hz⟩ : ∃ z, kg x k = z := ⟨_, rfl⟩
      rw [hz] at d0 d1 hle hsc HE
      obtain ⟨v0, v1⟩ := z
      dsimp only at d0 d1 hle hsc HE
      obtain ⟨l1, l2, l3, l4⟩ := hle
      have HSC2 := hide (show gv (T (k + 1)) = gv (T k) ++ [.int .i64 (clp m v0), .int .i64 (clp m v1)] by rw [hsc, gv_snoc])
      have HROW := hide hrow
      have g1 : (0 : Int) ≤ (k : Int) := by omega
      have g2 : (k : Int) < (n : Int) := by omega
      have w1' : IntKind.i64.wrap (-m) = -m := IntWalk.i64_in _ (by omega)
      clear hsc hz hrow e0 e1
      go_wp2
      have HA : Hid ((wr.alloc (.cells #[.int .i64 (clp m v0), .int .i64 (clp m v1)] 30)).drew.ownsRow w.heap.size 30 2 (.slice C k c1) k (gv (T k))) := hide (HROW.out.alloc _)
      have HCE : Hid (Reads (wr.alloc (.cells #[.int .i64 (clp m v0), .int .i64 (clp m v1)] 30)).drew (wr.heap.size + 1) 2 (some ⟨wr.heap.size, 0, none⟩) 1 [.int .i64 (clp m v0), .int .i64 (clp m v1)]) := hide ⟨rfl, fun _ => ⟨_, rfl, by simp, cells_new wr [.int .i64 (clp m v0), .int .i64 (clp m v1)] 30⟩⟩
      go_region_held3 (fun w' => w'.cell? ⟨b, off + k * 2, none⟩ = some (.int .i64 v0) ∧ w'.cell? ⟨b, off + k * 2 + 1, none⟩ = some (.int .i64 v1)) (first | (simp [go_sem]; done) | (simp [go_sem, *]; done) | go_keep)
        (((
             refine step_append_any _ ?_ (.tmp 13) (.tmp 35) 83 ?_ w.heap.size 30 i0 _ 2 16 Try.underlying83 hi0 hz0 hz1 hz2 ?_ ?_ (.slice C k c1) k (gv (T k)) ?_ HA.out (wr.heap.size + 1) (some ⟨wr.heap.size, 0, none⟩) 1 1 [.int .i64 (clp m v0), .int .i64 (clp m v1)] ?_ HCE.out ?_ ?_ ?_ ?_ ?_
             · rfl
             · rfl
             · rfl
             · omega
             · rfl
             · rfl
             · simp [Value.oneCell']
             · simp only [maxLen]; omega
             · omega
             · simp; omega
             intro v' w6 hown' hgrow0 _
             have hgrow := grown_drew hgrow0
             obtain ⟨C2, k2, rfl⟩ := own_form hown'
             have hbel6 : Below w.heap.size w w6 := Below.app hbel HROW.out hgrow
             have p1 : w6.cell? ⟨b, off + k * 2, none⟩ = some (.int .i64 v0) := (hbel6.cell (p := ⟨b, off + k * 2, none⟩) (lt_of_cell HE.out.1)).trans HE.out.1
             have p2 : w6.cell? ⟨b, off + k * 2 + 1, none⟩ = some (.int .i64 v1) := (hbel6.cell (p := ⟨b, off + k * 2 + 1, none⟩) (lt_of_cell HE.out.2)).trans HE.out.2)))
      all_goals
        go_wp2
        go_roundw
        case rel => exact ⟨k + 1, C2, k2, by omega, by go_num, rfl, by rw [HSC2.out]; exact hown', hbel6⟩
        case measure => simp [intOf]; omega
    · obtain rfl : k = n := by omega
      have HROW := hide hrow
      clear hrow
      go_wp2
      go_ret
      exact ⟨C, c1, rfl, Sl.of_ownN HROW.out, hbel⟩
end Go.Proofs.Ythfmjohbokpceaa
