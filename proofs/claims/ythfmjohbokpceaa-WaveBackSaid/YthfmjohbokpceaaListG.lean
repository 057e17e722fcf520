import Derived.Test.YthfmjohbokpceaaWvU
import Derived.Test.YthfmjohbokpceaaWvQ
namespace Go.Proofs.Ythfmjohbokpceaa
open Go.RowKit Go.WideShapes Go.ChangeShapes

/-! lists: copies, equality, errors (reference) -/
theorem ga_under : Try.prog.underlying 30 = some (.struct (Try.prog.fieldsOf 30)) := by kernel_rfl
theorem ga_held : Try.prog.stoodInHeld 30 = false := by kernel_rfl
theorem ga_beq (x y : Int × Int) : (x.1 == y.1 && x.2 == y.2) = decide (x = y) := by
  obtain ⟨a, b⟩ := x
  obtain ⟨c, d⟩ := y
  by_cases h : a = c <;> by_cases h' : b = d <;> simp [h, h']
set_option maxRecDepth 100000 in
theorem ga_neq (x y : Int × Int) (w : World) : (binOp .neq 30 (.agg #[.int .i64 x.1, .int .i64 x.2]) (.agg #[.int .i64 y.1, .int .i64 y.2])).run Try.prog w = .ok (.bool (!(decide (x = y)))) w := by
  rw [← ga_beq, run_neq_struct, run_equalIn_agg (d := 9999) (ht := ga_under) (hp := ga_held)]
  simp [go_sem]
  (repeat' split) <;> simp_all
theorem Sl.reads2 {w : World} {A : Option Addr} {l : List (Int × Int)} (h : Sl w A (gv l)) : Reads w w.heap.size 2 A l.length (gv l) := by
  refine ⟨gv_len l, fun hn => ?_⟩
  have h0 : 0 < (gv l).length := by rw [gv_len]; omega
  obtain ⟨b, off, e, hc⟩ := h 0 h0
  refine ⟨⟨b, off, none⟩, e, lt_of_cell hc, fun j u hu => ?_⟩
  rw [add_lit]
  exact h.one e hu
theorem copyGauss (A : Option Addr) (c : Nat) (l : List (Int × Int)) (w : World) (hs : Sl w A (gv l)) (hl : l.length ≤ 1000000) :
    Calls Try.prog 57 #[.slice A l.length c] w fun e w' => ∃ A' c', e = .returned (.slice A' l.length c') ∧ w'.ownsRow w.heap.size 30 2 (.slice A' l.length c') l.length (gv l) ∧ Below w.heap.size w w' := by
  obtain ⟨i0, hi0, hz0, hz1, hz2⟩ := info_parts ga_infoW
  have hr := Sl.reads2 (hs.alloc (.cells #[] 30))
  have ho := World.ownsRow_made (e := 30) (size := 2) w #[] 0 (Nat.le_refl _) (by simp [maxLen]) rfl
  go_enter Try.func57, Try.ntmps57
  go_wp2_with (at_builtin
               refine wpList_append_any _ rfl (.tmp 3) (.tmp 4) _ rfl w.heap.size 30 i0 _ 2 16 Try.underlying83 hi0 hz0 hz1 hz2 rfl (by omega) _ 0 [] rfl
                 ho _ A l.length c (gv l) rfl hr (gv_one l) (by simp only [maxLen]; omega) (by omega) (by simp) ?_
               intro v1 w1 hown1 hg1 hat1)
  go_ret
  simp only [Nat.zero_add, List.nil_append] at hown1
  obtain ⟨A', c', rfl⟩ := own_form hown1
  refine ⟨A', c', rfl, hown1, ((Below.refl _ w).alloc (Nat.le_refl _) _).grown hg1 (by simp) (fun k hk => ?_)⟩
  cases hk
  exact Nat.le_refl _
set_option maxRecDepth 100000 in
theorem sameGauss (A B : Option Addr) (c d : Nat) (a b : List (Int × Int)) (w : World) (ha : Sl w A (gv a)) (hb : Sl w B (gv b)) (hl : a.length ≤ 1000000) (hl' : b.length ≤ 1000000) :
    Calls Try.prog 61 #[.slice A a.length c, .slice B b.length d] w fun x w' => x = .returned (.bool (decide (a = b))) ∧ ∃ n, w' = w.drewN n := by
  have HA := hide ha; clear ha
  have HB := hide hb; clear hb
  by_cases hlen : a.length = b.length
  · have hL : ((a.length : Int) != (b.length : Int)) = false := by simp [hlen]
    have h1 : b.length ≤ a.length := by omega
    have h2 : a.length ≤ b.length := by omega
    have HL := hide hlen; clear hlen
    go_enter Try.func61, Try.ntmps61
    go_wp2
    go_loopw [5] (fun i wr => ∃ k : Nat, k ≤ a.length ∧ i = .int .i64 k ∧ a.take k = b.take k ∧ ∃ n, wr = w.drewN n) (fun i _ => a.length - (intOf i).toNat)
    case atStart => exact ⟨0, Nat.zero_le _, rfl, by simp, 0, rfl⟩
    case round =>
      obtain ⟨k, hk, rfl, he, n, rfl⟩ := hrel
      have HE := hide he; clear he
      by_cases hlt : k < a.length
      · have hlt' : k < b.length := by omega
        obtain ⟨b1, o1, rfl, c0, c1⟩ := HA.out.at2 hlt
        obtain ⟨b2, o2, rfl, d0, d1⟩ := HB.out.at2 hlt'
        have g1 : (0 : Int) ≤ (k : Int) := by omega
        have g2 : (k : Int) < (a.length : Int) := by omega
        have g3 : (k : Int) < (b.length : Int) := by omega
        have HX := hide (List.take_succ_eq_append_getElem hlt)
        have HY := hide (List.take_succ_eq_append_getElem hlt')
        have HN := hide (show a[k] ≠ b[k] → a ≠ b from fun h h' => h (by subst h'; rfl))
        obtain ⟨x, hx⟩ : ∃ x, a[k] = x := ⟨_, rfl⟩
        obtain ⟨y, hy⟩ : ∃ y, b[k] = y := ⟨_, rfl⟩
        rw [hx] at c0 c1 HX HN
        rw [hy] at d0 d1 HY HN
        have hq : ∀ W, _ := ga_neq x y
        clear hx hy hlt'
        by_cases hxy : x = y
        · subst hxy
          rw [decide_eq_true rfl] at hq
          clear HN
          go_wp2
          go_quiet (fail)
          go_wp2
          go_roundw
          case rel => exact ⟨k + 1, by omega, by go_num, by rw [HX.out, HY.out, HE.out], by first | exact drewN2 _ _ _ | exact ⟨_, rfl⟩⟩
          case measure => simp [intOf]; omega
        · rw [decide_eq_false hxy] at hq
          have HNE := hide (HN.out hxy)
          clear HN hxy
          go_wp2
          go_quiet (fail)
          go_wp2
          go_ret
          exact ⟨by rw [decide_eq_false HNE.out]; rfl, by first | exact drewN2 _ _ _ | exact ⟨_, rfl⟩⟩
      · go_wp2
        go_ret
        obtain rfl : k = a.length := by omega
        have h3 := HE.out
        rw [List.take_length, HL.out, List.take_length] at h3
        exact ⟨by rw [decide_eq_true h3]; rfl, _, rfl⟩
  · have hL : ((a.length : Int) != (b.length : Int)) = true := by simp; omega
    have hne : a ≠ b := by rintro rfl; exact hlen rfl
    have HN := hide hne; clear hne
    have HL := hide hlen; clear hlen
    go_enter Try.func61, Try.ntmps61
    go_wp2
    go_ret
    exact ⟨by rw [decide_eq_false HN.out]; rfl, 0, rfl⟩
theorem isEntry_ref (z : Int × Int) (m : Int) (w : World) (h : -9223372036854775807 ≤ m) (h' : m ≤ 9223372036854775807) :
    Calls Try.prog 104 #[.agg #[.int .i64 z.1, .int .i64 z.2], .int .i64 m] w fun e w' => e = .returned (.bool (entB m z)) ∧ Below w.heap.size w w' := by
  obtain ⟨p, q⟩ := z
  unfold entB
  dsimp only
  rcases Bool.eq_false_or_eq_true (withinB p (-m) m) with k1 | k1 <;> rcases Bool.eq_false_or_eq_true (withinB q (-m) m) with k2 | k2
  all_goals
    rw [k1]
    try rw [k2]
    go_enter Try.func104, Try.ntmps104
    go_wp2_with (go_at_call 24; refine (within_base _ _ _ _).mono ?_; rintro e w' ⟨rfl, rfl⟩; first | rw [k1] | rw [k2])
    go_ret
    exact ⟨rfl, by go_grown⟩
theorem isEntry_ref10k (z : Int × Int) (w : World) : Calls Try.prog 104 #[.agg #[.int .i64 z.1, .int .i64 z.2], .int .i64 10000] w fun e w' => e = .returned (.bool (entB 10000 z)) ∧ Below w.heap.size w w' := isEntry_ref z 10000 w (by omega) (by omega)
set_option maxRecDepth 100000 in
theorem errGauss (A : Option Addr) (c : Nat) (l : List (Int × Int)) (w : World) (hs : Sl w A (gv l)) (hl : l.length ≤ 1000000) :
    Calls Try.prog 59 #[.slice A l.length c] w fun x w' => x = .returned (.int .i64 (eachE entE l)) ∧ Below w.heap.size w w' := by
  have HS := hide hs; clear hs
  go_enter Try.func59, Try.ntmps59
  go_wp2
  go_loopw [3] (fun i wr => ∃ k : Nat, k ≤ l.length ∧ i = .int .i64 k ∧ eachE entE l = eachE entE (l.drop k) ∧ Below w.heap.size w wr) (fun i _ => l.length - (intOf i).toNat)
  case atStart => exact ⟨0, Nat.zero_le _, rfl, by simp, Below.refl _ _⟩
  case round =>
    obtain ⟨k, hk, rfl, he, hbel⟩ := hrel
    have HE := hide he; clear he
    have hbz := hbel.size
    by_cases hlt : k < l.length
    · obtain ⟨b, off, rfl, c0, c1⟩ := (HS.out.bel hbel).at2 hlt
      have HH := hide (eachE_skip entE l k hlt)
      have HT := hide (eachE_hit entE l k hlt)
      obtain ⟨x, hx⟩ : ∃ x, l[k] = x := ⟨_, rfl⟩
      rw [hx] at c0 c1 HH HT
      have HC := hide (fun W => isEntry_ref10k x W)
      cases hf : entB 10000 x
      · rw [hf] at HC
        have h2 := hide (show entE x = 2 by unfold entE; rw [hf]; rfl)
        clear hx hf HH
        go_wp2_with (go_at_call 104; go_must (refine (HC.out _).mono ?_; rintro e w1 ⟨rfl, hb1⟩; have b1 := Below.step hbel hb1; clear hb1; simp only []))
        go_ret
        exact ⟨by rw [HE.out, HT.out (by rw [h2.out]; decide), h2.out]; rfl, b1⟩
      · rw [hf] at HC
        have h2 := hide (show entE x = 0 by unfold entE; rw [hf]; rfl)
        clear hx hf HT
        go_wp2_with (go_at_call 104; go_must (refine (HC.out _).mono ?_; rintro e w1 ⟨rfl, hb1⟩; have b1 := Below.step hbel hb1; clear hb1; simp only []))
        go_roundw
        case rel => exact ⟨k + 1, by omega, by go_num, by rw [HE.out, HH.out h2.out], b1⟩
        case measure => simp [intOf]; omega
    · go_wp2
      go_ret
      exact ⟨by rw [HE.out, List.drop_eq_nil_of_le (by omega)]; rfl, hbel⟩
end Go.Proofs.Ythfmjohbokpceaa
