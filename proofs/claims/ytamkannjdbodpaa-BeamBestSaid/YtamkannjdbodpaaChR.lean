import Derived.Test.YtamkannjdbodpaaChH
namespace Go.Proofs.Ytamkannjdbodpaa
open Go.RowKit Go.WideShapes Go.ChangeShapes

/-! the reference's numbers -/
theorem gconj_ref (z : Int × Int) (w : World) (hz : cle 1000000000000000 z) :
    Calls Try.prog 58 #[.agg #[.int .i64 z.1, .int .i64 z.2]] w fun e w' => e = .returned (.agg #[.int .i64 (cconj z).1, .int .i64 (cconj z).2]) ∧ Below w.heap.size w w' := by
  obtain ⟨a, b⟩ := z
  unfold cle at hz
  unfold cconj
  dsimp only at *
  obtain ⟨h1, h2, h3, h4⟩ := hz
  go_enter Try.func58, Try.ntmps58
  go_wp2
  go_returns
  exact ⟨rfl, by go_grown⟩
theorem gadd_ref (z u : Int × Int) (w : World) (hz : cle 1000000000000000000 z) (hu : cle 1000000000000000000 u) :
    Calls Try.prog 56 #[.agg #[.int .i64 z.1, .int .i64 z.2], .agg #[.int .i64 u.1, .int .i64 u.2]] w fun e w' => e = .returned (.agg #[.int .i64 (cadd z u).1, .int .i64 (cadd z u).2]) ∧ Below w.heap.size w w' := by
  obtain ⟨a, b⟩ := z
  obtain ⟨c, d⟩ := u
  unfold cle at hz hu
  unfold cadd
  dsimp only at *
  obtain ⟨h1, h2, h3, h4⟩ := hz
  obtain ⟨h5, h6, h7, h8⟩ := hu
  go_enter Try.func56, Try.ntmps56
  go_wp2
  go_returns
  exact ⟨rfl, by go_grown⟩
theorem gsub_ref (z u : Int × Int) (w : World) (hz : cle 1000000000000000000 z) (hu : cle 1000000000000000000 u) :
    Calls Try.prog 134 #[.agg #[.int .i64 z.1, .int .i64 z.2], .agg #[.int .i64 u.1, .int .i64 u.2]] w fun e w' => e = .returned (.agg #[.int .i64 (csub z u).1, .int .i64 (csub z u).2]) ∧ Below w.heap.size w w' := by
  obtain ⟨a, b⟩ := z
  obtain ⟨c, d⟩ := u
  unfold cle at hz hu
  unfold csub
  dsimp only at *
  obtain ⟨h1, h2, h3, h4⟩ := hz
  obtain ⟨h5, h6, h7, h8⟩ := hu
  go_enter Try.func134, Try.ntmps134
  go_wp2
  go_returns
  exact ⟨rfl, by go_grown⟩
theorem gmul_ref (z u : Int × Int) (w : World) (hz : cle 1000000000 z) (hu : cle 1000000000 u) :
    Calls Try.prog 57 #[.agg #[.int .i64 z.1, .int .i64 z.2], .agg #[.int .i64 u.1, .int .i64 u.2]] w fun e w' => e = .returned (.agg #[.int .i64 (cmul z u).1, .int .i64 (cmul z u).2]) ∧ Below w.heap.size w w' := by
  obtain ⟨a, b⟩ := z
  obtain ⟨c, d⟩ := u
  unfold cle at hz hu
  unfold cmul
  dsimp only at *
  obtain ⟨p1, q1⟩ := mul_bd2 hz.1 hz.2.1 hu.1 hu.2.1
  obtain ⟨p2, q2⟩ := mul_bd2 hz.2.2.1 hz.2.2.2 hu.2.2.1 hu.2.2.2
  obtain ⟨p3, q3⟩ := mul_bd2 hz.1 hz.2.1 hu.2.2.1 hu.2.2.2
  obtain ⟨p4, q4⟩ := mul_bd2 hz.2.2.1 hz.2.2.2 hu.1 hu.2.1
  clear hz hu
  go_enter Try.func57, Try.ntmps57
  go_wp2
  go_returns
  exact ⟨rfl, by go_grown⟩
theorem gnorm_ref (z : Int × Int) (w : World) (hz : cle 1000000000 z) :
    Calls Try.prog 133 #[.agg #[.int .i64 z.1, .int .i64 z.2]] w fun e w' => e = .returned (.int .i64 (nrm z)) ∧ Below w.heap.size w w' := by
  obtain ⟨a, b⟩ := z
  unfold cle at hz
  unfold nrm
  dsimp only at *
  obtain ⟨p1, q1⟩ := mul_bd2 hz.1 hz.2.1 hz.1 hz.2.1
  obtain ⟨p2, q2⟩ := mul_bd2 hz.2.2.1 hz.2.2.2 hz.2.2.1 hz.2.2.2
  clear hz
  go_enter Try.func133, Try.ntmps133
  go_wp2
  go_ret
  exact ⟨rfl, by go_grown⟩

theorem Sl.reads2 {w : World} {A : Option Addr} {l : List (Int × Int)} (h : Sl w A (gv l)) : Reads w w.heap.size 2 A l.length (gv l) := by
  refine ⟨gv_len l, fun hn => ?_⟩
  have h0 : 0 < (gv l).length := by rw [gv_len]; omega
  obtain ⟨b, off, e, hc⟩ := h 0 h0
  refine ⟨⟨b, off, none⟩, e, lt_of_cell hc, fun j u hu => ?_⟩
  obtain ⟨hj, hu'⟩ := List.getElem?_eq_some_iff.1 hu
  obtain ⟨b', off', e', hc'⟩ := h j hj
  rw [e] at e'
  injection e' with e'
  injection e' with e1 e2
  subst e1 e2
  rw [add_lit, hc', hu']
theorem copyGausses (A : Option Addr) (c : Nat) (l : List (Int × Int)) (w : World) (hs : Sl w A (gv l)) (hl : l.length ≤ 1000000) :
    Calls Try.prog 53 #[.slice A l.length c] w fun e w' => ∃ A' c', e = .returned (.slice A' l.length c') ∧ w'.ownsRow w.heap.size 90 2 (.slice A' l.length c') l.length (gv l) ∧ Below w.heap.size w w' := by
  obtain ⟨i0, hi0, hz0, hz1, hz2⟩ := info_parts ga_info
  have hr := (hs.alloc (.cells #[] 90)).reads2
  have ho := World.ownsRow_made (e := 90) (size := 2) w #[] 0 (Nat.le_refl _) (by simp [maxLen]) rfl
  go_enter Try.func53, Try.ntmps53
  go_wp2_with (at_builtin
               refine wpList_append_any _ rfl (.tmp 3) (.tmp 4) _ rfl w.heap.size 90 i0 _ 2 16 Try.underlying80 hi0 hz0 hz1 hz2 rfl (by omega) _ 0 [] rfl
                 ho _ A l.length c (gv l) rfl hr (gv_one l) (by simp only [maxLen]; omega) (by omega) (by simp) ?_
               intro v1 w1 hown1 hg1 hat1)
  go_ret
  simp only [Nat.zero_add, List.nil_append] at hown1
  obtain ⟨A', c', rfl⟩ := own_form hown1
  refine ⟨A', c', rfl, hown1, ((Below.refl _ w).alloc (Nat.le_refl _) _).grown hg1 (by simp) (fun k hk => ?_)⟩
  cases hk
  exact Nat.le_refl _

def gEq (a b : List (Int × Int)) : Bool := decide (a = b)
set_option maxRecDepth 100000 in
theorem gausses_base (A B : Option Addr) (c d : Nat) (a b : List (Int × Int)) (w : World) (ha : Sl w A (gv a)) (hb : Sl w B (gv b)) (hl : a.length ≤ 1000000) (hl' : b.length ≤ 1000000) :
    Calls Try.prog 65 #[.slice A a.length c, .slice B b.length d] w fun x w' => x = .returned (.bool (gEq a b)) ∧ ∃ n, w' = w.drewN n := by
  have HA := hide ha; clear ha
  have HB := hide hb; clear hb
  by_cases hlen : a.length = b.length
  · have hL : ((a.length : Int) != (b.length : Int)) = false := by simp [hlen]
    have h1 : b.length ≤ a.length := by omega
    have h2 : a.length ≤ b.length := by omega
    have HL := hide hlen; clear hlen
    go_enter Try.func65, Try.ntmps65
    go_wp2
    go_loopw [5] (fun i wr => ∃ k : Nat, k ≤ a.length ∧ i = .int .i64 k ∧ a.take k = b.take k ∧ ∃ n, wr = w.drewN n) (fun i _ => a.length - (intOf i).toNat)
    case atStart => exact ⟨0, Nat.zero_le _, rfl, by simp, 0, rfl⟩
    case round =>
      obtain ⟨k, hk, rfl, he, n, rfl⟩ := hrel
      have HE := hide he; clear he
      by_cases hlt : k < a.length
      · have hlt' : k < b.length := by omega
        obtain ⟨b1, o1, rfl, c1, c2⟩ := HA.out.at2 hlt
        obtain ⟨b2, o2, rfl, c3, c4⟩ := HB.out.at2 hlt'
        have d1 : (w.drewN n).cell? ⟨b1, o1 + k * 2, none⟩ = some (.int .i64 a[k].1) := c1
        have d2 : (w.drewN n).cell? ⟨b1, o1 + k * 2 + 1, none⟩ = some (.int .i64 a[k].2) := c2
        have d3 : (w.drewN n).cell? ⟨b2, o2 + k * 2, none⟩ = some (.int .i64 b[k].1) := c3
        have d4 : (w.drewN n).cell? ⟨b2, o2 + k * 2 + 1, none⟩ = some (.int .i64 b[k].2) := c4
        have g1 : (0 : Int) ≤ (k : Int) := by omega
        have g2 : (k : Int) < (a.length : Int) := by omega
        have g3 : (k : Int) < (b.length : Int) := by omega
        have hq := ga_neq a[k].1 a[k].2 b[k].1 b[k].2
        by_cases hx : a[k] = b[k]
        · have hx' : (!(a[k].1 == b[k].1 && a[k].2 == b[k].2)) = false := by simp [hx]
          simp only [hx'] at hq
          have HX := hide hx; clear hx hx'
          go_wp2
          go_quiet (fail)
          go_wp2
          go_roundw
          case rel => exact ⟨k + 1, by omega, by go_num, by rw [List.take_succ_eq_append_getElem hlt, List.take_succ_eq_append_getElem hlt', HE.out, HX.out], by first | exact drewN2 _ _ _ | exact ⟨_, rfl⟩⟩
          case measure => simp [intOf]; omega
        · have hx' : (!(a[k].1 == b[k].1 && a[k].2 == b[k].2)) = true := by
            rw [Bool.not_eq_true', Bool.and_eq_false_iff, beq_eq_false_iff_ne, beq_eq_false_iff_ne]
            by_cases q : a[k].1 = b[k].1
            · exact .inr fun e => hx (Prod.ext q e)
            · exact .inl q
          simp only [hx'] at hq
          have hne : a ≠ b := by rintro rfl; exact hx rfl
          have HN := hide hne; clear hne hx hx'
          go_wp2
          go_quiet (fail)
          go_wp2
          go_ret
          exact ⟨by rw [gEq, decide_eq_false HN.out]; rfl, by first | exact drewN2 _ _ _ | exact ⟨_, rfl⟩⟩
      · go_wp2
        go_ret
        have : a = b := by
          have h3 : k = a.length := by omega
          subst h3
          have he := HE.out
          rw [List.take_length, List.take_of_length_le (by omega)] at he
          exact he
        exact ⟨by rw [gEq, decide_eq_true this]; rfl, n, rfl⟩
  · have hL : ((a.length : Int) != (b.length : Int)) = true := by simp; omega
    have hne : a ≠ b := by rintro rfl; exact hlen rfl
    have HN := hide hne; clear hne hlen
    go_enter Try.func65, Try.ntmps65
    go_wp2
    go_ret
    exact ⟨by rw [gEq, decide_eq_false HN.out]; rfl, 0, rfl⟩
theorem gausses_same (A B : Option Addr) (c d n : Nat) (l : List (Int × Int)) (w : World) (ha : Sl w A (gv l)) (hb : Sl w B (gv l)) (hl : l.length = n) (hn : n ≤ 1000000) :
    Calls Try.prog 65 #[.slice A n c, .slice B n d] w fun x w' => x = .returned (.bool true) ∧ ∃ n, w' = w.drewN n := by
  subst hl
  have h := gausses_base A B c d l l w ha hb hn hn
  rwa [show gEq l l = true by simp [gEq]] at h
end Go.Proofs.Ytamkannjdbodpaa
