import Derived.Test.YthfmjohbokpceaaWvU
import Derived.Test.YthfmjohbokpceaaWvQ
namespace Go.Proofs.Ythfmjohbokpceaa
open Go.RowKit Go.WideShapes Go.ChangeShapes

/-! lists: copies, equality, errors (reference) -/
theorem copyNum (A : Option Addr) (c : Nat) (l : List (Nm)) (w : World) (hs : Sl w A (nvs l)) (hl : l.length ≤ 1000000) :
    Calls Try.prog 49 #[.slice A l.length c] w fun e w' => ∃ A' c', e = .returned (.slice A' l.length c') ∧ w'.ownsRow w.heap.size 38 4 (.slice A' l.length c') l.length (nvs l) ∧ Below w.heap.size w w' := by
  obtain ⟨i0, hi0, hz0, hz1, hz2⟩ := info_parts wn_info
  have hr := Sl.reads4 (hs.alloc (.cells #[] 38))
  have ho := World.ownsRow_made (e := 38) (size := 4) w #[] 0 (Nat.le_refl _) (by simp [maxLen]) rfl
  go_enter Try.func49, Try.ntmps49
  go_wp2_with (at_builtin
               refine wpList_append_any _ rfl (.tmp 3) (.tmp 4) _ rfl w.heap.size 38 i0 _ 4 32 Try.underlying36 hi0 hz0 hz1 hz2 rfl (by omega) _ 0 [] rfl
                 ho _ A l.length c (nvs l) rfl hr (nvs_one l) (by simp only [maxLen]; omega) (by omega) (by simp) ?_
               intro v1 w1 hown1 hg1 hat1)
  go_ret
  simp only [Nat.zero_add, List.nil_append] at hown1
  obtain ⟨A', c', rfl⟩ := own_form hown1
  refine ⟨A', c', rfl, hown1, ((Below.refl _ w).alloc (Nat.le_refl _) _).grown hg1 (by simp) (fun k hk => ?_)⟩
  cases hk
  exact Nat.le_refl _
set_option maxRecDepth 100000 in
theorem sameNum (A B : Option Addr) (c d : Nat) (a b : List (Nm)) (w : World) (ha : Sl w A (nvs a)) (hb : Sl w B (nvs b)) (hl : a.length ≤ 1000000) (hl' : b.length ≤ 1000000) :
    Calls Try.prog 52 #[.slice A a.length c, .slice B b.length d] w fun x w' => x = .returned (.bool (decide (a = b))) ∧ ∃ n, w' = w.drewN n := by
  have HA := hide ha; clear ha
  have HB := hide hb; clear hb
  by_cases hlen : a.length = b.length
  · have hL : ((a.length : Int) != (b.length : Int)) = false := by simp [hlen]
    have h1 : b.length ≤ a.length := by omega
    have h2 : a.length ≤ b.length := by omega
    have HL := hide hlen; clear hlen
    go_enter Try.func52, Try.ntmps52
    go_wp2
    go_loopw [5] (fun i wr => ∃ k : Nat, k ≤ a.length ∧ i = .int .i64 k ∧ a.take k = b.take k ∧ ∃ n, wr = w.drewN n) (fun i _ => a.length - (intOf i).toNat)
    case atStart => exact ⟨0, Nat.zero_le _, rfl, by simp, 0, rfl⟩
    case round =>
      obtain ⟨k, hk, rfl, he, n, rfl⟩ := hrel
      have HE := hide he; clear he
      by_cases hlt : k < a.length
      · have hlt' : k < b.length := by omega
        obtain ⟨b1, o1, rfl, c0, c1, c2, c3⟩ := HA.out.at4 hlt
        obtain ⟨b2, o2, rfl, d0, d1, d2, d3⟩ := HB.out.at4 hlt'
        have g1 : (0 : Int) ≤ (k : Int) := by omega
        have g2 : (k : Int) < (a.length : Int) := by omega
        have g3 : (k : Int) < (b.length : Int) := by omega
        have HX := hide (List.take_succ_eq_append_getElem hlt)
        have HY := hide (List.take_succ_eq_append_getElem hlt')
        have HN := hide (show a[k] ≠ b[k] → a ≠ b from fun h h' => h (by subst h'; rfl))
        obtain ⟨x, hx⟩ : ∃ x, a[k] = x := ⟨_, rfl⟩
        obtain ⟨y, hy⟩ : ∃ y, b[k] = y := ⟨_, rfl⟩
        rw [hx] at c0 c1 c2 c3 HX HN
        rw [hy] at d0 d1 d2 d3 HY HN
        have hq : ∀ W, _ := wn_neq x y
        clear hx hy hlt'
        by_cases hxy : x = y
        · subst hxy
          rw [decide_eq_true rfl] at hq
          clear HN
          go_wp2
          go_quiet (fail)
          go_wp2
          go_roundw
          case rel => exact ⟨k + 1, by omega, by go_num, by rw [HX.out, HY.out, HE.out], by first | exact drewN2 _ _ _ | exact ⟨_, rfl⟩⟩
          case measure => simp [intOf]; omega
        · rw [decide_eq_false hxy] at hq
          have HNE := hide (HN.out hxy)
          clear HN hxy
          go_wp2
          go_quiet (fail)
          go_wp2
          go_ret
          exact ⟨by rw [decide_eq_false HNE.out]; rfl, by first | exact drewN2 _ _ _ | exact ⟨_, rfl⟩⟩
      · go_wp2
        go_ret
        obtain rfl : k = a.length := by omega
        have h3 := HE.out
        rw [List.take_length, HL.out, List.take_length] at h3
        exact ⟨by rw [decide_eq_true h3]; rfl, _, rfl⟩
  · have hL : ((a.length : Int) != (b.length : Int)) = true := by simp; omega
    have hne : a ≠ b := by rintro rfl; exact hlen rfl
    have HN := hide hne; clear hne
    have HL := hide hlen; clear hlen
    go_enter Try.func52, Try.ntmps52
    go_wp2
    go_ret
    exact ⟨by rw [decide_eq_false HN.out]; rfl, 0, rfl⟩
set_option maxRecDepth 100000 in
theorem errNum (A : Option Addr) (c : Nat) (l : List (Nm)) (w : World) (hs : Sl w A (nvs l)) (hl : l.length ≤ 1000000) :
    Calls Try.prog 92 #[.slice A l.length c] w fun x w' => x = .returned (.int .i64 (eachE numE l)) ∧ Below w.heap.size w w' := by
  have HS := hide hs; clear hs
  go_enter Try.func92, Try.ntmps92
  go_wp2
  go_loopw [3] (fun i wr => ∃ k : Nat, k ≤ l.length ∧ i = .int .i64 k ∧ eachE numE l = eachE numE (l.drop k) ∧ Below w.heap.size w wr) (fun i _ => l.length - (intOf i).toNat)
  case atStart => exact ⟨0, Nat.zero_le _, rfl, by simp, Below.refl _ _⟩
  case round =>
    obtain ⟨k, hk, rfl, he, hbel⟩ := hrel
    have HE := hide he; clear he
    have hbz := hbel.size
    by_cases hlt : k < l.length
    · obtain ⟨b, off, rfl, c0, c1, c2, c3⟩ := (HS.out.bel hbel).at4 hlt
      have HH := hide (eachE_skip numE l k hlt)
      have HT := hide (eachE_hit numE l k hlt)
      obtain ⟨x, hx⟩ : ∃ x, l[k] = x := ⟨_, rfl⟩
      rw [hx] at c0 c1 c2 c3 HH HT
      have HC := hide (fun W => isSmall_ref x W)
      cases hf : fitsB 1000000000 x
      · rw [hf] at HC
        have h2 := hide (show numE x = 2 by unfold numE; rw [hf]; rfl)
        clear hx hf HH
        go_wp2_with (go_at_call 36; go_must (refine (HC.out _).mono ?_; rintro e w1 ⟨rfl, hb1⟩; have b1 := Below.step hbel hb1; clear hb1; simp only []))
        go_ret
        exact ⟨by rw [HE.out, HT.out (by rw [h2.out]; decide), h2.out]; rfl, b1⟩
      · rw [hf] at HC
        have h2 := hide (show numE x = 0 by unfold numE; rw [hf]; rfl)
        clear hx hf HT
        go_wp2_with (go_at_call 36; go_must (refine (HC.out _).mono ?_; rintro e w1 ⟨rfl, hb1⟩; have b1 := Below.step hbel hb1; clear hb1; simp only []))
        go_roundw
        case rel => exact ⟨k + 1, by omega, by go_num, by rw [HE.out, HH.out h2.out], b1⟩
        case measure => simp [intOf]; omega
    · go_wp2
      go_ret
      exact ⟨by rw [HE.out, List.drop_eq_nil_of_le (by omega)]; rfl, hbel⟩
theorem samplesErr_ref (A : Option Addr) (c : Nat) (l : List Nm) (w : World) (hs : Sl w A (nvs l)) (hl : l.length ≤ 1000000) :
    Calls Try.prog 51 #[.slice A l.length c] w fun x w' => x = .returned (.int .i64 (smpE l)) ∧ Below w.heap.size w w' := by
  unfold smpE
  by_cases h : 120 < l.length
  · rw [if_pos h]
    go_enter Try.func51, Try.ntmps51
    go_wp2
    go_ret
    exact ⟨rfl, Below.refl _ _⟩
  · rw [if_neg h]
    have h' : l.length ≤ 120 := by omega
    have HE := hide (errNum A c l w hs hl)
    clear hs
    go_enter Try.func51, Try.ntmps51
    go_wp2_with (go_at_call 92; go_must (refine HE.out.mono ?_; rintro e w1 ⟨rfl, hb1⟩; simp only []))
    go_ret
    exact ⟨rfl, hb1⟩
theorem areSmall_ref (A : Option Addr) (c : Nat) (l : List Nm) (w : World) (hs : Sl w A (nvs l)) (hl : l.length ≤ 1000000) :
    Calls Try.prog 69 #[.slice A l.length c] w fun x w' => x = .returned (.bool (eachE numE l == 0)) ∧ Below w.heap.size w w' := by
  have HE := hide (errNum A c l w hs hl)
  clear hs
  go_enter Try.func69, Try.ntmps69
  go_wp2_with (go_at_call 92; go_must (refine HE.out.mono ?_; rintro e w1 ⟨rfl, hb1⟩; simp only []))
  go_ret
  exact ⟨rfl, hb1⟩
end Go.Proofs.Ythfmjohbokpceaa
