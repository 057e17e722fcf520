import Derived.Test.YthfmjohbokpceaaWvV
namespace Go.Proofs.Ythfmjohbokpceaa
open Go.RowKit Go.WideShapes Go.ChangeShapes

/-! shifts, sequences and correlations: the reference -/
theorem Shifts_ref (n : Nat) (hn : n < 1008) (w : World) : Calls Try.prog 43 #[.int .i64 (n : Int)] w fun e w' => e = .returned (.agg (shC n)) ∧ Below w.heap.size w w' := by
  go_enter Try.func43, Try.ntmps43
  go_wp2
  refine bodyPost_ret (v := .agg (shC n)) (by simp [results, Try.results43, go_sem, shC]) rfl ⟨rfl, by go_grown⟩
theorem Sl.all {w : World} {A : Option Addr} {xs : List Value} (hs : Sl w A xs) (h : 0 < xs.length) : ∃ b off, A = some ⟨b, off, none⟩ ∧ ∀ (j : Nat) (u : Value), xs[j]? = some u → w.cell? ⟨b, off + j, none⟩ = some u := by
  obtain ⟨b, off, e, _⟩ := hs 0 h
  exact ⟨b, off, e, fun j u hu => hs.one e hu⟩
theorem iv_at (xs : List Int) (k : Nat) (h : k < xs.length) : (iv xs)[k]? = some (.int .i64 (xs[k]?.getD 0)) := by
  rw [List.getElem?_eq_getElem (by rw [iv_length]; exact h), iv_get, List.getElem?_eq_getElem h]; rfl
set_option maxRecDepth 100000 in
set_option maxHeartbeats 2000000 in
theorem bits_ref (A : Option Addr) (c m : Nat) (l : List Nat) (w : World) (hm : (0 :: l).length = m) (hs : Sl w A (iv (zs (0 :: l)))) (hl : m ≤ 100) (ht : ∀ t ∈ 0 :: l, t ≤ 4) :
    Calls Try.prog 134 #[.slice A m c] w fun e w' => ∃ C k, e = .returned (.slice C 31 k) ∧ w'.ownsRow w.heap.size 3 1 (.slice C 31 k) 31 (iv (regL l 26)) ∧ Below w.heap.size w w' := by
  obtain ⟨i0, hi0, hz0, hz1, hz2⟩ := info_parts int_infoW
  have HLEN := hide (regL_len l)
  have HGET := hide (regL_get l)
  have HSTEP := hide (show ∀ k, regL l (k + 1) = regL l k ++ [tapSum (regL l k) k (0 :: l) 0 % 2] from fun k => by
    show regL l k ++ [tapSum (regL l k) k l ((regL l k)[k]?.getD 0) % 2] = _
    rw [tapSum, Nat.add_zero, Int.zero_add])
  obtain ⟨p, hp⟩ : ∃ p, 0 :: l = p := ⟨_, rfl⟩
  rw [hp] at hm hs ht HSTEP
  have HM := hide hm
  have HS := hide (fun k (hk : k < p.length) => hs.nat hk)
  have HT := hide (show ∀ k (hk : k < p.length), p[k] ≤ 4 from fun k hk => ht _ (List.getElem_mem hk))
  clear hm hs ht hp
  go_enter Try.func134, Try.ntmps134
  go_wp2
  go_loopw [3, 4] (fun o i wr => ∃ (k : Nat) (C : Option Addr) (c1 : Nat), k ≤ 26 ∧ i = .int .i64 k ∧ o = .slice C (k + 5) c1 ∧ wr.ownsRow w.heap.size 3 1 (.slice C (k + 5) c1) (k + 5) (iv (regL l k)) ∧ Below w.heap.size w wr) (fun _ i _ => 31 - (intOf i).toNat)
  case atStart => exact ⟨0, _, 5, Nat.zero_le _, rfl, rfl, World.ownsRow_lit w _ 5 (Nat.le_refl _) (by simp [maxLen]) rfl, by go_grown⟩
  case round =>
    obtain ⟨k, C, c1, hk, rfl, rfl, hrow, hbel⟩ := hrel
    have hbz := hbel.size
    have hlen := HLEN.out k
    by_cases hlt : k < 26
    · have hd : decide ((k : Int) + 5 < 31) = true := by rw [decide_eq_true_iff]; omega
      obtain ⟨b1, o1, rfl, hcell⟩ := (Sl.of_own hrow).all (by rw [iv_length]; omega)
      have hst := hide (HSTEP.out k)
      have HCELL := hide (show ∀ t, t ≤ 4 → wr.cell? ⟨b1, o1 + (k + t), none⟩ = some (.int .i64 ((regL l k)[k + t]?.getD 0)) ∧ 0 ≤ (regL l k)[k + t]?.getD 0 ∧ (regL l k)[k + t]?.getD 0 ≤ 1 from fun t ht => ⟨hcell _ _ (iv_at _ _ (by omega)), HGET.out k _⟩)
      have hbd := fun l' => tap_bd (regL l k) k (HGET.out k) l' 0 (by omega)
      have HBD := hide hbd
      have HROW := hide hrow
      clear hrow hbd hcell hlen HSTEP
      go_wp2
      go_loop [5, 6] (fun s i => ∃ j : Nat, j ≤ m ∧ i = .int .i64 j ∧ s = .int .i64 (tapSum (regL l k) k (p.take j) 0)) (fun _ i => m - (intOf i).toNat)
      case atStart => exact ⟨0, Nat.zero_le _, rfl, rfl⟩
      case round =>
        obtain ⟨j, hj, rfl, rfl⟩ := hrel
        by_cases hlt2 : j < m
        · have hjl : j < p.length := by rw [HM.out]; exact hlt2
          obtain ⟨b, off, rfl, d⟩ := HS.out j hjl
          have d1 := (hbel.cell (p := ⟨b, off + j, none⟩) (lt_of_cell d)).trans d
          have ht := HT.out j hjl
          obtain ⟨hc1, hg1, hg2⟩ := HCELL.out p[j] ht
          have hb1 := HBD.out (p.take j)
          have hb2 := List.length_take_le j p
          have HSN := hide (show tapSum (regL l k) k (p.take (j + 1)) 0 = tapSum (regL l k) k (p.take j) 0 + (regL l k)[k + p[j]]?.getD 0 by rw [List.take_succ_eq_append_getElem hjl, tapSum_snoc])
          obtain ⟨t, ht'⟩ : ∃ t, p[j] = t := ⟨_, rfl⟩
          rw [ht'] at d1 ht hc1 hg1 hg2 HSN
          obtain ⟨x, hx⟩ : ∃ x, (regL l k)[k + t]?.getD 0 = x := ⟨_, rfl⟩
          rw [hx] at hc1 hg1 hg2 HSN
          obtain ⟨s, hs⟩ : ∃ s, tapSum (regL l k) k (p.take j) 0 = s := ⟨_, rfl⟩
          rw [hs] at hb1 HSN
          rw [hs]
          have hkt : ((k : Int) + (t : Int)).toNat = k + t := by omega
          have hk0 : (0 : Int) ≤ (k : Int) + (t : Int) := by omega
          have hk1 : (k : Int) + (t : Int) < (k : Int) + 5 := by omega
          obtain ⟨hb3, hb4⟩ := hb1
          clear d ht' hx hs
          go_wp2
          go_round
          case rel => exact ⟨j + 1, by omega, by go_num, by rw [HSN.out]⟩
          case measure => simp [intOf]; omega
        · have hjm : tapSum (regL l k) k (p.take j) 0 = tapSum (regL l k) k p 0 := by rw [List.take_of_length_le (by have := HM.out; omega)]
          obtain ⟨hb1, hb2⟩ := HBD.out p
          have hml := HM.out
          rw [hml] at hb2
          clear hml
          rw [hjm]
          clear hjm
          obtain ⟨s, hs⟩ : ∃ s, tapSum (regL l k) k p 0 = s := ⟨_, rfl⟩
          rw [hs] at hb1 hb2 hst
          rw [hs]
          clear hs
          have HCE : Hid (Reads (wr.alloc (.cells #[.int .i64 (s % 2)] 3)) (wr.heap.size + 1) 1 (some ⟨wr.heap.size, 0, none⟩) 1 [.int .i64 (s % 2)]) := hide (cell_one wr (.int .i64 (s % 2)) 3)
          go_wp2_with (at_builtin
                       refine wpList_append_any _ rfl (.tmp 30) (.tmp 33) _ rfl w.heap.size 3 i0 _ 1 8 Try.underlying24 hi0 hz0 hz1 hz2 rfl (by omega) _ (k + 5) (iv (regL l k)) rfl
                         (HROW.out.alloc _) (wr.heap.size + 1) (some ⟨wr.heap.size, 0, none⟩) 1 1 [.int .i64 (s % 2)] rfl HCE.out (by simp [Value.oneCell']) (by simp only [maxLen]; omega) (by omega) (by simp; omega) ?_
                       intro v' w6 hown' hgrow _)
          obtain ⟨C2, k2, rfl⟩ := own_form hown'
          have hbel6 : Below w.heap.size w w6 := Below.app hbel HROW.out hgrow
          go_roundw
          case rel => exact ⟨k + 1, C2, k2, by omega, by go_num, by rw [show k + 1 + 5 = k + 5 + 1 by omega], by rw [hst.out, iv_append, show k + 1 + 5 = k + 5 + 1 by omega]; exact hown', hbel6⟩
          case measure => simp [intOf]; omega
    · have hd : decide ((k : Int) + 5 < 31) = false := by rw [decide_eq_false_iff_not]; omega
      obtain rfl : k = 26 := by omega
      have HROW := hide hrow
      clear hrow
      go_wp2
      go_ret
      exact ⟨C, c1, rfl, HROW.out, hbel⟩
end Go.Proofs.Ythfmjohbokpceaa
