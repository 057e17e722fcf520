import Derived.Test.YtfolipkbcibgdaaGpA
namespace Go.Proofs.Ytfolipkbcibgdaa
open Go.RowKit Go.WideShapes Go.ChangeShapes

/-! the words of a line -/
def blk (c : UInt8) : Bool := c == 32 || c == 9
def wlen : Bs → Nat
  | [] => 0
  | c :: r => if blk c = true then 0 else wlen r + 1
def spl : Nat → Bs → Nat → List (Bs × Nat)
  | 0, _, _ => []
  | _ + 1, [], _ => []
  | f + 1, c :: r, p => if blk c = true then spl f r (p + 1) else ((c :: r).take (wlen (c :: r)), p + 1) :: spl f ((c :: r).drop (wlen (c :: r))) (p + wlen (c :: r))
theorem spl_fuel : ∀ (f g : Nat) (l : Bs) (p : Nat), l.length ≤ f → l.length ≤ g → spl f l p = spl g l p
  | 0, g, l, p, hf, _ => by
    obtain rfl : l = [] := List.length_eq_zero_iff.1 (by omega)
    cases g <;> rfl
  | f + 1, 0, l, p, _, hg => by
    obtain rfl : l = [] := List.length_eq_zero_iff.1 (by omega)
    rfl
  | f + 1, g + 1, [], p, _, _ => rfl
  | f + 1, g + 1, c :: r, p, hf, hg => by
    unfold spl
    simp only [List.length_cons] at hf hg
    split
    · exact spl_fuel f g r (p + 1) (by omega) (by omega)
    · rename_i hc
      have hw : 1 ≤ wlen (c :: r) := by unfold wlen; rw [if_neg hc]; omega
      rw [spl_fuel f g _ _ (by rw [List.length_drop, List.length_cons]; omega) (by rw [List.length_drop, List.length_cons]; omega)]
def splL (l : Bs) (i : Nat) : List (Bs × Nat) := spl l.length (l.drop i) i
theorem splL_end (l : Bs) (i : Nat) (h : l.length ≤ i) : splL l i = [] := by
  unfold splL
  rw [List.drop_eq_nil_of_le h]
  cases l.length <;> rfl
theorem splL_blank (l : Bs) (i : Nat) (h : i < l.length) (hb : blk l[i] = true) : splL l i = splL l (i + 1) := by
  unfold splL
  rw [List.drop_eq_getElem_cons h]
  obtain ⟨n, hn⟩ : ∃ n, l.length = n + 1 := ⟨l.length - 1, by omega⟩
  rw [hn]
  conv => lhs; unfold spl
  rw [if_pos hb]
  exact spl_fuel _ _ _ _ (by rw [List.length_drop]; omega) (by rw [List.length_drop]; omega)
theorem wlen_eq : ∀ (l : Bs) (m : Nat), m ≤ l.length → (∀ j (h : j < l.length), j < m → blk l[j] = false) → (∀ h : m < l.length, blk l[m] = true) → wlen l = m
  | [], m, h, _, _ => by simp at h; subst h; rfl
  | c :: r, 0, _, _, h2 => by
    have h3 : blk c = true := h2 (by simp)
    unfold wlen
    rw [if_pos h3]
  | c :: r, m + 1, h, h1, h2 => by
    have h0 := h1 0 (by simp) (by omega)
    unfold wlen
    rw [if_neg (by simp only [List.getElem_cons_zero] at h0; rw [h0]; simp)]
    rw [wlen_eq r m (by simpa using h) (fun j hj hm => h1 (j + 1) (by simpa using hj) (by omega)) (fun hm => h2 (by simpa using hm))]
theorem splL_word (l : Bs) (i k : Nat) (h : i < k) (hk : k ≤ l.length) (h1 : ∀ j (_ : j < l.length), i ≤ j → j < k → blk l[j] = false) (h2 : ∀ h : k < l.length, blk l[k] = true) : splL l i = ((l.drop i).take (k - i), i + 1) :: splL l k := by
  have hw : wlen (l.drop i) = k - i := wlen_eq _ _ (by rw [List.length_drop]; omega) (fun j hj hm => by rw [List.getElem_drop]; exact h1 (i + j) (by rw [List.length_drop] at hj; omega) (by omega) (by omega)) (fun hm => by
    rw [List.getElem_drop]
    have := h2 (by rw [List.length_drop] at hm; omega)
    simp only [show i + (k - i) = k by omega]; exact this)
  have hb := h1 i (by omega) (by omega) h
  have hd := List.drop_eq_getElem_cons (show i < l.length by omega)
  have hdd : (l.drop i).drop (k - i) = l.drop k := by rw [List.drop_drop, show i + (k - i) = k by omega]
  unfold splL
  obtain ⟨c, hc⟩ : ∃ c, l[i]'(by omega) = c := ⟨_, rfl⟩
  rw [hc] at hd hb
  rw [hd] at hw hdd ⊢
  obtain ⟨n, hn⟩ : ∃ n, l.length = n + 1 := ⟨l.length - 1, by omega⟩
  have hf := spl_fuel n l.length (l.drop k) k (by rw [List.length_drop]; omega) (by rw [List.length_drop]; omega)
  have e : spl (n + 1) (c :: l.drop (i + 1)) i = ((c :: l.drop (i + 1)).take (wlen (c :: l.drop (i + 1))), i + 1) :: spl n ((c :: l.drop (i + 1)).drop (wlen (c :: l.drop (i + 1)))) (i + wlen (c :: l.drop (i + 1))) := by
    conv => lhs; unfold spl
    rw [if_neg (by rw [hb]; simp)]
  rw [← hf, hn, e, hw, hdd, show i + (k - i) = k by omega]
def wdc (x : Bs × Nat) : List Value := [strV x.1, .int .i64 (x.2 : Int)]
theorem wdc_n (x : Bs × Nat) : (wdc x).length = 2 := rfl
theorem word_info : (Try.prog.info? 107).map (fun i => (i.zero, i.size, i.bytes)) = some (some (.agg #[.string ⟨#[]⟩, .int .i64 0]), 2, 24) := by kernel_rfl
theorem reads_word (w : World) (a b : Value) (t : TypeId) : Reads (w.alloc (.cells #[a, b] t)) (w.heap.size + 1) 2 (some ⟨w.heap.size, 0, none⟩) 1 [a, b] :=
  ⟨rfl, fun _ => ⟨_, rfl, by simp, fun j u hu => cell_two_new _ _ _ _ j u hu⟩⟩
theorem wdc_snoc (ws : List (Bs × Nat)) (x : Bs × Nat) : flatC wdc ws ++ [strV x.1, .int .i64 (x.2 : Int)] = flatC wdc (ws ++ [x]) := by simp [flatC, wdc]
def RetW (w : World) (ws : List (Bs × Nat)) (e : Ending) (w' : World) : Prop :=
  ∃ A c, e = .returned (.slice A ws.length c) ∧ w'.ownsRow w.heap.size 107 2 (.slice A ws.length c) ws.length (flatC wdc ws) ∧ Below w.heap.size w w'
theorem blk_cases (c : UInt8) : (blk c = true ∧ ((c.toNat : Int) == 32) = true) ∨ (blk c = true ∧ ((c.toNat : Int) == 32) = false ∧ ((c.toNat : Int) == 9) = true) ∨ (blk c = false ∧ ((c.toNat : Int) == 32) = false ∧ ((c.toNat : Int) == 9) = false) := by
  have e (n : Nat) (hn : n < 256) : (((c.toNat : Int) == (n : Int)) = true ↔ c = UInt8.ofNat n) := by
    rw [beq_iff_eq]
    constructor
    · intro h
      apply UInt8.toNat_inj.1
      rw [UInt8.toNat_ofNat']
      omega
    · intro h
      rw [h, UInt8.toNat_ofNat']
      omega
  have e32 := e 32 (by omega)
  have e9 := e 9 (by omega)
  unfold blk
  by_cases h1 : c = 32
  · exact .inl ⟨by simp [h1], e32.2 h1⟩
  · by_cases h2 : c = 9
    · exact .inr (.inl ⟨by simp [h2], by rw [← Bool.not_eq_true]; exact fun h => h1 (e32.1 h), e9.2 h2⟩)
    · exact .inr (.inr ⟨by simp [h1, h2], by rw [← Bool.not_eq_true]; exact fun h => h1 (e32.1 h), by rw [← Bool.not_eq_true]; exact fun h => h2 (e9.1 h)⟩)
set_option maxRecDepth 100000 in
set_option maxHeartbeats 8000000 in
theorem split_ref (l : Bs) (w : World) (hl : l.length ≤ 1000) : Calls Try.prog 54 #[strV l] w (RetW w (splL l 0)) := by
  obtain ⟨i0, hi0, hz0, hz1, hz2⟩ := info_parts word_info
  have hlen := fun t W => len_str l t W
  go_enter Try.func54, Try.ntmps54
  go_wp2
  go_loopw [3, 4] (fun o i wr => ∃ (k : Nat) (C : Option Addr) (c1 m : Nat) (ws : List (Bs × Nat)), (k ≤ l.length ∧ m ≤ k) ∧ i = .int .i64 (k : Int) ∧ o = .slice C m c1 ∧ (ws.length = m ∧ splL l 0 = ws ++ splL l k) ∧ wr.ownsRow w.heap.size 107 2 (.slice C m c1) m (flatC wdc ws) ∧ Below w.heap.size w wr) (fun _ i _ => l.length - (intOf i).toNat)
  case atStart => exact ⟨0, none, 0, 0, [], ⟨Nat.zero_le _, Nat.le_refl _⟩, rfl, rfl, ⟨rfl, by simp⟩, World.ownsRow_nil _ _ _ _, Below.refl _ _⟩
  case round =>
    obtain ⟨k, C, c1, m, ws, ⟨hk, hmk⟩, rfl, rfl, ⟨hws, hsp⟩, hrow, hbel⟩ := hrel
    have HROW := hide hrow
    have HBE := hide hbel
    have HWS := hide hws
    have HSP := hide hsp
    clear hrow hbel hws hsp
    by_cases hlt : k < l.length
    · have hidx := fun W => idx_str l k hlt W
      have g1 : (k : Int) < (l.length : Int) := by omega
      have HBL := hide (fun h => splL_blank l k hlt h)
      rcases blk_cases l[k] with ⟨q1, q2⟩ | ⟨q1, q2, q3⟩ | ⟨q1, q2, q3⟩
      · have HS2 := hide (show splL l 0 = ws ++ splL l (k + 1) from by rw [HSP.out, HBL.out q1])
        clear q1
        go_wp2_with fail
        go_roundw
        case rel => exact ⟨k + 1, C, c1, m, ws, ⟨by omega, by omega⟩, by go_num, rfl, ⟨HWS.out, HS2.out⟩, HROW.out, HBE.out⟩
        case measure => simp [intOf]; omega
      · have HS2 := hide (show splL l 0 = ws ++ splL l (k + 1) from by rw [HSP.out, HBL.out q1])
        clear q1
        go_wp2_with fail
        go_roundw
        case rel => exact ⟨k + 1, C, c1, m, ws, ⟨by omega, by omega⟩, by go_num, rfl, ⟨HWS.out, HS2.out⟩, HROW.out, HBE.out⟩
        case measure => simp [intOf]; omega
      · have HB0 := hide q1
        clear q1 HBL
        go_wp2_with fail
        clear hidx q2 q3
        obtain ⟨wo, hwo⟩ : ∃ wo : World, wo = wr := ⟨_, rfl⟩
        subst hwo
        go_loopw [4] (fun i wr => ∃ j : Nat, (k ≤ j ∧ j ≤ l.length) ∧ i = .int .i64 (j : Int) ∧ (∀ q (_ : q < l.length), k ≤ q → q < j → blk l[q] = false) ∧ wo = wr) (fun i _ => l.length - (intOf i).toNat)
        case atStart => exact ⟨k, ⟨Nat.le_refl _, hk⟩, rfl, fun q _ h1 h2 => absurd h1 (by omega), rfl⟩
        case round =>
          obtain ⟨j, ⟨hj1, hj2⟩, rfl, hno, rfl⟩ := hrel
          have HNO := hide hno
          clear hno
          rcases (by by_cases q : j < l.length; rcases blk_cases l[j] with h | h | h; exact .inr (.inl ⟨q, h⟩); exact .inr (.inr (.inl ⟨q, h⟩)); exact .inr (.inr (.inr ⟨q, h⟩)); exact .inl q : ¬ j < l.length ∨ (∃ q : j < l.length, blk l[j] = true ∧ ((l[j].toNat : Int) == 32) = true) ∨ (∃ q : j < l.length, blk l[j] = true ∧ ((l[j].toNat : Int) == 32) = false ∧ ((l[j].toNat : Int) == 9) = true) ∨ (∃ q : j < l.length, blk l[j] = false ∧ ((l[j].toNat : Int) == 32) = false ∧ ((l[j].toNat : Int) == 9) = false)) with q | ⟨q, q1, q2⟩ | ⟨q, q1, q2, q3⟩ | ⟨q, q1, q2, q3⟩
          · obtain rfl : j = l.length := by omega
            have g2 : ¬ (l.length : Int) < (l.length : Int) := by omega
            have g2' : decide ((l.length : Int) < (l.length : Int)) = false := decide_eq_false g2
            have HEND := hide (show ∀ h : l.length < l.length, blk l[l.length] = true from fun h => absurd h (by omega))
            have hkj : k < l.length := by
              rcases Nat.lt_or_ge k l.length with h | h
              · exact h
              · omega
            have HW := hide (show splL l 0 = (ws ++ [((l.drop k).take (l.length - k), k + 1)]) ++ splL l l.length from by rw [HSP.out, splL_word l k l.length hkj (by omega) HNO.out HEND.out]; simp)
            have hsl := fun W => slice_mid l k l.length (by omega) (by omega) W
            obtain ⟨X, hX⟩ : ∃ X, (l.drop k).take (l.length - k) = X := ⟨_, rfl⟩
            rw [hX] at hsl HW
            clear hX
            go_wp2_with (at_builtin
                         refine wpList_append_any _ rfl (.tmp 41) (.tmp 49) _ rfl w.heap.size 107 i0 _ 2 24 Try.underlying104 hi0 hz0 hz1 hz2 rfl (by omega) _ m (flatC wdc ws) rfl
                           (HROW.out.alloc _) (wo.heap.size + 1) (some ⟨wo.heap.size, 0, none⟩) 1 1 [strV X, .int .i64 ((k : Int) + 1)] rfl (reads_word wo (strV X) (.int .i64 ((k : Int) + 1)) 107) (by simp [Value.oneCell', strV]) (by simp only [maxLen]; omega) (by omega) (by have := HBE.out.size; simp; omega) ?_
                         intro v' w6 hown' hgrow _)
            obtain ⟨C2, k2, rfl⟩ := own_form hown'
            go_roundw
            case rel => exact ⟨l.length, C2, k2, m + 1, ws ++ [(X, k + 1)], ⟨by omega, by omega⟩, rfl, rfl, ⟨by rw [List.length_append, HWS.out]; rfl, HW.out⟩, by rw [← wdc_snoc]; exact hown', Below.app HBE.out HROW.out hgrow⟩
            case measure => simp [intOf]; omega
          · have hidx := fun W => idx_str l j q W
            have g2 : (j : Int) < (l.length : Int) := by omega
            have g2' : decide ((j : Int) < (l.length : Int)) = true := decide_eq_true g2
            have HEND := hide (show ∀ h : j < l.length, blk l[j] = true from fun _ => q1)
            have q2' : ((l[j].toNat : Int) != 32) = false := by simpa [bne] using q2
            have hkj : k < j := by
              rcases Nat.lt_or_ge k j with h | h
              · exact h
              · exfalso
                obtain rfl : k = j := by omega
                have := HB0.out
                rw [q1] at this
                cases this
            have HW := hide (show splL l 0 = (ws ++ [((l.drop k).take (j - k), k + 1)]) ++ splL l j from by rw [HSP.out, splL_word l k j hkj (by omega) HNO.out HEND.out]; simp)
            have hsl := fun W => slice_mid l k j (by omega) (by omega) W
            obtain ⟨X, hX⟩ : ∃ X, (l.drop k).take (j - k) = X := ⟨_, rfl⟩
            rw [hX] at hsl HW
            clear q1
            clear hX
            go_wp2_with (at_builtin
                         refine wpList_append_any _ rfl (.tmp 41) (.tmp 49) _ rfl w.heap.size 107 i0 _ 2 24 Try.underlying104 hi0 hz0 hz1 hz2 rfl (by omega) _ m (flatC wdc ws) rfl
                           (HROW.out.alloc _) (wo.heap.size + 1) (some ⟨wo.heap.size, 0, none⟩) 1 1 [strV X, .int .i64 ((k : Int) + 1)] rfl (reads_word wo (strV X) (.int .i64 ((k : Int) + 1)) 107) (by simp [Value.oneCell', strV]) (by simp only [maxLen]; omega) (by omega) (by have := HBE.out.size; simp; omega) ?_
                         intro v' w6 hown' hgrow _)
            obtain ⟨C2, k2, rfl⟩ := own_form hown'
            go_roundw
            case rel => exact ⟨j, C2, k2, m + 1, ws ++ [(X, k + 1)], ⟨by omega, by omega⟩, rfl, rfl, ⟨by rw [List.length_append, HWS.out]; rfl, HW.out⟩, by rw [← wdc_snoc]; exact hown', Below.app HBE.out HROW.out hgrow⟩
            case measure => simp [intOf]; omega
          · have hidx := fun W => idx_str l j q W
            have g2 : (j : Int) < (l.length : Int) := by omega
            have g2' : decide ((j : Int) < (l.length : Int)) = true := decide_eq_true g2
            have HEND := hide (show ∀ h : j < l.length, blk l[j] = true from fun _ => q1)
            have q2' : ((l[j].toNat : Int) != 32) = true := by simpa [bne] using q2
            have q3' : ((l[j].toNat : Int) != 9) = false := by simpa [bne] using q3
            have hkj : k < j := by
              rcases Nat.lt_or_ge k j with h | h
              · exact h
              · exfalso
                obtain rfl : k = j := by omega
                have := HB0.out
                rw [q1] at this
                cases this
            have HW := hide (show splL l 0 = (ws ++ [((l.drop k).take (j - k), k + 1)]) ++ splL l j from by rw [HSP.out, splL_word l k j hkj (by omega) HNO.out HEND.out]; simp)
            have hsl := fun W => slice_mid l k j (by omega) (by omega) W
            obtain ⟨X, hX⟩ : ∃ X, (l.drop k).take (j - k) = X := ⟨_, rfl⟩
            rw [hX] at hsl HW
            clear q1
            clear hX
            go_wp2_with (at_builtin
                         refine wpList_append_any _ rfl (.tmp 41) (.tmp 49) _ rfl w.heap.size 107 i0 _ 2 24 Try.underlying104 hi0 hz0 hz1 hz2 rfl (by omega) _ m (flatC wdc ws) rfl
                           (HROW.out.alloc _) (wo.heap.size + 1) (some ⟨wo.heap.size, 0, none⟩) 1 1 [strV X, .int .i64 ((k : Int) + 1)] rfl (reads_word wo (strV X) (.int .i64 ((k : Int) + 1)) 107) (by simp [Value.oneCell', strV]) (by simp only [maxLen]; omega) (by omega) (by have := HBE.out.size; simp; omega) ?_
                         intro v' w6 hown' hgrow _)
            obtain ⟨C2, k2, rfl⟩ := own_form hown'
            go_roundw
            case rel => exact ⟨j, C2, k2, m + 1, ws ++ [(X, k + 1)], ⟨by omega, by omega⟩, rfl, rfl, ⟨by rw [List.length_append, HWS.out]; rfl, HW.out⟩, by rw [← wdc_snoc]; exact hown', Below.app HBE.out HROW.out hgrow⟩
            case measure => simp [intOf]; omega
          · have hidx := fun W => idx_str l j q W
            have g2 : (j : Int) < (l.length : Int) := by omega
            have g2' : decide ((j : Int) < (l.length : Int)) = true := decide_eq_true g2
            have q2' : ((l[j].toNat : Int) != 32) = true := by simpa [bne] using q2
            have q3' : ((l[j].toNat : Int) != 9) = true := by simpa [bne] using q3
            have HN2 := hide (show ∀ q (_ : q < l.length), k ≤ q → q < j + 1 → blk l[q] = false from fun r hr h1 h2 => by
              by_cases e : r < j
              · exact HNO.out r hr h1 e
              · obtain rfl : r = j := by omega
                exact q1)
            clear q1
            go_wp2_with fail
            go_roundw
            case rel => exact ⟨j + 1, ⟨by omega, by omega⟩, by go_num, HN2.out, by first | rfl | trivial⟩
            case measure => simp [intOf]; omega
    · obtain rfl : k = l.length := by omega
      have g1 : ¬ (l.length : Int) < (l.length : Int) := by omega
      have HE := hide (show splL l 0 = ws from by rw [HSP.out, splL_end l l.length (Nat.le_refl _)]; simp)
      go_wp2_with fail
      go_ret
      rw [HE.out]
      unfold RetW
      rw [HWS.out]
      exact ⟨C, c1, rfl, HROW.out, HBE.out⟩
end Go.Proofs.Ytfolipkbcibgdaa
