import Derived.Test.YtppkibgemacdbaaScA
import Derived.Test.YtppkibgemacdbaaMge
namespace Go.Proofs.Ytppkibgemacdbaa
open Go.RowKit Go.WideShapes Go.ChangeShapes

/-! Few of any list; CopySlots of any slots -/
def FewR (L : List Ber) (n m : Nat) (w : World) (e : Ending) (w' : World) : Prop := (∃ v : Bool, e = .returned (.bool v) ∧ (v = true → n ≤ 18 ∧ m ≤ 10 ∧ ∀ x ∈ L, x.nm.length ≤ 20)) ∧ Below w.heap.size w w'
set_option maxRecDepth 100000 in
set_option maxHeartbeats 8000000 in
theorem few_all (B C P : Int) (A : Option Addr) (c n : Nat) (L : List Ber) (D : Option Addr) (d m : Nat) (w : World) (hm : L.length = m) (hD : Brs w D L) :
    Calls Try.prog 6 #[.agg #[.int .i64 B, .int .i64 C, .int .i64 P, .slice A n c], .slice D m d] w (FewR L n m w) := by
  have HB := hide ((Below.refl _ w).alloc (Nat.le_refl _) (.cells #[.int .i64 B, .int .i64 C, .int .i64 P, .slice A n c] 24))
  have HD := hide (hD.bel ((Below.refl _ w).alloc (Nat.le_refl _) (.cells #[.int .i64 B, .int .i64 C, .int .i64 P, .slice A n c] 24)))
  clear hD
  have hcase : 18 < n ∨ (n ≤ 18 ∧ m ≤ 6) ∨ (n ≤ 18 ∧ m = 7) ∨ (n ≤ 18 ∧ 8 ≤ m ∧ m ≤ 10) ∨ (n ≤ 18 ∧ 10 < m) := by omega
  rcases hcase with h1 | ⟨h1, h2⟩ | ⟨h1, h2⟩ | ⟨h1, h2, h3⟩ | ⟨h1, h2⟩
  · have g1 : (18 : Int) < (n : Int) := by omega
    clear h1
    go_enter Try.func6, Try.ntmps6
    go_wp2_with fail
    go_ret
    exact ⟨⟨false, rfl, fun h => absurd h (by decide)⟩, HB.out⟩
  · have g1 : ¬ (18 : Int) < (n : Int) := by omega
    have g2 : ¬ (6 : Int) < (m : Int) := by omega
    have g3 : ¬ (10 : Int) < (m : Int) := by omega
    have hm10 : m ≤ 10 := by omega
    clear h2
    have HM := hide (And.intro h1 hm10)
    clear h1
    go_enter Try.func6, Try.ntmps6
    go_wp2_with fail
    obtain ⟨W0, hW0⟩ : ∃ W0, w.alloc (.cells #[.int .i64 B, .int .i64 C, .int .i64 P, .slice A n c] 24) = W0 := ⟨_, rfl⟩
    rw [hW0] at HB HD ⊢
    clear hW0
    go_loopw [5] (fun i wr => ∃ k : Nat, k ≤ m ∧ i = .int .i64 k ∧ (∀ j (h : j < L.length), j < k → L[j].nm.length ≤ 20) ∧ W0 = wr) (fun i _ => m - (intOf i).toNat)
    case atStart => exact ⟨0, Nat.zero_le _, rfl, fun j _ hj => absurd hj (by omega), rfl⟩
    case round =>
      obtain ⟨k, hkm, rfl, hpre, rfl⟩ := hrel
      replace hpre := hide hpre
      by_cases hlt : k < m
      · have hkl : k < L.length := by omega
        have hki : (k : Int) < (m : Int) := by omega
        obtain ⟨b, o, rfl, b0, -⟩ := HD.out.at_ k hkl
        have hlen := fun t W => len_str L[k].nm t W
        obtain ⟨q, hq⟩ : ∃ q, L[k].nm.length = q := ⟨_, rfl⟩
        rw [hq] at hlen
        have hnext := hide (fun (hc : q ≤ 20) j (h : j < L.length) (hj : j < k + 1) => show L[j].nm.length ≤ 20 from by
          by_cases e : j < k
          · exact hpre.out j h e
          · obtain rfl : j = k := by omega
            rw [hq]; exact hc)
        obtain ⟨nn, hnn⟩ : ∃ s, L[k].nm = s := ⟨_, rfl⟩
        rw [hnn] at hlen b0
        clear hq hnn
        by_cases h20 : q ≤ 20
        · have g5 : ¬ (20 : Int) < (q : Int) := by omega
          replace h20 := hide h20
          go_wp2_with fail
          exact ⟨⟨k + 1, by omega, by go_num, hnext.out h20.out, trivial⟩, by simp [intOf]; omega⟩
        · have g5 : (20 : Int) < (q : Int) := by omega
          clear h20
          go_wp2_with fail
          go_ret
          exact ⟨⟨false, rfl, fun h => absurd h (by decide)⟩, HB.out⟩
      · have hki : ¬ (k : Int) < (m : Int) := by omega
        have HF := hide (show ∀ x ∈ L, x.nm.length ≤ 20 from fun x hx => by
          obtain ⟨j, hj, rfl⟩ := List.getElem_of_mem hx
          exact hpre.out j hj (by omega))
        go_wp2_with fail
        go_ret
        exact ⟨⟨true, rfl, fun _ => ⟨HM.out.1, HM.out.2, HF.out⟩⟩, HB.out⟩
  · have g1 : ¬ (18 : Int) < (n : Int) := by omega
    have g2 : (6 : Int) < (m : Int) := by omega
    have g3 : (m : Int) < 8 := by omega
    clear h1 h2
    go_enter Try.func6, Try.ntmps6
    go_wp2_with fail
    go_ret
    exact ⟨⟨false, rfl, fun h => absurd h (by decide)⟩, HB.out⟩
  · have g1 : ¬ (18 : Int) < (n : Int) := by omega
    have g2 : (6 : Int) < (m : Int) := by omega
    have g4 : ¬ (m : Int) < 8 := by omega
    have g3 : ¬ (10 : Int) < (m : Int) := by omega
    have hm10 : m ≤ 10 := by omega
    clear h2 h3
    have HM := hide (And.intro h1 hm10)
    clear h1
    go_enter Try.func6, Try.ntmps6
    go_wp2_with fail
    obtain ⟨W0, hW0⟩ : ∃ W0, w.alloc (.cells #[.int .i64 B, .int .i64 C, .int .i64 P, .slice A n c] 24) = W0 := ⟨_, rfl⟩
    rw [hW0] at HB HD ⊢
    clear hW0
    go_loopw [5] (fun i wr => ∃ k : Nat, k ≤ m ∧ i = .int .i64 k ∧ (∀ j (h : j < L.length), j < k → L[j].nm.length ≤ 20) ∧ W0 = wr) (fun i _ => m - (intOf i).toNat)
    case atStart => exact ⟨0, Nat.zero_le _, rfl, fun j _ hj => absurd hj (by omega), rfl⟩
    case round =>
      obtain ⟨k, hkm, rfl, hpre, rfl⟩ := hrel
      replace hpre := hide hpre
      by_cases hlt : k < m
      · have hkl : k < L.length := by omega
        have hki : (k : Int) < (m : Int) := by omega
        obtain ⟨b, o, rfl, b0, -⟩ := HD.out.at_ k hkl
        have hlen := fun t W => len_str L[k].nm t W
        obtain ⟨q, hq⟩ : ∃ q, L[k].nm.length = q := ⟨_, rfl⟩
        rw [hq] at hlen
        have hnext := hide (fun (hc : q ≤ 20) j (h : j < L.length) (hj : j < k + 1) => show L[j].nm.length ≤ 20 from by
          by_cases e : j < k
          · exact hpre.out j h e
          · obtain rfl : j = k := by omega
            rw [hq]; exact hc)
        obtain ⟨nn, hnn⟩ : ∃ s, L[k].nm = s := ⟨_, rfl⟩
        rw [hnn] at hlen b0
        clear hq hnn
        by_cases h20 : q ≤ 20
        · have g5 : ¬ (20 : Int) < (q : Int) := by omega
          replace h20 := hide h20
          go_wp2_with fail
          exact ⟨⟨k + 1, by omega, by go_num, hnext.out h20.out, trivial⟩, by simp [intOf]; omega⟩
        · have g5 : (20 : Int) < (q : Int) := by omega
          clear h20
          go_wp2_with fail
          go_ret
          exact ⟨⟨false, rfl, fun h => absurd h (by decide)⟩, HB.out⟩
      · have hki : ¬ (k : Int) < (m : Int) := by omega
        have HF := hide (show ∀ x ∈ L, x.nm.length ≤ 20 from fun x hx => by
          obtain ⟨j, hj, rfl⟩ := List.getElem_of_mem hx
          exact hpre.out j hj (by omega))
        go_wp2_with fail
        go_ret
        exact ⟨⟨true, rfl, fun _ => ⟨HM.out.1, HM.out.2, HF.out⟩⟩, HB.out⟩
  · have g1 : ¬ (18 : Int) < (n : Int) := by omega
    have g2 : (6 : Int) < (m : Int) := by omega
    have g4 : ¬ (m : Int) < 8 := by omega
    have g3 : (10 : Int) < (m : Int) := by omega
    clear h1 h2
    go_enter Try.func6, Try.ntmps6
    go_wp2_with fail
    go_ret
    exact ⟨⟨false, rfl, fun h => absurd h (by decide)⟩, HB.out⟩
/-! rows of slots -/
def lst (p : Nat) (f : Nat → Int) : List Int := (List.range p).map f
theorem lst_len (p : Nat) (f : Nat → Int) : (lst p f).length = p := by simp [lst]
theorem lst_at (p : Nat) (f : Nat → Int) (i : Nat) (hi : i < (lst p f).length) : (lst p f)[i] = f i := by simp [lst]
theorem row_sl {W : World} {RA QA : Option Addr} {p : Nat} {f g : Nat → Int} (h : RowAt W RA QA p f g) : Sl W RA (iv (lst p f)) ∧ Sl W QA (iv (lst p g)) := by
  refine ⟨fun k hk => ?_, fun k hk => ?_⟩
  · have hk' : k < p := by rw [iv_length, lst_len] at hk; exact hk
    obtain ⟨rb, ro, qb, qo, e1, e2, h1, h2⟩ := h k hk'
    exact ⟨rb, ro, e1, by rw [h1]; simp [iv, lst]⟩
  · have hk' : k < p := by rw [iv_length, lst_len] at hk; exact hk
    obtain ⟨rb, ro, qb, qo, e1, e2, h1, h2⟩ := h k hk'
    exact ⟨qb, qo, e2, by rw [h2]; simp [iv, lst]⟩
theorem sl_rows {W : World} {RA QA : Option Addr} {p : Nat} {f g : Nat → Int} (h : Sl W RA (iv (lst p f))) (h' : Sl W QA (iv (lst p g))) : RowAt W RA QA p f g := fun i hi => by
  obtain ⟨rb, ro, e1, h1⟩ := h i (by rw [iv_length, lst_len]; exact hi)
  obtain ⟨qb, qo, e2, h2⟩ := h' i (by rw [iv_length, lst_len]; exact hi)
  exact ⟨rb, ro, qb, qo, e1, e2, by rw [h1]; simp [iv, lst], by rw [h2]; simp [iv, lst]⟩
theorem copyRow (A : Option Addr) (c p : Nat) (f : Nat → Int) (w : World) (hs : Sl w A (iv (lst p f))) (hl : p ≤ 1000) :
    Calls Try.prog 34 #[.slice A p c] w fun e w' => ∃ A' c', e = .returned (.slice A' p c') ∧ w'.ownsRow w.heap.size 3 1 (.slice A' p c') p (iv (lst p f)) ∧ Below w.heap.size w w' := by
  have h := copyInts A c (lst p f) w hs (by rw [lst_len]; omega)
  unfold RetI OwnI at h
  rw [lst_len] at h
  exact h
def RowsA (W : World) (v : Value) (xs : List Value) (k p : Nat) (rs ars : Nat → Nat → Int) : Prop := ∀ j, j < k → ∃ RA r QA q, xs[j * 2]? = some (.slice RA p r) ∧ xs[j * 2 + 1]? = some (.slice QA p q) ∧ RowAt W RA QA p (rs j) (ars j) ∧
  (0 < p → ∀ b o, RA = some ⟨b, o, none⟩ → v.ownBlock ≠ some b) ∧ (0 < p → ∀ b o, QA = some ⟨b, o, none⟩ → v.ownBlock ≠ some b)
theorem rowsA_bel {W W' : World} {v : Value} {xs : List Value} {k p : Nat} {rs ars : Nat → Nat → Int} (h : RowsA W v xs k p rs ars) (hb : Below W.heap.size W W') : RowsA W' v xs k p rs ars := fun j hj => by
  obtain ⟨RA, r, QA, q, h1, h2, h3, h4⟩ := h j hj
  exact ⟨RA, r, QA, q, h1, h2, h3.bel hb, h4⟩
theorem row_far {w w' : World} {v v' : Value} {RA QA : Option Addr} {p : Nat} {f g : Nat → Int} (h1 : RowAt w RA QA p f g) (h2 : 0 < p → ∀ b o, RA = some ⟨b, o, none⟩ → v.ownBlock ≠ some b) (h3 : 0 < p → ∀ b o, QA = some ⟨b, o, none⟩ → v.ownBlock ≠ some b)
    (hg : w.grownBy w' v.ownBlock) (hv : v'.ownBlock = v.ownBlock ∨ v'.ownBlock = some w.heap.size) : RowAt w' RA QA p f g ∧ (0 < p → ∀ b o, RA = some ⟨b, o, none⟩ → v'.ownBlock ≠ some b) ∧ (0 < p → ∀ b o, QA = some ⟨b, o, none⟩ → v'.ownBlock ≠ some b) := by
  refine ⟨fun i hi => ?_, fun hp b o e => ?_, fun hp b o e => ?_⟩
  · obtain ⟨rb, ro, qb, qo, e1, e2, c1, c2⟩ := h1 i hi
    exact ⟨rb, ro, qb, qo, e1, e2, (hg.cell_far ⟨rb, ro + i, none⟩ (lt_of_cell c1) (fun e => h2 (by omega) rb ro e1 e.symm)).trans c1, (hg.cell_far ⟨qb, qo + i, none⟩ (lt_of_cell c2) (fun e => h3 (by omega) qb qo e2 e.symm)).trans c2⟩
  · obtain ⟨rb, ro, qb, qo, e1, e2, c1, c2⟩ := h1 0 hp
    have hlt := lt_of_cell c1
    rw [e1] at e
    injection e with e
    injection e with ea eb
    subst ea
    rcases hv with x | x
    · rw [x]; exact h2 hp _ _ e1
    · rw [x]; intro e'; injection e' with e'; omega
  · obtain ⟨rb, ro, qb, qo, e1, e2, c1, c2⟩ := h1 0 hp
    have hlt := lt_of_cell c2
    rw [e2] at e
    injection e with e
    injection e with ea eb
    subst ea
    rcases hv with x | x
    · rw [x]; exact h3 hp _ _ e2
    · rw [x]; intro e'; injection e' with e'; omega
theorem rowsA_snoc {w w' : World} {v v' : Value} {xs : List Value} {k p : Nat} {rs ars : Nat → Nat → Int} (h : RowsA w v xs k p rs ars) (hl : xs.length = k * 2) {RA QA : Option Addr} {r q : Nat} (h1 : RowAt w RA QA p (rs k) (ars k)) (h2 : 0 < p → ∀ b o, RA = some ⟨b, o, none⟩ → v.ownBlock ≠ some b) (h3 : 0 < p → ∀ b o, QA = some ⟨b, o, none⟩ → v.ownBlock ≠ some b)
    (hg : w.grownBy w' v.ownBlock) (hv : v'.ownBlock = v.ownBlock ∨ v'.ownBlock = some w.heap.size) : RowsA w' v' (xs ++ [.slice RA p r, .slice QA p q]) (k + 1) p rs ars := fun j hj => by
  by_cases hjk : j < k
  · obtain ⟨RA', r', QA', q', g1, g2, g3, g4, g5⟩ := h j hjk
    obtain ⟨a1, a2, a3⟩ := row_far g3 g4 g5 hg hv
    exact ⟨RA', r', QA', q', by rw [List.getElem?_append_left (by omega)]; exact g1, by rw [List.getElem?_append_left (by omega)]; exact g2, a1, a2, a3⟩
  · obtain rfl : j = k := by omega
    obtain ⟨a1, a2, a3⟩ := row_far h1 h2 h3 hg hv
    exact ⟨RA, r, QA, q, by rw [List.getElem?_append_right (by omega), hl]; simp, by rw [List.getElem?_append_right (by omega), hl]; simp, a1, a2, a3⟩
theorem rowsA_slots {W : World} {base e : Nat} {A : Option Addr} {k c p : Nat} {xs : List Value} {rs ars : Nat → Nat → Int} (ho : W.ownsRow base e 2 (.slice A k c) k xs) (h : RowsA W (.slice A k c) xs k p rs ars) : SlotsAll W A k p rs ars := fun j hj => by
  obtain ⟨RA, r, QA, q, h1, h2, h3, _, _⟩ := h j hj
  obtain ⟨g, cap, hv, _, _⟩ := ho.form (by omega)
  injection hv with hA
  subst hA
  have c1 := ho.cells (g := g) rfl _ _ h1
  have c2 := ho.cells (g := g) rfl _ _ h2
  rw [add_lit] at c1 c2
  exact ⟨g, 0, RA, r, QA, q, rfl, c1, by rw [Nat.add_assoc]; exact c2, h3⟩
def CopySlotsA (m p : Nat) (rs ars : Nat → Nat → Int) (w : World) (e : Ending) (w' : World) : Prop := ∃ A c, e = .returned (.slice A m c) ∧ SlotsAll w' A m p rs ars ∧ Below w.heap.size w w'
set_option maxRecDepth 100000 in
set_option maxHeartbeats 8000000 in
theorem copySlots_all (D : Option Addr) (d m p : Nat) (rs ars : Nat → Nat → Int) (w : World) (hs : SlotsAll w D m p rs ars) (hm : m ≤ 60) (hp : p ≤ 8) :
    Calls Try.prog 15 #[.slice D m d] w (CopySlotsA m p rs ars w) := by
  obtain ⟨i1, hi0, hz0, hz1, hz2⟩ := info_parts slot_info
  have HS := hide hs
  clear hs
  go_enter Try.func15, Try.ntmps15
  go_wp2_with fail
  go_loopw [3, 4] (fun vo i wr => ∃ k : Nat, ∃ A c xs, k ≤ m ∧ vo = .slice A k c ∧ i = .int .i64 k ∧ wr.ownsRow w.heap.size 44 2 (.slice A k c) k xs ∧ RowsA wr (.slice A k c) xs k p rs ars ∧ Below w.heap.size w wr) (fun _ i _ => m - (intOf i).toNat)
  case atStart => exact ⟨0, none, 0, [], Nat.zero_le _, rfl, rfl, ⟨rfl, .inl ⟨rfl, rfl⟩⟩, fun j hj => absurd hj (by omega), Below.refl _ _⟩
  case round =>
    obtain ⟨k, A, c, xs, hkm, rfl, rfl, hown, hrows, hbel⟩ := hrel
    have HOW := hide hown
    have HRO := hide hrows
    have HBE := hide hbel
    clear hown hrows hbel
    by_cases hlt : k < m
    · obtain ⟨b, o, RA, r, QA, q, rfl, h2, h3, h4⟩ := HS.out k hlt
      have hki : (k : Int) < (m : Int) := by omega
      have HC := hide ((((stay_at h2).and (stay_at h3)).and (stay_row h4)).step HBE.out)
      have hbw := lt_of_cell h2
      have HW := hide (below_drewN (Below.refl wr.heap.size wr) 1)
      clear h2 h3 h4
      go_wp2_with fail
      refine wp_region_held_drew (S := fun w_ => w_.cell? ⟨b, o + k * 2, none⟩ = some (.slice RA p r) ∧ w_.cell? ⟨b, o + k * 2 + 1, none⟩ = some (.slice QA p q)) (by kernel_rfl) (HC.out _ HW.out).1 (fun hHeld => ?_)
      refine take_at (i := 0) 11 (v := .slice A k c) rfl rfl (by kernel_rfl) (by kernel_rfl) (by kernel_rfl) (fun _ _ _ h => h) (Or.inl ⟨by rfl, by intro w_ hSw; go_simp⟩) (by assumption) ?_
      try simp only [Act.put, List.setIfInBounds_toArray, List.set_cons_zero, List.set_cons_succ]
      refine take_at (i := 1) 12 (v := .slice (some ⟨b, o, none⟩) m d) rfl rfl (by kernel_rfl) (by kernel_rfl) (by kernel_rfl) (fun _ _ _ h => h) (Or.inl ⟨by rfl, by intro w_ hSw; go_simp⟩) (by assumption) ?_
      try simp only [Act.put, List.setIfInBounds_toArray, List.set_cons_zero, List.set_cons_succ]
      refine take_at (i := 2) 13 (v := .int .i64 (k : Int)) rfl rfl (by kernel_rfl) (by kernel_rfl) (by kernel_rfl) (fun _ _ _ h => h) (Or.inl ⟨by rfl, by intro w_ hSw; go_simp⟩) (by assumption) ?_
      try simp only [Act.put, List.setIfInBounds_toArray, List.set_cons_zero, List.set_cons_succ]
      refine take_at (i := 3) 14 (v := .pointer (some ⟨b, o + k * 2, none⟩)) rfl rfl (by kernel_rfl) (by kernel_rfl) (by kernel_rfl) (fun _ _ _ h => h) (Or.inl ⟨by rfl, by intro w_ hSw; go_simp⟩) (by assumption) ?_
      try simp only [Act.put, List.setIfInBounds_toArray, List.set_cons_zero, List.set_cons_succ]
      refine take_at (i := 4) 15 (v := .pointer (some ⟨b, o + k * 2, none⟩)) rfl rfl (by kernel_rfl) (by kernel_rfl) (by kernel_rfl) (fun _ _ _ h => h) (Or.inl ⟨by rfl, by intro w_ hSw; go_simp⟩) (by assumption) ?_
      try simp only [Act.put, List.setIfInBounds_toArray, List.set_cons_zero, List.set_cons_succ]
      refine take_at (i := 5) 16 (v := .slice RA p r) rfl rfl (by kernel_rfl) (by kernel_rfl) (by kernel_rfl) (fun _ _ _ h => h) (Or.inl ⟨by rfl, by intro w_ hSw; have c0 := hSw.1; go_simp⟩) (by assumption) ?_
      try simp only [Act.put, List.setIfInBounds_toArray, List.set_cons_zero, List.set_cons_succ]
      refine take_at (i := 7) 18 (v := .slice (some ⟨b, o, none⟩) m d) rfl rfl (by kernel_rfl) (by kernel_rfl) (by kernel_rfl) (fun _ _ _ h => h) (Or.inl ⟨by rfl, by intro w_ hSw; go_simp⟩) (by assumption) ?_
      try simp only [Act.put, List.setIfInBounds_toArray, List.set_cons_zero, List.set_cons_succ]
      refine take_at (i := 8) 19 (v := .int .i64 (k : Int)) rfl rfl (by kernel_rfl) (by kernel_rfl) (by kernel_rfl) (fun _ _ _ h => h) (Or.inl ⟨by rfl, by intro w_ hSw; go_simp⟩) (by assumption) ?_
      try simp only [Act.put, List.setIfInBounds_toArray, List.set_cons_zero, List.set_cons_succ]
      refine take_at (i := 9) 20 (v := .pointer (some ⟨b, o + k * 2, none⟩)) rfl rfl (by kernel_rfl) (by kernel_rfl) (by kernel_rfl) (fun _ _ _ h => h) (Or.inl ⟨by rfl, by intro w_ hSw; go_simp⟩) (by assumption) ?_
      try simp only [Act.put, List.setIfInBounds_toArray, List.set_cons_zero, List.set_cons_succ]
      refine take_at (i := 10) 21 (v := .pointer (some ⟨b, o + k * 2 + 1, none⟩)) rfl rfl (by kernel_rfl) (by kernel_rfl) (by kernel_rfl) (fun _ _ _ h => h) (Or.inl ⟨by rfl, by intro w_ hSw; go_simp⟩) (by assumption) ?_
      try simp only [Act.put, List.setIfInBounds_toArray, List.set_cons_zero, List.set_cons_succ]
      refine take_at (i := 11) 22 (v := .slice QA p q) rfl rfl (by kernel_rfl) (by kernel_rfl) (by kernel_rfl) (fun _ _ _ h => h) (Or.inl ⟨by rfl, by intro w_ hSw; have c0 := hSw.2; go_simp⟩) (by assumption) ?_
      try simp only [Act.put, List.setIfInBounds_toArray, List.set_cons_zero, List.set_cons_succ]
      refine wpAnyH_ready (rs := [6]) (by kernel_rfl) (by simp) ?_
      refine AllReadyH.cons rfl (fun K hK => ?_) AllReadyH.nil
      go_simp
      go_at_call 34
      refine (copyRow RA r p (rs k) _ (row_sl (HC.out _ HW.out).2).1 (by omega)).mono ?_
      rintro e w1 ⟨G1, k1, rfl, ho1, hb⟩
      replace ho1 := ho1.weaken HW.out.size
      replace HW := hide (Below.step HW.out hb)
      have H1 := hide (stay_own ho1)
      clear ho1 hb
      have hHeld : w1.cell? ⟨b, o + k * 2, none⟩ = some (.slice RA p r) ∧ w1.cell? ⟨b, o + k * 2 + 1, none⟩ = some (.slice QA p q) := (HC.out _ HW.out).1
      simp only []
      refine hK.out _ _ hHeld (fun hHeld => ?_)
      clear hK K
      try simp only [Act.put, List.setIfInBounds_toArray, List.set_cons_zero, List.set_cons_succ]
      refine wpAnyH_ready (rs := [12]) (by kernel_rfl) (by simp) ?_
      refine AllReadyH.cons rfl (fun K hK => ?_) AllReadyH.nil
      go_simp
      go_at_call 34
      refine (copyRow QA q p (ars k) _ (row_sl (HC.out _ HW.out).2).2 (by omega)).mono ?_
      rintro e w2 ⟨G2, k2, rfl, ho2, hb⟩
      replace ho2 := ho2.weaken HW.out.size
      replace HW := hide (Below.step HW.out hb)
      replace H1 := hide (H1.out.step hb)
      have H2 := hide (stay_own ho2)
      clear ho2 hb
      have hHeld : w2.cell? ⟨b, o + k * 2, none⟩ = some (.slice RA p r) ∧ w2.cell? ⟨b, o + k * 2 + 1, none⟩ = some (.slice QA p q) := (HC.out _ HW.out).1
      simp only []
      refine hK.out _ _ hHeld (fun hHeld => ?_)
      clear hK K
      try simp only [Act.put, List.setIfInBounds_toArray, List.set_cons_zero, List.set_cons_succ]
      refine take_at (i := 13) 24 (v := .agg #[.slice G1 p k1, .slice G2 p k2]) rfl rfl (by kernel_rfl) (by kernel_rfl) (by kernel_rfl) (fun _ _ _ h => h) (Or.inl ⟨by rfl, by intro w_ hSw; go_simp⟩) (by assumption) ?_
      try simp only [Act.put, List.setIfInBounds_toArray, List.set_cons_zero, List.set_cons_succ]
      refine wpAnyH_ready (rs := [14]) (by kernel_rfl) (by simp) ?_
      refine AllReadyH.cons rfl (fun K hK => ?_) AllReadyH.nil
      go_simp
      obtain ⟨z9, hz9⟩ : ∃ z, w2.heap.size = z := ⟨_, rfl⟩
      try rw [hz9]
      replace HW := hide (HW.out.alloc HW.out.size (.cells #[.slice G1 p k1, .slice G2 p k2] 44))
      replace H1 := hide (H1.out.alloc (.cells #[.slice G1 p k1, .slice G2 p k2] 44))
      replace H2 := hide (H2.out.alloc (.cells #[.slice G1 p k1, .slice G2 p k2] 44))
      have hHeld : (w2.alloc (.cells #[.slice G1 p k1, .slice G2 p k2] 44)).cell? ⟨b, o + k * 2, none⟩ = some (.slice RA p r) ∧ (w2.alloc (.cells #[.slice G1 p k1, .slice G2 p k2] 44)).cell? ⟨b, o + k * 2 + 1, none⟩ = some (.slice QA p q) := (HC.out _ HW.out).1
      refine hK.out _ _ hHeld (fun hHeld => ?_)
      clear hK K
      try simp only [Act.put, List.setIfInBounds_toArray, List.set_cons_zero, List.set_cons_succ]
      refine wpAnyH_ready (rs := [15]) (by kernel_rfl) (by simp) ?_
      refine AllReadyH.cons rfl (fun K hK => ?_) AllReadyH.nil
      refine step_append_any _ (by rfl) (.tmp 11) (.tmp 25) 42 (by rfl) w.heap.size 44 i1 (.agg #[.slice none 0 0, .slice none 0 0]) 2 48 Try.underlying42 hi0 hz0 hz1 hz2 rfl (by omega) (.slice A k c) k xs (by rfl) (HOW.out.kept (row := none) ⟨HW.out.os, HW.out.tape, HW.out.output, HW.out.size, fun k hk _ => HW.out.block k hk⟩ (by cases hv : Value.ownBlock (.slice A k c) <;> simp)) (z9 + 1) (some ⟨z9, 0, none⟩) 1 1 [.slice G1 p k1, .slice G2 p k2] (by rfl) (reads_two w2 _ _ _ hz9) (by simp [Value.oneCell']) (by simp only [maxLen]; omega) (by omega) (Nat.le_trans HBE.out.size HW.out.size) ?_
      intro v9 w9 hown9 hgrow hat
      replace hgrow : (w2.alloc (.cells #[.slice G1 p k1, .slice G2 p k2] 44)).grownBy w9 (Value.ownBlock (.slice A k c)) := hgrow
      obtain ⟨A9, c9, rfl⟩ := own_form hown9
      have HO9 := hide hown9
      have HR9 := hide (rowsA_snoc (r := k1) (q := k2) (rowsA_bel HRO.out HW.out) HOW.out.1 (sl_rows (Sl.of_ownN H1.out.now) (Sl.of_ownN H2.out.now)) (fun _ b o e e2 => by have h3 := own_base H1.out.now e; have := (HOW.out.lt _ e2).2; omega) (fun _ b o e e2 => by have h3 := own_base H2.out.now e; have := (HOW.out.lt _ e2).2; omega) hgrow hat)
      have HB9 := hide ((Below.step HBE.out HW.out).grown hgrow (Nat.le_trans HBE.out.size HW.out.size) (fun k hk => (HOW.out.lt k hk).1))
      have hHeld : w9.cell? ⟨b, o + k * 2, none⟩ = some (.slice RA p r) ∧ w9.cell? ⟨b, o + k * 2 + 1, none⟩ = some (.slice QA p q) := ⟨(hgrow.cell_far ⟨b, o + k * 2, none⟩ (lt_of_cell hHeld.1) (fun e => by have := (HOW.out.lt _ e.symm).1; simp at this; omega)).trans hHeld.1, (hgrow.cell_far ⟨b, o + k * 2 + 1, none⟩ (lt_of_cell hHeld.2) (fun e => by have := (HOW.out.lt _ e.symm).1; simp at this; omega)).trans hHeld.2⟩
      clear hown9 hgrow hat H1 H2 HW
      refine hK.out _ _ hHeld (fun hHeld => ?_)
      clear hK K
      try simp only [Act.put, List.setIfInBounds_toArray]
      refine take_at (i := 16) 3 (v := .slice A9 (k + 1) c9) rfl rfl (by kernel_rfl) (by kernel_rfl) (by kernel_rfl) (fun _ _ _ h => h) (Or.inl ⟨by rfl, by intro w_ hSw; go_simp⟩) (by assumption) ?_
      try simp only [Act.put]
      refine wpAnyH_done (by kernel_rfl) ?_ _
      clear hHeld
      go_wp2_with fail
      go_roundw
      case rel => exact ⟨k + 1, A9, c9, _, by omega, rfl, by go_num, HO9.out, HR9.out, HB9.out⟩
      case measure => simp [intOf]; omega
    · obtain rfl : k = m := by omega
      have hki : ¬ (k : Int) < (k : Int) := by omega
      go_wp2
      go_ret
      exact ⟨A, c, rfl, rowsA_slots HOW.out HRO.out, HBE.out⟩
end Go.Proofs.Ytppkibgemacdbaa
