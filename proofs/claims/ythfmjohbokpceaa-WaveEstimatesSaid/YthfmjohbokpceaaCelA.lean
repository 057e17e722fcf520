import Derived.Test.YthfmjohbokpceaaWvM
import Derived.Test.YthfmjohbokpceaaWvZ
import Derived.Test.YthfmjohbokpceaaStay
import Derived.Test.YthfmjohbokpceaaWvR
import Derived.Test.YthfmjohbokpceaaGuards
namespace Go.Proofs.Ythfmjohbokpceaa
open Go.RowKit Go.WideShapes Go.ChangeShapes

/-! lists of lists that a call made; all halves -/
theorem rows_ne {w : World} {base base' e e' size size' n n' : Nat} {v v' : Value} {xs xs' : List Value} (h : w.ownsRow base e size v n xs) (h' : w.ownsRow base' e' size' v' n' xs') (hne : e ≠ e') : v.ownBlock = none ∨ v.ownBlock ≠ v'.ownBlock := by
  rcases h.2 with ⟨rfl, _⟩ | ⟨g, cap, cur, rfl, _, hh, _⟩
  · exact .inl rfl
  · rcases h'.2 with ⟨rfl, _⟩ | ⟨g', cap', cur', rfl, _, hh', _⟩
    · exact .inr (by simp [Value.ownBlock])
    · refine .inr (fun he => ?_)
      have : g = g' := by simpa [Value.ownBlock] using he
      subst this
      rw [hh] at hh'
      injection hh' with hh'
      injection hh' with _ ht
      exact hne ht
theorem lst_info : (Try.prog.info? 24).map (fun i => (i.zero, i.size, i.bytes)) = some (some (.slice none 0 0), 1, 24) := by kernel_rfl
theorem reads_one (W : World) (x : Value) (t : TypeId) : Reads (W.alloc (.cells #[x] t)) (W.heap.size + 1) 1 (some ⟨W.heap.size, 0, none⟩) 1 [x] := cell_one W x t
/-- the first n lists of a function, as rows of the call's own -/
def RowsI (w : World) (base : Nat) (v : Value) (f : Nat → List Int) (n : Nat) : Prop :=
  ∃ vs : List Value, w.ownsRow base 24 1 v n vs ∧ vs.length = n ∧ ∀ j, j < n → ∃ B c, vs[j]? = some (.slice B 31 c) ∧ w.ownsRow base 3 1 (.slice B 31 c) 31 (iv (f j))
theorem RowsI.nil (w : World) (base : Nat) (f : Nat → List Int) : RowsI w base (.slice none 0 0) f 0 := ⟨[], World.ownsRow_nil _ _ _ _, rfl, fun j hj => absurd hj (by omega)⟩
theorem RowsI.bel {w w' : World} {base n : Nat} {v : Value} {f : Nat → List Int} (h : RowsI w base v f n) (hb : Below w.heap.size w w') : RowsI w' base v f n := by
  obtain ⟨vs, h1, h2, h3⟩ := h
  refine ⟨vs, own_bel h1 hb, h2, fun j hj => ?_⟩
  obtain ⟨B, c, h4, h5⟩ := h3 j hj
  exact ⟨B, c, h4, own_bel h5 hb⟩
theorem RowsI.far {w : World} {base n g i t : Nat} {v u : Value} {f : Nat → List Int} {cs : Array Value} (h : RowsI w base v f n) (hb : Blk w g t cs) (h1 : 24 ≠ t) (h2 : 3 ≠ t) : RowsI (w.setCell ⟨g, i, none⟩ u) base v f n := by
  obtain ⟨vs, h3, h4, h5⟩ := h
  refine ⟨vs, own_far h3 hb h1, h4, fun j hj => ?_⟩
  obtain ⟨B, c, h6, h7⟩ := h5 j hj
  exact ⟨B, c, h6, own_far h7 hb h2⟩
theorem RowsI.snoc {w w' : World} {base n : Nat} {v v' : Value} {f : Nat → List Int} {B : Option Addr} {c : Nat} {vs : List Value}
    (hv : w.ownsRow base 24 1 v n vs) (hvl : vs.length = n) (hi : ∀ j, j < n → ∃ B c, vs[j]? = some (.slice B 31 c) ∧ w.ownsRow base 3 1 (.slice B 31 c) 31 (iv (f j)))
    (hl : w.ownsRow base 3 1 (.slice B 31 c) 31 (iv (f n))) (h' : w'.ownsRow base 24 1 v' (n + 1) (vs ++ [.slice B 31 c])) (hg : w.grownBy w' v.ownBlock) : RowsI w' base v' f (n + 1) := by
  refine ⟨vs ++ [.slice B 31 c], h', by simp [hvl], fun j hj => ?_⟩
  by_cases q : j < n
  · obtain ⟨B2, c2, h4, h5⟩ := hi j q
    refine ⟨B2, c2, ?_, h5.kept hg (rows_ne h5 hv (by decide))⟩
    rw [List.getElem?_append_left (by omega)]; exact h4
  · obtain rfl : j = n := by omega
    refine ⟨B, c, ?_, hl.kept hg (rows_ne hl hv (by decide))⟩
    rw [List.getElem?_append_right (by omega), hvl, Nat.sub_self]; simp
theorem RowsI.form {w : World} {base n : Nat} {v : Value} {f : Nat → List Int} (h : RowsI w base v f n) : ∃ A c, v = .slice A n c := by
  obtain ⟨vs, h1, _⟩ := h
  exact own_form h1
/-- what is read later: the first n lists of a function -/
def LstI (w : World) (A : Option Addr) (f : Nat → List Int) (n : Nat) : Prop :=
  ∀ j, j < n → ∃ b off B c, A = some ⟨b, off, none⟩ ∧ w.cell? ⟨b, off + j, none⟩ = some (.slice B 31 c) ∧ Sl w B (iv (f j))
theorem LstI.bel {w w' : World} {A : Option Addr} {f : Nat → List Int} {n : Nat} (h : LstI w A f n) (hb : Below w.heap.size w w') : LstI w' A f n := fun j hj => by
  obtain ⟨b, off, B, c, h1, h2, h3⟩ := h j hj
  exact ⟨b, off, B, c, h1, (hb.cell (p := ⟨b, off + j, none⟩) (lt_of_cell h2)).trans h2, h3.bel hb⟩
theorem RowsI.lst {w : World} {base n c : Nat} {A : Option Addr} {f : Nat → List Int} (h : RowsI w base (.slice A n c) f n) : LstI w A f n := fun j hj => by
  obtain ⟨vs, h1, h2, h3⟩ := h
  obtain ⟨B, cc, h4, h5⟩ := h3 j hj
  obtain ⟨b, off, e, hc⟩ := (Sl.of_own h1) j (by omega)
  refine ⟨b, off, B, cc, e, ?_, Sl.of_own h5⟩
  rw [hc]
  rw [List.getElem?_eq_getElem (by omega)] at h4
  exact h4
theorem only_below {a w w' : World} {row : Option Nat} (h : a.grownBy w row) (hb : Below w.heap.size w w') : a.grownBy w' row :=
  ⟨hb.os.trans h.os, hb.tape.trans h.tape, hb.output.trans h.output, Nat.le_trans h.size hb.size, fun k hk hne => (hb.block k (Nat.lt_of_lt_of_le hk h.size)).trans (h.block k hk hne)⟩
theorem only_app {a w w' : World} {row row' : Option Nat} (h : a.grownBy w row) (hb : w.grownBy w' row') (hr : ∀ g, row' = some g → a.heap.size ≤ g) : a.grownBy w' row :=
  ⟨hb.os.trans h.os, hb.tape.trans h.tape, hb.output.trans h.output, Nat.le_trans h.size hb.size, fun k hk hne => (hb.block k (Nat.lt_of_lt_of_le hk h.size) (fun e => by have := hr k e.symm; omega)).trans (h.block k hk hne)⟩
theorem only_refl (a : World) (row : Option Nat) : a.grownBy a row := only_of_below (Below.refl _ _) row
theorem RowsI.kept {w w' : World} {base n g t : Nat} {v : Value} {f : Nat → List Int} {cs : Array Value} (h : RowsI w base v f n) (hb : Blk w g t cs) (hg : w.grownBy w' (some g)) (h1 : 24 ≠ t) (h2 : 3 ≠ t) : RowsI w' base v f n := by
  obtain ⟨vs, h3, h4, h5⟩ := h
  have hx : ∀ {e n : Nat} {v : Value} {xs : List Value}, w.ownsRow base e 1 v n xs → e ≠ t → w'.ownsRow base e 1 v n xs := fun h hne => h.kept hg (by
    cases hv : Value.ownBlock _ with
    | none => exact .inl rfl
    | some k => exact .inr (by rw [← hv]; exact own_blk_ne h hb hne))
  refine ⟨vs, hx h3 h1, h4, fun j hj => ?_⟩
  obtain ⟨B, c, h6, h7⟩ := h5 j hj
  exact ⟨B, c, h6, hx h7 h2⟩
set_option maxRecDepth 100000 in
set_option maxHeartbeats 8000000 in
theorem all_wave (w : World) : Calls Try.prog 116 #[] w fun e w' => ∃ A c B d, e = .returned (.agg #[.slice A 3 c, .slice B 336 d]) ∧ LstI w' A secL 3 ∧ LstI w' B grpL 336 ∧ Below w.heap.size w w' := by
  obtain ⟨i0, hi0, hz0, hz1, hz2⟩ := info_parts lst_info
  go_enter Try.func116, Try.ntmps116
  go_wp2_with (first
    | (go_at_call 165; go_must (refine (both_wave _).mono ?_; rintro e w1 ⟨rfl, hb1⟩; have b1 := Below.step (show Below w.heap.size w (w.alloc (.cells #[.slice none 0 0, .slice none 0 0] 171)) from (Below.refl _ _).alloc (Nat.le_refl _) _) hb1; have hr1 := (Blk.new w 171 #[.slice none 0 0, .slice none 0 0]).below hb1 (by simp); clear hb1; simp only []))
    | (refine wpList_store_row rfl 215 (.tmp 1) (.tmp 5) rfl w1.heap.size sqCells rfl rfl 215 zero62 (Blk.new w1 _ _) (by kernel_rfl) (by kernel_rfl) sq_one ?_))
  have hb2 := (Blk.new w1 215 zero62).row sqCells
  have hz : Below w.heap.size w ((w1.alloc (.cells zero62 215)).setRow w1.heap.size sqCells) := Below.row (b1.alloc b1.size _) b1.size _
  have hr2 := (hr1.alloc (.cells zero62 215)).rowFar (by have := hr1.lt; omega) (k := w1.heap.size) sqCells
  obtain ⟨W2, hW2⟩ : ∃ W2, (w1.alloc (.cells zero62 215)).setRow w1.heap.size sqCells = W2 := ⟨_, rfl⟩
  have hsz : W2.heap.size = w1.heap.size + 1 := by rw [← hW2]; simp
  rw [hW2] at hb2 hz hr2
  simp only [show (w1.alloc (.cells #[.int .i64 0, .int .i64 0, .int .i64 0, .int .i64 0, .int .i64 0, .int .i64 0, .int .i64 0, .int .i64 0, .int .i64 0, .int .i64 0, .int .i64 0, .int .i64 0, .int .i64 0, .int .i64 0, .int .i64 0, .int .i64 0, .int .i64 0, .int .i64 0, .int .i64 0, .int .i64 0, .int .i64 0, .int .i64 0, .int .i64 0, .int .i64 0, .int .i64 0, .int .i64 0, .int .i64 0, .int .i64 0, .int .i64 0, .int .i64 0, .int .i64 0, .int .i64 0, .int .i64 0, .int .i64 0, .int .i64 0, .int .i64 0, .int .i64 0, .int .i64 0, .int .i64 0, .int .i64 0, .int .i64 0, .int .i64 0, .int .i64 0, .int .i64 0, .int .i64 0, .int .i64 0, .int .i64 0, .int .i64 0, .int .i64 0, .int .i64 0, .int .i64 0, .int .i64 0, .int .i64 0, .int .i64 0, .int .i64 0, .int .i64 0, .int .i64 0, .int .i64 0, .int .i64 0, .int .i64 0, .int .i64 0, .int .i64 0] 215)).setRow w1.heap.size sqCells = W2 from hW2]
  clear hW2
  obtain ⟨g, hg⟩ : ∃ g, w1.heap.size = g := ⟨_, rfl⟩
  rw [hg] at hb2 hsz ⊢
  obtain ⟨r, hr⟩ : ∃ r, w.heap.size = r := ⟨_, rfl⟩
  rw [hr] at hr2 ⊢
  have hrw := hide hr
  clear hg hr hr1 b1
  go_wp2
  obtain ⟨h, hh'⟩ : ∃ h, g + 1 = h := ⟨_, rfl⟩
  have hh := hsz.trans hh'
  have hwh : w.heap.size ≤ h := by have := hz.size; omega
  have hbh0 := Blk.newN W2 171 #[.slice none 0 0, .slice none 0 0] hh
  have hbg0 := hb2.alloc (.cells #[.slice none 0 0, .slice none 0 0] 171)
  have hbr0 := hr2.alloc (.cells #[.slice none 0 0, .slice none 0 0] 171)
  have hz0' := hz.alloc hz.size (.cells #[.slice none 0 0, .slice none 0 0] 171)
  have hrh : r ≠ h := by have := hr2.lt; omega
  have hgh : g ≠ h := by have := hb2.lt; omega
  rw [hh']
  obtain ⟨W3, hW3⟩ : ∃ W3, W2.alloc (.cells #[.slice none 0 0, .slice none 0 0] 171) = W3 := ⟨_, rfl⟩
  rw [hW3] at hbh0 hbg0 hbr0 hz0' ⊢
  clear hW3 hh hh' hsz hb2 hr2 hz
  go_loopw [6] (fun i wr => ∃ (k : Nat) (A : Option Addr) (c : Nat), k ≤ 3 ∧ i = .int .i64 k ∧ RowsI wr w.heap.size (.slice A k c) secL k ∧ Blk wr h 171 #[.slice A k c, .slice none 0 0] ∧ Blk wr g 215 sqCells ∧ Blk wr r 171 #[.slice none 0 0, .slice none 0 0] ∧ Below w.heap.size w wr) (fun i _ => 3 - (intOf i).toNat)
  case atStart => exact ⟨0, none, 0, by omega, rfl, RowsI.nil _ _ _, hbh0, hbg0, hbr0, hz0'⟩
  case round =>
    obtain ⟨k, A, c, hk, rfl, hrow, hbh, hbg, hbr, hbel⟩ := hrel
    clear hbh0 hbg0 hbr0 hz0'
    by_cases hlt : k < 3
    · have hd : decide ((k : Int) < 3) = true := by rw [decide_eq_true_iff]; omega
      go_wp2
      have HH0 := hide (show (fun w' => Blk w' h 171 #[.slice A k c, .slice none 0 0] ∧ Blk w' g 215 sqCells ∧ Blk w' r 171 #[.slice none 0 0, .slice none 0 0]) wr.drew from ⟨hbh, hbg, hbr⟩)
      have hHeld := HH0.out
      refine UpTo.start (z := 8) (S := fun w' => Blk w' h 171 #[.slice A k c, .slice none 0 0] ∧ Blk w' g 215 sqCells ∧ Blk w' r 171 #[.slice none 0 0, .slice none 0 0]) (by kernel_rfl) ?_
      refine UpTo.take (i := 0) 9 (v := .pointer (some ⟨h, 0, none⟩)) rfl rfl (by kernel_rfl) (by kernel_rfl) (by kernel_rfl) (by kernel_rfl) (fun _ _ _ h => h) hHeld (Or.inl ⟨by rfl, by intro w hSw; go_simp⟩) ?_
      try simp only [Act.put, List.setIfInBounds_toArray, List.set_cons_zero, List.set_cons_succ]
      refine UpTo.take (i := 1) 10 (v := .slice A k c) rfl rfl (by kernel_rfl) (by kernel_rfl) (by kernel_rfl) (by kernel_rfl) (fun _ _ _ h => h) hHeld (Or.inl ⟨by rfl, by intro w hSw; have c0 := hSw.1.cell 0; go_simp⟩) ?_
      try simp only [Act.put, List.setIfInBounds_toArray, List.set_cons_zero, List.set_cons_succ]
      refine UpTo.take (i := 2) 11 (v := .agg sqCells) rfl rfl (by kernel_rfl) (by kernel_rfl) (by kernel_rfl) (by kernel_rfl) (fun _ _ _ h => h) hHeld (yields_arr g (by rfl) (.tmp 1) rfl rfl (fun _ h => h.2.1) Try.underlying215 rfl (by rw [sq_size]; kernel_rfl)) ?_
      try simp only [Act.put, List.setIfInBounds_toArray, List.set_cons_zero, List.set_cons_succ]
      refine UpTo.take (i := 3) 12 (v := .int .i64 (k : Int)) rfl rfl (by kernel_rfl) (by kernel_rfl) (by kernel_rfl) (by kernel_rfl) (fun _ _ _ h => h) hHeld (Or.inl ⟨by rfl, by intro w hSw; go_simp⟩) ?_
      try simp only [Act.put, List.setIfInBounds_toArray, List.set_cons_zero, List.set_cons_succ]
      refine UpTo.next (i := 4) (by kernel_rfl) rfl (fun K hK => ?_)
      go_simp
      refine (sector_wave k hlt _).mono ?_
      rintro e w5 ⟨B, cb, rfl, hl, hb⟩
      have HH1 := hide (show (fun w' => Blk w' h 171 #[.slice A k c, .slice none 0 0] ∧ Blk w' g 215 sqCells ∧ Blk w' r 171 #[.slice none 0 0, .slice none 0 0]) w5 from ⟨HH0.out.1.below hb HH0.out.1.lt, HH0.out.2.1.below hb HH0.out.2.1.lt, HH0.out.2.2.below hb HH0.out.2.2.lt⟩)
      have HB1 := hide (show Below w.heap.size w w5 from Below.step (below_drewN hbel 1) hb)
      have HR1 := hide ((show RowsI wr.drew (w.heap.size) (.slice A k c) secL k from hrow).bel hb)
      have HL := hide (hl.weaken (base' := w.heap.size) (show w.heap.size ≤ wr.drew.heap.size from hbel.size))
      clear hb hl
      simp only []
      refine hK.out _ _ (fun _ => HH1.out) ?_
      clear hK K
      try simp only [Act.put, List.setIfInBounds_toArray, List.set_cons_zero, List.set_cons_succ]
      refine UpTo.next (i := 5) (by kernel_rfl) rfl (fun K hK => ?_)
      go_simp
      have HH2 := hide (show (fun w' => Blk w' h 171 #[.slice A k c, .slice none 0 0] ∧ Blk w' g 215 sqCells ∧ Blk w' r 171 #[.slice none 0 0, .slice none 0 0]) (w5.alloc (.cells #[.slice B 31 cb] 24)) from ⟨HH1.out.1.alloc _, HH1.out.2.1.alloc _, HH1.out.2.2.alloc _⟩)
      have HB2 := hide (show Below w.heap.size w (w5.alloc (.cells #[.slice B 31 cb] 24)) from HB1.out.alloc HB1.out.size _)
      refine hK.out _ _ (fun _ => HH2.out) ?_
      clear hK K
      try simp only [Act.put, List.setIfInBounds_toArray, List.set_cons_zero, List.set_cons_succ]
      obtain ⟨vs, hv1, hv2, hv3⟩ := HR1.out.bel (show Below w5.heap.size w5 (w5.alloc (.cells #[.slice B 31 cb] 24)) from (Below.refl _ _).alloc (Nat.le_refl _) _)
      have HL2 := hide (own_bel HL.out (show Below w5.heap.size w5 (w5.alloc (.cells #[.slice B 31 cb] 24)) from (Below.refl _ _).alloc (Nat.le_refl _) _))
      have hsz5 := HB1.out.size
      refine UpTo.next (i := 6) (by kernel_rfl) rfl (fun K hK => ?_)
      refine step_append_any _ (by rfl) (.tmp 10) (.tmp 14) 169 (by rfl) (w.heap.size) 24 i0 (.slice none 0 0) 1 24 Try.underlying169 hi0 hz0 hz1 hz2 rfl (by omega) (.slice A k c) k vs (by rfl) hv1 (w5.heap.size + 1) (some ⟨w5.heap.size, 0, none⟩) 1 1 [.slice B 31 cb] (by rfl) (reads_one w5 _ _) (by simp [Value.oneCell']) (by simp only [maxLen]; omega) (by omega) (by simp; omega) ?_
      intro v2 w6 hown hgrow hvb
      obtain ⟨A2, c2, rfl⟩ := own_form hown
      have HB6 := hide (show Below w.heap.size w w6 from Below.app' HB2.out (hv1.weaken (Nat.le_refl _)) hgrow)
      have HH6 := hide (show (fun w' => Blk w' h 171 #[.slice A k c, .slice none 0 0] ∧ Blk w' g 215 sqCells ∧ Blk w' r 171 #[.slice none 0 0, .slice none 0 0]) w6 from ⟨HH2.out.1.app' hv1 hgrow (by decide), HH2.out.2.1.app' hv1 hgrow (by decide), HH2.out.2.2.app' hv1 hgrow (by decide)⟩)
      have HR6 := hide (show RowsI w6 (w.heap.size) (.slice A2 (k + 1) c2) secL (k + 1) from RowsI.snoc hv1 hv2 hv3 HL2.out hown hgrow)
      clear hown hgrow hvb hv1 hv2 hv3 HH1 HH2 HL HL2 HB1 HB2 HR1
      refine hK.out _ _ (fun _ => HH6.out) ?_
      clear hK K
      try simp only [Act.put, List.setIfInBounds_toArray]
      refine UpTo.take (i := 7) 16 (v := .pointer (some ⟨h, 0, none⟩)) rfl rfl (by kernel_rfl) (by kernel_rfl) (by kernel_rfl) (by kernel_rfl) (fun _ _ _ h => h) HH6.out (Or.inl ⟨by rfl, by intro w hSw; go_simp⟩) ?_
      try simp only [Act.put]
      have hc0 := HH6.out.1.cell 0
      have hf0 := HH6.out.1.frozen 0
      refine UpTo.next (i := 8) (by kernel_rfl) rfl (fun K hK => ?_)
      go_simp
      refine hK.out _ _ (fun h => absurd rfl h) ?_
      clear hK K
      refine UpTo.done (by kernel_rfl) ?_ _
      go_wp2
      go_roundw
      case rel => exact ⟨k + 1, A2, c2, by omega, by go_num, HR6.out.far HH6.out.1 (by decide) (by decide), HH6.out.1.set_ 0 _, HH6.out.2.1.far hgh _, HH6.out.2.2.far hrh _, HB6.out.setCell hwh _⟩
      case measure => simp [intOf]; omega
    · obtain rfl : k = 3 := by omega
      go_wp2
      have hwv := hbel.size
      obtain ⟨v0, rfl⟩ : ∃ v0 : World, v0 = wr := ⟨_, rfl⟩
      have hb0 := hbh
      have HROW := hide hrow
      have HBR := hide hbr
      have HBG := hide hbg
      have HBEL := hide hbel
      clear hrow hbr hbg hbel hbh
      go_loopw [18] (fun i wr => ∃ (k : Nat) (A' : Option Addr) (c' : Nat), k ≤ 336 ∧ i = .int .i64 k ∧ RowsI wr v0.heap.size (.slice A' k c') grpL k ∧ Blk wr h 171 #[.slice A 3 c, .slice A' k c'] ∧ Blk wr g 215 sqCells ∧ Blk wr r 171 #[.slice none 0 0, .slice none 0 0] ∧ Below w.heap.size w wr ∧ v0.grownBy wr (some h)) (fun i _ => 336 - (intOf i).toNat)
      case atStart => exact ⟨0, none, 0, by omega, rfl, RowsI.nil _ _ _, hb0, HBG.out, HBR.out, HBEL.out, only_refl _ _⟩
      case round =>
        obtain ⟨k, A', c', hk, rfl, hrow, hbh, hbg, hbr, hbel, hog⟩ := hrel
        by_cases hlt : k < 336
        · have hd : decide ((k : Int) < 336) = true := by rw [decide_eq_true_iff]; omega
          go_wp2
          have HH0 := hide (show (fun w' => Blk w' h 171 #[.slice A 3 c, .slice A' k c'] ∧ Blk w' g 215 sqCells ∧ Blk w' r 171 #[.slice none 0 0, .slice none 0 0]) wr.drew from ⟨hbh, hbg, hbr⟩)
          have hHeld := HH0.out
          refine UpTo.start (z := 8) (S := fun w' => Blk w' h 171 #[.slice A 3 c, .slice A' k c'] ∧ Blk w' g 215 sqCells ∧ Blk w' r 171 #[.slice none 0 0, .slice none 0 0]) (by kernel_rfl) ?_
          refine UpTo.take (i := 0) 21 (v := .pointer (some ⟨h, 1, none⟩)) rfl rfl (by kernel_rfl) (by kernel_rfl) (by kernel_rfl) (by kernel_rfl) (fun _ _ _ h => h) hHeld (Or.inl ⟨by rfl, by intro w hSw; go_simp⟩) ?_
          try simp only [Act.put, List.setIfInBounds_toArray, List.set_cons_zero, List.set_cons_succ]
          refine UpTo.take (i := 1) 22 (v := .slice A' k c') rfl rfl (by kernel_rfl) (by kernel_rfl) (by kernel_rfl) (by kernel_rfl) (fun _ _ _ h => h) hHeld (Or.inl ⟨by rfl, by intro w hSw; have c0 := hSw.1.cell 1; go_simp⟩) ?_
          try simp only [Act.put, List.setIfInBounds_toArray, List.set_cons_zero, List.set_cons_succ]
          refine UpTo.take (i := 2) 23 (v := .agg sqCells) rfl rfl (by kernel_rfl) (by kernel_rfl) (by kernel_rfl) (by kernel_rfl) (fun _ _ _ h => h) hHeld (yields_arr g (by rfl) (.tmp 1) rfl rfl (fun _ h => h.2.1) Try.underlying215 rfl (by rw [sq_size]; kernel_rfl)) ?_
          try simp only [Act.put, List.setIfInBounds_toArray, List.set_cons_zero, List.set_cons_succ]
          refine UpTo.take (i := 3) 24 (v := .int .i64 (k : Int)) rfl rfl (by kernel_rfl) (by kernel_rfl) (by kernel_rfl) (by kernel_rfl) (fun _ _ _ h => h) hHeld (Or.inl ⟨by rfl, by intro w hSw; go_simp⟩) ?_
          try simp only [Act.put, List.setIfInBounds_toArray, List.set_cons_zero, List.set_cons_succ]
          refine UpTo.next (i := 4) (by kernel_rfl) rfl (fun K hK => ?_)
          go_simp
          refine (group_wave k hlt _).mono ?_
          rintro e w5 ⟨B, cb, rfl, hl, hb⟩
          have HH1 := hide (show (fun w' => Blk w' h 171 #[.slice A 3 c, .slice A' k c'] ∧ Blk w' g 215 sqCells ∧ Blk w' r 171 #[.slice none 0 0, .slice none 0 0]) w5 from ⟨HH0.out.1.below hb HH0.out.1.lt, HH0.out.2.1.below hb HH0.out.2.1.lt, HH0.out.2.2.below hb HH0.out.2.2.lt⟩)
          have HB1 := hide (show Below w.heap.size w w5 from Below.step (below_drewN hbel 1) hb)
          have HR1 := hide ((show RowsI wr.drew (v0.heap.size) (.slice A' k c') grpL k from hrow).bel hb)
          have HG1 := hide (show v0.grownBy w5 (some h) from only_below (only_drew hog) hb)
          have HL := hide (hl.weaken (base' := v0.heap.size) (show v0.heap.size ≤ wr.drew.heap.size from hog.size))
          clear hb hl
          simp only []
          refine hK.out _ _ (fun _ => HH1.out) ?_
          clear hK K
          try simp only [Act.put, List.setIfInBounds_toArray, List.set_cons_zero, List.set_cons_succ]
          refine UpTo.next (i := 5) (by kernel_rfl) rfl (fun K hK => ?_)
          go_simp
          have HH2 := hide (show (fun w' => Blk w' h 171 #[.slice A 3 c, .slice A' k c'] ∧ Blk w' g 215 sqCells ∧ Blk w' r 171 #[.slice none 0 0, .slice none 0 0]) (w5.alloc (.cells #[.slice B 31 cb] 24)) from ⟨HH1.out.1.alloc _, HH1.out.2.1.alloc _, HH1.out.2.2.alloc _⟩)
          have HB2 := hide (show Below w.heap.size w (w5.alloc (.cells #[.slice B 31 cb] 24)) from HB1.out.alloc HB1.out.size _)
          have HG2 := hide (show v0.grownBy (w5.alloc (.cells #[.slice B 31 cb] 24)) (some h) from only_alloc HG1.out _)
          refine hK.out _ _ (fun _ => HH2.out) ?_
          clear hK K
          try simp only [Act.put, List.setIfInBounds_toArray, List.set_cons_zero, List.set_cons_succ]
          obtain ⟨vs, hv1, hv2, hv3⟩ := HR1.out.bel (show Below w5.heap.size w5 (w5.alloc (.cells #[.slice B 31 cb] 24)) from (Below.refl _ _).alloc (Nat.le_refl _) _)
          have HL2 := hide (own_bel HL.out (show Below w5.heap.size w5 (w5.alloc (.cells #[.slice B 31 cb] 24)) from (Below.refl _ _).alloc (Nat.le_refl _) _))
          have hsz5 := HB1.out.size
          have hsz6 := HG1.out.size
          refine UpTo.next (i := 6) (by kernel_rfl) rfl (fun K hK => ?_)
          refine step_append_any _ (by rfl) (.tmp 22) (.tmp 26) 169 (by rfl) (v0.heap.size) 24 i0 (.slice none 0 0) 1 24 Try.underlying169 hi0 hz0 hz1 hz2 rfl (by omega) (.slice A' k c') k vs (by rfl) hv1 (w5.heap.size + 1) (some ⟨w5.heap.size, 0, none⟩) 1 1 [.slice B 31 cb] (by rfl) (reads_one w5 _ _) (by simp [Value.oneCell']) (by simp only [maxLen]; omega) (by omega) (by simp; omega) ?_
          intro v2 w6 hown hgrow hvb
          obtain ⟨A2, c2, rfl⟩ := own_form hown
          have HB6 := hide (show Below w.heap.size w w6 from Below.app' HB2.out (hv1.weaken hwv) hgrow)
          have HH6 := hide (show (fun w' => Blk w' h 171 #[.slice A 3 c, .slice A' k c'] ∧ Blk w' g 215 sqCells ∧ Blk w' r 171 #[.slice none 0 0, .slice none 0 0]) w6 from ⟨HH2.out.1.app' hv1 hgrow (by decide), HH2.out.2.1.app' hv1 hgrow (by decide), HH2.out.2.2.app' hv1 hgrow (by decide)⟩)
          have HR6 := hide (show RowsI w6 (v0.heap.size) (.slice A2 (k + 1) c2) grpL (k + 1) from RowsI.snoc hv1 hv2 hv3 HL2.out hown hgrow)
          have HG6 := hide (show v0.grownBy w6 (some h) from only_app HG2.out hgrow (fun gg hgg => (hv1.lt gg hgg).1))
          clear hown hgrow hvb hv1 hv2 hv3 HH1 HH2 HL HL2 HB1 HB2 HR1 HG1 HG2
          refine hK.out _ _ (fun _ => HH6.out) ?_
          clear hK K
          try simp only [Act.put, List.setIfInBounds_toArray]
          refine UpTo.take (i := 7) 28 (v := .pointer (some ⟨h, 1, none⟩)) rfl rfl (by kernel_rfl) (by kernel_rfl) (by kernel_rfl) (by kernel_rfl) (fun _ _ _ h => h) HH6.out (Or.inl ⟨by rfl, by intro w hSw; go_simp⟩) ?_
          try simp only [Act.put]
          have hc0 := HH6.out.1.cell 1
          have hf0 := HH6.out.1.frozen 1
          refine UpTo.next (i := 8) (by kernel_rfl) rfl (fun K hK => ?_)
          go_simp
          refine hK.out _ _ (fun h => absurd rfl h) ?_
          clear hK K
          refine UpTo.done (by kernel_rfl) ?_ _
          go_wp2
          go_roundw
          case rel => exact ⟨k + 1, by omega, by go_num, A2, c2, HR6.out.far HH6.out.1 (by decide) (by decide), HH6.out.1.set_ 1 _, HH6.out.2.1.far hgh _, HH6.out.2.2.far hrh _, HB6.out.setCell hwh _, only_setCell HG6.out (.inl rfl) _⟩
          case measure => simp [intOf]; omega
        · obtain rfl : k = 336 := by omega
          have HL1 := hide ((HROW.out.kept hb0 hog (by decide) (by decide)).far hbr (g := r) (i := 0) (u := .slice A 3 c) (by decide) (by decide))
          have HL2 := hide (hrow.far hbr (g := r) (i := 0) (u := .slice A 3 c) (by decide) (by decide))
          have hbr1 := hbr.set_ 0 (.slice A 3 c)
          have HL3 := hide (HL1.out.far hbr1 (g := r) (i := 1) (u := .slice A' 336 c') (by decide) (by decide)).lst
          have HL4 := hide (HL2.out.far hbr1 (g := r) (i := 1) (u := .slice A' 336 c') (by decide) (by decide)).lst
          have c0 := hbh.cell 0
          have c1 := hbh.cell 1
          have d0 := hbr.cell 0
          have d1 := hbr.cell 1
          have f0 := hbr.frozen 0
          have f1 := hbr.frozen 1
          have HBE := hide hbel
          have HRB := hide (hbr1.set_ 1 (.slice A' 336 c'))
          clear hrow HROW HL1 HL2 hbr1 hog hbel
          go_wp2
          exact bodyPost_ret (results_cell_row rfl _ _ r 171 _ (0, 0) _ rfl HRB.out Try.underlying171 rfl (by kernel_rfl)) rfl ⟨A, c, A', c', rfl, HL3.out, HL4.out, (HBE.out.setCell (by have := hrw.out; simp; omega) _).setCell (by have := hrw.out; simp; omega) _⟩
end Go.Proofs.Ythfmjohbokpceaa
