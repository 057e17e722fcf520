import Derived.Test.YtppkibgemacdbaaSbK
import Derived.Test.YtppkibgemacdbaaMgc
import Derived.Test.YtppkibgemacdbaaMgf
namespace Go.Proofs.Ytppkibgemacdbaa
open Go.RowKit Go.WideShapes Go.ChangeShapes

/-! slots of any bearers -/
def RowAt (W : World) (RA QA : Option Addr) (p : Nat) (rs ars : Nat → Int) : Prop := ∀ i, i < p → ∃ rb ro qb qo, RA = some ⟨rb, ro, none⟩ ∧ QA = some ⟨qb, qo, none⟩ ∧ W.cell? ⟨rb, ro + i, none⟩ = some (.int .i64 (rs i)) ∧ W.cell? ⟨qb, qo + i, none⟩ = some (.int .i64 (ars i))
theorem RowAt.bel {W W' : World} {RA QA : Option Addr} {p : Nat} {rs ars : Nat → Int} (h : RowAt W RA QA p rs ars) (hb : Below W.heap.size W W') : RowAt W' RA QA p rs ars := fun i hi => by
  obtain ⟨rb, ro, qb, qo, e1, e2, e3, e4⟩ := h i hi
  exact ⟨rb, ro, qb, qo, e1, e2, (hb.cell (lt_of_cell e3)).trans e3, (hb.cell (lt_of_cell e4)).trans e4⟩
theorem stay_row {W : World} {RA QA : Option Addr} {p : Nat} {rs ars : Nat → Int} (h : RowAt W RA QA p rs ars) : Stay W (fun W' => RowAt W' RA QA p rs ars) := fun _ hW => h.bel hW
def SlotsAll (W : World) (D : Option Addr) (m p : Nat) (rs ars : Nat → Nat → Int) : Prop := ∀ k, k < m → ∃ b o RA r QA q, D = some ⟨b, o, none⟩ ∧ W.cell? ⟨b, o + k * 2, none⟩ = some (.slice RA p r) ∧ W.cell? ⟨b, o + k * 2 + 1, none⟩ = some (.slice QA p q) ∧ RowAt W RA QA p (rs k) (ars k)
theorem SlotsAll.bel {W W' : World} {D : Option Addr} {m p : Nat} {rs ars : Nat → Nat → Int} (h : SlotsAll W D m p rs ars) (hb : Below W.heap.size W W') : SlotsAll W' D m p rs ars := fun k hk => by
  obtain ⟨b, o, RA, r, QA, q, h1, h2, h3, h4⟩ := h k hk
  exact ⟨b, o, RA, r, QA, q, h1, (hb.cell (lt_of_cell h2)).trans h2, (hb.cell (lt_of_cell h3)).trans h3, h4.bel hb⟩
set_option maxRecDepth 100000 in
set_option maxHeartbeats 4000000 in
theorem slotsErr_all (B C P : Int) (A : Option Addr) (c n : Nat) (D : Option Addr) (d m p : Nat) (rs ars : Nat → Nat → Int) (w : World) (hs : SlotsAll w D m p rs ars) (hm : m ≤ 60) (hp8 : p ≤ 8) (hn : n ≤ 1000) (hn0 : 0 < n) (hle : ∀ k i, k < m → i < p → 0 ≤ rs k i ∧ rs k i < (n : Int)) (har : ∀ k i, k < m → i < p → 0 ≤ ars k i ∧ ars k i ≤ 1000000) :
    Calls Try.prog 55 #[.agg #[.int .i64 B, .int .i64 C, .int .i64 P, .slice A n c], .int .i64 p, .slice D m d] w fun e w' => e = .returned (.int .i64 0) ∧ Below w.heap.size w w' := by
  have HIR := hide (fun le W => isReport_sched B C P A c n le W hn0 (by omega))
  have H5 := hide (fun k i (hk : k < m) (hi : i < p) => show withinB (rs k i) 0 ((n : Int) - 1) = true by have := hle k i hk hi; simp [withinB]; omega)
  have HAR := hide (fun k i (hk : k < m) (hi : i < p) => show withinB (ars k i) 0 1000000 = true by have := har k i hk hi; simp [withinB]; omega)
  have HT := hide ((stay_blk (Blk.new w 74 #[.int .i64 B, .int .i64 C, .int .i64 P, .slice A n c])).and (show Stay (w.alloc (.cells #[.int .i64 B, .int .i64 C, .int .i64 P, .slice A n c] 74)) (fun W => SlotsAll W D m p rs ars) from fun W hW => (hs.bel ((Below.refl _ w).alloc (Nat.le_refl _) _)).bel hW) |>.and (stay_below ((Below.refl _ w).alloc (Nat.le_refl _) (.cells #[.int .i64 B, .int .i64 C, .int .i64 P, .slice A n c] 74))))
  have hm60 : ¬ (60 : Int) < (m : Int) := by omega
  clear hs hle har
  go_enter Try.func55, Try.ntmps55
  go_wp2_with fail
  obtain ⟨W0, hW0⟩ : ∃ W0, w.alloc (.cells #[.int .i64 B, .int .i64 C, .int .i64 P, .slice A n c] 74) = W0 := ⟨_, rfl⟩
  rw [hW0] at HT ⊢
  clear hW0
  go_loopw [16] (fun i wr => ∃ k : Nat, k ≤ m ∧ i = .int .i64 k ∧ Below W0.heap.size W0 wr) (fun i _ => m - (intOf i).toNat)
  case atStart => exact ⟨0, Nat.zero_le _, rfl, Below.refl _ _⟩
  case round =>
    obtain ⟨k, hk, rfl, hbel⟩ := hrel
    have HX := hide ((HT.out.step hbel).and (stay_below hbel))
    clear hbel
    by_cases hlt : k < m
    · obtain ⟨b, o, RA, r, QA, q, rfl, h2, h3, h4⟩ := HX.out.now.1.1.2 k hlt
      have hki : (k : Int) < (m : Int) := by omega
      replace HX := hide (HX.out.and (stay_row h4))
      clear h4
      go_wp2_with fail
      replace HX := hide ((HX.out.alloc (.cells #[.slice RA p r, .slice QA p q] 44)).and (stay_blk (Blk.new wr 44 #[.slice RA p r, .slice QA p q])))
      obtain ⟨W6, hW6⟩ : ∃ W6, wr.alloc (.cells #[.slice RA p r, .slice QA p q] 44) = W6 := ⟨_, rfl⟩
      rw [hW6] at HX ⊢
      clear hW6 h2 h3
      obtain ⟨Z, hZ⟩ : ∃ Z, wr.heap.size = Z := ⟨_, rfl⟩
      rw [hZ] at HX ⊢
      go_loopw [35] (fun j wx => ∃ i : Nat, i ≤ p ∧ j = .int .i64 i ∧ Below W6.heap.size W6 wx) (fun j _ => p - (intOf j).toNat)
      case atStart => exact ⟨0, Nat.zero_le _, rfl, Below.refl _ _⟩
      case round =>
        obtain ⟨i, hi, rfl, hbel6⟩ := hrel
        replace HX := hide ((HX.out.step hbel6).and (stay_below hbel6))
        clear hbel6
        by_cases hli : i < p
        · obtain ⟨rb, ro, qb, qo, rfl, rfl, d1, d2⟩ := HX.out.now.1.1.2 i hli
          have hii : (i : Int) < (p : Int) := by omega
          have H5k := hide (H5.out k i hlt hli)
          have H6 := hide (HAR.out k i hlt hli)
          obtain ⟨x, hx⟩ : ∃ y, rs k i = y := ⟨_, rfl⟩
          obtain ⟨y, hy⟩ : ∃ y, ars k i = y := ⟨_, rfl⟩
          rw [hx] at d1 H5k
          rw [hy] at d2 H6
          replace HX := hide (HX.out.and (stay_at d2))
          clear hx hy d2
          have s0 : wr.cell? ⟨w.heap.size, 0, none⟩ = some (.int .i64 B) := HX.out.now.1.1.1.1.1.1.1.cell 0
          have s1 : wr.cell? ⟨w.heap.size, 1, none⟩ = some (.int .i64 C) := HX.out.now.1.1.1.1.1.1.1.cell 1
          have s2 : wr.cell? ⟨w.heap.size, 2, none⟩ = some (.int .i64 P) := HX.out.now.1.1.1.1.1.1.1.cell 2
          have s3 : wr.cell? ⟨w.heap.size, 3, none⟩ = some (.slice A n c) := HX.out.now.1.1.1.1.1.1.1.cell 3
          go_wp2_with (first
            | (go_at_call 48; go_must (refine (HIR.out x _).mono ?_; rintro e w7 ⟨rfl, hb⟩; rw [H5k.out]; replace HX := hide (HX.out.step hb); clear hb d1 s0 s1 s2 s3; have d2 : w7.cell? ⟨qb, qo + i, none⟩ = some (.int .i64 y) := HX.out.now.2; have t1 : w7.cell? ⟨Z, 1, none⟩ = some (.slice (some ⟨qb, qo, none⟩) p q) := HX.out.now.1.1.2.cell 1; simp only []))
            | (go_at_call 41; go_must (refine (within_sy _ _ _ _).mono ?_; rintro e w' ⟨rfl, rfl⟩; rw [H6.out]; simp only [])))
          go_roundw
          case rel => exact ⟨i + 1, by omega, by go_num, HX.out.now.1.2⟩
          case measure => simp [intOf]; omega
        · go_wp2
          go_roundw
          case rel => exact ⟨k + 1, by omega, by go_num, HX.out.now.1.1.1.2⟩
          case measure => simp [intOf]; omega
    · go_wp2
      go_ret
      exact ⟨rfl, HX.out.now.1.2⟩
end Go.Proofs.Ytppkibgemacdbaa

namespace Go.Proofs.Ytppkibgemacdbaa
open Go.RowKit Go.WideShapes Go.ChangeShapes

/-! openRun of a list of bearers -/
theorem stay_slotsAll {w : World} {D : Option Addr} {m p : Nat} {rs ars : Nat → Nat → Int} (h : SlotsAll w D m p rs ars) : Stay w (fun W => SlotsAll W D m p rs ars) := fun _ hW => h.bel hW
theorem usr_blk_ne {W : World} {Us : List Nat} {S : List Usr} (hu : UsrAt W Us S) {g t : Nat} {cs : Array Value} (h : Blk W g t cs) (ht : t ≠ 97) : g ∉ Us := fun hm => by
  obtain ⟨j, hj, rfl⟩ := List.getElem_of_mem hm
  have h2 := hu.2.2 j (by rw [← hu.1]; exact hj) hj
  have h3 := h.symm.trans h2
  injection h3 with h3
  injection h3 with _ h3
  exact ht h3
theorem usr_own_ne {W : World} {Us : List Nat} {S : List Usr} (hu : UsrAt W Us S) {base e size n p c : Nat} {D : Option Addr} {xs : List Value} (ho : W.ownsRow base e size (.slice D p c) n xs) (he : e ≠ 97) : ∀ b off, D = some ⟨b, off, none⟩ → b ∉ Us := fun b off q hm => by
  subst q
  obtain ⟨j, hj, rfl⟩ := List.getElem_of_mem hm
  exact own_blk_ne ho (hu.2.2 j (by rw [← hu.1]; exact hj) hj) he rfl
def OpenRunL (B C P : Int) (A : Option Addr) (c n : Nat) (S : List Usr) (p : Nat) (w : World) (e : Ending) (w' : World) : Prop :=
  ∃ R D c' Us, e = .returned (.tuple #[.pointer (some ⟨R, 0, none⟩), .int .i64 0]) ∧ Blk w' R 93 #[.int .i64 B, .int .i64 C, .int .i64 P, .slice A n c, .slice D p c'] ∧ Sl w' D (Us.map ptrV) ∧ UsrAt w' Us S ∧ R ∉ Us ∧ (∀ b off, D = some ⟨b, off, none⟩ → b ∉ Us) ∧ (∀ u ∈ Us, w.heap.size ≤ u) ∧ w.heap.size ≤ R ∧ Below w.heap.size w w'
set_option maxRecDepth 100000 in
set_option maxHeartbeats 8000000 in
theorem openRun_all (B C P : Int) (A : Option Addr) (c n : Nat) (T : List Int) (L : List Ber) (E : Option Addr) (d p : Nat) (D : Option Addr) (dd m : Nat) (rs ars : Nat → Nat → Int) (w : World) (hn : T.length = n) (hp : L.length = p) (hs : Sl w A (iv T)) (hs2 : OkS B C P T) (hL : OkL B C P T L) (hpd : p ≤ d) (hE : Brs w E L) (hsl : SlotsAll w D m p rs ars) (hm : m ≤ 60)
    (hle : ∀ k i, k < m → i < p → 0 ≤ rs k i ∧ rs k i < (n : Int)) (har : ∀ k i, k < m → i < p → 0 ≤ ars k i ∧ ars k i ≤ 1000000) :
    Calls Try.prog 36 #[.agg #[.int .i64 B, .int .i64 C, .int .i64 P, .slice A n c], .slice E p d, .slice D m dd] w (OpenRunL B C P A c n (L.map (newU T)) p w) := by
  have hp8 : p ≤ 8 := by have := hL.few; omega
  have HOA := hide (fun W k k2 => openAll_all B C P A c n T L E d p W hn hp k hs2 hL hpd k2)
  have HNR := hide (fun W k k2 => newRun_all B C P A c n T L E d p W hn hp k hs2 hL.ok hp8 k2)
  have HSE := hide (fun W k => slotsErr_all B C P A c n D dd m p rs ars W k hm hp8 (by have := hs2.few; omega) (by have := hs2.pos; omega) hle har)
  have HT : Hid (Stay (w.alloc (.cells #[.int .i64 B, .int .i64 C, .int .i64 P, .slice A n c] 24)) (fun W => (((Blk W w.heap.size 24 #[.int .i64 B, .int .i64 C, .int .i64 P, .slice A n c] ∧ Brs W E L) ∧ Sl W A (iv T)) ∧ SlotsAll W D m p rs ars) ∧ Below w.heap.size w W)) := hide
    ((((stay_blk (Blk.new w 24 #[.int .i64 B, .int .i64 C, .int .i64 P, .slice A n c])).and ((stay_brs hE).alloc (.cells #[.int .i64 B, .int .i64 C, .int .i64 P, .slice A n c] 24))).and ((stay_sl hs).alloc (.cells #[.int .i64 B, .int .i64 C, .int .i64 P, .slice A n c] 24))).and ((stay_slotsAll hsl).alloc (.cells #[.int .i64 B, .int .i64 C, .int .i64 P, .slice A n c] 24)) |>.and (stay_below ((Below.refl _ w).alloc (Nat.le_refl _) (.cells #[.int .i64 B, .int .i64 C, .int .i64 P, .slice A n c] 24))))
  clear hs hs2 hL hn hE hsl hm har hle hp hpd hp8
  go_enter Try.func36, Try.ntmps36
  obtain ⟨W0, hW0⟩ : ∃ W0, w.alloc (.cells #[.int .i64 B, .int .i64 C, .int .i64 P, .slice A n c] 24) = W0 := ⟨_, rfl⟩
  rw [hW0] at HT
  have z0 : W0.cell? ⟨w.heap.size, 0, none⟩ = some (.int .i64 B) := HT.out.now.1.1.1.1.cell 0
  have z1 : W0.cell? ⟨w.heap.size, 1, none⟩ = some (.int .i64 C) := HT.out.now.1.1.1.1.cell 1
  have z2 : W0.cell? ⟨w.heap.size, 2, none⟩ = some (.int .i64 P) := HT.out.now.1.1.1.1.cell 2
  have z3 : W0.cell? ⟨w.heap.size, 3, none⟩ = some (.slice A n c) := HT.out.now.1.1.1.1.cell 3
  go_wp2_with (first
    | (go_at_call 25; go_must (refine (HOA.out _ HT.out.now.1.1.2 HT.out.now.1.1.1.2).mono ?_; rintro e w1 ⟨rfl, hb⟩; replace HT := hide (HT.out.step hb); clear hb hW0 z0 z1 z2 z3; simp only []))
    | (refine wpList_store_row rfl 74 (.tmp 8) (.tmp 14) rfl w1.heap.size #[.int .i64 B, .int .i64 C, .int .i64 P, .slice A n c] rfl rfl 74 #[.int .i64 0, .int .i64 0, .int .i64 0, .slice none 0 0] (Blk.new w1 74 #[.int .i64 0, .int .i64 0, .int .i64 0, .slice none 0 0]) (by kernel_rfl) rfl (by simp [Value.oneCell']) ?_; have HX := hide ((Blk.new w1 74 #[.int .i64 0, .int .i64 0, .int .i64 0, .slice none 0 0]).row #[.int .i64 B, .int .i64 C, .int .i64 P, .slice A n c]); replace HT := hide ((HT.out.step (Below.row (g := w1.heap.size) ((Below.refl w1.heap.size w1).alloc (Nat.le_refl _) (.cells #[.int .i64 0, .int .i64 0, .int .i64 0, .slice none 0 0] 74)) (Nat.le_refl _) #[.int .i64 B, .int .i64 C, .int .i64 P, .slice A n c])).and (stay_blk HX.out)); clear HX))
  obtain ⟨W4, hW4⟩ : ∃ W4, (w1.alloc (.cells #[.int .i64 0, .int .i64 0, .int .i64 0, .slice none 0 0] 74)).setRow w1.heap.size #[.int .i64 B, .int .i64 C, .int .i64 P, .slice A n c] = W4 := ⟨_, rfl⟩
  rw [hW4] at HT ⊢
  have hz4 : w1.heap.size < W4.heap.size := by rw [← hW4]; simp
  clear hW4
  refine wp_region_held_drew (S := fun w' => Below W4.heap.size W4 w') (by kernel_rfl) (below_drewN (Below.refl W4.heap.size W4) 1) (fun hHeld => ?_)
  refine take_at (i := 0) 19 (v := .agg #[.int .i64 B, .int .i64 C, .int .i64 P, .slice A n c]) rfl rfl (by kernel_rfl) (by kernel_rfl) (by kernel_rfl) (fun _ _ _ h => h) (Or.inl ⟨by rfl, by intro w_ hSw; have c0 : w_.cell? ⟨w1.heap.size, 0, none⟩ = some (.int .i64 B) := (HT.out _ hSw).2.cell 0; have c1 : w_.cell? ⟨w1.heap.size, 1, none⟩ = some (.int .i64 C) := (HT.out _ hSw).2.cell 1; have c2 : w_.cell? ⟨w1.heap.size, 2, none⟩ = some (.int .i64 P) := (HT.out _ hSw).2.cell 2; have c3 : w_.cell? ⟨w1.heap.size, 3, none⟩ = some (.slice A n c) := (HT.out _ hSw).2.cell 3; go_simp⟩) (by assumption) ?_
  try simp only [Act.put, List.setIfInBounds_toArray, List.set_cons_zero, List.set_cons_succ]
  refine take_at (i := 1) 20 (v := .slice E p d) rfl rfl (by kernel_rfl) (by kernel_rfl) (by kernel_rfl) (fun _ _ _ h => h) (Or.inl ⟨by rfl, by intro w_ hSw; go_simp⟩) (by assumption) ?_
  try simp only [Act.put, List.setIfInBounds_toArray, List.set_cons_zero, List.set_cons_succ]
  refine take_at (i := 3) 22 (v := .agg #[.int .i64 B, .int .i64 C, .int .i64 P, .slice A n c]) rfl rfl (by kernel_rfl) (by kernel_rfl) (by kernel_rfl) (fun _ _ _ h => h) (Or.inl ⟨by rfl, by intro w_ hSw; have c0 : w_.cell? ⟨w1.heap.size, 0, none⟩ = some (.int .i64 B) := (HT.out _ hSw).2.cell 0; have c1 : w_.cell? ⟨w1.heap.size, 1, none⟩ = some (.int .i64 C) := (HT.out _ hSw).2.cell 1; have c2 : w_.cell? ⟨w1.heap.size, 2, none⟩ = some (.int .i64 P) := (HT.out _ hSw).2.cell 2; have c3 : w_.cell? ⟨w1.heap.size, 3, none⟩ = some (.slice A n c) := (HT.out _ hSw).2.cell 3; go_simp⟩) (by assumption) ?_
  try simp only [Act.put, List.setIfInBounds_toArray, List.set_cons_zero, List.set_cons_succ]
  refine take_at (i := 4) 23 (v := .slice E p d) rfl rfl (by kernel_rfl) (by kernel_rfl) (by kernel_rfl) (fun _ _ _ h => h) (Or.inl ⟨by rfl, by intro w_ hSw; go_simp⟩) (by assumption) ?_
  try simp only [Act.put, List.setIfInBounds_toArray, List.set_cons_zero, List.set_cons_succ]
  refine take_at (i := 5) 24 (v := .int .i64 (p : Int)) rfl rfl (by kernel_rfl) (by kernel_rfl) (by kernel_rfl) (fun _ _ _ h => h) (Or.inl ⟨by rfl, by intro w_ hSw; go_simp⟩) (by assumption) ?_
  try simp only [Act.put, List.setIfInBounds_toArray, List.set_cons_zero, List.set_cons_succ]
  refine take_at (i := 6) 25 (v := .slice D m dd) rfl rfl (by kernel_rfl) (by kernel_rfl) (by kernel_rfl) (fun _ _ _ h => h) (Or.inl ⟨by rfl, by intro w_ hSw; go_simp⟩) (by assumption) ?_
  try simp only [Act.put, List.setIfInBounds_toArray, List.set_cons_zero, List.set_cons_succ]
  refine wpAnyH_ready (rs := [2]) (by kernel_rfl) (by simp) ?_
  refine AllReadyH.cons rfl (fun K hK => ?_) AllReadyH.nil
  go_simp
  go_at_call 54
  refine (HNR.out _ (HT.out _ hHeld).1.1.1.2 (HT.out _ hHeld).1.1.1.1.2).mono ?_
  rintro e w5 ⟨R, D', c', Us, he, hR, hO, hU, hUw, hRw, hb⟩
  replace he : e = .returned (.pointer (some ⟨R, 0, none⟩)) := he
  subst he
  have hRU := usr_blk_ne hU hR (by decide)
  have hDU := usr_own_ne hU hO (by decide)
  replace hHeld := Below.step hHeld hb
  have HN := hide ((stay_blk hR).and (stay_sl (Sl.of_ownN hO)) |>.and (show Stay w5 (fun W => UsrAt W Us (L.map (newU T))) from fun W hW => hU.bel hW))
  have hz : w.heap.size ≤ W4.drew.heap.size := by have h1 := (HT.out.now.1.2).size; have h2 : W4.drew.heap.size = W4.heap.size := rfl; omega
  replace hUw : ∀ u ∈ Us, w.heap.size ≤ u := fun u h => Nat.le_trans hz (hUw u h)
  replace hRw : w.heap.size ≤ R := Nat.le_trans hz hRw
  clear hR hO hU hb HNR HOA
  simp only []
  refine hK.out _ _ hHeld (fun hHeld => ?_)
  clear hK K
  try simp only [Act.put, List.setIfInBounds_toArray, List.set_cons_zero, List.set_cons_succ]
  refine wpAnyH_ready (rs := [7]) (by kernel_rfl) (by simp) ?_
  refine AllReadyH.cons rfl (fun K hK => ?_) AllReadyH.nil
  go_simp
  go_at_call 55
  refine (HSE.out _ (HT.out _ hHeld).1.1.2).mono ?_
  rintro e w6 ⟨rfl, hb⟩
  replace hHeld := Below.step hHeld hb
  replace HN := hide (HN.out.step hb)
  have HB := hide ((HT.out _ hHeld).1.2)
  clear hb
  simp only []
  refine hK.out _ _ hHeld (fun hHeld => ?_)
  clear hK K
  try simp only [Act.put, List.setIfInBounds_toArray, List.set_cons_zero, List.set_cons_succ]
  refine take_at (i := 8) 6 (v := .pointer (some ⟨R, 0, none⟩)) rfl rfl (by kernel_rfl) (by kernel_rfl) (by kernel_rfl) (fun _ _ _ h => h) (Or.inl ⟨by rfl, by intro w_ hSw; go_simp⟩) (by assumption) ?_
  try simp only [Act.put, List.setIfInBounds_toArray, List.set_cons_zero, List.set_cons_succ]
  refine take_at (i := 9) 7 (v := .int .i64 0) rfl rfl (by kernel_rfl) (by kernel_rfl) (by kernel_rfl) (fun _ _ _ h => h) (Or.inl ⟨by rfl, by intro w_ hSw; go_simp⟩) (by assumption) ?_
  try simp only [Act.put, List.setIfInBounds_toArray, List.set_cons_zero, List.set_cons_succ]
  refine wpAnyH_done (by kernel_rfl) ?_ _
  clear hHeld
  go_wp2
  refine bodyPost_ret (v := .tuple #[.pointer (some ⟨R, 0, none⟩), .int .i64 0]) (by simp [results, Try.results36, go_sem]) rfl ⟨R, D', c', Us, rfl, HN.out.now.1.1, HN.out.now.1.2, HN.out.now.2, hRU, hDU, hUw, hRw, HB.out⟩
end Go.Proofs.Ytppkibgemacdbaa

namespace Go.Proofs.Ytppkibgemacdbaa
open Go.RowKit Go.WideShapes Go.ChangeShapes

/-! what was sent after t slots of the worst that is permitted -/
def arB (x : Ber) (t : Nat) : Int := if x.kd = 0 then 1000000 else if t = 0 then x.bu else x.ra
def sumB (x : Ber) : Nat → Int
  | 0 => 0
  | t + 1 => sumB x t + arB x t
theorem sumB_guar {x : Ber} (hk : x.kd ≠ 0) (t : Nat) : sumB x (t + 1) = arrA x.bu x.ra t := by
  induction t with
  | zero => simp [sumB, arB, arrA, hk]
  | succ t ih =>
    have h1 : sumB x (t + 1 + 1) = sumB x (t + 1) + arB x (t + 1) := rfl
    have h2 : arB x (t + 1) = x.ra := by simp [arB, hk]
    have h3 : ((t + 1 : Nat) : Int) * x.ra = (t : Int) * x.ra + x.ra := by rw [Int.natCast_add, Int.add_mul]; simp
    rw [h1, h2, ih]
    unfold arrA
    rw [h3]
    omega
def LateI (T : List Int) (L : List Ber) (t : Nat) (S : List Usr) : Prop := S.length = L.length ∧ ∀ j (h : j < L.length) (h' : j < S.length), S[j].x = L[j] ∧ S[j].ne = ndB T L[j] ∧ S[j].se + S[j].wa = sumB L[j] t ∧ 0 ≤ S[j].wa ∧ 0 ≤ S[j].se ∧
  (L[j].kd ≠ 0 → (t = 0 ∧ S[j].se = 0) ∨ ∃ k, t = k + 1 ∧ min (arrA L[j].bu L[j].ra k) (((k + 1 : Nat) : Int) * (ndB T L[j] * tbO T L[j].le)) ≤ S[j].se)
theorem late_zero (T : List Int) (L : List Ber) : LateI T L 0 (L.map (newU T)) := by
  refine ⟨by simp, fun j h h' => ?_⟩
  rw [List.getElem_map]
  exact ⟨rfl, rfl, rfl, Int.le_refl _, Int.le_refl _, fun _ => .inl ⟨rfl, rfl⟩⟩
theorem late_succ {T : List Int} {L : List Ber} {t : Nat} {S S' : List Usr} {tbs ars : Nat → Int} (hi : LateI T L t S) (hl : S'.length = S.length)
    (hc : ∀ j (h : j < S.length) (h' : j < S'.length), S'[j].x = S[j].x ∧ S'[j].ne = S[j].ne ∧ S'[j].se + S'[j].wa = S[j].se + S[j].wa + ars j ∧ 0 ≤ S'[j].wa ∧ S[j].se ≤ S'[j].se ∧ (S[j].x.kd ≠ 0 → 0 < tbs j → min (S[j].wa + ars j) (S[j].ne * tbs j) ≤ S'[j].se - S[j].se))
    (hT : ∀ j (h : j < L.length), L[j].kd ≠ 0 → tbs j = tbO T L[j].le) (hA : ∀ j (h : j < L.length), ars j = arB L[j] t) (hp : ∀ j (h : j < L.length), L[j].kd ≠ 0 → 0 < tbO T L[j].le) : LateI T L (t + 1) S' := by
  refine ⟨hl.trans hi.1, fun j h h' => ?_⟩
  have hj : j < S.length := by rw [hi.1]; exact h
  obtain ⟨a1, a2, a3, a4, a5, a6⟩ := hi.2 j h hj
  obtain ⟨b1, b2, b3, b4, b5, b6⟩ := hc j hj h'
  have hs : sumB L[j] (t + 1) = sumB L[j] t + arB L[j] t := rfl
  refine ⟨b1.trans a1, b2.trans a2, by rw [b3, a3, hs, hA j h], b4, by omega, fun hk => .inr ⟨t, rfl, ?_⟩⟩
  have hg := sumB_guar hk t
  have hz := b6 (by rw [a1]; exact hk) (by rw [hT j h hk]; exact hp j h hk)
  rw [hT j h hk, a2] at hz
  have hw : S[j].wa + ars j = arrA L[j].bu L[j].ra t - S[j].se := by rw [← hg, hs, ← a3, hA j h]; omega
  rw [hw] at hz
  have hnd : ndB T L[j] = needB L[j].ra L[j].bu L[j].de (tbO T L[j].le) := by unfold ndB; rw [if_neg hk]
  have hra : L[j].ra ≤ ndB T L[j] * tbO T L[j].le := by rw [hnd]; exact need_rate (hp j h hk)
  rcases a6 hk with ⟨rfl, e⟩ | ⟨k, rfl, e⟩
  · have h0 : arrA L[j].bu L[j].ra 0 = L[j].bu := by simp [arrA]
    rw [h0, e] at hz
    exact guar_first (by omega)
  · have := guar_succ hra e hz
    exact Int.le_trans this (by omega)
theorem need_burst {ra bu de tb : Int} (ht : 0 < tb) (hd : 0 < de) : bu ≤ de * (needB ra bu de tb * tb) := by
  have h1 := ceil_mul (n := max ra (ceilI bu de)) ht
  have h2 := ceil_mul (n := bu) hd
  have h3 : ceilI bu de ≤ needB ra bu de tb * tb := by unfold needB; omega
  have h4 := Int.mul_le_mul_of_nonneg_left h3 (Int.le_of_lt hd)
  rw [Int.mul_comm (ceilI bu de) de] at h2
  exact Int.le_trans h2 h4
/-- what is due behind slot t was sent -/
theorem late_due {T : List Int} {L : List Ber} {t : Nat} {S : List Usr} (hi : LateI T L (t + 1) S) (j : Nat) (h : j < L.length) (h' : j < S.length) (hk : L[j].kd ≠ 0) (hp : 0 < tbO T L[j].le) (hd : 1 ≤ L[j].de) (hr : 0 ≤ L[j].ra) (i : Nat) (hij : (t : Int) + 1 - L[j].de = (i : Int)) : sumB L[j] (i + 1) ≤ S[j].se := by
  obtain ⟨-, -, -, -, -, a6⟩ := hi.2 j h h'
  have hnd : ndB T L[j] = needB L[j].ra L[j].bu L[j].de (tbO T L[j].le) := by unfold ndB; rw [if_neg hk]
  rw [sumB_guar hk i]
  rcases a6 hk with ⟨e, _⟩ | ⟨k, e, hm⟩
  · omega
  · obtain rfl : t = k := by omega
    exact guar_due (by rw [hnd]; exact need_rate hp) (by rw [hnd]; exact need_burst hp (by omega)) hd hr hij hm
/-- a slot's reports and arrivals, as slot reads them -/
theorem rep_of {w W : World} {ab ao n p : Nat} {T : List Int} {RA QA : Option Addr} {Us : List Nat} {rs ars : Nat → Int} (hs : Sl W (some ⟨ab, ao, none⟩) (iv T)) (hn : T.length = n) (hr0 : RowAt w RA QA p rs ars) (hr : RowAt W RA QA p rs ars) (hU : ∀ u ∈ Us, w.heap.size ≤ u)
    (hle : ∀ i, i < p → 0 ≤ rs i ∧ rs i < (n : Int)) (har : ∀ i, i < p → 0 ≤ ars i ∧ ars i ≤ 1000000) (hT : ∀ i (h : i < T.length), 0 ≤ T[i] ∧ T[i] ≤ 1000) : RepAt W ab ao n RA QA p Us (fun i => tbO T (rs i)) ars := fun i hi => by
  obtain ⟨rb, ro, qb, qo, e1, e2, e3, e4⟩ := hr i hi
  obtain ⟨rb', ro', qb', qo', f1, f2, f3, f4⟩ := hr0 i hi
  rw [e1] at f1
  rw [e2] at f2
  injection f1 with f1
  injection f2 with f2
  injection f1 with g1 g2
  injection f2 with g3 g4
  subst g1 g2 g3 g4
  obtain ⟨kk, hkk⟩ := Int.eq_ofNat_of_zero_le (hle i hi).1
  have hk : kk < n := by have := (hle i hi).2; omega
  have hkT : kk < T.length := by omega
  obtain ⟨b, o, e, hc⟩ := hs kk (by simpa [iv] using hkT)
  injection e with e
  injection e with e5 e6
  subst e5 e6
  have ht : tbO T (rs i) = T[kk] := by unfold tbO; rw [hkk]; simp [hkT]
  refine ⟨rb, ro, qb, qo, kk, e1, e2, hk, fun h => ?_, fun h => ?_, by rw [e3, hkk], ?_, e4, ?_⟩
  · have h1 := hU _ h; have h2 := lt_of_cell f3; omega
  · have h1 := hU _ h; have h2 := lt_of_cell f4; omega
  · show W.cell? ⟨ab, ao + kk, none⟩ = some (.int .i64 (tbO T (rs i)))
    rw [ht, hc]; simp [iv]
  · show 0 ≤ tbO T (rs i) ∧ tbO T (rs i) ≤ 1000 ∧ _
    rw [ht]
    exact ⟨(hT kk hkT).1, (hT kk hkT).2, har i hi⟩
theorem GrowU.below {Us : List Nat} {w0 w W : World} {n : Nat} (hb : Below n w0 w) (hg : GrowU Us w W) (hU : ∀ u ∈ Us, n ≤ u) (hn : n ≤ w.heap.size) : Below n w0 W :=
  hb.trans ⟨hg.os, hg.tape, hg.output, hg.size, fun b hb' => hg.block b (Nat.lt_of_lt_of_le hb' hn) (fun h => by have := hU b h; omega)⟩
theorem sumB_le {x : Ber} (hb : 0 ≤ x.bu ∧ x.bu ≤ 1000000) (hr : 0 ≤ x.ra ∧ x.ra ≤ 1000000) (t : Nat) : 0 ≤ sumB x t ∧ sumB x t ≤ (t : Int) * 1000000 := by
  induction t with
  | zero => simp [sumB]
  | succ t ih =>
    have h1 : sumB x (t + 1) = sumB x t + arB x t := rfl
    have h2 : 0 ≤ arB x t ∧ arB x t ≤ 1000000 := by unfold arB; split; omega; split <;> omega
    omega
theorem late_sum {T : List Int} {L : List Ber} {t : Nat} {S : List Usr} (hi : LateI T L t S) : S.map (·.ne) = L.map (ndB T) := by
  apply List.ext_getElem
  · simpa using hi.1
  · intro j h1 h2
    rw [List.length_map] at h1 h2
    rw [List.getElem_map, List.getElem_map]
    exact (hi.2 j h2 h1).2.1
theorem okR_bd {T : List Int} {x : Ber} (h : OkR T x) : (0 ≤ x.bu ∧ x.bu ≤ 1000000) ∧ (0 ≤ x.ra ∧ x.ra ≤ 1000000) := by
  by_cases hk : x.kd = 0
  · have := OkB.best h hk; omega
  · have := OkB.sure h hk; omega
theorem new_ok {B C P : Int} {T : List Int} {L : List Ber} (hs2 : OkS B C P T) (hok : ∀ x ∈ L, OkR T x) : ∀ s ∈ L.map (newU T), OkU s := fun s hs => by
  obtain ⟨x, hx, rfl⟩ := List.mem_map.1 hs
  have h := hok x hx
  exact ⟨⟨Int.le_refl _, by show (0 : Int) ≤ 20; omega⟩, ⟨Int.le_refl _, by show (0 : Int) ≤ 1000; omega⟩, OkB.pw_ h, OkB.wt_ h, ⟨Int.le_refl _, by show (0 : Int) ≤ 100000000; omega⟩, ⟨Int.le_refl _, by show (0 : Int) ≤ 100000000; omega⟩, ndB_bd hs2 h⟩
theorem late_se {T : List Int} {L : List Ber} {t : Nat} {S : List Usr} (hi : LateI T L t S) (hok : ∀ x ∈ L, OkR T x) (ht : t ≤ 60) : ∀ s ∈ S, s.se + s.wa ≤ 90000000 := fun s hs => by
  obtain ⟨j, hj, rfl⟩ := List.getElem_of_mem hs
  have hj' : j < L.length := by rw [← hi.1]; exact hj
  have h1 := (hi.2 j hj' hj).2.2.1
  have hb := okR_bd (hok _ (List.getElem_mem hj'))
  have h2 := sumB_le hb.1 hb.2 t
  omega
end Go.Proofs.Ytppkibgemacdbaa

