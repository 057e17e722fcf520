import Derived.Test.YtppkibgemacdbaaSdE
import Derived.Test.YtppkibgemacdbaaSdX
namespace Go.Proofs.Ytppkibgemacdbaa
open Go.RowKit Go.WideShapes Go.ChangeShapes

/-! bearers: the reference -/
def Stay (w : World) (P : World → Prop) : Prop := ∀ W, Below w.heap.size w W → P W
theorem Stay.now {w : World} {P : World → Prop} (h : Stay w P) : P w := h w (Below.refl _ _)
theorem Stay.step {w w' : World} {P : World → Prop} (h : Stay w P) (hb : Below w.heap.size w w') : Stay w' P := fun W hW => h W (Below.step hb hW)
theorem Stay.alloc {w : World} {P : World → Prop} (h : Stay w P) (o : Obj) : Stay (w.alloc o) P := h.step ((Below.refl _ _).alloc (Nat.le_refl _) o)
theorem Stay.and {w : World} {P Q : World → Prop} (h : Stay w P) (h' : Stay w Q) : Stay w (fun W => P W ∧ Q W) := fun W hW => ⟨h W hW, h' W hW⟩
theorem stay_blk {w : World} {g t : Nat} {cs : Array Value} (h : Blk w g t cs) : Stay w (fun W => Blk W g t cs) := fun _ hW => h.below hW h.lt
theorem stay_sl {w : World} {A : Option Addr} {xs : List Value} (h : Sl w A xs) : Stay w (fun W => Sl W A xs) := fun _ hW => h.bel hW
theorem stay_own {w : World} {base e size n : Nat} {v : Value} {xs : List Value} (h : w.ownsRow base e size v n xs) : Stay w (fun W => W.ownsRow base e size v n xs) := fun _ hW => own_bel h hW
theorem stay_at {w : World} {b o : Nat} {v : Value} (h : w.cell? ⟨b, o, none⟩ = some v) : Stay w (fun W => W.cell? ⟨b, o, none⟩ = some v) := fun _ hW => (hW.cell (lt_of_cell h)).trans h
theorem stay_below {w W : World} (h : Below w.heap.size w W) : Stay W (fun W' => Below w.heap.size w W') := fun _ hW => Below.step h hW
theorem Stay.drewN {w : World} {P : World → Prop} (h : Stay w P) (n : Nat) : Stay (w.drewN n) P := h.step (below_drewN (Below.refl _ _) n)
theorem blk_up (w : World) (t t' : TypeId) (cs cs' : Array Value) : Blk ((w.alloc (.cells cs t)).alloc (.cells cs' t')) (w.heap.size + 1) t' cs' := by
  have h := Blk.new (w.alloc (.cells cs t)) t' cs'
  rw [World.size_alloc] at h
  exact h
/-- a right bearer of a right site -/
structure OkB (T : List Int) (nm : Bs) (kd pr wt pw le bu ra de : Int) : Prop where
  nm_ : OkN nm
  kd_ : 0 ≤ kd ∧ kd ≤ 2
  pr_ : 0 ≤ pr ∧ pr ≤ 100
  wt_ : 1 ≤ wt ∧ wt ≤ 100
  pw_ : 0 ≤ pw ∧ pw ≤ 100000
  best : kd = 0 → le = 0 ∧ bu = 0 ∧ ra = 0 ∧ de = 0
  sure : kd ≠ 0 → (0 ≤ le ∧ le < (T.length : Int)) ∧ (1 ≤ bu ∧ bu ≤ 1000000) ∧ (0 ≤ ra ∧ ra ≤ 1000000) ∧ (1 ≤ de ∧ de ≤ 1000) ∧ T[le.toNat]?.getD 0 ≠ 0
theorem isReport_ref (B C P : Int) (A : Option Addr) (c n : Nat) (le : Int) (w : World) (hn : 0 < n) (hl : n ≤ 1000000) :
    Calls Try.prog 24 #[.agg #[.int .i64 B, .int .i64 C, .int .i64 P, .slice A n c], .int .i64 le] w fun e w' => e = .returned (.bool (withinB le 0 ((n : Int) - 1))) ∧ Below w.heap.size w w' := by
  have w1 : IntKind.i64.wrap ((n : Int) - 1) = (n : Int) - 1 := IntWalk.i64_in _ (by omega)
  go_enter Try.func24, Try.ntmps24
  go_wp2_with (go_at_call 8; go_must (refine (within_base _ _ _ _).mono ?_; rintro e w' ⟨rfl, rfl⟩; simp only []))
  go_ret
  exact ⟨rfl, (Below.refl _ _).alloc (Nat.le_refl _) _⟩
def BerR (T : List Int) (nm : Bs) (kd pr wt pw le bu ra de : Int) (w : World) (e : Ending) (w' : World) : Prop := ∃ v : Int, e = .returned (.int .i64 v) ∧ (v = 0 → OkB T nm kd pr wt pw le bu ra de) ∧ Below w.heap.size w w'
set_option maxRecDepth 100000 in
set_option maxHeartbeats 8000000 in
theorem bearerErr_ref (B C P : Int) (A : Option Addr) (c n : Nat) (T : List Int) (nm : Bs) (kd pr wt pw le bu ra de : Int) (w : World) (hn : T.length = n) (hs : Sl w A (iv T)) (h0 : 0 < n) (hl : n ≤ 1000) (hm : nm.length ≤ 1000) :
    Calls Try.prog 9 #[.agg #[.int .i64 B, .int .i64 C, .int .i64 P, .slice A n c], .agg #[strV nm, .int .i64 kd, .int .i64 pr, .int .i64 wt, .int .i64 pw, .int .i64 le, .int .i64 bu, .int .i64 ra, .int .i64 de]] w (BerR T nm kd pr wt pw le bu ra de w) := by
  have HNM := hide (fun W => isName_base nm W (by omega))
  have HIR := hide (fun W => isReport_ref B C P A c n le W h0 (by omega))
  have HT := hide ((((stay_blk (Blk.new w 24 #[.int .i64 B, .int .i64 C, .int .i64 P, .slice A n c])).alloc (.cells #[strV nm, .int .i64 kd, .int .i64 pr, .int .i64 wt, .int .i64 pw, .int .i64 le, .int .i64 bu, .int .i64 ra, .int .i64 de] 32)).and (stay_blk (blk_up w 24 32 #[.int .i64 B, .int .i64 C, .int .i64 P, .slice A n c] #[strV nm, .int .i64 kd, .int .i64 pr, .int .i64 wt, .int .i64 pw, .int .i64 le, .int .i64 bu, .int .i64 ra, .int .i64 de]))).and ((stay_sl (hs.alloc (.cells #[.int .i64 B, .int .i64 C, .int .i64 P, .slice A n c] 24))).alloc (.cells #[strV nm, .int .i64 kd, .int .i64 pr, .int .i64 wt, .int .i64 pw, .int .i64 le, .int .i64 bu, .int .i64 ra, .int .i64 de] 32)) |>.and (stay_below (((Below.refl _ w).alloc (Nat.le_refl _) (.cells #[.int .i64 B, .int .i64 C, .int .i64 P, .slice A n c] 24)).alloc (by simp) (.cells #[strV nm, .int .i64 kd, .int .i64 pr, .int .i64 wt, .int .i64 pw, .int .i64 le, .int .i64 bu, .int .i64 ra, .int .i64 de] 32))))
  have HN := hide hn
  clear hn hs hm
  go_enter Try.func9, Try.ntmps9
  go_wp2_with fail
  go_at_call 23
  refine (HNM.out _).mono ?_
  rintro e w' ⟨v, rfl, hv, rfl⟩
  simp only []
  cases v
  · go_wp2
    go_ret
    exact ⟨4, rfl, fun h => absurd h (by decide), HT.out.now.2⟩
  have HV := hide (hv rfl)
  clear hv HNM
  cases c1 : withinB kd 0 2
  · have C1 := hide c1; clear c1
    go_wp2_with (go_at_call 8; go_must (refine (within_base _ _ _ _).mono ?_; rintro e w' ⟨rfl, rfl⟩; (first | rw [C1.out]); simp only []))
    go_ret
    exact ⟨15, rfl, fun h => absurd h (by decide), HT.out.now.2⟩
  have C1 := hide c1; clear c1
  cases c2 : withinB pr 0 100
  · have C2 := hide c2; clear c2
    go_wp2_with (go_at_call 8; go_must (refine (within_base _ _ _ _).mono ?_; rintro e w' ⟨rfl, rfl⟩; (first | rw [C1.out] | rw [C2.out]); simp only []))
    go_ret
    exact ⟨2, rfl, fun h => absurd h (by decide), HT.out.now.2⟩
  have C2 := hide c2; clear c2
  cases c3 : withinB wt 1 100
  · have C3 := hide c3; clear c3
    go_wp2_with (go_at_call 8; go_must (refine (within_base _ _ _ _).mono ?_; rintro e w' ⟨rfl, rfl⟩; (first | rw [C1.out] | rw [C2.out] | rw [C3.out]); simp only []))
    go_ret
    exact ⟨2, rfl, fun h => absurd h (by decide), HT.out.now.2⟩
  have C3 := hide c3; clear c3
  cases c4 : withinB pw 0 100000
  · have C4 := hide c4; clear c4
    go_wp2_with (go_at_call 8; go_must (refine (within_base _ _ _ _).mono ?_; rintro e w' ⟨rfl, rfl⟩; (first | rw [C1.out] | rw [C2.out] | rw [C3.out] | rw [C4.out]); simp only []))
    go_ret
    exact ⟨2, rfl, fun h => absurd h (by decide), HT.out.now.2⟩
  have C4 := hide c4; clear c4
  have HO1 := hide (show (0 ≤ kd ∧ kd ≤ 2) ∧ (0 ≤ pr ∧ pr ≤ 100) ∧ (1 ≤ wt ∧ wt ≤ 100) ∧ (0 ≤ pw ∧ pw ≤ 100000) from by
    have a1 := C1.out; have a2 := C2.out; have a3 := C3.out; have a4 := C4.out
    simp [withinB] at a1 a2 a3 a4
    exact ⟨a1, a2, a3, a4⟩)
  by_cases k0 : kd = 0
  · have hk : (kd == 0) = true := by rw [k0]; rfl
    have HK := hide k0; clear k0
    by_cases z0 : le = 0
    rotate_left
    · have y0 : (le != 0) = true := by rw [bne_iff_ne]; exact z0
      clear z0
      go_wp2_with (go_at_call 8; go_must (refine (within_base _ _ _ _).mono ?_; rintro e w' ⟨rfl, rfl⟩; (first | rw [C1.out] | rw [C2.out] | rw [C3.out] | rw [C4.out]); simp only []))
      go_ret
      exact ⟨3, rfl, fun h => absurd h (by decide), HT.out.now.2⟩
    have y0 : (le != 0) = false := by rw [z0]; rfl
    have Z0 := hide z0; clear z0
    by_cases z1 : bu = 0
    rotate_left
    · have y1 : (bu != 0) = true := by rw [bne_iff_ne]; exact z1
      clear z1
      go_wp2_with (go_at_call 8; go_must (refine (within_base _ _ _ _).mono ?_; rintro e w' ⟨rfl, rfl⟩; (first | rw [C1.out] | rw [C2.out] | rw [C3.out] | rw [C4.out]); simp only []))
      go_ret
      exact ⟨3, rfl, fun h => absurd h (by decide), HT.out.now.2⟩
    have y1 : (bu != 0) = false := by rw [z1]; rfl
    have Z1 := hide z1; clear z1
    by_cases z2 : ra = 0
    rotate_left
    · have y2 : (ra != 0) = true := by rw [bne_iff_ne]; exact z2
      clear z2
      go_wp2_with (go_at_call 8; go_must (refine (within_base _ _ _ _).mono ?_; rintro e w' ⟨rfl, rfl⟩; (first | rw [C1.out] | rw [C2.out] | rw [C3.out] | rw [C4.out]); simp only []))
      go_ret
      exact ⟨3, rfl, fun h => absurd h (by decide), HT.out.now.2⟩
    have y2 : (ra != 0) = false := by rw [z2]; rfl
    have Z2 := hide z2; clear z2
    by_cases z3 : de = 0
    rotate_left
    · have y3 : (de != 0) = true := by rw [bne_iff_ne]; exact z3
      clear z3
      go_wp2_with (go_at_call 8; go_must (refine (within_base _ _ _ _).mono ?_; rintro e w' ⟨rfl, rfl⟩; (first | rw [C1.out] | rw [C2.out] | rw [C3.out] | rw [C4.out]); simp only []))
      go_ret
      exact ⟨3, rfl, fun h => absurd h (by decide), HT.out.now.2⟩
    have y3 : (de != 0) = false := by rw [z3]; rfl
    have Z3 := hide z3; clear z3
    have HF := hide (show OkB T nm kd pr wt pw le bu ra de from ⟨HV.out, HO1.out.1, HO1.out.2.1, HO1.out.2.2.1, HO1.out.2.2.2, fun _ => ⟨Z0.out, Z1.out, Z2.out, Z3.out⟩, fun h => absurd HK.out h⟩)
    clear Z0 Z1 Z2 Z3
    go_wp2_with (go_at_call 8; go_must (refine (within_base _ _ _ _).mono ?_; rintro e w' ⟨rfl, rfl⟩; (first | rw [C1.out] | rw [C2.out] | rw [C3.out] | rw [C4.out]); simp only []))
    go_ret
    exact ⟨0, rfl, fun _ => HF.out, HT.out.now.2⟩
  have hk : (kd == 0) = false := by rw [beq_eq_false_iff_ne]; exact k0
  have HK := hide k0; clear k0
  cases c5 : withinB le 0 ((n : Int) - 1)
  · have C5 := hide c5; clear c5
    go_wp2_with (first
      | (go_at_call 8; go_must (refine (within_base _ _ _ _).mono ?_; rintro e w' ⟨rfl, rfl⟩; (first | rw [C1.out] | rw [C2.out] | rw [C3.out] | rw [C4.out]); simp only []))
      | (go_at_call 24; go_must (refine (HIR.out _).mono ?_; rintro e w2 ⟨rfl, hb⟩; rw [C5.out]; replace HT := hide (HT.out.step hb); clear hb; have z5 : w2.cell? ⟨w.heap.size + 1, 5, none⟩ = some (.int .i64 le) := HT.out.now.1.1.2.cell 5; have z6 : w2.cell? ⟨w.heap.size + 1, 6, none⟩ = some (.int .i64 bu) := HT.out.now.1.1.2.cell 6; have z7 : w2.cell? ⟨w.heap.size + 1, 7, none⟩ = some (.int .i64 ra) := HT.out.now.1.1.2.cell 7; have z8 : w2.cell? ⟨w.heap.size + 1, 8, none⟩ = some (.int .i64 de) := HT.out.now.1.1.2.cell 8; have z3 : w2.cell? ⟨w.heap.size, 3, none⟩ = some (.slice A n c) := HT.out.now.1.1.1.cell 3; simp only [])))
    go_ret
    exact ⟨2, rfl, fun h => absurd h (by decide), HT.out.now.2⟩
  have C5 := hide c5; clear c5
  have HLE := hide (show 0 ≤ le ∧ le < (n : Int) from by have a := C5.out; simp [withinB] at a; omega)
  cases c6 : withinB bu 1 1000000
  · have C6 := hide c6; clear c6
    go_wp2_with (first
      | (go_at_call 8; go_must (refine (within_base _ _ _ _).mono ?_; rintro e w' ⟨rfl, rfl⟩; (first | rw [C1.out] | rw [C2.out] | rw [C3.out] | rw [C4.out] | rw [C6.out]); simp only []))
      | (go_at_call 24; go_must (refine (HIR.out _).mono ?_; rintro e w2 ⟨rfl, hb⟩; rw [C5.out]; replace HT := hide (HT.out.step hb); clear hb; have z5 : w2.cell? ⟨w.heap.size + 1, 5, none⟩ = some (.int .i64 le) := HT.out.now.1.1.2.cell 5; have z6 : w2.cell? ⟨w.heap.size + 1, 6, none⟩ = some (.int .i64 bu) := HT.out.now.1.1.2.cell 6; have z7 : w2.cell? ⟨w.heap.size + 1, 7, none⟩ = some (.int .i64 ra) := HT.out.now.1.1.2.cell 7; have z8 : w2.cell? ⟨w.heap.size + 1, 8, none⟩ = some (.int .i64 de) := HT.out.now.1.1.2.cell 8; have z3 : w2.cell? ⟨w.heap.size, 3, none⟩ = some (.slice A n c) := HT.out.now.1.1.1.cell 3; simp only [])))
    go_ret
    exact ⟨2, rfl, fun h => absurd h (by decide), HT.out.now.2⟩
  have C6 := hide c6; clear c6
  cases c7 : withinB ra 0 1000000
  · have C7 := hide c7; clear c7
    go_wp2_with (first
      | (go_at_call 8; go_must (refine (within_base _ _ _ _).mono ?_; rintro e w' ⟨rfl, rfl⟩; (first | rw [C1.out] | rw [C2.out] | rw [C3.out] | rw [C4.out] | rw [C6.out] | rw [C7.out]); simp only []))
      | (go_at_call 24; go_must (refine (HIR.out _).mono ?_; rintro e w2 ⟨rfl, hb⟩; rw [C5.out]; replace HT := hide (HT.out.step hb); clear hb; have z5 : w2.cell? ⟨w.heap.size + 1, 5, none⟩ = some (.int .i64 le) := HT.out.now.1.1.2.cell 5; have z6 : w2.cell? ⟨w.heap.size + 1, 6, none⟩ = some (.int .i64 bu) := HT.out.now.1.1.2.cell 6; have z7 : w2.cell? ⟨w.heap.size + 1, 7, none⟩ = some (.int .i64 ra) := HT.out.now.1.1.2.cell 7; have z8 : w2.cell? ⟨w.heap.size + 1, 8, none⟩ = some (.int .i64 de) := HT.out.now.1.1.2.cell 8; have z3 : w2.cell? ⟨w.heap.size, 3, none⟩ = some (.slice A n c) := HT.out.now.1.1.1.cell 3; simp only [])))
    go_ret
    exact ⟨2, rfl, fun h => absurd h (by decide), HT.out.now.2⟩
  have C7 := hide c7; clear c7
  cases c8 : withinB de 1 1000
  · have C8 := hide c8; clear c8
    go_wp2_with (first
      | (go_at_call 8; go_must (refine (within_base _ _ _ _).mono ?_; rintro e w' ⟨rfl, rfl⟩; (first | rw [C1.out] | rw [C2.out] | rw [C3.out] | rw [C4.out] | rw [C6.out] | rw [C7.out] | rw [C8.out]); simp only []))
      | (go_at_call 24; go_must (refine (HIR.out _).mono ?_; rintro e w2 ⟨rfl, hb⟩; rw [C5.out]; replace HT := hide (HT.out.step hb); clear hb; have z5 : w2.cell? ⟨w.heap.size + 1, 5, none⟩ = some (.int .i64 le) := HT.out.now.1.1.2.cell 5; have z6 : w2.cell? ⟨w.heap.size + 1, 6, none⟩ = some (.int .i64 bu) := HT.out.now.1.1.2.cell 6; have z7 : w2.cell? ⟨w.heap.size + 1, 7, none⟩ = some (.int .i64 ra) := HT.out.now.1.1.2.cell 7; have z8 : w2.cell? ⟨w.heap.size + 1, 8, none⟩ = some (.int .i64 de) := HT.out.now.1.1.2.cell 8; have z3 : w2.cell? ⟨w.heap.size, 3, none⟩ = some (.slice A n c) := HT.out.now.1.1.1.cell 3; simp only [])))
    go_ret
    exact ⟨2, rfl, fun h => absurd h (by decide), HT.out.now.2⟩
  have C8 := hide c8; clear c8
  obtain ⟨t, ht⟩ := Int.eq_ofNat_of_zero_le HLE.out.1
  have htn : t < n := by have := HLE.out; omega
  have htT : t < T.length := by rw [HN.out]; exact htn
  obtain ⟨b, off, rfl, hd0⟩ := HT.out.now.1.2.int htT
  clear hd0
  have HTB := hide (fun W (h : Sl W (some ⟨b, off, none⟩) (iv T)) => show W.cell? ⟨b, off + t, none⟩ = some (.int .i64 T[t]) from by
    obtain ⟨b', off', e, d⟩ := h.int htT
    injection e with e
    injection e with e1 e2
    subst e1 e2
    exact d)
  obtain ⟨x, hx⟩ : ∃ x, T[t] = x := ⟨_, rfl⟩
  rw [hx] at HTB
  have HX := hide (show T[le.toNat]?.getD 0 = x from by rw [ht, Int.toNat_natCast, List.getElem?_eq_getElem htT]; exact hx)
  have g1 : (t : Int) < (n : Int) := by omega
  have HLT := hide ht
  subst ht
  clear htT hx
  by_cases x0 : x = 0
  · have hx0 : (x == 0) = true := by rw [x0]; rfl
    clear x0
    go_wp2_with (first
      | (go_at_call 8; go_must (refine (within_base _ _ _ _).mono ?_; rintro e w' ⟨rfl, rfl⟩; (first | rw [C1.out] | rw [C2.out] | rw [C3.out] | rw [C4.out] | rw [C6.out] | rw [C7.out] | rw [C8.out]); simp only []))
      | (go_at_call 24; go_must (refine (HIR.out _).mono ?_; rintro e w2 ⟨rfl, hb⟩; rw [C5.out]; replace HT := hide (HT.out.step hb); clear hb; have z5 : w2.cell? ⟨w.heap.size + 1, 5, none⟩ = some (.int .i64 (t : Int)) := HT.out.now.1.1.2.cell 5; have z6 : w2.cell? ⟨w.heap.size + 1, 6, none⟩ = some (.int .i64 bu) := HT.out.now.1.1.2.cell 6; have z7 : w2.cell? ⟨w.heap.size + 1, 7, none⟩ = some (.int .i64 ra) := HT.out.now.1.1.2.cell 7; have z8 : w2.cell? ⟨w.heap.size + 1, 8, none⟩ = some (.int .i64 de) := HT.out.now.1.1.2.cell 8; have z3 : w2.cell? ⟨w.heap.size, 3, none⟩ = some (.slice (some ⟨b, off, none⟩) n c) := HT.out.now.1.1.1.cell 3; have zt : w2.cell? ⟨b, off + t, none⟩ = some (.int .i64 x) := HTB.out _ HT.out.now.1.2; simp only [])))
    go_ret
    exact ⟨11, rfl, fun h => absurd h (by decide), HT.out.now.2⟩
  · have hx0 : (x == 0) = false := by rw [beq_eq_false_iff_ne]; exact x0
    have HF := hide (show OkB T nm kd pr wt pw t bu ra de from ⟨HV.out, HO1.out.1, HO1.out.2.1, HO1.out.2.2.1, HO1.out.2.2.2, fun h => absurd h HK.out, fun _ => ⟨by have := HLE.out; rw [HN.out]; exact this, by have a := C6.out; simp [withinB] at a; exact a, by have a := C7.out; simp [withinB] at a; exact a, by have a := C8.out; simp [withinB] at a; exact a, by rw [HX.out]; exact x0⟩⟩)
    clear x0
    go_wp2_with (first
      | (go_at_call 8; go_must (refine (within_base _ _ _ _).mono ?_; rintro e w' ⟨rfl, rfl⟩; (first | rw [C1.out] | rw [C2.out] | rw [C3.out] | rw [C4.out] | rw [C6.out] | rw [C7.out] | rw [C8.out]); simp only []))
      | (go_at_call 24; go_must (refine (HIR.out _).mono ?_; rintro e w2 ⟨rfl, hb⟩; rw [C5.out]; replace HT := hide (HT.out.step hb); clear hb; have z5 : w2.cell? ⟨w.heap.size + 1, 5, none⟩ = some (.int .i64 (t : Int)) := HT.out.now.1.1.2.cell 5; have z6 : w2.cell? ⟨w.heap.size + 1, 6, none⟩ = some (.int .i64 bu) := HT.out.now.1.1.2.cell 6; have z7 : w2.cell? ⟨w.heap.size + 1, 7, none⟩ = some (.int .i64 ra) := HT.out.now.1.1.2.cell 7; have z8 : w2.cell? ⟨w.heap.size + 1, 8, none⟩ = some (.int .i64 de) := HT.out.now.1.1.2.cell 8; have z3 : w2.cell? ⟨w.heap.size, 3, none⟩ = some (.slice (some ⟨b, off, none⟩) n c) := HT.out.now.1.1.1.cell 3; have zt : w2.cell? ⟨b, off + t, none⟩ = some (.int .i64 x) := HTB.out _ HT.out.now.1.2; simp only [])))
    go_ret
    exact ⟨0, rfl, fun _ => HF.out, HT.out.now.2⟩
end Go.Proofs.Ytppkibgemacdbaa
