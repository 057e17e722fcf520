import Derived.Test.YtppkibgemacdbaaMga
import Derived.Test.YtppkibgemacdbaaMem2
import Derived.Deep.RegionHeld3
import Derived.StillTail
import Derived.Laws.Tables
namespace Go.Proofs.Ytppkibgemacdbaa
open Go.RowKit Go.WideShapes Go.ChangeShapes

/-! names: the program -/
theorem bytes_of (s : Bs) (w : World) : ∃ (cap : Nat) (W1 : World), (convert 9 118 (strV s)).run Try.prog w = .ok (.slice (some ⟨w.heap.size, 0, none⟩) s.length cap) W1 ∧
    (∀ k (h : k < s.length), W1.cell? ⟨w.heap.size, k, none⟩ = some (.int .u8 (s[k].toNat : Int))) ∧ Below w.heap.size w W1 := by
  have h := run_bytes_of_string (P := Try.prog) w 9 118 5 ⟨s.toArray⟩ Try.underlying9 Try.underlying118 Try.underlying5
  have hz : (ByteArray.mk s.toArray).size = s.length := str_size s
  refine ⟨_, _, by rw [show strV s = .string ⟨s.toArray⟩ from rfl, h, hz], fun k hk => ?_, ?_⟩
  · have e : (w.drew).heap.size = w.heap.size := rfl
    rw [← e, World.cell?_alloc_mark, bytesRow_at _ _ k (by show k < s.toArray.size; simpa using hk)]
    rfl
  · exact (below_drewN (Below.refl _ w) 1).alloc (Nat.le_refl _) _
set_option maxRecDepth 100000 in
set_option maxHeartbeats 4000000 in
theorem isName_sched (s : Bs) (w : World) (hs : OkN s) :
    Calls Try.prog 47 #[strV s] w fun e w' => e = .returned (.bool true) ∧ Below w.heap.size w w' := by
  have hlen := fun t W => len_str s t W
  obtain ⟨cap, W1, hcv, hcell, hbel⟩ := bytes_of s w
  have HC := hide hcell
  have HB := hide hbel
  have HN := hide hs
  have hne : ∀ W, (binOp .neq 9 (strV s) (.string ⟨#[]⟩)).run Try.prog W = .ok (.bool true) W := fun W => by
    have h := ne_str s [] W
    have e : (s == []) = false := by
      have := hs.pos
      cases s with
      | nil => simp at this
      | cons a l => rfl
    rw [e] at h
    exact h
  have eg : ∀ op u v z, eqGuard op 9 u v (strV s) z = pure () := fun op u v z => eqG_str op u v s z
  have hl12 : ¬ (12 : Int) < (s.length : Int) := by have := hs.few; omega
  have hl12' : (s.length : Int) ≤ 12 := by have := hs.few; omega
  have g12 := hs.few
  clear hcell hbel hs
  go_enter Try.func47, Try.ntmps47
  go_wp2
  go_loopw [9] (fun i wr => ∃ k : Nat, k ≤ s.length ∧ i = .int .i64 k ∧ W1 = wr) (fun i _ => s.length - (intOf i).toNat)
  case atStart => exact ⟨0, Nat.zero_le _, rfl, rfl⟩
  case round =>
    obtain ⟨k, hk, rfl, rfl⟩ := hrel
    by_cases hlt : k < s.length
    · have d1 := HC.out k hlt
      have hc := HN.out.in_ k hlt
      obtain ⟨x, hx⟩ : ∃ x : Int, (s[k].toNat : Int) = x := ⟨_, rfl⟩
      rw [hx] at d1 hc
      clear hx
      have hki : (k : Int) < (s.length : Int) := by omega
      have hkk : k = 0 ∨ k ≠ 0 := by omega
      unfold nmC at hc
      simp at hc
      have HCC := hide hc; clear hc
      rcases hkk with hk0 | hk0
      · have hkz : ((k : Int) == 0) = true := by simp [hk0]
        have HK := hide hk0; clear hk0
        rcases nm_cases x with ⟨c1, c2⟩ | ⟨c1, c2, c3⟩ | ⟨c1, c2, c3, c4, c5⟩ | ⟨c1, c2, c3, c4, c5⟩ | ⟨c1, c2, c3, c4⟩ | ⟨c1, c2, c3⟩ | ⟨c1, c2, c3, c4, c5, c6⟩ | ⟨c1, c2, c3, c4, c5, c6, c7⟩
        all_goals
          first
            | (exfalso; have h1 := HCC.out; have h2 := HK.out; omega)
            | (go_wp2
               go_roundw
               case rel => exact ⟨k + 1, by omega, by go_num, by first | rfl | trivial⟩
               case measure => simp [intOf]; omega)
      · have hkz : ((k : Int) == 0) = false := by rw [beq_eq_false_iff_ne]; omega
        have HK := hide hk0; clear hk0
        rcases nm_cases x with ⟨c1, c2⟩ | ⟨c1, c2, c3⟩ | ⟨c1, c2, c3, c4, c5⟩ | ⟨c1, c2, c3, c4, c5⟩ | ⟨c1, c2, c3, c4⟩ | ⟨c1, c2, c3⟩ | ⟨c1, c2, c3, c4, c5, c6⟩ | ⟨c1, c2, c3, c4, c5, c6, c7⟩
        all_goals
          first
            | (exfalso; have h1 := HCC.out; have h2 := HK.out; omega)
            | (go_wp2
               go_roundw
               case rel => exact ⟨k + 1, by omega, by go_num, by first | rfl | trivial⟩
               case measure => simp [intOf]; omega)
    · go_wp2
      go_ret
      exact ⟨rfl, HB.out⟩
end Go.Proofs.Ytppkibgemacdbaa

namespace Go.Proofs.Ytppkibgemacdbaa
open Go.RowKit Go.WideShapes Go.ChangeShapes

/-! laws for regions that draw, stores and results of whole structs, own slices read (gathered for a new seat) -/
section
variable {P : Program} {ops : Array Oper} {Q : Exit → Act → World → Prop} {md : Region.Mode} {S : World → Prop}
theorem take_at {i : Nat} {oi : Oper} (d : Tmp) {v : Value} {fuel : Nat} {listed : Array Bool} {a : Act} {w : World} (hi : ops[i]? = some oi) (hd : oi.dst = some d)
    (hs : Region.noSelect ops = true) (hf : Region.free md ops listed i = true) (hr : (Region.ready md ops listed).contains i = true)
    (hQ : ∀ c a w, Q (.panic c) (a.put oi.dst v) w → Q (.panic c) a w) (hy : YieldsIf P ops S oi v a) (hS : S w)
    (h : wpAnyH P md ops Q S fuel (listed.setIfInBounds i true) (a.put (some d) v) w) : wpAnyH P md ops Q S (fuel + 1) listed a w :=
  wpAnyH_take hi hs hf hr hQ hy hS (by rw [hd]; exact h)
end
section
variable {P : Program} {ops : Array Oper} {o : Oper} {a : Act} {w : World} {K : Act → World → Prop} {Q : Exit → Act → World → Prop} {E : Prop}
theorem step_store_rowF (hgd : o.guard = none) (ty : TypeId) (x y : Operand) (ho : o.op = .store ty x y)
    (g : Nat) (cells : Array Value) (hx : a.eval x = .pointer (some ⟨g, 0, none⟩)) (hy : a.eval y = .agg cells)
    (t : TypeId) (old : Array Value) (hg : Blk w g t old) (hi : (P.info? ty).map (·.size) = some cells.size)
    (hold : old.size = cells.size) (h1 : cells.all (·.oneCell') = true) (h : K (a.put o.dst undef) (w.setRow g cells)) :
    if Region.wanted o (yielded ops a.tmps) = true then o.wp P a w K Q else E := by
  rw [if_pos (by simp [Region.wanted, hgd])]
  exact wp_store_row ty x y ho g cells hx hy t old hg hi hold h1 h
end
theorem own_bel {w w' : World} {base e size n : Nat} {v : Value} {xs : List Value} (h : w.ownsRow base e size v n xs) (hb : Below w.heap.size w w') : w'.ownsRow base e size v n xs :=
  h.kept (row := none) ⟨hb.os, hb.tape, hb.output, hb.size, fun k hk _ => hb.block k hk⟩ (by cases hv : v.ownBlock <;> simp)
theorem Sl.of_ownN {w : World} {base e size n c : Nat} {A : Option Addr} {xs : List Value} (h : w.ownsRow base e size (.slice A n c) n xs) : Sl w A xs := by
  intro k hk
  have hn : 0 < n := by
    rcases Nat.eq_zero_or_pos n with q | q
    · have := h.1; rw [q] at this; omega
    · exact q
  obtain ⟨b, cap, hv, _, _⟩ := h.form hn
  injection hv with hA
  subst hA
  have hc := h.cells (g := b) rfl k _ (List.getElem?_eq_getElem hk)
  rw [add_lit] at hc
  exact ⟨b, 0, rfl, hc⟩
theorem results_row_tmp {P : Program} {fn : Func} {p q : Tmp} {ty : TypeId} (h : fn.results = #[.cell p ty, .tmp q]) (tmps : Array Value) (w : World) (g : Nat) (t : TypeId) (cs : Array Value) (d : TypeDesc) (v : Value)
    (hp : tmps.getD p undef = .pointer (some ⟨g, 0, none⟩)) (hq : tmps.getD q undef = v) (hg : Blk w g t cs)
    (hu : P.underlying ty = some d) (hd : (match d with | .struct _ | .array _ _ => true | _ => false) = true) (hi : (P.info? ty).map (·.size) = some cs.size) :
    (results fn tmps).run P w = .ok (.tuple #[.agg cs, v]) w := by
  have hp' : tmps[p]?.getD undef = .pointer (some ⟨g, 0, none⟩) := by simpa using hp
  have hq' : tmps[q]?.getD undef = v := by simpa using hq
  simp [results, h, hp', hq', asAddr, run_loadVar_row w g t ty cs (0, 0) d hg hu hd hi]
theorem Blk.newN (w : World) (t : TypeId) (cs : Array Value) {g : Nat} (h : w.heap.size = g) : Blk (w.alloc (.cells cs t)) g t cs := by subst h; exact Blk.new w t cs
theorem Blk.row {w : World} {g : Nat} {t : TypeId} {cs : Array Value} (h : Blk w g t cs) (cs' : Array Value) : Blk (w.setRow g cs') g t cs' := setRow_heap w g cs cs' t (0, 0) h
theorem Blk.rowFar {w : World} {g k : Nat} {t : TypeId} {cs : Array Value} (h : Blk w g t cs) (hk : g ≠ k) (cs' : Array Value) : Blk (w.setRow k cs') g t cs := (setRow_other w k g cs' hk).trans h
theorem Below.row {B g : Nat} {w w' : World} (hb : Below B w w') (hg : B ≤ g) (cs : Array Value) : Below B w (w'.setRow g cs) :=
  ⟨hb.os, hb.tape, hb.output, by simpa using hb.size, fun k hk => (setRow_other w' g k cs (by omega)).trans (hb.block k hk)⟩
theorem Blk.bel2 {w w' : World} {B g : Nat} {t : TypeId} {cs : Array Value} (hb : Below B w w') (h : Blk w g t cs) (hg : g < B) : Blk w' g t cs := h.below hb hg
theorem reads_one (w : World) (a : Value) (t : TypeId) : Reads (w.alloc (.cells #[a] t)) (w.heap.size + 1) 1 (some ⟨w.heap.size, 0, none⟩) 1 [a] :=
  ⟨rfl, fun _ => ⟨_, rfl, by simp, fun j u hu => cell_one_new _ _ _ j u hu⟩⟩
end Go.Proofs.Ytppkibgemacdbaa

namespace Go.Proofs.Ytppkibgemacdbaa
open Go.RowKit Go.WideShapes Go.ChangeShapes

/-! bearers: the reference -/
def Stay (w : World) (P : World → Prop) : Prop := ∀ W, Below w.heap.size w W → P W
theorem Stay.now {w : World} {P : World → Prop} (h : Stay w P) : P w := h w (Below.refl _ _)
theorem Stay.step {w w' : World} {P : World → Prop} (h : Stay w P) (hb : Below w.heap.size w w') : Stay w' P := fun W hW => h W (Below.step hb hW)
theorem Stay.alloc {w : World} {P : World → Prop} (h : Stay w P) (o : Obj) : Stay (w.alloc o) P := h.step ((Below.refl _ _).alloc (Nat.le_refl _) o)
theorem Stay.and {w : World} {P Q : World → Prop} (h : Stay w P) (h' : Stay w Q) : Stay w (fun W => P W ∧ Q W) := fun W hW => ⟨h W hW, h' W hW⟩
theorem stay_blk {w : World} {g t : Nat} {cs : Array Value} (h : Blk w g t cs) : Stay w (fun W => Blk W g t cs) := fun _ hW => h.below hW h.lt
theorem stay_sl {w : World} {A : Option Addr} {xs : List Value} (h : Sl w A xs) : Stay w (fun W => Sl W A xs) := fun _ hW => h.bel hW
theorem stay_own {w : World} {base e size n : Nat} {v : Value} {xs : List Value} (h : w.ownsRow base e size v n xs) : Stay w (fun W => W.ownsRow base e size v n xs) := fun _ hW => own_bel h hW
theorem stay_at {w : World} {b o : Nat} {v : Value} (h : w.cell? ⟨b, o, none⟩ = some v) : Stay w (fun W => W.cell? ⟨b, o, none⟩ = some v) := fun _ hW => (hW.cell (lt_of_cell h)).trans h
theorem stay_below {w W : World} (h : Below w.heap.size w W) : Stay W (fun W' => Below w.heap.size w W') := fun _ hW => Below.step h hW
theorem Stay.drewN {w : World} {P : World → Prop} (h : Stay w P) (n : Nat) : Stay (w.drewN n) P := h.step (below_drewN (Below.refl _ _) n)
theorem blk_up (w : World) (t t' : TypeId) (cs cs' : Array Value) : Blk ((w.alloc (.cells cs t)).alloc (.cells cs' t')) (w.heap.size + 1) t' cs' := by
  have h := Blk.new (w.alloc (.cells cs t)) t' cs'
  rw [World.size_alloc] at h
  exact h
/-- a right bearer of a right site -/
structure OkB (T : List Int) (nm : Bs) (kd pr wt pw le bu ra de : Int) : Prop where
  nm_ : OkN nm
  kd_ : 0 ≤ kd ∧ kd ≤ 2
  pr_ : 0 ≤ pr ∧ pr ≤ 100
  wt_ : 1 ≤ wt ∧ wt ≤ 100
  pw_ : 0 ≤ pw ∧ pw ≤ 100000
  best : kd = 0 → le = 0 ∧ bu = 0 ∧ ra = 0 ∧ de = 0
  sure : kd ≠ 0 → (0 ≤ le ∧ le < (T.length : Int)) ∧ (1 ≤ bu ∧ bu ≤ 1000000) ∧ (0 ≤ ra ∧ ra ≤ 1000000) ∧ (1 ≤ de ∧ de ≤ 1000) ∧ T[le.toNat]?.getD 0 ≠ 0
theorem isReport_ref (B C P : Int) (A : Option Addr) (c n : Nat) (le : Int) (w : World) (hn : 0 < n) (hl : n ≤ 1000000) :
    Calls Try.prog 24 #[.agg #[.int .i64 B, .int .i64 C, .int .i64 P, .slice A n c], .int .i64 le] w fun e w' => e = .returned (.bool (withinB le 0 ((n : Int) - 1))) ∧ Below w.heap.size w w' := by
  have w1 : IntKind.i64.wrap ((n : Int) - 1) = (n : Int) - 1 := IntWalk.i64_in _ (by omega)
  go_enter Try.func24, Try.ntmps24
  go_wp2_with (go_at_call 8; go_must (refine (within_base _ _ _ _).mono ?_; rintro e w' ⟨rfl, rfl⟩; simp only []))
  go_ret
  exact ⟨rfl, (Below.refl _ _).alloc (Nat.le_refl _) _⟩
def BerR (T : List Int) (nm : Bs) (kd pr wt pw le bu ra de : Int) (w : World) (e : Ending) (w' : World) : Prop := ∃ v : Int, e = .returned (.int .i64 v) ∧ (v = 0 → OkB T nm kd pr wt pw le bu ra de) ∧ Below w.heap.size w w'
set_option maxRecDepth 100000 in
set_option maxHeartbeats 8000000 in
theorem bearerErr_ref (B C P : Int) (A : Option Addr) (c n : Nat) (T : List Int) (nm : Bs) (kd pr wt pw le bu ra de : Int) (w : World) (hn : T.length = n) (hs : Sl w A (iv T)) (h0 : 0 < n) (hl : n ≤ 1000) (hm : nm.length ≤ 1000) :
    Calls Try.prog 9 #[.agg #[.int .i64 B, .int .i64 C, .int .i64 P, .slice A n c], .agg #[strV nm, .int .i64 kd, .int .i64 pr, .int .i64 wt, .int .i64 pw, .int .i64 le, .int .i64 bu, .int .i64 ra, .int .i64 de]] w (BerR T nm kd pr wt pw le bu ra de w) := by
  have HNM := hide (fun W => isName_base nm W (by omega))
  have HIR := hide (fun W => isReport_ref B C P A c n le W h0 (by omega))
  have HT := hide ((((stay_blk (Blk.new w 24 #[.int .i64 B, .int .i64 C, .int .i64 P, .slice A n c])).alloc (.cells #[strV nm, .int .i64 kd, .int .i64 pr, .int .i64 wt, .int .i64 pw, .int .i64 le, .int .i64 bu, .int .i64 ra, .int .i64 de] 32)).and (stay_blk (blk_up w 24 32 #[.int .i64 B, .int .i64 C, .int .i64 P, .slice A n c] #[strV nm, .int .i64 kd, .int .i64 pr, .int .i64 wt, .int .i64 pw, .int .i64 le, .int .i64 bu, .int .i64 ra, .int .i64 de]))).and ((stay_sl (hs.alloc (.cells #[.int .i64 B, .int .i64 C, .int .i64 P, .slice A n c] 24))).alloc (.cells #[strV nm, .int .i64 kd, .int .i64 pr, .int .i64 wt, .int .i64 pw, .int .i64 le, .int .i64 bu, .int .i64 ra, .int .i64 de] 32)) |>.and (stay_below (((Below.refl _ w).alloc (Nat.le_refl _) (.cells #[.int .i64 B, .int .i64 C, .int .i64 P, .slice A n c] 24)).alloc (by simp) (.cells #[strV nm, .int .i64 kd, .int .i64 pr, .int .i64 wt, .int .i64 pw, .int .i64 le, .int .i64 bu, .int .i64 ra, .int .i64 de] 32))))
  have HN := hide hn
  clear hn hs hm
  go_enter Try.func9, Try.ntmps9
  go_wp2_with fail
  go_at_call 23
  refine (HNM.out _).mono ?_
  rintro e w' ⟨v, rfl, hv, rfl⟩
  simp only []
  cases v
  · go_wp2
    go_ret
    exact ⟨4, rfl, fun h => absurd h (by decide), HT.out.now.2⟩
  have HV := hide (hv rfl)
  clear hv HNM
  cases c1 : withinB kd 0 2
  · have C1 := hide c1; clear c1
    go_wp2_with (go_at_call 8; go_must (refine (within_base _ _ _ _).mono ?_; rintro e w' ⟨rfl, rfl⟩; (first | rw [C1.out]); simp only []))
    go_ret
    exact ⟨15, rfl, fun h => absurd h (by decide), HT.out.now.2⟩
  have C1 := hide c1; clear c1
  cases c2 : withinB pr 0 100
  · have C2 := hide c2; clear c2
    go_wp2_with (go_at_call 8; go_must (refine (within_base _ _ _ _).mono ?_; rintro e w' ⟨rfl, rfl⟩; (first | rw [C1.out] | rw [C2.out]); simp only []))
    go_ret
    exact ⟨2, rfl, fun h => absurd h (by decide), HT.out.now.2⟩
  have C2 := hide c2; clear c2
  cases c3 : withinB wt 1 100
  · have C3 := hide c3; clear c3
    go_wp2_with (go_at_call 8; go_must (refine (within_base _ _ _ _).mono ?_; rintro e w' ⟨rfl, rfl⟩; (first | rw [C1.out] | rw [C2.out] | rw [C3.out]); simp only []))
    go_ret
    exact ⟨2, rfl, fun h => absurd h (by decide), HT.out.now.2⟩
  have C3 := hide c3; clear c3
  cases c4 : withinB pw 0 100000
  · have C4 := hide c4; clear c4
    go_wp2_with (go_at_call 8; go_must (refine (within_base _ _ _ _).mono ?_; rintro e w' ⟨rfl, rfl⟩; (first | rw [C1.out] | rw [C2.out] | rw [C3.out] | rw [C4.out]); simp only []))
    go_ret
    exact ⟨2, rfl, fun h => absurd h (by decide), HT.out.now.2⟩
  have C4 := hide c4; clear c4
  have HO1 := hide (show (0 ≤ kd ∧ kd ≤ 2) ∧ (0 ≤ pr ∧ pr ≤ 100) ∧ (1 ≤ wt ∧ wt ≤ 100) ∧ (0 ≤ pw ∧ pw ≤ 100000) from by
    have a1 := C1.out; have a2 := C2.out; have a3 := C3.out; have a4 := C4.out
    simp [withinB] at a1 a2 a3 a4
    exact ⟨a1, a2, a3, a4⟩)
  by_cases k0 : kd = 0
  · have hk : (kd == 0) = true := by rw [k0]; rfl
    have HK := hide k0; clear k0
    by_cases z0 : le = 0
    rotate_left
    · have y0 : (le != 0) = true := by rw [bne_iff_ne]; exact z0
      clear z0
      go_wp2_with (go_at_call 8; go_must (refine (within_base _ _ _ _).mono ?_; rintro e w' ⟨rfl, rfl⟩; (first | rw [C1.out] | rw [C2.out] | rw [C3.out] | rw [C4.out]); simp only []))
      go_ret
      exact ⟨3, rfl, fun h => absurd h (by decide), HT.out.now.2⟩
    have y0 : (le != 0) = false := by rw [z0]; rfl
    have Z0 := hide z0; clear z0
    by_cases z1 : bu = 0
    rotate_left
    · have y1 : (bu != 0) = true := by rw [bne_iff_ne]; exact z1
      clear z1
      go_wp2_with (go_at_call 8; go_must (refine (within_base _ _ _ _).mono ?_; rintro e w' ⟨rfl, rfl⟩; (first | rw [C1.out] | rw [C2.out] | rw [C3.out] | rw [C4.out]); simp only []))
      go_ret
      exact ⟨3, rfl, fun h => absurd h (by decide), HT.out.now.2⟩
    have y1 : (bu != 0) = false := by rw [z1]; rfl
    have Z1 := hide z1; clear z1
    by_cases z2 : ra = 0
    rotate_left
    · have y2 : (ra != 0) = true := by rw [bne_iff_ne]; exact z2
      clear z2
      go_wp2_with (go_at_call 8; go_must (refine (within_base _ _ _ _).mono ?_; rintro e w' ⟨rfl, rfl⟩; (first | rw [C1.out] | rw [C2.out] | rw [C3.out] | rw [C4.out]); simp only []))
      go_ret
      exact ⟨3, rfl, fun h => absurd h (by decide), HT.out.now.2⟩
    have y2 : (ra != 0) = false := by rw [z2]; rfl
    have Z2 := hide z2; clear z2
    by_cases z3 : de = 0
    rotate_left
    · have y3 : (de != 0) = true := by rw [bne_iff_ne]; exact z3
      clear z3
      go_wp2_with (go_at_call 8; go_must (refine (within_base _ _ _ _).mono ?_; rintro e w' ⟨rfl, rfl⟩; (first | rw [C1.out] | rw [C2.out] | rw [C3.out] | rw [C4.out]); simp only []))
      go_ret
      exact ⟨3, rfl, fun h => absurd h (by decide), HT.out.now.2⟩
    have y3 : (de != 0) = false := by rw [z3]; rfl
    have Z3 := hide z3; clear z3
    have HF := hide (show OkB T nm kd pr wt pw le bu ra de from ⟨HV.out, HO1.out.1, HO1.out.2.1, HO1.out.2.2.1, HO1.out.2.2.2, fun _ => ⟨Z0.out, Z1.out, Z2.out, Z3.out⟩, fun h => absurd HK.out h⟩)
    clear Z0 Z1 Z2 Z3
    go_wp2_with (go_at_call 8; go_must (refine (within_base _ _ _ _).mono ?_; rintro e w' ⟨rfl, rfl⟩; (first | rw [C1.out] | rw [C2.out] | rw [C3.out] | rw [C4.out]); simp only []))
    go_ret
    exact ⟨0, rfl, fun _ => HF.out, HT.out.now.2⟩
  have hk : (kd == 0) = false := by rw [beq_eq_false_iff_ne]; exact k0
  have HK := hide k0; clear k0
  cases c5 : withinB le 0 ((n : Int) - 1)
  · have C5 := hide c5; clear c5
    go_wp2_with (first
      | (go_at_call 8; go_must (refine (within_base _ _ _ _).mono ?_; rintro e w' ⟨rfl, rfl⟩; (first | rw [C1.out] | rw [C2.out] | rw [C3.out] | rw [C4.out]); simp only []))
      | (go_at_call 24; go_must (refine (HIR.out _).mono ?_; rintro e w2 ⟨rfl, hb⟩; rw [C5.out]; replace HT := hide (HT.out.step hb); clear hb; have z5 : w2.cell? ⟨w.heap.size + 1, 5, none⟩ = some (.int .i64 le) := HT.out.now.1.1.2.cell 5; have z6 : w2.cell? ⟨w.heap.size + 1, 6, none⟩ = some (.int .i64 bu) := HT.out.now.1.1.2.cell 6; have z7 : w2.cell? ⟨w.heap.size + 1, 7, none⟩ = some (.int .i64 ra) := HT.out.now.1.1.2.cell 7; have z8 : w2.cell? ⟨w.heap.size + 1, 8, none⟩ = some (.int .i64 de) := HT.out.now.1.1.2.cell 8; have z3 : w2.cell? ⟨w.heap.size, 3, none⟩ = some (.slice A n c) := HT.out.now.1.1.1.cell 3; simp only [])))
    go_ret
    exact ⟨2, rfl, fun h => absurd h (by decide), HT.out.now.2⟩
  have C5 := hide c5; clear c5
  have HLE := hide (show 0 ≤ le ∧ le < (n : Int) from by have a := C5.out; simp [withinB] at a; omega)
  cases c6 : withinB bu 1 1000000
  · have C6 := hide c6; clear c6
    go_wp2_with (first
      | (go_at_call 8; go_must (refine (within_base _ _ _ _).mono ?_; rintro e w' ⟨rfl, rfl⟩; (first | rw [C1.out] | rw [C2.out] | rw [C3.out] | rw [C4.out] | rw [C6.out]); simp only []))
      | (go_at_call 24; go_must (refine (HIR.out _).mono ?_; rintro e w2 ⟨rfl, hb⟩; rw [C5.out]; replace HT := hide (HT.out.step hb); clear hb; have z5 : w2.cell? ⟨w.heap.size + 1, 5, none⟩ = some (.int .i64 le) := HT.out.now.1.1.2.cell 5; have z6 : w2.cell? ⟨w.heap.size + 1, 6, none⟩ = some (.int .i64 bu) := HT.out.now.1.1.2.cell 6; have z7 : w2.cell? ⟨w.heap.size + 1, 7, none⟩ = some (.int .i64 ra) := HT.out.now.1.1.2.cell 7; have z8 : w2.cell? ⟨w.heap.size + 1, 8, none⟩ = some (.int .i64 de) := HT.out.now.1.1.2.cell 8; have z3 : w2.cell? ⟨w.heap.size, 3, none⟩ = some (.slice A n c) := HT.out.now.1.1.1.cell 3; simp only [])))
    go_ret
    exact ⟨2, rfl, fun h => absurd h (by decide), HT.out.now.2⟩
  have C6 := hide c6; clear c6
  cases c7 : withinB ra 0 1000000
  · have C7 := hide c7; clear c7
    go_wp2_with (first
      | (go_at_call 8; go_must (refine (within_base _ _ _ _).mono ?_; rintro e w' ⟨rfl, rfl⟩; (first | rw [C1.out] | rw [C2.out] | rw [C3.out] | rw [C4.out] | rw [C6.out] | rw [C7.out]); simp only []))
      | (go_at_call 24; go_must (refine (HIR.out _).mono ?_; rintro e w2 ⟨rfl, hb⟩; rw [C5.out]; replace HT := hide (HT.out.step hb); clear hb; have z5 : w2.cell? ⟨w.heap.size + 1, 5, none⟩ = some (.int .i64 le) := HT.out.now.1.1.2.cell 5; have z6 : w2.cell? ⟨w.heap.size + 1, 6, none⟩ = some (.int .i64 bu) := HT.out.now.1.1.2.cell 6; have z7 : w2.cell? ⟨w.heap.size + 1, 7, none⟩ = some (.int .i64 ra) := HT.out.now.1.1.2.cell 7; have z8 : w2.cell? ⟨w.heap.size + 1, 8, none⟩ = some (.int .i64 de) := HT.out.now.1.1.2.cell 8; have z3 : w2.cell? ⟨w.heap.size, 3, none⟩ = some (.slice A n c) := HT.out.now.1.1.1.cell 3; simp only [])))
    go_ret
    exact ⟨2, rfl, fun h => absurd h (by decide), HT.out.now.2⟩
  have C7 := hide c7; clear c7
  cases c8 : withinB de 1 1000
  · have C8 := hide c8; clear c8
    go_wp2_with (first
      | (go_at_call 8; go_must (refine (within_base _ _ _ _).mono ?_; rintro e w' ⟨rfl, rfl⟩; (first | rw [C1.out] | rw [C2.out] | rw [C3.out] | rw [C4.out] | rw [C6.out] | rw [C7.out] | rw [C8.out]); simp only []))
      | (go_at_call 24; go_must (refine (HIR.out _).mono ?_; rintro e w2 ⟨rfl, hb⟩; rw [C5.out]; replace HT := hide (HT.out.step hb); clear hb; have z5 : w2.cell? ⟨w.heap.size + 1, 5, none⟩ = some (.int .i64 le) := HT.out.now.1.1.2.cell 5; have z6 : w2.cell? ⟨w.heap.size + 1, 6, none⟩ = some (.int .i64 bu) := HT.out.now.1.1.2.cell 6; have z7 : w2.cell? ⟨w.heap.size + 1, 7, none⟩ = some (.int .i64 ra) := HT.out.now.1.1.2.cell 7; have z8 : w2.cell? ⟨w.heap.size + 1, 8, none⟩ = some (.int .i64 de) := HT.out.now.1.1.2.cell 8; have z3 : w2.cell? ⟨w.heap.size, 3, none⟩ = some (.slice A n c) := HT.out.now.1.1.1.cell 3; simp only [])))
    go_ret
    exact ⟨2, rfl, fun h => absurd h (by decide), HT.out.now.2⟩
  have C8 := hide c8; clear c8
  obtain ⟨t, ht⟩ := Int.eq_ofNat_of_zero_le HLE.out.1
  have htn : t < n := by have := HLE.out; omega
  have htT : t < T.length := by rw [HN.out]; exact htn
  obtain ⟨b, off, rfl, hd0⟩ := HT.out.now.1.2.int htT
  clear hd0
  have HTB := hide (fun W (h : Sl W (some ⟨b, off, none⟩) (iv T)) => show W.cell? ⟨b, off + t, none⟩ = some (.int .i64 T[t]) from by
    obtain ⟨b', off', e, d⟩ := h.int htT
    injection e with e
    injection e with e1 e2
    subst e1 e2
    exact d)
  obtain ⟨x, hx⟩ : ∃ x, T[t] = x := ⟨_, rfl⟩
  rw [hx] at HTB
  have HX := hide (show T[le.toNat]?.getD 0 = x from by rw [ht, Int.toNat_natCast, List.getElem?_eq_getElem htT]; exact hx)
  have g1 : (t : Int) < (n : Int) := by omega
  have HLT := hide ht
  subst ht
  clear htT hx
  by_cases x0 : x = 0
  · have hx0 : (x == 0) = true := by rw [x0]; rfl
    clear x0
    go_wp2_with (first
      | (go_at_call 8; go_must (refine (within_base _ _ _ _).mono ?_; rintro e w' ⟨rfl, rfl⟩; (first | rw [C1.out] | rw [C2.out] | rw [C3.out] | rw [C4.out] | rw [C6.out] | rw [C7.out] | rw [C8.out]); simp only []))
      | (go_at_call 24; go_must (refine (HIR.out _).mono ?_; rintro e w2 ⟨rfl, hb⟩; rw [C5.out]; replace HT := hide (HT.out.step hb); clear hb; have z5 : w2.cell? ⟨w.heap.size + 1, 5, none⟩ = some (.int .i64 (t : Int)) := HT.out.now.1.1.2.cell 5; have z6 : w2.cell? ⟨w.heap.size + 1, 6, none⟩ = some (.int .i64 bu) := HT.out.now.1.1.2.cell 6; have z7 : w2.cell? ⟨w.heap.size + 1, 7, none⟩ = some (.int .i64 ra) := HT.out.now.1.1.2.cell 7; have z8 : w2.cell? ⟨w.heap.size + 1, 8, none⟩ = some (.int .i64 de) := HT.out.now.1.1.2.cell 8; have z3 : w2.cell? ⟨w.heap.size, 3, none⟩ = some (.slice (some ⟨b, off, none⟩) n c) := HT.out.now.1.1.1.cell 3; have zt : w2.cell? ⟨b, off + t, none⟩ = some (.int .i64 x) := HTB.out _ HT.out.now.1.2; simp only [])))
    go_ret
    exact ⟨11, rfl, fun h => absurd h (by decide), HT.out.now.2⟩
  · have hx0 : (x == 0) = false := by rw [beq_eq_false_iff_ne]; exact x0
    have HF := hide (show OkB T nm kd pr wt pw t bu ra de from ⟨HV.out, HO1.out.1, HO1.out.2.1, HO1.out.2.2.1, HO1.out.2.2.2, fun h => absurd h HK.out, fun _ => ⟨by have := HLE.out; rw [HN.out]; exact this, by have a := C6.out; simp [withinB] at a; exact a, by have a := C7.out; simp [withinB] at a; exact a, by have a := C8.out; simp [withinB] at a; exact a, by rw [HX.out]; exact x0⟩⟩)
    clear x0
    go_wp2_with (first
      | (go_at_call 8; go_must (refine (within_base _ _ _ _).mono ?_; rintro e w' ⟨rfl, rfl⟩; (first | rw [C1.out] | rw [C2.out] | rw [C3.out] | rw [C4.out] | rw [C6.out] | rw [C7.out] | rw [C8.out]); simp only []))
      | (go_at_call 24; go_must (refine (HIR.out _).mono ?_; rintro e w2 ⟨rfl, hb⟩; rw [C5.out]; replace HT := hide (HT.out.step hb); clear hb; have z5 : w2.cell? ⟨w.heap.size + 1, 5, none⟩ = some (.int .i64 (t : Int)) := HT.out.now.1.1.2.cell 5; have z6 : w2.cell? ⟨w.heap.size + 1, 6, none⟩ = some (.int .i64 bu) := HT.out.now.1.1.2.cell 6; have z7 : w2.cell? ⟨w.heap.size + 1, 7, none⟩ = some (.int .i64 ra) := HT.out.now.1.1.2.cell 7; have z8 : w2.cell? ⟨w.heap.size + 1, 8, none⟩ = some (.int .i64 de) := HT.out.now.1.1.2.cell 8; have z3 : w2.cell? ⟨w.heap.size, 3, none⟩ = some (.slice (some ⟨b, off, none⟩) n c) := HT.out.now.1.1.1.cell 3; have zt : w2.cell? ⟨b, off + t, none⟩ = some (.int .i64 x) := HTB.out _ HT.out.now.1.2; simp only [])))
    go_ret
    exact ⟨0, rfl, fun _ => HF.out, HT.out.now.2⟩
end Go.Proofs.Ytppkibgemacdbaa

namespace Go.Proofs.Ytppkibgemacdbaa
open Go.RowKit Go.WideShapes Go.ChangeShapes

/-! sites: the program -/
theorem ceil_sched (n b : Int) (w : World) (hb : 0 < b) (hb' : b ≤ 1000000000) (h0 : 0 ≤ n) (h1 : n ≤ 1000000000) : Calls Try.prog 42 #[.int .i64 n, .int .i64 b] w fun e w' => e = .returned (.int .i64 (ceilI n b)) ∧ w = w' := by
  have e1 : IntKind.i64.wrap (n + b) = n + b := IntWalk.i64_in _ (by omega)
  have e2 : IntKind.i64.wrap (n + b - 1) = n + b - 1 := IntWalk.i64_in _ (by omega)
  have hq := ceil_bd (n := n) hb h0
  have hq0 := ceil_nn (n := n) hb h0
  have HV := hide (show (n + b - 1).tdiv b = ceilI n b from by unfold ceilI; rw [Int.tdiv_eq_ediv_of_nonneg (by omega)])
  have HV2 := hide (show (n + b - 1) / b = ceilI n b from rfl)
  obtain ⟨q, hqq⟩ : ∃ q, ceilI n b = q := ⟨_, rfl⟩
  rw [hqq] at hq hq0 HV HV2
  have e3 : IntKind.i64.wrap q = q := IntWalk.i64_in _ (by omega)
  have hb0 : b ≠ 0 := by omega
  rw [hqq]
  clear hqq
  go_enter Try.func42, Try.ntmps42
  go_wp2
  all_goals first
    | (go_ret
       refine ⟨?_, rfl⟩
       first
         | rfl
         | (rw [HV.out]; rfl)
         | (rw [HV.out, e3]; rfl)
         | (rw [HV2.out]; rfl)
         | (rw [HV2.out, e3]; rfl)
         | (simp only [HV.out, HV2.out, e3]; rfl))
theorem guaranteed_sched (nm : Bs) (kd pr wt pw le bu ra de : Int) (w : World) : Calls Try.prog 38 #[.agg #[strV nm, .int .i64 kd, .int .i64 pr, .int .i64 wt, .int .i64 pw, .int .i64 le, .int .i64 bu, .int .i64 ra, .int .i64 de]] w fun e w' => e = .returned (.bool (!(kd == 0))) ∧ Below w.heap.size w w' := by
  go_enter Try.func38, Try.ntmps38
  go_wp2
  go_ret
  exact ⟨rfl, (Below.refl _ _).alloc (Nat.le_refl _) _⟩
theorem isReport_sched (B C P : Int) (A : Option Addr) (c n : Nat) (le : Int) (w : World) (hn : 0 < n) (hl : n ≤ 1000000) :
    Calls Try.prog 48 #[.agg #[.int .i64 B, .int .i64 C, .int .i64 P, .slice A n c], .int .i64 le] w fun e w' => e = .returned (.bool (withinB le 0 ((n : Int) - 1))) ∧ Below w.heap.size w w' := by
  have w1 : IntKind.i64.wrap ((n : Int) - 1) = (n : Int) - 1 := IntWalk.i64_in _ (by omega)
  go_enter Try.func48, Try.ntmps48
  go_wp2_with (go_at_call 41; go_must (refine (within_sy _ _ _ _).mono ?_; rintro e w' ⟨rfl, rfl⟩; simp only []))
  go_ret
  exact ⟨rfl, (Below.refl _ _).alloc (Nat.le_refl _) _⟩
set_option maxRecDepth 100000 in
set_option maxHeartbeats 4000000 in
theorem checkSite_ok (B C P : Int) (A : Option Addr) (c n : Nat) (T : List Int) (w : World) (hn : T.length = n) (hs : Sl w A (iv T)) (ho : OkS B C P T) :
    Calls Try.prog 64 #[.agg #[.int .i64 B, .int .i64 C, .int .i64 P, .slice A n c]] w fun e w' => e = .returned (.int .i64 0) ∧ Below w.heap.size w w' := by
  have HO := hide ho
  have H1 := hide (show withinB B 1 20 = true by have := ho.b; simp [withinB]; omega)
  have H2 := hide (show withinB C 1 8 = true by have := ho.c; simp [withinB]; omega)
  have H3 := hide (show withinB P 0 100000 = true by have := ho.p; simp [withinB]; omega)
  have hp := ho.pos
  have hf := ho.few
  rw [hn] at hp hf
  have HS := hide hs
  have HN := hide hn
  have HB := hide (show Below w.heap.size w (w.alloc (.cells #[.int .i64 B, .int .i64 C, .int .i64 P, .slice A n c] 24)) from (Below.refl _ _).alloc (Nat.le_refl _) _)
  have HX := hide (Blk.new w 24 #[.int .i64 B, .int .i64 C, .int .i64 P, .slice A n c])
  have q0 : (w.alloc (.cells #[.int .i64 B, .int .i64 C, .int .i64 P, .slice A n c] 24)).cell? ⟨w.heap.size, 0, none⟩ = some (.int .i64 B) := HX.out.cell 0
  have q1 : (w.alloc (.cells #[.int .i64 B, .int .i64 C, .int .i64 P, .slice A n c] 24)).cell? ⟨w.heap.size, 1, none⟩ = some (.int .i64 C) := HX.out.cell 1
  have q2 : (w.alloc (.cells #[.int .i64 B, .int .i64 C, .int .i64 P, .slice A n c] 24)).cell? ⟨w.heap.size, 2, none⟩ = some (.int .i64 P) := HX.out.cell 2
  have q3 : (w.alloc (.cells #[.int .i64 B, .int .i64 C, .int .i64 P, .slice A n c] 24)).cell? ⟨w.heap.size, 3, none⟩ = some (.slice A n c) := HX.out.cell 3
  have hd1 : decide (0 < n) = true := decide_eq_true hp
  have hd2 : decide (n ≤ 16) = true := decide_eq_true hf
  have hp' : (0 : Int) < (n : Int) := by omega
  have hf' : (n : Int) ≤ 16 := by omega
  have HE := hide (show firstOf [unlessE true 2, unlessE true 10, unlessE true 8] = 0 from rfl)
  have HE2 := hide (show firstOf [unlessE true 2, unlessE true 9] = 0 from rfl)
  clear hs ho hn
  go_enter Try.func64, Try.ntmps64
  go_wp2_with fail
  obtain ⟨W0, hW0⟩ : ∃ W0, w.alloc (.cells #[.int .i64 B, .int .i64 C, .int .i64 P, .slice A n c] 24) = W0 := ⟨_, rfl⟩
  rw [hW0] at HB HX ⊢
  clear hW0 q0 q1 q2 q3
  have HL := hide (fun W (h : Below W0.heap.size W0 W) => (show (W.cell? ⟨w.heap.size, 0, none⟩ = some (.int .i64 B) ∧ W.cell? ⟨w.heap.size, 1, none⟩ = some (.int .i64 C)) ∧ W.cell? ⟨w.heap.size, 2, none⟩ = some (.int .i64 P) ∧ W.cell? ⟨w.heap.size, 3, none⟩ = some (.slice A n c) from by
    have hb := HX.out.below h HX.out.lt
    exact ⟨⟨hb.cell 0, hb.cell 1⟩, hb.cell 2, hb.cell 3⟩))
  refine wp_region_held_drew (S := fun w' => Below W0.heap.size W0 w') (by kernel_rfl) (below_drewN (Below.refl _ _) 1) (fun hHeld => ?_)
  refine take_at (i := 0) 8 (v := .pointer (some ⟨w.heap.size, 0, none⟩)) rfl rfl (by kernel_rfl) (by kernel_rfl) (by kernel_rfl) (fun _ _ _ h => h) (Or.inl ⟨by rfl, by intro w hSw; go_simp⟩) (by assumption) ?_
  try simp only [Act.put, List.setIfInBounds_toArray, List.set_cons_zero, List.set_cons_succ]
  refine take_at (i := 1) 9 (v := .int .i64 B) rfl rfl (by kernel_rfl) (by kernel_rfl) (by kernel_rfl) (fun _ _ _ h => h) (Or.inl ⟨by rfl, by intro w hSw; obtain ⟨⟨c0, c1⟩, c2, c3⟩ := HL.out w hSw; go_simp⟩) (by assumption) ?_
  try simp only [Act.put, List.setIfInBounds_toArray, List.set_cons_zero, List.set_cons_succ]
  refine take_at (i := 14) 22 (v := .pointer (some ⟨w.heap.size, 3, none⟩)) rfl rfl (by kernel_rfl) (by kernel_rfl) (by kernel_rfl) (fun _ _ _ h => h) (Or.inl ⟨by rfl, by intro w hSw; go_simp⟩) (by assumption) ?_
  try simp only [Act.put, List.setIfInBounds_toArray, List.set_cons_zero, List.set_cons_succ]
  refine take_at (i := 15) 23 (v := .slice A n c) rfl rfl (by kernel_rfl) (by kernel_rfl) (by kernel_rfl) (fun _ _ _ h => h) (Or.inl ⟨by rfl, by intro w hSw; obtain ⟨⟨c0, c1⟩, c2, c3⟩ := HL.out w hSw; go_simp⟩) (by assumption) ?_
  try simp only [Act.put, List.setIfInBounds_toArray, List.set_cons_zero, List.set_cons_succ]
  refine take_at (i := 16) 24 (v := .int .i64 (n : Int)) rfl rfl (by kernel_rfl) (by kernel_rfl) (by kernel_rfl) (fun _ _ _ h => h) (Or.inl ⟨by rfl, by intro w hSw; go_simp⟩) (by assumption) ?_
  try simp only [Act.put, List.setIfInBounds_toArray, List.set_cons_zero, List.set_cons_succ]
  refine take_at (i := 17) 25 (v := .bool true) rfl rfl (by kernel_rfl) (by kernel_rfl) (by kernel_rfl) (fun _ _ _ h => h) (Or.inl ⟨by rfl, by intro w hSw; go_simp⟩) (by assumption) ?_
  try simp only [Act.put, List.setIfInBounds_toArray, List.set_cons_zero, List.set_cons_succ]
  refine take_at (i := 19) 27 (v := .pointer (some ⟨w.heap.size, 3, none⟩)) rfl rfl (by kernel_rfl) (by kernel_rfl) (by kernel_rfl) (fun _ _ _ h => h) (Or.inl ⟨by rfl, by intro w hSw; go_simp⟩) (by assumption) ?_
  try simp only [Act.put, List.setIfInBounds_toArray, List.set_cons_zero, List.set_cons_succ]
  refine take_at (i := 20) 28 (v := .slice A n c) rfl rfl (by kernel_rfl) (by kernel_rfl) (by kernel_rfl) (fun _ _ _ h => h) (Or.inl ⟨by rfl, by intro w hSw; obtain ⟨⟨c0, c1⟩, c2, c3⟩ := HL.out w hSw; go_simp⟩) (by assumption) ?_
  try simp only [Act.put, List.setIfInBounds_toArray, List.set_cons_zero, List.set_cons_succ]
  refine take_at (i := 21) 29 (v := .int .i64 (n : Int)) rfl rfl (by kernel_rfl) (by kernel_rfl) (by kernel_rfl) (fun _ _ _ h => h) (Or.inl ⟨by rfl, by intro w hSw; go_simp⟩) (by assumption) ?_
  try simp only [Act.put, List.setIfInBounds_toArray, List.set_cons_zero, List.set_cons_succ]
  refine take_at (i := 22) 30 (v := .bool true) rfl rfl (by kernel_rfl) (by kernel_rfl) (by kernel_rfl) (fun _ _ _ h => h) (Or.inl ⟨by rfl, by intro w hSw; go_simp⟩) (by assumption) ?_
  try simp only [Act.put, List.setIfInBounds_toArray, List.set_cons_zero, List.set_cons_succ]
  refine wpAnyH_ready (rs := [2]) (by kernel_rfl) (by simp) ?_
  refine AllReadyH.cons rfl (fun K hK => ?_) AllReadyH.nil
  go_simp
  go_at_call 41
  refine (within_sy _ _ _ _).mono ?_
  rintro e w' ⟨rfl, rfl⟩
  rw [H1.out]
  try simp only []
  refine hK.out _ _ (below_drewN (Below.refl _ _) 1) (fun hHeld => ?_)
  clear hK K
  try simp only [Act.put, List.setIfInBounds_toArray, List.set_cons_zero, List.set_cons_succ]
  refine take_at (i := 3) 11 (v := .bool true) rfl rfl (by kernel_rfl) (by kernel_rfl) (by kernel_rfl) (fun _ _ _ h => h) (Or.inl ⟨by rfl, by intro w hSw; go_simp⟩) (by assumption) ?_
  try simp only [Act.put, List.setIfInBounds_toArray, List.set_cons_zero, List.set_cons_succ]
  refine take_at (i := 4) 12 (v := .pointer (some ⟨w.heap.size, 1, none⟩)) rfl rfl (by kernel_rfl) (by kernel_rfl) (by kernel_rfl) (fun _ _ _ h => h) (Or.inl ⟨by rfl, by intro w hSw; go_simp⟩) (by assumption) ?_
  try simp only [Act.put, List.setIfInBounds_toArray, List.set_cons_zero, List.set_cons_succ]
  refine take_at (i := 5) 13 (v := .int .i64 C) rfl rfl (by kernel_rfl) (by kernel_rfl) (by kernel_rfl) (fun _ _ _ h => h) (Or.inl ⟨by rfl, by intro w hSw; obtain ⟨⟨c0, c1⟩, c2, c3⟩ := HL.out w hSw; go_simp⟩) (by assumption) ?_
  try simp only [Act.put, List.setIfInBounds_toArray, List.set_cons_zero, List.set_cons_succ]
  refine wpAnyH_ready (rs := [6]) (by kernel_rfl) (by simp) ?_
  refine AllReadyH.cons rfl (fun K hK => ?_) AllReadyH.nil
  go_simp
  go_at_call 41
  refine (within_sy _ _ _ _).mono ?_
  rintro e w' ⟨rfl, rfl⟩
  rw [H2.out]
  try simp only []
  refine hK.out _ _ (below_drewN (Below.refl _ _) 1) (fun hHeld => ?_)
  clear hK K
  try simp only [Act.put, List.setIfInBounds_toArray, List.set_cons_zero, List.set_cons_succ]
  refine take_at (i := 7) 15 (v := .bool true) rfl rfl (by kernel_rfl) (by kernel_rfl) (by kernel_rfl) (fun _ _ _ h => h) (Or.inl ⟨by rfl, by intro w hSw; go_simp⟩) (by assumption) ?_
  try simp only [Act.put, List.setIfInBounds_toArray, List.set_cons_zero, List.set_cons_succ]
  refine take_at (i := 8) 16 (v := .bool true) rfl rfl (by kernel_rfl) (by kernel_rfl) (by kernel_rfl) (fun _ _ _ h => h) (Or.inl ⟨by rfl, by intro w hSw; go_simp⟩) (by assumption) ?_
  try simp only [Act.put, List.setIfInBounds_toArray, List.set_cons_zero, List.set_cons_succ]
  refine take_at (i := 9) 17 (v := .pointer (some ⟨w.heap.size, 2, none⟩)) rfl rfl (by kernel_rfl) (by kernel_rfl) (by kernel_rfl) (fun _ _ _ h => h) (Or.inl ⟨by rfl, by intro w hSw; go_simp⟩) (by assumption) ?_
  try simp only [Act.put, List.setIfInBounds_toArray, List.set_cons_zero, List.set_cons_succ]
  refine take_at (i := 10) 18 (v := .int .i64 P) rfl rfl (by kernel_rfl) (by kernel_rfl) (by kernel_rfl) (fun _ _ _ h => h) (Or.inl ⟨by rfl, by intro w hSw; obtain ⟨⟨c0, c1⟩, c2, c3⟩ := HL.out w hSw; go_simp⟩) (by assumption) ?_
  try simp only [Act.put, List.setIfInBounds_toArray, List.set_cons_zero, List.set_cons_succ]
  refine wpAnyH_ready (rs := [11]) (by kernel_rfl) (by simp) ?_
  refine AllReadyH.cons rfl (fun K hK => ?_) AllReadyH.nil
  go_simp
  go_at_call 41
  refine (within_sy _ _ _ _).mono ?_
  rintro e w' ⟨rfl, rfl⟩
  rw [H3.out]
  try simp only []
  refine hK.out _ _ (below_drewN (Below.refl _ _) 1) (fun hHeld => ?_)
  clear hK K
  try simp only [Act.put, List.setIfInBounds_toArray, List.set_cons_zero, List.set_cons_succ]
  refine take_at (i := 12) 20 (v := .bool true) rfl rfl (by kernel_rfl) (by kernel_rfl) (by kernel_rfl) (fun _ _ _ h => h) (Or.inl ⟨by rfl, by intro w hSw; go_simp⟩) (by assumption) ?_
  try simp only [Act.put, List.setIfInBounds_toArray, List.set_cons_zero, List.set_cons_succ]
  refine wpAnyH_ready (rs := [13]) (by kernel_rfl) (by simp) ?_
  refine AllReadyH.cons rfl (fun K hK => ?_) AllReadyH.nil
  go_simp
  go_at_call 28
  refine (unless_any _ _ _).mono ?_
  rintro e w' ⟨rfl, rfl⟩
  rw [show unlessE true 2 = 0 from rfl]
  try simp only []
  refine hK.out _ _ (below_drewN (Below.refl _ _) 1) (fun hHeld => ?_)
  clear hK K
  try simp only [Act.put, List.setIfInBounds_toArray, List.set_cons_zero, List.set_cons_succ]
  refine wpAnyH_ready (rs := [18]) (by kernel_rfl) (by simp) ?_
  refine AllReadyH.cons rfl (fun K hK => ?_) AllReadyH.nil
  go_simp
  go_at_call 28
  refine (unless_any _ _ _).mono ?_
  rintro e w' ⟨rfl, rfl⟩
  rw [show unlessE true 10 = 0 from rfl]
  try simp only []
  refine hK.out _ _ (below_drewN (Below.refl _ _) 1) (fun hHeld => ?_)
  clear hK K
  try simp only [Act.put, List.setIfInBounds_toArray, List.set_cons_zero, List.set_cons_succ]
  refine wpAnyH_ready (rs := [23]) (by kernel_rfl) (by simp) ?_
  refine AllReadyH.cons rfl (fun K hK => ?_) AllReadyH.nil
  go_simp
  go_at_call 28
  refine (unless_any _ _ _).mono ?_
  rintro e w' ⟨rfl, rfl⟩
  rw [show unlessE true 8 = 0 from rfl]
  try simp only []
  refine hK.out _ _ (below_drewN (Below.refl _ _) 1) (fun hHeld => ?_)
  clear hK K
  try simp only [Act.put, List.setIfInBounds_toArray, List.set_cons_zero, List.set_cons_succ]
  refine wpAnyH_ready (rs := [24]) (by kernel_rfl) (by simp) ?_
  refine AllReadyH.cons rfl (fun K hK => ?_) AllReadyH.nil
  go_simp
  refine hK.out _ _ (below_drewN ((Below.refl _ _).alloc (Nat.le_refl _) _) 1) (fun hHeld => ?_)
  clear hK K
  try simp only [Act.put, List.setIfInBounds_toArray, List.set_cons_zero, List.set_cons_succ]
  refine wpAnyH_ready (rs := [25]) (by kernel_rfl) (by simp) ?_
  refine AllReadyH.cons rfl (fun K hK => ?_) AllReadyH.nil
  go_simp
  go_at_call 26
  refine (first3d _ _ _ _ _ (by first | rfl | simp)).mono ?_
  rintro e w' ⟨rfl, rfl⟩
  rw [show firstOf [0, 0, 0] = 0 from rfl]
  try simp only []
  refine hK.out _ _ (below_drewN ((Below.refl _ _).alloc (Nat.le_refl _) _) 1) (fun hHeld => ?_)
  clear hK K
  try simp only [Act.put, List.setIfInBounds_toArray, List.set_cons_zero, List.set_cons_succ]
  refine take_at (i := 26) 3 (v := .int .i64 0) rfl rfl (by kernel_rfl) (by kernel_rfl) (by kernel_rfl) (fun _ _ _ h => h) (Or.inl ⟨by rfl, by intro w hSw; go_simp⟩) (by assumption) ?_
  try simp only [Act.put, List.setIfInBounds_toArray, List.set_cons_zero, List.set_cons_succ]
  refine wpAnyH_done (by kernel_rfl) ?_ _
  have HB5 := hide (show Below w.heap.size w ((W0.alloc (.cells #[.int .i64 0, .int .i64 0, .int .i64 0] 36)).drew) from Below.step HB.out (below_drewN ((Below.refl _ _).alloc (Nat.le_refl _) _) 1))
  obtain ⟨W5, hW5⟩ : ∃ W5, (W0.alloc (.cells #[.int .i64 0, .int .i64 0, .int .i64 0] 36)).drew = W5 := ⟨_, rfl⟩
  have HX5 := hide (show Blk ((W0.alloc (.cells #[.int .i64 0, .int .i64 0, .int .i64 0] 36)).drew) w.heap.size 24 #[.int .i64 B, .int .i64 C, .int .i64 P, .slice A n c] from HX.out.below (below_drewN ((Below.refl _ _).alloc (Nat.le_refl _) _) 1) HX.out.lt)
  rw [hW5] at HB5 HX5 ⊢
  clear hW5 hHeld HL HB
  have q3 : W5.cell? ⟨w.heap.size, 3, none⟩ = some (.slice A n c) := HX5.out.cell 3
  go_wp2
  go_loopw [4, 40] (fun b i wr => ∃ (k : Nat) (y : Int), k ≤ n ∧ i = .int .i64 k ∧ b = .int .i64 y ∧ (∀ (h : k < T.length), y ≤ T[k]) ∧ Below w.heap.size w wr) (fun _ i _ => n - (intOf i).toNat)
  case atStart => exact ⟨0, 0, Nat.zero_le _, rfl, rfl, fun h => (HO.out.in_ 0 h).1, HB5.out⟩
  case round =>
    obtain ⟨k, y, hk, rfl, rfl, hy, hbel⟩ := hrel
    have HBE := hide hbel
    have HY := hide hy
    clear hbel hy q3
    by_cases hlt : k < n
    · have hkT : k < T.length := by rw [HN.out]; exact hlt
      obtain ⟨b, off, rfl, d0⟩ := HS.out.int hkT
      have d1 : wr.cell? ⟨b, off + k, none⟩ = some (.int .i64 T[k]) := (HBE.out.cell (lt_of_cell d0)).trans d0
      have hki : (k : Int) < (n : Int) := by omega
      have hin := HO.out.in_ k hkT
      have hyx := HY.out hkT
      obtain ⟨x, hx⟩ : ∃ x, T[k] = x := ⟨_, rfl⟩
      have HNX := hide (show ∀ h : k + 1 < T.length, x ≤ T[k + 1] from fun h => by rw [← hx]; exact HO.out.asc k h)
      rw [hx] at d1 hin hyx
      have H4 := hide (show withinB x 0 1000 = true by simp [withinB]; omega)
      have hd : decide (y ≤ x) = true := decide_eq_true hyx
      clear d0 hx hin
      go_wp2_with (first
        | (go_at_call 41; go_must (refine (within_sy _ _ _ _).mono ?_; rintro e w' ⟨rfl, rfl⟩; rw [H4.out]; simp only []))
        | (go_at_call 28; go_must (refine (unless_any _ _ _).mono ?_; rintro e w' ⟨rfl, rfl⟩; (try rw [show unlessE true 2 = 0 from rfl]); (try rw [show unlessE true 9 = 0 from rfl]); (try simp only [])))
        | (go_at_call 26; go_must (refine (first2 _ _ _ _ (by first | rfl | simp)).mono ?_; rintro e w' ⟨rfl, rfl⟩; rw [show firstOf [0, 0] = 0 from rfl]; simp only [])))
      go_roundw
      case rel => exact ⟨k + 1, x, by omega, by go_num, rfl, HNX.out, HBE.out.alloc HBE.out.size _⟩
      case measure => simp [intOf]; omega
    · go_wp2
      go_ret
      exact ⟨rfl, HBE.out⟩
end Go.Proofs.Ytppkibgemacdbaa

