import Derived.Test.YtamkannjdbodpaaDoorTxH
import Derived.Test.YtamkannjdbodpaaDoorTxG
namespace Go.Proofs.YtamkannjdbodpaaDoor
open Go.RowKit Go.WideShapes Go.ChangeShapes Go.Shelf

attribute [local go_sem] Oper.semAt_some
/-! ParseBeam (program) -/
theorem index_digit (c : UInt8) : Lib.index [48, 49, 50, 51, 52, 53, 54, 55] [c] = if 48 ≤ c.toNat ∧ c.toNat ≤ 55 then (c.toNat : Int) - 48 else -1 := by
  by_cases h : 48 ≤ c.toNat ∧ c.toNat ≤ 55
  · rw [if_pos h]
    obtain h8 : c.toNat = 48 ∨ c.toNat = 49 ∨ c.toNat = 50 ∨ c.toNat = 51 ∨ c.toNat = 52 ∨ c.toNat = 53 ∨ c.toNat = 54 ∨ c.toNat = 55 := by omega
    rcases h8 with h8 | h8 | h8 | h8 | h8 | h8 | h8 | h8
    · obtain rfl : c = 48 := UInt8.toNat_inj.1 h8
      decide
    · obtain rfl : c = 49 := UInt8.toNat_inj.1 h8
      decide
    · obtain rfl : c = 50 := UInt8.toNat_inj.1 h8
      decide
    · obtain rfl : c = 51 := UInt8.toNat_inj.1 h8
      decide
    · obtain rfl : c = 52 := UInt8.toNat_inj.1 h8
      decide
    · obtain rfl : c = 53 := UInt8.toNat_inj.1 h8
      decide
    · obtain rfl : c = 54 := UInt8.toNat_inj.1 h8
      decide
    · obtain rfl : c = 55 := UInt8.toNat_inj.1 h8
      decide
  · rw [if_neg h]
    have hk : ∀ k : Nat, 48 ≤ k → k ≤ 55 → (c == UInt8.ofNat k) = false := fun k h1 h2 => by
      rw [beq_eq_false_iff_ne]
      rintro rfl
      have : (UInt8.ofNat k).toNat = k := by rw [UInt8.toNat_ofNat']; omega
      omega
    have h0 := hk 48 (by omega) (by omega)
    have h1 := hk 49 (by omega) (by omega)
    have h2 := hk 50 (by omega) (by omega)
    have h3 := hk 51 (by omega) (by omega)
    have h4 := hk 52 (by omega) (by omega)
    have h5 := hk 53 (by omega) (by omega)
    have h6 := hk 54 (by omega) (by omega)
    have h7 := hk 55 (by omega) (by omega)
    simp at h0 h1 h2 h3 h4 h5 h6 h7
    simp [Lib.index, List.isPrefixOf, h0, h1, h2, h3, h4, h5, h6, h7]
theorem Blk.putObjS {w : World} {g : Nat} {t : TypeId} {cs : Array Value} (h : Blk w g t cs) {row : Option Nat} {W' : World} (hg : w.grownBy W' row) (hr : ∀ r, row = some r → ∃ o : Obj, w.heap[r]? = some o ∧ o.isCells = false) : Blk W' g t cs :=
  h.grown hg (fun e => by
    obtain ⟨o, ho, hc⟩ := hr g e.symm
    unfold Blk at h
    rw [h] at ho
    injection ho with ho
    subst ho
    cases hc)
theorem own_putObj {w W' : World} {base e size n : Nat} {v : Value} {xs : List Value} (h : w.ownsRow base e size v n xs) {row : Option Nat} (hg : w.grownBy W' row) (hr : ∀ r, row = some r → ∃ o : Obj, w.heap[r]? = some o ∧ o.isCells = false) : W'.ownsRow base e size v n xs :=
  h.kept hg (by
    cases hv : v.ownBlock with
    | none => exact .inl rfl
    | some k =>
      refine .inr fun e => ?_
      obtain ⟨o, ho, hc⟩ := hr k e.symm
      rcases h.2 with ⟨rfl, _⟩ | ⟨g, cap, cur, rfl, _, hh, _⟩
      · cases hv
      · have hgk : g = k := by simpa [Value.ownBlock] using hv
        subst hgk
        rw [hh] at ho
        injection ho with ho
        subst ho
        cases hc)
theorem keeps_own {W w6 : World} {base e size n : Nat} {v : Value} {xs : List Value} (h : W.ownsRow base e size v n xs) (hg : W.grownBy w6 v.ownBlock) : KeepsOthers W w6 :=
  ⟨hg.size, fun j o hj ho => (hg.block j (Array.getElem?_eq_some_iff.1 hj).1 (fun e => by
    rcases h.2 with ⟨hv, _⟩ | ⟨g, cap, cur, hv, _, hh, _⟩
    · rw [hv] at e; cases e
    · rw [hv] at e
      have hgj : j = g := by simpa [Value.ownBlock] using e
      rw [hgj, hh] at hj
      injection hj with hj
      subst hj
      cases ho)).trans hj⟩
theorem Blk.newN2 (w : World) (t : TypeId) (cs : Array Value) {g : Nat} (h : w.heap.size = g) : Blk (w.alloc (.cells cs t)) g t cs := by subst h; exact Blk.new w t cs
theorem own_turn {A B : World} {t : TypeId} {g base e size n : Nat} {v : Value} {xs : List Value} (hT : TurnsAt t g A B) (h : A.ownsRow base e size v n xs) (hg : g < base) : B.ownsRow base e size v n xs := by
  obtain ⟨row, hgr, hr⟩ := hT
  refine h.kept hgr ?_
  cases hv : v.ownBlock with
  | none => exact .inl rfl
  | some k =>
    refine .inr fun e => ?_
    have h1 := (hr k e.symm).1
    have h2 := (h.lt k hv).1
    omega
theorem below_turn {A B w : World} {t : TypeId} {g : Nat} (hT : TurnsAt t g A B) (h : Below w.heap.size w A) (hg : w.heap.size ≤ g) : Below w.heap.size w B := by
  obtain ⟨row, hgr, hr⟩ := hT
  exact h.grown hgr h.size (fun k e => by have := (hr k e).1; omega)
theorem turn_size {A B : World} {t : TypeId} {g : Nat} (hT : TurnsAt t g A B) : A.heap.size ≤ B.heap.size := by
  obtain ⟨row, hgr, _⟩ := hT
  exact hgr.size
theorem sl_putObj {W W' : World} {A : Option Addr} {xs : List Value} (h : Sl W A xs) {row : Option Nat} (hg : W.grownBy W' row) (hr : ∀ r, row = some r → ∃ o : Obj, W.heap[r]? = some o ∧ o.isCells = false) : Sl W' A xs := fun k hk => by
  obtain ⟨b, off, e, hc⟩ := h k hk
  exact ⟨b, off, e, cell_kept hc hg hr⟩
/-- behind an append, what lay below its rows lies as it lay -/
theorem keep6 {X w6 : World} {base e size n : Nat} {v : Value} {xs : List Value} (h : X.ownsRow base e size v n xs) (o : Obj) (hg : (X.alloc o).grownBy w6 v.ownBlock) : ∀ k t cs, Blk X k t cs → k < base → Blk w6 k t cs := fun k t cs hb hk =>
  (hb.alloc o).grown hg (fun e => by have := (h.lt k e.symm).1; omega)
theorem step6 {X w6 : World} {B g e size n : Nat} {v : Value} {xs : List Value} (h : X.ownsRow (g + 6) e size v n xs) (o : Obj) (hg : (X.alloc o).grownBy w6 v.ownBlock) (b : Nat) (hb : b < g + 3) (u : Value) :
    KeepsFrom B X (w6.setCell ⟨b, 0, none⟩ u) ∧ True ∧ KpS (g + 1 + 1 + 1) X (w6.setCell ⟨b, 0, none⟩ u) :=
  ⟨(((KeepsOthers.alloc X o).trans (keeps_own (h.alloc o) hg)).trans (KeepsOthers.setCell _ _ _)).from _, trivial, fun k t cs h1 h2 hk => (keep6 h o hg k t cs hk (by omega)).far (p := ⟨b, 0, none⟩) (by show k ≠ b; omega) u⟩
/-- so many pieces are read -/
def PrsAt (w : World) (pre : List Bs) (W : World) : Prop :=
  ∃ C q, Blk W (w.heap.size + 1 + 1) 24 #[.slice C pre.length q] ∧ W.ownsRow (w.heap.size + 6) 3 1 (.slice C pre.length q) pre.length (iv (pre.map phV)) ∧ pre.all okP = true ∧ (Below w.heap.size w W ∧ w.heap.size + 6 ≤ W.heap.size) ∧ Blk W w.heap.size 24 #[.slice none 0 0] ∧ Blk W (w.heap.size + 1) 29 #[.int .i64 0]
/-- a piece is wrong -/
def PrsX (w : World) (pre : List Bs) (W : World) : Prop :=
  pre.all okP = false ∧ Below w.heap.size w W ∧ Blk W w.heap.size 24 #[.slice none 0 0] ∧ Blk W (w.heap.size + 1) 29 #[.int .i64 7]
set_option maxRecDepth 100000 in
set_option maxHeartbeats 8000000 in
theorem parse_beam (s : Bs) (mx : Int) (w : World) (hl : s.length ≤ 40) (hm : w.cell? ⟨0, 0, none⟩ = some (.int .i64 mx)) :
    Calls Tryd.prog 9 #[strV s] w fun e w' => ∃ C q, e = .returned (.tuple #[.agg #[.slice C (prsL s).length q], .int .i64 (prsE s)]) ∧ Sl w' C (iv (prsL s)) ∧ Below w.heap.size w w' := by
  have HM := hide (fun W (h : Below w.heap.size w W) => show W.cell? ⟨0, 0, none⟩ = some (.int .i64 mx) from (h.cell (lt_of_cell hm)).trans hm)
  have hsp : strV s = .string ⟨s.toArray⟩ := rfl
  rw [hsp]
  clear hm hsp
  refine (callsIn_wide (n := 5)).1 ?_
  refine callsIn_of_wp_marks Tryd.func9 rfl trivial ?_ rfl
  simp only [Tryd.ntmps9, List.size_toArray, List.length_cons, List.length_nil, Nat.reduceAdd, Nat.reduceSub, Array.replicate_succ, Array.replicate_zero, List.push_toArray, List.append_toArray, List.nil_append, List.cons_append]
  gi_wp2_with (refine ⟨trivial, ?_⟩; gi_at_call 29; refine (SplitSeq_in _ _ _).mono ?_; rintro e w' ⟨rfl, rfl⟩)
  obtain ⟨i0, hi0, hz0, hz1, hz2⟩ := info_parts int_info
  obtain ⟨V, hV⟩ : ∃ W, ((((((w.alloc (.cells #[.slice none 0 0] 24)).alloc (.cells #[.int .i64 0] 29)).alloc (.cells #[.slice none 0 0] 24)).alloc (.cells #[.string ⟨s.toArray⟩] 9)).alloc (.cells #[.string ⟨#[32]⟩] 9)).alloc (.cells #[.int .i64 0] 3)) = W := ⟨_, rfl⟩
  have HZ := hide (show V.heap.size = w.heap.size + 6 from by rw [← hV]; simp)
  have HB2 := hide (show Blk V (w.heap.size) 24 #[.slice none 0 0] from by rw [← hV]; exact (((((Blk.newN2 _ _ _ (by simp)).alloc _).alloc _).alloc _).alloc _).alloc _)
  have HB3 := hide (show Blk V (w.heap.size + 1) 29 #[.int .i64 0] from by rw [← hV]; exact ((((Blk.newN2 _ _ _ (by simp)).alloc _).alloc _).alloc _).alloc _)
  have HB4 := hide (show Blk V (w.heap.size + 1 + 1) 24 #[.slice none 0 0] from by rw [← hV]; exact (((Blk.newN2 _ _ _ (by simp)).alloc _).alloc _).alloc _)
  have HG0 := hide (show Blk V (w.heap.size + 1 + 1 + 1) 9 #[strV s] from by rw [← hV]; exact ((Blk.newN2 _ _ _ (by simp)).alloc _).alloc _)
  have HG1 := hide (show Blk V (w.heap.size + 1 + 1 + 1 + 1) 9 #[.string ⟨#[32]⟩] from by rw [← hV]; exact (Blk.newN2 _ _ _ (by simp)).alloc _)
  have HG2 := hide (show Blk V (w.heap.size + 1 + 1 + 1 + 2) 3 #[.int .i64 0] from by rw [← hV]; exact Blk.newN2 _ _ _ (by simp))
  have HBV := hide (show Below w.heap.size w V from by rw [← hV]; exact (((((((Below.refl _ w).alloc (Nat.le_refl _) _).alloc (by simp) _).alloc (by simp; omega) _).alloc (by simp; omega) _).alloc (by simp; omega) _).alloc (by simp; omega) _))
  rw [hV]
  clear hV
  refine wpIn_rangeFunc_turns (t := 9) (g := w.heap.size + 1 + 1 + 1) (Kp := KpS (w.heap.size + 1 + 1 + 1)) (S := fun ys => ys = cutL s) (N := (cutL s).length) (enc := strV) rfl (by omega) (gf := 74) (lb := #[.pointer (some ⟨w.heap.size + 1 + 1 + 1 + 1, 0, none⟩), .pointer (some ⟨w.heap.size + 1 + 1 + 1, 0, none⟩), .pointer (some ⟨w.heap.size + 1 + 1 + 1 + 2, 0, none⟩)]) rfl trivial (enters Tryd.func74 (by kernel_rfl) rfl)
    (split_seq (5 - 1) (by omega) s (by omega) (w.heap.size + 1 + 1 + 1) V HG0.out HG1.out HG2.out) (Below.refl _ _) (fun _ _ _ _ _ h => h) (fun h k => KpS.trans h k) (fun W o k t cs _ _ h => h.alloc o) (fun W l o o' hl ho k t cs _ _ h => h.putObjS (grownBy_putObj' W l o') (fun r e => by cases e; exact ⟨o, hl, ho⟩))
    (PrsAt w) (PrsX w) ?hI ?hIx ?hIt ?hIxt ?h0 (fun x => { tmps := #[.string ⟨s.toArray⟩, undef, .pointer (some ⟨w.heap.size, 0, none⟩), .pointer (some ⟨w.heap.size + 1, 0, none⟩), .pointer (some ⟨w.heap.size + 1 + 1, 0, none⟩), strV x, undef, undef, .string ⟨s.toArray⟩, .func (.func 74) #[] #[.pointer (some ⟨w.heap.size + 1 + 1 + 1 + 1, 0, none⟩), .pointer (some ⟨w.heap.size + 1 + 1 + 1, 0, none⟩), .pointer (some ⟨w.heap.size + 1 + 1 + 1 + 2, 0, none⟩)], strV x, undef, undef, undef, undef, undef, undef, undef, undef, undef, undef, undef, undef, undef, undef, undef, undef, undef, undef, undef, undef, undef, undef, undef, undef, undef], defers := [] }) ?assign ?body ?done ?stop
  case hI =>
    rintro pre A X row ⟨C, q, h1, h2, h3, h4, h5, h6⟩ hg hr
    have hr2 := fun r e => (hr r e).2
    exact ⟨C, q, h1.putObjS hg hr2, own_putObj h2 hg hr2, h3, ⟨h4.1.grown hg h4.1.size (fun r e => Nat.le_trans HBV.out.size (hr r e).1), Nat.le_trans h4.2 hg.size⟩, h5.putObjS hg hr2, h6.putObjS hg hr2⟩
  case hIx =>
    rintro pre A X row ⟨h3, h4, h5, h6⟩ hg hr
    have hr2 := fun r e => (hr r e).2
    exact ⟨h3, h4.grown hg h4.size (fun r e => Nat.le_trans HBV.out.size (hr r e).1), h5.putObjS hg hr2, h6.putObjS hg hr2⟩
  case hIt =>
    rintro pre A X ⟨C, q, h1, h2, h3, h4, h5, h6⟩ hT
    exact ⟨C, q, hT.blk h1 (by omega), own_turn hT h2 (by omega), h3, ⟨below_turn hT h4.1 (by omega), Nat.le_trans h4.2 (turn_size hT)⟩, hT.blk h5 (by omega), hT.blk h6 (by omega)⟩
  case hIxt =>
    rintro pre A X ⟨h3, h4, h5, h6⟩ hT
    exact ⟨h3, below_turn hT h4 (by omega), hT.blk h5 (by omega), hT.blk h6 (by omega)⟩
  case h0 => exact ⟨none, 0, HB4.out, World.ownsRow_nil _ _ _ _, rfl, ⟨HBV.out, by rw [HZ.out]; exact Nat.le_refl _⟩, HB2.out, HB3.out⟩
  case assign =>
    intro lp x W K hK
    gi_wp2
    exact hK
  case body =>
    rintro lp pre x X ⟨C, q, h1, h2, h3, ⟨h4, hsz⟩, h5, h6⟩ hlen
    have H4 := hide h1
    have HOW := hide h2
    have HOK := hide h3
    have HBX := hide h4
    have H2 := hide h5
    have H3 := hide h6
    have hp41 : pre.length ≤ 41 := by have := cutL_len s; omega
    have HXS := hide hsz
    have c4 := H4.out.cell 0
    have hpl : (pre ++ [x]).length = pre.length + 1 := by simp
    have HPH := hide (show iv ((pre ++ [x]).map phV) = iv (pre.map phV) ++ [.int .i64 (phV x)] from by rw [List.map_append, iv_append]; rfl)
    have HOA := hide (show (pre ++ [x]).all okP = okP x from by rw [List.all_append, HOK.out]; simp)
    have ne1 : ∀ W, (binOp .neq 9 (strV x) (.string ⟨#[45]⟩)).run Tryd.prog W = .ok (.bool (!(x == [45]))) W := fun W => ne_str x [45] W
    have eg : ∀ op u v r z, eqGuard op 9 u v (strV r) z = pure () := fun op u v r z => eqG_str op u v r z
    have hln := fun t W => len_str x t W
    clear h1 h2 h3 h4 h5 h6 hlen
    by_cases h45 : x = [45]
    · have hq : (x == [45]) = true := by rw [h45]; rfl
      have HOKN := hide (show (pre ++ [x]).all okP = true from by rw [HOA.out, h45]; rfl)
      have hph : phV x = -1 := by rw [h45]; rfl
      rw [hph] at HPH
      clear hph h45
      gi_wp2_with ((gi_at_builtin; go_loud (refine wpListIn_append_own _ rfl _ _ 22 rfl (w.heap.size + 6) 3 i0 (.int .i64 0) 1 8 Tryd.underlying22 hi0 hz0 hz1 hz2 rfl (by decide) _ _ _ rfl (HOW.out.alloc (.cells #[.int .i64 (-1)] 3)) ⟨X.heap.size, 0, none⟩ 1 1 [.int .i64 (-1)] rfl rfl (cell_one_new _ _ _) (by simp [Value.oneCell']) (by simp only [maxLen]; omega) (by omega) (by have := HXS.out; simp; omega) ?_); go_loud (intro v' w6 hown' hgrow _; obtain ⟨C6, q6, rfl⟩ := own_form hown'; have HGR := hide hgrow; have HO6 := hide hown'; have H6 := hide (keep6 HOW.out (.cells #[.int .i64 (-1)] 3) hgrow); clear hown' hgrow; have D4 := hide (H6.out _ _ _ H4.out (by omega)); have d4 := D4.out.cell 0; have f4 := D4.out.frozen 0)))
      obtain ⟨K1, K2, K3⟩ := step6 HOW.out (.cells #[.int .i64 (-1)] 3) HGR.out (w.heap.size + 1 + 1) (by omega) (.slice C6 (pre.length + 1) q6)
      have N4 := hide ((H6.out _ _ _ H4.out (by omega)).set_ 0 (.slice C6 (pre.length + 1) q6))
      have N2 := hide ((H6.out _ _ _ H2.out (by omega)).far (p := ⟨w.heap.size + 1 + 1, 0, none⟩) (by show w.heap.size ≠ w.heap.size + 1 + 1; omega) (.slice C6 (pre.length + 1) q6))
      have N3 := hide ((H6.out _ _ _ H3.out (by omega)).far (p := ⟨w.heap.size + 1 + 1, 0, none⟩) (by show w.heap.size + 1 ≠ w.heap.size + 1 + 1; omega) (.slice C6 (pre.length + 1) q6))
      have NO := hide (own_far (u := .slice C6 (pre.length + 1) q6) (i := 0) HO6.out (H6.out _ _ _ H4.out (by omega)) (by decide))
      have NB := hide (((HBX.out.alloc HBX.out.size (.cells #[.int .i64 (-1)] 3)).grown HGR.out (by have := HXS.out; simp; omega) (fun j hj => by have := (HOW.out.lt j hj).1; omega)).setCell (p := ⟨w.heap.size + 1 + 1, 0, none⟩) (by show w.heap.size ≤ w.heap.size + 1 + 1; omega) (.slice C6 (pre.length + 1) q6))
      exact ⟨K1, .inl ⟨rfl, K3, C6, q6, by rw [hpl]; exact N4.out, by rw [hpl, HPH.out]; exact NO.out, HOKN.out, ⟨NB.out, Nat.le_trans HXS.out K1.size⟩, N2.out, N3.out⟩⟩
    · have hq : (x == [45]) = false := by simpa using h45
      have HN45 := hide h45
      clear h45
      by_cases hl1 : x.length = 1
      · obtain ⟨c8, hc8⟩ : ∃ c8, x = [c8] := by
          match x, hl1 with
          | [c], _ => exact ⟨c, rfl⟩
        have hph : phO x = if 48 ≤ c8.toNat ∧ c8.toNat ≤ 55 then some ((c8.toNat : Int) - 48) else none := by
          have h := ph_one HN45.out hl1
          subst hc8
          exact h
        have HIX := hide (fun W (h : Below w.heap.size w W) => (by have := Tryd.strings_Index ⟨#[48, 49, 50, 51, 52, 53, 54, 55]⟩ ⟨x.toArray⟩ mx W (by decide) (HM.out W h); rw [show (ByteArray.mk x.toArray).data.toList = [c8] from by rw [hc8], show (ByteArray.mk #[48, 49, 50, 51, 52, 53, 54, 55]).data.toList = [48, 49, 50, 51, 52, 53, 54, 55] from rfl, index_digit] at this; exact this : Calls Tryd.prog 30 #[.string ⟨#[48, 49, 50, 51, 52, 53, 54, 55]⟩, strV x] W fun e w' => e = .returned (.int .i64 (if 48 ≤ c8.toNat ∧ c8.toNat ≤ 55 then (c8.toNat : Int) - 48 else -1)) ∧ w' = W))
        have hl1' : ((x.length : Int) != 1) = false := by rw [hl1]; rfl
        obtain ⟨cc, hcc⟩ : ∃ cc, c8.toNat = cc := ⟨_, rfl⟩
        rw [hcc] at hph HIX
        have HL1 := hide hl1
        clear hc8 hcc hl1
        by_cases hr : 48 ≤ cc ∧ cc ≤ 55
        · rw [if_pos hr] at hph HIX
          obtain ⟨hr1, hr2⟩ := hr
          have hpv : phV x = (cc : Int) - 48 := by unfold phV; rw [hph]; rfl
          have HOKN := hide (show (pre ++ [x]).all okP = true from by rw [HOA.out]; unfold okP; rw [hph]; rfl)
          rw [hpv] at HPH
          obtain ⟨pv, hpv2⟩ : ∃ pv : Int, (cc : Int) - 48 = pv := ⟨_, rfl⟩
          rw [hpv2] at HPH HIX
          have hp0 : 0 ≤ pv := by omega
          have hp1 : ¬ pv < 0 := by omega
          clear hpv hpv2 hph hr1 hr2
          gi_wp2_with (first
            | (refine ⟨trivial, ?_⟩; gi_at_call 30; refine (CallsIn.inRound lp (callsIn_wide.2 (HIX.out _ HBX.out))).mono ?_; rintro e w' ⟨rfl, hw⟩; rw [hw]; clear hw)
            | (gi_at_builtin; go_loud (refine wpListIn_append_own _ rfl _ _ 22 rfl (w.heap.size + 6) 3 i0 (.int .i64 0) 1 8 Tryd.underlying22 hi0 hz0 hz1 hz2 rfl (by decide) _ _ _ rfl (HOW.out.alloc (.cells #[.int .i64 pv] 3)) ⟨X.heap.size, 0, none⟩ 1 1 [.int .i64 pv] rfl rfl (cell_one_new _ _ _) (by simp [Value.oneCell']) (by simp only [maxLen]; omega) (by omega) (by have := HXS.out; simp; omega) ?_); go_loud (intro v' w6 hown' hgrow _; obtain ⟨C6, q6, rfl⟩ := own_form hown'; have HGR := hide hgrow; have HO6 := hide hown'; have H6 := hide (keep6 HOW.out (.cells #[.int .i64 pv] 3) hgrow); clear hown' hgrow; have D4 := hide (H6.out _ _ _ H4.out (by omega)); have d4 := D4.out.cell 0; have f4 := D4.out.frozen 0)))
          obtain ⟨K1, K2, K3⟩ := step6 HOW.out (.cells #[.int .i64 pv] 3) HGR.out (w.heap.size + 1 + 1) (by omega) (.slice C6 (pre.length + 1) q6)
          have N4 := hide ((H6.out _ _ _ H4.out (by omega)).set_ 0 (.slice C6 (pre.length + 1) q6))
          have N2 := hide ((H6.out _ _ _ H2.out (by omega)).far (p := ⟨w.heap.size + 1 + 1, 0, none⟩) (by show w.heap.size ≠ w.heap.size + 1 + 1; omega) (.slice C6 (pre.length + 1) q6))
          have N3 := hide ((H6.out _ _ _ H3.out (by omega)).far (p := ⟨w.heap.size + 1 + 1, 0, none⟩) (by show w.heap.size + 1 ≠ w.heap.size + 1 + 1; omega) (.slice C6 (pre.length + 1) q6))
          have NO := hide (own_far (u := .slice C6 (pre.length + 1) q6) (i := 0) HO6.out (H6.out _ _ _ H4.out (by omega)) (by decide))
          have NB := hide (((HBX.out.alloc HBX.out.size (.cells #[.int .i64 pv] 3)).grown HGR.out (by have := HXS.out; simp; omega) (fun j hj => by have := (HOW.out.lt j hj).1; omega)).setCell (p := ⟨w.heap.size + 1 + 1, 0, none⟩) (by show w.heap.size ≤ w.heap.size + 1 + 1; omega) (.slice C6 (pre.length + 1) q6))
          exact ⟨K1, .inl ⟨rfl, K3, C6, q6, by rw [hpl]; exact N4.out, by rw [hpl, HPH.out]; exact NO.out, HOKN.out, ⟨NB.out, Nat.le_trans HXS.out K1.size⟩, N2.out, N3.out⟩⟩
        · rw [if_neg hr] at hph HIX
          have HNB := hide (show (pre ++ [x]).all okP = false from by rw [HOA.out]; unfold okP; rw [hph]; rfl)
          have d2 := H2.out.cell 0
          have f2 := H2.out.frozen 0
          have d3 := H3.out.cell 0
          have f3 := H3.out.frozen 0
          clear hph hr
          gi_wp2_with ((refine ⟨trivial, ?_⟩; gi_at_call 30; refine (CallsIn.inRound lp (callsIn_wide.2 (HIX.out _ HBX.out))).mono ?_; rintro e w' ⟨rfl, hw⟩; rw [hw]; clear hw))
          have N2 := hide ((H2.out.set_ 0 (.slice none 0 0)).far (p := ⟨w.heap.size + 1, 0, none⟩) (by show w.heap.size ≠ w.heap.size + 1; omega) (.int .i64 7))
          have N3 := hide ((H3.out.far (p := ⟨w.heap.size, 0, none⟩) (by show w.heap.size + 1 ≠ w.heap.size; omega) (.slice none 0 0)).set_ 0 (.int .i64 7))
          exact ⟨((KeepsOthers.setCell _ _ _).trans (KeepsOthers.setCell _ _ _)).from _, .inr ⟨rfl, HNB.out, (HBX.out.setCell (p := ⟨w.heap.size, 0, none⟩) (Nat.le_refl _) _).setCell (p := ⟨w.heap.size + 1, 0, none⟩) (by show w.heap.size ≤ w.heap.size + 1; omega) _, N2.out, N3.out⟩⟩
      · have hl1' : ((x.length : Int) != 1) = true := by rw [bne_iff_ne]; omega
        have hph := ph_bad HN45.out hl1
        have HNB := hide (show (pre ++ [x]).all okP = false from by rw [HOA.out]; unfold okP; rw [hph]; rfl)
        obtain ⟨ix, HIX⟩ : ∃ ix : Int, Hid (∀ W (_ : Below w.heap.size w W), Calls Tryd.prog 30 #[.string ⟨#[48, 49, 50, 51, 52, 53, 54, 55]⟩, strV x] W fun e w' => e = .returned (.int .i64 ix) ∧ w' = W) :=
          ⟨_, hide fun W h => Tryd.strings_Index ⟨#[48, 49, 50, 51, 52, 53, 54, 55]⟩ ⟨x.toArray⟩ mx W (by decide) (HM.out W h)⟩
        have d2 := H2.out.cell 0
        have f2 := H2.out.frozen 0
        have d3 := H3.out.cell 0
        have f3 := H3.out.frozen 0
        clear hph hl1
        gi_wp2_with ((refine ⟨trivial, ?_⟩; gi_at_call 30; refine (CallsIn.inRound lp (callsIn_wide.2 (HIX.out _ HBX.out))).mono ?_; rintro e w' ⟨rfl, hw⟩; rw [hw]; clear hw))
        have N2 := hide ((H2.out.set_ 0 (.slice none 0 0)).far (p := ⟨w.heap.size + 1, 0, none⟩) (by show w.heap.size ≠ w.heap.size + 1; omega) (.int .i64 7))
        have N3 := hide ((H3.out.far (p := ⟨w.heap.size, 0, none⟩) (by show w.heap.size + 1 ≠ w.heap.size; omega) (.slice none 0 0)).set_ 0 (.int .i64 7))
        exact ⟨((KeepsOthers.setCell _ _ _).trans (KeepsOthers.setCell _ _ _)).from _, .inr ⟨rfl, HNB.out, (HBX.out.setCell (p := ⟨w.heap.size, 0, none⟩) (Nat.le_refl _) _).setCell (p := ⟨w.heap.size + 1, 0, none⟩) (by show w.heap.size ≤ w.heap.size + 1; omega) _, N2.out, N3.out⟩⟩
  case done =>
    rintro D ys W hD rfl ⟨C, q, h1, h2, h3, ⟨h4, hsz⟩, h5, h6⟩ hK
    have HEE := hide (show prsE s = (chk ((cutL s).map phV)).2 from by unfold prsE; rw [if_pos h3])
    have HLL := hide (show prsL s = if (chk ((cutL s).map phV)).2 = 0 then (cutL s).map phV else [] from by unfold prsL; rw [HEE.out])
    have HXL := hide (show ((cutL s).map phV).length = (cutL s).length from List.length_map _)
    have hm41 : (cutL s).length ≤ 41 := by have := cutL_len s; omega
    obtain ⟨xs, hxs⟩ : ∃ xs, (cutL s).map phV = xs := ⟨_, rfl⟩
    obtain ⟨m, hm⟩ : ∃ m, (cutL s).length = m := ⟨_, rfl⟩
    rw [hxs] at HEE HLL HXL h2
    rw [hm] at HXL h1 h2 hm41
    have H4 := hide h1
    have HOW := hide h2
    have HSX := hide (Sl.of_own h2)
    have HBW := hide h4
    have H2 := hide h5
    have H3 := hide h6
    have HK := hide hK
    have HD := hide (show w.heap.size + 6 ≤ D from by rw [← HZ.out]; exact hD)
    have HBR := hide (fun W (h : Sl W C (iv xs)) => (by have := beamErr_beam C q xs W h (by rw [HXL.out]; omega); rw [HXL.out] at this; exact this : Calls Tryd.prog 31 #[.agg #[.slice C m q]] W fun e w' => e = .returned (.int .i64 (chk xs).2) ∧ Below W.heap.size W w'))
    have d4 := H4.out.cell 0
    obtain ⟨E, hE⟩ : ∃ E, (chk xs).2 = E := ⟨_, rfl⟩
    rw [hE] at HEE HLL HBR
    clear hE hxs hm h1 h2 h3 h4 h5 h6 hK hD hsz
    by_cases hE0 : E = 0
    · subst hE0
      have HLX := hide (show prsL s = xs from by rw [HLL.out]; rfl)
      gi_wp2_with (refine ⟨trivial, ?_⟩; gi_at_call 31; refine (callsIn_wide.2 (HBR.out _ HSX.out)).mono ?_; rintro e w2 ⟨rfl, hb2⟩; have NB2 := hide (Below.step HBW.out hb2); have D4 := hide (H4.out.below hb2 H4.out.lt); have T2 := hide (H2.out.below hb2 H2.out.lt); have T3 := hide (H3.out.below hb2 H3.out.lt); have S2 := hide (HSX.out.bel hb2); have HK2 := hide ((hb2.block D (Array.getElem?_eq_some_iff.1 HK.out).1).trans HK.out); clear hb2; have d4 := D4.out.cell 0; have c2 := T2.out.cell 0; have f2 := T2.out.frozen 0; have c3 := T3.out.cell 0; have f3 := T3.out.frozen 0)
      have N2 := hide ((T2.out.set_ 0 (.slice C m q)).far (p := ⟨w.heap.size + 1, 0, none⟩) (by show w.heap.size ≠ w.heap.size + 1; omega) (.int .i64 0))
      have N3 := hide ((T3.out.far (p := ⟨w.heap.size, 0, none⟩) (by show w.heap.size + 1 ≠ w.heap.size; omega) (.slice C m q)).set_ 0 (.int .i64 0))
      have hK3 := (((KeepsOthers.setCell w2 ⟨w.heap.size, 0, none⟩ (.slice C m q)).trans (KeepsOthers.setCell _ ⟨w.heap.size + 1, 0, none⟩ (.int .i64 0))).same D _ HK2.out rfl)
      have NB := hide ((NB2.out.setCell (p := ⟨w.heap.size, 0, none⟩) (Nat.le_refl _) (.slice C m q)).setCell (p := ⟨w.heap.size + 1, 0, none⟩) (by show w.heap.size ≤ w.heap.size + 1; omega) (.int .i64 0))
      have NS := hide ((S2.out.setCell (g := w.heap.size) (i := 0) (fun b off e => by have hr := own_far_block HOW.out e; omega) (.slice C m q)).setCell (g := w.heap.size + 1) (i := 0) (fun b off e => by have hr := own_far_block HOW.out e; omega) (.int .i64 0))
      obtain ⟨w3, hw3⟩ : ∃ W, (w2.setCell ⟨w.heap.size, 0, none⟩ (.slice C m q)).setCell ⟨w.heap.size + 1, 0, none⟩ (.int .i64 0) = W := ⟨_, rfl⟩
      rw [hw3] at N2 N3 hK3 NB NS ⊢
      clear hw3
      refine ⟨by simp, .inl ⟨_, _, rfl, run_takeDeferred hK3, ?_⟩⟩
      have hgD := grownBy_putObj' w3 D (.deferred none)
      have hrD : ∀ r, some D = some r → ∃ o : Obj, w3.heap[r]? = some o ∧ o.isCells = false := fun r e => by cases e; exact ⟨_, hK3, rfl⟩
      have g2 := (N2.out.putObjS hgD hrD).cell 0
      have g3 := (N3.out.putObjS hgD hrD).cell 0
      refine ⟨.tuple #[.agg #[.slice C m q], .int .i64 0], ?_, C, q, by rw [HLX.out, HEE.out, HXL.out], by rw [HLX.out]; exact sl_putObj NS.out hgD hrD, NB.out.grown hgD NB.out.size (fun j hj => by injection hj with hj; have := HD.out; omega)⟩
      simp [results, Tryd.f9, go_sem, g2, g3]
    · have hne : (E != 0) = true := by rw [bne_iff_ne]; exact hE0
      have HHL := hide (show prsL s = [] from by rw [HLL.out, if_neg hE0])
      clear hE0
      gi_wp2_with (refine ⟨trivial, ?_⟩; gi_at_call 31; refine (callsIn_wide.2 (HBR.out _ HSX.out)).mono ?_; rintro e w2 ⟨rfl, hb2⟩; have NB2 := hide (Below.step HBW.out hb2); have D4 := hide (H4.out.below hb2 H4.out.lt); have T2 := hide (H2.out.below hb2 H2.out.lt); have T3 := hide (H3.out.below hb2 H3.out.lt); have S2 := hide (HSX.out.bel hb2); have HK2 := hide ((hb2.block D (Array.getElem?_eq_some_iff.1 HK.out).1).trans HK.out); clear hb2; have d4 := D4.out.cell 0; have c2 := T2.out.cell 0; have f2 := T2.out.frozen 0; have c3 := T3.out.cell 0; have f3 := T3.out.frozen 0)
      have N2 := hide ((T2.out.set_ 0 (.slice none 0 0)).far (p := ⟨w.heap.size + 1, 0, none⟩) (by show w.heap.size ≠ w.heap.size + 1; omega) (.int .i64 E))
      have N3 := hide ((T3.out.far (p := ⟨w.heap.size, 0, none⟩) (by show w.heap.size + 1 ≠ w.heap.size; omega) (.slice none 0 0)).set_ 0 (.int .i64 E))
      have hK3 := (((KeepsOthers.setCell w2 ⟨w.heap.size, 0, none⟩ (.slice none 0 0)).trans (KeepsOthers.setCell _ ⟨w.heap.size + 1, 0, none⟩ (.int .i64 E))).same D _ HK2.out rfl)
      have NB := hide ((NB2.out.setCell (p := ⟨w.heap.size, 0, none⟩) (Nat.le_refl _) (.slice none 0 0)).setCell (p := ⟨w.heap.size + 1, 0, none⟩) (by show w.heap.size ≤ w.heap.size + 1; omega) (.int .i64 E))
      obtain ⟨w3, hw3⟩ : ∃ W, (w2.setCell ⟨w.heap.size, 0, none⟩ (.slice none 0 0)).setCell ⟨w.heap.size + 1, 0, none⟩ (.int .i64 E) = W := ⟨_, rfl⟩
      rw [hw3] at N2 N3 hK3 NB ⊢
      clear hw3
      refine ⟨by simp, .inl ⟨_, _, rfl, run_takeDeferred hK3, ?_⟩⟩
      have hgD := grownBy_putObj' w3 D (.deferred none)
      have hrD : ∀ r, some D = some r → ∃ o : Obj, w3.heap[r]? = some o ∧ o.isCells = false := fun r e => by cases e; exact ⟨_, hK3, rfl⟩
      have g2 := (N2.out.putObjS hgD hrD).cell 0
      have g3 := (N3.out.putObjS hgD hrD).cell 0
      refine ⟨.tuple #[.agg #[.slice none 0 0], .int .i64 E], ?_, none, 0, by rw [HHL.out, HEE.out]; rfl, by rw [HHL.out]; exact sl_nil _, NB.out.grown hgD NB.out.size (fun j hj => by injection hj with hj; have := HD.out; omega)⟩
      simp [results, Tryd.f9, go_sem, g2, g3]
  case stop =>
    rintro D pre x r W hD hS ⟨h3, h4, h5, h6⟩ hK
    have hbad : (cutL s).all okP = false := by
      rw [← show pre ++ x :: r = cutL s from hS, show pre ++ x :: r = (pre ++ [x]) ++ r by simp, List.all_append, h3]; rfl
    have HEE := hide (show prsE s = 7 from by unfold prsE; rw [hbad]; rfl)
    have HHL := hide (show prsL s = [] from by unfold prsL; rw [HEE.out]; rfl)
    have HD := hide (show w.heap.size + 6 ≤ D from by rw [← HZ.out]; exact hD)
    have NB := hide h4
    have N2 := hide h5
    have N3 := hide h6
    have HK := hide hK
    clear hS hbad h3 h4 h5 h6 hK hD
    gi_wp2
    refine ⟨by simp, .inl ⟨_, _, rfl, run_takeDeferred HK.out, ?_⟩⟩
    have hgD := grownBy_putObj' W D (.deferred none)
    have hrD : ∀ r, some D = some r → ∃ o : Obj, W.heap[r]? = some o ∧ o.isCells = false := fun r e => by cases e; exact ⟨_, HK.out, rfl⟩
    have g2 := (N2.out.putObjS hgD hrD).cell 0
    have g3 := (N3.out.putObjS hgD hrD).cell 0
    refine ⟨.tuple #[.agg #[.slice none 0 0], .int .i64 7], ?_, none, 0, by rw [HHL.out, HEE.out]; rfl, by rw [HHL.out]; exact sl_nil _, NB.out.grown hgD NB.out.size (fun j hj => by injection hj with hj; have := HD.out; omega)⟩
    simp [results, Tryd.f9, go_sem, g2, g3]
end Go.Proofs.YtamkannjdbodpaaDoor
