import Derived.Test.YtehcmhblppjalaaSyLk
import Derived.Test.YtehcmhblppjalaaSyAw
import Derived.Test.YtehcmhblppjalaaSyL
namespace Go.Proofs.Ytehcmhblppjalaa
open Go.RowKit Go.WideShapes Go.ChangeShapes

/-! the statement TopSymbolScrambled -/
theorem wpList_append_want {P : Program} {w : World} {ops : Array Oper} {rest : List Oper} {o : Oper} {a : Act} {Q : Exit → Act → World → Prop} (hw : Region.wanted o (yielded ops a.tmps) = true) (s x : Operand) (t : TypeId)
    (ho : o.op = .call { callee := .builtin .append, args := #[s, x], argTypes := #[t, t] })
    (base : Nat) (e : TypeId) (i : TypeInfo) (z : Value) (size bytes : Nat) (ht : P.underlying t = some (.slice e)) (hi : P.info? e = some i) (hz : i.zero = some z)
    (hsize : i.size = size) (hby : i.bytes = bytes) (hzs : z.cells.size = size) (hsz : 0 < size)
    (v : Value) (n : Nat) (xs : List Value) (hs : a.eval s = v) (hown : w.ownsRow base e size v n xs)
    (B : Nat) (A : Option Addr) (m c : Nat) (news : List Value) (hx : a.eval x = .slice A m c) (hr : Reads w B size A m news) (h1 : ∀ u ∈ news, u.oneCell' = true)
    (h63 : n + m ≤ maxLen) (hbytes : (n + m) * bytes ≤ 140737488355328) (hbase : base ≤ w.heap.size)
    (h : ∀ v' w', w'.ownsRow base e size v' (n + m) (xs ++ news) → w.grownBy w' v.ownBlock → (v'.ownBlock = v.ownBlock ∨ v'.ownBlock = some w.heap.size) → wpList P ops Q rest (a.put o.dst v') w') : wpList P ops Q (o :: rest) a w :=
  wpList_step fun K hK => by
    rw [if_pos hw]
    exact wp_append_any w s x t ho base e i z size bytes ht hi hz hsize hby hzs hsz v n xs hs hown B A m c news hx hr h1 h63 hbytes hbase fun v' w' h2 h3 h4 => hK _ _ (h v' w' h2 h3 h4)
set_option maxRecDepth 100000 in
set_option maxHeartbeats 8000000 in
theorem sym_core (ta tb : Nat) (La Lb : Int) (A1 A2 A3 A4 A5 : Option Addr) (c1 c2 c3 c4 c5 m1 m2 m3 m4 n : Nat) (Ta Ba Tb Bb l : List Int) (w : World) (hm1 : Ta.length = m1) (hm2 : Ba.length = m2) (hm3 : Tb.length = m3) (hm4 : Bb.length = m4) (hn : l.length = n)
    (hs1 : Sl w A1 (iv Ta)) (hs2 : Sl w A2 (iv Ba)) (hs3 : Sl w A3 (iv Tb)) (hs4 : Sl w A4 (iv Bb)) (hs5 : Sl w A5 (iv l))
    (hra : RgOk ta Ta Ba) (hrb : RgOk tb Tb Bb) (hla : La = (ta : Int) + 1) (hlb : Lb = (tb : Int) + 1) (hga : rgE La Ta Ba = 0) (hgb : rgE Lb Tb Bb = 0) (h12a : m1 ≤ 12) (h12b : m3 ≤ 12) (h40 : n ≤ 40) (hbt : btE l = 0) :
    Calls Try.prog 3 #[.agg (rgA La A1 A2 m1 m2 c1 c2), .agg (rgA Lb A3 A4 m3 m4 c3 c4), .slice A5 n c5] w fun e w' => e = .returned (.bool true) ∧ Below w.heap.size w w' := by
  have HT := hide (((((((((stay_sl (((hs1).alloc (.cells #[.int .i64 La, .slice A1 m1 c1, .slice A2 m2 c2] 24)).alloc (.cells #[.int .i64 Lb, .slice A3 m3 c3, .slice A4 m4 c4] 24))).and (stay_sl (((hs2).alloc (.cells #[.int .i64 La, .slice A1 m1 c1, .slice A2 m2 c2] 24)).alloc (.cells #[.int .i64 Lb, .slice A3 m3 c3, .slice A4 m4 c4] 24)))).and (stay_sl (((hs3).alloc (.cells #[.int .i64 La, .slice A1 m1 c1, .slice A2 m2 c2] 24)).alloc (.cells #[.int .i64 Lb, .slice A3 m3 c3, .slice A4 m4 c4] 24)))).and (stay_sl (((hs4).alloc (.cells #[.int .i64 La, .slice A1 m1 c1, .slice A2 m2 c2] 24)).alloc (.cells #[.int .i64 Lb, .slice A3 m3 c3, .slice A4 m4 c4] 24)))).and (stay_sl (((hs5).alloc (.cells #[.int .i64 La, .slice A1 m1 c1, .slice A2 m2 c2] 24)).alloc (.cells #[.int .i64 Lb, .slice A3 m3 c3, .slice A4 m4 c4] 24)))).and (stay_blk ((Blk.new w 24 #[.int .i64 La, .slice A1 m1 c1, .slice A2 m2 c2]).alloc (.cells #[.int .i64 Lb, .slice A3 m3 c3, .slice A4 m4 c4] 24)))).and (stay_blk (Blk.newN (w.alloc (.cells #[.int .i64 La, .slice A1 m1 c1, .slice A2 m2 c2] 24)) 24 #[.int .i64 Lb, .slice A3 m3 c3, .slice A4 m4 c4] (by simp : (w.alloc (.cells #[.int .i64 La, .slice A1 m1 c1, .slice A2 m2 c2] 24)).heap.size = w.heap.size + 1)))).and (stay_below (show Below w.heap.size w ((w.alloc (.cells #[.int .i64 La, .slice A1 m1 c1, .slice A2 m2 c2] 24)).alloc (.cells #[.int .i64 Lb, .slice A3 m3 c3, .slice A4 m4 c4] 24)) from ((Below.refl _ _).alloc (Nat.le_refl _) _).alloc (by simp) _))))
  have hm2' : m2 = ta + 1 := by rw [← hm2]; exact hra.len
  have hm4' : m4 = tb + 1 := by rw [← hm4]; exact hrb.len
  have h12c : m2 ≤ 12 := by have := hra.hi; omega
  have h12d : m4 ≤ 12 := by have := hrb.hi; omega
  have h1n : 1 ≤ n := by have := (btE_ok hbt).1; omega
  have hfa : ∀ i, itW (tpW Ta m1) ta (wdB Ba (ta + 1)) i % 2 < 2 := fun i => Nat.mod_lt _ (by decide)
  have hxa : wdB Ba (ta + 1) < 2 ^ (ta + 1) := wdB_lt hra (ta + 1)
  have HRA := hide (fun W (k : Sl W A1 (iv Ta)) (k' : Sl W A2 (iv Ba)) => by have := checkReg_ref La A1 A2 c1 c2 Ta Ba W k k' (by omega) (by have := hra.hi; omega); rw [hga, hm1, hm2] at this; exact this)
  have HRB := hide (fun W (k : Sl W A3 (iv Tb)) (k' : Sl W A4 (iv Bb)) => by have := checkReg_ref Lb A3 A4 c3 c4 Tb Bb W k k' (by omega) (by have := hrb.hi; omega); rw [hgb, hm3, hm4] at this; exact this)
  have HBE := hide (fun W (k : Sl W A5 (iv l)) => by have := bitsErr_ref A5 c5 l W k (by omega); rw [hbt, hn] at this; exact this)
  have HCA := hide (show ∀ W, Sl W A1 (iv Ta) → Sl W A2 (iv Ba) → Calls Try.prog 8 #[.agg (rgA La A1 A2 m1 m2 c1 c2)] W fun e w' => ∃ A1' A2' c1' c2', e = .returned (.agg (rgA La A1' A2' m1 m2 c1' c2')) ∧ Sl w' A1' (iv Ta) ∧ Sl w' A2' (iv Ba) ∧ Below W.heap.size W w' from fun W k k' => (copyReg_ref La A1 A2 m1 m2 c1 c2 Ta Ba W hm1 k hm2 k' (by omega) (by have := hra.hi; omega)).mono fun e w' ⟨A1', A2', c1', c2', h1, h2, h3, h4⟩ => ⟨A1', A2', c1', c2', h1, Sl.of_own h2, Sl.of_own h3, h4⟩)
  have HCB := hide (show ∀ W, Sl W A3 (iv Tb) → Sl W A4 (iv Bb) → Calls Try.prog 8 #[.agg (rgA Lb A3 A4 m3 m4 c3 c4)] W fun e w' => ∃ A1' A2' c1' c2', e = .returned (.agg (rgA Lb A1' A2' m3 m4 c1' c2')) ∧ Sl w' A1' (iv Tb) ∧ Sl w' A2' (iv Bb) ∧ Below W.heap.size W w' from fun W k k' => (copyReg_ref Lb A3 A4 m3 m4 c3 c4 Tb Bb W hm3 k hm4 k' (by omega) (by have := hrb.hi; omega)).mono fun e w' ⟨A1', A2', c1', c2', h1, h2, h3, h4⟩ => ⟨A1', A2', c1', c2', h1, Sl.of_own h2, Sl.of_own h3, h4⟩)
  have HCI := hide (fun A c (l' : List Int) W (hl' : l'.length = n) (k : Sl W A (iv l')) => (by have := copyInts A c l' W k (by omega); unfold RetI OwnI at this; rw [hl'] at this; exact this : Calls Try.prog 9 #[.slice A n c] W fun e w' => ∃ A' c', e = .returned (.slice A' n c') ∧ w'.ownsRow W.heap.size 3 1 (.slice A' n c') n (iv l') ∧ Below W.heap.size W w'))
  have key : ∀ (top : Nat) (LL : Int) (T B x : List Int) (m1 m2 : Nat), T.length = m1 → m2 = top + 1 → LL = (top : Int) + 1 → RgOk top T B → x.length = n → btE x = 0 → ∀ A A' A'' c c' c'' W, Sl W A (iv T) → Sl W A' (iv B) → Sl W A'' (iv x) → Calls Try.prog 7 #[.agg (rgA LL A A' m1 m2 c c'), .slice A'' n c''] W fun e w' => ∃ C q, e = .returned (.tuple #[.slice C n q, .int .i64 0]) ∧ Sl w' C (iv (scL x (fun i => itW (tpW T m1) top (wdB B (top + 1)) i % 2) n)) ∧ Below W.heap.size W w' := by
    intro top LL T B x m1 m2 e1 e2 e3 hr ex ebt A A' A'' c c' c'' W k k' k''
    subst e2 e3
    exact (scrambled_sy top A A' A'' m1 c c' n c'' T B x W e1 k k' hr ex k'' ebt).mono fun e w' ⟨C, q, h1, h2, h3⟩ => ⟨C, q, h1, Sl.of_own h2, h3⟩
  have keyq : ∀ (top k : Nat) (LL : Int) (T B : List Int) (m1 m2 : Nat), T.length = m1 → m2 = top + 1 → LL = (top : Int) + 1 → RgOk top T B → 1 ≤ k → k ≤ 400 → ∀ A A' c c' W, Sl W A (iv T) → Sl W A' (iv B) → Calls Try.prog 10 #[.agg (rgA LL A A' m1 m2 c c'), .int .i64 (k : Int)] W fun e w' => ∃ C q, e = .returned (.tuple #[.slice C k q, .int .i64 0]) ∧ Sl w' C (iv (seqW (tpW T m1) top (wdB B (top + 1)) k)) ∧ Below W.heap.size W w' := by
    intro top k LL T B m1 m2 e1 e2 e3 hr h1 h4 A A' c c' W k1 k2
    subst e2 e3
    exact (sequence_sy top A A' m1 c c' k T B W e1 k1 k2 hr h1 h4).mono fun e w' ⟨C, q, h1, h2, h3⟩ => ⟨C, q, h1, Sl.of_own h2, h3⟩
  obtain ⟨U, hU, hUn, hUb, HS1⟩ : ∃ U : List Int, U = scL l (fun i => itW (tpW Ta m1) ta (wdB Ba (ta + 1)) i % 2) n ∧ U.length = n ∧ btE U = 0 ∧ Hid (∀ A A' A'' c c' c'' W, Sl W A (iv Ta) → Sl W A' (iv Ba) → Sl W A'' (iv l) → Calls Try.prog 7 #[.agg (rgA La A A' m1 m2 c c'), .slice A'' n c''] W fun e w' => ∃ C q, e = .returned (.tuple #[.slice C n q, .int .i64 0]) ∧ Sl w' C (iv U) ∧ Below W.heap.size W w') :=
    ⟨_, rfl, by rw [scL_len]; exact hn, by rw [← hn]; exact scL_bits hbt hfa, hide (key ta La Ta Ba l m1 m2 hm1 hm2' hla hra hn hbt)⟩
  have HS2 := hide (show ∀ A A' A'' c c' c'' W, Sl W A (iv Ta) → Sl W A' (iv Ba) → Sl W A'' (iv U) → Calls Try.prog 7 #[.agg (rgA La A A' m1 m2 c c'), .slice A'' n c''] W fun e w' => ∃ C q, e = .returned (.tuple #[.slice C n q, .int .i64 0]) ∧ Sl w' C (iv l) ∧ Below W.heap.size W w' from by
    have h := key ta La Ta Ba U m1 m2 hm1 hm2' hla hra hUn hUb
    have e : scL U (fun i => itW (tpW Ta m1) ta (wdB Ba (ta + 1)) i % 2) n = l := by rw [hU, ← hn]; exact scL_twice hbt hfa
    rw [e] at h; exact h)
  obtain ⟨O, v, hOn, hOv, HS3⟩ : ∃ (O : List Int) (v : Bool), O.length = n ∧ (intsEq O l = v ∧ intsEq (seqW (tpW Ta m1) ta (wdB Ba (ta + 1)) n) (seqW (tpW Tb m3) tb (wdB Bb (tb + 1)) n) = v) ∧ Hid (∀ A A' A'' c c' c'' W, Sl W A (iv Tb) → Sl W A' (iv Bb) → Sl W A'' (iv U) → Calls Try.prog 7 #[.agg (rgA Lb A A' m3 m4 c c'), .slice A'' n c''] W fun e w' => ∃ C q, e = .returned (.tuple #[.slice C n q, .int .i64 0]) ∧ Sl w' C (iv O) ∧ Below W.heap.size W w') := by
    refine ⟨scL U (fun i => itW (tpW Tb m3) tb (wdB Bb (tb + 1)) i % 2) n, _, by rw [scL_len]; exact hUn, ⟨?_, rfl⟩, hide (key tb Lb Tb Bb U m3 m4 hm3 hm4' hlb hrb hUn hUb)⟩
    rw [hU, ← hn]; exact scL_other hbt _ _ _ _ _ _
  have HBU := hide (fun A c W (k : Sl W A (iv U)) => by have := bitsErr_ref A c U W k (by omega); rw [hUb, hUn] at this; exact this)
  have hst : ∃ x, x < 2 ^ (ta + 1) ∧ itW (tpW Ta m1) ta (wdB Ba (ta + 1)) n = x := ⟨_, itW_lt hxa n, rfl⟩
  obtain ⟨x, hx, hxe⟩ := hst
  obtain ⟨X, R, hXn, hRn, HQ1, HQ4, HQ3, HCH, HJ, HCHC⟩ : ∃ X R : List Int, X.length = n ∧ R.length = n ∧ (Hid (∀ A A' c c' W, Sl W A (iv Ta) → Sl W A' (iv Ba) → Calls Try.prog 10 #[.agg (rgA La A A' m1 m2 c c'), .int .i64 (n : Int)] W fun e w' => ∃ C q, e = .returned (.tuple #[.slice C n q, .int .i64 0]) ∧ Sl w' C (iv X) ∧ Below W.heap.size W w') ∧ X = seqW (tpW Ta m1) ta (wdB Ba (ta + 1)) n) ∧
      Hid (∀ A A' c c' W, Sl W A (iv Ta) → Sl W A' (iv (stL x (ta + 1))) → Calls Try.prog 10 #[.agg (rgA La A A' m1 m2 c c'), .int .i64 (n : Int)] W fun e w' => ∃ C q, e = .returned (.tuple #[.slice C n q, .int .i64 0]) ∧ Sl w' C (iv R) ∧ Below W.heap.size W w') ∧
      Hid (∀ A A' c c' W (M : Int), M = 2 * (n : Int) → Sl W A (iv Ta) → Sl W A' (iv Ba) → Calls Try.prog 10 #[.agg (rgA La A A' m1 m2 c c'), .int .i64 M] W fun e w' => ∃ C q, e = .returned (.tuple #[.slice C (n + n) q, .int .i64 0]) ∧ Sl w' C (iv (X ++ R)) ∧ Below W.heap.size W w') ∧
      Hid (∀ A A' c c' W, Sl W A (iv Ta) → Sl W A' (iv (stL x (ta + 1))) → Calls Try.prog 5 #[.agg (rgA La A A' m1 m2 c c')] W fun e w' => e = .returned (.int .i64 0) ∧ Below W.heap.size W w') ∧
      Hid (∀ A A' c c' W, Sl W A (iv Ta) → Sl W A' (iv Ba) → Calls Try.prog 12 #[.agg (rgA La A A' m1 m2 c c'), .int .i64 (n : Int)] W fun e w' => ∃ C C' q q', e = .returned (.tuple #[.agg (rgA La C C' m1 m2 q q'), .int .i64 0]) ∧ Sl w' C (iv Ta) ∧ Sl w' C' (iv (stL x (ta + 1))) ∧ Below W.heap.size W w') ∧
      Hid (∀ A A' c c' W, Sl W A (iv Ta) → Sl W A' (iv (stL x (ta + 1))) → Calls Try.prog 8 #[.agg (rgA La A A' m1 m2 c c')] W fun e w' => ∃ C C' q q', e = .returned (.agg (rgA La C C' m1 m2 q q')) ∧ Sl w' C (iv Ta) ∧ Sl w' C' (iv (stL x (ta + 1))) ∧ Below W.heap.size W w') := by
    have hgx := rgE_behind hga hla x
    have hrx : RgOk ta Ta (stL x (ta + 1)) := by
      obtain ⟨t', ht', hr'⟩ := rgOk_of hgx (by omega)
      obtain rfl : ta = t' := by omega
      exact hr'
    have hwx : wdB (stL x (ta + 1)) (ta + 1) = x := wdB_st hx
    refine ⟨_, seqW (tpW Ta m1) ta x n, seqW_len _ _ _ _, seqW_len _ _ _ _, ⟨hide (keyq ta n La Ta Ba m1 m2 hm1 hm2' hla hra h1n (by omega)), rfl⟩, hide ?_, hide ?_, hide ?_, hide ?_, hide ?_⟩
    · have h := keyq ta n La Ta (stL x (ta + 1)) m1 m2 hm1 hm2' hla hrx h1n (by omega)
      rw [hwx] at h; exact h
    · intro A A' c c' W M hM k k'
      have h := keyq ta (n + n) La Ta Ba m1 m2 hm1 hm2' hla hra (by omega) (by omega) A A' c c' W k k'
      rw [seqW_add, hxe, show ((n + n : Nat) : Int) = M by omega] at h; exact h
    · intro A A' c c' W k k'
      have h := checkReg_ref La A A' c c' Ta (stL x (ta + 1)) W k k' (by omega) (by rw [stL_len]; have := hra.hi; omega)
      rw [hgx, hm1, stL_len, ← hm2'] at h; exact h
    · intro A A' c c' W k k'
      have h := jumped_sy ta A A' m1 c c' n Ta Ba W hm1 k k' hra (by omega)
      rw [hxe, ← hla, ← hm2'] at h
      rw [← hm2']
      exact h.mono fun e w' ⟨C, C', q, q', h1, h2, h3, h4⟩ => ⟨C, C', q, q', h1, Sl.of_own h2, Sl.of_own h3, h4⟩
    · intro A A' c c' W k k'
      exact (copyReg_ref La A A' m1 m2 c c' Ta (stL x (ta + 1)) W hm1 k (by rw [stL_len]; exact hm2'.symm) k' (by omega) (by have := hra.hi; omega)).mono fun e w' ⟨C, C', q, q', h1, h2, h3, h4⟩ => ⟨C, C', q, q', h1, Sl.of_own h2, Sl.of_own h3, h4⟩
  obtain ⟨HQ1, hXe⟩ := HQ1
  rw [← hXe] at hOv
  obtain ⟨Y, hYn, hY, HQ2⟩ : ∃ Y : List Int, Y.length = n ∧ intsEq X Y = v ∧ Hid (∀ A A' c c' W, Sl W A (iv Tb) → Sl W A' (iv Bb) → Calls Try.prog 10 #[.agg (rgA Lb A A' m3 m4 c c'), .int .i64 (n : Int)] W fun e w' => ∃ C q, e = .returned (.tuple #[.slice C n q, .int .i64 0]) ∧ Sl w' C (iv Y) ∧ Below W.heap.size W w') :=
    ⟨_, seqW_len _ _ _ _, hOv.2, hide (keyq tb n Lb Tb Bb m3 m4 hm3 hm4' hlb hrb h1n (by omega))⟩
  have HI := hide (fun (a b : List Int) (k : Nat) (u : Bool) A B c d W (ha : a.length = k) (hb : b.length = k) (hk : k ≤ 1000) (hu : intsEq a b = u) (k1 : Sl W A (iv a)) (k2 : Sl W B (iv b)) => (by have := ints_base A B c d a b W k1 k2 (by omega) (by omega); rw [ha, hb, hu] at this; exact this : Calls Try.prog 11 #[.slice A k c, .slice B k d] W fun x w' => x = .returned (.bool u) ∧ ∃ n, w' = W.drewN n))
  have HP := hide (show l.length = n ∧ U.length = n ∧ O.length = n ∧ X.length = n ∧ Y.length = n ∧ R.length = n ∧ n ≤ 40 ∧ intsEq l l = true ∧ intsEq O l = v ∧ intsEq X Y = v ∧ intsEq (X ++ R) (X ++ R) = true ∧ (X ++ R).length = n + n from ⟨hn, hUn, hOn, hXn, hYn, hRn, h40, by simp [intsEq], hOv.1, hY, by simp [intsEq], by simp [hXn, hRn]⟩)
  have g2n : (2 : Int) * (n : Int) ≤ 80 := by omega
  clear key keyq hXe hOv hY hYn hXn hRn hU hUn hUb hOn hfa hxa hx hxe hra hrb hla hlb hga hgb hbt hm1 hm2 hm3 hm4 hn hm2' hm4' hs1 hs2 hs3 hs4 hs5
  go_enter Try.func3, Try.ntmps3
  go_wp2_with fail
  go_at_call 4
  refine (awake_sy _).mono ?_
  rintro e w1 ⟨rfl, hb⟩
  replace HT := hide (HT.out.step hb)
  clear hb
  have a0 := HT.out.now.1.1.2.cell 0
  have a1 := HT.out.now.1.1.2.cell 1
  have a2 := HT.out.now.1.1.2.cell 2
  have b0 := HT.out.now.1.2.cell 0
  have b1 := HT.out.now.1.2.cell 1
  have b2 := HT.out.now.1.2.cell 2
  simp only []
  go_wp2_with fail
  go_at_call 5
  refine (HRA.out _ HT.out.now.1.1.1.1.1.1.1 HT.out.now.1.1.1.1.1.1.2).mono ?_
  rintro e w2 ⟨rfl, hb⟩
  replace HT := hide (HT.out.step hb)
  clear hb
  clear a0 a1 a2 b0 b1 b2
  have a0 := HT.out.now.1.1.2.cell 0
  have a1 := HT.out.now.1.1.2.cell 1
  have a2 := HT.out.now.1.1.2.cell 2
  have b0 := HT.out.now.1.2.cell 0
  have b1 := HT.out.now.1.2.cell 1
  have b2 := HT.out.now.1.2.cell 2
  simp only []
  go_wp2_with fail
  go_at_call 5
  refine (HRB.out _ HT.out.now.1.1.1.1.1.2 HT.out.now.1.1.1.1.2).mono ?_
  rintro e w3 ⟨rfl, hb⟩
  replace HT := hide (HT.out.step hb)
  clear hb
  clear a0 a1 a2 b0 b1 b2
  have a0 := HT.out.now.1.1.2.cell 0
  have a1 := HT.out.now.1.1.2.cell 1
  have a2 := HT.out.now.1.1.2.cell 2
  have b0 := HT.out.now.1.2.cell 0
  have b1 := HT.out.now.1.2.cell 1
  have b2 := HT.out.now.1.2.cell 2
  simp only []
  go_wp2_with fail
  go_at_call 6
  refine (HBE.out _ HT.out.now.1.1.1.2).mono ?_
  rintro e w4 ⟨rfl, rfl⟩
  simp only []
  go_wp2_with fail
  go_at_call 8
  refine (HCA.out _ HT.out.now.1.1.1.1.1.1.1 HT.out.now.1.1.1.1.1.1.2).mono ?_
  rintro e w_p ⟨D1, D2, e1, e2, rfl, k1, k2, hb⟩
  replace HT := hide (((HT.out.step hb).and (stay_sl k1)).and (stay_sl k2))
  clear hb
  clear a0 a1 a2 b0 b1 b2
  have a0 := HT.out.now.1.1.1.1.2.cell 0
  have a1 := HT.out.now.1.1.1.1.2.cell 1
  have a2 := HT.out.now.1.1.1.1.2.cell 2
  have b0 := HT.out.now.1.1.1.2.cell 0
  have b1 := HT.out.now.1.1.1.2.cell 1
  have b2 := HT.out.now.1.1.1.2.cell 2
  simp only []
  clear k1 k2
  go_wp2_with fail
  go_at_call 9
  refine (HCI.out _ _ l _ HP.out.1 HT.out.now.1.1.1.1.1.2).mono ?_
  rintro e w_pi ⟨E, f, rfl, k1, hb⟩
  replace HT := hide ((HT.out.step hb).and (stay_sl (Sl.of_own k1)))
  clear hb
  clear a0 a1 a2 b0 b1 b2
  have a0 := HT.out.now.1.1.1.1.1.2.cell 0
  have a1 := HT.out.now.1.1.1.1.1.2.cell 1
  have a2 := HT.out.now.1.1.1.1.1.2.cell 2
  have b0 := HT.out.now.1.1.1.1.2.cell 0
  have b1 := HT.out.now.1.1.1.1.2.cell 1
  have b2 := HT.out.now.1.1.1.1.2.cell 2
  simp only []
  clear k1
  go_wp2_with fail
  go_at_call 7
  refine (HS1.out _ _ _ _ _ _ _ HT.out.now.1.1.2 HT.out.now.1.2 HT.out.now.2).mono ?_
  rintro e w_U ⟨CU, qU, rfl, k1, hb⟩
  replace HT := hide ((HT.out.step hb).and (stay_sl k1))
  clear hb
  clear a0 a1 a2 b0 b1 b2
  have a0 := HT.out.now.1.1.1.1.1.1.2.cell 0
  have a1 := HT.out.now.1.1.1.1.1.1.2.cell 1
  have a2 := HT.out.now.1.1.1.1.1.1.2.cell 2
  have b0 := HT.out.now.1.1.1.1.1.2.cell 0
  have b1 := HT.out.now.1.1.1.1.1.2.cell 1
  have b2 := HT.out.now.1.1.1.1.1.2.cell 2
  simp only []
  clear k1
  go_wp2_with fail
  go_at_call 6
  refine (HBU.out _ _ _ HT.out.now.2).mono ?_
  rintro e w5 ⟨rfl, rfl⟩
  simp only []
  go_wp2_with fail
  go_at_call 8
  refine (HCA.out _ HT.out.now.1.1.1.1.1.1.1.1.1.1.1 HT.out.now.1.1.1.1.1.1.1.1.1.1.2).mono ?_
  rintro e w_r ⟨D1, D2, e1, e2, rfl, k1, k2, hb⟩
  replace HT := hide (((HT.out.step hb).and (stay_sl k1)).and (stay_sl k2))
  clear hb
  clear a0 a1 a2 b0 b1 b2
  have a0 := HT.out.now.1.1.1.1.1.1.1.1.2.cell 0
  have a1 := HT.out.now.1.1.1.1.1.1.1.1.2.cell 1
  have a2 := HT.out.now.1.1.1.1.1.1.1.1.2.cell 2
  have b0 := HT.out.now.1.1.1.1.1.1.1.2.cell 0
  have b1 := HT.out.now.1.1.1.1.1.1.1.2.cell 1
  have b2 := HT.out.now.1.1.1.1.1.1.1.2.cell 2
  simp only []
  clear k1 k2
  go_wp2_with fail
  go_at_call 10
  refine (HQ1.out _ _ _ _ _ HT.out.now.1.2 HT.out.now.2).mono ?_
  rintro e w_X ⟨CX, qX, rfl, k1, hb⟩
  replace HT := hide ((HT.out.step hb).and (stay_sl k1))
  clear hb
  clear a0 a1 a2 b0 b1 b2
  have a0 := HT.out.now.1.1.1.1.1.1.1.1.1.2.cell 0
  have a1 := HT.out.now.1.1.1.1.1.1.1.1.1.2.cell 1
  have a2 := HT.out.now.1.1.1.1.1.1.1.1.1.2.cell 2
  have b0 := HT.out.now.1.1.1.1.1.1.1.1.2.cell 0
  have b1 := HT.out.now.1.1.1.1.1.1.1.1.2.cell 1
  have b2 := HT.out.now.1.1.1.1.1.1.1.1.2.cell 2
  simp only []
  clear k1
  go_wp2_with fail
  go_at_call 8
  refine (HCB.out _ HT.out.now.1.1.1.1.1.1.1.1.1.1.1.1.2 HT.out.now.1.1.1.1.1.1.1.1.1.1.1.2).mono ?_
  rintro e w_sb ⟨D1, D2, e1, e2, rfl, k1, k2, hb⟩
  replace HT := hide (((HT.out.step hb).and (stay_sl k1)).and (stay_sl k2))
  clear hb
  clear a0 a1 a2 b0 b1 b2
  have a0 := HT.out.now.1.1.1.1.1.1.1.1.1.1.1.2.cell 0
  have a1 := HT.out.now.1.1.1.1.1.1.1.1.1.1.1.2.cell 1
  have a2 := HT.out.now.1.1.1.1.1.1.1.1.1.1.1.2.cell 2
  have b0 := HT.out.now.1.1.1.1.1.1.1.1.1.1.2.cell 0
  have b1 := HT.out.now.1.1.1.1.1.1.1.1.1.1.2.cell 1
  have b2 := HT.out.now.1.1.1.1.1.1.1.1.1.1.2.cell 2
  simp only []
  clear k1 k2
  go_wp2_with fail
  go_at_call 10
  refine (HQ2.out _ _ _ _ _ HT.out.now.1.2 HT.out.now.2).mono ?_
  rintro e w_Y ⟨CY, qY, rfl, k1, hb⟩
  replace HT := hide ((HT.out.step hb).and (stay_sl k1))
  clear hb
  clear a0 a1 a2 b0 b1 b2
  have a0 := HT.out.now.1.1.1.1.1.1.1.1.1.1.1.1.2.cell 0
  have a1 := HT.out.now.1.1.1.1.1.1.1.1.1.1.1.1.2.cell 1
  have a2 := HT.out.now.1.1.1.1.1.1.1.1.1.1.1.1.2.cell 2
  have b0 := HT.out.now.1.1.1.1.1.1.1.1.1.1.1.2.cell 0
  have b1 := HT.out.now.1.1.1.1.1.1.1.1.1.1.1.2.cell 1
  have b2 := HT.out.now.1.1.1.1.1.1.1.1.1.1.1.2.cell 2
  simp only []
  clear k1
  go_wp2_with fail
  go_at_call 8
  refine (HCA.out _ HT.out.now.1.1.1.1.1.1.1.1.1.1.1.1.1.1.1.1.1 HT.out.now.1.1.1.1.1.1.1.1.1.1.1.1.1.1.1.1.2).mono ?_
  rintro e w_t ⟨D1, D2, e1, e2, rfl, k1, k2, hb⟩
  replace HT := hide (((HT.out.step hb).and (stay_sl k1)).and (stay_sl k2))
  clear hb
  clear a0 a1 a2 b0 b1 b2
  have a0 := HT.out.now.1.1.1.1.1.1.1.1.1.1.1.1.1.1.2.cell 0
  have a1 := HT.out.now.1.1.1.1.1.1.1.1.1.1.1.1.1.1.2.cell 1
  have a2 := HT.out.now.1.1.1.1.1.1.1.1.1.1.1.1.1.1.2.cell 2
  have b0 := HT.out.now.1.1.1.1.1.1.1.1.1.1.1.1.1.2.cell 0
  have b1 := HT.out.now.1.1.1.1.1.1.1.1.1.1.1.1.1.2.cell 1
  have b2 := HT.out.now.1.1.1.1.1.1.1.1.1.1.1.1.1.2.cell 2
  simp only []
  clear k1 k2
  go_wp2_with fail
  go_at_call 9
  refine (HCI.out _ _ U _ HP.out.2.1 HT.out.now.1.1.1.1.1.1.1.1.2).mono ?_
  rintro e w_ti ⟨E, f, rfl, k1, hb⟩
  replace HT := hide ((HT.out.step hb).and (stay_sl (Sl.of_own k1)))
  clear hb
  clear a0 a1 a2 b0 b1 b2
  have a0 := HT.out.now.1.1.1.1.1.1.1.1.1.1.1.1.1.1.1.2.cell 0
  have a1 := HT.out.now.1.1.1.1.1.1.1.1.1.1.1.1.1.1.1.2.cell 1
  have a2 := HT.out.now.1.1.1.1.1.1.1.1.1.1.1.1.1.1.1.2.cell 2
  have b0 := HT.out.now.1.1.1.1.1.1.1.1.1.1.1.1.1.1.2.cell 0
  have b1 := HT.out.now.1.1.1.1.1.1.1.1.1.1.1.1.1.1.2.cell 1
  have b2 := HT.out.now.1.1.1.1.1.1.1.1.1.1.1.1.1.1.2.cell 2
  simp only []
  clear k1
  go_wp2_with fail
  go_at_call 7
  refine (HS2.out _ _ _ _ _ _ _ HT.out.now.1.1.2 HT.out.now.1.2 HT.out.now.2).mono ?_
  rintro e w_W ⟨CW, qW, rfl, k1, hb⟩
  replace HT := hide ((HT.out.step hb).and (stay_sl k1))
  clear hb
  clear a0 a1 a2 b0 b1 b2
  have a0 := HT.out.now.1.1.1.1.1.1.1.1.1.1.1.1.1.1.1.1.2.cell 0
  have a1 := HT.out.now.1.1.1.1.1.1.1.1.1.1.1.1.1.1.1.1.2.cell 1
  have a2 := HT.out.now.1.1.1.1.1.1.1.1.1.1.1.1.1.1.1.1.2.cell 2
  have b0 := HT.out.now.1.1.1.1.1.1.1.1.1.1.1.1.1.1.1.2.cell 0
  have b1 := HT.out.now.1.1.1.1.1.1.1.1.1.1.1.1.1.1.1.2.cell 1
  have b2 := HT.out.now.1.1.1.1.1.1.1.1.1.1.1.1.1.1.1.2.cell 2
  simp only []
  clear k1
  go_wp2_with fail
  go_at_call 8
  refine (HCB.out _ HT.out.now.1.1.1.1.1.1.1.1.1.1.1.1.1.1.1.1.1.1.1.2 HT.out.now.1.1.1.1.1.1.1.1.1.1.1.1.1.1.1.1.1.1.2).mono ?_
  rintro e w_u ⟨D1, D2, e1, e2, rfl, k1, k2, hb⟩
  replace HT := hide (((HT.out.step hb).and (stay_sl k1)).and (stay_sl k2))
  clear hb
  clear a0 a1 a2 b0 b1 b2
  have a0 := HT.out.now.1.1.1.1.1.1.1.1.1.1.1.1.1.1.1.1.1.1.2.cell 0
  have a1 := HT.out.now.1.1.1.1.1.1.1.1.1.1.1.1.1.1.1.1.1.1.2.cell 1
  have a2 := HT.out.now.1.1.1.1.1.1.1.1.1.1.1.1.1.1.1.1.1.1.2.cell 2
  have b0 := HT.out.now.1.1.1.1.1.1.1.1.1.1.1.1.1.1.1.1.1.2.cell 0
  have b1 := HT.out.now.1.1.1.1.1.1.1.1.1.1.1.1.1.1.1.1.1.2.cell 1
  have b2 := HT.out.now.1.1.1.1.1.1.1.1.1.1.1.1.1.1.1.1.1.2.cell 2
  simp only []
  clear k1 k2
  go_wp2_with fail
  go_at_call 9
  refine (HCI.out _ _ U _ HP.out.2.1 HT.out.now.1.1.1.1.1.1.1.1.1.1.1.1.2).mono ?_
  rintro e w_ui ⟨E, f, rfl, k1, hb⟩
  replace HT := hide ((HT.out.step hb).and (stay_sl (Sl.of_own k1)))
  clear hb
  clear a0 a1 a2 b0 b1 b2
  have a0 := HT.out.now.1.1.1.1.1.1.1.1.1.1.1.1.1.1.1.1.1.1.1.2.cell 0
  have a1 := HT.out.now.1.1.1.1.1.1.1.1.1.1.1.1.1.1.1.1.1.1.1.2.cell 1
  have a2 := HT.out.now.1.1.1.1.1.1.1.1.1.1.1.1.1.1.1.1.1.1.1.2.cell 2
  have b0 := HT.out.now.1.1.1.1.1.1.1.1.1.1.1.1.1.1.1.1.1.1.2.cell 0
  have b1 := HT.out.now.1.1.1.1.1.1.1.1.1.1.1.1.1.1.1.1.1.1.2.cell 1
  have b2 := HT.out.now.1.1.1.1.1.1.1.1.1.1.1.1.1.1.1.1.1.1.2.cell 2
  simp only []
  clear k1
  go_wp2_with fail
  go_at_call 7
  refine (HS3.out _ _ _ _ _ _ _ HT.out.now.1.1.2 HT.out.now.1.2 HT.out.now.2).mono ?_
  rintro e w_O ⟨CO, qO, rfl, k1, hb⟩
  replace HT := hide ((HT.out.step hb).and (stay_sl k1))
  clear hb
  clear a0 a1 a2 b0 b1 b2
  have a0 := HT.out.now.1.1.1.1.1.1.1.1.1.1.1.1.1.1.1.1.1.1.1.1.2.cell 0
  have a1 := HT.out.now.1.1.1.1.1.1.1.1.1.1.1.1.1.1.1.1.1.1.1.1.2.cell 1
  have a2 := HT.out.now.1.1.1.1.1.1.1.1.1.1.1.1.1.1.1.1.1.1.1.1.2.cell 2
  have b0 := HT.out.now.1.1.1.1.1.1.1.1.1.1.1.1.1.1.1.1.1.1.1.2.cell 0
  have b1 := HT.out.now.1.1.1.1.1.1.1.1.1.1.1.1.1.1.1.1.1.1.1.2.cell 1
  have b2 := HT.out.now.1.1.1.1.1.1.1.1.1.1.1.1.1.1.1.1.1.1.1.2.cell 2
  simp only []
  clear k1
  go_wp2_with fail
  go_at_call 11
  refine (HI.out l l n true _ _ _ _ _ HP.out.1 HP.out.1 (by have := HP.out.2.2.2.2.2.2.1; omega) HP.out.2.2.2.2.2.2.2.1 HT.out.now.1.1.1.1.2 HT.out.now.1.1.1.1.1.1.1.1.1.1.1.1.1.1.1.1.1.1.1.1.1.2).mono ?_
  rintro e g1 ⟨rfl, zg1, hz⟩
  have hb := hide (show Below w_O.heap.size w_O g1 from by rw [hz]; exact below_drewN (Below.refl _ _) _)
  clear hz
  replace HT := hide (HT.out.step hb.out)
  clear hb
  clear a0 a1 a2 b0 b1 b2
  have a0 := HT.out.now.1.1.1.1.1.1.1.1.1.1.1.1.1.1.1.1.1.1.1.1.2.cell 0
  have a1 := HT.out.now.1.1.1.1.1.1.1.1.1.1.1.1.1.1.1.1.1.1.1.1.2.cell 1
  have a2 := HT.out.now.1.1.1.1.1.1.1.1.1.1.1.1.1.1.1.1.1.1.1.1.2.cell 2
  have b0 := HT.out.now.1.1.1.1.1.1.1.1.1.1.1.1.1.1.1.1.1.1.1.2.cell 0
  have b1 := HT.out.now.1.1.1.1.1.1.1.1.1.1.1.1.1.1.1.1.1.1.1.2.cell 1
  have b2 := HT.out.now.1.1.1.1.1.1.1.1.1.1.1.1.1.1.1.1.1.1.1.2.cell 2
  simp only []
  go_wp2_with fail
  go_at_call 11
  refine (HI.out O l n v _ _ _ _ _ HP.out.2.2.1 HP.out.1 (by have := HP.out.2.2.2.2.2.2.1; omega) HP.out.2.2.2.2.2.2.2.2.1 HT.out.now.2 HT.out.now.1.1.1.1.1.1.1.1.1.1.1.1.1.1.1.1.1.1.1.1.1.2).mono ?_
  rintro e g2 ⟨rfl, zg2, hz⟩
  have hb := hide (show Below g1.heap.size g1 g2 from by rw [hz]; exact below_drewN (Below.refl _ _) _)
  clear hz
  replace HT := hide (HT.out.step hb.out)
  clear hb
  clear a0 a1 a2 b0 b1 b2
  have a0 := HT.out.now.1.1.1.1.1.1.1.1.1.1.1.1.1.1.1.1.1.1.1.1.2.cell 0
  have a1 := HT.out.now.1.1.1.1.1.1.1.1.1.1.1.1.1.1.1.1.1.1.1.1.2.cell 1
  have a2 := HT.out.now.1.1.1.1.1.1.1.1.1.1.1.1.1.1.1.1.1.1.1.1.2.cell 2
  have b0 := HT.out.now.1.1.1.1.1.1.1.1.1.1.1.1.1.1.1.1.1.1.1.2.cell 0
  have b1 := HT.out.now.1.1.1.1.1.1.1.1.1.1.1.1.1.1.1.1.1.1.1.2.cell 1
  have b2 := HT.out.now.1.1.1.1.1.1.1.1.1.1.1.1.1.1.1.1.1.1.1.2.cell 2
  simp only []
  go_wp2_with fail
  go_at_call 11
  refine (HI.out X Y n v _ _ _ _ _ HP.out.2.2.2.1 HP.out.2.2.2.2.1 (by have := HP.out.2.2.2.2.2.2.1; omega) HP.out.2.2.2.2.2.2.2.2.2.1 HT.out.now.1.1.1.1.1.1.1.1.1.1.1.2 HT.out.now.1.1.1.1.1.1.1.1.2).mono ?_
  rintro e g3 ⟨rfl, zg3, hz⟩
  have hb := hide (show Below g2.heap.size g2 g3 from by rw [hz]; exact below_drewN (Below.refl _ _) _)
  clear hz
  replace HT := hide (HT.out.step hb.out)
  clear hb
  clear a0 a1 a2 b0 b1 b2
  have a0 := HT.out.now.1.1.1.1.1.1.1.1.1.1.1.1.1.1.1.1.1.1.1.1.2.cell 0
  have a1 := HT.out.now.1.1.1.1.1.1.1.1.1.1.1.1.1.1.1.1.1.1.1.1.2.cell 1
  have a2 := HT.out.now.1.1.1.1.1.1.1.1.1.1.1.1.1.1.1.1.1.1.1.1.2.cell 2
  have b0 := HT.out.now.1.1.1.1.1.1.1.1.1.1.1.1.1.1.1.1.1.1.1.2.cell 0
  have b1 := HT.out.now.1.1.1.1.1.1.1.1.1.1.1.1.1.1.1.1.1.1.1.2.cell 1
  have b2 := HT.out.now.1.1.1.1.1.1.1.1.1.1.1.1.1.1.1.1.1.1.1.2.cell 2
  simp only []
  go_wp2_with fail
  go_at_call 8
  refine (HCA.out _ HT.out.now.1.1.1.1.1.1.1.1.1.1.1.1.1.1.1.1.1.1.1.1.1.1.1.1.1 HT.out.now.1.1.1.1.1.1.1.1.1.1.1.1.1.1.1.1.1.1.1.1.1.1.1.1.2).mono ?_
  rintro e w_x ⟨D1, D2, e1, e2, rfl, k1, k2, hb⟩
  replace HT := hide (((HT.out.step hb).and (stay_sl k1)).and (stay_sl k2))
  clear hb
  clear a0 a1 a2 b0 b1 b2
  have a0 := HT.out.now.1.1.1.1.1.1.1.1.1.1.1.1.1.1.1.1.1.1.1.1.1.1.2.cell 0
  have a1 := HT.out.now.1.1.1.1.1.1.1.1.1.1.1.1.1.1.1.1.1.1.1.1.1.1.2.cell 1
  have a2 := HT.out.now.1.1.1.1.1.1.1.1.1.1.1.1.1.1.1.1.1.1.1.1.1.1.2.cell 2
  have b0 := HT.out.now.1.1.1.1.1.1.1.1.1.1.1.1.1.1.1.1.1.1.1.1.1.2.cell 0
  have b1 := HT.out.now.1.1.1.1.1.1.1.1.1.1.1.1.1.1.1.1.1.1.1.1.1.2.cell 1
  have b2 := HT.out.now.1.1.1.1.1.1.1.1.1.1.1.1.1.1.1.1.1.1.1.1.1.2.cell 2
  simp only []
  clear k1 k2
  go_wp2_with fail
  go_at_call 10
  refine (HQ3.out _ _ _ _ _ _ (by go_num) HT.out.now.1.2 HT.out.now.2).mono ?_
  rintro e w_Z ⟨CZ, qZ, rfl, k1, hb⟩
  replace HT := hide ((HT.out.step hb).and (stay_sl k1))
  clear hb
  clear a0 a1 a2 b0 b1 b2
  have a0 := HT.out.now.1.1.1.1.1.1.1.1.1.1.1.1.1.1.1.1.1.1.1.1.1.1.1.2.cell 0
  have a1 := HT.out.now.1.1.1.1.1.1.1.1.1.1.1.1.1.1.1.1.1.1.1.1.1.1.1.2.cell 1
  have a2 := HT.out.now.1.1.1.1.1.1.1.1.1.1.1.1.1.1.1.1.1.1.1.1.1.1.1.2.cell 2
  have b0 := HT.out.now.1.1.1.1.1.1.1.1.1.1.1.1.1.1.1.1.1.1.1.1.1.1.2.cell 0
  have b1 := HT.out.now.1.1.1.1.1.1.1.1.1.1.1.1.1.1.1.1.1.1.1.1.1.1.2.cell 1
  have b2 := HT.out.now.1.1.1.1.1.1.1.1.1.1.1.1.1.1.1.1.1.1.1.1.1.1.2.cell 2
  simp only []
  clear k1
  go_wp2_with fail
  go_at_call 8
  refine (HCA.out _ HT.out.now.1.1.1.1.1.1.1.1.1.1.1.1.1.1.1.1.1.1.1.1.1.1.1.1.1.1.1.1 HT.out.now.1.1.1.1.1.1.1.1.1.1.1.1.1.1.1.1.1.1.1.1.1.1.1.1.1.1.1.2).mono ?_
  rintro e w_y ⟨D1, D2, e1, e2, rfl, k1, k2, hb⟩
  replace HT := hide (((HT.out.step hb).and (stay_sl k1)).and (stay_sl k2))
  clear hb
  clear a0 a1 a2 b0 b1 b2
  have a0 := HT.out.now.1.1.1.1.1.1.1.1.1.1.1.1.1.1.1.1.1.1.1.1.1.1.1.1.1.2.cell 0
  have a1 := HT.out.now.1.1.1.1.1.1.1.1.1.1.1.1.1.1.1.1.1.1.1.1.1.1.1.1.1.2.cell 1
  have a2 := HT.out.now.1.1.1.1.1.1.1.1.1.1.1.1.1.1.1.1.1.1.1.1.1.1.1.1.1.2.cell 2
  have b0 := HT.out.now.1.1.1.1.1.1.1.1.1.1.1.1.1.1.1.1.1.1.1.1.1.1.1.1.2.cell 0
  have b1 := HT.out.now.1.1.1.1.1.1.1.1.1.1.1.1.1.1.1.1.1.1.1.1.1.1.1.1.2.cell 1
  have b2 := HT.out.now.1.1.1.1.1.1.1.1.1.1.1.1.1.1.1.1.1.1.1.1.1.1.1.1.2.cell 2
  simp only []
  clear k1 k2
  go_wp2_with fail
  go_at_call 12
  refine (HJ.out _ _ _ _ _ HT.out.now.1.2 HT.out.now.2).mono ?_
  rintro e w_J ⟨J1, J2, j1, j2, rfl, k1, k2, hb⟩
  replace HT := hide (((HT.out.step hb).and (stay_sl k1)).and (stay_sl k2))
  clear hb
  clear a0 a1 a2 b0 b1 b2
  have a0 := HT.out.now.1.1.1.1.1.1.1.1.1.1.1.1.1.1.1.1.1.1.1.1.1.1.1.1.1.1.1.2.cell 0
  have a1 := HT.out.now.1.1.1.1.1.1.1.1.1.1.1.1.1.1.1.1.1.1.1.1.1.1.1.1.1.1.1.2.cell 1
  have a2 := HT.out.now.1.1.1.1.1.1.1.1.1.1.1.1.1.1.1.1.1.1.1.1.1.1.1.1.1.1.1.2.cell 2
  have b0 := HT.out.now.1.1.1.1.1.1.1.1.1.1.1.1.1.1.1.1.1.1.1.1.1.1.1.1.1.1.2.cell 0
  have b1 := HT.out.now.1.1.1.1.1.1.1.1.1.1.1.1.1.1.1.1.1.1.1.1.1.1.1.1.1.1.2.cell 1
  have b2 := HT.out.now.1.1.1.1.1.1.1.1.1.1.1.1.1.1.1.1.1.1.1.1.1.1.1.1.1.1.2.cell 2
  simp only []
  clear k1 k2
  go_wp2_with fail
  replace HT := hide ((HT.out.alloc (.cells #[.int .i64 La, .slice J1 m1 j1, .slice J2 m2 j2] 24)).and (stay_blk (Blk.new w_J 24 #[.int .i64 La, .slice J1 m1 j1, .slice J2 m2 j2])))
  clear a0 a1 a2 b0 b1 b2
  have a0 := HT.out.now.1.1.1.1.1.1.1.1.1.1.1.1.1.1.1.1.1.1.1.1.1.1.1.1.1.1.1.1.2.cell 0
  have a1 := HT.out.now.1.1.1.1.1.1.1.1.1.1.1.1.1.1.1.1.1.1.1.1.1.1.1.1.1.1.1.1.2.cell 1
  have a2 := HT.out.now.1.1.1.1.1.1.1.1.1.1.1.1.1.1.1.1.1.1.1.1.1.1.1.1.1.1.1.1.2.cell 2
  have b0 := HT.out.now.1.1.1.1.1.1.1.1.1.1.1.1.1.1.1.1.1.1.1.1.1.1.1.1.1.1.1.2.cell 0
  have b1 := HT.out.now.1.1.1.1.1.1.1.1.1.1.1.1.1.1.1.1.1.1.1.1.1.1.1.1.1.1.1.2.cell 1
  have b2 := HT.out.now.1.1.1.1.1.1.1.1.1.1.1.1.1.1.1.1.1.1.1.1.1.1.1.1.1.1.1.2.cell 2
  have d0 := HT.out.now.2.cell 0
  have d1 := HT.out.now.2.cell 1
  have d2 := HT.out.now.2.cell 2
  go_at_call 5
  refine (HCH.out _ _ _ _ _ HT.out.now.1.1.2 HT.out.now.1.2).mono ?_
  rintro e w_h ⟨rfl, hb⟩
  replace HT := hide (HT.out.step hb)
  clear hb
  clear a0 a1 a2 b0 b1 b2 d0 d1 d2
  have a0 := HT.out.now.1.1.1.1.1.1.1.1.1.1.1.1.1.1.1.1.1.1.1.1.1.1.1.1.1.1.1.1.2.cell 0
  have a1 := HT.out.now.1.1.1.1.1.1.1.1.1.1.1.1.1.1.1.1.1.1.1.1.1.1.1.1.1.1.1.1.2.cell 1
  have a2 := HT.out.now.1.1.1.1.1.1.1.1.1.1.1.1.1.1.1.1.1.1.1.1.1.1.1.1.1.1.1.1.2.cell 2
  have b0 := HT.out.now.1.1.1.1.1.1.1.1.1.1.1.1.1.1.1.1.1.1.1.1.1.1.1.1.1.1.1.2.cell 0
  have b1 := HT.out.now.1.1.1.1.1.1.1.1.1.1.1.1.1.1.1.1.1.1.1.1.1.1.1.1.1.1.1.2.cell 1
  have b2 := HT.out.now.1.1.1.1.1.1.1.1.1.1.1.1.1.1.1.1.1.1.1.1.1.1.1.1.1.1.1.2.cell 2
  have d0 := HT.out.now.2.cell 0
  have d1 := HT.out.now.2.cell 1
  have d2 := HT.out.now.2.cell 2
  simp only []
  go_wp2_with fail
  go_at_call 8
  refine (HCHC.out _ _ _ _ _ HT.out.now.1.1.2 HT.out.now.1.2).mono ?_
  rintro e w_k ⟨D1, D2, e1, e2, rfl, k1, k2, hb⟩
  replace HT := hide (((HT.out.step hb).and (stay_sl k1)).and (stay_sl k2))
  clear hb
  clear a0 a1 a2 b0 b1 b2 d0 d1 d2
  have a0 := HT.out.now.1.1.1.1.1.1.1.1.1.1.1.1.1.1.1.1.1.1.1.1.1.1.1.1.1.1.1.1.1.1.2.cell 0
  have a1 := HT.out.now.1.1.1.1.1.1.1.1.1.1.1.1.1.1.1.1.1.1.1.1.1.1.1.1.1.1.1.1.1.1.2.cell 1
  have a2 := HT.out.now.1.1.1.1.1.1.1.1.1.1.1.1.1.1.1.1.1.1.1.1.1.1.1.1.1.1.1.1.1.1.2.cell 2
  have b0 := HT.out.now.1.1.1.1.1.1.1.1.1.1.1.1.1.1.1.1.1.1.1.1.1.1.1.1.1.1.1.1.1.2.cell 0
  have b1 := HT.out.now.1.1.1.1.1.1.1.1.1.1.1.1.1.1.1.1.1.1.1.1.1.1.1.1.1.1.1.1.1.2.cell 1
  have b2 := HT.out.now.1.1.1.1.1.1.1.1.1.1.1.1.1.1.1.1.1.1.1.1.1.1.1.1.1.1.1.1.1.2.cell 2
  have d0 := HT.out.now.1.1.2.cell 0
  have d1 := HT.out.now.1.1.2.cell 1
  have d2 := HT.out.now.1.1.2.cell 2
  simp only []
  clear k1 k2
  go_wp2_with fail
  go_at_call 10
  refine (HQ4.out _ _ _ _ _ HT.out.now.1.2 HT.out.now.2).mono ?_
  rintro e w_R ⟨CR, qR, rfl, k1, hb⟩
  replace HT := hide ((HT.out.step hb).and (stay_sl k1))
  clear hb
  clear a0 a1 a2 b0 b1 b2 d0 d1 d2
  have a0 := HT.out.now.1.1.1.1.1.1.1.1.1.1.1.1.1.1.1.1.1.1.1.1.1.1.1.1.1.1.1.1.1.1.1.2.cell 0
  have a1 := HT.out.now.1.1.1.1.1.1.1.1.1.1.1.1.1.1.1.1.1.1.1.1.1.1.1.1.1.1.1.1.1.1.1.2.cell 1
  have a2 := HT.out.now.1.1.1.1.1.1.1.1.1.1.1.1.1.1.1.1.1.1.1.1.1.1.1.1.1.1.1.1.1.1.1.2.cell 2
  have b0 := HT.out.now.1.1.1.1.1.1.1.1.1.1.1.1.1.1.1.1.1.1.1.1.1.1.1.1.1.1.1.1.1.1.2.cell 0
  have b1 := HT.out.now.1.1.1.1.1.1.1.1.1.1.1.1.1.1.1.1.1.1.1.1.1.1.1.1.1.1.1.1.1.1.2.cell 1
  have b2 := HT.out.now.1.1.1.1.1.1.1.1.1.1.1.1.1.1.1.1.1.1.1.1.1.1.1.1.1.1.1.1.1.1.2.cell 2
  have d0 := HT.out.now.1.1.1.2.cell 0
  have d1 := HT.out.now.1.1.1.2.cell 1
  have d2 := HT.out.now.1.1.1.2.cell 2
  simp only []
  clear k1
  go_wp2_with fail
  go_at_call 9
  refine (HCI.out _ _ X _ HP.out.2.2.2.1 HT.out.now.1.1.1.1.1.1.1.1.1.1.1.1.1.1.1.1.1.1.1.1.1.1.2).mono ?_
  rintro e w_v ⟨E, f, rfl, ho, hb⟩
  have HB := hide hb
  have HO := hide ho
  have HR := hide (Sl.reads (HT.out _ hb |>.2 : Sl w_v CR (iv R)))
  clear ho hb
  clear a0 a1 a2 b0 b1 b2 d0 d1 d2
  simp only []
  obtain ⟨i0, hi0, hz0, hz1, hz2⟩ := info_parts int_info
  have HL := hide (show (iv R).length = n from by rw [iv_length]; exact HP.out.2.2.2.2.2.1)
  have hr := HR.out
  rw [HL.out] at hr
  go_wp2_with (first
      | (at_builtin; go_loud (refine wpList_append_want (by rfl) (.tmp 191) (.tmp 192) _ rfl w_R.heap.size 3 i0 _ 1 8 Try.underlying22 hi0 hz0 hz1 hz2 rfl (by omega) _ n (iv X) rfl HO.out _ CR n qR (iv R) rfl hr (iv_one R) (by simp only [maxLen]; omega) (by omega) (by have := HB.out.size; omega) ?_; intro v1 w_a hown1 hg1 hat1; obtain ⟨A9, c9, rfl⟩ := own_form hown1; have HS9 := hide (show Sl w_a A9 (iv (X ++ R)) from by rw [iv_append]; exact Sl.of_own hown1); replace HT := hide (HT.out.step (Below.app' HB.out HO.out hg1)); clear hown1 hg1 hat1))
      | (go_at_call 11; go_loud (refine (HI.out (X ++ R) (X ++ R) (n + n) true _ _ _ _ _ HP.out.2.2.2.2.2.2.2.2.2.2.2 HP.out.2.2.2.2.2.2.2.2.2.2.2 (by have := HP.out.2.2.2.2.2.2.1; omega) HP.out.2.2.2.2.2.2.2.2.2.2.1 HT.out.now.1.1.1.1.1.1.1.1.2 HS9.out).mono ?_); rintro e w_e ⟨rfl, z9, rfl⟩; simp only []))
  go_ret
  exact ⟨rfl, below_drewN HT.out.now.1.1.1.1.1.1.1.1.1.1.1.1.1.1.1.1.1.1.1.1.1.1.1.1.1.1.1.1.1.2 z9⟩
set_option maxRecDepth 100000 in
set_option maxHeartbeats 8000000 in
theorem TopSymbolScrambled_law (La Lb : Int) (A1 A2 A3 A4 A5 : Option Addr) (c1 c2 c3 c4 c5 m1 m2 m3 m4 n : Nat) (Ta Ba Tb Bb l : List Int) (w : World) (hm1 : Ta.length = m1) (hm2 : Ba.length = m2) (hm3 : Tb.length = m3) (hm4 : Bb.length = m4) (hn : l.length = n)
    (hs1 : Sl w A1 (iv Ta)) (hs2 : Sl w A2 (iv Ba)) (hs3 : Sl w A3 (iv Tb)) (hs4 : Sl w A4 (iv Bb)) (hs5 : Sl w A5 (iv l)) :
    Calls Try.prog 3 #[.agg (rgA La A1 A2 m1 m2 c1 c2), .agg (rgA Lb A3 A4 m3 m4 c3 c4), .slice A5 n c5] w fun e w' => e = .returned (.bool true) ∧ Below w.heap.size w w' := by
  have HT := hide (((((((((stay_sl (((hs1).alloc (.cells #[.int .i64 La, .slice A1 m1 c1, .slice A2 m2 c2] 24)).alloc (.cells #[.int .i64 Lb, .slice A3 m3 c3, .slice A4 m4 c4] 24))).and (stay_sl (((hs2).alloc (.cells #[.int .i64 La, .slice A1 m1 c1, .slice A2 m2 c2] 24)).alloc (.cells #[.int .i64 Lb, .slice A3 m3 c3, .slice A4 m4 c4] 24)))).and (stay_sl (((hs3).alloc (.cells #[.int .i64 La, .slice A1 m1 c1, .slice A2 m2 c2] 24)).alloc (.cells #[.int .i64 Lb, .slice A3 m3 c3, .slice A4 m4 c4] 24)))).and (stay_sl (((hs4).alloc (.cells #[.int .i64 La, .slice A1 m1 c1, .slice A2 m2 c2] 24)).alloc (.cells #[.int .i64 Lb, .slice A3 m3 c3, .slice A4 m4 c4] 24)))).and (stay_sl (((hs5).alloc (.cells #[.int .i64 La, .slice A1 m1 c1, .slice A2 m2 c2] 24)).alloc (.cells #[.int .i64 Lb, .slice A3 m3 c3, .slice A4 m4 c4] 24)))).and (stay_blk ((Blk.new w 24 #[.int .i64 La, .slice A1 m1 c1, .slice A2 m2 c2]).alloc (.cells #[.int .i64 Lb, .slice A3 m3 c3, .slice A4 m4 c4] 24)))).and (stay_blk (Blk.newN (w.alloc (.cells #[.int .i64 La, .slice A1 m1 c1, .slice A2 m2 c2] 24)) 24 #[.int .i64 Lb, .slice A3 m3 c3, .slice A4 m4 c4] (by simp : (w.alloc (.cells #[.int .i64 La, .slice A1 m1 c1, .slice A2 m2 c2] 24)).heap.size = w.heap.size + 1)))).and (stay_below (show Below w.heap.size w ((w.alloc (.cells #[.int .i64 La, .slice A1 m1 c1, .slice A2 m2 c2] 24)).alloc (.cells #[.int .i64 Lb, .slice A3 m3 c3, .slice A4 m4 c4] 24)) from ((Below.refl _ _).alloc (Nat.le_refl _) _).alloc (by simp) _))))
  by_cases h1 : 12 < m1
  · skip
    clear hs1 hs2 hs3 hs4 hs5 hm1 hm2 hm3 hm4 hn
    go_enter Try.func3, Try.ntmps3
    go_wp2_with (first
          | (go_at_call 4; go_must (refine (awake_sy _).mono ?_; rintro e w1 ⟨rfl, hb⟩; replace HT := hide (HT.out.step hb); have a0 := HT.out.now.1.1.2.cell 0; have a1 := HT.out.now.1.1.2.cell 1; have a2 := HT.out.now.1.1.2.cell 2; have b0 := HT.out.now.1.2.cell 0; have b1 := HT.out.now.1.2.cell 1; have b2 := HT.out.now.1.2.cell 2; have HK1 := hide hb; clear hb; simp only [])))
    go_ret
    exact ⟨rfl, HT.out.now.2⟩
  replace h1 : m1 ≤ 12 := by omega
  by_cases h2 : 12 < m2
  · skip
    clear hs1 hs2 hs3 hs4 hs5 hm1 hm2 hm3 hm4 hn
    go_enter Try.func3, Try.ntmps3
    go_wp2_with (first
          | (go_at_call 4; go_must (refine (awake_sy _).mono ?_; rintro e w1 ⟨rfl, hb⟩; replace HT := hide (HT.out.step hb); have a0 := HT.out.now.1.1.2.cell 0; have a1 := HT.out.now.1.1.2.cell 1; have a2 := HT.out.now.1.1.2.cell 2; have b0 := HT.out.now.1.2.cell 0; have b1 := HT.out.now.1.2.cell 1; have b2 := HT.out.now.1.2.cell 2; have HK1 := hide hb; clear hb; simp only [])))
    go_ret
    exact ⟨rfl, HT.out.now.2⟩
  replace h2 : m2 ≤ 12 := by omega
  by_cases h3 : 12 < m3
  · skip
    clear hs1 hs2 hs3 hs4 hs5 hm1 hm2 hm3 hm4 hn
    go_enter Try.func3, Try.ntmps3
    go_wp2_with (first
          | (go_at_call 4; go_must (refine (awake_sy _).mono ?_; rintro e w1 ⟨rfl, hb⟩; replace HT := hide (HT.out.step hb); have a0 := HT.out.now.1.1.2.cell 0; have a1 := HT.out.now.1.1.2.cell 1; have a2 := HT.out.now.1.1.2.cell 2; have b0 := HT.out.now.1.2.cell 0; have b1 := HT.out.now.1.2.cell 1; have b2 := HT.out.now.1.2.cell 2; have HK1 := hide hb; clear hb; simp only [])))
    go_ret
    exact ⟨rfl, HT.out.now.2⟩
  replace h3 : m3 ≤ 12 := by omega
  by_cases h4 : 12 < m4
  · skip
    clear hs1 hs2 hs3 hs4 hs5 hm1 hm2 hm3 hm4 hn
    go_enter Try.func3, Try.ntmps3
    go_wp2_with (first
          | (go_at_call 4; go_must (refine (awake_sy _).mono ?_; rintro e w1 ⟨rfl, hb⟩; replace HT := hide (HT.out.step hb); have a0 := HT.out.now.1.1.2.cell 0; have a1 := HT.out.now.1.1.2.cell 1; have a2 := HT.out.now.1.1.2.cell 2; have b0 := HT.out.now.1.2.cell 0; have b1 := HT.out.now.1.2.cell 1; have b2 := HT.out.now.1.2.cell 2; have HK1 := hide hb; clear hb; simp only [])))
    go_ret
    exact ⟨rfl, HT.out.now.2⟩
  replace h4 : m4 ≤ 12 := by omega
  have HRA0 := hide (fun W (k : Sl W A1 (iv Ta)) (k' : Sl W A2 (iv Ba)) => by have := checkReg_ref La A1 A2 c1 c2 Ta Ba W k k' (by omega) (by omega); rw [hm1, hm2] at this; exact this)
  have HRB0 := hide (fun W (k : Sl W A3 (iv Tb)) (k' : Sl W A4 (iv Bb)) => by have := checkReg_ref Lb A3 A4 c3 c4 Tb Bb W k k' (by omega) (by omega); rw [hm3, hm4] at this; exact this)
  obtain ⟨va, hva⟩ : ∃ va, rgE La Ta Ba = va := ⟨_, rfl⟩
  obtain ⟨vb, hvb⟩ : ∃ vb, rgE Lb Tb Bb = vb := ⟨_, rfl⟩
  have HRA := HRA0
  rw [hva] at HRA
  have HRB := HRB0
  rw [hvb] at HRB
  by_cases ga : va = 0
  rotate_left
  · have gq : (va != 0) = true := by rw [bne_iff_ne]; exact ga
    clear HRA0 HRB0 hva hvb ga
    clear hs1 hs2 hs3 hs4 hs5 hm1 hm2 hm3 hm4 hn
    go_enter Try.func3, Try.ntmps3
    go_wp2_with (first
          | (go_at_call 4; go_must (refine (awake_sy _).mono ?_; rintro e w1 ⟨rfl, hb⟩; replace HT := hide (HT.out.step hb); have a0 := HT.out.now.1.1.2.cell 0; have a1 := HT.out.now.1.1.2.cell 1; have a2 := HT.out.now.1.1.2.cell 2; have b0 := HT.out.now.1.2.cell 0; have b1 := HT.out.now.1.2.cell 1; have b2 := HT.out.now.1.2.cell 2; have HK1 := hide hb; clear hb; simp only []))
          | (go_at_call 5; refine (HRA.out _ HT.out.now.1.1.1.1.1.1.1 HT.out.now.1.1.1.1.1.1.2).mono ?_; rintro e w2 ⟨rfl, hb⟩; replace HT := hide (HT.out.step hb); have HK2 := hide hb; clear a0 a1 a2 b0 b1 b2; have a0 := HT.out.now.1.1.2.cell 0; have a1 := HT.out.now.1.1.2.cell 1; have a2 := HT.out.now.1.1.2.cell 2; have b0 := HT.out.now.1.2.cell 0; have b1 := HT.out.now.1.2.cell 1; have b2 := HT.out.now.1.2.cell 2; clear hb; simp only []))
    go_ret
    exact ⟨rfl, HT.out.now.2⟩
  subst ga
  by_cases gb : vb = 0
  rotate_left
  · have gq : (vb != 0) = true := by rw [bne_iff_ne]; exact gb
    clear HRA0 HRB0 hva hvb gb
    clear hs1 hs2 hs3 hs4 hs5 hm1 hm2 hm3 hm4 hn
    go_enter Try.func3, Try.ntmps3
    go_wp2_with (first
          | (go_at_call 4; go_must (refine (awake_sy _).mono ?_; rintro e w1 ⟨rfl, hb⟩; replace HT := hide (HT.out.step hb); have a0 := HT.out.now.1.1.2.cell 0; have a1 := HT.out.now.1.1.2.cell 1; have a2 := HT.out.now.1.1.2.cell 2; have b0 := HT.out.now.1.2.cell 0; have b1 := HT.out.now.1.2.cell 1; have b2 := HT.out.now.1.2.cell 2; have HK1 := hide hb; clear hb; simp only []))
          | (go_at_call 5; have qq := HK2; clear qq; go_must (refine (HRB.out _ HT.out.now.1.1.1.1.1.2 HT.out.now.1.1.1.1.2).mono ?_; rintro e w3 ⟨rfl, hb⟩; replace HT := hide (HT.out.step hb); clear a0 a1 a2 b0 b1 b2; have a0 := HT.out.now.1.1.2.cell 0; have a1 := HT.out.now.1.1.2.cell 1; have a2 := HT.out.now.1.1.2.cell 2; have b0 := HT.out.now.1.2.cell 0; have b1 := HT.out.now.1.2.cell 1; have b2 := HT.out.now.1.2.cell 2; clear hb; simp only []))
          | (go_at_call 5; refine (HRA.out _ HT.out.now.1.1.1.1.1.1.1 HT.out.now.1.1.1.1.1.1.2).mono ?_; rintro e w2 ⟨rfl, hb⟩; replace HT := hide (HT.out.step hb); have HK2 := hide hb; clear a0 a1 a2 b0 b1 b2; have a0 := HT.out.now.1.1.2.cell 0; have a1 := HT.out.now.1.1.2.cell 1; have a2 := HT.out.now.1.1.2.cell 2; have b0 := HT.out.now.1.2.cell 0; have b1 := HT.out.now.1.2.cell 1; have b2 := HT.out.now.1.2.cell 2; clear hb; simp only []))
    go_ret
    exact ⟨rfl, HT.out.now.2⟩
  subst gb
  by_cases h5 : 40 < n
  · clear HRA0 HRB0 hva hvb
    clear hs1 hs2 hs3 hs4 hs5 hm1 hm2 hm3 hm4 hn
    go_enter Try.func3, Try.ntmps3
    go_wp2_with (first
          | (go_at_call 4; go_must (refine (awake_sy _).mono ?_; rintro e w1 ⟨rfl, hb⟩; replace HT := hide (HT.out.step hb); have a0 := HT.out.now.1.1.2.cell 0; have a1 := HT.out.now.1.1.2.cell 1; have a2 := HT.out.now.1.1.2.cell 2; have b0 := HT.out.now.1.2.cell 0; have b1 := HT.out.now.1.2.cell 1; have b2 := HT.out.now.1.2.cell 2; have HK1 := hide hb; clear hb; simp only []))
          | (go_at_call 5; have qq := HK2; clear qq; go_must (refine (HRB.out _ HT.out.now.1.1.1.1.1.2 HT.out.now.1.1.1.1.2).mono ?_; rintro e w3 ⟨rfl, hb⟩; replace HT := hide (HT.out.step hb); clear a0 a1 a2 b0 b1 b2; have a0 := HT.out.now.1.1.2.cell 0; have a1 := HT.out.now.1.1.2.cell 1; have a2 := HT.out.now.1.1.2.cell 2; have b0 := HT.out.now.1.2.cell 0; have b1 := HT.out.now.1.2.cell 1; have b2 := HT.out.now.1.2.cell 2; clear hb; simp only []))
          | (go_at_call 5; refine (HRA.out _ HT.out.now.1.1.1.1.1.1.1 HT.out.now.1.1.1.1.1.1.2).mono ?_; rintro e w2 ⟨rfl, hb⟩; replace HT := hide (HT.out.step hb); have HK2 := hide hb; clear a0 a1 a2 b0 b1 b2; have a0 := HT.out.now.1.1.2.cell 0; have a1 := HT.out.now.1.1.2.cell 1; have a2 := HT.out.now.1.1.2.cell 2; have b0 := HT.out.now.1.2.cell 0; have b1 := HT.out.now.1.2.cell 1; have b2 := HT.out.now.1.2.cell 2; clear hb; simp only []))
    go_ret
    exact ⟨rfl, HT.out.now.2⟩
  replace h5 : n ≤ 40 := by omega
  obtain ⟨vc, hvc⟩ : ∃ vc, btE l = vc := ⟨_, rfl⟩
  have HBE := hide (fun W (k : Sl W A5 (iv l)) => by have := bitsErr_ref A5 c5 l W k (by omega); rw [hvc, hn] at this; exact this)
  by_cases gc : vc = 0
  rotate_left
  · have gq : (vc != 0) = true := by rw [bne_iff_ne]; exact gc
    clear HRA0 HRB0 hva hvb hvc gc
    clear hs1 hs2 hs3 hs4 hs5 hm1 hm2 hm3 hm4 hn
    go_enter Try.func3, Try.ntmps3
    go_wp2_with (first
          | (go_at_call 4; go_must (refine (awake_sy _).mono ?_; rintro e w1 ⟨rfl, hb⟩; replace HT := hide (HT.out.step hb); have a0 := HT.out.now.1.1.2.cell 0; have a1 := HT.out.now.1.1.2.cell 1; have a2 := HT.out.now.1.1.2.cell 2; have b0 := HT.out.now.1.2.cell 0; have b1 := HT.out.now.1.2.cell 1; have b2 := HT.out.now.1.2.cell 2; have HK1 := hide hb; clear hb; simp only []))
          | (go_at_call 5; have qq := HK2; clear qq; go_must (refine (HRB.out _ HT.out.now.1.1.1.1.1.2 HT.out.now.1.1.1.1.2).mono ?_; rintro e w3 ⟨rfl, hb⟩; replace HT := hide (HT.out.step hb); clear a0 a1 a2 b0 b1 b2; have a0 := HT.out.now.1.1.2.cell 0; have a1 := HT.out.now.1.1.2.cell 1; have a2 := HT.out.now.1.1.2.cell 2; have b0 := HT.out.now.1.2.cell 0; have b1 := HT.out.now.1.2.cell 1; have b2 := HT.out.now.1.2.cell 2; clear hb; simp only []))
          | (go_at_call 5; refine (HRA.out _ HT.out.now.1.1.1.1.1.1.1 HT.out.now.1.1.1.1.1.1.2).mono ?_; rintro e w2 ⟨rfl, hb⟩; replace HT := hide (HT.out.step hb); have HK2 := hide hb; clear a0 a1 a2 b0 b1 b2; have a0 := HT.out.now.1.1.2.cell 0; have a1 := HT.out.now.1.1.2.cell 1; have a2 := HT.out.now.1.1.2.cell 2; have b0 := HT.out.now.1.2.cell 0; have b1 := HT.out.now.1.2.cell 1; have b2 := HT.out.now.1.2.cell 2; clear hb; simp only [])
          | (go_at_call 6; go_must (refine (HBE.out _ HT.out.now.1.1.1.2).mono ?_; rintro e w4 ⟨rfl, rfl⟩; simp only [])))
    go_ret
    exact ⟨rfl, HT.out.now.2⟩
  subst gc
  obtain ⟨ta, hla, hra⟩ := rgOk_of hva (by omega)
  obtain ⟨tb, hlb, hrb⟩ := rgOk_of hvb (by omega)
  exact sym_core ta tb La Lb A1 A2 A3 A4 A5 c1 c2 c3 c4 c5 m1 m2 m3 m4 n Ta Ba Tb Bb l w hm1 hm2 hm3 hm4 hn hs1 hs2 hs3 hs4 hs5 hra hrb hla hlb hva hvb h1 h3 h5 hvc
theorem TopSymbolScrambled_lawP (La : Int) (A1 A2 : Option Addr) (c1 c2 : Nat) (Ta Ba : List Int) (Lb : Int) (A3 A4 : Option Addr) (c3 c4 : Nat) (Tb Bb : List Int) (A5 : Option Addr) (c5 : Nat) (l : List Int) (w : World)
    (hs5 : Sl w A5 (iv l)) (hs1 : Sl w A1 (iv Ta)) (hs2 : Sl w A2 (iv Ba)) (hs3 : Sl w A3 (iv Tb)) (hs4 : Sl w A4 (iv Bb)) :
    Calls Try.prog 3 #[.agg (rgA La A1 A2 Ta.length Ba.length c1 c2), .agg (rgA Lb A3 A4 Tb.length Bb.length c3 c4), .slice A5 l.length c5] w fun e w' => e = .returned (.bool true) ∧ Below w.heap.size w w' :=
  TopSymbolScrambled_law La Lb A1 A2 A3 A4 A5 c1 c2 c3 c4 c5 _ _ _ _ _ Ta Ba Tb Bb l w rfl rfl rfl rfl rfl hs1 hs2 hs3 hs4 hs5
end Go.Proofs.Ytehcmhblppjalaa
