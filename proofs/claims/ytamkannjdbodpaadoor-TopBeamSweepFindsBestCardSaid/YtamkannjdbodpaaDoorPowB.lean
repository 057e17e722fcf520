import Derived.Test.YtamkannjdbodpaaDoorBeamD
import Derived.Test.YtamkannjdbodpaaDoorGainsB
import Derived.Test.YtamkannjdbodpaaDoorChD
namespace Go.Proofs.YtamkannjdbodpaaDoor
open Go.RowKit Go.WideShapes Go.ChangeShapes Go.Shelf

/-! the antennas that are on, of so many -/
abbrev AntN (n : Nat) := { x : Nat × Int // x.1 < n ∧ 0 ≤ x.2 ∧ x.2 ≤ 7 }
def antN (l : List Int) (k : Nat) : List (AntN l.length) := if h : k < l.length ∧ 0 ≤ l[k]?.getD (-1) ∧ l[k]?.getD (-1) ≤ 7 then [⟨(k, l[k]?.getD (-1)), h⟩] else []
def onN (l : List Int) : Nat → List (AntN l.length)
  | 0 => []
  | k + 1 => onN l k ++ antN l k
theorem onN_off (l : List Int) (k : Nat) (hk : k < l.length) (h : l[k] = -1) : onN l (k + 1) = onN l k := by
  simp [onN, antN, hk, h]
theorem onN_on (l : List Int) (k : Nat) (hk : k < l.length) (hb : k < l.length ∧ 0 ≤ l[k] ∧ l[k] ≤ 7) : onN l (k + 1) = onN l k ++ [⟨(k, l[k]), hb⟩] := by
  simp [onN, antN, hk, hb]
theorem onN_len (l : List Int) (k : Nat) : (onN l k).length ≤ k := by
  induction k with
  | zero => simp [onN]
  | succ k ih => simp only [onN, List.length_append, antN]; split <;> simp <;> omega

attribute [local go_sem] Oper.semAt_some
set_option maxRecDepth 100000 in
set_option maxHeartbeats 2000000 in
theorem onN_in (F : Fence) (n : Nat) (h7 : F.fn 84) (hro : F.round = none) (hn : 1 ≤ n) (lp Bs n₀ cap : Nat) (A : Option Addr) (l : List Int) (hl : l.length ≤ 1000) (hok : OnOk l) (J Jx : List (AntN l.length) → World → Prop)
    (hY : ∀ pre x W, J pre W → pre.length < l.length → YieldAt F (n - 1) Tryd.prog lp #[.int .i64 (x.1.1 : Int), .int .i64 x.1.2] W fun e W' =>
      (e = .returned (.bool true) ∧ J (pre ++ [x]) W' ∧ Below n₀ W W') ∨ (e = .returned (.bool false) ∧ Jx (pre ++ [x]) W'))
    (W : World) (hBs : W.cell? ⟨Bs, 0, none⟩ = some (.slice A l.length cap)) (hs : Sl W A (iv l)) (hb : ∀ b off, A = some ⟨b, off, none⟩ → 0 < l.length → b < n₀) (h0 : J [] W) :
    CallsIn F n Tryd.prog 84 #[.func (.yield lp) #[] #[], .pointer (some ⟨Bs, 0, none⟩)] W fun e W' => (∃ v, e = .returned v) ∧
      ((∃ ys, ys = onN l l.length ∧ J ys W') ∨ (∃ pre, (∃ k, k ≤ l.length ∧ pre = onN l k) ∧ Jx pre W')) := by
  refine callsIn_of_wp Tryd.func84 rfl h7 ?_ hro
  simp only [Tryd.ntmps84, List.size_toArray, List.length_cons, List.length_nil, Nat.reduceAdd, Nat.reduceSub, Array.replicate_succ, Array.replicate_zero, List.push_toArray, List.append_toArray, List.nil_append, List.cons_append]
  have HS := hide hs; clear hs
  have HB := hide hb; clear hb
  have HOK := hide hok; clear hok
  gi_wp2
  gi_loopw [8] (fun i wr => ∃ k : Nat, k ≤ l.length ∧ i = .int .i64 k ∧ J (onN l k) wr ∧ Below n₀ W wr)
    (fun i _ => l.length - (intOf i).toNat)
  case atStart => exact ⟨0, Nat.zero_le _, rfl, h0, Below.refl _ _⟩
  case round =>
    obtain ⟨k, hk, rfl, hJs, hnx⟩ := hrel
    by_cases hlt : k < l.length
    · obtain ⟨b, off, rfl, hc⟩ := HS.out.int hlt
      have hcx : wr.cell? ⟨b, off + k, none⟩ = some (.int .i64 l[k]) := (hnx.cell (p := ⟨b, off + k, none⟩) (HB.out b off rfl (by omega))).trans hc
      by_cases hz : l[k] = -1
      · have hz' : (l[k] != -1) = false := by simp [hz]
        have HZ := hide hz; clear hz
        gi_wp2
        refine ⟨fun _ h => (by cases h), ?_⟩
        gi_wp2
        go_roundw
        case rel => exact ⟨k + 1, by omega, by simp, by rw [onN_off l k hlt HZ.out]; exact hJs, hnx⟩
        case measure => simp [intOf]; omega
      · have hz' : (l[k] != -1) = true := by simp [hz]
        have hv : k < l.length ∧ 0 ≤ l[k] ∧ l[k] ≤ 7 := by have := HOK.out l[k] (List.getElem_mem hlt); omega
        have HV := hide (onN_on l k hlt hv)
        clear hz
        obtain ⟨fn, tmps, assign, body, hy, hR⟩ := hY _ ⟨(k, l[k]), hv⟩ wr hJs (by have := onN_len l k; omega)
        dsimp only at hy
        gi_wp2
        refine hR.mono ?_
        rintro e W3 (⟨rfl, hJ3, hk3⟩ | ⟨rfl, hJx3⟩)
        · gi_wp2
          go_roundw
          case rel => exact ⟨k + 1, by omega, by simp, by rw [HV.out]; exact hJ3, hnx.trans hk3⟩
          case measure => simp [intOf]; omega
        · gi_wp2
          refine bodyPost_ret (results_none rfl _ _ _) rfl ?_
          exact ⟨⟨_, rfl⟩, .inr ⟨_, ⟨k + 1, by omega, HV.out.symm⟩, hJx3⟩⟩
    · obtain rfl : k = l.length := by omega
      gi_wp2
      go_end0
      exact ⟨⟨_, rfl⟩, .inl ⟨_, rfl, hJs⟩⟩

theorem onN_stops (F : Fence) (n : Nat) (h7 : F.fn 84) (hro : F.round = none) (hn : 1 ≤ n) (Bs n₀ cap : Nat) (A : Option Addr) (l : List Int) (hl : l.length ≤ 1000) (hok : OnOk l) (w : World) (hBs : Bs < w.heap.size) (_hn₀ : n₀ ≤ w.heap.size)
    (hc : w.cell? ⟨Bs, 0, none⟩ = some (.slice A l.length cap)) (hs : Sl w A (iv l)) (hb : ∀ b off, A = some ⟨b, off, none⟩ → 0 < l.length → b < n₀) :
    SeqStopsK F n Tryd.prog 84 #[.pointer (some ⟨Bs, 0, none⟩)] (fun x : AntN l.length => #[Value.int .i64 (x.1.1 : Int), Value.int .i64 x.1.2]) (Below n₀) (fun ys => ys = onN l l.length) (fun _ => True) l.length w := fun lp J Jx W hW _ _ hY h0 => by
  have hc' := (hW.cell (p := ⟨Bs, 0, none⟩) hBs).trans hc
  refine (onN_in F n h7 hro hn lp Bs n₀ cap A l hl hok J Jx hY W hc' (hs.bel hW) hb h0).mono ?_
  rintro e W' ⟨he, ⟨ys, rfl, hj⟩ | ⟨pre, _, hj⟩⟩
  · exact ⟨he, .inl ⟨_, rfl, hj⟩⟩
  · exact ⟨he, .inr ⟨_, trivial, hj⟩⟩

/-! the power of a beam for a channel -/
def numAt (h : List (Int × Int)) (i : Nat) : Int × Int := h[i]?.getD (0, 0)
def Q4.put (s : Q4) (z : Int × Int) (p : Int) : Q4 := (s.add z.1 p).add z.2 (p + 2)
def powS {n : Nat} (h : List (Int × Int)) (ps : List (AntN n)) : Q4 := ps.foldl (fun s p => s.put (numAt h p.1.1) p.1.2) ⟨0, 0, 0, 0⟩
def pow (l : List Int) (h : List (Int × Int)) : Q4 := powS h (onN l l.length)
theorem powS_snoc {n : Nat} (h : List (Int × Int)) (ps : List (AntN n)) (p : AntN n) : powS h (ps ++ [p]) = (powS h ps).put (numAt h p.1.1) p.1.2 := by
  simp [powS, List.foldl_append]
theorem Q4.put_le {x : Q4} {m s : Int} (h : x.le m) (z : Int × Int) (hz : cle s z) (p : Int) (hs : 0 ≤ s) : (x.put z p).le (m + s + s) := by
  unfold cle at hz
  exact Q4.add_le (Q4.add_le h z.1 p (by omega) (by omega) hs) z.2 (p + 2) (by omega) (by omega) hs
theorem numAt_le {h : List (Int × Int)} (hh : Small 30 h) (i : Nat) : cle 30 (numAt h i) := by
  unfold numAt
  by_cases q : i < h.length
  · rw [List.getElem?_eq_getElem q]; exact hh _ (List.getElem_mem q)
  · rw [List.getElem?_eq_none (by omega)]; simp [cle]
theorem powS_le_aux {n : Nat} {h : List (Int × Int)} (hh : Small 30 h) (ps : List (AntN n)) : ∀ (s : Q4) (m : Int), s.le m → (ps.foldl (fun s p => s.put (numAt h p.1.1) p.1.2) s).le (m + 60 * ps.length) := by
  induction ps with
  | nil => intro s m h; simpa using h
  | cons p r ih =>
    intro s m h
    have := ih _ _ (Q4.put_le h _ (numAt_le hh p.1.1) p.1.2 (by omega))
    rw [List.foldl_cons, List.length_cons]
    exact this.mono (by omega)
theorem powS_le {n : Nat} {h : List (Int × Int)} (hh : Small 30 h) (ps : List (AntN n)) : (powS h ps).le (60 * ps.length) := by
  have := powS_le_aux hh ps ⟨0, 0, 0, 0⟩ 0 (by simp [Q4.le])
  simpa [powS] using this
def powU (l : List Int) (h : List (Int × Int)) (k : Nat) : Q4 := powS h (onN l k)
theorem powU_on (l : List Int) (h : List (Int × Int)) (k : Nat) (hk : k < l.length) (hb : 0 ≤ l[k] ∧ l[k] ≤ 7) : powU l h (k + 1) = (powU l h k).put (numAt h k) l[k] := by
  rw [powU, onN_on l k hk ⟨hk, hb⟩, powS_snoc]; rfl
theorem powU_off (l : List Int) (h : List (Int × Int)) (k : Nat) (hk : k < l.length) (hz : l[k] = -1) : powU l h (k + 1) = powU l h k := by
  rw [powU, onN_off l k hk hz]; rfl
theorem powU_le (l : List Int) {h : List (Int × Int)} (hh : Small 30 h) (k : Nat) : (powU l h k).le (60 * k) :=
  (powS_le hh (onN l k)).mono (by have := onN_len l k; omega)
theorem put_plus (x : Q4) (z : Int × Int) (p : Int) : x.plus ((⟨z.1, 0, z.2, 0⟩ : Q4).rotN (p % 8).toNat) = x.put z p := by
  unfold Q4.put
  rcases mod8_cases p with h | h | h | h | h | h | h | h
  all_goals
    have h2 : (p + 2) % 8 = (p % 8 + 2) % 8 := by omega
    rw [h] at h2
    simp [Q4.add, h, h2, Q4.plus, Q4.rotN, Q4.rot]

/-- an addition, told by blocks -/
theorem add_blk (B T : Nat) (x : Q4) (t p : Int) (w : World) (hB : Blk w B T x.cells) (hx : x.le 1000000000000) (ht : -1000000000000 ≤ t) (ht' : t ≤ 1000000000000) (hp : 0 ≤ p) (hp' : p ≤ 1000000000000) :
    Calls Tryd.prog 65 #[.pointer (some ⟨B, 0, none⟩), .int .i64 t, .int .i64 p] w fun e w' => e = .returned (.tuple #[]) ∧ Blk w' B T (x.add t p).cells ∧ (∀ g t' cs, g ≠ B → Blk w g t' cs → Blk w' g t' cs) ∧ (∀ base, base ≤ B → Below base w w') ∧ KeepsOthers w w' := by
  refine (add_beam B T x t p w hB hx ht ht' hp hp').mono ?_
  rintro e w' ⟨rfl, k, n, v, rfl, hst⟩
  refine ⟨rfl, ?_, fun g t' cs hg hb => (hb.far (by simp; exact hg) _).drewN _, fun base hb => below_drewN ((Below.refl _ w).setCell (by simpa using hb) _) n, ⟨(KeepsOthers.setCell w _ _).1, (KeepsOthers.setCell w _ _).2⟩⟩
  rw [← hst]
  exact (hB.set_ k _).drewN _
end Go.Proofs.YtamkannjdbodpaaDoor

namespace Go.Proofs.YtamkannjdbodpaaDoor
open Go.RowKit Go.WideShapes Go.ChangeShapes Go.Shelf

attribute [local go_sem] Oper.semAt_some
set_option maxRecDepth 100000 in
set_option maxHeartbeats 4000000 in
theorem power_beam (A : Option Addr) (c : Nat) (l : List Int) (B : Option Addr) (n k : Nat) (h : List (Int × Int)) (w : World) (hs : Sl w A (iv l)) (hs' : Sl w B (gv h)) (hn : l.length = n) (hh : h.length = n) (hl : n ≤ 1000) (hok : OnOk l) (hsm : Small 30 h) :
    Calls Tryd.prog 45 #[.agg #[.slice A n c], .slice B n k] w fun e w' => e = .returned (.agg #[.int .i64 (pow l h).P, .int .i64 (pow l h).Q]) ∧ Below w.heap.size w w' := by
  subst hn
  have hbA : ∀ b off, A = some ⟨b, off, none⟩ → 0 < l.length → b < w.heap.size := by
    intro b off e hne
    obtain ⟨b', off', e', hc⟩ := hs.int (k := 0) (by omega)
    rw [e] at e'
    injection e' with e'
    injection e' with e1
    subst e1
    exact lt_of_cell hc
  have HOK := hide hok; clear hok
  have HSM := hide hsm; clear hsm
  have HH := hide hh; clear hh
  have HG := hide hs'; clear hs'
  refine (callsIn_wide (n := 5)).1 ?_
  refine callsIn_of_wp_marks Tryd.func45 rfl trivial ?_ rfl
  simp only [Tryd.ntmps45, List.size_toArray, List.length_cons, List.length_nil, Nat.reduceAdd, Nat.reduceSub, Array.replicate_succ, Array.replicate_zero, List.push_toArray, List.append_toArray, List.nil_append, List.cons_append]
  gi_wp2_with (refine ⟨trivial, ?_⟩; gi_at_call 64; refine (on_in Fence.wide _ trivial rfl A l.length c _).mono ?_; rintro e w' ⟨rfl, rfl⟩)
  have hs4 : Sl ((((((w.alloc (.cells #[.slice A l.length c] 24)).alloc (.cells #[.slice B l.length k] 40)).alloc (.cells #[.int .i64 0, .int .i64 0] 52)).alloc (.cells #[.int .i64 0, .int .i64 0, .int .i64 0, .int .i64 0] 84)).alloc (.cells #[.slice A l.length c] 24))) A (iv l) := ((((hs.alloc _).alloc _).alloc _).alloc _).alloc _
  refine wpIn_rangeFunc_ownF rfl (by omega) (gf := 84) (lb := #[.pointer (some ⟨w.heap.size + 1 + 1 + 1 + 1, 0, none⟩)]) rfl trivial (enters Tryd.func84 (by kernel_rfl) rfl)
    (onN_stops Fence.wide (5 - 1) trivial rfl (by omega) (w.heap.size + 1 + 1 + 1 + 1) w.heap.size c A l hl HOK.out _ (by simp) (by simp; omega) (by simp [go_sem]) hs4 hbA) belowK_t (belowK_b (by simp; omega)) (Below.refl _ _) (fun _ => rfl)
    (fun pre W => (Blk W (w.heap.size + 1 + 1 + 1) 84 (powS h pre).cells ∧ Blk W (w.heap.size + 1) 40 #[.slice B l.length k] ∧ Blk W (w.heap.size + 1 + 1) 52 #[.int .i64 0, .int .i64 0]) ∧ Below w.heap.size w W)
    (fun _ _ _ => False)
    ?hI (fun _ _ _ _ _ h _ _ => h) ?h0
    (fun x => { tmps := #[.agg #[.slice A l.length c], .slice B l.length k, .pointer (some ⟨w.heap.size, 0, none⟩), .pointer (some ⟨w.heap.size + 1, 0, none⟩), .pointer (some ⟨w.heap.size + 1 + 1, 0, none⟩), .pointer (some ⟨w.heap.size + 1 + 1 + 1, 0, none⟩),
      .int .i64 (x.1.1 : Int), .int .i64 x.1.2, .agg #[.slice A l.length c], .func (.func 84) #[] #[.pointer (some ⟨w.heap.size + 1 + 1 + 1 + 1, 0, none⟩)], .int .i64 (x.1.1 : Int), .int .i64 x.1.2, undef, undef, undef, undef, undef, undef, undef, undef, undef, undef, undef, undef, undef, undef, undef, undef, undef], defers := [] }) ?assign ?body ?done ?stop
  case hI =>
    refine OwnFrom.and (Own.from (fun s W W' row hs hg hr => ⟨hs.1.putObj hg hr, hs.2.1.putObj hg hr, hs.2.2.putObj hg hr⟩) _) (ownFrom_below (Nat.le_refl _) (by simp; omega))
  case h0 =>
    refine ⟨⟨?_, ?_, ?_⟩, by go_grown⟩
    · refine Blk.alloc ?_ _
      have h := Blk.new (((w.alloc (.cells #[.slice A l.length c] 24)).alloc (.cells #[.slice B l.length k] 40)).alloc (.cells #[.int .i64 0, .int .i64 0] 52)) 84 #[.int .i64 0, .int .i64 0, .int .i64 0, .int .i64 0]
      rw [World.size_alloc, World.size_alloc, World.size_alloc] at h
      exact h
    · refine Blk.alloc (Blk.alloc (Blk.alloc ?_ _) _) _
      have h := Blk.new (w.alloc (.cells #[.slice A l.length c] 24)) 40 #[.slice B l.length k]
      rw [World.size_alloc] at h
      exact h
    · refine Blk.alloc (Blk.alloc ?_ _) _
      have h := Blk.new ((w.alloc (.cells #[.slice A l.length c] 24)).alloc (.cells #[.slice B l.length k] 40)) 52 #[.int .i64 0, .int .i64 0]
      rw [World.size_alloc, World.size_alloc] at h
      exact h
  case assign =>
    intro lp x W K hK
    gi_wp2
    exact hK
  case body =>
    rintro lp pre ⟨⟨i, ph⟩, hi, hp0, hp7⟩ W ⟨⟨hb1, hb2, hb3⟩, hbel⟩ hlen
    dsimp only at hi hp0 hp7
    have hih : i < h.length := by rw [HH.out]; exact hi
    obtain ⟨bg, og, hB, e1, e2⟩ := HG.out.at2 hih
    have c1 : W.cell? ⟨w.heap.size + 1, 0, none⟩ = some (.slice B l.length k) := hb2.cell 0
    subst hB
    have d1 : W.cell? ⟨bg, og + i * 2, none⟩ = some (.int .i64 h[i].1) := hbel.keeps e1
    have d2 : W.cell? ⟨bg, og + i * 2 + 1, none⟩ = some (.int .i64 h[i].2) := hbel.keeps e2
    have hz := HSM.out _ (List.getElem_mem hih)
    have HNA := hide (show numAt h i = h[i] by unfold numAt; rw [List.getElem?_eq_getElem hih]; rfl)
    have hq : (powS h pre).le 1000000 := (powS_le HSM.out pre).mono (by omega)
    unfold cle at hz
    obtain ⟨x, hx⟩ : ∃ x, h[i].1 = x := ⟨_, rfl⟩
    obtain ⟨y, hy⟩ : ∃ y, h[i].2 = y := ⟨_, rfl⟩
    have HXY := hide (show h[i] = (x, y) from Prod.ext hx hy)
    rw [hx] at d1 hz
    rw [hy] at d2 hz
    rw [HXY.out] at HNA
    have HQ2 := hide (Q4.add_le hq x ph (s := 30) (by omega) (by omega) (by omega))
    have gi1 : (i : Int) < (l.length : Int) := by omega
    rw [hy] at e2
    have HE2 := hide e2
    clear hx hy e1 e2
    have HQ := hide hq; clear hq
    gi_wp2_with (first
      | (have qq := B3; refine ⟨trivial, ?_⟩; gi_at_call 65; refine (CallsIn.inRound lp (callsIn_wide.2 (add_blk _ 84 _ y _ _ B3.out (HQ2.out.mono (by omega)) (by omega) (by omega) (by omega) (by omega)))).mono ?_; rintro e W4 ⟨rfl, hB4, hF4, hL4, hK4⟩)
      | (refine ⟨trivial, ?_⟩; gi_at_call 65; refine (CallsIn.inRound lp (callsIn_wide.2 (add_blk _ 84 _ x _ _ hb1 (HQ.out.mono (by omega)) (by omega) (by omega) (by omega) (by omega)))).mono ?_; rintro e W3 ⟨rfl, hB3, hF3, hL3, hK3⟩; have B3 := hide hB3; have F3 := hide hF3; have hbw := hL3 w.heap.size (by omega); have HK3 := hide hK3; have hb23 := hF3 _ _ _ (by omega) hb2; have hb33 := hF3 _ _ _ (by omega) hb3; have f1 : W3.cell? ⟨w.heap.size + 1, 0, none⟩ = some (.slice (some ⟨bg, og, none⟩) l.length k) := hb23.cell 0; have f2 : W3.cell? ⟨bg, og + i * 2 + 1, none⟩ = some (.int .i64 y) := (hbel.trans hbw).keeps HE2.out; clear hB3 hF3 hL3 hK3))
    have hbw4 := hL4 w.heap.size (by omega)
    refine ⟨HK3.out.trans hK4, hbw.trans hbw4, ⟨?_, hF4 _ _ _ (by omega) hb23, hF4 _ _ _ (by omega) hb33⟩, (hbel.trans hbw).trans hbw4⟩
    rw [powS_snoc]
    dsimp only
    rw [HNA.out]
    exact hB4
  case done =>
    rintro D ys W hD rfl ⟨⟨hb1, hb2, hb3⟩, hbel⟩ hK
    obtain ⟨X, hX⟩ : ∃ X, powS h (onN l l.length) = X := ⟨_, rfl⟩
    have HX := hide (show pow l h = X from hX)
    have hXle : X.le 1000000000 := by rw [← hX]; exact (powS_le HSM.out _).mono (by have := onN_len l l.length; omega)
    rw [hX] at hb1
    have HXL := hide hXle
    clear hX hXle
    have c0 : W.cell? ⟨w.heap.size + 1 + 1 + 1, 0, none⟩ = some (.int .i64 X.a) := hb1.cell 0
    have c1 : W.cell? ⟨w.heap.size + 1 + 1 + 1, 1, none⟩ = some (.int .i64 X.b) := hb1.cell 1
    have c2 : W.cell? ⟨w.heap.size + 1 + 1 + 1, 2, none⟩ = some (.int .i64 X.c) := hb1.cell 2
    have c3 : W.cell? ⟨w.heap.size + 1 + 1 + 1, 3, none⟩ = some (.int .i64 X.d) := hb1.cell 3
    have hD' : w.heap.size + 1 + 1 < D := by simp at hD; omega
    have y3 := hb3.lt
    have HKD := hide hK
    gi_wp2_with (refine ⟨trivial, ?_⟩; gi_at_call 42; refine (callsIn_wide.2 (square_beam X HXL.out _)).mono ?_; rintro e W3 ⟨rfl, hbs⟩; have hb33 := hb3.below hbs y3; have f0 := hb33.frozen 0; have f1 := hb33.frozen 1; have e0 : W3.cell? ⟨w.heap.size + 1 + 1, 0, none⟩ = some (.int .i64 0) := hb33.cell 0; have e1 : W3.cell? ⟨w.heap.size + 1 + 1, 1, none⟩ = some (.int .i64 0) := hb33.cell 1)
    have hbel3 : Below w.heap.size w W3 := Below.step hbel hbs
    have hb4 := (hb33.set_ 0 (.int .i64 X.P)).set_ 1 (.int .i64 X.Q)
    have hbe := (hbel3.setCell (p := ⟨w.heap.size + 1 + 1, 0, none⟩) (by simp; omega) (.int .i64 X.P)).setCell (p := ⟨w.heap.size + 1 + 1, 1, none⟩) (by simp; omega) (.int .i64 X.Q)
    have hDl : D < W.heap.size := (Array.getElem?_eq_some_iff.1 HKD.out).1
    have hK3 := (hbs.block D hDl).trans HKD.out
    have hK4 := ((KeepsOthers.setCell W3 ⟨w.heap.size + 1 + 1, 0, none⟩ (.int .i64 X.P)).trans (KeepsOthers.setCell _ ⟨w.heap.size + 1 + 1, 1, none⟩ (.int .i64 X.Q))).same D _ hK3 rfl
    generalize (W3.setCell ⟨w.heap.size + 1 + 1, 0, none⟩ (.int .i64 X.P)).setCell ⟨w.heap.size + 1 + 1, 1, none⟩ (.int .i64 X.Q) = W4 at *
    refine ⟨by simp, .inl ⟨_, _, rfl, run_takeDeferred hK4, ?_⟩⟩
    have hb5 := Blk.putObj hb4 (grownBy_putObj' W4 D (.deferred none)) (fun r e => by cases e; exact ⟨_, hK4, rfl⟩)
    have g0 := hb5.cell 0
    have g1 := hb5.cell 1
    simp at g0 g1
    refine ⟨.agg #[.int .i64 X.P, .int .i64 X.Q], ?_, by rw [HX.out], hbe.trans (belowK_b (w := w) (Nat.le_refl _) W4 D _ _ (by omega) hK4 rfl rfl)⟩
    simp [results, Tryd.f45, go_sem, g0, g1]
  case stop =>
    rintro D c' pre W _ _ h _
    exact h.elim
end Go.Proofs.YtamkannjdbodpaaDoor
