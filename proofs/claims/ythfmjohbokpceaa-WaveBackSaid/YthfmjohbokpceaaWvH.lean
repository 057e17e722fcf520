import Derived.Test.YthfmjohbokpceaaWvF
import Derived.Lib.AppendZerosOnto
import Derived.Lib.AppendZeros
namespace Go.Proofs.Ythfmjohbokpceaa
open Go.RowKit Go.WideShapes Go.ChangeShapes

/-! slices.Grow of nil and slices.Concat, at three types -/
theorem zc_size (z : Array Value) (k : Nat) : (Builtin.zeroCells z k).size = k * z.size := by
  unfold Builtin.zeroCells
  simp
theorem int_infoW : (Try.prog.info? 3).map (fun i => (i.zero, i.size, i.bytes)) = some (some (.int .i64 0), 1, 8) := by kernel_rfl
theorem ga_infoW : (Try.prog.info? 30).map (fun i => (i.zero, i.size, i.bytes)) = some (some (.agg #[.int .i64 0, .int .i64 0]), 2, 16) := by kernel_rfl
/-- a part of what is put together: where, how many, what -/
structure Part where
  a : Option Addr
  n : Nat
  c : Nat
  xs : List Value
def Part.val (p : Part) : Value := .slice p.a p.n p.c
def parN : List Part → Nat
  | [] => 0
  | p :: r => p.n + parN r
def parX : List Part → List Value
  | [] => []
  | p :: r => p.xs ++ parX r
theorem parN_app (a b : List Part) : parN (a ++ b) = parN a + parN b := by
  induction a with
  | nil => simp [parN]
  | cons p r ih => simp only [List.cons_append, parN, ih]; omega
theorem parX_app (a b : List Part) : parX (a ++ b) = parX a ++ parX b := by
  induction a with
  | nil => rfl
  | cons p r ih => simp only [List.cons_append, parX, ih, List.append_assoc]
theorem parN_le (ps : List Part) (k : Nat) : parN (ps.take k) ≤ parN ps := by
  have h := parN_app (ps.take k) (ps.drop k)
  rw [List.take_append_drop] at h
  omega
theorem parN_succ (ps : List Part) (k : Nat) (hk : k < ps.length) : parN (ps.take (k + 1)) = parN (ps.take k) + ps[k].n := by
  rw [List.take_succ_eq_append_getElem hk, parN_app]; simp [parN]
theorem parX_succ (ps : List Part) (k : Nat) (hk : k < ps.length) : parX (ps.take (k + 1)) = parX (ps.take k) ++ ps[k].xs := by
  rw [List.take_succ_eq_append_getElem hk, parX_app]; simp [parX]
theorem Sl.val {w : World} {P : Option Addr} {vs : List Value} (h : Sl w P vs) {k : Nat} {v : Value} (hk : vs[k]? = some v) : ∃ b off, P = some ⟨b, off, none⟩ ∧ w.cell? ⟨b, off + k, none⟩ = some v := by
  obtain ⟨hj, hu⟩ := List.getElem?_eq_some_iff.1 hk
  obtain ⟨b, off, e, c⟩ := h k hj
  exact ⟨b, off, e, by rw [c, hu]⟩

set_option maxRecDepth 100000 in
set_option maxHeartbeats 2000000 in
theorem grow_int (n : Nat) (w : World) (hn : n ≤ 1000000) : Calls Try.prog 185 #[.slice none 0 0, .int .i64 (n : Int)] w fun e w' => ∃ A c, e = .returned (.slice A 0 c) ∧ w'.ownsRow w.heap.size 3 1 (.slice A 0 c) 0 [] ∧ Below w.heap.size w w' := by
  obtain ⟨i0, hi0, hz0, hz1, hz2⟩ := info_parts int_infoW
  rcases Nat.eq_zero_or_pos n with rfl | h0
  · go_enter Try.func185, Try.ntmps185
    go_wp2
    go_ret
    exact ⟨none, 0, rfl, World.ownsRow_nil _ _ _ _, Below.refl _ _⟩
  · have hrz : ∀ ty, (Builtin.append_ #[24, 3] ty #[.slice none 0 0, .int .i64 (n : Int)]).run Try.prog w =
        .ok (.slice (some ⟨w.heap.size, 0, none⟩) (0 + n) (grownCap w (0 + n) 0 3)) (w.drew.alloc (.cells ([].toArray ++ Builtin.zeroCells (Value.cells (.int .i64 0)) n ++ Builtin.zeroCells (Value.cells (.int .i64 0)) (grownCap w (0 + n) 0 3 - (0 + n))) 3)) := fun ty =>
      Lib.run_append_grow_zeros w 24 3 ty 3 i0 (.int .i64 0) .i64 .i64 Try.underlying24 Try.underlying3 hi0 hz0 none 0 0 [] (run_firstCells_none w.drew i0.size 0 0 0) n h0 (by omega) (by omega) (by omega) (by rw [hz2]; omega) (by rw [hz2]; exact growslice_fits (by omega) (by omega))
    have hG1 := grownCap_ge w (0 + n) 0 3
    have hG2 := grownCap_le_maxLen w (0 + n) 0 3 (by unfold maxLen; omega)
    obtain ⟨G, hG⟩ : ∃ G, grownCap w (0 + n) 0 3 = G := ⟨_, rfl⟩
    rw [hG] at hrz hG1 hG2
    have hG3 := hG2
    unfold maxLen at hG3
    have hp : (n : Int) > 0 := by omega
    have HR := hide hrz
    clear hrz hG
    go_enter Try.func185, Try.ntmps185
    go_wp2_with (at_builtin; refine Lib.wpList_append_run _ rfl _ _ _ _ rfl _ _ rfl rfl _ _ (HR.out _) ?_)
    go_ret
    refine ⟨some ⟨w.heap.size, 0, none⟩, G, rfl, ?_, ((Below.refl _ w).drew).alloc (by simp) _⟩
    exact World.ownsRow_made w.drew _ G (Nat.le_refl _) hG2 (by simp [zc_size]; omega)
set_option maxRecDepth 100000 in
set_option maxHeartbeats 4000000 in
theorem concat_int (A : Option Addr) (c m : Nat) (ps : List Part) (w : World) (hm : ps.length = m) (hs : Sl w A (ps.map Part.val)) (hr : ∀ p ∈ ps, Reads w w.heap.size 1 p.a p.n p.xs ∧ ∀ u ∈ p.xs, u.oneCell' = true) (hN : parN ps ≤ 1000000) (hm6 : m ≤ 1000000) :
    Calls Try.prog 166 #[.slice A m c] w fun e w' => ∃ B k, e = .returned (.slice B (parN ps) k) ∧ w'.ownsRow w.heap.size 3 1 (.slice B (parN ps) k) (parN ps) (parX ps) ∧ Below w.heap.size w w' := by
  obtain ⟨i0, hi0, hz0, hz1, hz2⟩ := info_parts int_infoW
  have HC := hide (show ∀ k (hk : k < ps.length), ∃ b off, A = some ⟨b, off, none⟩ ∧ w.cell? ⟨b, off + k, none⟩ = some (.slice ps[k].a ps[k].n ps[k].c) from fun k hk => hs.val (k := k) (v := .slice ps[k].a ps[k].n ps[k].c) (by rw [List.getElem?_map, List.getElem?_eq_getElem hk]; rfl))
  have HR := hide (show ∀ k (hk : k < ps.length), Reads w w.heap.size 1 ps[k].a ps[k].n ps[k].xs ∧ ∀ u ∈ ps[k].xs, u.oneCell' = true from fun k hk => hr _ (List.getElem_mem hk))
  have HL := hide (fun k => parN_le ps k)
  have HNS := hide (fun k hk => parN_succ ps k hk)
  have HXS := hide (fun k hk => parX_succ ps k hk)
  have HT := hide (show parN (ps.take m) = parN ps ∧ parX (ps.take m) = parX ps by rw [← hm, List.take_length]; exact ⟨rfl, rfl⟩)
  have HM := hide hm
  obtain ⟨N, hNe⟩ : ∃ N, parN ps = N := ⟨_, rfl⟩
  rw [hNe] at hN HL HT
  rw [hNe]
  clear hs hr hm hNe
  go_enter Try.func166, Try.ntmps166
  go_wp2
  go_loop [3, 11] (fun s i => ∃ k : Nat, k ≤ m ∧ i = .int .i64 k ∧ s = .int .i64 (parN (ps.take k) : Nat)) (fun _ i => m - (intOf i).toNat)
  case atStart => exact ⟨0, Nat.zero_le _, rfl, rfl⟩
  case round =>
    obtain ⟨k, hk, rfl, rfl⟩ := hrel
    by_cases hlt : k < m
    · have hkl : k < ps.length := by rw [HM.out]; exact hlt
      obtain ⟨b, off, rfl, d⟩ := HC.out k hkl
      have h1 := HL.out k
      have h2 := HL.out (k + 1)
      have h3 := HNS.out k hkl
      rw [h3] at h2
      have H3 := hide h3
      clear h3
      obtain ⟨pa, hpa⟩ : ∃ x, ps[k].a = x := ⟨_, rfl⟩
      obtain ⟨pn, hpn⟩ : ∃ x, ps[k].n = x := ⟨_, rfl⟩
      obtain ⟨pc, hpc⟩ : ∃ x, ps[k].c = x := ⟨_, rfl⟩
      rw [hpa, hpn, hpc] at d
      rw [hpn] at h2 H3
      clear hpa hpn hpc
      obtain ⟨S, hS⟩ : ∃ S, parN (ps.take k) = S := ⟨_, rfl⟩
      rw [hS] at h1 h2 H3
      rw [hS]
      clear hS
      have hnn : ¬ ((S : Int) + (pn : Int) < 0) := by omega
      have hnd : decide ((S : Int) + (pn : Int) < 0) = false := decide_eq_false hnn
      go_wp2
      go_round
      case rel => exact ⟨k + 1, by omega, by go_num, by rw [H3.out]; go_num⟩
      case measure => simp [intOf]; omega
    · have hkm : parN (ps.take k) = N := by rw [(by omega : k = m)]; exact HT.out.1
      rw [hkm]
      clear hkm
      go_wp2_with (go_at_call 185; go_must (refine (grow_int N _ hN).mono ?_; rintro e w1 ⟨B0, c0, rfl, ho1, hb1⟩; have HO := hide ho1; have HB := hide hb1; clear ho1 hb1; simp only []))
      go_loopw [6, 27] (fun s i wr => ∃ (j : Nat) (B : Option Addr) (cB : Nat), j ≤ m ∧ i = .int .i64 j ∧ s = .slice B (parN (ps.take j)) cB ∧ wr.ownsRow w.heap.size 3 1 (.slice B (parN (ps.take j)) cB) (parN (ps.take j)) (parX (ps.take j)) ∧ Below w.heap.size w wr) (fun _ i _ => m - (intOf i).toNat)
      case atStart => exact ⟨0, B0, c0, Nat.zero_le _, rfl, rfl, HO.out, HB.out⟩
      case round =>
        clear HO HB
        obtain ⟨j, B, cB, hj, rfl, rfl, hrow, hbel⟩ := hrel
        by_cases hlt2 : j < m
        · have hkl : j < ps.length := by rw [HM.out]; exact hlt2
          obtain ⟨b, off, rfl, d⟩ := HC.out j hkl
          have d1 := (hbel.cell (p := ⟨b, off + j, none⟩) (lt_of_cell d)).trans d
          have h1 := HL.out j
          have h2 := HL.out (j + 1)
          have h3 := HNS.out j hkl
          have h4 := hide (HXS.out j hkl)
          have hrd := hide ((HR.out j hkl).1.below hbel)
          have hone := hide (HR.out j hkl).2
          rw [h3] at h2
          have H3 := hide h3
          have hbz := hbel.size
          clear h3 d
          obtain ⟨pa, hpa⟩ : ∃ x, ps[j].a = x := ⟨_, rfl⟩
          obtain ⟨pn, hpn⟩ : ∃ x, ps[j].n = x := ⟨_, rfl⟩
          obtain ⟨pc, hpc⟩ : ∃ x, ps[j].c = x := ⟨_, rfl⟩
          obtain ⟨px, hpx⟩ : ∃ x, ps[j].xs = x := ⟨_, rfl⟩
          rw [hpa, hpn, hpc] at d1
          rw [hpn] at h2 H3
          rw [hpa, hpn, hpx] at hrd
          rw [hpx] at hone h4
          clear hpa hpn hpc hpx
          obtain ⟨S, hS⟩ : ∃ S, parN (ps.take j) = S := ⟨_, rfl⟩
          rw [hS] at h1 h2 H3 hrow
          rw [hS]
          clear hS
          have HROW := hide hrow
          clear hrow
          go_wp2_with (at_builtin; go_must (
            refine wpList_append_any _ rfl (.tmp 31) (.tmp 32) _ rfl w.heap.size 3 i0 _ 1 8 Try.underlying24 hi0 hz0 hz1 hz2 rfl (by omega) _ S _ rfl
              HROW.out _ pa pn pc px rfl hrd.out hone.out (by simp only [maxLen]; omega) (by omega) hbz ?_
            intro v2 w2 hown2 hg2 hat2
            obtain ⟨B2, k2, rfl⟩ := own_form hown2
            have hbel2 := Below.app' hbel HROW.out hg2))
          go_roundw
          case rel => exact ⟨j + 1, B2, k2, by omega, by go_num, by rw [H3.out], by rw [H3.out, h4.out]; exact hown2, hbel2⟩
          case measure => simp [intOf]; omega
        · have hkm : parN (ps.take j) = N ∧ parX (ps.take j) = parX ps := by rw [(by omega : j = m)]; exact HT.out
          rw [hkm.1, hkm.2] at hrow
          rw [hkm.1]
          clear hkm
          go_wp2
          go_ret
          exact ⟨B, cB, rfl, hrow, hbel⟩

set_option maxRecDepth 100000 in
set_option maxHeartbeats 2000000 in
theorem grow_num (n : Nat) (w : World) (hn : n ≤ 1000000) : Calls Try.prog 180 #[.slice none 0 0, .int .i64 (n : Int)] w fun e w' => ∃ A c, e = .returned (.slice A 0 c) ∧ w'.ownsRow w.heap.size 38 4 (.slice A 0 c) 0 [] ∧ Below w.heap.size w w' := by
  obtain ⟨i0, hi0, hz0, hz1, hz2⟩ := info_parts wn_info
  rcases Nat.eq_zero_or_pos n with rfl | h0
  · go_enter Try.func180, Try.ntmps180
    go_wp2
    go_ret
    exact ⟨none, 0, rfl, World.ownsRow_nil _ _ _ _, Below.refl _ _⟩
  · have hrz : ∀ ty, (Builtin.append_ #[36, 3] ty #[.slice none 0 0, .int .i64 (n : Int)]).run Try.prog w =
        .ok (.slice (some ⟨w.heap.size, 0, none⟩) (0 + n) (grownCap w (0 + n) 0 38)) (w.drew.alloc (.cells ([].toArray ++ Builtin.zeroCells (Value.cells (nv n0)) n ++ Builtin.zeroCells (Value.cells (nv n0)) (grownCap w (0 + n) 0 38 - (0 + n))) 38)) := fun ty =>
      Lib.run_append_grow_zeros w 36 3 ty 38 i0 (nv n0) .i64 .i64 Try.underlying36 Try.underlying3 hi0 hz0 none 0 0 [] (run_firstCells_none w.drew i0.size 0 0 0) n h0 (by omega) (by omega) (by omega) (by rw [hz2]; omega) (by rw [hz2]; exact growslice_fits (by omega) (by omega))
    have hG1 := grownCap_ge w (0 + n) 0 38
    have hG2 := grownCap_le_maxLen w (0 + n) 0 38 (by unfold maxLen; omega)
    obtain ⟨G, hG⟩ : ∃ G, grownCap w (0 + n) 0 38 = G := ⟨_, rfl⟩
    rw [hG] at hrz hG1 hG2
    have hG3 := hG2
    unfold maxLen at hG3
    have hp : (n : Int) > 0 := by omega
    have HR := hide hrz
    clear hrz hG
    go_enter Try.func180, Try.ntmps180
    go_wp2_with (at_builtin; refine Lib.wpList_append_run _ rfl _ _ _ _ rfl _ _ rfl rfl _ _ (HR.out _) ?_)
    go_ret
    refine ⟨some ⟨w.heap.size, 0, none⟩, G, rfl, ?_, ((Below.refl _ w).drew).alloc (by simp) _⟩
    exact World.ownsRow_made w.drew _ G (Nat.le_refl _) hG2 (by simp [zc_size]; omega)
set_option maxRecDepth 100000 in
set_option maxHeartbeats 4000000 in
theorem concat_num (A : Option Addr) (c m : Nat) (ps : List Part) (w : World) (hm : ps.length = m) (hs : Sl w A (ps.map Part.val)) (hr : ∀ p ∈ ps, Reads w w.heap.size 4 p.a p.n p.xs ∧ ∀ u ∈ p.xs, u.oneCell' = true) (hN : parN ps ≤ 1000000) (hm6 : m ≤ 1000000) :
    Calls Try.prog 136 #[.slice A m c] w fun e w' => ∃ B k, e = .returned (.slice B (parN ps) k) ∧ w'.ownsRow w.heap.size 38 4 (.slice B (parN ps) k) (parN ps) (parX ps) ∧ Below w.heap.size w w' := by
  obtain ⟨i0, hi0, hz0, hz1, hz2⟩ := info_parts wn_info
  have HC := hide (show ∀ k (hk : k < ps.length), ∃ b off, A = some ⟨b, off, none⟩ ∧ w.cell? ⟨b, off + k, none⟩ = some (.slice ps[k].a ps[k].n ps[k].c) from fun k hk => hs.val (k := k) (v := .slice ps[k].a ps[k].n ps[k].c) (by rw [List.getElem?_map, List.getElem?_eq_getElem hk]; rfl))
  have HR := hide (show ∀ k (hk : k < ps.length), Reads w w.heap.size 4 ps[k].a ps[k].n ps[k].xs ∧ ∀ u ∈ ps[k].xs, u.oneCell' = true from fun k hk => hr _ (List.getElem_mem hk))
  have HL := hide (fun k => parN_le ps k)
  have HNS := hide (fun k hk => parN_succ ps k hk)
  have HXS := hide (fun k hk => parX_succ ps k hk)
  have HT := hide (show parN (ps.take m) = parN ps ∧ parX (ps.take m) = parX ps by rw [← hm, List.take_length]; exact ⟨rfl, rfl⟩)
  have HM := hide hm
  obtain ⟨N, hNe⟩ : ∃ N, parN ps = N := ⟨_, rfl⟩
  rw [hNe] at hN HL HT
  rw [hNe]
  clear hs hr hm hNe
  go_enter Try.func136, Try.ntmps136
  go_wp2
  go_loop [3, 11] (fun s i => ∃ k : Nat, k ≤ m ∧ i = .int .i64 k ∧ s = .int .i64 (parN (ps.take k) : Nat)) (fun _ i => m - (intOf i).toNat)
  case atStart => exact ⟨0, Nat.zero_le _, rfl, rfl⟩
  case round =>
    obtain ⟨k, hk, rfl, rfl⟩ := hrel
    by_cases hlt : k < m
    · have hkl : k < ps.length := by rw [HM.out]; exact hlt
      obtain ⟨b, off, rfl, d⟩ := HC.out k hkl
      have h1 := HL.out k
      have h2 := HL.out (k + 1)
      have h3 := HNS.out k hkl
      rw [h3] at h2
      have H3 := hide h3
      clear h3
      obtain ⟨pa, hpa⟩ : ∃ x, ps[k].a = x := ⟨_, rfl⟩
      obtain ⟨pn, hpn⟩ : ∃ x, ps[k].n = x := ⟨_, rfl⟩
      obtain ⟨pc, hpc⟩ : ∃ x, ps[k].c = x := ⟨_, rfl⟩
      rw [hpa, hpn, hpc] at d
      rw [hpn] at h2 H3
      clear hpa hpn hpc
      obtain ⟨S, hS⟩ : ∃ S, parN (ps.take k) = S := ⟨_, rfl⟩
      rw [hS] at h1 h2 H3
      rw [hS]
      clear hS
      have hnn : ¬ ((S : Int) + (pn : Int) < 0) := by omega
      have hnd : decide ((S : Int) + (pn : Int) < 0) = false := decide_eq_false hnn
      go_wp2
      go_round
      case rel => exact ⟨k + 1, by omega, by go_num, by rw [H3.out]; go_num⟩
      case measure => simp [intOf]; omega
    · have hkm : parN (ps.take k) = N := by rw [(by omega : k = m)]; exact HT.out.1
      rw [hkm]
      clear hkm
      go_wp2_with (go_at_call 180; go_must (refine (grow_num N _ hN).mono ?_; rintro e w1 ⟨B0, c0, rfl, ho1, hb1⟩; have HO := hide ho1; have HB := hide hb1; clear ho1 hb1; simp only []))
      go_loopw [6, 27] (fun s i wr => ∃ (j : Nat) (B : Option Addr) (cB : Nat), j ≤ m ∧ i = .int .i64 j ∧ s = .slice B (parN (ps.take j)) cB ∧ wr.ownsRow w.heap.size 38 4 (.slice B (parN (ps.take j)) cB) (parN (ps.take j)) (parX (ps.take j)) ∧ Below w.heap.size w wr) (fun _ i _ => m - (intOf i).toNat)
      case atStart => exact ⟨0, B0, c0, Nat.zero_le _, rfl, rfl, HO.out, HB.out⟩
      case round =>
        clear HO HB
        obtain ⟨j, B, cB, hj, rfl, rfl, hrow, hbel⟩ := hrel
        by_cases hlt2 : j < m
        · have hkl : j < ps.length := by rw [HM.out]; exact hlt2
          obtain ⟨b, off, rfl, d⟩ := HC.out j hkl
          have d1 := (hbel.cell (p := ⟨b, off + j, none⟩) (lt_of_cell d)).trans d
          have h1 := HL.out j
          have h2 := HL.out (j + 1)
          have h3 := HNS.out j hkl
          have h4 := hide (HXS.out j hkl)
          have hrd := hide ((HR.out j hkl).1.below hbel)
          have hone := hide (HR.out j hkl).2
          rw [h3] at h2
          have H3 := hide h3
          have hbz := hbel.size
          clear h3 d
          obtain ⟨pa, hpa⟩ : ∃ x, ps[j].a = x := ⟨_, rfl⟩
          obtain ⟨pn, hpn⟩ : ∃ x, ps[j].n = x := ⟨_, rfl⟩
          obtain ⟨pc, hpc⟩ : ∃ x, ps[j].c = x := ⟨_, rfl⟩
          obtain ⟨px, hpx⟩ : ∃ x, ps[j].xs = x := ⟨_, rfl⟩
          rw [hpa, hpn, hpc] at d1
          rw [hpn] at h2 H3
          rw [hpa, hpn, hpx] at hrd
          rw [hpx] at hone h4
          clear hpa hpn hpc hpx
          obtain ⟨S, hS⟩ : ∃ S, parN (ps.take j) = S := ⟨_, rfl⟩
          rw [hS] at h1 h2 H3 hrow
          rw [hS]
          clear hS
          have HROW := hide hrow
          clear hrow
          go_wp2_with (at_builtin; go_must (
            refine wpList_append_any _ rfl (.tmp 31) (.tmp 32) _ rfl w.heap.size 38 i0 _ 4 32 Try.underlying36 hi0 hz0 hz1 hz2 rfl (by omega) _ S _ rfl
              HROW.out _ pa pn pc px rfl hrd.out hone.out (by simp only [maxLen]; omega) (by omega) hbz ?_
            intro v2 w2 hown2 hg2 hat2
            obtain ⟨B2, k2, rfl⟩ := own_form hown2
            have hbel2 := Below.app' hbel HROW.out hg2))
          go_roundw
          case rel => exact ⟨j + 1, B2, k2, by omega, by go_num, by rw [H3.out], by rw [H3.out, h4.out]; exact hown2, hbel2⟩
          case measure => simp [intOf]; omega
        · have hkm : parN (ps.take j) = N ∧ parX (ps.take j) = parX ps := by rw [(by omega : j = m)]; exact HT.out
          rw [hkm.1, hkm.2] at hrow
          rw [hkm.1]
          clear hkm
          go_wp2
          go_ret
          exact ⟨B, cB, rfl, hrow, hbel⟩

set_option maxRecDepth 100000 in
set_option maxHeartbeats 2000000 in
theorem grow_gauss (n : Nat) (w : World) (hn : n ≤ 1000000) : Calls Try.prog 181 #[.slice none 0 0, .int .i64 (n : Int)] w fun e w' => ∃ A c, e = .returned (.slice A 0 c) ∧ w'.ownsRow w.heap.size 30 2 (.slice A 0 c) 0 [] ∧ Below w.heap.size w w' := by
  obtain ⟨i0, hi0, hz0, hz1, hz2⟩ := info_parts ga_infoW
  rcases Nat.eq_zero_or_pos n with rfl | h0
  · go_enter Try.func181, Try.ntmps181
    go_wp2
    go_ret
    exact ⟨none, 0, rfl, World.ownsRow_nil _ _ _ _, Below.refl _ _⟩
  · have hrz : ∀ ty, (Builtin.append_ #[83, 3] ty #[.slice none 0 0, .int .i64 (n : Int)]).run Try.prog w =
        .ok (.slice (some ⟨w.heap.size, 0, none⟩) (0 + n) (grownCap w (0 + n) 0 30)) (w.drew.alloc (.cells ([].toArray ++ Builtin.zeroCells (Value.cells (.agg #[.int .i64 0, .int .i64 0])) n ++ Builtin.zeroCells (Value.cells (.agg #[.int .i64 0, .int .i64 0])) (grownCap w (0 + n) 0 30 - (0 + n))) 30)) := fun ty =>
      Lib.run_append_grow_zeros w 83 3 ty 30 i0 (.agg #[.int .i64 0, .int .i64 0]) .i64 .i64 Try.underlying83 Try.underlying3 hi0 hz0 none 0 0 [] (run_firstCells_none w.drew i0.size 0 0 0) n h0 (by omega) (by omega) (by omega) (by rw [hz2]; omega) (by rw [hz2]; exact growslice_fits (by omega) (by omega))
    have hG1 := grownCap_ge w (0 + n) 0 30
    have hG2 := grownCap_le_maxLen w (0 + n) 0 30 (by unfold maxLen; omega)
    obtain ⟨G, hG⟩ : ∃ G, grownCap w (0 + n) 0 30 = G := ⟨_, rfl⟩
    rw [hG] at hrz hG1 hG2
    have hG3 := hG2
    unfold maxLen at hG3
    have hp : (n : Int) > 0 := by omega
    have HR := hide hrz
    clear hrz hG
    go_enter Try.func181, Try.ntmps181
    go_wp2_with (at_builtin; refine Lib.wpList_append_run _ rfl _ _ _ _ rfl _ _ rfl rfl _ _ (HR.out _) ?_)
    go_ret
    refine ⟨some ⟨w.heap.size, 0, none⟩, G, rfl, ?_, ((Below.refl _ w).drew).alloc (by simp) _⟩
    exact World.ownsRow_made w.drew _ G (Nat.le_refl _) hG2 (by simp [zc_size]; omega)
set_option maxRecDepth 100000 in
set_option maxHeartbeats 4000000 in
theorem concat_gauss (A : Option Addr) (c m : Nat) (ps : List Part) (w : World) (hm : ps.length = m) (hs : Sl w A (ps.map Part.val)) (hr : ∀ p ∈ ps, Reads w w.heap.size 2 p.a p.n p.xs ∧ ∀ u ∈ p.xs, u.oneCell' = true) (hN : parN ps ≤ 1000000) (hm6 : m ≤ 1000000) :
    Calls Try.prog 144 #[.slice A m c] w fun e w' => ∃ B k, e = .returned (.slice B (parN ps) k) ∧ w'.ownsRow w.heap.size 30 2 (.slice B (parN ps) k) (parN ps) (parX ps) ∧ Below w.heap.size w w' := by
  obtain ⟨i0, hi0, hz0, hz1, hz2⟩ := info_parts ga_infoW
  have HC := hide (show ∀ k (hk : k < ps.length), ∃ b off, A = some ⟨b, off, none⟩ ∧ w.cell? ⟨b, off + k, none⟩ = some (.slice ps[k].a ps[k].n ps[k].c) from fun k hk => hs.val (k := k) (v := .slice ps[k].a ps[k].n ps[k].c) (by rw [List.getElem?_map, List.getElem?_eq_getElem hk]; rfl))
  have HR := hide (show ∀ k (hk : k < ps.length), Reads w w.heap.size 2 ps[k].a ps[k].n ps[k].xs ∧ ∀ u ∈ ps[k].xs, u.oneCell' = true from fun k hk => hr _ (List.getElem_mem hk))
  have HL := hide (fun k => parN_le ps k)
  have HNS := hide (fun k hk => parN_succ ps k hk)
  have HXS := hide (fun k hk => parX_succ ps k hk)
  have HT := hide (show parN (ps.take m) = parN ps ∧ parX (ps.take m) = parX ps by rw [← hm, List.take_length]; exact ⟨rfl, rfl⟩)
  have HM := hide hm
  obtain ⟨N, hNe⟩ : ∃ N, parN ps = N := ⟨_, rfl⟩
  rw [hNe] at hN HL HT
  rw [hNe]
  clear hs hr hm hNe
  go_enter Try.func144, Try.ntmps144
  go_wp2
  go_loop [3, 11] (fun s i => ∃ k : Nat, k ≤ m ∧ i = .int .i64 k ∧ s = .int .i64 (parN (ps.take k) : Nat)) (fun _ i => m - (intOf i).toNat)
  case atStart => exact ⟨0, Nat.zero_le _, rfl, rfl⟩
  case round =>
    obtain ⟨k, hk, rfl, rfl⟩ := hrel
    by_cases hlt : k < m
    · have hkl : k < ps.length := by rw [HM.out]; exact hlt
      obtain ⟨b, off, rfl, d⟩ := HC.out k hkl
      have h1 := HL.out k
      have h2 := HL.out (k + 1)
      have h3 := HNS.out k hkl
      rw [h3] at h2
      have H3 := hide h3
      clear h3
      obtain ⟨pa, hpa⟩ : ∃ x, ps[k].a = x := ⟨_, rfl⟩
      obtain ⟨pn, hpn⟩ : ∃ x, ps[k].n = x := ⟨_, rfl⟩
      obtain ⟨pc, hpc⟩ : ∃ x, ps[k].c = x := ⟨_, rfl⟩
      rw [hpa, hpn, hpc] at d
      rw [hpn] at h2 H3
      clear hpa hpn hpc
      obtain ⟨S, hS⟩ : ∃ S, parN (ps.take k) = S := ⟨_, rfl⟩
      rw [hS] at h1 h2 H3
      rw [hS]
      clear hS
      have hnn : ¬ ((S : Int) + (pn : Int) < 0) := by omega
      have hnd : decide ((S : Int) + (pn : Int) < 0) = false := decide_eq_false hnn
      go_wp2
      go_round
      case rel => exact ⟨k + 1, by omega, by go_num, by rw [H3.out]; go_num⟩
      case measure => simp [intOf]; omega
    · have hkm : parN (ps.take k) = N := by rw [(by omega : k = m)]; exact HT.out.1
      rw [hkm]
      clear hkm
      go_wp2_with (go_at_call 181; go_must (refine (grow_gauss N _ hN).mono ?_; rintro e w1 ⟨B0, c0, rfl, ho1, hb1⟩; have HO := hide ho1; have HB := hide hb1; clear ho1 hb1; simp only []))
      go_loopw [6, 27] (fun s i wr => ∃ (j : Nat) (B : Option Addr) (cB : Nat), j ≤ m ∧ i = .int .i64 j ∧ s = .slice B (parN (ps.take j)) cB ∧ wr.ownsRow w.heap.size 30 2 (.slice B (parN (ps.take j)) cB) (parN (ps.take j)) (parX (ps.take j)) ∧ Below w.heap.size w wr) (fun _ i _ => m - (intOf i).toNat)
      case atStart => exact ⟨0, B0, c0, Nat.zero_le _, rfl, rfl, HO.out, HB.out⟩
      case round =>
        clear HO HB
        obtain ⟨j, B, cB, hj, rfl, rfl, hrow, hbel⟩ := hrel
        by_cases hlt2 : j < m
        · have hkl : j < ps.length := by rw [HM.out]; exact hlt2
          obtain ⟨b, off, rfl, d⟩ := HC.out j hkl
          have d1 := (hbel.cell (p := ⟨b, off + j, none⟩) (lt_of_cell d)).trans d
          have h1 := HL.out j
          have h2 := HL.out (j + 1)
          have h3 := HNS.out j hkl
          have h4 := hide (HXS.out j hkl)
          have hrd := hide ((HR.out j hkl).1.below hbel)
          have hone := hide (HR.out j hkl).2
          rw [h3] at h2
          have H3 := hide h3
          have hbz := hbel.size
          clear h3 d
          obtain ⟨pa, hpa⟩ : ∃ x, ps[j].a = x := ⟨_, rfl⟩
          obtain ⟨pn, hpn⟩ : ∃ x, ps[j].n = x := ⟨_, rfl⟩
          obtain ⟨pc, hpc⟩ : ∃ x, ps[j].c = x := ⟨_, rfl⟩
          obtain ⟨px, hpx⟩ : ∃ x, ps[j].xs = x := ⟨_, rfl⟩
          rw [hpa, hpn, hpc] at d1
          rw [hpn] at h2 H3
          rw [hpa, hpn, hpx] at hrd
          rw [hpx] at hone h4
          clear hpa hpn hpc hpx
          obtain ⟨S, hS⟩ : ∃ S, parN (ps.take j) = S := ⟨_, rfl⟩
          rw [hS] at h1 h2 H3 hrow
          rw [hS]
          clear hS
          have HROW := hide hrow
          clear hrow
          go_wp2_with (at_builtin; go_must (
            refine wpList_append_any _ rfl (.tmp 31) (.tmp 32) _ rfl w.heap.size 30 i0 _ 2 16 Try.underlying83 hi0 hz0 hz1 hz2 rfl (by omega) _ S _ rfl
              HROW.out _ pa pn pc px rfl hrd.out hone.out (by simp only [maxLen]; omega) (by omega) hbz ?_
            intro v2 w2 hown2 hg2 hat2
            obtain ⟨B2, k2, rfl⟩ := own_form hown2
            have hbel2 := Below.app' hbel HROW.out hg2))
          go_roundw
          case rel => exact ⟨j + 1, B2, k2, by omega, by go_num, by rw [H3.out], by rw [H3.out, h4.out]; exact hown2, hbel2⟩
          case measure => simp [intOf]; omega
        · have hkm : parN (ps.take j) = N ∧ parX (ps.take j) = parX ps := by rw [(by omega : j = m)]; exact HT.out
          rw [hkm.1, hkm.2] at hrow
          rw [hkm.1]
          clear hkm
          go_wp2
          go_ret
          exact ⟨B, cB, rfl, hrow, hbel⟩

end Go.Proofs.Ythfmjohbokpceaa
