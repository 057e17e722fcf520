import Derived.Test.YthfmjohbokpceaaFouF
import Derived.Test.YthfmjohbokpceaaWvCB
import Derived.Test.YthfmjohbokpceaaWvEF
import Derived.Test.YthfmjohbokpceaaDftLaw
import Derived.Test.YthfmjohbokpceaaArr
import Derived.Test.YthfmjohbokpceaaFlat
namespace Go.Proofs.Ythfmjohbokpceaa

/-! four points: there and back -/
theorem fo_four (a b c d : Int × Int) : foL [a, b, c, d] true = [(a.1 + b.1 + c.1 + d.1, a.2 + b.2 + c.2 + d.2), (a.1 - b.2 - c.1 + d.2, a.2 + b.1 - c.2 - d.1), (a.1 - b.1 + c.1 - d.1, a.2 - b.2 + c.2 - d.2), (a.1 + b.2 - c.1 - d.2, a.2 - b.1 - c.2 + d.1)] := by
  simp only [foL, fo, cp, uI, cmul, cadd, kg, if_true]
  simp
  omega
theorem fo_four_back (a b c d : Int × Int) : foL [a, b, c, d] false = [(a.1 + b.1 + c.1 + d.1, a.2 + b.2 + c.2 + d.2), (a.1 + b.2 - c.1 - d.2, a.2 - b.1 - c.2 + d.1), (a.1 - b.1 + c.1 - d.1, a.2 - b.2 + c.2 - d.2), (a.1 - b.2 - c.1 + d.2, a.2 + b.1 - c.2 - d.1)] := by
  simp only [foL, fo, cp, uI, cmul, cadd, kg]
  simp
  omega
theorem four_list {x : List (Int × Int)} (h : x.length = 4) : ∃ a b c d, x = [a, b, c, d] := by
  match x, h with
  | [a, b, c, d], _ => exact ⟨a, b, c, d, rfl⟩
theorem fo_back {x : List (Int × Int)} (h : x.length = 4) : foL (foL x true) false = x.map fun z => (4 * z.1, 4 * z.2) := by
  obtain ⟨a, b, c, d, rfl⟩ := four_list h
  rw [fo_four, fo_four_back]
  simp
  omega
end Go.Proofs.Ythfmjohbokpceaa

namespace Go.Proofs.Ythfmjohbokpceaa

/-! four points: the energy of a difference -/
theorem foL_len (x : List (Int × Int)) (s : Bool) : (foL x s).length = 4 := rfl
theorem entE_of {z : Int × Int} (h : -10000 ≤ z.1 ∧ z.1 ≤ 10000 ∧ -10000 ≤ z.2 ∧ z.2 ≤ 10000) : entE z = 0 := by
  have : entB 10000 z = true := (entB_iff 10000 z).mpr h
  unfold entE unlessE
  rw [this]; rfl
theorem foL_ent {x : List (Int × Int)} (h4 : x.length = 4) (h : ∀ z ∈ x, entB 2500 z = true) : ∀ z ∈ foL x true, entE z = 0 := by
  obtain ⟨a, b, c, d, rfl⟩ := four_list h4
  have h1 := (entB_iff _ _).mp (h a (by simp))
  have h2 := (entB_iff _ _).mp (h b (by simp))
  have h3 := (entB_iff _ _).mp (h c (by simp))
  have h5 := (entB_iff _ _).mp (h d (by simp))
  rw [fo_four]
  intro z hz
  simp only [List.mem_cons, List.not_mem_nil, or_false] at hz
  rcases hz with rfl | rfl | rfl | rfl <;> exact entE_of (by dsimp only; omega)
theorem esum_four {x y : List (Int × Int)} (hx : x.length = 4) (hy : y.length = 4) : esum (foL x true) (foL y true) 4 = 4 * esum x y 4 := by
  obtain ⟨a, b, c, d, rfl⟩ := four_list hx
  obtain ⟨a', b', c', d', rfl⟩ := four_list hy
  rw [fo_four, fo_four]
  simp only [esum, kg]
  simp
  grind
end Go.Proofs.Ythfmjohbokpceaa

namespace Go.Proofs.Ythfmjohbokpceaa

/-! there and back over eight points, and no energy lost -/
def gnS (x : List (Int × Int)) : Nat → Int
  | 0 => 0
  | k + 1 => gnS x k + ((kg x k).1 * (kg x k).1 + (kg x k).2 * (kg x k).2)
def spS (x : List Nm) : Nat → Int
  | 0 => 0
  | k + 1 => spS x k + sqP (kn x k)
def sqS (x : List Nm) : Nat → Int
  | 0 => 0
  | k + 1 => sqS x k + sqQ (kn x k)
theorem nmul_self (z : Nm) : (nmul z (nconj z)).1 = sqP z ∧ (nmul z (nconj z)).2.1 = sqQ z := by
  obtain ⟨a, b, c, d⟩ := z
  unfold nmul nconj sqP sqQ
  dsimp only
  constructor <;> grind
theorem nmul_ent (g : Int × Int) : (nsc 8 (nmul (ent g) (nconj (ent g)))).1 = 8 * (g.1 * g.1 + g.2 * g.2) ∧ (nsc 8 (nmul (ent g) (nconj (ent g)))).2.1 = 0 := by
  obtain ⟨a, b⟩ := g
  unfold nsc nmul nconj ent
  dsimp only
  constructor <;> grind
theorem smp_at (x : List (Int × Int)) (n : Nat) (hn : n < 8) : kn (smpL x 8) n = ssum x n 8 := by
  unfold kn smpL; rw [tab_at _ hn]; rfl
theorem energy_sum (f : Nat → Nm) : ∀ n, (nsum f (n + 1)).1 = (nsum f n).1 + (f n).1 ∧ (nsum f (n + 1)).2.1 = (nsum f n).2.1 + (f n).2.1 := fun _ => ⟨rfl, rfl⟩
theorem sp_nsum (l : List Nm) : ∀ n, spS l n = (nsum (fun k => nmul (kn l k) (nconj (kn l k))) n).1 ∧ sqS l n = (nsum (fun k => nmul (kn l k) (nconj (kn l k))) n).2.1
  | 0 => ⟨rfl, rfl⟩
  | n + 1 => by
    obtain ⟨h1, h2⟩ := sp_nsum l n
    obtain ⟨e1, e2⟩ := energy_sum (fun k => nmul (kn l k) (nconj (kn l k))) n
    obtain ⟨s1, s2⟩ := nmul_self (kn l n)
    rw [e1, e2, ← h1, ← h2]
    rw [s1, s2]
    exact ⟨rfl, rfl⟩
theorem gn_nsum (x : List (Int × Int)) : ∀ n, 8 * gnS x n = (nsum (fun j => nsc 8 (nmul (ent (kg x j)) (nconj (ent (kg x j))))) n).1 ∧ 0 = (nsum (fun j => nsc 8 (nmul (ent (kg x j)) (nconj (ent (kg x j))))) n).2.1
  | 0 => ⟨rfl, rfl⟩
  | n + 1 => by
    obtain ⟨h1, h2⟩ := gn_nsum x n
    obtain ⟨e1, e2⟩ := energy_sum (fun j => nsc 8 (nmul (ent (kg x j)) (nconj (ent (kg x j))))) n
    obtain ⟨s1, s2⟩ := nmul_ent (kg x n)
    rw [e1, e2, ← h1, ← h2]
    rw [s1, s2]
    refine ⟨?_, rfl⟩
    show 8 * (gnS x n + ((kg x n).1 * (kg x n).1 + (kg x n).2 * (kg x n).2)) = _
    omega
theorem energy (x : List (Int × Int)) : spS (smpL x 8) 8 = 8 * gnS x 8 ∧ sqS (smpL x 8) 8 = 0 := by
  obtain ⟨h1, h2⟩ := sp_nsum (smpL x 8) 8
  obtain ⟨g1, g2⟩ := gn_nsum x 8
  have hp := parseval8 (fun j => ent (kg x j))
  have hc : nsum (fun k => nmul (kn (smpL x 8) k) (nconj (kn (smpL x 8) k))) 8 = nsum (fun n => nmul (nsum (fun j => tni (ent (kg x j)) ((j : Int) * (n : Int))) 8) (nconj (nsum (fun j => tni (ent (kg x j)) ((j : Int) * (n : Int))) 8))) 8 :=
    nsum_congr fun n hn => by rw [smp_at x n hn]; rfl
  rw [h1, h2, hc, hp, ← g1, ← g2]
  exact ⟨rfl, rfl⟩
theorem sp_back {x : List (Int × Int)} (h8 : x.length = 8) : spOut (trL (smpL x 8) 8) = .tuple #[.agg (gv x).toArray, .int .i64 0] := by
  have ht : ∀ k, k < 8 → tsm (smpL x 8) k 8 = nsc 8 (ent (kg x k)) := fun k hk => by
    rw [← orth8 (fun j => ent (kg x j)) k hk]
    exact nsum_congr fun n hn => by rw [smp_at x n hn]; rfl
  have hv : ∀ g : Int × Int, spB (nsc 8 (ent g)) = true ∧ spV (nsc 8 (ent g)) = g := fun g => by
    obtain ⟨a, b⟩ := g
    unfold spB spV nsc ent
    simp
  have h1 : (trL (smpL x 8) 8).all spB = true := by
    rw [List.all_eq_true]
    intro z hz
    obtain ⟨k, hk, rfl⟩ := mem_tab hz
    rw [ht k hk]
    exact (hv _).1
  have h2 : (trL (smpL x 8) 8).map spV = x := by
    refine List.ext_getElem (by simp [trL, tab_len, h8]) fun i hi hi' => ?_
    have hi8 : i < 8 := by omega
    have e : (trL (smpL x 8) 8)[i]? = some (tsm (smpL x 8) i 8) := tab_at _ hi8
    obtain ⟨_, e2⟩ := List.getElem?_eq_some_iff.1 e
    rw [List.getElem_map, e2, ht i hi8, (hv _).2, kg_at hi']
  rw [spOut_good h1, h2, garr_full x 8 h8]
theorem smp_le {x : List (Int × Int)} (h : ∀ z ∈ x, entE z = 0) (n : Nat) (hn : n < 8) : nle 80000 (kn (smpL x 8) n) := by rw [smp_at x n hn]; exact nle_mono (ssum_le h n 8) (by decide)
theorem smp_num {x : List (Int × Int)} (h : ∀ z ∈ x, entE z = 0) : eachE numE (smpL x 8) = 0 := by
  refine eachE_zero fun z hz => ?_
  obtain ⟨k, hk, rfl⟩ := mem_tab hz
  have h1 : nle 1000000000 (ssum x k 8) := nle_mono (ssum_le h k 8) (by decide)
  have h2 := (fitsB_iff 1000000000 _).mpr h1
  unfold numE unlessE
  rw [h2]; rfl
theorem sq_le {z : Nm} (h : nle 80000 z) : 0 ≤ sqP z ∧ sqP z ≤ 25600000000 ∧ -25600000000 ≤ sqQ z ∧ sqQ z ≤ 25600000000 := by
  obtain ⟨a, b, c, d⟩ := z
  unfold nle at h
  unfold sqP sqQ
  dsimp only at *
  obtain ⟨a1, a2, b1, b2, c1, c2, d1, d2⟩ := h
  have m : ∀ u v : Int, -80000 ≤ u → u ≤ 80000 → -80000 ≤ v → v ≤ 80000 → -6400000000 ≤ u * v ∧ u * v ≤ 6400000000 := fun u v h1 h2 h3 h4 => mul_le_size h1 h2 h3 h4
  have s : ∀ u : Int, 0 ≤ u * u := fun u => by
    rcases Int.le_total 0 u with h | h
    · exact Int.mul_nonneg h h
    · have := Int.mul_nonneg (show 0 ≤ -u by omega) (show 0 ≤ -u by omega); rwa [Int.neg_mul_neg] at this
  have := m a a a1 a2 a1 a2
  have := m b b b1 b2 b1 b2
  have := m c c c1 c2 c1 c2
  have := m d d d1 d2 d1 d2
  have := m a b a1 a2 b1 b2
  have := m b c b1 b2 c1 c2
  have := m c d c1 c2 d1 d2
  have := m a d a1 a2 d1 d2
  have := s a
  have := s b
  have := s c
  have := s d
  omega
theorem sp_bd {x : List (Int × Int)} (h : ∀ z ∈ x, entE z = 0) : ∀ k : Nat, k < 9 → 0 ≤ spS (smpL x 8) k ∧ spS (smpL x 8) k ≤ k * 25600000000 ∧ -(k * 25600000000) ≤ sqS (smpL x 8) k ∧ sqS (smpL x 8) k ≤ k * 25600000000
  | 0, _ => by simp [spS, sqS]
  | k + 1, hk => by
    have a := sp_bd h k (by omega)
    have b := sq_le (smp_le h k (by omega))
    unfold spS sqS
    push_cast
    omega
theorem gn_bd {x : List (Int × Int)} (h : ∀ z ∈ x, entE z = 0) : ∀ k : Nat, 0 ≤ gnS x k ∧ gnS x k ≤ k * 200000000
  | 0 => by simp [gnS]
  | k + 1 => by
    have a := gn_bd h k
    have b := kg_le h k
    obtain ⟨p1, q1⟩ := mul_le_size b.1 b.2.1 b.1 b.2.1
    obtain ⟨p2, q2⟩ := mul_le_size b.2.2.1 b.2.2.2 b.2.2.1 b.2.2.2
    have s : ∀ u : Int, 0 ≤ u * u := fun u => by
      rcases Int.le_total 0 u with h | h
      · exact Int.mul_nonneg h h
      · have := Int.mul_nonneg (show 0 ≤ -u by omega) (show 0 ≤ -u by omega); rwa [Int.neg_mul_neg] at this
    have s1 := s (kg x k).1
    have s2 := s (kg x k).2
    unfold gnS
    push_cast
    omega
end Go.Proofs.Ythfmjohbokpceaa

namespace Go.Proofs.Ythfmjohbokpceaa
open Go.RowKit Go.WideShapes Go.ChangeShapes

/-! the statement WaveBack -/
theorem gnorm_baseB (a b : Int) (w : World) (h : -1000000000 ≤ a ∧ a ≤ 1000000000 ∧ -1000000000 ≤ b ∧ b ≤ 1000000000) :
    Calls Try.prog 103 #[.agg #[.int .i64 a, .int .i64 b]] w fun e w' => e = .returned (.int .i64 (a * a + b * b)) ∧ Below w.heap.size w w' := by
  obtain ⟨h1, h2, h3, h4⟩ := h
  obtain ⟨m1, m2⟩ := mul_le_size h1 h2 h1 h2
  obtain ⟨m3, m4⟩ := mul_le_size h3 h4 h3 h4
  go_enter Try.func103, Try.ntmps103
  go_wp2
  go_ret
  exact ⟨rfl, by go_grown⟩
theorem slice_ga4_u : Try.prog.underlying 105 = some (.array (Try.prog.arrayLen 105) (Try.prog.elem 105)) := by kernel_rfl
theorem slice_ga4 (w : World) (a : Addr) : (Instr.sliceAt 105 (.pointer (some a)) none none none).run Try.prog w = .ok (.slice (some a) 4 4) w := by
  rw [run_sliceAt_array_all w _ a slice_ga4_u, show Try.prog.arrayLen 105 = 4 by kernel_rfl, show Try.prog.elem 105 = 30 by kernel_rfl, size_ga]
  simp [go_sem, slicedAt]
theorem sqB_le {p q : Int} (h : 0 ≤ p ∧ p ≤ 25600000000 ∧ -25600000000 ≤ q ∧ q ≤ 25600000000) : sqB p q = true := by
  unfold sqB withinB
  simp
  omega
theorem foE_of {x : List (Int × Int)} (h : ∀ z ∈ x, entB 2500 z = true) : eachE foE x = 0 := by
  refine eachE_zero fun z hz => ?_
  have h1 := (entB_iff _ _).mp (h z hz)
  have h2 : entB 1000000000 z = true := (entB_iff _ _).mpr (by omega)
  unfold foE unlessE
  rw [h2]; rfl
theorem ent_of25 {x : List (Int × Int)} (h : ∀ z ∈ x, entB 2500 z = true) : ∀ z ∈ x, entE z = 0 := fun z hz => by
  have h1 := (entB_iff _ _).mp (h z hz)
  exact entE_of (by omega)
theorem erE_of {x y : List (Int × Int)} (h4 : x.length = 4) (h4' : y.length = 4) (h : ∀ z ∈ x, entE z = 0) (h' : ∀ z ∈ y, entE z = 0) : erE x y = 0 := by
  unfold erE
  rw [if_neg (by omega), if_neg (by omega)]
  refine eachE_zero fun z hz => ?_
  rcases List.mem_append.1 hz with k | k
  · exact h z k
  · exact h' z k
theorem all_snoc {x : List (Int × Int)} {i : Nat} (hi : i < x.length) (h : ∀ z ∈ x.take i, entB 2500 z = true) (h1 : entB 2500 (kg x i) = true) : ∀ z ∈ x.take (i + 1), entB 2500 z = true := fun z hz => by
  rw [List.take_succ_eq_append_getElem hi, List.mem_append] at hz
  rcases hz with k | k
  · exact h z k
  · rw [List.mem_singleton.1 k, ← kg_at hi]; exact h1
set_option maxRecDepth 100000 in
set_option maxHeartbeats 20000000 in
theorem WaveBack_law (x : List (Int × Int)) (hx8 : x.length = 8) (y : List (Int × Int)) (hy4 : y.length = 4) (z : List (Int × Int)) (hz4 : z.length = 4) (w : World) :
    Calls Try.prog 18 #[.agg (gv x).toArray, .agg (gv y).toArray, .agg (gv z).toArray] w fun e w' => e = .returned (.bool true) ∧ Below w.heap.size w w' := by
  have hsl1 := slice_ga8
  have hsl2 := slice_ga4
  have HEE := hide (fun W g (h : Blk W g 137 (gv x).toArray) => by have := errGauss (some ⟨g, 0, none⟩) 8 x W h.sl (by omega); rw [hx8] at this; exact this)
  have HXC := hide (fun W g (h : Blk W g 137 (gv x).toArray) k (hk : k < 8) => h.gcell (k := k) (by omega))
  have HYC := hide (fun W g (h : Blk W g 105 (gv y).toArray) k (hk : k < 4) => h.gcell (k := k) (by omega))
  have HZC := hide (fun W g (h : Blk W g 105 (gv z).toArray) k (hk : k < 4) => h.gcell (k := k) (by omega))
  have HXZ := hide (show (gv x).toArray.size = 16 by simp [gv_len, hx8])
  have HYZ := hide (show (gv y).toArray.size = 8 by simp [gv_len, hy4])
  have HZZ := hide (show (gv z).toArray.size = 8 by simp [gv_len, hz4])
  have HX1 := hide (show (gv x).toArray.all (·.oneCell') = true by rw [← garr_full x 8 hx8]; exact garr_one _ _)
  have HQX := hide (show ∀ w, (binOp .neq 137 (.agg (gv x).toArray) (.agg (gv x).toArray)).run Try.prog w = .ok (.bool false) w by rw [← garr_full x 8 hx8]; exact ga8_neq _ (by omega))
  have HT0 := hide ((((stay_blk (((Blk.new w 137 (gv x).toArray).alloc (.cells (gv y).toArray 105)).alloc (.cells (gv z).toArray 105))).and (stay_blk (show Blk (((w.alloc (.cells (gv x).toArray 137)).alloc (.cells (gv y).toArray 105)).alloc (.cells (gv z).toArray 105)) (w.heap.size + 1) 105 (gv y).toArray from (Blk.newN (w.alloc (.cells (gv x).toArray 137)) 105 _ (by simp)).alloc _))).and (stay_blk (show Blk (((w.alloc (.cells (gv x).toArray 137)).alloc (.cells (gv y).toArray 105)).alloc (.cells (gv z).toArray 105)) (w.heap.size + 2) 105 (gv z).toArray from Blk.newN ((w.alloc (.cells (gv x).toArray 137)).alloc (.cells (gv y).toArray 105)) 105 _ (by simp)))).and (stay_below (show Below w.heap.size w (((w.alloc (.cells (gv x).toArray 137)).alloc (.cells (gv y).toArray 105)).alloc (.cells (gv z).toArray 105)) from by go_grown)))
  by_cases hE : eachE entE x = 0
  case neg =>
    have hq : (eachE entE x != 0) = true := by rw [bne_iff_ne]; exact hE
    obtain ⟨E, hE2⟩ : ∃ E, eachE entE x = E := ⟨_, rfl⟩
    rw [hE2] at HEE hq
    obtain ⟨X, hX⟩ : ∃ X, (gv x).toArray = X := ⟨_, rfl⟩
    obtain ⟨Y, hY⟩ : ∃ Y, (gv y).toArray = Y := ⟨_, rfl⟩
    obtain ⟨Z, hZ⟩ : ∃ Z, (gv z).toArray = Z := ⟨_, rfl⟩
    rw [hX, hY, hZ] at HT0
    rw [hX] at HEE
    rw [hX, hY, hZ]
    clear hE hE2 hX hY hZ HXC HYC HZC HXZ HYZ HZZ HX1 HQX hx8 hy4 hz4
    go_enter Try.func18, Try.ntmps18
    go_wp2_with (first
      | (go_at_call 20; go_must (refine (awake_ok _).mono ?_; rintro e w1 ⟨rfl, hb⟩; have HT := hide (HT0.out.step hb); clear hb; simp only []))
      | (go_at_call 59; go_must (refine (HEE.out _ _ HT.out.now.1.1.1).mono ?_; rintro e w5 ⟨rfl, hb⟩; replace HT := hide (HT.out.step hb); (try replace HA := hide (HA.out.step hb)); (try replace HC := hide (HC.out.step hb)); (try replace HS := hide (HS.out.step hb)); (try replace HL := hide (HL.out.step hb)); (try replace HFY := hide (HFY.out.step hb)); (try replace HFZ := hide (HFZ.out.step hb)); clear hb; simp only [])))
    go_ret
    exact ⟨rfl, HT.out.now.2⟩
  case pos =>
    have hxl := eachE_ok hE
    rw [hE] at HEE
    have HSA := hide (fun W => Samples_ok x W hx8 hE)
    have HSP := hide (fun W => by have := Spectrum_wave (smpL x 8) W (tab_len _ 8) (smp_num hxl); rw [sp_back hx8] at this; exact this)
    have HAC := hide (fun W g (h : Blk W g 96 (nvs (smpL x 8)).toArray) k (hk : k < 8) => h.ncell (k := k) (show k < (smpL x 8).length by rw [show (smpL x 8).length = 8 from tab_len _ 8]; exact hk))
    have HAZ := hide (show (nvs (smpL x 8)).toArray.size = 32 by simp [nvs_len, smpL, tab_len])
    have HA1 := hide (show (nvs (smpL x 8)).toArray.all (·.oneCell') = true by rw [← numArr_full (smpL x 8) 8 (tab_len _ 8)]; exact numArr_one _ _)
    have HSL := hide (fun k (hk : k < 8) => sq_le (smp_le hxl k hk))
    have HSQ := hide (fun k (hk : k < 8) W => SquareOf_ok (kn (smpL x 8) k) W ((fitsB_iff _ _).mpr (nle_mono (smp_le hxl k hk) (by decide))))
    have HSB := hide (sp_bd hxl)
    have HGB := hide (gn_bd hxl)
    have HKB := hide (kg_le hxl)
    have HEN := hide (energy x)
    have HS1 := hide (show ∀ k, spS (smpL x 8) (k + 1) = spS (smpL x 8) k + sqP (kn (smpL x 8) k) from fun _ => rfl)
    have HS2 := hide (show ∀ k, sqS (smpL x 8) (k + 1) = sqS (smpL x 8) k + sqQ (kn (smpL x 8) k) from fun _ => rfl)
    have HS3 := hide (show ∀ k, gnS x (k + 1) = gnS x k + ((kg x k).1 * (kg x k).1 + (kg x k).2 * (kg x k).2) from fun _ => rfl)
    have HS0 := hide (show spS (smpL x 8) 0 = 0 ∧ sqS (smpL x 8) 0 = 0 ∧ gnS x 0 = 0 from ⟨rfl, rfl, rfl⟩)
    have HYL := hide hy4
    have HZL := hide hz4
    obtain ⟨S, hS⟩ : ∃ S, smpL x 8 = S := ⟨_, rfl⟩
    rw [hS] at HSA HSP HAC HAZ HA1 HSL HSQ HSB HEN HS1 HS2 HS0
    obtain ⟨A, hA⟩ : ∃ A, (nvs S).toArray = A := ⟨_, rfl⟩
    rw [hA] at HSA HSP HAC HAZ HA1
    obtain ⟨X, hX⟩ : ∃ X, (gv x).toArray = X := ⟨_, rfl⟩
    obtain ⟨Y, hY⟩ : ∃ Y, (gv y).toArray = Y := ⟨_, rfl⟩
    obtain ⟨Z, hZ⟩ : ∃ Z, (gv z).toArray = Z := ⟨_, rfl⟩
    have HYE := hide hY
    have HZE := hide hZ
    rw [hX, hY, hZ] at HT0
    rw [hX] at HEE HXC HXZ HX1 HQX HSA HSP
    rw [hY] at HYC HYZ
    rw [hZ] at HZC HZZ
    rw [hX, hY, hZ]
    have hqx := HQX.out
    clear hE hS hA hX hY hZ hxl hx8 hy4 hz4
    go_enter Try.func18, Try.ntmps18
    go_wp2_with (first
      | (go_at_call 20; go_must (refine (awake_ok _).mono ?_; rintro e w1 ⟨rfl, hb⟩; have HT := hide (HT0.out.step hb); clear hb; simp only []))
      | (go_at_call 59; go_must (refine (HEE.out _ _ HT.out.now.1.1.1).mono ?_; rintro e w5 ⟨rfl, hb⟩; replace HT := hide (HT.out.step hb); (try replace HA := hide (HA.out.step hb)); (try replace HC := hide (HC.out.step hb)); (try replace HS := hide (HS.out.step hb)); (try replace HL := hide (HL.out.step hb)); (try replace HFY := hide (HFY.out.step hb)); (try replace HFZ := hide (HFZ.out.step hb)); clear hb; simp only []))
      | (refine wpList_load_rowG 137 (.tmp 9) rfl (by rfl) (w4.heap.size) rfl 137 X _ HC.out.now Try.underlying137 rfl (by rw [HXZ.out]; kernel_rfl) ?_)
      | (refine wpList_load_rowG 137 (.tmp 3) rfl (by rfl) (w.heap.size) rfl 137 X _ HT.out.now.1.1.1 Try.underlying137 rfl (by rw [HXZ.out]; kernel_rfl) ?_)
      | (refine wpList_load_row rfl 137 (.tmp 3) rfl (w.heap.size) rfl 137 X (0, 0) _ HT.out.now.1.1.1 Try.underlying137 rfl (by rw [HXZ.out]; kernel_rfl) ?_)
      | (go_at_call 88; go_must (refine (HSA.out _).mono ?_; rintro e w2 ⟨rfl, hb⟩; replace HT := hide (HT.out.step hb); (try replace HA := hide (HA.out.step hb)); (try replace HC := hide (HC.out.step hb)); (try replace HS := hide (HS.out.step hb)); (try replace HL := hide (HL.out.step hb)); (try replace HFY := hide (HFY.out.step hb)); (try replace HFZ := hide (HFZ.out.step hb)); clear hb; simp only []))
      | (refine wpList_store_row rfl 96 (.tmp 7) (.tmp 34) rfl w2.heap.size A rfl rfl 96 (numArr [] 8) (Blk.new w2 _ _) (by rw [HAZ.out]; kernel_rfl) (by rw [HAZ.out]; rfl) HA1.out ?_; have hrow : Below w2.heap.size w2 ((w2.alloc (.cells (numArr [] 8) 96)).setRow w2.heap.size A) := Below.row ((Below.refl _ _).alloc (Nat.le_refl _) _) (Nat.le_refl _) _; replace HT := hide (HT.out.step hrow); (try replace HA := hide (HA.out.step hrow)); (try replace HC := hide (HC.out.step hrow)); (try replace HS := hide (HS.out.step hrow)); (try replace HL := hide (HL.out.step hrow)); (try replace HFY := hide (HFY.out.step hrow)); (try replace HFZ := hide (HFZ.out.step hrow)); clear hrow; have HA := hide (stay_blk ((Blk.new w2 96 (numArr [] 8)).row A)))
      | (refine wpList_load_row rfl 96 (.tmp 7) rfl (w2.heap.size) rfl 96 A (0, 0) _ HA.out.now Try.underlying96 rfl (by rw [HAZ.out]; kernel_rfl) ?_)
      | (go_at_call 90; go_must (refine (HSP.out _).mono ?_; rintro e w4 ⟨rfl, hb⟩; replace HT := hide (HT.out.step hb); (try replace HA := hide (HA.out.step hb)); (try replace HC := hide (HC.out.step hb)); (try replace HS := hide (HS.out.step hb)); (try replace HL := hide (HL.out.step hb)); (try replace HFY := hide (HFY.out.step hb)); (try replace HFZ := hide (HFZ.out.step hb)); clear hb; simp only []))
      | (refine wpList_store_row rfl 137 (.tmp 9) (.tmp 39) rfl w4.heap.size X rfl rfl 137 (garr [] 8) (Blk.new w4 _ _) (by rw [HXZ.out]; kernel_rfl) (by rw [HXZ.out]; rfl) HX1.out ?_; have hrow : Below w4.heap.size w4 ((w4.alloc (.cells (garr [] 8) 137)).setRow w4.heap.size X) := Below.row ((Below.refl _ _).alloc (Nat.le_refl _) _) (Nat.le_refl _) _; replace HT := hide (HT.out.step hrow); (try replace HA := hide (HA.out.step hrow)); (try replace HC := hide (HC.out.step hrow)); (try replace HS := hide (HS.out.step hrow)); (try replace HL := hide (HL.out.step hrow)); (try replace HFY := hide (HFY.out.step hrow)); (try replace HFZ := hide (HFZ.out.step hrow)); clear hrow; have HC := hide (stay_blk ((Blk.new w4 137 (garr [] 8)).row X))))
    clear HSA HSP HEE HX1 HQX hqx HT0 HAZ HXZ HA1 hsl1 HC
    obtain ⟨u, hu⟩ : ∃ W, (w4.alloc (.cells (garr [] 8) 137)).setRow w4.heap.size X = W := ⟨_, rfl⟩
    rw [hu] at HT HA
    rw [show (w4.alloc (.cells #[.int .i64 0, .int .i64 0, .int .i64 0, .int .i64 0, .int .i64 0, .int .i64 0, .int .i64 0, .int .i64 0, .int .i64 0, .int .i64 0, .int .i64 0, .int .i64 0, .int .i64 0, .int .i64 0, .int .i64 0, .int .i64 0] 137)).setRow w4.heap.size X = u from hu]
    clear hu
    obtain ⟨ga, hga⟩ : ∃ g, w2.heap.size = g := ⟨_, rfl⟩
    rw [hga] at HA ⊢
    obtain ⟨gc, hgc⟩ : ∃ g, w4.heap.size = g := ⟨_, rfl⟩
    rw [hgc]
    clear hga hgc
    go_loopw [11, 12, 13, 14] (fun p q s i wr => ∃ k : Nat, k ≤ 8 ∧ i = .int .i64 k ∧ p = .int .i64 (spS S k) ∧ q = .int .i64 (sqS S k) ∧ s = .int .i64 (gnS x k) ∧ Below u.heap.size u wr) (fun _ _ _ i _ => 8 - (intOf i).toNat)
    case atStart => exact ⟨0, by omega, rfl, by rw [HS0.out.1], by rw [HS0.out.2.1], by rw [HS0.out.2.2], Below.refl _ _⟩
    case round =>
      obtain ⟨k, hk, rfl, rfl, rfl, rfl, hbel⟩ := hrel
      replace HT := hide (HT.out.step hbel)
      replace HA := hide (HA.out.step hbel)
      have HL := hide (stay_below hbel)
      clear hbel
      by_cases hlt : k < 8
      · have hd : decide ((k : Int) < 8) = true := by rw [decide_eq_true_iff]; omega
        have hac := HAC.out
        have HACK := hide (fun W h => HAC.out W ga h k hlt)
        have HXCK := hide (fun W h => HXC.out W w.heap.size h k hlt)
        obtain ⟨a0, a1, a2, a3⟩ := HACK.out wr HA.out.now
        have HSQK := hide (HSQ.out k hlt)
        obtain ⟨s0, s1, s2, s3⟩ := HSL.out k hlt
        obtain ⟨b0, b1, b2, b3⟩ := HSB.out k (by omega)
        obtain ⟨g0, g1⟩ := HGB.out k
        have hkb := HKB.out k
        have HSER := hide (fun W => by have := squaresErr_ref (sqP (kn S k)) (sqQ (kn S k)) W; rw [sqB_le ⟨s0, s1, s2, s3⟩] at this; exact this)
        have HN1 := hide (HS1.out k)
        have HN2 := hide (HS2.out k)
        have HN3 := hide (HS3.out k)
        have HNO := hide (fun W => gnorm_baseB (kg x k).1 (kg x k).2 W (by omega))
        obtain ⟨q1, q2⟩ := mul_le_size hkb.1 hkb.2.1 hkb.1 hkb.2.1
        obtain ⟨q3, q4⟩ := mul_le_size hkb.2.2.1 hkb.2.2.2 hkb.2.2.1 hkb.2.2.2
        obtain ⟨N, hN⟩ : ∃ N, (kg x k).1 * (kg x k).1 + (kg x k).2 * (kg x k).2 = N := ⟨_, rfl⟩
        have n1 : N ≤ 1000000000 ∧ -1000000000 ≤ N := by omega
        rw [hN] at HNO HN3
        obtain ⟨G, hG⟩ : ∃ G, kg x k = G := ⟨_, rfl⟩
        rw [hG] at HXCK HNO
        obtain ⟨P1, hP1⟩ : ∃ P, sqP (kn S k) = P := ⟨_, rfl⟩
        obtain ⟨Q1, hQ1⟩ : ∃ P, sqQ (kn S k) = P := ⟨_, rfl⟩
        rw [hP1] at HSQK HSER HN1 s0 s1
        rw [hQ1] at HSQK HSER HN2 s2 s3
        obtain ⟨nn, hnn⟩ : ∃ n, kn S k = n := ⟨_, rfl⟩
        rw [hnn] at HACK HSQK a0 a1 a2 a3
        obtain ⟨Pk, hPk⟩ : ∃ P, spS S k = P := ⟨_, rfl⟩
        obtain ⟨Qk, hQk⟩ : ∃ P, sqS S k = P := ⟨_, rfl⟩
        obtain ⟨Gk, hGk⟩ : ∃ P, gnS x k = P := ⟨_, rfl⟩
        rw [hPk] at HN1 b0 b1
        rw [hQk] at HN2 b2 b3
        rw [hGk] at HN3 g0 g1
        rw [hPk, hQk, hGk]
        have i1 : IntKind.i64.wrap (Pk + P1) = Pk + P1 := IntWalk.i64_in _ (by omega)
        have i2 : IntKind.i64.wrap (Qk + Q1) = Qk + Q1 := IntWalk.i64_in _ (by omega)
        have i3 : IntKind.i64.wrap (Gk + N) = Gk + N := IntWalk.i64_in _ (by omega)
        have k0 : (0 : Int) ≤ (k : Int) := by omega
        have k1 : (k : Int) < 8 := by omega
        clear hac hN hG hP1 hQ1 hnn hPk hQk hGk hkb q1 q2 q3 q4 HS1 HS2 HS3 HSL HSQ HSB HGB HKB HEN HS0 HAC HXC HYC HZC HYL HZL HYE HZE HYZ HZZ
        go_wp2_with (first
          | (go_at_call 28; go_must (refine (HSQK.out _).mono ?_; rintro e w6 ⟨rfl, hb⟩; replace HT := hide (HT.out.step hb); (try replace HA := hide (HA.out.step hb)); (try replace HC := hide (HC.out.step hb)); (try replace HS := hide (HS.out.step hb)); (try replace HL := hide (HL.out.step hb)); (try replace HFY := hide (HFY.out.step hb)); (try replace HFZ := hide (HFZ.out.step hb)); clear hb; have HSB := hide (stay_new w6 47 #[.int .i64 P1, .int .i64 Q1]); simp only []))
          | (go_at_call 32; go_must (refine (HSER.out _).mono ?_; rintro e w7 ⟨rfl, hb⟩; have hb0 : Below w6.heap.size w6 w7 := Below.step ((Below.refl _ _).alloc (Nat.le_refl _) _) hb; replace HSB := hide (HSB.out.step hb); clear hb; replace HT := hide (HT.out.step hb0); (try replace HA := hide (HA.out.step hb0)); (try replace HC := hide (HC.out.step hb0)); (try replace HS := hide (HS.out.step hb0)); (try replace HL := hide (HL.out.step hb0)); (try replace HFY := hide (HFY.out.step hb0)); (try replace HFZ := hide (HFZ.out.step hb0)); clear hb0; simp only [])))
        obtain ⟨v7, hv7⟩ : ∃ W, w7 = W := ⟨_, rfl⟩
        rw [hv7] at HT HA HL HSB ⊢
        clear hv7
        obtain ⟨gs, hgs⟩ : ∃ g, w6.heap.size = g := ⟨_, rfl⟩
        rw [hgs] at HSB ⊢
        clear hgs a0 a1 a2 a3
        have HH0 := hide (show Below v7.heap.size v7 v7.drew from below_drewN (Below.refl _ _) 1)
        refine wp_region_held_drew (S := fun w' => Below v7.heap.size v7 w') (by kernel_rfl) HH0.out (fun hHeld => ?_)
        refine take_at (i := 0) 70 (v := .int .i64 Pk) rfl rfl (by kernel_rfl) (by kernel_rfl) (by kernel_rfl) (fun _ _ _ h => h) (Or.inl ⟨by rfl, by intro w hSw; go_simp⟩) (by assumption) ?_
        try simp only [Act.put, List.setIfInBounds_toArray, List.set_cons_zero, List.set_cons_succ]
        refine take_at (i := 1) 71 (v := .pointer (some ⟨gs, 0, none⟩)) rfl rfl (by kernel_rfl) (by kernel_rfl) (by kernel_rfl) (fun _ _ _ h => h) (Or.inl ⟨by rfl, by intro w hSw; go_simp⟩) (by assumption) ?_
        try simp only [Act.put, List.setIfInBounds_toArray, List.set_cons_zero, List.set_cons_succ]
        refine take_at (i := 2) 72 (v := .int .i64 P1) rfl rfl (by kernel_rfl) (by kernel_rfl) (by kernel_rfl) (fun _ _ _ h => h) (Or.inl ⟨by rfl, by intro w hSw; have c := (HSB.out w hSw).cell 0; go_simp⟩) (by assumption) ?_
        try simp only [Act.put, List.setIfInBounds_toArray, List.set_cons_zero, List.set_cons_succ]
        refine take_at (i := 3) 73 (v := .int .i64 (Pk + P1)) rfl rfl (by kernel_rfl) (by kernel_rfl) (by kernel_rfl) (fun _ _ _ h => h) (Or.inl ⟨by rfl, by intro w hSw; go_simp⟩) (by assumption) ?_
        try simp only [Act.put, List.setIfInBounds_toArray, List.set_cons_zero, List.set_cons_succ]
        refine take_at (i := 4) 74 (v := .int .i64 Qk) rfl rfl (by kernel_rfl) (by kernel_rfl) (by kernel_rfl) (fun _ _ _ h => h) (Or.inl ⟨by rfl, by intro w hSw; go_simp⟩) (by assumption) ?_
        try simp only [Act.put, List.setIfInBounds_toArray, List.set_cons_zero, List.set_cons_succ]
        refine take_at (i := 5) 75 (v := .pointer (some ⟨gs, 1, none⟩)) rfl rfl (by kernel_rfl) (by kernel_rfl) (by kernel_rfl) (fun _ _ _ h => h) (Or.inl ⟨by rfl, by intro w hSw; go_simp⟩) (by assumption) ?_
        try simp only [Act.put, List.setIfInBounds_toArray, List.set_cons_zero, List.set_cons_succ]
        refine take_at (i := 6) 76 (v := .int .i64 Q1) rfl rfl (by kernel_rfl) (by kernel_rfl) (by kernel_rfl) (fun _ _ _ h => h) (Or.inl ⟨by rfl, by intro w hSw; have c := (HSB.out w hSw).cell 1; go_simp⟩) (by assumption) ?_
        try simp only [Act.put, List.setIfInBounds_toArray, List.set_cons_zero, List.set_cons_succ]
        refine take_at (i := 7) 77 (v := .int .i64 (Qk + Q1)) rfl rfl (by kernel_rfl) (by kernel_rfl) (by kernel_rfl) (fun _ _ _ h => h) (Or.inl ⟨by rfl, by intro w hSw; go_simp⟩) (by assumption) ?_
        try simp only [Act.put, List.setIfInBounds_toArray, List.set_cons_zero, List.set_cons_succ]
        refine take_at (i := 8) 78 (v := .int .i64 Gk) rfl rfl (by kernel_rfl) (by kernel_rfl) (by kernel_rfl) (fun _ _ _ h => h) (Or.inl ⟨by rfl, by intro w hSw; go_simp⟩) (by assumption) ?_
        try simp only [Act.put, List.setIfInBounds_toArray, List.set_cons_zero, List.set_cons_succ]
        refine take_at (i := 9) 79 (v := .int .i64 (k : Int)) rfl rfl (by kernel_rfl) (by kernel_rfl) (by kernel_rfl) (fun _ _ _ h => h) (Or.inl ⟨by rfl, by intro w hSw; go_simp⟩) (by assumption) ?_
        try simp only [Act.put, List.setIfInBounds_toArray, List.set_cons_zero, List.set_cons_succ]
        refine take_at (i := 10) 80 (v := .pointer (some ⟨w.heap.size, k * 2, none⟩)) rfl rfl (by kernel_rfl) (by kernel_rfl) (by kernel_rfl) (fun _ _ _ h => h) (Or.inl ⟨by rfl, by intro w hSw; go_simp⟩) (by assumption) ?_
        try simp only [Act.put, List.setIfInBounds_toArray, List.set_cons_zero, List.set_cons_succ]
        refine take_at (i := 11) 81 (v := .agg #[.int .i64 G.1, .int .i64 G.2]) rfl rfl (by kernel_rfl) (by kernel_rfl) (by kernel_rfl) (fun _ _ _ h => h) (Or.inl ⟨by rfl, by intro w1 hSw; obtain ⟨c0, c1⟩ := HXCK.out w1 (HT.out w1 hSw).1.1.1; go_simp⟩) (by assumption) ?_
        try simp only [Act.put, List.setIfInBounds_toArray, List.set_cons_zero, List.set_cons_succ]
        refine wpAnyH_ready (rs := [12]) (by kernel_rfl) (by simp) ?_
        refine AllReadyH.cons rfl (fun K hK => ?_) AllReadyH.nil
        go_simp
        refine (HNO.out _).mono ?_
        rintro e w8 ⟨rfl, hb⟩
        have HH1 := hide (Below.step HH0.out hb)
        clear hb
        simp only []
        refine hK.out _ _ HH1.out (fun hHeld => ?_)
        clear hK K
        try simp only [Act.put, List.setIfInBounds_toArray, List.set_cons_zero, List.set_cons_succ]
        refine take_at (i := 13) 83 (v := .int .i64 (Gk + N)) rfl rfl (by kernel_rfl) (by kernel_rfl) (by kernel_rfl) (fun _ _ _ h => h) (Or.inl ⟨by rfl, by intro w hSw; go_simp⟩) (by assumption) ?_
        try simp only [Act.put, List.setIfInBounds_toArray, List.set_cons_zero, List.set_cons_succ]
        refine take_at (i := 14) 11 (v := .int .i64 (Pk + P1)) rfl rfl (by kernel_rfl) (by kernel_rfl) (by kernel_rfl) (fun _ _ _ h => h) (Or.inl ⟨by rfl, by intro w hSw; go_simp⟩) (by assumption) ?_
        try simp only [Act.put, List.setIfInBounds_toArray, List.set_cons_zero, List.set_cons_succ]
        refine take_at (i := 15) 12 (v := .int .i64 (Qk + Q1)) rfl rfl (by kernel_rfl) (by kernel_rfl) (by kernel_rfl) (fun _ _ _ h => h) (Or.inl ⟨by rfl, by intro w hSw; go_simp⟩) (by assumption) ?_
        try simp only [Act.put, List.setIfInBounds_toArray, List.set_cons_zero, List.set_cons_succ]
        refine take_at (i := 16) 13 (v := .int .i64 (Gk + N)) rfl rfl (by kernel_rfl) (by kernel_rfl) (by kernel_rfl) (fun _ _ _ h => h) (Or.inl ⟨by rfl, by intro w hSw; go_simp⟩) (by assumption) ?_
        try simp only [Act.put, List.setIfInBounds_toArray, List.set_cons_zero, List.set_cons_succ]
        refine wpAnyH_done (by kernel_rfl) ?_ _
        have hbx := HH1.out
        replace HL := hide (HL.out.step hbx)
        go_wp2
        go_roundw
        case rel => exact ⟨k + 1, by omega, by go_num, by rw [HN1.out], by rw [HN2.out], by rw [HN3.out], HL.out.now⟩
        case measure => simp [intOf]; omega
      · have hd : decide ((k : Int) < 8) = false := by rw [decide_eq_false_iff_not]; omega
        obtain rfl : k = 8 := by omega
        obtain ⟨e1, e2⟩ := HEN.out
        have g1 := (HGB.out 8).1
        have g2 := (HGB.out 8).2
        obtain ⟨Gk, hGk⟩ : ∃ P, gnS x 8 = P := ⟨_, rfl⟩
        rw [hGk] at e1 g1 g2
        rw [e1, e2, hGk]
        have i1 : IntKind.i64.wrap (8 * Gk) = 8 * Gk := IntWalk.i64_in _ (by omega)
        clear hGk e1 e2 HS1 HS2 HS3 HSL HSQ HSB HGB HKB HEN HS0 HAC HXC
        go_wp2
        obtain ⟨u2, hu2⟩ : ∃ u2 : World, wr = u2 := ⟨_, rfl⟩
        rw [hu2] at HT HA HL ⊢
        clear hu2 HA HL
        go_loopw [17] (fun i wr => ∃ j : Nat, j ≤ 4 ∧ i = .int .i64 j ∧ (∀ v ∈ y.take j, entB 2500 v = true) ∧ (∀ v ∈ z.take j, entB 2500 v = true) ∧ Below u2.heap.size u2 wr) (fun i _ => 4 - (intOf i).toNat)
        case atStart => exact ⟨0, by omega, rfl, by simp, by simp, Below.refl _ _⟩
        case round =>
          obtain ⟨j, hj, rfl, hyy, hzz, hbel⟩ := hrel
          replace HT := hide (HT.out.step hbel)
          have HL := hide (stay_below hbel)
          clear hbel
          by_cases hlt : j < 4
          · have hd : decide ((j : Int) < 4) = true := by rw [decide_eq_true_iff]; omega
            have HYJ := hide (fun W h => HYC.out W (w.heap.size + 1) h j hlt)
            have HZJ := hide (fun W h => HZC.out W (w.heap.size + 2) h j hlt)
            obtain ⟨c0, c1⟩ := HYJ.out wr HT.out.now.1.1.2
            obtain ⟨c2, c3⟩ := HZJ.out wr HT.out.now.1.2
            have HIY := hide (fun W => isEntry_ref (kg y j) 2500 W (by omega) (by omega))
            have HIZ := hide (fun W => isEntry_ref (kg z j) 2500 W (by omega) (by omega))
            have HSY := hide (fun h1 => all_snoc (x := y) (i := j) (by rw [HYL.out]; exact hlt) hyy h1)
            have HSZ := hide (fun h1 => all_snoc (x := z) (i := j) (by rw [HZL.out]; exact hlt) hzz h1)
            obtain ⟨p, hp⟩ : ∃ p, kg y j = p := ⟨_, rfl⟩
            obtain ⟨q, hq⟩ : ∃ p, kg z j = p := ⟨_, rfl⟩
            rw [hp] at HYJ HIY HSY c0 c1
            rw [hq] at HZJ HIZ HSZ c2 c3
            have j0 : (0 : Int) ≤ (j : Int) := by omega
            have j1 : (j : Int) < 4 := by omega
            clear hp hq hyy hzz HYC HZC HYL HZL HYE HZE HYZ HZZ
            cases hb1 : entB 2500 p
            · rw [hb1] at HIY
              clear hb1 HSY HSZ
              go_wp2_with ((go_at_call 104; go_must (refine (HIY.out _).mono ?_; rintro e w5 ⟨rfl, hb⟩; replace HT := hide (HT.out.step hb); (try replace HA := hide (HA.out.step hb)); (try replace HC := hide (HC.out.step hb)); (try replace HS := hide (HS.out.step hb)); (try replace HL := hide (HL.out.step hb)); (try replace HFY := hide (HFY.out.step hb)); (try replace HFZ := hide (HFZ.out.step hb)); clear hb; obtain ⟨d2, d3⟩ := HZJ.out _ HT.out.now.1.2; have HYD := hide True.intro; simp only [])))
              go_ret
              exact ⟨rfl, HT.out.now.2⟩
            · cases hb2 : entB 2500 q
              · rw [hb1] at HIY
                rw [hb2] at HIZ
                clear hb1 hb2 HSY HSZ
                go_wp2_with (first
                  | (go_at_call 104; have qq := HYD; refine (HIZ.out _).mono ?_; rintro e w9 ⟨rfl, hb⟩; replace HT := hide (HT.out.step hb); (try replace HA := hide (HA.out.step hb)); (try replace HC := hide (HC.out.step hb)); (try replace HS := hide (HS.out.step hb)); (try replace HL := hide (HL.out.step hb)); (try replace HFY := hide (HFY.out.step hb)); (try replace HFZ := hide (HFZ.out.step hb)); clear hb; simp only [])
                  | (go_at_call 104; go_must (refine (HIY.out _).mono ?_; rintro e w5 ⟨rfl, hb⟩; replace HT := hide (HT.out.step hb); (try replace HA := hide (HA.out.step hb)); (try replace HC := hide (HC.out.step hb)); (try replace HS := hide (HS.out.step hb)); (try replace HL := hide (HL.out.step hb)); (try replace HFY := hide (HFY.out.step hb)); (try replace HFZ := hide (HFZ.out.step hb)); clear hb; obtain ⟨d2, d3⟩ := HZJ.out _ HT.out.now.1.2; have HYD := hide True.intro; simp only [])))
                go_ret
                exact ⟨rfl, HT.out.now.2⟩
              · have HSY2 := hide (HSY.out hb1)
                have HSZ2 := hide (HSZ.out hb2)
                rw [hb1] at HIY
                rw [hb2] at HIZ
                clear hb1 hb2 HSY HSZ
                go_wp2_with (first
                  | (go_at_call 104; have qq := HYD; refine (HIZ.out _).mono ?_; rintro e w9 ⟨rfl, hb⟩; replace HT := hide (HT.out.step hb); (try replace HA := hide (HA.out.step hb)); (try replace HC := hide (HC.out.step hb)); (try replace HS := hide (HS.out.step hb)); (try replace HL := hide (HL.out.step hb)); (try replace HFY := hide (HFY.out.step hb)); (try replace HFZ := hide (HFZ.out.step hb)); clear hb; simp only [])
                  | (go_at_call 104; go_must (refine (HIY.out _).mono ?_; rintro e w5 ⟨rfl, hb⟩; replace HT := hide (HT.out.step hb); (try replace HA := hide (HA.out.step hb)); (try replace HC := hide (HC.out.step hb)); (try replace HS := hide (HS.out.step hb)); (try replace HL := hide (HL.out.step hb)); (try replace HFY := hide (HFY.out.step hb)); (try replace HFZ := hide (HFZ.out.step hb)); clear hb; obtain ⟨d2, d3⟩ := HZJ.out _ HT.out.now.1.2; have HYD := hide True.intro; simp only [])))
                go_roundw
                case rel => exact ⟨j + 1, by omega, by go_num, HSY2.out, HSZ2.out, HL.out.now⟩
                case measure => simp [intOf]; omega
          · have hd : decide ((j : Int) < 4) = false := by rw [decide_eq_false_iff_not]; omega
            obtain rfl : j = 4 := by omega
            rw [show y.take 4 = y from List.take_of_length_le (by rw [HYL.out]; omega)] at hyy
            rw [show z.take 4 = z from List.take_of_length_le (by rw [HZL.out]; omega)] at hzz
            have HFO := hide (fun W => Four_ok y W HYL.out (foE_of hyy))
            have HFP := hide (fun W => Four_ok z W HZL.out (foE_of hzz))
            have HER := hide (fun A B c d W ha hb => ErrorOf_ok A B c d 4 y z W HYL.out ha hb (erE_of HYL.out HZL.out (ent_of25 hyy) (ent_of25 hzz)))
            have HES := hide (fun A B c d W ha hb => ErrorOf_ok A B c d 4 (foL y true) (foL z true) W rfl ha hb (erE_of rfl rfl (foL_ent HYL.out hyy) (foL_ent HZL.out hzz)))
            have hq4 := esum_four HYL.out HZL.out
            have hmb := esum_bd (ent_of25 hyy) (ent_of25 hzz) 4
            have HSLY := hide (show ∀ W, Blk W (w.heap.size + 1) 105 Y → Sl W (some ⟨w.heap.size + 1, 0, none⟩) (gv y) from fun W h => by rw [← HYE.out] at h; exact h.sl)
            have HSLZ := hide (show ∀ W, Blk W (w.heap.size + 2) 105 Z → Sl W (some ⟨w.heap.size + 2, 0, none⟩) (gv z) from fun W h => by rw [← HZE.out] at h; exact h.sl)
            have HSLF := hide (show ∀ W g, Blk W g 105 (gv (foL y true)).toArray → Sl W (some ⟨g, 0, none⟩) (gv (foL y true)) from fun W g h => h.sl)
            have HSLG := hide (show ∀ W g, Blk W g 105 (gv (foL z true)).toArray → Sl W (some ⟨g, 0, none⟩) (gv (foL z true)) from fun W g h => h.sl)
            have HCZ := hide (show (gv (foL y true)).toArray.size = 8 from rfl)
            have HDZ := hide (show (gv (foL z true)).toArray.size = 8 from rfl)
            have HC1 := hide (show (gv (foL y true)).toArray.all (·.oneCell') = true by rw [← garr_full (foL y true) 4 rfl]; exact garr_one _ _)
            have HD1 := hide (show (gv (foL z true)).toArray.all (·.oneCell') = true by rw [← garr_full (foL z true) 4 rfl]; exact garr_one _ _)
            have HLF : Hid ((foL y true).length = 4 ∧ (foL z true).length = 4) := hide ⟨rfl, rfl⟩
            rw [HYE.out] at HFO
            rw [HZE.out] at HFP
            obtain ⟨fy, hfy⟩ : ∃ l, foL y true = l := ⟨_, rfl⟩
            obtain ⟨fz, hfz⟩ : ∃ l, foL z true = l := ⟨_, rfl⟩
            rw [hfy] at HFO HES hq4 HSLF HCZ HC1 HLF
            rw [hfz] at HFP HES hq4 HSLG HDZ HD1 HLF
            obtain ⟨C, hC⟩ : ∃ l, (gv fy).toArray = l := ⟨_, rfl⟩
            obtain ⟨D, hD⟩ : ∃ l, (gv fz).toArray = l := ⟨_, rfl⟩
            rw [hC] at HFO HSLF HCZ HC1
            rw [hD] at HFP HSLG HDZ HD1
            rw [hq4] at HES
            obtain ⟨m, hm⟩ : ∃ m, esum y z 4 = m := ⟨_, rfl⟩
            rw [hm] at HES HER hmb
            have i4 : IntKind.i64.wrap (4 * m) = 4 * m := IntWalk.i64_in _ (by omega)
            clear hyy hzz hfy hfz hC hD hq4 hm hmb HYC HZC HL
            go_wp2_with (first
              | (refine wpList_load_row rfl 105 (.tmp 4) rfl (w.heap.size + 1) rfl 105 Y (0, 0) _ HT.out.now.1.1.2 Try.underlying105 rfl (by rw [HYZ.out]; kernel_rfl) ?_)
              | (refine wpList_load_row rfl 105 (.tmp 5) rfl (w.heap.size + 2) rfl 105 Z (0, 0) _ HT.out.now.1.2 Try.underlying105 rfl (by rw [HZZ.out]; kernel_rfl) ?_)
              | (go_at_call 70; have qq := HFY; refine (HFP.out _).mono ?_; rintro e w11 ⟨rfl, hb⟩; replace HT := hide (HT.out.step hb); (try replace HA := hide (HA.out.step hb)); (try replace HC := hide (HC.out.step hb)); (try replace HS := hide (HS.out.step hb)); (try replace HL := hide (HL.out.step hb)); (try replace HFY := hide (HFY.out.step hb)); (try replace HFZ := hide (HFZ.out.step hb)); clear hb; simp only [])
              | (go_at_call 70; refine (HFO.out _).mono ?_; rintro e w10 ⟨rfl, hb⟩; replace HT := hide (HT.out.step hb); (try replace HA := hide (HA.out.step hb)); (try replace HC := hide (HC.out.step hb)); (try replace HS := hide (HS.out.step hb)); (try replace HL := hide (HL.out.step hb)); (try replace HFY := hide (HFY.out.step hb)); (try replace HFZ := hide (HFZ.out.step hb)); clear hb; simp only [])
              | (refine wpList_store_row rfl 105 (.tmp 18) (.tmp 111) rfl w10.heap.size C rfl rfl 105 (garr [] 4) (Blk.new w10 _ _) (by rw [HCZ.out]; kernel_rfl) (by rw [HCZ.out]; rfl) HC1.out ?_; have hrow : Below w10.heap.size w10 ((w10.alloc (.cells (garr [] 4) 105)).setRow w10.heap.size C) := Below.row ((Below.refl _ _).alloc (Nat.le_refl _) _) (Nat.le_refl _) _; replace HT := hide (HT.out.step hrow); (try replace HA := hide (HA.out.step hrow)); (try replace HC := hide (HC.out.step hrow)); (try replace HS := hide (HS.out.step hrow)); (try replace HL := hide (HL.out.step hrow)); (try replace HFY := hide (HFY.out.step hrow)); (try replace HFZ := hide (HFZ.out.step hrow)); clear hrow; have HFY := hide (stay_blk ((Blk.new w10 105 (garr [] 4)).row C)))
              | (refine wpList_store_row rfl 105 (.tmp 20) (.tmp 116) rfl w11.heap.size D rfl rfl 105 (garr [] 4) (Blk.new w11 _ _) (by rw [HDZ.out]; kernel_rfl) (by rw [HDZ.out]; rfl) HD1.out ?_; have hrow : Below w11.heap.size w11 ((w11.alloc (.cells (garr [] 4) 105)).setRow w11.heap.size D) := Below.row ((Below.refl _ _).alloc (Nat.le_refl _) _) (Nat.le_refl _) _; replace HT := hide (HT.out.step hrow); (try replace HA := hide (HA.out.step hrow)); (try replace HC := hide (HC.out.step hrow)); (try replace HS := hide (HS.out.step hrow)); (try replace HL := hide (HL.out.step hrow)); (try replace HFY := hide (HFY.out.step hrow)); (try replace HFZ := hide (HFZ.out.step hrow)); clear hrow; have HFZ := hide (stay_blk ((Blk.new w11 105 (garr [] 4)).row D))))
            obtain ⟨v, hv⟩ : ∃ W, (w11.alloc (.cells (garr [] 4) 105)).setRow w11.heap.size D = W := ⟨_, rfl⟩
            rw [hv] at HT HFY HFZ
            rw [show (w11.alloc (.cells #[.int .i64 0, .int .i64 0, .int .i64 0, .int .i64 0, .int .i64 0, .int .i64 0, .int .i64 0, .int .i64 0] 105)).setRow w11.heap.size D = v from hv]
            clear hv HFO HFP HCZ HDZ HC1 HD1 HYE HZE HYZ HZZ
            obtain ⟨gy, hgy⟩ : ∃ g, w10.heap.size = g := ⟨_, rfl⟩
            rw [hgy] at HFY ⊢
            obtain ⟨gz, hgz⟩ : ∃ g, w11.heap.size = g := ⟨_, rfl⟩
            rw [hgz] at HFZ ⊢
            clear hgy hgz
            obtain ⟨i0, hi0, hz0, hz1, hz2⟩ := info_parts ga_infoW
            have HH := hide (show Below v.heap.size v v.drew from below_drewN (Below.refl _ _) 1)
            refine wp_region_held_drew (S := fun w' => Below v.heap.size v w') (by kernel_rfl) HH.out (fun hHeld => ?_)
            refine take_at (i := 1) 126 (v := .slice (some ⟨w.heap.size + 1, 0, none⟩) 4 4) rfl rfl (by kernel_rfl) (by kernel_rfl) (by kernel_rfl) (fun _ _ _ h => h) (Or.inl ⟨by rfl, by intro w1 hSw; have q := slice_ga4 w1 ⟨w.heap.size + 1, 0, none⟩; go_simp⟩) (by assumption) ?_
            try simp only [Act.put, List.setIfInBounds_toArray, List.set_cons_zero, List.set_cons_succ]
            refine take_at (i := 4) 129 (v := .slice (some ⟨w.heap.size + 2, 0, none⟩) 4 4) rfl rfl (by kernel_rfl) (by kernel_rfl) (by kernel_rfl) (fun _ _ _ h => h) (Or.inl ⟨by rfl, by intro w1 hSw; have q := slice_ga4 w1 ⟨w.heap.size + 2, 0, none⟩; go_simp⟩) (by assumption) ?_
            try simp only [Act.put, List.setIfInBounds_toArray, List.set_cons_zero, List.set_cons_succ]
            obtain ⟨v0, hv0⟩ : ∃ W, v.drew = W := ⟨_, rfl⟩
            rw [hv0] at HH hHeld ⊢
            clear hv0
            refine wpAnyH_ready (rs := [0, 3]) (by kernel_rfl) (by simp) ?_
            refine AllReadyH.cons rfl (fun K hK => ?_) (AllReadyH.cons rfl (fun K hK => ?_) AllReadyH.nil)
            go_simp
            have HO1 := hide (World.ownsRow_made (base := v.heap.size) (e := 30) (size := 2) (v0) #[] 0 HH.out.size (by simp [maxLen]) rfl)
            replace HH := hide (HH.out.alloc HH.out.size (.cells #[] 30))
            refine hK.out _ _ HH.out (fun hHeld => ?_)
            clear hK K
            try simp only [Act.put, List.setIfInBounds_toArray, List.set_cons_zero, List.set_cons_succ]
            refine wpAnyH_ready (rs := [2, 3]) (by kernel_rfl) (by simp) ?_
            refine AllReadyH.cons rfl (fun K hK => ?_) (AllReadyH.cons rfl (fun K hK => ?_) AllReadyH.nil)
            have hr1 := Sl.reads2 (HSLY.out (v0.alloc (.cells #[] 30)) (HT.out (v0.alloc (.cells #[] 30)) HH.out).1.1.2)
            rw [HYL.out] at hr1
            refine step_append_any _ (by rfl) _ _ 83 (by rfl) v.heap.size 30 i0 _ 2 16 Try.underlying83 hi0 hz0 hz1 hz2 rfl (by omega) _ 0 [] (by rfl) HO1.out _ _ 4 4 (gv y) (by rfl) hr1 (gv_one _) (by simp only [maxLen]; omega) (by omega) HH.out.size ?_
            intro v1 uA hown hgr hor
            simp only [Nat.zero_add, List.nil_append] at hown
            have HH2 := hide (Below.app' HH.out HO1.out hgr)
            obtain ⟨A1, c1, rfl⟩ := own_form hown
            replace HO1 := hide hown
            clear hown hr1
            replace HH := HH2
            have hl1 := HO1.out.lt
            refine hK.out _ _ HH.out (fun hHeld => ?_)
            clear hK K
            try simp only [Act.put, List.setIfInBounds_toArray]
            refine wpAnyH_ready (rs := [3]) (by kernel_rfl) (by simp) ?_
            refine AllReadyH.cons rfl (fun K hK => ?_) AllReadyH.nil
            go_simp
            have HO2 := hide (World.ownsRow_made (base := v.heap.size) (e := 30) (size := 2) (uA) #[] 0 HH.out.size (by simp [maxLen]) rfl)
            replace HO1 := hide (HO1.out.alloc (.cells #[] 30))
            replace HH := hide (HH.out.alloc HH.out.size (.cells #[] 30))
            refine hK.out _ _ HH.out (fun hHeld => ?_)
            clear hK K
            try simp only [Act.put, List.setIfInBounds_toArray, List.set_cons_zero, List.set_cons_succ]
            refine wpAnyH_ready (rs := [5]) (by kernel_rfl) (by simp) ?_
            refine AllReadyH.cons rfl (fun K hK => ?_) AllReadyH.nil
            have hr2 := Sl.reads2 (HSLZ.out (uA.alloc (.cells #[] 30)) (HT.out (uA.alloc (.cells #[] 30)) HH.out).1.2)
            rw [HZL.out] at hr2
            refine step_append_any _ (by rfl) _ _ 83 (by rfl) v.heap.size 30 i0 _ 2 16 Try.underlying83 hi0 hz0 hz1 hz2 rfl (by omega) _ 0 [] (by rfl) HO2.out _ _ 4 4 (gv z) (by rfl) hr2 (gv_one _) (by simp only [maxLen]; omega) (by omega) HH.out.size ?_
            intro v2 uB hown hgr hor
            simp only [Nat.zero_add, List.nil_append] at hown
            have HH2 := hide (Below.app' HH.out HO2.out hgr)
            replace HO1 := hide (HO1.out.kept hgr (.inr (by intro h; have q := (hl1 _ h).2; simp at q)))
            obtain ⟨A2, c2, rfl⟩ := own_form hown
            replace HO2 := hide hown
            clear hown hr2
            replace HH := HH2
            clear HH2
            refine hK.out _ _ HH.out (fun hHeld => ?_)
            clear hK K
            try simp only [Act.put, List.setIfInBounds_toArray]
            refine wpAnyH_ready (rs := [6]) (by kernel_rfl) (by simp) ?_
            refine AllReadyH.cons rfl (fun K hK => ?_) AllReadyH.nil
            go_simp
            refine (HER.out A1 A2 c1 c2 _ (Sl.of_ownN HO1.out) (Sl.of_ownN HO2.out)).mono ?_
            rintro e u3 ⟨rfl, hb⟩
            replace HH := hide (Below.step HH.out hb)
            clear hb
            simp only []
            refine hK.out _ _ HH.out (fun hHeld => ?_)
            clear hK K
            try simp only [Act.put, List.setIfInBounds_toArray, List.set_cons_zero, List.set_cons_succ]
            refine take_at (i := 7) 124 (v := .tuple #[.int .i64 m, .int .i64 0]) rfl rfl (by kernel_rfl) (by kernel_rfl) (by kernel_rfl) (fun _ _ _ h => h) (Or.inl ⟨by rfl, by intro w hSw; go_simp⟩) (by assumption) ?_
            try simp only [Act.put, List.setIfInBounds_toArray, List.set_cons_zero, List.set_cons_succ]
            refine take_at (i := 8) 132 (v := .int .i64 m) rfl rfl (by kernel_rfl) (by kernel_rfl) (by kernel_rfl) (fun _ _ _ h => h) (Or.inl ⟨by rfl, by intro w hSw; go_simp⟩) (by assumption) ?_
            try simp only [Act.put, List.setIfInBounds_toArray, List.set_cons_zero, List.set_cons_succ]
            refine take_at (i := 9) 133 (v := .int .i64 0) rfl rfl (by kernel_rfl) (by kernel_rfl) (by kernel_rfl) (fun _ _ _ h => h) (Or.inl ⟨by rfl, by intro w hSw; go_simp⟩) (by assumption) ?_
            try simp only [Act.put, List.setIfInBounds_toArray, List.set_cons_zero, List.set_cons_succ]
            refine take_at (i := 10) 22 (v := .int .i64 m) rfl rfl (by kernel_rfl) (by kernel_rfl) (by kernel_rfl) (fun _ _ _ h => h) (Or.inl ⟨by rfl, by intro w hSw; go_simp⟩) (by assumption) ?_
            try simp only [Act.put, List.setIfInBounds_toArray, List.set_cons_zero, List.set_cons_succ]
            refine take_at (i := 11) 23 (v := .int .i64 0) rfl rfl (by kernel_rfl) (by kernel_rfl) (by kernel_rfl) (fun _ _ _ h => h) (Or.inl ⟨by rfl, by intro w hSw; go_simp⟩) (by assumption) ?_
            try simp only [Act.put, List.setIfInBounds_toArray, List.set_cons_zero, List.set_cons_succ]
            refine wpAnyH_done (by kernel_rfl) ?_ _
            have hbx := HH.out
            replace HT := hide (HT.out.step hbx)
            (try replace HA := hide (HA.out.step hbx))
            (try replace HC := hide (HC.out.step hbx))
            (try replace HS := hide (HS.out.step hbx))
            (try replace HL := hide (HL.out.step hbx))
            (try replace HFY := hide (HFY.out.step hbx))
            (try replace HFZ := hide (HFZ.out.step hbx))
            clear hbx
            rotate_left
            go_simp
            have HO2 := hide (World.ownsRow_made (base := v.heap.size) (e := 30) (size := 2) (v0.alloc (.cells #[] 30)) #[] 0 HH.out.size (by simp [maxLen]) rfl)
            rw [show (v0.alloc (.cells #[] 30)).heap.size = v0.heap.size + 1 by simp] at HO2
            replace HO1 := hide (HO1.out.alloc (.cells #[] 30))
            replace HH := hide (HH.out.alloc HH.out.size (.cells #[] 30))
            refine hK.out _ _ HH.out (fun hHeld => ?_)
            clear hK K
            try simp only [Act.put, List.setIfInBounds_toArray, List.set_cons_zero, List.set_cons_succ]
            refine wpAnyH_ready (rs := [2]) (by kernel_rfl) (by simp) ?_
            refine AllReadyH.cons rfl (fun K hK => ?_) AllReadyH.nil
            have hr1 := Sl.reads2 (HSLY.out ((v0.alloc (.cells #[] 30)).alloc (.cells #[] 30)) (HT.out ((v0.alloc (.cells #[] 30)).alloc (.cells #[] 30)) HH.out).1.1.2)
            rw [HYL.out] at hr1
            refine step_append_any _ (by rfl) _ _ 83 (by rfl) v.heap.size 30 i0 _ 2 16 Try.underlying83 hi0 hz0 hz1 hz2 rfl (by omega) _ 0 [] (by rfl) HO1.out _ _ 4 4 (gv y) (by rfl) hr1 (gv_one _) (by simp only [maxLen]; omega) (by omega) HH.out.size ?_
            intro v1 uA hown hgr hor
            simp only [Nat.zero_add, List.nil_append] at hown
            have HH2 := hide (Below.app' HH.out HO1.out hgr)
            replace HO2 := hide (HO2.out.kept hgr (.inr (by simp [Value.ownBlock])))
            obtain ⟨A1, c1, rfl⟩ := own_form hown
            replace HO1 := hide hown
            clear hown hr1
            replace HH := HH2
            have hor1 := hor
            refine hK.out _ _ HH.out (fun hHeld => ?_)
            clear hK K
            try simp only [Act.put, List.setIfInBounds_toArray]
            refine wpAnyH_ready (rs := [5]) (by kernel_rfl) (by simp) ?_
            refine AllReadyH.cons rfl (fun K hK => ?_) AllReadyH.nil
            have hr2 := Sl.reads2 (HSLZ.out (uA) (HT.out (uA) HH.out).1.2)
            rw [HZL.out] at hr2
            refine step_append_any _ (by rfl) _ _ 83 (by rfl) v.heap.size 30 i0 _ 2 16 Try.underlying83 hi0 hz0 hz1 hz2 rfl (by omega) _ 0 [] (by rfl) HO2.out _ _ 4 4 (gv z) (by rfl) hr2 (gv_one _) (by simp only [maxLen]; omega) (by omega) HH.out.size ?_
            intro v2 uB hown hgr hor
            simp only [Nat.zero_add, List.nil_append] at hown
            have HH2 := hide (Below.app' HH.out HO2.out hgr)
            replace HO1 := hide (HO1.out.kept hgr (.inr (by intro h; rcases hor1 with q | q <;> (rw [q] at h; first | (simp [Value.ownBlock] at h; done) | (simp [Value.ownBlock] at h; omega)))))
            obtain ⟨A2, c2, rfl⟩ := own_form hown
            replace HO2 := hide hown
            clear hown hr2
            replace HH := HH2
            clear HH2
            refine hK.out _ _ HH.out (fun hHeld => ?_)
            clear hK K
            try simp only [Act.put]
            refine wpAnyH_ready (rs := [6]) (by kernel_rfl) (by simp) ?_
            refine AllReadyH.cons rfl (fun K hK => ?_) AllReadyH.nil
            go_simp
            refine (HER.out A1 A2 c1 c2 _ (Sl.of_ownN HO1.out) (Sl.of_ownN HO2.out)).mono ?_
            rintro e u3 ⟨rfl, hb⟩
            replace HH := hide (Below.step HH.out hb)
            clear hb
            simp only []
            refine hK.out _ _ HH.out (fun hHeld => ?_)
            clear hK K
            try simp only [Act.put, List.setIfInBounds_toArray, List.set_cons_zero, List.set_cons_succ]
            refine take_at (i := 7) 124 (v := .tuple #[.int .i64 m, .int .i64 0]) rfl rfl (by kernel_rfl) (by kernel_rfl) (by kernel_rfl) (fun _ _ _ h => h) (Or.inl ⟨by rfl, by intro w hSw; go_simp⟩) (by assumption) ?_
            try simp only [Act.put, List.setIfInBounds_toArray, List.set_cons_zero, List.set_cons_succ]
            refine take_at (i := 8) 132 (v := .int .i64 m) rfl rfl (by kernel_rfl) (by kernel_rfl) (by kernel_rfl) (fun _ _ _ h => h) (Or.inl ⟨by rfl, by intro w hSw; go_simp⟩) (by assumption) ?_
            try simp only [Act.put, List.setIfInBounds_toArray, List.set_cons_zero, List.set_cons_succ]
            refine take_at (i := 9) 133 (v := .int .i64 0) rfl rfl (by kernel_rfl) (by kernel_rfl) (by kernel_rfl) (fun _ _ _ h => h) (Or.inl ⟨by rfl, by intro w hSw; go_simp⟩) (by assumption) ?_
            try simp only [Act.put, List.setIfInBounds_toArray, List.set_cons_zero, List.set_cons_succ]
            refine take_at (i := 10) 22 (v := .int .i64 m) rfl rfl (by kernel_rfl) (by kernel_rfl) (by kernel_rfl) (fun _ _ _ h => h) (Or.inl ⟨by rfl, by intro w hSw; go_simp⟩) (by assumption) ?_
            try simp only [Act.put, List.setIfInBounds_toArray, List.set_cons_zero, List.set_cons_succ]
            refine take_at (i := 11) 23 (v := .int .i64 0) rfl rfl (by kernel_rfl) (by kernel_rfl) (by kernel_rfl) (fun _ _ _ h => h) (Or.inl ⟨by rfl, by intro w hSw; go_simp⟩) (by assumption) ?_
            try simp only [Act.put, List.setIfInBounds_toArray, List.set_cons_zero, List.set_cons_succ]
            refine wpAnyH_done (by kernel_rfl) ?_ _
            have hbx := HH.out
            replace HT := hide (HT.out.step hbx)
            (try replace HA := hide (HA.out.step hbx))
            (try replace HC := hide (HC.out.step hbx))
            (try replace HS := hide (HS.out.step hbx))
            (try replace HL := hide (HL.out.step hbx))
            (try replace HFY := hide (HFY.out.step hbx))
            (try replace HFZ := hide (HFZ.out.step hbx))
            clear hbx
            rotate_left
            go_simp
            have HO2 := hide (World.ownsRow_made (base := v.heap.size) (e := 30) (size := 2) (v0) #[] 0 HH.out.size (by simp [maxLen]) rfl)
            replace HH := hide (HH.out.alloc HH.out.size (.cells #[] 30))
            refine hK.out _ _ HH.out (fun hHeld => ?_)
            clear hK K
            try simp only [Act.put, List.setIfInBounds_toArray, List.set_cons_zero, List.set_cons_succ]
            refine wpAnyH_ready (rs := [0]) (by kernel_rfl) (by simp) ?_
            refine AllReadyH.cons rfl (fun K hK => ?_) AllReadyH.nil
            go_simp
            have HO1 := hide (World.ownsRow_made (base := v.heap.size) (e := 30) (size := 2) (v0.alloc (.cells #[] 30)) #[] 0 HH.out.size (by simp [maxLen]) rfl)
            rw [show (v0.alloc (.cells #[] 30)).heap.size = v0.heap.size + 1 by simp] at HO1
            replace HO2 := hide (HO2.out.alloc (.cells #[] 30))
            replace HH := hide (HH.out.alloc HH.out.size (.cells #[] 30))
            refine hK.out _ _ HH.out (fun hHeld => ?_)
            clear hK K
            try simp only [Act.put, List.setIfInBounds_toArray, List.set_cons_zero, List.set_cons_succ]
            refine wpAnyH_ready (rs := [2]) (by kernel_rfl) (by simp) ?_
            refine AllReadyH.cons rfl (fun K hK => ?_) AllReadyH.nil
            have hr1 := Sl.reads2 (HSLY.out ((v0.alloc (.cells #[] 30)).alloc (.cells #[] 30)) (HT.out ((v0.alloc (.cells #[] 30)).alloc (.cells #[] 30)) HH.out).1.1.2)
            rw [HYL.out] at hr1
            refine step_append_any _ (by rfl) _ _ 83 (by rfl) v.heap.size 30 i0 _ 2 16 Try.underlying83 hi0 hz0 hz1 hz2 rfl (by omega) _ 0 [] (by rfl) HO1.out _ _ 4 4 (gv y) (by rfl) hr1 (gv_one _) (by simp only [maxLen]; omega) (by omega) HH.out.size ?_
            intro v1 uA hown hgr hor
            simp only [Nat.zero_add, List.nil_append] at hown
            have HH2 := hide (Below.app' HH.out HO1.out hgr)
            replace HO2 := hide (HO2.out.kept hgr (.inr (by simp [Value.ownBlock])))
            obtain ⟨A1, c1, rfl⟩ := own_form hown
            replace HO1 := hide hown
            clear hown hr1
            replace HH := HH2
            have hor1 := hor
            refine hK.out _ _ HH.out (fun hHeld => ?_)
            clear hK K
            try simp only [Act.put, List.setIfInBounds_toArray]
            refine wpAnyH_ready (rs := [5]) (by kernel_rfl) (by simp) ?_
            refine AllReadyH.cons rfl (fun K hK => ?_) AllReadyH.nil
            have hr2 := Sl.reads2 (HSLZ.out (uA) (HT.out (uA) HH.out).1.2)
            rw [HZL.out] at hr2
            refine step_append_any _ (by rfl) _ _ 83 (by rfl) v.heap.size 30 i0 _ 2 16 Try.underlying83 hi0 hz0 hz1 hz2 rfl (by omega) _ 0 [] (by rfl) HO2.out _ _ 4 4 (gv z) (by rfl) hr2 (gv_one _) (by simp only [maxLen]; omega) (by omega) HH.out.size ?_
            intro v2 uB hown hgr hor
            simp only [Nat.zero_add, List.nil_append] at hown
            have HH2 := hide (Below.app' HH.out HO2.out hgr)
            replace HO1 := hide (HO1.out.kept hgr (.inr (by intro h; rcases hor1 with q | q <;> (rw [q] at h; first | (simp [Value.ownBlock] at h; done) | (simp [Value.ownBlock] at h; omega)))))
            obtain ⟨A2, c2, rfl⟩ := own_form hown
            replace HO2 := hide hown
            clear hown hr2
            replace HH := HH2
            clear HH2
            refine hK.out _ _ HH.out (fun hHeld => ?_)
            clear hK K
            try simp only [Act.put]
            refine wpAnyH_ready (rs := [6]) (by kernel_rfl) (by simp) ?_
            refine AllReadyH.cons rfl (fun K hK => ?_) AllReadyH.nil
            go_simp
            refine (HER.out A1 A2 c1 c2 _ (Sl.of_ownN HO1.out) (Sl.of_ownN HO2.out)).mono ?_
            rintro e u3 ⟨rfl, hb⟩
            replace HH := hide (Below.step HH.out hb)
            clear hb
            simp only []
            refine hK.out _ _ HH.out (fun hHeld => ?_)
            clear hK K
            try simp only [Act.put, List.setIfInBounds_toArray, List.set_cons_zero, List.set_cons_succ]
            refine take_at (i := 7) 124 (v := .tuple #[.int .i64 m, .int .i64 0]) rfl rfl (by kernel_rfl) (by kernel_rfl) (by kernel_rfl) (fun _ _ _ h => h) (Or.inl ⟨by rfl, by intro w hSw; go_simp⟩) (by assumption) ?_
            try simp only [Act.put, List.setIfInBounds_toArray, List.set_cons_zero, List.set_cons_succ]
            refine take_at (i := 8) 132 (v := .int .i64 m) rfl rfl (by kernel_rfl) (by kernel_rfl) (by kernel_rfl) (fun _ _ _ h => h) (Or.inl ⟨by rfl, by intro w hSw; go_simp⟩) (by assumption) ?_
            try simp only [Act.put, List.setIfInBounds_toArray, List.set_cons_zero, List.set_cons_succ]
            refine take_at (i := 9) 133 (v := .int .i64 0) rfl rfl (by kernel_rfl) (by kernel_rfl) (by kernel_rfl) (fun _ _ _ h => h) (Or.inl ⟨by rfl, by intro w hSw; go_simp⟩) (by assumption) ?_
            try simp only [Act.put, List.setIfInBounds_toArray, List.set_cons_zero, List.set_cons_succ]
            refine take_at (i := 10) 22 (v := .int .i64 m) rfl rfl (by kernel_rfl) (by kernel_rfl) (by kernel_rfl) (fun _ _ _ h => h) (Or.inl ⟨by rfl, by intro w hSw; go_simp⟩) (by assumption) ?_
            try simp only [Act.put, List.setIfInBounds_toArray, List.set_cons_zero, List.set_cons_succ]
            refine take_at (i := 11) 23 (v := .int .i64 0) rfl rfl (by kernel_rfl) (by kernel_rfl) (by kernel_rfl) (fun _ _ _ h => h) (Or.inl ⟨by rfl, by intro w hSw; go_simp⟩) (by assumption) ?_
            try simp only [Act.put, List.setIfInBounds_toArray, List.set_cons_zero, List.set_cons_succ]
            refine wpAnyH_done (by kernel_rfl) ?_ _
            have hbx := HH.out
            replace HT := hide (HT.out.step hbx)
            (try replace HA := hide (HA.out.step hbx))
            (try replace HC := hide (HC.out.step hbx))
            (try replace HS := hide (HS.out.step hbx))
            (try replace HL := hide (HL.out.step hbx))
            (try replace HFY := hide (HFY.out.step hbx))
            (try replace HFZ := hide (HFZ.out.step hbx))
            clear hbx
            rotate_left
            all_goals
              go_wp2
              have HH := hide (show Below u3.heap.size u3 u3.drew from below_drewN (Below.refl _ _) 1)
              refine wp_region_held_drew (S := fun w' => Below u3.heap.size u3 w') (by kernel_rfl) HH.out (fun hHeld => ?_)
              refine take_at (i := 1) 136 (v := .slice (some ⟨gy, 0, none⟩) 4 4) rfl rfl (by kernel_rfl) (by kernel_rfl) (by kernel_rfl) (fun _ _ _ h => h) (Or.inl ⟨by rfl, by intro w1 hSw; have q := slice_ga4 w1 ⟨gy, 0, none⟩; go_simp⟩) (by assumption) ?_
              try simp only [Act.put, List.setIfInBounds_toArray, List.set_cons_zero, List.set_cons_succ]
              refine take_at (i := 4) 139 (v := .slice (some ⟨gz, 0, none⟩) 4 4) rfl rfl (by kernel_rfl) (by kernel_rfl) (by kernel_rfl) (fun _ _ _ h => h) (Or.inl ⟨by rfl, by intro w1 hSw; have q := slice_ga4 w1 ⟨gz, 0, none⟩; go_simp⟩) (by assumption) ?_
              try simp only [Act.put, List.setIfInBounds_toArray, List.set_cons_zero, List.set_cons_succ]
              obtain ⟨v0, hv0⟩ : ∃ W, u3.drew = W := ⟨_, rfl⟩
              rw [hv0] at HH hHeld ⊢
              clear hv0
              refine wpAnyH_ready (rs := [0, 3]) (by kernel_rfl) (by simp) ?_
              refine AllReadyH.cons rfl (fun K hK => ?_) (AllReadyH.cons rfl (fun K hK => ?_) AllReadyH.nil)
              go_simp
              have HO1 := hide (World.ownsRow_made (base := u3.heap.size) (e := 30) (size := 2) (v0) #[] 0 HH.out.size (by simp [maxLen]) rfl)
              replace HH := hide (HH.out.alloc HH.out.size (.cells #[] 30))
              refine hK.out _ _ HH.out (fun hHeld => ?_)
              clear hK K
              try simp only [Act.put, List.setIfInBounds_toArray, List.set_cons_zero, List.set_cons_succ]
              refine wpAnyH_ready (rs := [2, 3]) (by kernel_rfl) (by simp) ?_
              refine AllReadyH.cons rfl (fun K hK => ?_) (AllReadyH.cons rfl (fun K hK => ?_) AllReadyH.nil)
              have hr1 := Sl.reads2 (HSLF.out (v0.alloc (.cells #[] 30)) gy (HFY.out (v0.alloc (.cells #[] 30)) HH.out))
              rw [HLF.out.1] at hr1
              refine step_append_any _ (by rfl) _ _ 83 (by rfl) u3.heap.size 30 i0 _ 2 16 Try.underlying83 hi0 hz0 hz1 hz2 rfl (by omega) _ 0 [] (by rfl) HO1.out _ _ 4 4 (gv fy) (by rfl) hr1 (gv_one _) (by simp only [maxLen]; omega) (by omega) HH.out.size ?_
              intro v1 uA hown hgr hor
              simp only [Nat.zero_add, List.nil_append] at hown
              have HH2 := hide (Below.app' HH.out HO1.out hgr)
              obtain ⟨A1, c1, rfl⟩ := own_form hown
              replace HO1 := hide hown
              clear hown hr1
              replace HH := HH2
              have hl1 := HO1.out.lt
              refine hK.out _ _ HH.out (fun hHeld => ?_)
              clear hK K
              try simp only [Act.put, List.setIfInBounds_toArray]
              refine wpAnyH_ready (rs := [3]) (by kernel_rfl) (by simp) ?_
              refine AllReadyH.cons rfl (fun K hK => ?_) AllReadyH.nil
              go_simp
              have HO2 := hide (World.ownsRow_made (base := u3.heap.size) (e := 30) (size := 2) (uA) #[] 0 HH.out.size (by simp [maxLen]) rfl)
              replace HO1 := hide (HO1.out.alloc (.cells #[] 30))
              replace HH := hide (HH.out.alloc HH.out.size (.cells #[] 30))
              refine hK.out _ _ HH.out (fun hHeld => ?_)
              clear hK K
              try simp only [Act.put, List.setIfInBounds_toArray, List.set_cons_zero, List.set_cons_succ]
              refine wpAnyH_ready (rs := [5]) (by kernel_rfl) (by simp) ?_
              refine AllReadyH.cons rfl (fun K hK => ?_) AllReadyH.nil
              have hr2 := Sl.reads2 (HSLG.out (uA.alloc (.cells #[] 30)) gz (HFZ.out (uA.alloc (.cells #[] 30)) HH.out))
              rw [HLF.out.2] at hr2
              refine step_append_any _ (by rfl) _ _ 83 (by rfl) u3.heap.size 30 i0 _ 2 16 Try.underlying83 hi0 hz0 hz1 hz2 rfl (by omega) _ 0 [] (by rfl) HO2.out _ _ 4 4 (gv fz) (by rfl) hr2 (gv_one _) (by simp only [maxLen]; omega) (by omega) HH.out.size ?_
              intro v2 uB hown hgr hor
              simp only [Nat.zero_add, List.nil_append] at hown
              have HH2 := hide (Below.app' HH.out HO2.out hgr)
              replace HO1 := hide (HO1.out.kept hgr (.inr (by intro h; have q := (hl1 _ h).2; simp at q)))
              obtain ⟨A2, c2, rfl⟩ := own_form hown
              replace HO2 := hide hown
              clear hown hr2
              replace HH := HH2
              clear HH2
              refine hK.out _ _ HH.out (fun hHeld => ?_)
              clear hK K
              try simp only [Act.put, List.setIfInBounds_toArray]
              refine wpAnyH_ready (rs := [6]) (by kernel_rfl) (by simp) ?_
              refine AllReadyH.cons rfl (fun K hK => ?_) AllReadyH.nil
              go_simp
              refine (HES.out A1 A2 c1 c2 _ (Sl.of_ownN HO1.out) (Sl.of_ownN HO2.out)).mono ?_
              rintro e u4 ⟨rfl, hb⟩
              replace HH := hide (Below.step HH.out hb)
              clear hb
              simp only []
              refine hK.out _ _ HH.out (fun hHeld => ?_)
              clear hK K
              try simp only [Act.put, List.setIfInBounds_toArray, List.set_cons_zero, List.set_cons_succ]
              refine take_at (i := 7) 134 (v := .tuple #[.int .i64 (4 * m), .int .i64 0]) rfl rfl (by kernel_rfl) (by kernel_rfl) (by kernel_rfl) (fun _ _ _ h => h) (Or.inl ⟨by rfl, by intro w hSw; go_simp⟩) (by assumption) ?_
              try simp only [Act.put, List.setIfInBounds_toArray, List.set_cons_zero, List.set_cons_succ]
              refine take_at (i := 8) 142 (v := .int .i64 (4 * m)) rfl rfl (by kernel_rfl) (by kernel_rfl) (by kernel_rfl) (fun _ _ _ h => h) (Or.inl ⟨by rfl, by intro w hSw; go_simp⟩) (by assumption) ?_
              try simp only [Act.put, List.setIfInBounds_toArray, List.set_cons_zero, List.set_cons_succ]
              refine take_at (i := 9) 143 (v := .int .i64 0) rfl rfl (by kernel_rfl) (by kernel_rfl) (by kernel_rfl) (fun _ _ _ h => h) (Or.inl ⟨by rfl, by intro w hSw; go_simp⟩) (by assumption) ?_
              try simp only [Act.put, List.setIfInBounds_toArray, List.set_cons_zero, List.set_cons_succ]
              refine take_at (i := 10) 24 (v := .int .i64 (4 * m)) rfl rfl (by kernel_rfl) (by kernel_rfl) (by kernel_rfl) (fun _ _ _ h => h) (Or.inl ⟨by rfl, by intro w hSw; go_simp⟩) (by assumption) ?_
              try simp only [Act.put, List.setIfInBounds_toArray, List.set_cons_zero, List.set_cons_succ]
              refine take_at (i := 11) 25 (v := .int .i64 0) rfl rfl (by kernel_rfl) (by kernel_rfl) (by kernel_rfl) (fun _ _ _ h => h) (Or.inl ⟨by rfl, by intro w hSw; go_simp⟩) (by assumption) ?_
              try simp only [Act.put, List.setIfInBounds_toArray, List.set_cons_zero, List.set_cons_succ]
              refine wpAnyH_done (by kernel_rfl) ?_ _
              have hbx := HH.out
              replace HT := hide (HT.out.step hbx)
              (try replace HA := hide (HA.out.step hbx))
              (try replace HC := hide (HC.out.step hbx))
              (try replace HS := hide (HS.out.step hbx))
              (try replace HL := hide (HL.out.step hbx))
              (try replace HFY := hide (HFY.out.step hbx))
              (try replace HFZ := hide (HFZ.out.step hbx))
              clear hbx
              rotate_left
              go_simp
              have HO2 := hide (World.ownsRow_made (base := u3.heap.size) (e := 30) (size := 2) (v0.alloc (.cells #[] 30)) #[] 0 HH.out.size (by simp [maxLen]) rfl)
              rw [show (v0.alloc (.cells #[] 30)).heap.size = v0.heap.size + 1 by simp] at HO2
              replace HO1 := hide (HO1.out.alloc (.cells #[] 30))
              replace HH := hide (HH.out.alloc HH.out.size (.cells #[] 30))
              refine hK.out _ _ HH.out (fun hHeld => ?_)
              clear hK K
              try simp only [Act.put, List.setIfInBounds_toArray, List.set_cons_zero, List.set_cons_succ]
              refine wpAnyH_ready (rs := [2]) (by kernel_rfl) (by simp) ?_
              refine AllReadyH.cons rfl (fun K hK => ?_) AllReadyH.nil
              have hr1 := Sl.reads2 (HSLF.out ((v0.alloc (.cells #[] 30)).alloc (.cells #[] 30)) gy (HFY.out ((v0.alloc (.cells #[] 30)).alloc (.cells #[] 30)) HH.out))
              rw [HLF.out.1] at hr1
              refine step_append_any _ (by rfl) _ _ 83 (by rfl) u3.heap.size 30 i0 _ 2 16 Try.underlying83 hi0 hz0 hz1 hz2 rfl (by omega) _ 0 [] (by rfl) HO1.out _ _ 4 4 (gv fy) (by rfl) hr1 (gv_one _) (by simp only [maxLen]; omega) (by omega) HH.out.size ?_
              intro v1 uA hown hgr hor
              simp only [Nat.zero_add, List.nil_append] at hown
              have HH2 := hide (Below.app' HH.out HO1.out hgr)
              replace HO2 := hide (HO2.out.kept hgr (.inr (by simp [Value.ownBlock])))
              obtain ⟨A1, c1, rfl⟩ := own_form hown
              replace HO1 := hide hown
              clear hown hr1
              replace HH := HH2
              have hor1 := hor
              refine hK.out _ _ HH.out (fun hHeld => ?_)
              clear hK K
              try simp only [Act.put, List.setIfInBounds_toArray]
              refine wpAnyH_ready (rs := [5]) (by kernel_rfl) (by simp) ?_
              refine AllReadyH.cons rfl (fun K hK => ?_) AllReadyH.nil
              have hr2 := Sl.reads2 (HSLG.out (uA) gz (HFZ.out (uA) HH.out))
              rw [HLF.out.2] at hr2
              refine step_append_any _ (by rfl) _ _ 83 (by rfl) u3.heap.size 30 i0 _ 2 16 Try.underlying83 hi0 hz0 hz1 hz2 rfl (by omega) _ 0 [] (by rfl) HO2.out _ _ 4 4 (gv fz) (by rfl) hr2 (gv_one _) (by simp only [maxLen]; omega) (by omega) HH.out.size ?_
              intro v2 uB hown hgr hor
              simp only [Nat.zero_add, List.nil_append] at hown
              have HH2 := hide (Below.app' HH.out HO2.out hgr)
              replace HO1 := hide (HO1.out.kept hgr (.inr (by intro h; rcases hor1 with q | q <;> (rw [q] at h; first | (simp [Value.ownBlock] at h; done) | (simp [Value.ownBlock] at h; omega)))))
              obtain ⟨A2, c2, rfl⟩ := own_form hown
              replace HO2 := hide hown
              clear hown hr2
              replace HH := HH2
              clear HH2
              refine hK.out _ _ HH.out (fun hHeld => ?_)
              clear hK K
              try simp only [Act.put]
              refine wpAnyH_ready (rs := [6]) (by kernel_rfl) (by simp) ?_
              refine AllReadyH.cons rfl (fun K hK => ?_) AllReadyH.nil
              go_simp
              refine (HES.out A1 A2 c1 c2 _ (Sl.of_ownN HO1.out) (Sl.of_ownN HO2.out)).mono ?_
              rintro e u4 ⟨rfl, hb⟩
              replace HH := hide (Below.step HH.out hb)
              clear hb
              simp only []
              refine hK.out _ _ HH.out (fun hHeld => ?_)
              clear hK K
              try simp only [Act.put, List.setIfInBounds_toArray, List.set_cons_zero, List.set_cons_succ]
              refine take_at (i := 7) 134 (v := .tuple #[.int .i64 (4 * m), .int .i64 0]) rfl rfl (by kernel_rfl) (by kernel_rfl) (by kernel_rfl) (fun _ _ _ h => h) (Or.inl ⟨by rfl, by intro w hSw; go_simp⟩) (by assumption) ?_
              try simp only [Act.put, List.setIfInBounds_toArray, List.set_cons_zero, List.set_cons_succ]
              refine take_at (i := 8) 142 (v := .int .i64 (4 * m)) rfl rfl (by kernel_rfl) (by kernel_rfl) (by kernel_rfl) (fun _ _ _ h => h) (Or.inl ⟨by rfl, by intro w hSw; go_simp⟩) (by assumption) ?_
              try simp only [Act.put, List.setIfInBounds_toArray, List.set_cons_zero, List.set_cons_succ]
              refine take_at (i := 9) 143 (v := .int .i64 0) rfl rfl (by kernel_rfl) (by kernel_rfl) (by kernel_rfl) (fun _ _ _ h => h) (Or.inl ⟨by rfl, by intro w hSw; go_simp⟩) (by assumption) ?_
              try simp only [Act.put, List.setIfInBounds_toArray, List.set_cons_zero, List.set_cons_succ]
              refine take_at (i := 10) 24 (v := .int .i64 (4 * m)) rfl rfl (by kernel_rfl) (by kernel_rfl) (by kernel_rfl) (fun _ _ _ h => h) (Or.inl ⟨by rfl, by intro w hSw; go_simp⟩) (by assumption) ?_
              try simp only [Act.put, List.setIfInBounds_toArray, List.set_cons_zero, List.set_cons_succ]
              refine take_at (i := 11) 25 (v := .int .i64 0) rfl rfl (by kernel_rfl) (by kernel_rfl) (by kernel_rfl) (fun _ _ _ h => h) (Or.inl ⟨by rfl, by intro w hSw; go_simp⟩) (by assumption) ?_
              try simp only [Act.put, List.setIfInBounds_toArray, List.set_cons_zero, List.set_cons_succ]
              refine wpAnyH_done (by kernel_rfl) ?_ _
              have hbx := HH.out
              replace HT := hide (HT.out.step hbx)
              (try replace HA := hide (HA.out.step hbx))
              (try replace HC := hide (HC.out.step hbx))
              (try replace HS := hide (HS.out.step hbx))
              (try replace HL := hide (HL.out.step hbx))
              (try replace HFY := hide (HFY.out.step hbx))
              (try replace HFZ := hide (HFZ.out.step hbx))
              clear hbx
              rotate_left
              go_simp
              have HO2 := hide (World.ownsRow_made (base := u3.heap.size) (e := 30) (size := 2) (v0) #[] 0 HH.out.size (by simp [maxLen]) rfl)
              replace HH := hide (HH.out.alloc HH.out.size (.cells #[] 30))
              refine hK.out _ _ HH.out (fun hHeld => ?_)
              clear hK K
              try simp only [Act.put, List.setIfInBounds_toArray, List.set_cons_zero, List.set_cons_succ]
              refine wpAnyH_ready (rs := [0]) (by kernel_rfl) (by simp) ?_
              refine AllReadyH.cons rfl (fun K hK => ?_) AllReadyH.nil
              go_simp
              have HO1 := hide (World.ownsRow_made (base := u3.heap.size) (e := 30) (size := 2) (v0.alloc (.cells #[] 30)) #[] 0 HH.out.size (by simp [maxLen]) rfl)
              rw [show (v0.alloc (.cells #[] 30)).heap.size = v0.heap.size + 1 by simp] at HO1
              replace HO2 := hide (HO2.out.alloc (.cells #[] 30))
              replace HH := hide (HH.out.alloc HH.out.size (.cells #[] 30))
              refine hK.out _ _ HH.out (fun hHeld => ?_)
              clear hK K
              try simp only [Act.put, List.setIfInBounds_toArray, List.set_cons_zero, List.set_cons_succ]
              refine wpAnyH_ready (rs := [2]) (by kernel_rfl) (by simp) ?_
              refine AllReadyH.cons rfl (fun K hK => ?_) AllReadyH.nil
              have hr1 := Sl.reads2 (HSLF.out ((v0.alloc (.cells #[] 30)).alloc (.cells #[] 30)) gy (HFY.out ((v0.alloc (.cells #[] 30)).alloc (.cells #[] 30)) HH.out))
              rw [HLF.out.1] at hr1
              refine step_append_any _ (by rfl) _ _ 83 (by rfl) u3.heap.size 30 i0 _ 2 16 Try.underlying83 hi0 hz0 hz1 hz2 rfl (by omega) _ 0 [] (by rfl) HO1.out _ _ 4 4 (gv fy) (by rfl) hr1 (gv_one _) (by simp only [maxLen]; omega) (by omega) HH.out.size ?_
              intro v1 uA hown hgr hor
              simp only [Nat.zero_add, List.nil_append] at hown
              have HH2 := hide (Below.app' HH.out HO1.out hgr)
              replace HO2 := hide (HO2.out.kept hgr (.inr (by simp [Value.ownBlock])))
              obtain ⟨A1, c1, rfl⟩ := own_form hown
              replace HO1 := hide hown
              clear hown hr1
              replace HH := HH2
              have hor1 := hor
              refine hK.out _ _ HH.out (fun hHeld => ?_)
              clear hK K
              try simp only [Act.put, List.setIfInBounds_toArray]
              refine wpAnyH_ready (rs := [5]) (by kernel_rfl) (by simp) ?_
              refine AllReadyH.cons rfl (fun K hK => ?_) AllReadyH.nil
              have hr2 := Sl.reads2 (HSLG.out (uA) gz (HFZ.out (uA) HH.out))
              rw [HLF.out.2] at hr2
              refine step_append_any _ (by rfl) _ _ 83 (by rfl) u3.heap.size 30 i0 _ 2 16 Try.underlying83 hi0 hz0 hz1 hz2 rfl (by omega) _ 0 [] (by rfl) HO2.out _ _ 4 4 (gv fz) (by rfl) hr2 (gv_one _) (by simp only [maxLen]; omega) (by omega) HH.out.size ?_
              intro v2 uB hown hgr hor
              simp only [Nat.zero_add, List.nil_append] at hown
              have HH2 := hide (Below.app' HH.out HO2.out hgr)
              replace HO1 := hide (HO1.out.kept hgr (.inr (by intro h; rcases hor1 with q | q <;> (rw [q] at h; first | (simp [Value.ownBlock] at h; done) | (simp [Value.ownBlock] at h; omega)))))
              obtain ⟨A2, c2, rfl⟩ := own_form hown
              replace HO2 := hide hown
              clear hown hr2
              replace HH := HH2
              clear HH2
              refine hK.out _ _ HH.out (fun hHeld => ?_)
              clear hK K
              try simp only [Act.put]
              refine wpAnyH_ready (rs := [6]) (by kernel_rfl) (by simp) ?_
              refine AllReadyH.cons rfl (fun K hK => ?_) AllReadyH.nil
              go_simp
              refine (HES.out A1 A2 c1 c2 _ (Sl.of_ownN HO1.out) (Sl.of_ownN HO2.out)).mono ?_
              rintro e u4 ⟨rfl, hb⟩
              replace HH := hide (Below.step HH.out hb)
              clear hb
              simp only []
              refine hK.out _ _ HH.out (fun hHeld => ?_)
              clear hK K
              try simp only [Act.put, List.setIfInBounds_toArray, List.set_cons_zero, List.set_cons_succ]
              refine take_at (i := 7) 134 (v := .tuple #[.int .i64 (4 * m), .int .i64 0]) rfl rfl (by kernel_rfl) (by kernel_rfl) (by kernel_rfl) (fun _ _ _ h => h) (Or.inl ⟨by rfl, by intro w hSw; go_simp⟩) (by assumption) ?_
              try simp only [Act.put, List.setIfInBounds_toArray, List.set_cons_zero, List.set_cons_succ]
              refine take_at (i := 8) 142 (v := .int .i64 (4 * m)) rfl rfl (by kernel_rfl) (by kernel_rfl) (by kernel_rfl) (fun _ _ _ h => h) (Or.inl ⟨by rfl, by intro w hSw; go_simp⟩) (by assumption) ?_
              try simp only [Act.put, List.setIfInBounds_toArray, List.set_cons_zero, List.set_cons_succ]
              refine take_at (i := 9) 143 (v := .int .i64 0) rfl rfl (by kernel_rfl) (by kernel_rfl) (by kernel_rfl) (fun _ _ _ h => h) (Or.inl ⟨by rfl, by intro w hSw; go_simp⟩) (by assumption) ?_
              try simp only [Act.put, List.setIfInBounds_toArray, List.set_cons_zero, List.set_cons_succ]
              refine take_at (i := 10) 24 (v := .int .i64 (4 * m)) rfl rfl (by kernel_rfl) (by kernel_rfl) (by kernel_rfl) (fun _ _ _ h => h) (Or.inl ⟨by rfl, by intro w hSw; go_simp⟩) (by assumption) ?_
              try simp only [Act.put, List.setIfInBounds_toArray, List.set_cons_zero, List.set_cons_succ]
              refine take_at (i := 11) 25 (v := .int .i64 0) rfl rfl (by kernel_rfl) (by kernel_rfl) (by kernel_rfl) (fun _ _ _ h => h) (Or.inl ⟨by rfl, by intro w hSw; go_simp⟩) (by assumption) ?_
              try simp only [Act.put, List.setIfInBounds_toArray, List.set_cons_zero, List.set_cons_succ]
              refine wpAnyH_done (by kernel_rfl) ?_ _
              have hbx := HH.out
              replace HT := hide (HT.out.step hbx)
              (try replace HA := hide (HA.out.step hbx))
              (try replace HC := hide (HC.out.step hbx))
              (try replace HS := hide (HS.out.step hbx))
              (try replace HL := hide (HL.out.step hbx))
              (try replace HFY := hide (HFY.out.step hbx))
              (try replace HFZ := hide (HFZ.out.step hbx))
              clear hbx
              rotate_left
            all_goals
              go_wp2
              go_ret
              exact ⟨rfl, HT.out.now.2⟩
theorem flat_ga8B : Flat 137 (8 * 2) := Flat.array Try.underlying137 (by kernel_rfl) flat_gauss
theorem flat_ga4B : Flat 105 (4 * 2) := Flat.array Try.underlying105 (by kernel_rfl) flat_gauss
theorem WaveBack_lawZ (z0 z1 z2 : List Int) (w : World) (h0 : z0.length = 8 * 2) (h1 : z1.length = 4 * 2) (h2 : z2.length = 4 * 2) :
    Calls Try.prog 18 #[.agg (iv z0).toArray, .agg (iv z1).toArray, .agg (iv z2).toArray] w fun e w' => e = .returned (.bool true) ∧ Below w.heap.size w w' := by
  obtain ⟨x, hx, e0⟩ := gausses_of 8 z0 h0
  obtain ⟨y, hy, e1⟩ := gausses_of 4 z1 h1
  obtain ⟨z, hz, e2⟩ := gausses_of 4 z2 h2
  rw [e0, e1, e2]
  exact WaveBack_law x hx y hy z hz w
end Go.Proofs.Ythfmjohbokpceaa
