import Derived.Test.YthfmjohbokpceaaDftLaw
import Derived.Test.YthfmjohbokpceaaWvFF
import Derived.Test.YthfmjohbokpceaaWvDC
import Derived.Test.YthfmjohbokpceaaWvG
import Derived.Test.YthfmjohbokpceaaWvEE
import Derived.Test.YthfmjohbokpceaaListP
import Derived.Test.YthfmjohbokpceaaWvFG
namespace Go.Proofs.Ythfmjohbokpceaa
open Go.RowKit Go.WideShapes Go.ChangeShapes

/-! the plain law of a stream behind paths -/
def ssz (x : List (Int × Int)) (m : Int) : Nm := nsum (fun j => tni (ent (kg x j)) ((j : Int) * m)) 8
theorem ssum_ssz (x : List (Int × Int)) (n : Nat) (m : Int) (h : (n : Int) % 8 = m % 8) : ssum x n 8 = ssz x m := by
  unfold ssum ssz
  refine nsum_congr fun j _ => tni_mod ?_
  rw [Int.mul_emod, h, ← Int.mul_emod]
theorem strL_lenD (l : List (List (Int × Int))) (d : Nat) (hd : d ≤ 8) : ∀ k, (strL l d k).length = k * (16 - d)
  | 0 => by simp [strL]
  | k + 1 => by
    have := strL_lenD l d hd k
    rw [Nat.succ_mul]
    simp only [strL, List.length_append, List.length_drop, smpL_len]; omega
theorem kn_left (a b : List Nm) (i : Nat) (h : i < a.length) : kn (a ++ b) i = kn a i := by unfold kn; rw [List.getElem?_append_left h]
theorem kn_right (a b : List Nm) (i : Nat) (h : a.length ≤ i) : kn (a ++ b) i = kn b (i - a.length) := by unfold kn; rw [List.getElem?_append_right h]
theorem kn_smp (x : List (Int × Int)) (i : Nat) (h : i < 8) : kn (smpL x 8) i = ssum x i 8 := by unfold kn smpL; rw [tab_at _ h]; rfl
theorem kn_drop (a : List Nm) (d i : Nat) : kn (a.drop d) i = kn a (d + i) := by unfold kn; rw [List.getElem?_drop]
theorem strL_at (l : List (List (Int × Int))) (d : Nat) (hd : d ≤ 8) (k t : Nat) (ht : t < 16 - d) : ∀ K, k < K → kn (strL l d K) (k * (16 - d) + t) = ssz (ks l k) ((t : Int) - (8 - (d : Int)))
  | 0, h => absurd h (by omega)
  | K + 1, h => by
    have hl := strL_lenD l d hd K
    have e : strL l d (K + 1) = strL l d K ++ ((smpL (ks l K) 8).drop d ++ smpL (ks l K) 8) := by rw [strL, List.append_assoc]
    rw [e]
    by_cases hk : k < K
    · have : (k + 1) * (16 - d) ≤ K * (16 - d) := Nat.mul_le_mul_right _ hk
      rw [Nat.succ_mul] at this
      rw [kn_left _ _ _ (by omega)]
      exact strL_at l d hd k t ht K hk
    · obtain rfl : k = K := by omega
      rw [kn_right _ _ _ (by omega), hl, Nat.add_sub_cancel_left]
      have hdl : ((smpL (ks l k) 8).drop d).length = 8 - d := by rw [List.length_drop, smpL_len]
      by_cases h2 : t < 8 - d
      · rw [kn_left _ _ _ (by omega), kn_drop, kn_smp _ _ (by omega)]
        exact ssum_ssz _ _ _ (by omega)
      · rw [kn_right _ _ _ (by omega), hdl, kn_smp _ _ (by omega)]
        exact ssum_ssz _ _ _ (by omega)
theorem ssum_le8 {x : List (Int × Int)} (h : ∀ z ∈ x, entE z = 0) (n : Nat) : nle 80000 (ssum x n 8) := nle_mono (ssum_le h n 8) (by decide)
theorem smp_le8 {x : List (Int × Int)} (h : ∀ z ∈ x, entE z = 0) : ∀ z ∈ smpL x 8, nle 80000 z := fun z hz => by
  obtain ⟨k, _, rfl⟩ := mem_tab hz
  exact ssum_le8 h k
theorem strL_le (l : List (List (Int × Int))) (hen : ∀ s ∈ l, ∀ z ∈ s, entE z = 0) (d : Nat) : ∀ k, ∀ z ∈ strL l d k, nle 80000 z
  | 0, z, hz => absurd hz (by simp [strL])
  | k + 1, z, hz => by
    have hks : ∀ z ∈ ks l k, entE z = 0 := by
      intro z hz
      unfold ks at hz
      cases hg : l[k]? with
      | none => rw [hg] at hz; simp at hz
      | some s => rw [hg] at hz; exact hen s (List.mem_of_getElem? hg) z hz
    simp only [strL, List.mem_append] at hz
    rcases hz with (h | h) | h
    · exact strL_le l hen d k z h
    · exact smp_le8 hks z (List.mem_of_mem_drop h)
    · exact smp_le8 hks z h
theorem thr_le' {l : List Pth} {x : List Nm} (hl : ∀ p ∈ l, rightB p = true) (hx : ∀ z ∈ x, nle 80000 z) (n : Nat) : ∀ j : Nat, nle (j * 32000000) (thr l x n j)
  | 0 => by unfold thr nle n0; simp
  | j + 1 => by
    have h := thr_le' hl hx n j
    have hk := kp_right hl j
    unfold thr
    split
    · have h1 := nle_mul (kn_le' (by omega) hx ((n : Int) - (kp l j).1).toNat) (nle_ent (m := 100) (g := (kp l j).2) (by omega))
      exact nle_mono (nle_add h h1) (by push_cast; omega)
    · exact nle_mono h (by push_cast; omega)
theorem thr_all (p : List Pth) (X : List Nm) (T : Nat) : ∀ j : Nat, (∀ i, i < j → (kp p i).1 ≤ (T : Int)) → thr p X T j = nsum (fun i => nmul (kn X ((T : Int) - (kp p i).1).toNat) (ent (kp p i).2)) j
  | 0, _ => rfl
  | j + 1, h => by
    unfold thr
    rw [if_pos (h j (by omega)), thr_all p X T j (fun i hi => h i (by omega))]
    rfl
theorem pthG_pair : ∀ (l : List Pth) (last i : Int), (pthG last i l).2 = 0 → l.Pairwise (fun a b => a.1 < b.1) ∧ ∀ p ∈ l, last < p.1
  | [], _, _, _ => ⟨List.Pairwise.nil, fun p hp => absurd hp (by simp)⟩
  | p :: r, last, i, h => by
    unfold pthG at h
    split at h
    · split at h
      · rename_i hlt
        obtain ⟨h1, h2⟩ := pthG_pair r p.1 (i + 1) h
        refine ⟨List.pairwise_cons.2 ⟨h2, h1⟩, fun q hq => ?_⟩
        rcases List.mem_cons.1 hq with rfl | hq
        · exact hlt
        · have := h2 q hq; omega
      · exact absurd h (by simp)
    · exact absurd h (by simp)
theorem kp_last {l : List Pth} (h : (pthV l).2 = 0) (j : Nat) (hj : j < l.length) : (kp l j).1 ≤ (kp l (l.length - 1)).1 := by
  obtain ⟨h0, h6, _⟩ := pthV_ok h
  unfold pthV at h
  rw [if_neg (by omega), if_neg (by omega)] at h
  have hp := List.pairwise_iff_getElem.1 (pthG_pair l _ _ h).1
  rw [kp_at hj, kp_at (show l.length - 1 < l.length by omega)]
  by_cases e : j = l.length - 1
  · subst e; exact Int.le_refl _
  · exact Int.le_of_lt (hp j (l.length - 1) hj (by omega) (by omega))
/-- what stands in the hypotheses of WaveChannel -/
structure Chan (l : List (List (Int × Int))) (p : List Pth) (n : Int) (d : Nat) : Prop where
  h8 : ∀ s ∈ l, s.length = 8
  hE : strE l n = 0
  hd : (8 : Int) - n = d
  hp : (pthV p).2 = 0
  hq : (kp p (p.length - 1)).1 ≤ n
section
variable {l : List (List (Int × Int))} {p : List Pth} {n : Int} {d : Nat}
abbrev chX (l : List (List (Int × Int))) (d : Nat) : List Nm := strL l d l.length
abbrev chY (l : List (List (Int × Int))) (p : List Pth) (d : Nat) : List Nm := thL p (chX l d) (chX l d).length
abbrev chS (l : List (List (Int × Int))) (p : List Pth) (d i : Nat) : List Nm := symX (chY l p d) (i * (16 - d) + (8 - d))
theorem Chan.d8 (h : Chan l p n d) : 1 ≤ d ∧ d ≤ 8 := by
  obtain ⟨_, _, _, h0, h7⟩ := strE_ok h.hE
  have := h.hd
  omega
theorem Chan.xlen (h : Chan l p n d) : (chX l d).length = l.length * (16 - d) := strL_lenD l d h.d8.2 _
theorem Chan.xle (h : Chan l p n d) : (chX l d).length ≤ 90 := by
  rw [h.xlen]
  obtain ⟨_, h6, _⟩ := strE_ok h.hE
  have := Nat.mul_le_mul h6 (show 16 - d ≤ 15 by have := h.d8; omega)
  omega
theorem Chan.xnle (h : Chan l p n d) : ∀ z ∈ chX l d, nle 80000 z := strL_le l (strE_ok h.hE).2.2.1 d _
theorem Chan.smp (h : Chan l p n d) : smpE (chX l d) = 0 := by
  unfold smpE
  rw [if_neg (by have := h.xle; omega)]
  refine eachE_zero fun z hz => ?_
  unfold numE
  rw [(fitsB_iff _ _).2 (nle_mono (h.xnle z hz) (by decide))]; rfl
theorem Chan.thE (h : Chan l p n d) : thE p (chX l d) = 0 := by
  unfold Go.Proofs.Ythfmjohbokpceaa.thE
  exact firstOf_zero fun x hx => by
    rcases List.mem_cons.1 hx with rfl | hx
    · exact h.hp
    · rcases List.mem_cons.1 hx with rfl | hx
      · exact h.smp
      · exact absurd hx (by simp)
theorem Chan.ylen (h : Chan l p n d) : (chY l p d).length = l.length * (16 - d) := by unfold chY thL; rw [tab_len, h.xlen]
theorem Chan.ynle (h : Chan l p n d) : ∀ z ∈ chY l p d, nle 192000000 z := fun z hz => by
  obtain ⟨k, _, rfl⟩ := mem_tab hz
  obtain ⟨_, h6, hr⟩ := pthV_ok h.hp
  exact nle_mono (thr_le' hr h.xnle k p.length) (by omega)
theorem Chan.yfits (h : Chan l p n d) : (chY l p d).all (fitsB 1000000000) = true := by
  rw [List.all_eq_true]
  exact fun z hz => (fitsB_iff _ _).2 (nle_mono (h.ynle z hz) (by decide))
theorem Chan.syE (h : Chan l p n d) : syE (chY l p d) n = 0 := by
  obtain ⟨_, _, _, h0, h7⟩ := strE_ok h.hE
  unfold Go.Proofs.Ythfmjohbokpceaa.syE
  refine firstOf_zero fun x hx => ?_
  rcases List.mem_cons.1 hx with rfl | hx
  · unfold smpE
    rw [if_neg (by have := h.xle; rw [h.xlen] at this; rw [h.ylen]; omega)]
    refine eachE_zero fun z hz => ?_
    unfold numE
    rw [(fitsB_iff _ _).2 (nle_mono (h.ynle z hz) (by decide))]; rfl
  · rcases List.mem_cons.1 hx with rfl | hx
    · unfold gE unlessE withinB; rw [if_pos (by simp; omega)]
    · exact absurd hx (by simp)
theorem Chan.at (h : Chan l p n d) (i : Nat) (hi : i < l.length) : i * (16 - d) + (8 - d) + 8 ≤ (chY l p d).length := by
  rw [h.ylen]
  have : (i + 1) * (16 - d) ≤ l.length * (16 - d) := Nat.mul_le_mul_right _ hi
  rw [Nat.succ_mul] at this
  have := h.d8
  omega
theorem Chan.place (h : Chan l p n d) (i : Nat) : ((i : Int) * (8 + n) + n).toNat = i * (16 - d) + (8 - d) := by
  have h1 := h.hd
  have h2 := h.d8
  have : (8 : Int) + n = ((16 - d : Nat) : Int) := by omega
  rw [this]
  have : n = ((8 - d : Nat) : Int) := by omega
  rw [this]
  have : (i : Int) * ((16 - d : Nat) : Int) + ((8 - d : Nat) : Int) = ((i * (16 - d) + (8 - d) : Nat) : Int) := by push_cast; rfl
  rw [this]
  exact Int.toNat_natCast _
theorem Chan.symOk (h : Chan l p n d) (i : Nat) (hi : i < l.length) : symOk (chY l p d).length n i = true := by
  unfold Go.Proofs.Ythfmjohbokpceaa.symOk withinB
  have h1 := h.hd
  have h2 := h.d8
  have e : (8 : Int) + n = ((16 - d : Nat) : Int) := by omega
  rw [h.ylen, e, ← Int.ofNat_tdiv, Nat.mul_div_cancel _ (by omega)]
  simp; omega
theorem Chan.sy (h : Chan l p n d) (i : Nat) (hi : i < l.length) : syOut (chY l p d) n i = .tuple #[.agg (nvs (chS l p d i)).toArray, .int .i64 0] := by
  rw [syOut_good (h.symOk i hi), h.place]
theorem Chan.slen (h : Chan l p n d) (i : Nat) (hi : i < l.length) : (chS l p d i).length = 8 := symX_len (h.at i hi)
theorem Chan.snle (h : Chan l p n d) (i : Nat) : ∀ z ∈ chS l p d i, nle 192000000 z := fun z hz => h.ynle z (List.mem_of_mem_drop (List.mem_of_mem_take hz))
theorem Chan.sE (h : Chan l p n d) (i : Nat) : eachE numE (chS l p d i) = 0 := by
  refine eachE_zero fun z hz => ?_
  unfold numE
  rw [(fitsB_iff _ _).2 (nle_mono (h.snle i z hz) (by decide))]; rfl
theorem Chan.sat (h : Chan l p n d) (i : Nat) (hi : i < l.length) (m : Nat) (hm : m < 8) : kn (chS l p d i) m = nsum (fun j => nmul (ent (kp p j).2) (ssz (ks l i) ((m : Int) - (kp p j).1))) p.length := by
  have ha := h.at i hi
  have hy := h.ylen
  have h1 := h.hd
  have h2 := h.d8
  have hx := h.xlen
  obtain ⟨_, _, hr⟩ := pthV_ok h.hp
  have e1 : kn (chS l p d i) m = kn (chY l p d) (i * (16 - d) + (8 - d) + m) := by
    unfold kn chS symX
    rw [List.getElem?_take, if_pos hm, List.getElem?_drop]
  have e2 : kn (chY l p d) (i * (16 - d) + (8 - d) + m) = thr p (chX l d) (i * (16 - d) + (8 - d) + m) p.length := by
    unfold kn chY thL; rw [tab_at _ (by omega)]; rfl
  have hle : ∀ j, j < p.length → 0 ≤ (kp p j).1 ∧ (kp p j).1 ≤ ((8 - d : Nat) : Int) := fun j hj => by
    have := kp_last h.hp j hj
    have := h.hq
    have := kp_right hr j
    omega
  rw [e1, e2, thr_all _ _ _ _ fun j hj => by have := hle j hj; omega]
  refine nsum_congr fun j hj => ?_
  obtain ⟨q0, q1⟩ := hle j hj
  rw [nmul_comm]
  congr 1
  obtain ⟨t, ht⟩ : ∃ t : Nat, ((8 - d : Nat) : Int) + m - (kp p j).1 = t := ⟨(((8 - d : Nat) : Int) + m - (kp p j).1).toNat, by omega⟩
  have e3 : (((i * (16 - d) + (8 - d) + m : Nat) : Int) - (kp p j).1).toNat = i * (16 - d) + t := by omega
  rw [e3, strL_at l d h2.2 i t (by omega) l.length hi]
  congr 1
  omega
theorem Chan.tr (h : Chan l p n d) (i : Nat) (hi : i < l.length) (k : Nat) (hk : k < 8) : tsm (chS l p d i) k 8 = nmul (rsum p k p.length) (nsc 8 (ent (kg (ks l i) k))) := by
  unfold tsm
  rw [nsum_congr fun m hm => by rw [h.sat i hi m hm]]
  exact conv8 (fun j => ent (kg (ks l i) j)) (fun j => ent (kp p j).2) (fun j => (kp p j).1) p.length k hk
theorem Chan.hnle (h : Chan l p n d) (k : Nat) : nle 600 (rsum p k p.length) := by
  obtain ⟨_, h6, hr⟩ := pthV_ok h.hp
  exact nle_mono (rsum_le hr k p.length) (by omega)
theorem Chan.ksE (h : Chan l p n d) (i : Nat) : ∀ z ∈ ks l i, entE z = 0 := by
  intro z hz
  unfold ks at hz
  cases hg : l[i]? with
  | none => rw [hg] at hz; simp at hz
  | some s => rw [hg] at hz; exact (strE_ok h.hE).2.2.1 s (List.mem_of_getElem? hg) z hz
theorem Chan.enle (h : Chan l p n d) (i k : Nat) : nle 80000 (nsc 8 (ent (kg (ks l i) k))) := by
  have := kg_le (h.ksE i) k
  exact nle_mono (nle_sc (n := 8) (by omega) (nle_ent (m := 10000) (by omega))) (by decide)
theorem Chan.tnle (h : Chan l p n d) (i k : Nat) : nle 192000000 (nmul (rsum p k p.length) (nsc 8 (ent (kg (ks l i) k)))) := nle_mono (nle_mul (h.hnle k) (h.enle i k)) (by decide)
theorem Chan.tfits (h : Chan l p n d) (i : Nat) (hi : i < l.length) : (trL (chS l p d i) 8).all (fitsB 1000000000) = true := by
  rw [List.all_eq_true]
  intro z hz
  obtain ⟨k, hk, rfl⟩ := mem_tab hz
  rw [h.tr i hi k hk]
  exact (fitsB_iff _ _).2 (nle_mono (h.tnle i k) (by decide))
theorem Chan.prd (h : Chan l p n d) (i k : Nat) : prdE (rsum p k p.length) (nsc 8 (ent (kg (ks l i) k))) = 0 ∧ prdV (rsum p k p.length) (nsc 8 (ent (kg (ks l i) k))) = nmul (rsum p k p.length) (nsc 8 (ent (kg (ks l i) k))) := by
  have e0 : prdE0 (rsum p k p.length) (nsc 8 (ent (kg (ks l i) k))) = 0 := by
    unfold prdE0 numE
    rw [(fitsB_iff _ _).2 (nle_mono (h.hnle k) (by decide)), (fitsB_iff _ _).2 (nle_mono (h.enle i k) (by decide))]; rfl
  have e1 : prdE (rsum p k p.length) (nsc 8 (ent (kg (ks l i) k))) = 0 := by
    unfold prdE
    rw [if_pos e0, (fitsB_iff _ _).2 (nle_mono (h.tnle i k) (by decide)), if_pos rfl]
  exact ⟨e1, by unfold prdV; rw [if_pos e1]⟩
end
end Go.Proofs.Ythfmjohbokpceaa

namespace Go.Proofs.Ythfmjohbokpceaa
open Go.RowKit Go.WideShapes Go.ChangeShapes

/-! the statement WaveChannel -/
theorem pathsErr_ref (A : Option Addr) (c : Nat) (l : List Pth) (w : World) (hs : Sl w A (pvs l)) :
    Calls Try.prog 25 #[.slice A l.length c] w fun e w' => e = .returned (.int .i64 (pthV l).2) ∧ Below w.heap.size w w' := by
  have HS := hide (checkPaths_ref A c l w hs)
  clear hs
  go_enter Try.func25, Try.ntmps25
  go_wp2_with (go_at_call 66; go_must (refine HS.out.mono ?_; rintro e w1 ⟨rfl, hb⟩; simp only []))
  go_ret
  exact ⟨rfl, hb⟩
theorem Blk.num {w : World} {g : Nat} {t : TypeId} {L : List Nm} (h : Blk w g t (nvs L).toArray) {k : Nat} (hk : k < L.length) : w.cell? ⟨g, k * 4, none⟩ = some (.int .i64 (kn L k).1) ∧ w.cell? ⟨g, k * 4 + 1, none⟩ = some (.int .i64 (kn L k).2.1) ∧ w.cell? ⟨g, k * 4 + 2, none⟩ = some (.int .i64 (kn L k).2.2.1) ∧ w.cell? ⟨g, k * 4 + 3, none⟩ = some (.int .i64 (kn L k).2.2.2) := by
  obtain ⟨h0, h1, h2, h3⟩ := nvs_at L k hk
  have e : kn L k = L[k] := by unfold kn; rw [List.getElem?_eq_getElem hk]; rfl
  rw [e]
  refine ⟨?_, ?_, ?_, ?_⟩ <;> rw [h.cell] <;> simpa
theorem sym_cells {w : World} {A : Option Addr} {l : List (List (Int × Int))} (hs : Sl w A (svs l)) (h8 : ∀ s ∈ l, s.length = 8) {i k : Nat} (hi : i < l.length) (hk : k < 8) :
    ∃ b off, A = some ⟨b, off, none⟩ ∧ w.cell? ⟨b, off + i * 16 + k * 2, none⟩ = some (.int .i64 (kg (ks l i) k).1) ∧ w.cell? ⟨b, off + i * 16 + k * 2 + 1, none⟩ = some (.int .i64 (kg (ks l i) k).2) := by
  obtain ⟨b, off, e, h⟩ := hs.at16 h8 hi
  have hkl : k < l[i].length := by rw [h8 _ (List.getElem_mem hi)]; exact hk
  obtain ⟨b2, off2, e2, x0, x1⟩ := h.at2 hkl
  injection e2 with e2; injection e2 with e3 e4 _; subst e3 e4
  have e5 : kg (ks l i) k = l[i][k] := by unfold kg ks; rw [List.getElem?_eq_getElem hi, Option.getD_some, List.getElem?_eq_getElem hkl]; rfl
  rw [e5]
  exact ⟨b, off, e, x0, x1⟩
set_option maxRecDepth 100000 in
set_option maxHeartbeats 20000000 in
theorem WaveChannel_law (A : Option Addr) (c : Nat) (l : List (List (Int × Int))) (B : Option Addr) (d0 : Nat) (p : List Pth) (n : Int) (w : World) (h8 : ∀ s ∈ l, s.length = 8) (hs0 : Sl w A (svs l)) (hs1 : Sl w B (pvs p)) :
    Calls Try.prog 19 #[.slice A l.length c, .slice B p.length d0, .int .i64 n] w fun e w' => e = .returned (.bool true) ∧ Below w.heap.size w w' := by
  have HT := hide (((stay_sl hs0).and (stay_sl hs1)).and (stay_below (Below.refl w.heap.size w)))
  have HSE := hide (fun W (h : Sl W A (svs l)) => streamErr_ref A c l n W h8 h)
  have HPE := hide (fun W (h : Sl W B (pvs p)) => pathsErr_ref B d0 p W h)
  clear hs0 hs1
  by_cases hl0 : 6 < l.length
  · clear HSE HPE h8
    go_enter Try.func19, Try.ntmps19
    go_wp2_with (first
      | (go_at_call 20; go_must (refine (awake_ok _).mono ?_; rintro e w1 ⟨rfl, hb⟩; replace HT := hide (HT.out.step hb); clear hb; simp only [])))
    go_ret
    exact ⟨rfl, HT.out.now.2⟩
  have hl0' : l.length ≤ 6 := by omega
  clear hl0
  by_cases hl1 : 6 < p.length
  · clear HSE HPE h8
    go_enter Try.func19, Try.ntmps19
    go_wp2_with (first
      | (go_at_call 20; go_must (refine (awake_ok _).mono ?_; rintro e w1 ⟨rfl, hb⟩; replace HT := hide (HT.out.step hb); clear hb; simp only [])))
    go_ret
    exact ⟨rfl, HT.out.now.2⟩
  have hl1' : p.length ≤ 6 := by omega
  clear hl1
  by_cases hE : strE l n = 0
  rotate_left
  · obtain ⟨E, hE'⟩ : ∃ E, strE l n = E := ⟨_, rfl⟩
    rw [hE'] at HSE hE
    have hq : (E != 0) = true := by rw [bne_iff_ne]; exact hE
    clear hE hE' h8 HPE
    go_enter Try.func19, Try.ntmps19
    go_wp2_with (first
      | (go_at_call 20; go_must (refine (awake_ok _).mono ?_; rintro e w1 ⟨rfl, hb⟩; replace HT := hide (HT.out.step hb); clear hb; simp only []))
      | (go_at_call 81; go_must (refine (HSE.out _ HT.out.now.1.1).mono ?_; rintro e w2 ⟨rfl, hb⟩; replace HT := hide (HT.out.step hb); clear hb; simp only [])))
    go_ret
    exact ⟨rfl, HT.out.now.2⟩
  by_cases hP : (pthV p).2 = 0
  rotate_left
  · obtain ⟨E, hE'⟩ : ∃ E, (pthV p).2 = E := ⟨_, rfl⟩
    rw [hE'] at HPE hP
    rw [hE] at HSE
    have hq : (E != 0) = true := by rw [bne_iff_ne]; exact hP
    clear hE hE' h8 hP
    go_enter Try.func19, Try.ntmps19
    go_wp2_with (first
      | (go_at_call 20; go_must (refine (awake_ok _).mono ?_; rintro e w1 ⟨rfl, hb⟩; replace HT := hide (HT.out.step hb); clear hb; simp only []))
      | (go_at_call 81; go_must (refine (HSE.out _ HT.out.now.1.1).mono ?_; rintro e w2 ⟨rfl, hb⟩; replace HT := hide (HT.out.step hb); clear hb; simp only []))
      | (go_at_call 25; go_must (refine (HPE.out _ HT.out.now.1.2).mono ?_; rintro e w3 ⟨rfl, hb⟩; replace HT := hide (HT.out.step hb); clear hb; simp only [])))
    go_ret
    exact ⟨rfl, HT.out.now.2⟩
  rw [hP] at HPE
  rw [hE] at HSE
  obtain ⟨hp0, _, _⟩ := pthV_ok hP
  obtain ⟨q, hq⟩ : ∃ q, (kp p (p.length - 1)).1 = q := ⟨_, rfl⟩
  have HLAST := hide (fun W (h : Sl W B (pvs p)) => by have := h.atP (k := p.length - 1) (by omega); rw [hq] at this; exact this)
  obtain ⟨b, off, rfl, _⟩ := HLAST.out _ HT.out.now.1.2
  have HCELL := hide (fun W (h : Sl W (some ⟨b, off, none⟩) (pvs p)) => show W.cell? ⟨b, off + (p.length - 1) * 3, none⟩ = some (.int .i64 q) by
    obtain ⟨b', off', e, h1, _⟩ := HLAST.out _ h
    injection e with e; injection e with e1 e2 _; subst e1 e2; exact h1)
  clear HLAST
  by_cases hqn : q ≤ n
  rotate_left
  · have hqn' : n < q := by omega
    clear hE hP h8 hq hqn
    go_enter Try.func19, Try.ntmps19
    go_wp2_with (first
      | (go_at_call 20; go_must (refine (awake_ok _).mono ?_; rintro e w1 ⟨rfl, hb⟩; replace HT := hide (HT.out.step hb); clear hb; simp only []))
      | (go_at_call 81; go_must (refine (HSE.out _ HT.out.now.1.1).mono ?_; rintro e w2 ⟨rfl, hb⟩; replace HT := hide (HT.out.step hb); clear hb; simp only []))
      | (go_at_call 25; go_must (refine (HPE.out _ HT.out.now.1.2).mono ?_; rintro e w3 ⟨rfl, hb⟩; replace HT := hide (HT.out.step hb); clear hb; simp only []; have hcell := HCELL.out _ HT.out.now.1.2)))
    go_ret
    exact ⟨rfl, HT.out.now.2⟩
  obtain ⟨d, hd⟩ : ∃ d : Nat, (8 : Int) - n = d := ⟨(8 - n).toNat, by have := strE_ok hE; omega⟩
  have C : Chan l p n d := ⟨h8, hE, hd, hP, by rw [hq]; exact hqn⟩
  obtain ⟨hL0, _, _, hn0, hn7⟩ := strE_ok hE
  have hX := C.xlen
  have hXle := C.xle
  have hY := C.ylen
  obtain ⟨N, hN⟩ : ∃ N, (chX l d).length = N := ⟨_, rfl⟩
  have hYN : (chY l p d).length = N := by rw [hY, ← hX, hN]
  rw [hN] at hXle
  have hwn : IntKind.i64.wrap ((l.length : Int) * (8 + n)) = (N : Int) := by
    have e : (8 : Int) + n = ((16 - d : Nat) : Int) := by have := C.d8; omega
    rw [e, ← hN, hX, ← Int.natCast_mul]
    rw [hN] at hX
    exact IntWalk.i64_in _ (by omega)
  have HCS := hide (fun W (h : Sl W A (svs l)) => copySym A c l W h8 h (by omega))
  have HCP := hide (fun W (h : Sl W (some ⟨b, off, none⟩) (pvs p)) => copyPath _ d0 p W h (by omega))
  have HSTR := hide (fun D k W (h : Sl W D (svs l)) => by have := Stream_ok D k l n d W h8 h hE hd; rw [hN] at this; exact this)
  have HCX := hide (fun D k W (h : Sl W D (nvs (chX l d))) => by have := copyNum D k (chX l d) W h (by omega); rw [hN] at this; exact this)
  have HCY := hide (fun D k W (h : Sl W D (nvs (chY l p d))) => by have := copyNum D k (chY l p d) W h (by omega); rw [hYN] at this; exact this)
  have HTH := hide (show ∀ D D' k k' W, Sl W D (pvs p) → Sl W D' (nvs (chX l d)) → Calls Try.prog 26 #[.slice D p.length k, .slice D' N k'] W fun e w' => ∃ G q, e = .returned (.tuple #[.slice G N q, .int .i64 0]) ∧ Sl w' G (nvs (chY l p d)) ∧ Below W.heap.size W w' from
    fun D D' k k' W h h' => (Through_ok D D' k k' p.length N p (chX l d) W rfl hN h h' C.thE).mono fun e w' ⟨wt, ht, hb⟩ => by
      have hf := C.yfits
      unfold chY at hf hYN
      rw [hN] at hf hYN
      rcases ht with ⟨_, ⟨G, q, h2, h4⟩, h3⟩ | ⟨h1, _, _⟩
      · rw [hYN] at h2
        exact ⟨G, q, h2, by unfold chY; rw [hN]; exact h4, Below.step hb h3⟩
      · rw [hf] at h1; exact absurd h1 (by decide))
  obtain ⟨H, hH, hH1, hH2⟩ : ∃ H : Array Value, numArr (rspL p 8) 8 = H ∧ H.size = 32 ∧ H.all (·.oneCell') = true := ⟨_, rfl, numArr_size _ 8 (by rw [rspL_len]; omega), numArr_one _ _⟩
  have HRSP := hide (fun D k W (h : Sl W D (pvs p)) => by have := responseOf_ok D k p.length p W rfl h hP; rw [hH] at this; exact this)
  have HHN := hide (show H = (nvs (rspL p 8)).toArray by rw [← hH]; exact numArr_full _ 8 (rspL_len p 8))
  have HHZ := hide hH1
  have HC := hide C
  have HYN := hide hYN
  have H8 := hide h8
  clear hH hH1 C hX hY hN hYN hE hP hq hd h8
  go_enter Try.func19, Try.ntmps19
  go_wp2_with (first
    | (go_at_call 20; go_must (refine (awake_ok _).mono ?_; rintro e w1 ⟨rfl, hb⟩; replace HT := hide (HT.out.step hb); clear hb; simp only []))
    | (go_at_call 81; go_must (refine (HSE.out _ HT.out.now.1.1).mono ?_; rintro e w2 ⟨rfl, hb⟩; replace HT := hide (HT.out.step hb); clear hb; simp only []))
    | (go_at_call 25; go_must (refine (HPE.out _ HT.out.now.1.2).mono ?_; rintro e w3 ⟨rfl, hb⟩; replace HT := hide (HT.out.step hb); clear hb; simp only []; have hcell := HCELL.out _ HT.out.now.1.2))
    | (go_at_call 79; go_must (refine (HCS.out _ HT.out.now.1.1).mono ?_; rintro e w4 ⟨D1, k1, rfl, ho, hb⟩; replace HT := hide (HT.out.step hb); (try replace HDS := hide (HDS.out.step hb)); (try replace HDP := hide (HDP.out.step hb)); (try replace HDX := hide (HDX.out.step hb)); (try replace HSL := hide (HSL.out.step hb)); (try replace HBH := hide (HBH.out.step hb)); have HDS := hide (stay_sl (Sl.of_ownN ho)); clear ho; clear hb; simp only []))
    | (go_at_call 78; go_must (refine (HSTR.out _ _ _ HDS.out.now).mono ?_; rintro e w5 ⟨D2, k2, rfl, hg, hb⟩; replace HT := hide (HT.out.step hb); (try replace HDS := hide (HDS.out.step hb)); (try replace HDP := hide (HDP.out.step hb)); (try replace HDX := hide (HDX.out.step hb)); (try replace HSL := hide (HSL.out.step hb)); (try replace HBH := hide (HBH.out.step hb)); have HDX := hide (stay_sl hg); clear hg; clear hb; simp only []))
    | (go_at_call 64; go_must (refine (HCP.out _ HT.out.now.1.2).mono ?_; rintro e w6 ⟨D3, k3, rfl, ho, hb⟩; replace HT := hide (HT.out.step hb); (try replace HDS := hide (HDS.out.step hb)); (try replace HDP := hide (HDP.out.step hb)); (try replace HDX := hide (HDX.out.step hb)); (try replace HSL := hide (HSL.out.step hb)); (try replace HBH := hide (HBH.out.step hb)); have HDP := hide (stay_sl (Sl.of_ownN ho)); clear ho; clear hb; simp only []))
    | (go_at_call 49; go_must (refine (HCX.out _ _ _ HDX.out.now).mono ?_; rintro e w7 ⟨D4, k4, rfl, ho, hb⟩; replace HT := hide (HT.out.step hb); (try replace HDS := hide (HDS.out.step hb)); (try replace HDP := hide (HDP.out.step hb)); (try replace HDX := hide (HDX.out.step hb)); (try replace HSL := hide (HSL.out.step hb)); (try replace HBH := hide (HBH.out.step hb)); have HDC := hide (stay_sl (Sl.of_ownN ho)); clear ho; clear hb; simp only []))
    | (go_at_call 26; go_must (refine (HTH.out _ _ _ _ _ HDP.out.now HDC.out.now).mono ?_; rintro e w8 ⟨G, gq, rfl, hg, hb⟩; replace HT := hide (HT.out.step hb); (try replace HDS := hide (HDS.out.step hb)); (try replace HDP := hide (HDP.out.step hb)); (try replace HDX := hide (HDX.out.step hb)); (try replace HSL := hide (HSL.out.step hb)); (try replace HBH := hide (HBH.out.step hb)); have HSL := hide (stay_sl hg); clear hg; clear hb; simp only []))
    | (go_at_call 65; go_must (refine (HRSP.out _ _ _ HDP.out.now).mono ?_; rintro e w9 ⟨rfl, hb⟩; replace HT := hide (HT.out.step hb); (try replace HDS := hide (HDS.out.step hb)); (try replace HDP := hide (HDP.out.step hb)); (try replace HDX := hide (HDX.out.step hb)); (try replace HSL := hide (HSL.out.step hb)); (try replace HBH := hide (HBH.out.step hb)); clear hb; simp only []))
    | (refine wpList_store_row rfl 96 (.tmp 11) (.tmp 72) rfl w9.heap.size H rfl rfl 96 (numArr [] 8) (Blk.new w9 _ _) (by rw [HHZ.out]; kernel_rfl) (by rw [HHZ.out]; rfl) hH2 ?_; have hrow : Below w9.heap.size w9 ((w9.alloc (.cells (numArr [] 8) 96)).setRow w9.heap.size H) := Below.row ((Below.refl _ _).alloc (Nat.le_refl _) _) (Nat.le_refl _) _; replace HT := hide (HT.out.step hrow); replace HSL := hide (HSL.out.step hrow); have HBH := hide (stay_blk ((Blk.new w9 96 (numArr [] 8)).row H)); clear hrow))
  obtain ⟨v0, hv0⟩ : ∃ v0, (w9.alloc (.cells (numArr [] 8) 96)).setRow w9.heap.size H = v0 := ⟨_, rfl⟩
  rw [hv0] at HT HSL HBH
  rw [show (w9.alloc (.cells #[.int .i64 0, .int .i64 0, .int .i64 0, .int .i64 0, .int .i64 0, .int .i64 0, .int .i64 0, .int .i64 0, .int .i64 0, .int .i64 0, .int .i64 0, .int .i64 0, .int .i64 0, .int .i64 0, .int .i64 0, .int .i64 0, .int .i64 0, .int .i64 0, .int .i64 0, .int .i64 0, .int .i64 0, .int .i64 0, .int .i64 0, .int .i64 0, .int .i64 0, .int .i64 0, .int .i64 0, .int .i64 0, .int .i64 0, .int .i64 0, .int .i64 0, .int .i64 0] 96)).setRow w9.heap.size H = v0 from hv0]
  clear hv0
  obtain ⟨g, hg⟩ : ∃ g, w9.heap.size = g := ⟨_, rfl⟩
  rw [hg] at HBH ⊢
  clear hg HCS HCP HSTR HCX HTH HRSP HSE HPE HCELL hwn
  try clear HDS HDP HDX HDC
  try clear hcell
  go_loopw [13] (fun i wr => ∃ k : Nat, k ≤ l.length ∧ i = .int .i64 k ∧ Below v0.heap.size v0 wr) (fun i _ => l.length - (intOf i).toNat)
  case atStart => exact ⟨0, Nat.zero_le _, rfl, Below.refl _ _⟩
  case round =>
    obtain ⟨i, hi, rfl, hbel⟩ := hrel
    have HT1 := hide (HT.out.step hbel)
    have HSL1 := hide (HSL.out.step hbel)
    have HBH1 := hide (HBH.out.step hbel)
    have HB1 := hide (stay_below hbel)
    clear hbel
    obtain ⟨wo, rfl⟩ : ∃ wo : World, wo = wr := ⟨_, rfl⟩
    by_cases hlt : i < l.length
    · have HSY := hide (fun D k W (hk : N ≤ k) (h : Sl W D (nvs (chY l p d))) => by
        have := SymbolOf_ok D k (chY l p d) n i W h (by rw [HYN.out]; exact hk) HC.out.syE
        rw [HC.out.sy i hlt, HYN.out] at this
        exact this)
      have hsl := HC.out.slen i hlt
      obtain ⟨S, hS⟩ : ∃ S, chS l p d i = S := ⟨_, rfl⟩
      have HTR := hide (fun W => by have := Transform_ok S W (by rw [← hS]; exact hsl) (by rw [← hS]; exact HC.out.sE i) (by rw [← hS]; exact HC.out.tfits i hlt); exact this)
      have HTE := hide (fun k (hk : k < 8) => show kn (trL S 8) k = nmul (rsum p k p.length) (nsc 8 (ent (kg (ks l i) k))) by
        rw [← hS]
        have e : kn (trL (chS l p d i) 8) k = tsm (chS l p d i) k 8 := by unfold kn trL; rw [tab_at _ hk]; rfl
        rw [e]
        exact HC.out.tr i hlt k hk)
      rw [hS] at HSY hsl
      have hs1 : (nvs S).toArray.size = 32 := by simp [nvs_len, hsl]
      have hs2 : (nvs S).toArray.all (·.oneCell') = true := by rw [← numArr_full S 8 hsl]; exact numArr_one _ _
      have ht1 : (nvs (trL S 8)).toArray.size = 32 := by simp [nvs_len, trL_len]
      have ht2 : (nvs (trL S 8)).toArray.all (·.oneCell') = true := by rw [← numArr_full (trL S 8) 8 (trL_len S 8)]; exact numArr_one _ _
      obtain ⟨SA, hSA⟩ : ∃ SA, (nvs S).toArray = SA := ⟨_, rfl⟩
      obtain ⟨TA, hTA⟩ : ∃ TA, (nvs (trL S 8)).toArray = TA := ⟨_, rfl⟩
      rw [hSA] at hs1 hs2 HTR HSY
      rw [hTA] at ht1 ht2 HTR
      have HSZ := hide hs1
      have HTZ := hide ht1
      have HTA := hide hTA
      clear hs1 ht1 hSA hTA hsl hS
      go_wp2_with (first
        | (go_at_call 49; go_must (refine (HCY.out _ _ _ HSL1.out.now).mono ?_; rintro e w2 ⟨D, k, rfl, ho, hb⟩; replace HT1 := hide (HT1.out.step hb); replace HSL1 := hide (HSL1.out.step hb); replace HBH1 := hide (HBH1.out.step hb); replace HB1 := hide (HB1.out.step hb); (try replace HBS := hide (HBS.out.step hb)); have HD := hide (Sl.of_ownN ho); have HCAP := hide (own_cap ho); clear ho; clear hb; simp only []))
        | (go_at_call 80; go_must (refine (HSY.out _ _ _ HCAP.out HD.out).mono ?_; rintro e w3 ⟨rfl, hb⟩; replace HT1 := hide (HT1.out.step hb); replace HSL1 := hide (HSL1.out.step hb); replace HBH1 := hide (HBH1.out.step hb); replace HB1 := hide (HB1.out.step hb); (try replace HBS := hide (HBS.out.step hb)); clear HD HCAP; clear hb; simp only []))
        | (refine wpList_store_row rfl 96 (.tmp 14) (.tmp 106) rfl w3.heap.size SA rfl rfl 96 (numArr [] 8) (Blk.new w3 _ _) (by rw [HSZ.out]; kernel_rfl) (by rw [HSZ.out]; rfl) hs2 ?_; have hrow : Below w3.heap.size w3 ((w3.alloc (.cells (numArr [] 8) 96)).setRow w3.heap.size SA) := Below.row ((Below.refl _ _).alloc (Nat.le_refl _) _) (Nat.le_refl _) _; replace HT1 := hide (HT1.out.step hrow); replace HSL1 := hide (HSL1.out.step hrow); replace HBH1 := hide (HBH1.out.step hrow); replace HB1 := hide (HB1.out.step hrow); (try replace HBS := hide (HBS.out.step hrow)); have HBS := hide (stay_blk ((Blk.new w3 96 (numArr [] 8)).row SA)); clear hrow)
        | (refine wpList_load_rowG 96 (.tmp 14) rfl (by rfl) (w3.heap.size) rfl 96 SA _ (HBS.out.now) Try.underlying96 rfl (by rw [HSZ.out]; kernel_rfl) ?_)
        | (go_at_call 89; go_must (refine (HTR.out _).mono ?_; rintro e w4 ⟨rfl, hb⟩; replace HT1 := hide (HT1.out.step hb); replace HSL1 := hide (HSL1.out.step hb); replace HBH1 := hide (HBH1.out.step hb); replace HB1 := hide (HB1.out.step hb); (try replace HBS := hide (HBS.out.step hb)); clear hb; simp only []))
        | (refine wpList_store_row rfl 96 (.tmp 16) (.tmp 111) rfl w4.heap.size TA rfl rfl 96 (numArr [] 8) (Blk.new w4 _ _) (by rw [HTZ.out]; kernel_rfl) (by rw [HTZ.out]; rfl) ht2 ?_; have hrow : Below w4.heap.size w4 ((w4.alloc (.cells (numArr [] 8) 96)).setRow w4.heap.size TA) := Below.row ((Below.refl _ _).alloc (Nat.le_refl _) _) (Nat.le_refl _) _; replace HT1 := hide (HT1.out.step hrow); replace HSL1 := hide (HSL1.out.step hrow); replace HBH1 := hide (HBH1.out.step hrow); replace HB1 := hide (HB1.out.step hrow); (try replace HBS := hide (HBS.out.step hrow)); have HBT := hide (stay_blk ((Blk.new w4 96 (numArr [] 8)).row TA)); clear hrow))
      obtain ⟨v1, hv1⟩ : ∃ v1, (w4.alloc (.cells (numArr [] 8) 96)).setRow w4.heap.size TA = v1 := ⟨_, rfl⟩
      rw [hv1] at HT1 HSL1 HBH1 HB1 HBT
      rw [show (w4.alloc (.cells #[.int .i64 0, .int .i64 0, .int .i64 0, .int .i64 0, .int .i64 0, .int .i64 0, .int .i64 0, .int .i64 0, .int .i64 0, .int .i64 0, .int .i64 0, .int .i64 0, .int .i64 0, .int .i64 0, .int .i64 0, .int .i64 0, .int .i64 0, .int .i64 0, .int .i64 0, .int .i64 0, .int .i64 0, .int .i64 0, .int .i64 0, .int .i64 0, .int .i64 0, .int .i64 0, .int .i64 0, .int .i64 0, .int .i64 0, .int .i64 0, .int .i64 0, .int .i64 0] 96)).setRow w4.heap.size TA = v1 from hv1]
      clear hv1 HBS
      obtain ⟨g2, hg2⟩ : ∃ g, w4.heap.size = g := ⟨_, rfl⟩
      rw [hg2] at HBT ⊢
      clear hg2
      go_loopw [18] (fun i wr => ∃ k : Nat, k ≤ 8 ∧ i = .int .i64 k ∧ Below v1.heap.size v1 wr) (fun i _ => 8 - (intOf i).toNat)
      case atStart => exact ⟨0, Nat.zero_le _, rfl, Below.refl _ _⟩
      case round =>
        obtain ⟨k, hk, rfl, hbel⟩ := hrel
        by_cases hkt : k < 8
        · have HHL := hide (show (rspL p 8).length = 8 from rspL_len p 8)
          obtain ⟨a0, a1, a2, a3⟩ := (HHN.out ▸ (HBH1.out.step hbel).now : Blk wr g 96 (nvs (rspL p 8)).toArray).num (k := k) (by rw [HHL.out]; exact hkt)
          have e0 : kn (rspL p 8) k = rsum p k p.length := by unfold kn rspL; rw [List.getElem?_map, List.getElem?_range hkt]; rfl
          rw [e0] at a0 a1 a2 a3
          have HZ := hide (fun W (h : Below v1.heap.size v1 W) => (HTA.out ▸ (HBT.out.step h).now : Blk W g2 96 (nvs (trL S 8)).toArray).num (k := k) (by rw [trL_len]; exact hkt))
          have HZ1 := hide (HTE.out k hkt)
          obtain ⟨b1, off1, e2, x0, x1⟩ := sym_cells (HT1.out.step hbel).now.1.1 H8.out hlt hkt
          have HPR := hide (fun W => product_wave (rsum p k p.length) (nsc 8 (ent (kg (ks l i) k))) W)
          have HPE := hide (HC.out.prd i k)
          have HKL := hide (kg_le (HC.out.ksE i) k)
          obtain ⟨r, hr⟩ : ∃ r, rsum p k p.length = r := ⟨_, rfl⟩
          obtain ⟨x, hx⟩ : ∃ x, kg (ks l i) k = x := ⟨_, rfl⟩
          rw [hx] at x0 x1 HKL
          rw [hr] at a0 a1 a2 a3
          rw [hr, hx] at HPR HPE HZ1
          obtain ⟨y, hy⟩ : ∃ y, nmul r (nsc 8 (ent x)) = y := ⟨_, rfl⟩
          rw [hy] at HZ1 HPE
          rw [HPE.out.1, HPE.out.2] at HPR
          rw [show nsc 8 (ent x) = (8 * x.1, 0, 8 * x.2, 0) by unfold nsc ent; dsimp only; rw [Int.mul_comm x.1, Int.mul_comm x.2]; rfl] at HPR
          obtain ⟨k0, k1, k2, k3⟩ := HKL.out
          have hw1 : IntKind.i64.wrap (8 * x.1) = 8 * x.1 := IntWalk.i64_in _ (by omega)
          have hw2 : IntKind.i64.wrap (8 * x.2) = 8 * x.2 := IntWalk.i64_in _ (by omega)
          have hn : ∀ w, (binOp .neq 38 (nv y) (nv y)).run Try.prog w = .ok (.bool false) w := fun w => by have := wn_neq y y w; rw [decide_eq_true rfl] at this; exact this
          have HX := hide (And.intro x0 x1)
          have HA := hide (And.intro a0 (And.intro a1 (And.intro a2 a3)))
          have k4 : (0 : Int) ≤ k := by omega
          have k5 : (k : Int) < 8 := by omega
          have k6 : (0 : Int) ≤ i := by omega
          have k7 : (i : Int) < l.length := by omega
          have hbz := hbel.size
          clear hr hx hy HPE HKL e0 x0 x1 a0 a1 a2 a3 k0 k1 k2 k3
          subst e2
          go_wp2
          have HH0 := hide (show (fun w' => Below wr.heap.size wr w') wr.drew from below_drewN (Below.refl _ _) 1)
          refine wp_region_held_drew (S := fun w' => Below wr.heap.size wr w') (by kernel_rfl) HH0.out (fun hHeld => ?_)
          refine take_at (i := 0) 124 (v := .int .i64 (k : Int)) rfl rfl (by kernel_rfl) (by kernel_rfl) (by kernel_rfl) (fun _ _ _ h => h) (Or.inl ⟨by rfl, by intro w hSw; go_simp⟩) (by assumption) ?_
          try simp only [Act.put, List.setIfInBounds_toArray, List.set_cons_zero, List.set_cons_succ]
          refine take_at (i := 1) 125 (v := .pointer (some ⟨g, k * 4, none⟩)) rfl rfl (by kernel_rfl) (by kernel_rfl) (by kernel_rfl) (fun _ _ _ h => h) (Or.inl ⟨by rfl, by intro w hSw; go_simp⟩) (by assumption) ?_
          try simp only [Act.put, List.setIfInBounds_toArray, List.set_cons_zero, List.set_cons_succ]
          refine take_at (i := 2) 126 (v := nv r) rfl rfl (by kernel_rfl) (by kernel_rfl) (by kernel_rfl) (fun _ _ _ h => h) (Or.inl ⟨by rfl, by intro w hSw; have c0 := (hSw.cell (p := ⟨g, k * 4, none⟩) (lt_of_cell HA.out.1)).trans HA.out.1; have c1 := (hSw.cell (p := ⟨g, k * 4 + 1, none⟩) (lt_of_cell HA.out.2.1)).trans HA.out.2.1; have c2 := (hSw.cell (p := ⟨g, k * 4 + 2, none⟩) (lt_of_cell HA.out.2.2.1)).trans HA.out.2.2.1; have c3 := (hSw.cell (p := ⟨g, k * 4 + 3, none⟩) (lt_of_cell HA.out.2.2.2)).trans HA.out.2.2.2; go_simp⟩) (by assumption) ?_
          try simp only [Act.put, List.setIfInBounds_toArray, List.set_cons_zero, List.set_cons_succ]
          refine take_at (i := 3) 127 (v := .slice (some ⟨b1, off1, none⟩) l.length c) rfl rfl (by kernel_rfl) (by kernel_rfl) (by kernel_rfl) (fun _ _ _ h => h) (Or.inl ⟨by rfl, by intro w hSw; go_simp⟩) (by assumption) ?_
          try simp only [Act.put, List.setIfInBounds_toArray, List.set_cons_zero, List.set_cons_succ]
          refine take_at (i := 4) 128 (v := .int .i64 (i : Int)) rfl rfl (by kernel_rfl) (by kernel_rfl) (by kernel_rfl) (fun _ _ _ h => h) (Or.inl ⟨by rfl, by intro w hSw; go_simp⟩) (by assumption) ?_
          try simp only [Act.put, List.setIfInBounds_toArray, List.set_cons_zero, List.set_cons_succ]
          refine take_at (i := 5) 129 (v := .int .i64 (k : Int)) rfl rfl (by kernel_rfl) (by kernel_rfl) (by kernel_rfl) (fun _ _ _ h => h) (Or.inl ⟨by rfl, by intro w hSw; go_simp⟩) (by assumption) ?_
          try simp only [Act.put, List.setIfInBounds_toArray, List.set_cons_zero, List.set_cons_succ]
          refine take_at (i := 6) 130 (v := .pointer (some ⟨b1, off1 + i * 16, none⟩)) rfl rfl (by kernel_rfl) (by kernel_rfl) (by kernel_rfl) (fun _ _ _ h => h) (Or.inl ⟨by rfl, by intro w hSw; go_simp⟩) (by assumption) ?_
          try simp only [Act.put, List.setIfInBounds_toArray, List.set_cons_zero, List.set_cons_succ]
          refine take_at (i := 7) 131 (v := .pointer (some ⟨b1, off1 + i * 16 + k * 2, none⟩)) rfl rfl (by kernel_rfl) (by kernel_rfl) (by kernel_rfl) (fun _ _ _ h => h) (Or.inl ⟨by rfl, by intro w hSw; go_simp⟩) (by assumption) ?_
          try simp only [Act.put, List.setIfInBounds_toArray, List.set_cons_zero, List.set_cons_succ]
          refine take_at (i := 8) 132 (v := .pointer (some ⟨b1, off1 + i * 16 + k * 2, none⟩)) rfl rfl (by kernel_rfl) (by kernel_rfl) (by kernel_rfl) (fun _ _ _ h => h) (Or.inl ⟨by rfl, by intro w hSw; go_simp⟩) (by assumption) ?_
          try simp only [Act.put, List.setIfInBounds_toArray, List.set_cons_zero, List.set_cons_succ]
          refine take_at (i := 9) 133 (v := .int .i64 x.1) rfl rfl (by kernel_rfl) (by kernel_rfl) (by kernel_rfl) (fun _ _ _ h => h) (Or.inl ⟨by rfl, by intro w hSw; have c0 := (hSw.cell (p := ⟨b1, off1 + i * 16 + k * 2, none⟩) (lt_of_cell HX.out.1)).trans HX.out.1; go_simp⟩) (by assumption) ?_
          try simp only [Act.put, List.setIfInBounds_toArray, List.set_cons_zero, List.set_cons_succ]
          refine take_at (i := 10) 134 (v := .int .i64 (8 * x.1)) rfl rfl (by kernel_rfl) (by kernel_rfl) (by kernel_rfl) (fun _ _ _ h => h) (Or.inl ⟨by rfl, by intro w hSw; go_simp⟩) (by assumption) ?_
          try simp only [Act.put, List.setIfInBounds_toArray, List.set_cons_zero, List.set_cons_succ]
          refine take_at (i := 11) 135 (v := .slice (some ⟨b1, off1, none⟩) l.length c) rfl rfl (by kernel_rfl) (by kernel_rfl) (by kernel_rfl) (fun _ _ _ h => h) (Or.inl ⟨by rfl, by intro w hSw; go_simp⟩) (by assumption) ?_
          try simp only [Act.put, List.setIfInBounds_toArray, List.set_cons_zero, List.set_cons_succ]
          refine take_at (i := 12) 136 (v := .int .i64 (i : Int)) rfl rfl (by kernel_rfl) (by kernel_rfl) (by kernel_rfl) (fun _ _ _ h => h) (Or.inl ⟨by rfl, by intro w hSw; go_simp⟩) (by assumption) ?_
          try simp only [Act.put, List.setIfInBounds_toArray, List.set_cons_zero, List.set_cons_succ]
          refine take_at (i := 13) 137 (v := .int .i64 (k : Int)) rfl rfl (by kernel_rfl) (by kernel_rfl) (by kernel_rfl) (fun _ _ _ h => h) (Or.inl ⟨by rfl, by intro w hSw; go_simp⟩) (by assumption) ?_
          try simp only [Act.put, List.setIfInBounds_toArray, List.set_cons_zero, List.set_cons_succ]
          refine take_at (i := 14) 138 (v := .pointer (some ⟨b1, off1 + i * 16, none⟩)) rfl rfl (by kernel_rfl) (by kernel_rfl) (by kernel_rfl) (fun _ _ _ h => h) (Or.inl ⟨by rfl, by intro w hSw; go_simp⟩) (by assumption) ?_
          try simp only [Act.put, List.setIfInBounds_toArray, List.set_cons_zero, List.set_cons_succ]
          refine take_at (i := 15) 139 (v := .pointer (some ⟨b1, off1 + i * 16 + k * 2, none⟩)) rfl rfl (by kernel_rfl) (by kernel_rfl) (by kernel_rfl) (fun _ _ _ h => h) (Or.inl ⟨by rfl, by intro w hSw; go_simp⟩) (by assumption) ?_
          try simp only [Act.put, List.setIfInBounds_toArray, List.set_cons_zero, List.set_cons_succ]
          refine take_at (i := 16) 140 (v := .pointer (some ⟨b1, off1 + i * 16 + k * 2 + 1, none⟩)) rfl rfl (by kernel_rfl) (by kernel_rfl) (by kernel_rfl) (fun _ _ _ h => h) (Or.inl ⟨by rfl, by intro w hSw; go_simp⟩) (by assumption) ?_
          try simp only [Act.put, List.setIfInBounds_toArray, List.set_cons_zero, List.set_cons_succ]
          refine take_at (i := 17) 141 (v := .int .i64 x.2) rfl rfl (by kernel_rfl) (by kernel_rfl) (by kernel_rfl) (fun _ _ _ h => h) (Or.inl ⟨by rfl, by intro w hSw; have c0 := (hSw.cell (p := ⟨b1, off1 + i * 16 + k * 2 + 1, none⟩) (lt_of_cell HX.out.2)).trans HX.out.2; go_simp⟩) (by assumption) ?_
          try simp only [Act.put, List.setIfInBounds_toArray, List.set_cons_zero, List.set_cons_succ]
          refine take_at (i := 18) 142 (v := .int .i64 (8 * x.2)) rfl rfl (by kernel_rfl) (by kernel_rfl) (by kernel_rfl) (fun _ _ _ h => h) (Or.inl ⟨by rfl, by intro w hSw; go_simp⟩) (by assumption) ?_
          try simp only [Act.put, List.setIfInBounds_toArray, List.set_cons_zero, List.set_cons_succ]
          refine take_at (i := 19) 143 (v := nv (8 * x.1, 0, 8 * x.2, 0)) rfl rfl (by kernel_rfl) (by kernel_rfl) (by kernel_rfl) (fun _ _ _ h => h) (Or.inl ⟨by rfl, by intro w hSw; go_simp⟩) (by assumption) ?_
          try simp only [Act.put, List.setIfInBounds_toArray, List.set_cons_zero, List.set_cons_succ]
          refine wpAnyH_ready (rs := [20, 24]) (by kernel_rfl) (by simp) ?_
          refine AllReadyH.cons rfl (fun K hK => ?_) (AllReadyH.cons rfl (fun K hK => ?_) AllReadyH.nil)
          go_simp
          refine (HPR.out _).mono ?_
          rintro e w5 ⟨rfl, hb⟩
          have HI1 := hide (show (fun w' => Below wr.heap.size wr w') w5 from Below.step HH0.out hb)
          clear hb
          simp only []
          refine hK.out _ _ HI1.out (fun hHeld => ?_)
          clear hK K
          try simp only [Act.put, List.setIfInBounds_toArray, List.set_cons_zero, List.set_cons_succ]
          refine take_at (i := 21) 123 (v := .tuple #[nv y, .int .i64 0]) rfl rfl (by kernel_rfl) (by kernel_rfl) (by kernel_rfl) (fun _ _ _ h => h) (Or.inl ⟨by rfl, by intro w hSw; go_simp⟩) (by assumption) ?_
          try simp only [Act.put, List.setIfInBounds_toArray, List.set_cons_zero, List.set_cons_succ]
          refine take_at (i := 22) 145 (v := nv y) rfl rfl (by kernel_rfl) (by kernel_rfl) (by kernel_rfl) (fun _ _ _ h => h) (Or.inl ⟨by rfl, by intro w hSw; go_simp⟩) (by assumption) ?_
          try simp only [Act.put, List.setIfInBounds_toArray, List.set_cons_zero, List.set_cons_succ]
          refine take_at (i := 23) 146 (v := .int .i64 0) rfl rfl (by kernel_rfl) (by kernel_rfl) (by kernel_rfl) (fun _ _ _ h => h) (Or.inl ⟨by rfl, by intro w hSw; go_simp⟩) (by assumption) ?_
          try simp only [Act.put, List.setIfInBounds_toArray, List.set_cons_zero, List.set_cons_succ]
          refine wpAnyH_ready (rs := [24]) (by kernel_rfl) (by simp) ?_
          refine AllReadyH.cons rfl (fun K hK => ?_) AllReadyH.nil
          go_simp
          have HI2 := hide (show (fun w' => Below wr.heap.size wr w') (w5.alloc (.cells #[.int .i64 0, .int .i64 0, .int .i64 0, .int .i64 0] 38)) from HI1.out.alloc HI1.out.size _)
          have HBX := hide (show Stay (w5.alloc (.cells #[.int .i64 0, .int .i64 0, .int .i64 0, .int .i64 0] 38)) (fun W => Blk W w5.heap.size 38 #[.int .i64 0, .int .i64 0, .int .i64 0, .int .i64 0]) from stay_new w5 38 _)
          refine hK.out _ _ HI2.out (fun hHeld => ?_)
          clear hK K
          try simp only [Act.put, List.setIfInBounds_toArray, List.set_cons_zero, List.set_cons_succ]
          have HLE := hide HI1.out.size
          refine wpAnyH_ready (rs := [25]) (by kernel_rfl) (by simp) ?_
          refine AllReadyH.cons rfl (fun K hK => ?_) AllReadyH.nil
          refine step_store_row rfl 38 (.tmp 19) (.tmp 145) rfl w5.heap.size (ncells y) rfl rfl 38 #[.int .i64 0, .int .i64 0, .int .i64 0, .int .i64 0] HBX.out.now (by kernel_rfl) rfl (by simp [ncells, Value.oneCell']) ?_
          have HI4 := hide (show (fun w' => Below wr.heap.size wr w') ((w5.alloc (.cells #[.int .i64 0, .int .i64 0, .int .i64 0, .int .i64 0] 38)).setRow w5.heap.size (ncells y)) from Below.row HI2.out (by have := HLE.out; have e0 : wr.drew.heap.size = wr.heap.size := rfl; omega) _)
          replace HBX := hide (HBX.out.now.row (ncells y))
          refine hK.out _ _ HI4.out (fun hHeld => ?_)
          clear hK K
          try simp only [Act.put, List.setIfInBounds_toArray]
          refine take_at (i := 26) 20 (v := .int .i64 0) rfl rfl (by kernel_rfl) (by kernel_rfl) (by kernel_rfl) (fun _ _ _ h => h) (Or.inl ⟨by rfl, by intro w hSw; go_simp⟩) (by assumption) ?_
          try simp only [Act.put]
          refine wpAnyH_done (by kernel_rfl) ?_ _
          obtain ⟨v2, hv2⟩ : ∃ v2, (w5.alloc (.cells #[.int .i64 0, .int .i64 0, .int .i64 0, .int .i64 0] 38)).setRow w5.heap.size (ncells y) = v2 := ⟨_, rfl⟩
          rw [hv2] at HI4 HBX
          rw [show (w5.alloc (.cells #[.int .i64 0, .int .i64 0, .int .i64 0, .int .i64 0] 38)).setRow w5.heap.size (ncells y) = v2 from hv2]
          clear hv2
          obtain ⟨g3, hg3⟩ : ∃ g, w5.heap.size = g := ⟨_, rfl⟩
          rw [hg3] at HBX ⊢
          clear hg3
          have hb2 := hide (Below.step hbel HI4.out)
          clear HI4 HLE
          clear HI1 HI2
          rotate_left
          go_simp
          have HI1 := hide (show (fun w' => Below wr.heap.size wr w') (wr.drew.alloc (.cells #[.int .i64 0, .int .i64 0, .int .i64 0, .int .i64 0] 38)) from HH0.out.alloc HH0.out.size _)
          have HBX := hide (show Stay (wr.drew.alloc (.cells #[.int .i64 0, .int .i64 0, .int .i64 0, .int .i64 0] 38)) (fun W => Blk W wr.heap.size 38 #[.int .i64 0, .int .i64 0, .int .i64 0, .int .i64 0]) from stay_new wr.drew 38 _)
          refine hK.out _ _ HI1.out (fun hHeld => ?_)
          clear hK K
          try simp only [Act.put, List.setIfInBounds_toArray, List.set_cons_zero, List.set_cons_succ]
          have HLE := hide HH0.out.size
          refine wpAnyH_ready (rs := [20]) (by kernel_rfl) (by simp) ?_
          refine AllReadyH.cons rfl (fun K hK => ?_) AllReadyH.nil
          go_simp
          refine (HPR.out _).mono ?_
          rintro e w5 ⟨rfl, hb⟩
          replace HBX := hide (HBX.out.step hb)
          have HI2 := hide (show (fun w' => Below wr.heap.size wr w') w5 from Below.step HI1.out hb)
          clear hb
          simp only []
          refine hK.out _ _ HI2.out (fun hHeld => ?_)
          clear hK K
          try simp only [Act.put, List.setIfInBounds_toArray, List.set_cons_zero, List.set_cons_succ]
          refine take_at (i := 21) 123 (v := .tuple #[nv y, .int .i64 0]) rfl rfl (by kernel_rfl) (by kernel_rfl) (by kernel_rfl) (fun _ _ _ h => h) (Or.inl ⟨by rfl, by intro w hSw; go_simp⟩) (by assumption) ?_
          try simp only [Act.put, List.setIfInBounds_toArray, List.set_cons_zero, List.set_cons_succ]
          refine take_at (i := 22) 145 (v := nv y) rfl rfl (by kernel_rfl) (by kernel_rfl) (by kernel_rfl) (fun _ _ _ h => h) (Or.inl ⟨by rfl, by intro w hSw; go_simp⟩) (by assumption) ?_
          try simp only [Act.put, List.setIfInBounds_toArray, List.set_cons_zero, List.set_cons_succ]
          refine take_at (i := 23) 146 (v := .int .i64 0) rfl rfl (by kernel_rfl) (by kernel_rfl) (by kernel_rfl) (fun _ _ _ h => h) (Or.inl ⟨by rfl, by intro w hSw; go_simp⟩) (by assumption) ?_
          try simp only [Act.put, List.setIfInBounds_toArray, List.set_cons_zero, List.set_cons_succ]
          refine wpAnyH_ready (rs := [25]) (by kernel_rfl) (by simp) ?_
          refine AllReadyH.cons rfl (fun K hK => ?_) AllReadyH.nil
          refine step_store_row rfl 38 (.tmp 19) (.tmp 145) rfl wr.heap.size (ncells y) rfl rfl 38 #[.int .i64 0, .int .i64 0, .int .i64 0, .int .i64 0] HBX.out.now (by kernel_rfl) rfl (by simp [ncells, Value.oneCell']) ?_
          have HI4 := hide (show (fun w' => Below wr.heap.size wr w') (w5.setRow wr.heap.size (ncells y)) from Below.row HI2.out (by have := HLE.out; have e0 : wr.drew.heap.size = wr.heap.size := rfl; omega) _)
          replace HBX := hide (HBX.out.now.row (ncells y))
          refine hK.out _ _ HI4.out (fun hHeld => ?_)
          clear hK K
          try simp only [Act.put, List.setIfInBounds_toArray]
          refine take_at (i := 26) 20 (v := .int .i64 0) rfl rfl (by kernel_rfl) (by kernel_rfl) (by kernel_rfl) (fun _ _ _ h => h) (Or.inl ⟨by rfl, by intro w hSw; go_simp⟩) (by assumption) ?_
          try simp only [Act.put]
          refine wpAnyH_done (by kernel_rfl) ?_ _
          obtain ⟨v2, hv2⟩ : ∃ v2, w5.setRow wr.heap.size (ncells y) = v2 := ⟨_, rfl⟩
          rw [hv2] at HI4 HBX
          rw [show w5.setRow wr.heap.size (ncells y) = v2 from hv2]
          clear hv2
          obtain ⟨g3, hg3⟩ : ∃ g, wr.heap.size = g := ⟨_, rfl⟩
          rw [hg3] at HBX ⊢
          clear hg3
          have hb2 := hide (Below.step hbel HI4.out)
          clear HI4 HLE
          clear HI1 HI2
          all_goals
            obtain ⟨z0, z1, z2, z3⟩ := HZ.out _ hb2.out
            rw [HZ1.out] at z0 z1 z2 z3
            obtain ⟨y0, y1, y2, y3, _⟩ := HBX.out.n4
            clear HX HA HH0
            go_wp2
            go_quiet (fail)
            go_wp2
            go_roundw
            case rel => exact ⟨k + 1, by omega, by go_num, below_drewN hb2.out _⟩
            case measure => simp [intOf]; omega
        · obtain rfl : k = 8 := by omega
          go_wp2
          go_roundw
          case rel => exact ⟨i + 1, by omega, by go_num, (HB1.out.step hbel).now⟩
          case measure => simp [intOf]; omega
    · obtain rfl : i = l.length := by omega
      go_wp2
      go_ret
      exact ⟨rfl, HT1.out.now.2⟩
end Go.Proofs.Ythfmjohbokpceaa
