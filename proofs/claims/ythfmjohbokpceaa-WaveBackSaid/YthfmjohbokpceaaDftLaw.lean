import Derived.Test.YthfmjohbokpceaaWvAlg
namespace Go.Proofs.Ythfmjohbokpceaa

/-! plain laws of transforms of eight points -/
theorem tni_mod {x : Nm} {m n : Int} (h : m % 8 = n % 8) : tni x m = tni x n := by unfold tni; rw [h]
theorem nsc_add (c : Int) (x y : Nm) : nsc c (nadd x y) = nadd (nsc c x) (nsc c y) := by unfold nsc nadd; dsimp only; simp only [Int.add_mul]
theorem nsc_n0 (c : Int) : nsc c n0 = n0 := by unfold nsc n0; simp
theorem nsc_nsum (c : Int) (f : Nat → Nm) : ∀ n, nsc c (nsum f n) = nsum (fun k => nsc c (f k)) n
  | 0 => nsc_n0 c
  | n + 1 => by rw [nsum, nsc_add, nsc_nsum c f n]; rfl
theorem nmul_sc (c : Int) (x y : Nm) : nmul x (nsc c y) = nsc c (nmul x y) := by unfold nmul nsc; refine nm_ext ?_ ?_ ?_ ?_ <;> dsimp only <;> grind
theorem nconj_add (x y : Nm) : nconj (nadd x y) = nadd (nconj x) (nconj y) := by unfold nconj nadd; dsimp only; simp only [Int.neg_add]
theorem nconj_nsum (f : Nat → Nm) : ∀ n, nconj (nsum f n) = nsum (fun k => nconj (f k)) n
  | 0 => by rfl
  | n + 1 => by rw [nsum, nconj_add, nconj_nsum f n]; rfl
theorem t1_conj (x : Nm) : nconj (t1 x) = tn 7 (nconj x) := by obtain ⟨a, b, c, d⟩ := x; simp [nconj, t1, tn]
theorem tn_conj (x : Nm) : ∀ n : Nat, nconj (tn n x) = tni (nconj x) (-(n : Int))
  | 0 => rfl
  | n + 1 => by
    rw [tn, t1_conj, tn_conj x n]
    have : ∀ z : Nm, tn 7 z = tni z 7 := fun _ => rfl
    rw [this, tni_tni]
    exact tni_mod (by omega)
theorem tni_conj (x : Nm) (n : Int) : nconj (tni x n) = tni (nconj x) (-n) := by
  unfold tni
  rw [tn_conj]
  exact tni_mod (by omega)
theorem orth_zero (z : Nm) : nsum (fun _ => z) 8 = nsc 8 z := by
  obtain ⟨a, b, c, d⟩ := z
  refine nm_ext ?_ ?_ ?_ ?_ <;> simp [nsum, nadd, n0, nsc] <;> omega
theorem orth_off (z : Nm) (d : Int) (h : d % 8 ≠ 0) : nsum (fun n => tni z ((n : Int) * d)) 8 = n0 := by
  obtain ⟨e, he⟩ : ∃ e : Nat, d % 8 = e := ⟨(d % 8).toNat, by omega⟩
  have h8 : e < 8 := by omega
  have hc : nsum (fun n => tni z ((n : Int) * d)) 8 = nsum (fun n => tn ((n * e) % 8) z) 8 := by
    refine nsum_congr fun n _ => ?_
    unfold tni
    congr 1
    have : ((n : Int) * d) % 8 = ((n : Int) * (d % 8)) % 8 := by rw [Int.mul_emod, Int.mul_emod n (d % 8), Int.emod_emod_of_dvd _ (Int.dvd_refl 8)]
    rw [this, he]
    have : ((n : Int) * (e : Int)) % 8 = ((n * e % 8 : Nat) : Int) := by push_cast; rfl
    rw [this]
    omega
  rw [hc]
  obtain ⟨a, b, c, f⟩ := z
  have he0 : e ≠ 0 := by omega
  clear hc he h
  match e, h8, he0 with
  | 1, _, _ => simp [nsum, tn, t1, nadd, n0]; omega
  | 2, _, _ => simp [nsum, tn, t1, nadd, n0]; omega
  | 3, _, _ => simp [nsum, tn, t1, nadd, n0]; omega
  | 4, _, _ => simp [nsum, tn, t1, nadd, n0]; omega
  | 5, _, _ => simp [nsum, tn, t1, nadd, n0]; omega
  | 6, _, _ => simp [nsum, tn, t1, nadd, n0]; omega
  | 7, _, _ => simp [nsum, tn, t1, nadd, n0]; omega
theorem nsum_delta (g : Nat → Nm) (k : Nat) : ∀ n, nsum (fun j => if j = k then g j else n0) n = if k < n then g k else n0
  | 0 => rfl
  | n + 1 => by
    rw [nsum, nsum_delta g k n]
    by_cases h : n = k
    · subst h; rw [if_neg (by omega), if_pos rfl, if_pos (by omega), zero_nadd]
    · rw [if_neg h, nadd_zero]
      by_cases h' : k < n
      · rw [if_pos h', if_pos (by omega)]
      · rw [if_neg h', if_neg (by omega)]
theorem orth8 (f : Nat → Nm) (k : Nat) (hk : k < 8) : nsum (fun n => tni (nsum (fun j => tni (f j) ((j : Int) * (n : Int))) 8) (-(k : Int) * (n : Int))) 8 = nsc 8 (f k) := by
  rw [nsum_congr (g := fun n => nsum (fun j => tni (f j) ((n : Int) * ((j : Int) - k))) 8) fun n _ => ?_]
  · rw [nsum_swap]
    rw [nsum_congr (g := fun j => if j = k then nsc 8 (f j) else n0) fun j hj => ?_]
    · rw [nsum_delta, if_pos hk]
    · by_cases h : j = k
      · subst h
        rw [if_pos rfl, ← orth_zero]
        refine nsum_congr fun n _ => ?_
        rw [Int.sub_self, Int.mul_zero]; rfl
      · rw [if_neg h]
        exact orth_off _ _ (by omega)
  · rw [tni_nsum]
    refine nsum_congr fun j _ => ?_
    rw [tni_tni]
    congr 1
    grind
theorem parseval8 (f : Nat → Nm) : nsum (fun n => nmul (nsum (fun j => tni (f j) ((j : Int) * (n : Int))) 8) (nconj (nsum (fun j => tni (f j) ((j : Int) * (n : Int))) 8))) 8 = nsum (fun j => nsc 8 (nmul (f j) (nconj (f j)))) 8 := by
  have e1 : ∀ n : Nat, nmul (nsum (fun j => tni (f j) ((j : Int) * (n : Int))) 8) (nconj (nsum (fun j => tni (f j) ((j : Int) * (n : Int))) 8)) =
      nsum (fun k => nmul (nconj (f k)) (tni (nsum (fun j => tni (f j) ((j : Int) * (n : Int))) 8) (-(k : Int) * (n : Int)))) 8 := by
    intro n
    rw [nconj_nsum, nmul_nsum]
    refine nsum_congr fun k _ => ?_
    rw [tni_conj, nmul_tni, nmul_tni, nmul_comm (nconj (f k)), Int.neg_mul]
  rw [nsum_congr fun n _ => e1 n, nsum_swap]
  refine nsum_congr fun k hk => ?_
  rw [← nmul_nsum, orth8 f k hk, nmul_sc, nmul_comm]
theorem conv8 (x g : Nat → Nm) (d : Nat → Int) (P k : Nat) (hk : k < 8) :
    nsum (fun m => tni (nsum (fun p => nmul (g p) (nsum (fun j => tni (x j) ((j : Int) * ((m : Int) - d p))) 8)) P) (-(k : Int) * (m : Int))) 8 = nmul (nsum (fun p => tni (g p) (-(k : Int) * d p)) P) (nsc 8 (x k)) := by
  rw [nsum_congr (g := fun m => nsum (fun p => nmul (g p) (tni (nsum (fun j => tni (tni (x j) (-(j : Int) * d p)) ((j : Int) * (m : Int))) 8) (-(k : Int) * (m : Int)))) P) fun m _ => ?_]
  · rw [nsum_swap, nmul_comm, nmul_nsum]
    refine nsum_congr fun p _ => ?_
    rw [← nmul_nsum, orth8 (fun j => tni (x j) (-(j : Int) * d p)) k hk, nmul_sc, nmul_tni, nmul_tni, nmul_comm (nsc 8 (x k)), nmul_sc, tni_sc]
  · rw [tni_nsum]
    refine nsum_congr fun p _ => ?_
    rw [nmul_tni]
    congr 2
    refine nsum_congr fun j _ => ?_
    rw [tni_tni]
    congr 1
    grind
end Go.Proofs.Ythfmjohbokpceaa
