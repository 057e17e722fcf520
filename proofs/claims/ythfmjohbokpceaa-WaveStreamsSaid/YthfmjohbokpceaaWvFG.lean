import Derived.Test.YthfmjohbokpceaaWvFF
import Derived.Test.YthfmjohbokpceaaListN
import Derived.Test.YthfmjohbokpceaaGuards
namespace Go.Proofs.Ythfmjohbokpceaa
open Go.RowKit Go.WideShapes Go.ChangeShapes

/-! what the law of streams needs of each function -/
theorem own_cap {w : World} {base e size n m c : Nat} {A : Option Addr} {xs : List Value} (h : w.ownsRow base e size (.slice A n c) m xs) : n ≤ c := by
  rcases h.2 with ⟨h1, _⟩ | ⟨g, cap, cur, hv, _, _, h1, _⟩
  · injection h1 with _ h2 h3; omega
  · injection hv with _ h2 h3; omega
section
variable {P : Program} {ops : Array Oper} {o : Oper} {a : Act} {w : World} {K : Act → World → Prop} {Q : Exit → Act → World → Prop} {E : Prop}
theorem step_store_row (hgd : o.guard = none) (ty : TypeId) (x y : Operand) (ho : o.op = .store ty x y)
    (g : Nat) (cells : Array Value) (hx : a.eval x = .pointer (some ⟨g, 0, none⟩)) (hy : a.eval y = .agg cells)
    (t : TypeId) (old : Array Value) (hg : Blk w g t old) (hi : (P.info? ty).map (·.size) = some cells.size)
    (hold : old.size = cells.size) (h1 : cells.all (·.oneCell') = true) (h : K (a.put o.dst undef) (w.setRow g cells)) :
    if Region.wanted o (yielded ops a.tmps) = true then o.wp P a w K Q else E := by
  rw [if_pos (by simp [Region.wanted, hgd])]
  exact wp_store_row ty x y ho g cells hx hy t old hg hi hold h1 h
end
theorem sy_key1 (l : List (List (Int × Int))) (h8 : ∀ s ∈ l, s.length = 8) (n : Int) : ∃ (E : Int) (N : Nat) (L : List Nm), L.length = N ∧ N ≤ 1000 ∧
    Hid (∀ D k W, Sl W D (svs l) → Calls Try.prog 78 #[.slice D l.length k, .int .i64 n] W fun e w' => ∃ C q, e = .returned (.tuple #[.slice C N q, .int .i64 E]) ∧ Sl w' C (nvs L) ∧ Below W.heap.size W w') ∧
    Hid (∀ A c W, Sl W A (svs l) → Calls Try.prog 81 #[.slice A l.length c, .int .i64 n] W fun e w' => e = .returned (.int .i64 E) ∧ Below W.heap.size W w') ∧
    ((E = 0 ∧ Hid (∀ A c W, Sl W A (svs l) → Calls Try.prog 82 #[.slice A l.length c, .int .i64 n] W fun e w' => ∃ C q, e = .returned (.slice C N q) ∧ Sl w' C (nvs L) ∧ Below W.heap.size W w')) ∨
     ((E == 0) = false ∧ N = 0 ∧ L = [])) := by
  have HE := hide (fun A c W (h : Sl W A (svs l)) => streamErr_ref A c l n W h8 h)
  by_cases h : strE l n = 0
  · obtain ⟨h1, h6, hen, hn0, hn7⟩ := strE_ok h
    obtain ⟨d, hd⟩ : ∃ d : Nat, (8 : Int) - n = d := ⟨(8 - n).toNat, by omega⟩
    rw [h] at HE
    exact ⟨0, _, strL l d l.length, rfl, by have := strL_len l d l.length; omega, hide (fun D k W hs => Stream_ok D k l n d W h8 hs h hd), HE, .inl ⟨rfl, hide (fun A c W hs => stream_ref A c l n d W h8 hs h6 hen hn0 hn7 hd)⟩⟩
  · exact ⟨strE l n, 0, [], rfl, by omega, hide (fun D k W hs => (Stream_err D k l n W h8 hs h).mono fun e w' ⟨h1, h2⟩ => ⟨none, 0, h1, fun j hj => absurd hj (by simp [nvs]), h2⟩), HE, .inr ⟨by rw [beq_eq_false_iff_ne]; exact h, rfl, rfl⟩⟩
theorem sy_key2 (x : List Nm) (hx : x.length ≤ 122) (n s : Int) : ∃ (E : Int) (B : Array Value), B.size = 32 ∧ B.all (·.oneCell') = true ∧ (∀ w, (binOp .eql 96 (.agg B) (.agg B)).run Try.prog w = .ok (.bool true) w) ∧
    Hid (∀ D k W, x.length ≤ k → Sl W D (nvs x) → Calls Try.prog 80 #[.slice D x.length k, .int .i64 n, .int .i64 s] W fun e w' => e = .returned (.tuple #[.agg B, .int .i64 E]) ∧ Below W.heap.size W w') ∧
    ∃ V, Hid (∀ A c W, Sl W A (nvs x) → Calls Try.prog 51 #[.slice A x.length c] W fun e w' => e = .returned (.int .i64 V) ∧ Below W.heap.size W w') ∧
    (((V == 0) = false ∧ E = V ∧ B = numArr [] 8) ∨ (V = 0 ∧ ∃ G, Hid (∀ W, Calls Try.prog 83 #[.int .i64 n] W fun e w' => e = .returned (.int .i64 G) ∧ W = w') ∧
      (((G == 0) = false ∧ E = G ∧ B = numArr [] 8) ∨ (G = 0 ∧ Hid (∀ A c W, Sl W A (nvs x) → Calls Try.prog 84 #[.slice A x.length c, .int .i64 n, .int .i64 s] W fun e w' => e = .returned (.tuple #[.agg B, .int .i64 E]) ∧ Below W.heap.size W w'))))) := by
  have HS := hide (fun A c W (h : Sl W A (nvs x)) => samplesErr_ref A c x W h (by omega))
  have HG := hide (fun W => guardErr_ref n W)
  have z1 : (numArr [] 8).size = 32 := numArr_size _ 8 (by simp)
  have z2 := fun w => arr8_eql [] (by simp) w
  by_cases h : syE x n = 0
  · obtain ⟨h1, h2⟩ := syE_ok h
    rw [h1] at HS
    rw [h2] at HG
    obtain ⟨hn0, hn7⟩ := gE_ok h2
    have hl : x.length ≤ 120 := by
      unfold smpE at h1
      split at h1
      · exact absurd h1 (by decide)
      · omega
    obtain ⟨B, E, hy, hb1, hb2, hb3⟩ : ∃ (B : Array Value) (E : Int), syOut x n s = .tuple #[.agg B, .int .i64 E] ∧ B.size = 32 ∧ B.all (·.oneCell') = true ∧ ∀ w, (binOp .eql 96 (.agg B) (.agg B)).run Try.prog w = .ok (.bool true) w := by
      cases hv : symOk x.length n s
      · exact ⟨_, _, syOut_bad hv, z1, numArr_one _ _, z2⟩
      · obtain ⟨q1, q2, q3⟩ := symOk_le hn0 hv
        have hXl : (symX x (s * (8 + n) + n).toNat).length = 8 := symX_len (by omega)
        refine ⟨_, _, syOut_good hv, by simp [nvs_len, hXl], by rw [← numArr_full _ 8 hXl]; exact numArr_one _ _, ?_⟩
        rw [← numArr_full _ 8 hXl]
        exact arr8_eql _ (by omega)
    exact ⟨E, B, hb1, hb2, hb3, hide (fun D k W hk hs => by have := SymbolOf_ok D k x n s W hs hk h; rw [hy] at this; exact this), 0, HS, .inr ⟨rfl, 0, HG, .inr ⟨rfl, hide (fun A c W hs => by have := symbolOf_ref A c x n s W hs hl hn0 hn7; rw [hy] at this; exact this)⟩⟩⟩
  · refine ⟨syE x n, numArr [] 8, z1, numArr_one _ _, z2, hide (fun D k W _ hs => SymbolOf_err D k x n s W hs (by omega) h), smpE x, HS, ?_⟩
    by_cases h1 : smpE x = 0
    · have h3 : syE x n = gE n := by
        unfold syE firstOf
        rw [if_pos h1]
        unfold firstOf
        split
        · rename_i h; rw [h]; rfl
        · rfl
      exact .inr ⟨h1, gE n, HG, .inl ⟨by rw [beq_eq_false_iff_ne, ← h3]; exact h, h3, rfl⟩⟩
    · exact .inl ⟨by rw [beq_eq_false_iff_ne]; exact h1, by unfold syE firstOf; rw [if_neg h1], rfl⟩
end Go.Proofs.Ythfmjohbokpceaa
