import Derived.Test.YtamkannjdbodpaaRRef
import Derived.Test.YtamkannjdbodpaaEqs
namespace Go.Proofs.Ytamkannjdbodpaa
open Go.RowKit Go.WideShapes Go.ChangeShapes

theorem LooksAt.get {w : World} {base : Nat} : ∀ {xs : List Value} {L : List Look}, LooksAt w base xs L → ∀ i (h : i < L.length),
    ∃ A c, xs[i * 3]? = some (.slice A L[i].l.length c) ∧ Sl w A (iv L[i].l) ∧ xs[i * 3 + 1]? = some (.int .i64 L[i].P) ∧ xs[i * 3 + 2]? = some (.int .i64 L[i].Q)
  | [], [], _, i, h => absurd h (by simp)
  | [], _ :: _, h, _, _ => h.elim
  | [_], [], h, _, _ => h.elim
  | [_], _ :: _, h, _, _ => h.elim
  | [_, _], [], h, _, _ => h.elim
  | [_, _], _ :: _, h, _, _ => h.elim
  | _ :: _ :: _ :: _, [], h, _, _ => h.elim
  | _ :: _ :: _ :: _, x :: _, ⟨⟨A, c, e, ho⟩, hp, hq, _⟩, 0, _ => ⟨A, c, by simp [e], Sl.of_own (by rw [← e]; exact ho), by simp [hp], by simp [hq]⟩
  | _ :: _ :: _ :: r, _ :: L, ⟨_, _, _, hr⟩, i + 1, h => by
    obtain ⟨A, c, h1, h2, h3, h4⟩ := LooksAt.get hr i (by simpa using h)
    have e : (i + 1) * 3 = i * 3 + 1 + 1 + 1 := by omega
    rw [e]
    exact ⟨A, c, by simpa using h1, by simpa using h2, by simpa using h3, by simpa using h4⟩
theorem Sl.at' {w : World} {A : Option Addr} {xs : List Value} (h : Sl w A xs) {j : Nat} {u : Value} (hu : xs[j]? = some u) : ∃ b off, A = some ⟨b, off, none⟩ ∧ w.cell? ⟨b, off + j, none⟩ = some u := by
  obtain ⟨hj, rfl⟩ := List.getElem?_eq_some_iff.1 hu
  exact h j hj
set_option maxRecDepth 100000 in
theorem sq_neq (a b a' b' : Int) (w : World) : (binOp .neq 42 (.agg #[.int .i64 a, .int .i64 b]) (.agg #[.int .i64 a', .int .i64 b'])).run Try.prog w = .ok (.bool (!(a == a' && b == b'))) w := by
  rw [run_neq_struct, run_equalIn_agg (d := 9999) (ht := sq_under) (hp := sq_held)]
  simp [go_sem]
  (repeat' split) <;> simp_all
theorem ints_q (A B : Option Addr) (c d n : Nat) (l : List Int) (w : World) (k : Nat) (ha : Sl w A (iv l)) (hb : Sl w B (iv l)) (hl : l.length = n) (hn : n ≤ 1000000) :
    Calls Try.prog 26 #[.slice A n c, .slice B n d] (w.drewN k) fun x w' => x = .returned (.bool true) ∧ ∃ m, w' = w.drewN m :=
  (ints_same A B c d n l (w.drewN k) (ha.drewN k) (hb.drewN k) hl hn).mono fun e w' ⟨he, m, hm⟩ => ⟨he, by rw [hm]; exact drewN2 _ _ _⟩

set_option maxRecDepth 100000 in
set_option maxHeartbeats 2000000 in
theorem sameLooks_ref (A B : Option Addr) (c c' : Nat) (xs ys : List Value) (L : List Look) (base base' : Nat) (w : World) (hs : Sl w A xs) (hs' : Sl w B ys) (hx : LooksAt w base xs L) (hy : LooksAt w base' ys L) (hl : L.length ≤ 100) (hll : ∀ i (h : i < L.length), L[i].l.length = 8) :
    Calls Try.prog 36 #[.slice A L.length c, .slice B L.length c'] w fun e w' => e = .returned (.bool true) ∧ ∃ n, w' = w.drewN n := by
  have HS := hide hs; clear hs
  have HS' := hide hs'; clear hs'
  have HX := hide hx; clear hx
  have HY := hide hy; clear hy
  have HLL := hide hll; clear hll
  have hn : ((L.length : Int) != L.length) = false := by simp
  go_enter Try.func36, Try.ntmps36
  go_wp2
  go_loopw [5] (fun i wr => ∃ k : Nat, k ≤ L.length ∧ i = .int .i64 k ∧ ∃ n, wr = w.drewN n) (fun i _ => L.length - (intOf i).toNat)
  case atStart => exact ⟨0, Nat.zero_le _, rfl, 0, rfl⟩
  case round =>
    obtain ⟨k, hk, rfl, n, hwr⟩ := hrel
    have HWR := hide hwr
    by_cases hlt : k < L.length
    · obtain ⟨A1, c1, h1, s1, h2, h3⟩ := HX.out.get k hlt
      obtain ⟨A2, c2, g1, s2, g2, g3⟩ := HY.out.get k hlt
      have hl8 := HLL.out k hlt
      have S1 := hide (show Sl wr A1 (iv L[k].l) by rw [hwr]; exact s1.drewN n)
      have S2 := hide (show Sl wr A2 (iv L[k].l) by rw [hwr]; exact s2.drewN n)
      have HL8 := hide hl8
      obtain ⟨P, hP⟩ : ∃ P, L[k].P = P := ⟨_, rfl⟩
      obtain ⟨Q, hQ⟩ : ∃ Q, L[k].Q = Q := ⟨_, rfl⟩
      rw [hP] at h2 g2
      rw [hQ] at h3 g3
      rw [hl8] at h1 g1
      clear hP hQ s1 s2 hl8
      obtain ⟨b1, o1, rfl, d1⟩ := HS.out.at' h1
      obtain ⟨b1', o1', e, d2⟩ := HS.out.at' h2
      injection e with e; injection e with e e0; subst e e0
      obtain ⟨b1'', o1'', e, d3⟩ := HS.out.at' h3
      injection e with e; injection e with e e0; subst e e0
      obtain ⟨b2, o2, rfl, f1⟩ := HS'.out.at' g1
      obtain ⟨b2', o2', e, f2⟩ := HS'.out.at' g2
      injection e with e; injection e with e e0; subst e e0
      obtain ⟨b2'', o2'', e, f3⟩ := HS'.out.at' g3
      injection e with e; injection e with e e0; subst e e0
      have hq : ∀ w, (binOp .neq 42 (.agg #[.int .i64 P, .int .i64 Q]) (.agg #[.int .i64 P, .int .i64 Q])).run Try.prog w = .ok (.bool false) w := fun w => (sq_neq _ _ _ _ w).trans (by simp)
      clear h1 h2 h3 g1 g2 g3
      have q1 : wr.cell? ⟨b1, o1 + k * 3, none⟩ = some (.slice A1 8 c1) := by rw [hwr]; exact d1
      have q2 : wr.cell? ⟨b1, o1 + (k * 3 + 1), none⟩ = some (.int .i64 P) := by rw [hwr]; exact d2
      have q3 : wr.cell? ⟨b1, o1 + (k * 3 + 2), none⟩ = some (.int .i64 Q) := by rw [hwr]; exact d3
      have q4 : wr.cell? ⟨b2, o2 + k * 3, none⟩ = some (.slice A2 8 c2) := by rw [hwr]; exact f1
      have q5 : wr.cell? ⟨b2, o2 + (k * 3 + 1), none⟩ = some (.int .i64 P) := by rw [hwr]; exact f2
      have q6 : wr.cell? ⟨b2, o2 + (k * 3 + 2), none⟩ = some (.int .i64 Q) := by rw [hwr]; exact f3
      rw [← Nat.add_assoc] at q2 q3 q5 q6
      clear d1 d2 d3 f1 f2 f3 hwr
      go_wp2
      go_quiet (first | (go_at_call 26; exact ints_q A1 A2 c1 c2 8 _ _ _ S1.out S2.out HL8.out (by omega)))
      go_wp2
      go_roundw
      case rel => exact ⟨k + 1, by omega, by go_num, by rw [HWR.out]; exact drewN2 _ _ _⟩
      case measure => simp [intOf]; omega
    · go_wp2
      go_ret
      exact ⟨rfl, n, by first | rfl | exact HWR.out⟩
end Go.Proofs.Ytamkannjdbodpaa
