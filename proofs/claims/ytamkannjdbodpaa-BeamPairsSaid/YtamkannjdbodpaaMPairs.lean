import Derived.Test.YtamkannjdbodpaaBest
import Derived.Test.YtamkannjdbodpaaCmpr
namespace Go.Proofs.Ytamkannjdbodpaa
open Go.RowKit Go.WideShapes Go.ChangeShapes

theorem userE_ok {n0 : Nat} {h : List (Int × Int)} (e : userE n0 h = 0) : chE h = 0 ∧ h.length = n0 ∧ h.any someG = true := by
  have h1 := firstOf_ok e (chE h) (by simp)
  have h2 := firstOf_ok e (unlessE (decide (h.length = n0)) 13) (by simp)
  have h3 := firstOf_ok e (unlessE (h.any someG) 11) (by simp)
  refine ⟨h1, ?_, ?_⟩
  · by_cases q : h.length = n0
    · exact q
    · rw [decide_eq_false q] at h2; simp [unlessE] at h2
  · cases q : h.any someG
    · rw [q] at h3; simp [unlessE] at h3
    · rfl
theorem usE_ok {n0 : Nat} : ∀ {us : List (List (Int × Int))}, usE n0 us = 0 → ∀ u ∈ us, userE n0 u = 0
  | [], _, u, hu => absurd hu (by simp)
  | h :: r, e, u, hu => by
    rw [usE] at e
    split at e
    · rename_i h0
      rcases List.mem_cons.1 hu with rfl | hu
      · exact h0
      · exact usE_ok e u hu
    · rename_i h0; exact absurd e h0
theorem two_of_users {n0 : Nat} {g h : List (Int × Int)} (e1 : userE n0 g = 0) (e2 : userE n0 h = 0) : twoE g h = 0 := by
  obtain ⟨a1, a2, a3⟩ := userE_ok e1
  obtain ⟨b1, b2, b3⟩ := userE_ok e2
  unfold twoE lenE
  rw [a1, b1, a3, b3, decide_eq_true (by omega : g.length = h.length)]
  rfl
theorem usersE_ok {us : List (List (Int × Int))} (e : usersE us = 0) : us.length ≤ 6 ∧ ∀ i j (hi : i < us.length) (hj : j < us.length), twoE us[i] us[j] = 0 := by
  unfold usersE at e
  split at e
  · simp at e
  · refine ⟨by omega, fun i j hi hj => two_of_users (usE_ok e _ (List.getElem_mem hi)) (usE_ok e _ (List.getElem_mem hj))⟩
theorem firstOf_two {a b : Int} (h : firstOf [a, b] = 0) : a = 0 ∧ b = 0 := ⟨firstOf_ok h a (by simp), firstOf_ok h b (by simp)⟩
/-- the pairs that the program finds -/
def mostL (us : List (List (Int × Int))) (a b : Int) : List (Int × Int) := if firstOf [usersE us, mostE a b] = 0 then bestF (shU us a b) us.length 0 0 else []
set_option maxRecDepth 100000 in
set_option maxHeartbeats 4000000 in
theorem mostPairs_beam (A : Option Addr) (c : Nat) (us : List (List (Int × Int))) (a b : Int) (w : World) (hs : RowsAt GR w A us) (hl : ∀ u ∈ us, u.length ≤ 100) (hn : us.length ≤ 100)
    (a1 : -9223372036854775808 ≤ a) (a2 : a ≤ 9223372036854775807) (b2 : b ≤ 9223372036854775807) :
    Calls Try.prog 70 #[.slice A us.length c, .agg #[.int .i64 a, .int .i64 b]] w fun e w' => ∃ P k, e = .returned (.tuple #[.slice P (mostL us a b).length k, .int .i64 (firstOf [usersE us, mostE a b])]) ∧ Sl w' P (gv (mostL us a b)) ∧ Below w.heap.size w w' := by
  have HO := hide (fun W hb => openUsers_beam A c us a b W hb hl hn a1 a2 b2)
  have HS := hide hs; clear hs
  by_cases h0 : firstOf [usersE us, mostE a b] = 0
  · obtain ⟨u0, m0⟩ := firstOf_two h0
    obtain ⟨hn6, hv⟩ := usersE_ok u0
    have hne : (firstOf [usersE us, mostE a b] != 0) = false := by rw [bne_eq_false_iff_eq]; exact h0
    have HL := hide (show mostL us a b = bestF (shU us a b) us.length 0 0 from if_pos h0)
    have HB := hide (fun C c' W k => best_beam us a b us.length rfl hn6 hv m0 C c' us.length 0 0 W (by omega) (Nat.two_pow_pos _) k)
    rw [h0] at HO hne
    rw [h0]
    clear h0 u0 m0 hv hn6 hl a1 a2 b2
    go_enter Try.func70, Try.ntmps70
    go_wp2_with (first
      | (go_at_call 136; go_must (refine (HO.out _ (HS.out.bel gr_lasts (by go_grown))).mono ?_; rintro e w1 ⟨C, k, rfl, hrc, hb1⟩; have HRC := hide hrc; have b1 : Below w.heap.size w w1 := Below.step (by go_grown) hb1; have s1 := b1.size; clear hb1 hrc; simp only []))
      | (go_at_call 137; go_must (refine (HB.out _ _ _ (HRC.out.bel cr_lasts (by go_grown))).mono ?_; rintro e w2 ⟨P, kp, rfl, hp, hb2⟩; have HP := hide hp; have b2 : Below w.heap.size w w2 := Below.step (by go_grown) hb2; clear hb2 hp; simp only [])))
    go_ret2
    exact ⟨P, kp, by rw [HL.out]; rfl, by rw [HL.out]; exact HP.out, b2⟩
  · have hne : (firstOf [usersE us, mostE a b] != 0) = true := by rw [bne_iff_ne]; exact h0
    have HL := hide (show mostL us a b = [] from if_neg h0)
    obtain ⟨E, hE⟩ : ∃ E, firstOf [usersE us, mostE a b] = E := ⟨_, rfl⟩
    rw [hE] at HO hne
    rw [hE]
    clear h0 hE hl a1 a2 b2
    go_enter Try.func70, Try.ntmps70
    go_wp2_with (go_at_call 136; go_must (refine (HO.out _ (HS.out.bel gr_lasts (by go_grown))).mono ?_; rintro e w1 ⟨C, k, rfl, hrc, hb1⟩; have HRC := hide hrc; have b1 : Below w.heap.size w w1 := Below.step (by go_grown) hb1; have s1 := b1.size; clear hb1 hrc; simp only []))
    go_ret2
    exact ⟨none, 0, by rw [HL.out]; rfl, by rw [HL.out]; exact fun k hk => absurd hk (by simp [gv]), by go_grown⟩

set_option maxRecDepth 100000 in
set_option maxHeartbeats 600000 in
theorem beamed_ok (w : World) : Calls Try.prog 90 #[] w fun e w' => e = .returned (.bool true) ∧ Below w.heap.size w w' := by
  have e2 : Hid ((respR [0, 7, 6, 5] 2).P = 4 ∧ (respR [0, 7, 6, 5] 2).Q = 2 ∧ gainE [0, 7, 6, 5] 2 = 0) := by rw [Hid]; decide
  go_enter Try.func90, Try.ntmps90
  go_wp2_with (first
    | (go_at_call 30; go_must (refine (gainOf_beam _ _ [0, 7, 6, 5] 2 _ (Sl.newI _ [0, 7, 6, 5] _ _ (by first | rfl | simp)) (by simp)).mono ?_; rintro e w2 ⟨rfl, hb2⟩; rw [e2.out.1, e2.out.2.1, e2.out.2.2]; have b2 : Below w.heap.size w w2 := Below.step (by go_grown) hb2; have s2 := b2.size; clear hb2; simp only []))
    | (go_at_call 34; go_must (refine (refined_ok 5 _ (by omega) (by omega)).mono ?_; rintro e w3 ⟨A3, c3, xs3, rfl, _, _, hb3⟩; have b3 : Below w.heap.size w w3 := Below.step (by go_grown) hb3; obtain ⟨hc3', hf3', y30'⟩ := bloc1 w2 hb3 (by first | omega | (simp; done) | (simp; omega)); clear hb3; simp only [])))
  go_ret
  exact ⟨rfl, b3⟩
end Go.Proofs.Ytamkannjdbodpaa
