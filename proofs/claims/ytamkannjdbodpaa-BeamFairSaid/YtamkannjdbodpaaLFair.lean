import Derived.Test.YtamkannjdbodpaaSplitC
import Derived.Test.YtamkannjdbodpaaFairLaw
namespace Go.Proofs.Ytamkannjdbodpaa
open Go.RowKit Go.WideShapes Go.ChangeShapes

theorem copyInts' (A : Option Addr) (c : Nat) (l : List Int) (n : Nat) (w : World) (hn : l.length = n) (hs : Sl w A (iv l)) (hl : n ≤ 1000000) :
    Calls Try.prog 41 #[.slice A n c] w fun e w' => ∃ A' c', e = .returned (.slice A' n c') ∧ Sl w' A' (iv l) ∧ Below w.heap.size w w' := by
  subst hn
  exact (copyInts A c l w hs hl).mono fun e w' ⟨A', c', he, ho, hb⟩ => ⟨A', c', he, Sl.of_own ho, hb⟩
theorem checkSplit' (A : Option Addr) (c : Nat) (l : List Int) (n : Nat) (p m : Int) (w : World) (hn : l.length = n) (hs : Sl w A (iv l)) (hl : n ≤ 1000000) :
    Calls Try.prog 40 #[.agg #[.int .i64 p, .int .i64 m], .slice A n c] w fun e w' => e = .returned (.tuple #[.int .i64 (csV p m l), .int .i64 (csE p m l)]) ∧ Below w.heap.size w w' := by
  subst hn
  exact checkSplit_beam A c l p m w hs hl

set_option maxRecDepth 100000 in
theorem BeamFair_bad (p m : Int) (A : Option Addr) (c : Nat) (l : List Int) (w : World) (hs : Sl w A (iv l)) (hok : spE p m l ≠ 0) :
    Calls Try.prog 9 #[.agg #[.int .i64 p, .int .i64 m], .slice A l.length c] w fun e w' => e = .returned (.bool true) ∧ Below w.heap.size w w' := by
  have HS := hide hs; clear hs
  have hw2 : (spE p m l != 0) = true := by simp [hok]
  clear hok
  go_enter Try.func9, Try.ntmps9
  go_wp2_with (first
    | (go_at_call 18; go_must (refine (awake_ok _).mono ?_; rintro e w1 ⟨rfl, hb1⟩; have b1 : Below w.heap.size w w1 := Below.step (by go_grown) hb1; obtain ⟨hc1, hf1, y10⟩ := bloc1 w hb1 (by first | omega | (simp; done) | (simp; omega)); clear hb1; simp only []))
    | (go_at_call 44; go_must (refine (wantsErr_ref A c l p m _ (HS.out.bel (by go_grown))).mono ?_; rintro e w7 ⟨rfl, hb7⟩; have b7' : Below w.heap.size w w7 := Below.step (by go_grown) hb7; obtain ⟨hc7, hf7, y70⟩ := bloc1 w hb7 (by first | omega | (simp; done) | (simp; omega)); clear hb7; simp only [])))
  go_ret
  exact ⟨rfl, by go_grown⟩

set_option maxRecDepth 100000 in
set_option maxHeartbeats 4000000 in
theorem BeamFair_ok (p m : Int) (A : Option Addr) (c : Nat) (l : List Int) (w : World) (hs : Sl w A (iv l)) (hok : spE p m l = 0) :
    Calls Try.prog 9 #[.agg #[.int .i64 p, .int .i64 m], .slice A l.length c] w fun e w' => e = .returned (.bool true) ∧ Below w.heap.size w w' := by
  have HS := hide hs; clear hs
  obtain ⟨⟨p0, p1, m0, m1, hl12⟩, hpw⟩ := spE_ok hok
  have hpan := (firstOf2 hok).1
  have FR := hide (split_fair p0 m0 hpw)
  have HPW := hide hpw
  have HPW := hide hpw
  obtain ⟨hc0, hv0⟩ := fair_cs FR.out hpan
  have hw2 : (spE p m l != 0) = false := by simp [hok]
  have OK := hide hok; clear hok hpan
  have hlen := FR.out.len
  obtain ⟨X, hX⟩ : ∃ X, splitL p m l = X := ⟨_, rfl⟩
  have HX := hide hX
  rw [hX] at FR hc0 hv0 hlen
  clear hX
  have HL := hide hlen
  have HC0 := hide hc0; clear hc0
  have HV0 := hide hv0; clear hv0
  go_enter Try.func9, Try.ntmps9
  go_wp2_with (first
    | (go_at_call 18; go_must (refine (awake_ok _).mono ?_; rintro e w1 ⟨rfl, hb1⟩; have b1 : Below w.heap.size w w1 := Below.step (by go_grown) hb1; obtain ⟨hc1, hf1, y10⟩ := bloc1 w hb1 (by first | omega | (simp; done) | (simp; omega)); clear hb1; simp only []))
    | (go_at_call 44; go_must (refine (wantsErr_ref A c l p m _ (HS.out.bel (by go_grown))).mono ?_; rintro e w7 ⟨rfl, hb7⟩; have b7' : Below w.heap.size w w7 := Below.step (by go_grown) hb7; obtain ⟨hc7, hf7, y70⟩ := bloc1 w hb7 (by first | omega | (simp; done) | (simp; omega)); clear hb7; simp only [])))
  go_region_held3 (fun w' => w'.cell? ⟨w.heap.size, 0, none⟩ = some (.int .i64 p) ∧ w'.cell? ⟨w.heap.size, 1, none⟩ = some (.int .i64 m)) (first | (simp [go_sem]; done) | (simp [go_sem, *]; done) | go_keep)
    (first
      | (go_at_call 41; go_must (refine (copyInts A c l _ (HS.out.bel (by go_grown)) (by omega)).mono ?_; rintro e w2 ⟨A2, c2, rfl, ho2, hb2⟩; have HS2 := hide (Sl.of_own ho2); clear ho2; have b2 : Below w.heap.size w w2 := Below.step (by go_grown) hb2; obtain ⟨hc2, hf2, y20⟩ := bloc1 w hb2 (by first | omega | (simp; done) | (simp; omega)); clear hb2))
      | (go_at_call 42; go_must (refine (splitOf_ok A2 c2 l p m _ (HS2.out.bel (by go_grown)) (by omega) OK.out).mono ?_; rintro e w3 ⟨A3, c3, rfl, ho3, hb3⟩; rw [HX.out] at ho3; have HS3 := hide (Sl.of_own ho3); clear ho3; have b3 : Below w.heap.size w w3 := Below.step (by go_grown) hb3; obtain ⟨hc3, hf3, y30⟩ := bloc1 w hb3 (by first | omega | (simp; done) | (simp; omega)); clear hb3)))
  go_wp2_with fail
  go_region_held3 (fun w' => w'.cell? ⟨w.heap.size, 0, none⟩ = some (.int .i64 p) ∧ w'.cell? ⟨w.heap.size, 1, none⟩ = some (.int .i64 m)) (first | (simp [go_sem]; done) | (simp [go_sem, *]; done) | go_keep)
    (first
      | (go_at_call 41; go_must (refine (copyInts' A3 c3 X l.length _ HL.out (HS3.out.bel (by go_grown)) (by omega)).mono ?_; rintro e w4 ⟨A4, c4, rfl, hs4, hb4⟩; have HS4 := hide hs4; clear hs4; have b43 : Below w3.heap.size w3 w4 := Below.step (by go_grown) hb4; have b4 : Below w.heap.size w w4 := Below.step (by go_grown) hb4; obtain ⟨hc4, hf4, y40⟩ := bloc1 w hb4 (by first | omega | (simp; done) | (simp; omega)); clear hb4))
      | (go_at_call 40; go_must (refine (checkSplit' A4 c4 X l.length p m _ HL.out (HS4.out.bel (by go_grown)) (by omega)).mono ?_; rintro e w5 ⟨rfl, hb5⟩; rw [HC0.out, HV0.out]; have b53 : Below w3.heap.size w3 w5 := Below.step (by go_grown) hb5; have b5 : Below w.heap.size w w5 := Below.step (by go_grown) hb5; obtain ⟨hc5, hf5, y50⟩ := bloc1 w hb5 (by first | omega | (simp; done) | (simp; omega)); clear hb5)))
  go_wp2_with fail
  have hc50 : w5.cell? ⟨w.heap.size, 0, none⟩ = some (.int .i64 p) := by simp [go_sem, *]
  have hc51 : w5.cell? ⟨w.heap.size, 1, none⟩ = some (.int .i64 m) := by simp [go_sem, *]
  clear hc1 hc7 hc2 hc3 hc4 hc5 hf1 hf7 hf2 hf3 hf4 hf5
  go_loopw [9] (fun i wr => ∃ k : Nat, k ≤ l.length ∧ i = .int .i64 k ∧ wr.cell? ⟨w.heap.size, 0, none⟩ = some (.int .i64 p) ∧ wr.cell? ⟨w.heap.size, 1, none⟩ = some (.int .i64 m) ∧ Below w.heap.size w wr ∧ Below w3.heap.size w3 wr) (fun i _ => l.length - (intOf i).toNat)
  case atStart => exact ⟨0, Nat.zero_le _, rfl, by simp [go_sem, hc50], by simp [go_sem, hc51], by go_grown, by go_grown⟩
  case round =>
    obtain ⟨k, hk, rfl, d0, d1, hbel, hbel3⟩ := hrel
    by_cases hlt : k < l.length
    · obtain ⟨b, off, rfl, hc⟩ := HS.out.int hlt
      have hcw : wr.cell? ⟨b, off + k, none⟩ = some (.int .i64 l[k]) := (hbel.cell (p := ⟨b, off + k, none⟩) (lt_of_cell hc)).trans hc
      clear hc
      have hltX : k < X.length := by omega
      obtain ⟨b', off', rfl, hc⟩ := HS3.out.int hltX
      have hcx : wr.cell? ⟨b', off' + k, none⟩ = some (.int .i64 X[k]) := (hbel3.cell (p := ⟨b', off' + k, none⟩) (lt_of_cell hc)).trans hc
      clear hc
      obtain ⟨g0, g1, g2⟩ := FR.out.bd k hlt
      have hfull0 := FR.out.full k hlt
      have hpk := (HPW.out _ (List.getElem_mem hlt))
      obtain ⟨x, hx⟩ : ∃ x, X[k] = x := ⟨_, rfl⟩
      obtain ⟨y, hy⟩ : ∃ y, l[k] = y := ⟨_, rfl⟩
      have hfull : x ≠ y → x ≠ m → sumL X = p ∧ ∀ j (hj : j < X.length), X[j] ≤ x + 1 := fun h1 h2 => by
        obtain ⟨q1, q2⟩ := hfull0 (by rw [hx, hy]; exact h1) (by rw [hx]; exact h2)
        exact ⟨q1, fun j hj => by have := q2 j (by omega); simp only [hx] at this; exact this⟩
      clear hfull0
      rw [hx] at hcx g0 g1 g2
      rw [hy] at hcw g2 hpk
      obtain ⟨hy0, hy1⟩ := hpk
      clear hx hy
      by_cases e1 : x = y
      · subst e1
        clear hfull
        go_wp2
        go_quiet (fail)
        go_wp2
        go_quiet (fail)
        go_wp2
        go_roundw
        case rel => exact ⟨k + 1, by omega, by go_num, by simpa [go_sem] using d0, by simpa [go_sem] using d1, by first | exact below_drewN hbel _ | exact below_drewN (below_drewN hbel _) _, by first | exact below_drewN hbel3 _ | exact below_drewN (below_drewN hbel3 _) _⟩
        case measure => simp [intOf]; omega
      · have e1' : (x == y) = false := by simp [e1]
        by_cases e2 : x = m
        · subst e2
          clear hfull e1
          go_wp2
          go_quiet (fail)
          go_wp2
          go_quiet (fail)
          go_wp2
          go_roundw
          case rel => exact ⟨k + 1, by omega, by go_num, by simpa [go_sem] using d0, by simpa [go_sem] using d1, by first | exact below_drewN hbel _ | exact below_drewN (below_drewN hbel _) _, by first | exact below_drewN hbel3 _ | exact below_drewN (below_drewN hbel3 _) _⟩
          case measure => simp [intOf]; omega
        · have e2' : (x == m) = false := by simp [e2]
          obtain ⟨hs1, hall⟩ := hfull e1 e2
          have hs1' : (sumL X != p) = false := by simp [hs1]
          clear e1 e2 hs1
          have HALL := hide hall; clear hall
          go_wp2
          go_quiet (fail)
          go_wp2
          go_quiet (fail)
          go_wp2
          go_loopw [10] (fun i w2 => ∃ j : Nat, j ≤ l.length ∧ i = .int .i64 j ∧ ∃ n, w2 = wr.drewN n) (fun i _ => l.length - (intOf i).toNat)
          case atStart => exact ⟨0, Nat.zero_le _, rfl, by first | exact ⟨_, rfl⟩ | exact drewN2 _ _ _⟩
          case round =>
            obtain ⟨j, hj, rfl, n, rfl⟩ := hrel
            by_cases hjl : j < l.length
            · have hjX : j < X.length := by omega
              obtain ⟨b2, off2, e, hc⟩ := HS3.out.int hjX
              injection e with e
              injection e with e e0
              subst e e0
              have hcj : wr.cell? ⟨b', off' + j, none⟩ = some (.int .i64 X[j]) := (hbel3.cell (p := ⟨b', off' + j, none⟩) (lt_of_cell hc)).trans hc
              have hbj := HALL.out j hjX
              obtain ⟨z0, z1, z2⟩ := FR.out.bd j hjl
              clear hc z2
              obtain ⟨z, hz⟩ : ∃ z, X[j] = z := ⟨_, rfl⟩
              rw [hz] at hcj hbj z0 z1
              clear hz
              have hgt : decide (x + 1 < z) = false := by simp; omega
              go_wp2
              go_quiet (fail)
              go_wp2
              go_roundw
              case rel => exact ⟨j + 1, by omega, by go_num, by first | exact drewN2 _ _ _ | exact ⟨_, rfl⟩⟩
              case measure => simp [intOf]; omega
            · go_wp2
              go_roundw
              case rel => exact ⟨k + 1, by omega, by go_num, by simpa [go_sem] using d0, by simpa [go_sem] using d1, by first | exact below_drewN hbel _ | exact below_drewN (below_drewN hbel _) _, by first | exact below_drewN hbel3 _ | exact below_drewN (below_drewN hbel3 _) _⟩
              case measure => simp [intOf]; omega
    · go_wp2
      go_ret
      exact ⟨rfl, hbel⟩
theorem BeamFair_law (p m : Int) (A : Option Addr) (c : Nat) (l : List Int) (w : World) (hs : Sl w A (iv l)) :
    Calls Try.prog 9 #[.agg #[.int .i64 p, .int .i64 m], .slice A l.length c] w fun e w' => e = .returned (.bool true) ∧ Below w.heap.size w w' := by
  by_cases hok : spE p m l = 0
  · exact BeamFair_ok p m A c l w hs hok
  · exact BeamFair_bad p m A c l w hs hok
end Go.Proofs.Ytamkannjdbodpaa
