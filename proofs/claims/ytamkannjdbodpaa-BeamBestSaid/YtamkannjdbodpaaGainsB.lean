import Derived.Test.YtamkannjdbodpaaGainsA
namespace Go.Proofs.Ytamkannjdbodpaa
open Go.RowKit Go.WideShapes Go.ChangeShapes

theorem _root_.Go.RowKit.Below.keeps {w w1 : World} (hb : Below w.heap.size w w1) {b o : Nat} {v : Value} (h : w.cell? ⟨b, o, none⟩ = some v) : w1.cell? ⟨b, o, none⟩ = some v := (hb.cell (p := ⟨b, o, none⟩) (lt_of_cell h)).trans h
def oneN : Q4 := ⟨1, 0, 0, 0⟩
theorem add_plus (x : Q4) (p : Int) : x.plus (oneN.rotN (p % 8).toNat) = x.add 1 p := by
  rcases mod8_cases p with h | h | h | h | h | h | h | h <;> simp [Q4.add, h, Q4.plus, Q4.rotN, Q4.rot, oneN]
theorem respU_on (l : List Int) (d : Int) (k : Nat) (hk : k < l.length) (hb : k ≤ 1000 ∧ 0 ≤ l[k] ∧ l[k] ≤ 7) : respU l d (k + 1) = (respU l d k).add 1 (l[k] + (k : Int) * d) := by
  rw [respU, onUpto_on l k hk hb, respS_snoc]; rfl
theorem respU_off (l : List Int) (d : Int) (k : Nat) (hk : k < l.length) (h : l[k] = -1) : respU l d (k + 1) = respU l d k := by
  rw [respU, onUpto_off l k hk h]; rfl
theorem respU_le (l : List Int) (d : Int) (k : Nat) : (respU l d k).le k :=
  (respS_le d (onUpto l k)).mono (by have := onUpto_len l k; omega)

set_option maxRecDepth 100000 in
set_option maxHeartbeats 4000000 in
theorem responseOf_ref (A : Option Addr) (c : Nat) (l : List Int) (step : Int) (w : World) (hs : Sl w A (iv l)) (hl : l.length ≤ 100) (hok : OnOk l) (h0 : 0 ≤ step) (h7 : step ≤ 7) :
    Calls Try.prog 49 #[.agg #[.slice A l.length c], .int .i64 step] w fun e w' => e = .returned (.agg (resp l step).cells) ∧ Below w.heap.size w w' := by
  have HS := hide hs; clear hs
  have HOK := hide hok; clear hok
  have hone : oneN.le 1000000000 := by unfold Q4.le oneN; decide
  have HONE := hide hone; clear hone
  have hk0 : Blk (w.alloc (.cells #[.slice A l.length c] 24)) w.heap.size 24 #[.slice A l.length c] := Blk.new w _ _
  have hk1 := Blk.new (w.alloc (.cells #[.slice A l.length c] 24)) 73 #[.int .i64 0, .int .i64 0, .int .i64 0, .int .i64 0]
  have hk2 := Blk.new ((w.alloc (.cells #[.slice A l.length c] 24)).alloc (.cells #[.int .i64 0, .int .i64 0, .int .i64 0, .int .i64 0] 73)) 73 #[.int .i64 0, .int .i64 0, .int .i64 0, .int .i64 0]
  simp only [World.size_alloc] at hk1 hk2
  have HK0 := hide hk0; clear hk0
  have HK1 := hide hk1; clear hk1
  have HK2 := hide hk2; clear hk2
  go_enter Try.func49, Try.ntmps49
  go_wp2
  go_loopw [6] (fun i wr => ∃ k : Nat, k ≤ l.length ∧ i = .int .i64 k ∧ Blk wr w.heap.size 24 #[.slice A l.length c] ∧ Blk wr (w.heap.size + 1) 73 #[.int .i64 0, .int .i64 0, .int .i64 0, .int .i64 0] ∧ Blk wr (w.heap.size + 1 + 1) 73 (respU l step k).cells ∧ Below w.heap.size w wr) (fun i _ => l.length - (intOf i).toNat)
  case atStart => exact ⟨0, Nat.zero_le _, rfl, (HK0.out.alloc _).alloc _, HK1.out.alloc _, HK2.out, by go_grown⟩
  case round =>
    obtain ⟨k, hk, rfl, hb0, hb1, hb2, hbel⟩ := hrel
    have d0 : wr.cell? ⟨w.heap.size, 0, none⟩ = some (.slice A l.length c) := hb0.cell 0
    have yl0 := hb0.lt
    have yl1 := hb1.lt
    have yl2 := hb2.lt
    have e0 : wr.cell? ⟨w.heap.size + 1 + 1, 0, none⟩ = some (.int .i64 (respU l step k).a) := hb2.cell 0
    have e1 : wr.cell? ⟨w.heap.size + 1 + 1, 1, none⟩ = some (.int .i64 (respU l step k).b) := hb2.cell 1
    have e2 : wr.cell? ⟨w.heap.size + 1 + 1, 2, none⟩ = some (.int .i64 (respU l step k).c) := hb2.cell 2
    have e3 : wr.cell? ⟨w.heap.size + 1 + 1, 3, none⟩ = some (.int .i64 (respU l step k).d) := hb2.cell 3
    have hle := hide (respU_le l step k)
    by_cases hlt : k < l.length
    · obtain ⟨b, off, rfl, hc⟩ := HS.out.int hlt
      have hcw : wr.cell? ⟨b, off + k, none⟩ = some (.int .i64 l[k]) := (hbel.cell (p := ⟨b, off + k, none⟩) (lt_of_cell hc)).trans hc
      have hbw := lt_of_cell hc
      clear hc
      have hr := HOK.out l[k] (List.getElem_mem hlt)
      by_cases hx : l[k] = -1
      · have hn : (l[k] != -1) = false := by simp [hx]
        have hst := respU_off l step k hlt hx
        have HST := hide hst; clear hst hx
        go_wp2
        go_roundw
        case rel => exact ⟨k + 1, by omega, by go_num, hb0, hb1, by rw [HST.out]; exact hb2, hbel⟩
        case measure => simp [intOf]; omega
      · have hn : (l[k] != -1) = true := by simp [hx]
        have hst := respU_on l step k hlt ⟨by omega, by omega, hr.2⟩
        have HST := hide hst; clear hst
        obtain ⟨x, hxe⟩ : ∃ x, l[k] = x := ⟨_, rfl⟩
        rw [hxe] at hcw hr hn hx
        have HST2 := hide (show respU l step (k + 1) = (respU l step k).add 1 (x + (k : Int) * step) by rw [HST.out, hxe])
        clear hxe
        obtain ⟨hx0, hx7⟩ := hr
        have hks : 0 ≤ (k : Int) * step ∧ (k : Int) * step ≤ 1000 := ⟨Int.mul_nonneg (by omega) h0, Int.le_trans (Int.mul_le_mul (b := step) (d := 7) (show (k : Int) ≤ 100 by omega) h7 h0 (by omega)) (by omega)⟩
        obtain ⟨hks0, hks1⟩ := hks
        have hW1 := hide (IntWalk.i64_in ((k : Int) * step) (by omega))
        have hW2 := hide (IntWalk.i64_in (x + (k : Int) * step) (by omega))
        go_wp2
        go_region_with
          (first
            | (go_at_call 123; go_must (rw [hW1.out, hW2.out]; refine (turn_ref oneN (x + k * step) HONE.out (by omega) (by omega) _).mono ?_; rintro e w1 ⟨rfl, hb⟩; have b1 : Below wr.heap.size wr w1 := Below.step (by go_grown) hb; clear hb; have i0 := b1.keeps e0; have i1 := b1.keeps e1; have i2 := b1.keeps e2; have i3 := b1.keeps e3))
            | (go_at_call 122; go_must (refine (plus_ref (respU l step k) (oneN.rotN ((x + k * step) % 8).toNat) (hle.out.mono (by omega)) (Q4.rotN_le HONE.out _) _).mono ?_; rintro e w2 ⟨rfl, hb⟩; have b2 : Below wr.heap.size wr w2 := Below.step (by go_grown) hb; clear hb; have B2 := hb2.below b2 yl2; have f0 := B2.frozen 0; have f1 := B2.frozen 1; have f2 := B2.frozen 2; have f3 := B2.frozen 3; have j0 := b2.keeps e0; have j1 := b2.keeps e1; have j2 := b2.keeps e2; have j3 := b2.keeps e3; rw [add_plus, ← HST2.out]; simp only [Q4.cells])))
        all_goals
          go_wp2
          go_roundw
          case rel => exact ⟨k + 1, by omega, by go_num, ((((hb0.below b2 yl0).far (by simp; omega) _).far (by simp; omega) _).far (by simp; omega) _).far (by simp; omega) _, ((((hb1.below b2 yl1).far (by simp) _).far (by simp) _).far (by simp) _).far (by simp) _, by simpa [Q4.cells] using (((B2.set_ 0 (.int .i64 (respU l step (k + 1)).a)).set_ 1 (.int .i64 (respU l step (k + 1)).b)).set_ 2 (.int .i64 (respU l step (k + 1)).c)).set_ 3 (.int .i64 (respU l step (k + 1)).d), (((Below.step hbel b2).setCell (p := ⟨w.heap.size + 1 + 1, 0, none⟩) (by simp; omega) _).setCell (p := ⟨w.heap.size + 1 + 1, 1, none⟩) (by simp; omega) _).setCell (p := ⟨w.heap.size + 1 + 1, 2, none⟩) (by simp; omega) _ |>.setCell (p := ⟨w.heap.size + 1 + 1, 3, none⟩) (by simp; omega) _⟩
          case measure => simp [intOf]; omega
    · obtain rfl : k = l.length := by omega
      have g0 := hb1.frozen 0
      have g1 := hb1.frozen 1
      have g2 := hb1.frozen 2
      have g3 := hb1.frozen 3
      have z0 : wr.cell? ⟨w.heap.size + 1, 0, none⟩ = some (.int .i64 0) := hb1.cell 0
      have z1 : wr.cell? ⟨w.heap.size + 1, 1, none⟩ = some (.int .i64 0) := hb1.cell 1
      have z2 : wr.cell? ⟨w.heap.size + 1, 2, none⟩ = some (.int .i64 0) := hb1.cell 2
      have z3 : wr.cell? ⟨w.heap.size + 1, 3, none⟩ = some (.int .i64 0) := hb1.cell 3
      go_wp2
      obtain ⟨X, hX⟩ : ∃ X, respU l step l.length = X := ⟨_, rfl⟩
      have HX := hide (show resp l step = X from hX)
      rw [hX] at *
      clear hX
      have hb3 := (((hb1.set_ 0 (.int .i64 X.a)).set_ 1 (.int .i64 X.b)).set_ 2 (.int .i64 X.c)).set_ 3 (.int .i64 X.d)
      have hbel3 := (((hbel.setCell (p := ⟨w.heap.size + 1, 0, none⟩) (by simp) (.int .i64 X.a)).setCell (p := ⟨w.heap.size + 1, 1, none⟩) (by simp) (.int .i64 X.b)).setCell (p := ⟨w.heap.size + 1, 2, none⟩) (by simp) (.int .i64 X.c)).setCell (p := ⟨w.heap.size + 1, 3, none⟩) (by simp) (.int .i64 X.d)
      clear hb1 hb0 hb2 hbel e0 e1 e2 e3 g0 g1 g2 g3 z0 z1 z2 z3 d0
      revert hb3 hbel3
      generalize World.setCell _ _ _ = W
      intro hb3 hbel3
      have e0 : W.cell? ⟨w.heap.size + 1, 0, none⟩ = some (.int .i64 X.a) := hb3.cell 0
      have e1 : W.cell? ⟨w.heap.size + 1, 1, none⟩ = some (.int .i64 X.b) := hb3.cell 1
      have e2 : W.cell? ⟨w.heap.size + 1, 2, none⟩ = some (.int .i64 X.c) := hb3.cell 2
      have e3 : W.cell? ⟨w.heap.size + 1, 3, none⟩ = some (.int .i64 X.d) := hb3.cell 3
      refine bodyPost_ret (v := .agg X.cells) (by simp [results, Try.results49, go_sem, e0, e1, e2, e3, Q4.cells]) rfl ⟨by rw [HX.out], hbel3⟩
end Go.Proofs.Ytamkannjdbodpaa
