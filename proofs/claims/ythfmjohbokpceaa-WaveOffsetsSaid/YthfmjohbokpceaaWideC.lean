import Derived.Test.YthfmjohbokpceaaWideB
namespace Go.Proofs.Ythfmjohbokpceaa
open Go.RowKit Go.WideShapes Go.ChangeShapes

theorem iv_set (l : List Int) (k : Nat) (v : Int) : iv (l.set k v) = (iv l).set k (.int .i64 v) := by simp [iv]
theorem only_own {w : World} {base : Nat} {e : TypeId} {size n : Nat} {v : Value} {xs : List Value} (h : w.ownsRow base e size v n xs) (k : Nat) : (w.drewN k).ownsRow base e size v n xs := h
theorem only_own' {w : World} {base : Nat} {e : TypeId} {size n : Nat} {v : Value} {xs : List Value} (h : w.ownsRow base e size v n xs) : w.drew.ownsRow base e size v n xs := h

set_option maxRecDepth 100000 in
set_option maxHeartbeats 4000000 in
theorem WideMul_base (x y s s' : Int) (d d' : List Int) (A A' : Option Addr) (c c' : Nat) (w : World) (hx : WideIs x s d) (hy : WideIs y s' d') (hs : Sl w A (iv d)) (hs' : Sl w A' (iv d')) (hl : d.length ≤ 20) (hl' : d'.length ≤ 20) :
    Calls Try.prog 123 #[.agg #[.int .i64 s, .slice A d.length c], .agg #[.int .i64 s', .slice A' d'.length c']] w (RetW w (x * y) (d.length + d'.length + 1)) := by
  obtain ⟨i0, hi0, hz0, hz1, hz2⟩ := info_parts int_info
  have HS := hide hs; clear hs
  have HS' := hide hs'; clear hs'
  have HX := hide hx
  have HY := hide hy
  have hsb := sgnI_bd x
  rw [← hx.sign] at hsb
  have hsb' := sgnI_bd y
  rw [← hy.sign] at hsb'
  have HSS := hide (mulSgn hx.sign hy.sign)
  have hss := sgnI_bd (x * y)
  rw [← HSS.out] at hss
  have hmk : ∀ w : World, (Instr.makeSlice 24 (.int .i64 ((d.length : Int) + d'.length + 1)) (.int .i64 ((d.length : Int) + d'.length + 1))).run Try.prog w = .ok (.slice (some ⟨w.heap.size, 0, none⟩) (d.length + d'.length + 1) (d.length + d'.length + 1)) (w.alloc (.cells (madeCells #[.int .i64 0] (d.length + d'.length + 1)) 3)) := by
    intro w
    have h := run_make_rowN (P := Try.prog) 24 3 i0 (.int .i64 0) Try.underlying24 hi0 hz0 .i64 .i64 (d.length + d'.length + 1) (d.length + d'.length + 1) (Nat.le_refl _) (by rw [hz2]; omega) (by omega) w
    rw [hz1] at h
    simpa [Value.cells] using h
  clear hx hy
  have K0 := hide (Blk.new w 179 #[.int .i64 s, .slice A d.length c])
  have K1 := Blk.new (w.alloc (.cells #[.int .i64 s, .slice A d.length c] 179)) 179 #[.int .i64 s', .slice A' d'.length c']
  have K2 := Blk.new ((w.alloc (.cells #[.int .i64 s, .slice A d.length c] 179)).alloc (.cells #[.int .i64 s', .slice A' d'.length c'] 179)) 179 #[.int .i64 0, .slice none 0 0]
  have K3 := World.ownsRow_lit (((w.alloc (.cells #[.int .i64 s, .slice A d.length c] 179)).alloc (.cells #[.int .i64 s', .slice A' d'.length c'] 179)).alloc (.cells #[.int .i64 0, .slice none 0 0] 179)) (base := w.heap.size) (e := 3) (size := 1) (madeCells #[.int .i64 0] (d.length + d'.length + 1)) (d.length + d'.length + 1) (by simp; omega) (by simp only [maxLen]; omega) (by simp [madeCells])
  rw [zeros_made] at K3
  simp only [World.size_alloc] at K1 K2 K3
  have HK1 := hide K1; clear K1
  have HK2 := hide K2; clear K2
  have HK3 := hide K3; clear K3
  have hA : ∀ k (h : k < d.length), ∃ b off, A = some ⟨b, off, none⟩ ∧ b < w.heap.size ∧ w.cell? ⟨b, off + k, none⟩ = some (.int .i64 d[k]) := fun k h => by
    obtain ⟨b, off, e, hc⟩ := HS.out.int h
    exact ⟨b, off, e, lt_of_cell hc, hc⟩
  have hA' : ∀ k (h : k < d'.length), ∃ b off, A' = some ⟨b, off, none⟩ ∧ b < w.heap.size ∧ w.cell? ⟨b, off + k, none⟩ = some (.int .i64 d'[k]) := fun k h => by
    obtain ⟨b, off, e, hc⟩ := HS'.out.int h
    exact ⟨b, off, e, lt_of_cell hc, hc⟩
  have HA := hide hA; clear hA
  have HA' := hide hA'; clear hA'
  obtain ⟨L, hL⟩ : ∃ L, d.length + d'.length + 1 = L := ⟨_, rfl⟩
  rw [hL] at HK3 hmk
  go_enter Try.func123, Try.ntmps123
  go_wp2
  go_loopw [6] (fun i wr => ∃ (k : Nat) (o : List Int), k ≤ d.length ∧ i = .int .i64 k ∧ o.length = L ∧ digOk o ∧ val o = val (d.take k) * val d' ∧ (∀ j (h : j < o.length), k + d'.length ≤ j → o[j] = 0) ∧ wr.ownsRow w.heap.size 3 1 (.slice (some ⟨w.heap.size + 1 + 1 + 1, 0, none⟩) L L) L (iv o) ∧ Blk wr w.heap.size 179 #[.int .i64 s, .slice A d.length c] ∧ Blk wr (w.heap.size + 1) 179 #[.int .i64 s', .slice A' d'.length c'] ∧ Blk wr (w.heap.size + 1 + 1) 179 #[.int .i64 0, .slice none 0 0] ∧ Below w.heap.size w wr) (fun i _ => d.length - (intOf i).toNat)
  case atStart => exact ⟨0, List.replicate L 0, Nat.zero_le _, rfl, by simp, (fun y hy => by have := List.eq_of_mem_replicate hy; omega), by rw [val_zeros]; simp [val], (fun j h _ => by simp), HK3.out, ((K0.out.alloc _).alloc _).alloc _, (HK1.out.alloc _).alloc _, HK2.out.alloc _, by go_grown⟩
  case round =>
    obtain ⟨k, o, hk, rfl, hol, hod, hov, hoz, hrow, hb0, hb1, hb2, hbel⟩ := hrel
    have HOD := hide hod; clear hod
    have HOV := hide hov; clear hov
    have HOZ := hide hoz; clear hoz
    have d0 : wr.cell? ⟨w.heap.size, 1, none⟩ = some (.slice A d.length c) := hb0.cell 1
    have d1 : wr.cell? ⟨w.heap.size + 1, 1, none⟩ = some (.slice A' d'.length c') := hb1.cell 1
    have yl2 := hb2.lt
    by_cases hlt : k < d.length
    · obtain ⟨b, off, rfl, hbA, hcA⟩ := HA.out k hlt
      have hdk := HX.out.dig d[k] (List.getElem_mem hlt)
      obtain ⟨x1, hx1⟩ : ∃ x1, d[k] = x1 := ⟨_, rfl⟩
      rw [hx1] at hdk hcA
      have HX1 := hide hx1; clear hx1
      go_wp2
      go_loopw [7, 8] (fun cr i w2 => ∃ (j : Nat) (q : Int) (o : List Int), j ≤ d'.length ∧ i = .int .i64 j ∧ cr = .int .i64 q ∧ 0 ≤ q ∧ q < 1000000000 ∧ o.length = L ∧ digOk o ∧ val o + q * 1000000000 ^ (k + j) = val (d.take k) * val d' + 1000000000 ^ k * d[k] * val (d'.take j) ∧ (∀ j (h : j < o.length), k + d'.length ≤ j → o[j] = 0) ∧ w2.ownsRow w.heap.size 3 1 (.slice (some ⟨w.heap.size + 1 + 1 + 1, 0, none⟩) L L) L (iv o) ∧ Blk w2 w.heap.size 179 #[.int .i64 s, .slice (some ⟨b, off, none⟩) d.length c] ∧ Blk w2 (w.heap.size + 1) 179 #[.int .i64 s', .slice A' d'.length c'] ∧ Blk w2 (w.heap.size + 1 + 1) 179 #[.int .i64 0, .slice none 0 0] ∧ Below w.heap.size w w2) (fun _ i _ => d'.length - (intOf i).toNat)
      case atStart => exact ⟨0, 0, o, Nat.zero_le _, rfl, rfl, by omega, by omega, hol, HOD.out, by rw [HOV.out]; simp [val], HOZ.out, hrow, hb0, hb1, hb2, hbel⟩
      case round =>
        clear HOD HOV HOZ hol hrow hb0 hb1 hb2 d0 d1 yl2 hbel
        obtain ⟨j, q, o, hj, rfl, rfl, hq0, hq1, hol, hod, hov, hoz, hrow, hb0, hb1, hb2, hbel⟩ := hrel
        have HOD := hide hod; clear hod
        have HOV := hide hov; clear hov
        have HOZ := hide hoz; clear hoz
        have d0 : wr.cell? ⟨w.heap.size, 1, none⟩ = some (.slice (some ⟨b, off, none⟩) d.length c) := hb0.cell 1
        have d1 : wr.cell? ⟨w.heap.size + 1, 1, none⟩ = some (.slice A' d'.length c') := hb1.cell 1
        have yl2 := hb2.lt
        by_cases hjl : j < d'.length
        · obtain ⟨b', off', rfl, hbA', hcA'⟩ := HA'.out j hjl
          have hdj := HY.out.dig d'[j] (List.getElem_mem hjl)
          have hkj : k + j < o.length := by omega
          have hoj := HOD.out o[k + j] (List.getElem_mem hkj)
          have hcx : wr.cell? ⟨b, off + k, none⟩ = some (.int .i64 x1) := (hbel.cell (p := ⟨b, off + k, none⟩) hbA).trans hcA
          have hcy : wr.cell? ⟨b', off' + j, none⟩ = some (.int .i64 d'[j]) := (hbel.cell (p := ⟨b', off' + j, none⟩) hbA').trans hcA'
          have hco : wr.cell? ⟨w.heap.size + 1 + 1 + 1, k + j, none⟩ = some (.int .i64 o[k + j]) := (hrow.cellAt (k + j) (by omega)).trans (by simp [iv, List.getElem?_eq_getElem hkj])
          have hfo := hrow.frozenAt (k + j)
          obtain ⟨y1, hy1⟩ : ∃ y1, d'[j] = y1 := ⟨_, rfl⟩
          obtain ⟨o1, ho1⟩ : ∃ o1, o[k + j] = o1 := ⟨_, rfl⟩
          have hst := hide (mul_step o d d' k j q (o1 + x1 * y1 + q) hlt hjl hkj (by rw [ho1, HX1.out, hy1]) HOV.out)
          rw [hy1] at hdj hcy
          rw [ho1] at hoj hco
          clear hy1 ho1 hcA'
          obtain ⟨⟨m1, m2⟩, m3, m4⟩ := dig_mul hdk hdj ⟨hq0, hq1⟩ hoj
          obtain ⟨oo1, oo2⟩ := hoj
          obtain ⟨S, hS⟩ : ∃ S, o1 + x1 * y1 + q = S := ⟨_, rfl⟩
          have e1 : S.tmod 1000000000 = S % 1000000000 := Int.tmod_eq_emod_of_nonneg (by omega)
          have e2 : S.tdiv 1000000000 = S / 1000000000 := Int.tdiv_eq_ediv_of_nonneg (by omega)
          have r1 := Int.emod_nonneg S (show (1000000000 : Int) ≠ 0 by decide)
          have r2 := Int.emod_lt_of_pos S (show (0 : Int) < 1000000000 by decide)
          have q1 : 0 ≤ S / 1000000000 ∧ S / 1000000000 < 1000000000 := by omega
          obtain ⟨qq1, qq2⟩ := q1
          rw [hS] at hst
          have hSS := hide hS
          go_wp2
          go_quiet (fail)
          go_wp2
          go_roundw
          case rel => exact ⟨j + 1, S / 1000000000, o.set (k + j) (S % 1000000000), by omega, by go_num, rfl, qq1, qq2, by simp [hol], digOk_set HOD.out ⟨r1, r2⟩, hst.out, (fun j2 h2 h3 => by rw [List.getElem_set_ne (by omega)]; exact HOZ.out j2 (by simpa using h2) h3), by rw [iv_set]; exact (World.ownsRow.stored (only_own hrow _) (k + j) _).1, (hb0.drewN _).far (by first | omega | (simp; done) | (simp; omega)) _, (hb1.drewN _).far (by first | omega | (simp; done) | (simp; omega)) _, (hb2.drewN _).far (by first | omega | (simp; done) | (simp; omega)) _, (below_drewN hbel _).setCell (by first | omega | (simp; done) | (simp; omega)) _⟩
          case measure => simp [intOf]; omega
        · obtain rfl : j = d'.length := by omega
          have hkj : k + d'.length < o.length := by omega
          have hz := HOZ.out (k + d'.length) hkj (Nat.le_refl _)
          have hco : wr.cell? ⟨w.heap.size + 1 + 1 + 1, k + d'.length, none⟩ = some (.int .i64 0) := (hrow.cellAt (k + d'.length) (by omega)).trans (by simp [iv, List.getElem?_eq_getElem hkj, hz])
          have hfo := hrow.frozenAt (k + d'.length)
          have hst := hide (mul_end o d d' k q hlt hkj hz HOV.out)
          clear hz
          go_wp2
          go_region
          all_goals
            go_wp2
            go_roundw
            case rel => exact ⟨k + 1, o.set (k + d'.length) q, by omega, by go_num, by simp [hol], digOk_set HOD.out ⟨hq0, hq1⟩, hst.out, (fun j2 h2 h3 => by rw [List.getElem_set_ne (by omega)]; exact HOZ.out j2 (by simpa using h2) (by omega)), by rw [iv_set]; exact (World.ownsRow.stored (only_own' hrow) (k + d'.length) _).1, (hb0.drew).far (by first | omega | (simp; done) | (simp; omega)) _, (hb1.drew).far (by first | omega | (simp; done) | (simp; omega)) _, (hb2.drew).far (by first | omega | (simp; done) | (simp; omega)) _, (Below.drew hbel).setCell (by first | omega | (simp; done) | (simp; omega)) _⟩
            case measure => simp [intOf]; omega
    · obtain rfl : k = d.length := by omega
      have hv : val o = ((x * y).natAbs : Int) := by rw [HOV.out, List.take_length, HX.out.vals, HY.out.vals, Int.natAbs_mul]; push_cast; rfl
      have hwi := hide (wide_is (s := s * s') HOD.out hv (fun _ => HSS.out))
      have htl := trim_le o
      clear HOD HOV HOZ hv
      subst hol
      have hsl := hide (Sl.of_own hrow)
      have t0 : wr.cell? ⟨w.heap.size, 0, none⟩ = some (.int .i64 s) := hb0.cell 0
      have t1 : wr.cell? ⟨w.heap.size + 1, 0, none⟩ = some (.int .i64 s') := hb1.cell 0
      have hss1 := hss.1
      have hss2 := hss.2
      generalize hD : trimL o = D at hwi htl
      have HDD := hide hD; clear hD
      generalize hS : (if D.length = 0 then 0 else s * s' : Int) = S at hwi
      have HSV := hide hS; clear hS
      have hyl0 := hb0.lt
      have hyl1 := hb1.lt
      go_wp2_with (go_at_call 178; go_must (refine (wideOf_base (s * s') _ o.length o _ (hsl.out.bel (by go_grown)) (by omega) (Nat.le_refl _)).mono ?_; rw [HDD.out, HSV.out]; rintro e w2 ⟨rfl, hw2⟩; have hrow2 := own_belW hrow hw2; have hblk2 := hb2.below hw2 yl2; have e0 : w2.cell? ⟨w.heap.size + 1 + 1, 0, none⟩ = some (.int .i64 0) := hblk2.cell 0; have e1 : w2.cell? ⟨w.heap.size + 1 + 1, 1, none⟩ = some (.slice none 0 0) := hblk2.cell 1; have f0 := hblk2.frozen 0; have f1 := hblk2.frozen 1; have b2 : Below w.heap.size w w2 := Below.step hbel hw2; clear hw2; simp only []))
      have hrow3 := own_far (u := .int .i64 S) (i := 0) hrow2 hblk2 (by decide)
      have hrow4 := own_far (u := .slice (some ⟨w.heap.size + 1 + 1 + 1, 0, none⟩) D.length o.length) (i := 1) hrow3 (hblk2.set_ 0 _) (by decide)
      have hblk4 := (hblk2.set_ 0 (.int .i64 S)).set_ 1 (.slice (some ⟨w.heap.size + 1 + 1 + 1, 0, none⟩) D.length o.length)
      have hbel4 := (b2.setCell (p := ⟨w.heap.size + 1 + 1, 0, none⟩) (by first | omega | (simp; done) | (simp; omega)) (.int .i64 S)).setCell (p := ⟨w.heap.size + 1 + 1, 1, none⟩) (by first | omega | (simp; done) | (simp; omega)) (.slice (some ⟨w.heap.size + 1 + 1 + 1, 0, none⟩) D.length o.length)
      clear hrow3 hrow2 hblk2 b2 e0 e1 f0 f1 hrow hb0 hb1 hb2 hbel t0 t1
      revert hrow4 hblk4 hbel4
      generalize World.setCell _ _ _ = W
      intro hrow4 hblk4 hbel4
      have e0 : W.cell? ⟨w.heap.size + 1 + 1, 0, none⟩ = some (.int .i64 S) := hblk4.cell 0
      have e1 : W.cell? ⟨w.heap.size + 1 + 1, 1, none⟩ = some (.slice (some ⟨w.heap.size + 1 + 1 + 1, 0, none⟩) D.length o.length) := hblk4.cell 1
      refine bodyPost_ret (v := .agg #[.int .i64 S, .slice (some ⟨w.heap.size + 1 + 1 + 1, 0, none⟩) D.length o.length]) (by simp [results, Try.results123, go_sem, e0, e1]) rfl ⟨S, D, _, _, hwi.out, by omega, rfl, ?_, hbel4⟩
      rw [← HDD.out]
      exact (Sl.of_own hrow4).pre _
end Go.Proofs.Ythfmjohbokpceaa
