import Derived.Test.YthfmjohbokpceaaWvW
namespace Go.Proofs.Ythfmjohbokpceaa
open Go.RowKit Go.WideShapes Go.ChangeShapes

/-! the reference's sequence of an identity -/
def lA : List Int := regL [2] 26
def lB : List Int := regL [2, 3, 4] 26
theorem bitsA_ref (w : World) (n : Nat) (hn : w.heap.size = n) : Calls Try.prog 134 #[.slice (some ⟨n, 0, none⟩) 2 2] (w.alloc (.cells #[.int .i64 0, .int .i64 2] 3)) fun e w' =>
    ∃ C k, e = .returned (.slice C 31 k) ∧ Sl w' C (iv lA) ∧ Below (w.alloc (.cells #[.int .i64 0, .int .i64 2] 3)).heap.size (w.alloc (.cells #[.int .i64 0, .int .i64 2] 3)) w' :=
  (bits_ref (some ⟨n, 0, none⟩) 2 2 [2] _ rfl (Sl.new w (iv (zs [0, 2])) 3 n hn) (by omega) (by simp)).mono fun _ _ ⟨C, k, h1, h2, h3⟩ => ⟨C, k, h1, Sl.of_own h2, h3⟩
theorem bitsB_ref (w : World) (n : Nat) (hn : w.heap.size = n) : Calls Try.prog 134 #[.slice (some ⟨n, 0, none⟩) 4 4] (w.alloc (.cells #[.int .i64 0, .int .i64 2, .int .i64 3, .int .i64 4] 3)) fun e w' =>
    ∃ C k, e = .returned (.slice C 31 k) ∧ Sl w' C (iv lB) ∧ Below (w.alloc (.cells #[.int .i64 0, .int .i64 2, .int .i64 3, .int .i64 4] 3)).heap.size (w.alloc (.cells #[.int .i64 0, .int .i64 2, .int .i64 3, .int .i64 4] 3)) w' :=
  (bits_ref (some ⟨n, 0, none⟩) 4 4 [2, 3, 4] _ rfl (Sl.new w (iv (zs [0, 2, 3, 4])) 3 n hn) (by omega) (by simp)).mono fun _ _ ⟨C, k, h1, h2, h3⟩ => ⟨C, k, h1, Sl.of_own h2, h3⟩
theorem lA_bits : ∀ k, k < 31 → 1 - 2 * lA[k]?.getD 0 = vb (bA[k]?.getD false) ∧ 0 ≤ lA[k]?.getD 0 ∧ lA[k]?.getD 0 ≤ 1 := by decide +kernel
theorem lB_bits : ∀ k, k < 31 → 1 - 2 * lB[k]?.getD 0 = vb (bB[k]?.getD false) ∧ 0 ≤ lB[k]?.getD 0 ∧ lB[k]?.getD 0 ≤ 1 := by decide +kernel
theorem lA_len : lA.length = 31 := by decide +kernel
theorem lB_len : lB.length = 31 := by decide +kernel
theorem seqL_lo (n k : Nat) (hk : k < 31) : (seqL n).take (k + 1) = (seqL n).take k ++ [1 - 2 * lA[(k + 10 * (n % 3)) % 31]?.getD 0] := by
  rw [(lA_bits _ (Nat.mod_lt _ (by omega))).1, List.take_succ_eq_append_getElem (by rw [seqL_len]; omega)]
  simp only [seqL, secL]
  rw [List.getElem_append_left (by simp; omega)]
  simp [sbit, rA]
theorem seqL_hi (n k : Nat) (hk : k < 31) : (seqL n).take (31 + k + 1) = (seqL n).take (31 + k) ++ [(1 - 2 * lA[(k + n / 3 % 31) % 31]?.getD 0) * (1 - 2 * lB[(k + n / 3 / 31) % 31]?.getD 0)] := by
  rw [(lA_bits _ (Nat.mod_lt _ (by omega))).1, (lB_bits _ (Nat.mod_lt _ (by omega))).1, List.take_succ_eq_append_getElem (by rw [seqL_len]; omega)]
  simp only [seqL, secL, grpL]
  rw [List.getElem_append_right (by simp)]
  simp [gbit, rA, rB, vb_xor]
def RowOf (w : World) (base : Nat) (k : Nat) (xs : List Int) (o : Value) : Prop := ∃ (C : Option Addr) (c : Nat), o = .slice C k c ∧ w.ownsRow base 3 1 (.slice C k c) k (iv xs)
set_option maxRecDepth 100000 in
set_option maxHeartbeats 8000000 in
theorem SequenceOf_ref (n : Nat) (hn : n < 1008) (w : World) : Calls Try.prog 45 #[.int .i64 (n : Int)] w fun e w' => ∃ A c, e = .returned (.slice A 62 c) ∧ w'.ownsRow w.heap.size 3 1 (.slice A 62 c) 62 (iv (seqL n)) ∧ Below w.heap.size w w' := by
  obtain ⟨i0, hi0, hz0, hz1, hz2⟩ := info_parts int_infoW
  have HSH := hide (fun W => Shifts_ref n hn W)
  unfold shC at HSH
  have HLO := hide (seqL_lo n)
  have HHI := hide (seqL_hi n)
  have HFI := hide (show (seqL n).take 62 = seqL n from List.take_of_length_le (by rw [seqL_len]; omega))
  have HA := hide lA_bits
  have HB := hide lB_bits
  have HLA := hide lA_len
  have HLB := hide lB_len
  obtain ⟨s, hs⟩ : ∃ s, 10 * (n % 3) = s := ⟨_, rfl⟩
  obtain ⟨m, hm⟩ : ∃ m, n / 3 % 31 = m := ⟨_, rfl⟩
  obtain ⟨q, hq⟩ : ∃ q, n / 3 / 31 = q := ⟨_, rfl⟩
  have e1 : (10 : Int) * ((n : Int) % 3) = (s : Int) := by omega
  have e2 : (n : Int) / 3 % 31 = (m : Int) := by omega
  have e3 : (n : Int) / 3 / 31 = (q : Int) := by omega
  have s1 : s ≤ 20 := by omega
  have m1 : m < 31 := by omega
  have q1 : q ≤ 10 := by omega
  rw [e1, e2, e3] at HSH
  rw [hs] at HLO
  rw [hm, hq] at HHI
  clear hs hm hq e1 e2 e3
  go_enter Try.func45, Try.ntmps45
  go_wp2_with (first
    | (go_at_call 134; have qq := b1; go_must (refine (bitsB_ref _ _ (by simp)).mono ?_; rintro e w2 ⟨B, kb, rfl, hsb, hb2⟩; have b2 : Below w.heap.size w w2 := Below.step (by go_grown) hb2; have SA2 := hide ((SA.out.alloc _).bel hb2); have SB := hide hsb; clear hsb hb2 qq SA; simp only []))
    | (go_at_call 134; go_must (refine (bitsA_ref _ _ (by simp)).mono ?_; rintro e w1 ⟨A, ka, rfl, hsa, hb1⟩; have b1 : Below w.heap.size w w1 := Below.step (by go_grown) hb1; have SA := hide hsa; have z1 := b1.size; clear hsa hb1; simp only []))
    | (go_at_call 43; go_must (refine (HSH.out _).mono ?_; rintro e w3 ⟨rfl, hb3⟩; have b3 : Below w.heap.size w w3 := Below.step b2 hb3; have SA3 := hide (SA2.out.bel hb3); have SB3 := hide (SB.out.bel hb3); have z3 := b3.size; clear hb3 b2 b1 SA2 SB; simp only [])))
  have HX4 := hide (Blk.new w3 64 #[.int .i64 (s : Int), .int .i64 (m : Int), .int .i64 (q : Int)])
  have SA4 := hide (SA3.out.alloc (.cells #[.int .i64 (s : Int), .int .i64 (m : Int), .int .i64 (q : Int)] 64))
  have SB4 := hide (SB3.out.alloc (.cells #[.int .i64 (s : Int), .int .i64 (m : Int), .int .i64 (q : Int)] 64))
  have b4 : Below w.heap.size w (w3.alloc (.cells #[.int .i64 (s : Int), .int .i64 (m : Int), .int .i64 (q : Int)] 64)) := by go_grown
  clear b3 SA3 SB3
  generalize w3.alloc (.cells #[.int .i64 (s : Int), .int .i64 (m : Int), .int .i64 (q : Int)] 64) = w4 at *
  generalize w3.heap.size = g at *
  have hg4 := HX4.out.lt
  go_loopw [6, 7] (fun o i wr => ∃ (k : Nat) (C : Option Addr) (c1 : Nat), k ≤ 31 ∧ i = .int .i64 k ∧ o = .slice C k c1 ∧ wr.ownsRow w4.heap.size 3 1 (.slice C k c1) k (iv ((seqL n).take k)) ∧ Below w4.heap.size w4 wr) (fun _ i _ => 31 - (intOf i).toNat)
  case atStart => exact ⟨0, none, 0, Nat.zero_le _, rfl, rfl, World.ownsRow_nil _ _ _ _, Below.refl _ _⟩
  case round =>
    obtain ⟨k, C, c1, hk, rfl, rfl, hrow, hbel⟩ := hrel
    have hbz := hbel.size
    by_cases hlt : k < 31
    · have hd : decide ((k : Int) < 31) = true := by rw [decide_eq_true_iff]; omega
      have hst := hide (HLO.out k hlt)
      have x1 : (k + s) % 31 < 31 := Nat.mod_lt _ (by omega)
      obtain ⟨_, y1, y2⟩ := HA.out _ x1
      obtain ⟨b1, o1, rfl, c1'⟩ := ((SA4.out.bel hbel).all (by rw [iv_length, HLA.out]; omega))
      have d1 := c1' _ _ (iv_at lA _ (by rw [HLA.out]; exact x1))
      have d0 := (HX4.out.below hbel hg4).cell 0
      have t1 : ((k : Int) + (s : Int)) % 31 = (((k + s) % 31 : Nat) : Int) := by omega
      obtain ⟨x, hx⟩ : ∃ x, (k + s) % 31 = x := ⟨_, rfl⟩
      rw [hx] at x1 y1 y2 d1 t1 hst
      obtain ⟨y, hy⟩ : ∃ y, lA[x]?.getD 0 = y := ⟨_, rfl⟩
      rw [hy] at y1 y2 d1 hst
      have HROW := hide hrow
      have g1 : (x : Int) < 31 := by omega
      clear hx hy c1' hrow
      have HCE : Hid (Reads (wr.alloc (.cells #[.int .i64 (1 - 2 * y)] 3)) (wr.heap.size + 1) 1 (some ⟨wr.heap.size, 0, none⟩) 1 [.int .i64 (1 - 2 * y)]) := hide (cell_one wr (.int .i64 (1 - 2 * y)) 3)
      go_wp2_with (at_builtin
                   refine wpList_append_any _ rfl (.tmp 19) (.tmp 30) _ rfl w4.heap.size 3 i0 _ 1 8 Try.underlying24 hi0 hz0 hz1 hz2 rfl (by omega) _ k (iv ((seqL n).take k)) rfl
                     (HROW.out.alloc _) (wr.heap.size + 1) (some ⟨wr.heap.size, 0, none⟩) 1 1 [.int .i64 (1 - 2 * y)] rfl HCE.out (by simp [Value.oneCell']) (by simp only [maxLen]; omega) (by omega) (by simp; omega) ?_
                   intro v' w6 hown' hgrow _)
      obtain ⟨C2, k2, rfl⟩ := own_form hown'
      have hbel6 : Below w4.heap.size w4 w6 := Below.app hbel HROW.out hgrow
      go_roundw
      case rel => exact ⟨k + 1, C2, k2, by omega, by go_num, rfl, by rw [hst.out, iv_append]; exact hown', hbel6⟩
      case measure => simp [intOf]; omega
    · have hd : decide ((k : Int) < 31) = false := by rw [decide_eq_false_iff_not]; omega
      obtain rfl : k = 31 := by omega
      have HROW := hide hrow
      clear hrow
      go_wp2
      obtain ⟨w5, rfl⟩ : ∃ w5 : World, w5 = wr := ⟨_, rfl⟩
      rw [show ((31 : Nat) : Int) = 31 from rfl]
      go_loopw [6, 8] (fun o i wr => ∃ (k : Nat) (C : Option Addr) (c1 : Nat), k ≤ 31 ∧ i = .int .i64 k ∧ o = .slice C (31 + k) c1 ∧ wr.ownsRow w4.heap.size 3 1 (.slice C (31 + k) c1) (31 + k) (iv ((seqL n).take (31 + k))) ∧ Below w4.heap.size w4 wr) (fun _ i _ => 31 - (intOf i).toNat)
      case atStart => exact ⟨0, C, c1, Nat.zero_le _, rfl, rfl, HROW.out, hbel⟩
      case round =>
        clear HROW hbel hbz hd hlt hk
        obtain ⟨k, C, c1, hk, rfl, rfl, hrow, hbel⟩ := hrel
        have hbz := hbel.size
        by_cases hlt : k < 31
        · have hd : decide ((k : Int) < 31) = true := by rw [decide_eq_true_iff]; omega
          have hst := hide (HHI.out k hlt)
          have x1 : (k + m) % 31 < 31 := Nat.mod_lt _ (by omega)
          have u1 : (k + q) % 31 < 31 := Nat.mod_lt _ (by omega)
          obtain ⟨_, y1, y2⟩ := HA.out _ x1
          obtain ⟨_, z1, z2⟩ := HB.out _ u1
          obtain ⟨b1, o1, rfl, c1'⟩ := ((SA4.out.bel hbel).all (by rw [iv_length, HLA.out]; omega))
          have ia := iv_at lA _ (by rw [HLA.out]; exact x1)
          obtain ⟨b2, o2, rfl, c2'⟩ := ((SB4.out.bel hbel).all (by rw [iv_length, HLB.out]; omega))
          have ib := iv_at lB _ (by rw [HLB.out]; exact u1)
          have HBX := hide (HX4.out.below hbel hg4)
          have d3 := HBX.out.cell 1
          have d4 := HBX.out.cell 2
          have w1' : IntKind.i64.wrap ((k : Int) + (m : Int)) = (k : Int) + (m : Int) := IntWalk.i64_in _ (by omega)
          have w2' : IntKind.i64.wrap ((k : Int) + (q : Int)) = (k : Int) + (q : Int) := IntWalk.i64_in _ (by omega)
          have t1 : ((k : Int) + (m : Int)).tmod 31 = (((k + m) % 31 : Nat) : Int) := by rw [Int.tmod_eq_emod_of_nonneg (by omega)]; omega
          have t2 : ((k : Int) + (q : Int)).tmod 31 = (((k + q) % 31 : Nat) : Int) := by rw [Int.tmod_eq_emod_of_nonneg (by omega)]; omega
          obtain ⟨x, hx⟩ : ∃ x, (k + m) % 31 = x := ⟨_, rfl⟩
          obtain ⟨u, hu⟩ : ∃ u, (k + q) % 31 = u := ⟨_, rfl⟩
          rw [hx] at x1 y1 y2 ia t1 hst
          rw [hu] at u1 z1 z2 ib t2 hst
          obtain ⟨y, hy⟩ : ∃ y, lA[x]?.getD 0 = y := ⟨_, rfl⟩
          obtain ⟨z, hz⟩ : ∃ z, lB[u]?.getD 0 = z := ⟨_, rfl⟩
          rw [hy] at y1 y2 ia hst
          rw [hz] at z1 z2 ib hst
          have hyb : -1 ≤ 1 - 2 * y ∧ 1 - 2 * y ≤ 1 := by omega
          have hzb : -1 ≤ 1 - 2 * z ∧ 1 - 2 * z ≤ 1 := by omega
          have hmb := mul_le_size hyb.1 hyb.2 hzb.1 hzb.2
          have hw3 : IntKind.i64.wrap ((1 - 2 * y) * (1 - 2 * z)) = (1 - 2 * y) * (1 - 2 * z) := IntWalk.i64_in _ (by omega)
          have hw4 : IntKind.i64.wrap (2 * y) = 2 * y := IntWalk.i64_in _ (by omega)
          have hw5 : IntKind.i64.wrap (2 * z) = 2 * z := IntWalk.i64_in _ (by omega)
          have hw6 : IntKind.i64.wrap (1 - 2 * y) = 1 - 2 * y := IntWalk.i64_in _ (by omega)
          have hw7 : IntKind.i64.wrap (1 - 2 * z) = 1 - 2 * z := IntWalk.i64_in _ (by omega)
          have g1 : (0 : Int) ≤ (x : Int) := by omega
          have g2 : (x : Int) < 31 := by omega
          have g3 : (0 : Int) ≤ (u : Int) := by omega
          have g4 : (u : Int) < 31 := by omega
          have HROW := hide hrow
          have d1 := c1' _ _ ia
          have d2 := c2' _ _ ib
          have IA := hide ia
          have IB := hide ib
          clear ia ib hx hy hu hz c1' c2' hrow hyb hzb hmb
          go_wp2
          have HA2 : Hid ((wr.alloc (.cells #[.int .i64 ((1 - 2 * y) * (1 - 2 * z))] 3)).drew.ownsRow w4.heap.size 3 1 (.slice C (31 + k) c1) (31 + k) (iv ((seqL n).take (31 + k)))) := hide (HROW.out.alloc _)
          have HCE : Hid (Reads (wr.alloc (.cells #[.int .i64 ((1 - 2 * y) * (1 - 2 * z))] 3)).drew (wr.heap.size + 1) 1 (some ⟨wr.heap.size, 0, none⟩) 1 [.int .i64 ((1 - 2 * y) * (1 - 2 * z))]) := hide (cell_one wr (.int .i64 ((1 - 2 * y) * (1 - 2 * z))) 3)
          go_region_held3 (fun w' => w'.cell? ⟨g, 1, none⟩ = some (.int .i64 (m : Int)) ∧ w'.cell? ⟨g, 2, none⟩ = some (.int .i64 (q : Int)) ∧ w'.cell? ⟨b1, o1 + x, none⟩ = some (.int .i64 y) ∧ w'.cell? ⟨b2, o2 + u, none⟩ = some (.int .i64 z)) (first | (simp [go_sem]; done) | (simp [go_sem, *]; done) | go_keep)
            (((
             refine step_append_any _ ?_ (.tmp 36) (.tmp 58) 24 ?_ w4.heap.size 3 i0 _ 1 8 Try.underlying24 hi0 hz0 hz1 hz2 ?_ ?_ (.slice C (31 + k) c1) (31 + k) (iv ((seqL n).take (31 + k))) ?_ HA2.out (wr.heap.size + 1) (some ⟨wr.heap.size, 0, none⟩) 1 1 [.int .i64 ((1 - 2 * y) * (1 - 2 * z))] ?_ HCE.out ?_ ?_ ?_ ?_ ?_
             · rfl
             · rfl
             · rfl
             · omega
             · rfl
             · rfl
             · simp [Value.oneCell']
             · simp only [maxLen]; omega
             · omega
             · simp; omega
             intro v' w6 hown' hgrow0 _
             have hgrow := grown_drew hgrow0
             obtain ⟨C2, k2, rfl⟩ := own_form hown'
             have hbel6 : Below w4.heap.size w4 w6 := Below.app hbel HROW.out hgrow
             have q3 := (HX4.out.below hbel6 hg4).cell 1
             have q4 := (HX4.out.below hbel6 hg4).cell 2
             have q1 : w6.cell? ⟨b1, o1 + x, none⟩ = some (.int .i64 y) := (SA4.out.bel hbel6).one rfl IA.out
             have q2 : w6.cell? ⟨b2, o2 + u, none⟩ = some (.int .i64 z) := (SB4.out.bel hbel6).one rfl IB.out)))
          go_wp2
          go_roundw
          case rel => exact ⟨k + 1, C2, k2, by omega, by go_num, rfl, by rw [← Nat.add_assoc, hst.out, iv_append]; exact hown', hbel6⟩
          case measure => simp [intOf]; omega
        · have hd : decide ((k : Int) < 31) = false := by rw [decide_eq_false_iff_not]; omega
          obtain rfl : k = 31 := by omega
          have HROW := hide hrow
          clear hrow
          go_wp2
          go_ret
          exact ⟨C, c1, rfl, by have := HROW.out; rw [HFI.out] at this; exact this.weaken b4.size, b4.trans (hbel.mono b4.size)⟩
end Go.Proofs.Ythfmjohbokpceaa
