import Derived.Test.YthfmjohbokpceaaWvK
namespace Go.Proofs.Ythfmjohbokpceaa
open Go.RowKit Go.WideShapes Go.ChangeShapes

theorem sq_bits : ∀ k, k < 31 → vA[k]?.getD 0 = vb (bA[k]?.getD false) ∧ vB[k]?.getD 0 = vb (bB[k]?.getD false) := by decide +kernel
theorem sq_at (k : Nat) (hk : k < 31) : sqCells[k]? = some (.int .i64 (vb (bA[k]?.getD false))) ∧ sqCells[31 + k]? = some (.int .i64 (vb (bB[k]?.getD false))) := by
  have hl : (iv vA).length = 31 := by rw [iv_length]; rfl
  have hl' : (iv vB).length = 31 := by rw [iv_length]; rfl
  obtain ⟨h1, h2⟩ := sq_bits k hk
  rw [← h1, ← h2, ← Array.getElem?_toList, ← Array.getElem?_toList, sq_list, List.getElem?_append_left (by omega), List.getElem?_append_right (by omega), hl, show 31 + k - 31 = k by omega]
  constructor
  · rw [List.getElem?_eq_getElem (by omega : k < (iv vA).length), iv_get, List.getElem?_eq_getElem (by rw [iv_length] at hl; omega)]; rfl
  · rw [List.getElem?_eq_getElem (by omega : k < (iv vB).length), iv_get, List.getElem?_eq_getElem (by rw [iv_length] at hl'; omega)]; rfl
theorem grpL_len (n : Nat) : (grpL n).length = 31 := by simp [grpL]
theorem grpL_succ (n k : Nat) (hk : k < 31) : (grpL n).take (k + 1) = (grpL n).take k ++ [vb (gbit n k)] := by
  rw [List.take_succ_eq_append_getElem (by rw [grpL_len]; exact hk)]
  simp [grpL]
theorem mul_vb (a b : Bool) : -1 ≤ vb a * vb b ∧ vb a * vb b ≤ 1 := by cases a <;> cases b <;> decide
theorem cell_one (w : World) (x : Value) (t : TypeId) : Reads (w.alloc (.cells #[x] t)) (w.heap.size + 1) 1 (some ⟨w.heap.size, 0, none⟩) 1 [x] :=
  ⟨rfl, fun _ => ⟨_, rfl, by simp, cells_new w [x] t⟩⟩
set_option maxRecDepth 100000 in
set_option maxHeartbeats 4000000 in
theorem group_wave (n : Nat) (hn : n < 336) (w : World) : Calls Try.prog 168 #[.agg sqCells, .int .i64 (n : Int)] w fun e w' => ∃ A c, e = .returned (.slice A 31 c) ∧ w'.ownsRow w.heap.size 3 1 (.slice A 31 c) 31 (iv (grpL n)) ∧ Below w.heap.size w w' := by
  obtain ⟨i0, hi0, hz0, hz1, hz2⟩ := info_parts int_infoW
  have HGS := hide (grpL_succ n)
  have HTK := hide (show (grpL n).take 31 = grpL n by rw [List.take_of_length_le (by rw [grpL_len]; omega)])
  have HGB := hide (show ∀ i, gbit n i = (rA (n % 31) i ^^ rB (n / 31) i) from fun i => rfl)
  obtain ⟨m, hm⟩ : ∃ m, n % 31 = m := ⟨_, rfl⟩
  obtain ⟨q, hq⟩ : ∃ q, n / 31 = q := ⟨_, rfl⟩
  have hm1 : m < 31 := by omega
  have hq1 : q < 31 := by omega
  have e1 : (n : Int) % 31 = (m : Int) := by omega
  have e2 : (n : Int) / 31 = (q : Int) := by omega
  rw [hm, hq] at HGB
  clear hm hq
  go_enter Try.func168, Try.ntmps168
  go_wp2
  simp only [e1]
  clear e1 e2
  go_loopw [7, 13] (fun o i wr => ∃ (k : Nat) (C : Option Addr) (c1 : Nat), k ≤ 31 ∧ i = .int .i64 k ∧ o = .slice C k c1 ∧ wr.ownsRow (w.heap.size + 1) 3 1 (.slice C k c1) k (iv ((grpL n).take k)) ∧ Blk wr w.heap.size 215 sqCells ∧ Below w.heap.size w wr) (fun _ i _ => 31 - (intOf i).toNat)
  case atStart => exact ⟨0, none, 0, Nat.zero_le _, rfl, rfl, World.ownsRow_nil _ _ _ _, Blk.new w _ _, by go_grown⟩
  case round =>
    obtain ⟨k, C, c1, hk, rfl, rfl, hrow, hB, hbel⟩ := hrel
    have hbz := hbel.size
    have hbl := hB.lt
    by_cases hlt : k < 31
    · have hd : decide ((k : Int) < 31) = true := by rw [decide_eq_true_iff]; omega
      have k1 : (k + m) % 31 < 31 := Nat.mod_lt _ (by omega)
      have k2 : (k + q) % 31 < 31 := Nat.mod_lt _ (by omega)
      have c1' := hB.cell ((k + m) % 31)
      rw [(sq_at _ k1).1] at c1'
      have c2' := hB.cell (31 + (k + q) % 31)
      rw [(sq_at _ k2).2] at c2'
      have hst := hide (HGS.out k hlt)
      have hgb := HGB.out k
      unfold rA rB at hgb
      have w1 : IntKind.i64.wrap ((k : Int) + (m : Int)) = (k : Int) + (m : Int) := IntWalk.i64_in _ (by omega)
      have w2 : IntKind.i64.wrap ((k : Int) + (q : Int)) = (k : Int) + (q : Int) := IntWalk.i64_in _ (by omega)
      have t1 : ((k : Int) + (m : Int)).tmod 31 = (((k + m) % 31 : Nat) : Int) := by rw [Int.tmod_eq_emod_of_nonneg (by omega)]; omega
      have t2 : ((k : Int) + (q : Int)).tmod 31 = (((k + q) % 31 : Nat) : Int) := by rw [Int.tmod_eq_emod_of_nonneg (by omega)]; omega
      obtain ⟨x, hx⟩ : ∃ x, (k + m) % 31 = x := ⟨_, rfl⟩
      obtain ⟨y, hy⟩ : ∃ y, (k + q) % 31 = y := ⟨_, rfl⟩
      rw [hx] at k1 c1' t1 hgb
      rw [hy] at k2 c2' t2 hgb
      obtain ⟨a, ha⟩ : ∃ a, bA[x]?.getD false = a := ⟨_, rfl⟩
      obtain ⟨b, hb⟩ : ∃ b, bB[y]?.getD false = b := ⟨_, rfl⟩
      rw [ha] at c1' hgb
      rw [hb] at c2' hgb
      have hmb := mul_vb a b
      have hxi : 0 ≤ (x : Int) ∧ (x : Int) < 31 := by omega
      have hyi : 0 ≤ (y : Int) ∧ (y : Int) < 31 := by omega
      have hw3 : IntKind.i64.wrap (vb a * vb b) = vb a * vb b := IntWalk.i64_in _ (by omega)
      have HST := hide (show (grpL n).take (k + 1) = (grpL n).take k ++ [vb a * vb b] by rw [hst.out, hgb, vb_xor])
      obtain ⟨hx1, hx2⟩ := hxi
      obtain ⟨hy1, hy2⟩ := hyi
      have HROW := hide hrow
      have HB := hide hB
      obtain ⟨va, hva⟩ : ∃ v, vb a = v := ⟨_, rfl⟩
      obtain ⟨vc, hvc⟩ : ∃ v, vb b = v := ⟨_, rfl⟩
      rw [hva] at c1'
      rw [hvc] at c2'
      rw [hva, hvc] at hw3 HST
      clear hst hgb ha hb hmb hx hy hrow hB hva hvc HGB HGS
      go_wp2
      have x1 : ¬ w.heap.size = wr.heap.size := by omega
      have HA : Hid ((wr.alloc (.cells #[.int .i64 (va * vc)] 3)).drew.ownsRow (w.heap.size + 1) 3 1 (.slice C k c1) k (iv ((grpL n).take k))) := hide (HROW.out.alloc _)
      have HCE : Hid (Reads (wr.alloc (.cells #[.int .i64 (va * vc)] 3)).drew (wr.heap.size + 1) 1 (some ⟨wr.heap.size, 0, none⟩) 1 [.int .i64 (va * vc)]) := hide (cell_one wr (.int .i64 (va * vc)) 3)
      go_region_held3 (fun w' => w'.cell? ⟨w.heap.size, x, none⟩ = some (.int .i64 va) ∧ w'.cell? ⟨w.heap.size, 31 + y, none⟩ = some (.int .i64 vc)) (first | (simp [go_sem]; done) | (simp [go_sem, *]; done) | go_keep)
        (((
             refine step_append_any _ ?_ (.tmp 16) (.tmp 32) 24 ?_ (w.heap.size + 1) 3 i0 _ 1 8 Try.underlying24 hi0 hz0 hz1 hz2 ?_ ?_ (.slice C k c1) k (iv ((grpL n).take k)) ?_ HA.out (wr.heap.size + 1) (some ⟨wr.heap.size, 0, none⟩) 1 1 [.int .i64 (va * vc)] ?_ HCE.out ?_ ?_ ?_ ?_ ?_
             · rfl
             · rfl
             · rfl
             · omega
             · rfl
             · rfl
             · simp [Value.oneCell']
             · simp only [maxLen]; omega
             · omega
             · simp; omega
             intro v' w6 hown' hgrow0 _
             have hgrow := grown_drew hgrow0
             obtain ⟨C2, k2, rfl⟩ := own_form hown'
             have hbel6 : Below w.heap.size w w6 := Below.app hbel (HROW.out.weaken (by omega)) hgrow
             have hneq : some w.heap.size ≠ (Value.slice C k c1).ownBlock := by
               intro e
               have hlt2 := HROW.out.lt _ e.symm
               omega
             have U := hide ((HB.out.alloc (.cells #[.int .i64 (va * vc)] 3)).grown hgrow hneq)
             have q0 : w6.cell? ⟨w.heap.size, x, none⟩ = some (.int .i64 va) := by rw [U.out.cell]; exact (HB.out.cell x).symm.trans c1'
             have q1 : w6.cell? ⟨w.heap.size, 31 + y, none⟩ = some (.int .i64 vc) := by rw [U.out.cell]; exact (HB.out.cell (31 + y)).symm.trans c2')))
      go_wp2
      go_roundw
      case rel => exact ⟨k + 1, C2, k2, by omega, by go_num, rfl, by rw [HST.out, iv_append]; exact hown', U.out, hbel6⟩
      case measure => simp [intOf]; omega
    · have hd : decide ((k : Int) < 31) = false := by rw [decide_eq_false_iff_not]; omega
      have hk31 : k = 31 := by omega
      rw [hk31, HTK.out] at hrow
      have HROW := hide hrow
      clear hrow
      go_wp2
      go_ret
      subst hk31
      exact ⟨C, c1, rfl, HROW.out.weaken (by omega), hbel⟩
end Go.Proofs.Ythfmjohbokpceaa
