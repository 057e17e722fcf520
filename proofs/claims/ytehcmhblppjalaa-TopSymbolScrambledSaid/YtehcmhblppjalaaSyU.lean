import Derived.Test.YtehcmhblppjalaaSyT
namespace Go.Proofs.Ytehcmhblppjalaa
open Go.RowKit Go.WideShapes Go.ChangeShapes

/-! what one number says of its bits (program) -/
theorem sq_bd {y : Int} (h1 : -200 ≤ y) (h2 : y ≤ 200) : 0 ≤ y * y ∧ y * y ≤ 40000 := by
  have := Int.mul_nonneg (show 0 ≤ 200 - y by omega) (show 0 ≤ 200 + y by omega)
  have h0 : 0 ≤ y * y := by
    rcases (by omega : 0 ≤ y ∨ y ≤ 0) with h | h
    · exact Int.mul_nonneg h h
    · exact Int.mul_nonneg_of_nonpos_of_nonpos h h
  rw [Int.sub_mul, Int.mul_add, Int.mul_add, Int.mul_comm y 200] at this
  omega
def lvAt (j : Nat) : Int := ([-3, -1, 1, 3] : List Int)[j]?.getD 0
theorem lvAt_bd (j : Nat) (h : j < 4) : -3 ≤ lvAt j ∧ lvAt j ≤ 3 := by
  rcases (by omega : j = 0 ∨ j = 1 ∨ j = 2 ∨ j = 3) with rfl | rfl | rfl | rfl <;> decide
/-- the squares of a number's distances to so many levels -/
def sqL (x : Int) : Nat → List Int
  | 0 => []
  | j + 1 => sqL x j ++ [(x - lvAt j * 2) * (x - lvAt j * 2)]
theorem sqL_len (x : Int) : ∀ j, (sqL x j).length = j
  | 0 => rfl
  | j + 1 => by simp [sqL, sqL_len x j]
theorem sqL_bd {x : Int} (h1 : -100 ≤ x) (h2 : x ≤ 100) : ∀ j, j ≤ 4 → ∀ s ∈ sqL x j, 0 ≤ s ∧ s ≤ 1000000
  | 0, _, s, h => absurd h (by simp [sqL])
  | j + 1, hj, s, h => by
    rw [sqL, List.mem_append] at h
    rcases h with h | h
    · exact sqL_bd h1 h2 j (by omega) s h
    · have hb := lvAt_bd j (by omega)
      obtain rfl : s = (x - lvAt j * 2) * (x - lvAt j * 2) := by simpa using h
      have := @sq_bd (x - lvAt j * 2) (by omega) (by omega)
      omega
def RX (v : Value) : Array Value := #[.int .i64 4, .int .i64 2, v]
set_option maxRecDepth 100000 in
set_option maxHeartbeats 8000000 in
theorem judged1 (x : Int) (gL gP gF c1 : Nat) (A1 : Option Addr) (vg : Value) (w : World) (hx : -100 ≤ x ∧ x ≤ 100) (hL : Blk w gL 22 #[.slice A1 4 c1]) (hs : Sl w A1 (iv [-3, -1, 1, 3])) (hP : Blk w gP 45 #[.int .i64 4, .int .i64 2, vg])
    (hF : Blk w gF 77 #[.func (.func 34) #[] #[]]) (R0 R1 : Int) (hr0 : least ((sqL x 4)[0]?.getD 0) ((sqL x 4)[1]?.getD 0) - least ((sqL x 4)[2]?.getD 0) ((sqL x 4)[3]?.getD 0) = R0)
    (hr1 : least ((sqL x 4)[0]?.getD 0) ((sqL x 4)[3]?.getD 0) - least ((sqL x 4)[1]?.getD 0) ((sqL x 4)[2]?.getD 0) = R1) :
    Calls Try.prog 41 #[.int .i64 x, .pointer (some ⟨gL, 0, none⟩), .pointer (some ⟨gP, 0, none⟩), .pointer (some ⟨gF, 0, none⟩)] w fun e w' => ∃ C q, e = .returned (.slice C 2 q) ∧
      w'.ownsRow w.heap.size 3 1 (.slice C 2 q) 2 (iv [R0, R1]) ∧ Below w.heap.size w w' := by
  obtain ⟨i0, hi0, hz0, hz1, hz2⟩ := info_parts int_info
  obtain ⟨x1, x2⟩ := hx
  have HS := hide (stay_sl hs)
  have HX := hide (((stay_blk hL).and (stay_blk hP)).and (stay_blk hF))
  have HSO := hide (fun A1 A C W h1 h2 => soft4 A1 A c1 C (sqL x 4) W (sqL_len x 4) (sqL_bd x1 x2 4 (Nat.le_refl _)) h1 h2)
  rw [hr0, hr1] at HSO
  have HSN := hide (fun j => show iv (sqL x (j + 1)) = iv (sqL x j) ++ [.int .i64 ((x - lvAt j * 2) * (x - lvAt j * 2))] by rw [sqL, iv_append]; rfl)
  have HR0 := hide (show iv (sqL x 0) = [] from rfl)
  clear hs hL hP hF hr0 hr1
  go_enter Try.func41, Try.ntmps41
  have k0 := (HX.out w (Below.refl _ _)).1.1.cell 0
  go_wp2
  clear k0
  go_loopw [6, 11] (fun o i wr => ∃ (k : Nat) (C : Option Addr) (q : Nat), k ≤ 4 ∧ i = .int .i64 k ∧ o = .slice C k q ∧ wr.ownsRow w.heap.size 3 1 (.slice C k q) k (iv (sqL x k)) ∧ Below w.heap.size w wr) (fun _ i _ => 4 - (intOf i).toNat)
  case atStart => exact ⟨0, none, 0, by omega, rfl, rfl, by rw [HR0.out]; exact World.ownsRow_nil _ _ _ _, Below.refl _ _⟩
  case round =>
    obtain ⟨k, C, q, hk, rfl, rfl, hrow, hbel⟩ := hrel
    have hbz := hbel.size
    have HROW := hide hrow
    have HBE := hide hbel
    have k0 := (HX.out wr hbel).1.1.cell 0
    have k1 := (HX.out wr hbel).1.2.cell 1
    have k2 := (HX.out wr hbel).2.cell 0
    by_cases hlt : k < 4
    · obtain ⟨b1, o1, hA1, d1⟩ := (HS.out wr hbel).int (xs := [-3, -1, 1, 3]) hlt
      subst hA1
      have hl := lvAt_bd k hlt
      have HN := hide (HSN.out k)
      rw [show ([-3, -1, 1, 3] : List Int)[k] = lvAt k by unfold lvAt; rw [List.getElem?_eq_getElem hlt]; rfl] at d1
      obtain ⟨l, hle⟩ : ∃ l, lvAt k = l := ⟨_, rfl⟩
      rw [hle] at hl d1 HN
      clear hle hrow hbel HSN
      obtain ⟨l1, l2⟩ := hl
      have w1 : IntKind.i64.wrap (l * 2) = l * 2 := IntWalk.i64_in _ (by omega)
      obtain ⟨y, hy⟩ : ∃ y, x - l * 2 = y := ⟨_, rfl⟩
      have w2 : IntKind.i64.wrap (x - l * 2) = y := by rw [hy]; exact IntWalk.i64_in _ (by omega)
      have hq := @sq_bd y (by omega) (by omega)
      rw [hy] at HN
      obtain ⟨z, hz⟩ : ∃ z, y * y = z := ⟨_, rfl⟩
      rw [hz] at HN hq
      have w3 : IntKind.i64.wrap (y * y) = z := by rw [hz]; exact IntWalk.i64_in _ (by omega)
      clear hz hy
      go_wp2_with (at_builtin
                   refine wpList_append_any _ rfl (.tmp 15) (.tmp 29) _ rfl w.heap.size 3 i0 _ 1 8 Try.underlying22 hi0 hz0 hz1 hz2 rfl (by omega) _ k (iv (sqL x k)) rfl
                     (HROW.out.alloc _) (wr.heap.size + 1) (some ⟨wr.heap.size, 0, none⟩) 1 1 [.int .i64 z] rfl (reads_one wr (.int .i64 z) 3) (by simp [Value.oneCell']) (by simp only [maxLen] <;> omega) (by omega) (by simp <;> omega) ?_
                   intro v' w6 hown' hgrow _)
      obtain ⟨C2, q2, rfl⟩ := own_form hown'
      go_roundw
      case rel => exact ⟨k + 1, C2, q2, by omega, by go_num, rfl, by rw [HN.out]; exact hown', Below.app HBE.out HROW.out hgrow⟩
      case measure => simp [intOf]; omega
    · obtain rfl : k = 4 := by omega
      clear hrow hbel
      have g1 := HS.out wr HBE.out
      have g2 := Sl.of_ownN HROW.out
      go_wp2_with (go_at_call 34; go_must (refine (HSO.out A1 C q wr g1 g2).mono ?_; rintro e w5 ⟨C5, q5, rfl, ho5, hb5⟩))
      go_ret
      exact ⟨C5, q5, rfl, ho5.weaken hbz, Below.step HBE.out hb5⟩
end Go.Proofs.Ytehcmhblppjalaa
