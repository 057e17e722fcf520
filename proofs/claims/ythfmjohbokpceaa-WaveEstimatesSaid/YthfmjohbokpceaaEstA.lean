import Derived.Test.YthfmjohbokpceaaWvCC
import Derived.Deep.QuietTactic
import Derived.BigQuiet
namespace Go.Proofs.Ythfmjohbokpceaa
open Go.RowKit Go.WideShapes Go.ChangeShapes

/-! the greatest common divisor of a list -/
def gcdF (l : List Int) : Nat → Nat
  | 0 => 0
  | k + 1 => Int.gcd (gcdF l k : Int) (l[k]?.getD 0)
theorem gcd_turn (x y : Int) : Int.gcd y (x.tmod y) = Int.gcd x y := by
  rw [Int.gcd_comm x y]
  unfold Int.gcd
  rw [Int.natAbs_tmod]
  exact (Nat.gcd_comm _ _).trans ((Nat.gcd_rec _ _).symm)
theorem gcd_abs (g x : Int) : Int.gcd (g.natAbs : Int) x = Int.gcd g x := by unfold Int.gcd; rw [Int.natAbs_natCast]
set_option maxRecDepth 100000 in
set_option maxHeartbeats 4000000 in
theorem divisor_wave (A : Option Addr) (c : Nat) (l : List Int) (w : World) (hs : Sl w A (iv l)) (hl : l.length ≤ 1000) (hb : ∀ x ∈ l, -1000000000000 ≤ x ∧ x ≤ 1000000000000) :
    Calls Try.prog 154 #[.slice A l.length c] w fun e w' => e = .returned (.int .i64 (gcdF l l.length : Int)) ∧ ∃ n, w' = w.drewN n := by
  have HS := hide hs
  have HX := hide (fun i (hi : i < l.length) => hb _ (List.getElem_mem hi))
  have HG := hide (fun k (hk : k < l.length) => show gcdF l (k + 1) = Int.gcd (gcdF l k : Int) l[k] by show Int.gcd (gcdF l k : Int) (l[k]?.getD 0) = _; rw [List.getElem?_eq_getElem hk]; rfl)
  have HZ := hide (show gcdF l 0 = 0 from rfl)
  obtain ⟨F, hF⟩ : ∃ F : Nat → Nat, gcdF l = F := ⟨_, rfl⟩
  rw [hF] at HG HZ
  rw [hF]
  clear hs hb hF
  go_enter Try.func154, Try.ntmps154
  go_wp2
  go_loopw [3, 8] (fun g i wr => ∃ (k : Nat) (x : Int), k ≤ l.length ∧ i = .int .i64 (k : Int) ∧ g = .int .i64 x ∧ -1000000000000 ≤ x ∧ x ≤ 1000000000000 ∧ x.natAbs = F k ∧ ∃ n, wr = w.drewN n) (fun _ i _ => l.length - (intOf i).toNat)
  case atStart => exact ⟨0, 0, Nat.zero_le _, rfl, rfl, by omega, by omega, by rw [HZ.out]; rfl, 0, rfl⟩
  case round =>
    obtain ⟨k, x, hk, rfl, rfl, x1, x2, hx, n, rfl⟩ := hrel
    have HXK := hide hx
    clear hx
    by_cases hlt : k < l.length
    · obtain ⟨b, off, rfl, c0⟩ := (HS.out.drewN n).int hlt
      obtain ⟨y1, y2⟩ := HX.out k hlt
      have hg := HG.out k hlt
      obtain ⟨y, hy⟩ : ∃ y, l[k] = y := ⟨_, rfl⟩
      rw [hy] at c0 y1 y2 hg
      have HGK := hide (show (Int.gcd x y : Nat) = F (k + 1) by rw [hg, ← HXK.out, gcd_abs])
      clear hg hy
      go_wp2
      obtain ⟨wo, hwo⟩ : ∃ wo, w.drewN n = wo := ⟨_, rfl⟩
      have HWO := hide hwo
      rw [hwo]
      clear hwo c0
      go_loopw [3, 5] (fun a b wr => ∃ x y : Int, a = .int .i64 x ∧ b = .int .i64 y ∧ -1000000000000 ≤ x ∧ x ≤ 1000000000000 ∧ -1000000000000 ≤ y ∧ y ≤ 1000000000000 ∧ Int.gcd x y = F (k + 1) ∧ ∃ n, wr = w.drewN n) (fun _ b _ => (intOf b).natAbs)
      case atStart => exact ⟨x, y, rfl, rfl, x1, x2, y1, y2, HGK.out, n, HWO.out.symm⟩
      case round =>
        clear x1 x2 y1 y2
        obtain ⟨x', y', rfl, rfl, x1, x2, y1, y2, hg, m, rfl⟩ := hrel
        by_cases h0 : y' = 0
        · have hd : (y' != 0) = false := by simp [h0]
          have HM := hide (show x'.natAbs = F (k + 1) by rw [h0] at hg; rw [← hg, Int.gcd_zero_right])
          clear hg h0
          go_wp2
          go_roundw
          case rel => exact ⟨k + 1, x', by omega, by go_num, rfl, x1, x2, HM.out, m, rfl⟩
          case measure => simp [intOf]; omega
        · have hd : (y' != 0) = true := by simp [h0]
          have hgg := hide ((gcd_turn x' y').trans hg)
          have hlt2 := hide (show (x'.tmod y').natAbs < y'.natAbs by rw [Int.natAbs_tmod]; exact Nat.mod_lt _ (by omega))
          have ht : -1000000000000 ≤ x'.tmod y' ∧ x'.tmod y' ≤ 1000000000000 := by have := hlt2.out; omega
          obtain ⟨t1, t2⟩ := ht
          clear hg
          go_wp2
          go_quiet (fail)
          go_wp2
          go_roundw
          case rel => exact ⟨y', x'.tmod y', rfl, rfl, y1, y2, t1, t2, hgg.out, by first | exact ⟨_, rfl⟩ | exact drewN2 _ _ _⟩
          case measure => simp [intOf]; exact Nat.mod_lt _ (by omega)
    · obtain rfl : k = l.length := by omega
      by_cases hneg : x < -x
      · have HV := hide (show (F l.length : Int) = -x by rw [← HXK.out]; omega)
        go_wp2
        go_ret
        exact ⟨by rw [HV.out]; rfl, n, rfl⟩
      · have HV := hide (show (F l.length : Int) = x by rw [← HXK.out]; omega)
        have hnn : -x ≤ x := by omega
        go_wp2
        go_ret
        exact ⟨by rw [HV.out]; rfl, n, rfl⟩
end Go.Proofs.Ythfmjohbokpceaa
