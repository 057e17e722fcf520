import Derived.Test.YthfmjohbokpceaaWideLaw
import Derived.Test.YthfmjohbokpceaaMem2
import Derived.Test.YthfmjohbokpceaaBase
namespace Go.Proofs.Ythfmjohbokpceaa
open Go.RowKit Go.WideShapes Go.ChangeShapes

def sgnI (x : Int) : Int := if x < 0 then -1 else if x = 0 then 0 else 1
/-- the whole number x, by its sign and its digits -/
structure WideIs (x s : Int) (d : List Int) : Prop where
  dig : digOk d
  top : Top d
  sign : s = sgnI x
  vals : val d = (x.natAbs : Int)
/-- 'returns the whole number x of at most m digits' -/
def RetW (w : World) (x : Int) (m : Nat) (e : Ending) (w' : World) : Prop :=
  ∃ s d A c, WideIs x s d ∧ d.length ≤ m ∧ e = .returned (.agg #[.int .i64 s, .slice A d.length c]) ∧ Sl w' A (iv d) ∧ Below w.heap.size w w'
theorem Sl.pre {w : World} {A : Option Addr} {l : List Int} (h : Sl w A (iv l)) (n : Nat) : Sl w A (iv (l.take n)) := by
  intro k hk
  have hk0 : k < min n l.length := by simpa [iv] using hk
  have hk' : k < n ∧ k < l.length := by omega
  obtain ⟨b, off, e, hc⟩ := h.int hk'.2
  exact ⟨b, off, e, by simpa [iv] using hc⟩

theorem trimmed_base (A : Option Addr) (c : Nat) (l : List Int) (w : World) (hs : Sl w A (iv l)) (hl : l.length ≤ 1000) (hc : l.length ≤ c) :
    Calls Try.prog 187 #[.slice A l.length c] w fun e w' => e = .returned (.slice A (trimL l).length c) ∧ w = w' := by
  have HS := hide hs; clear hs
  rw [trimL_len]
  go_enter Try.func187, Try.ntmps187
  go_wp2
  go_loop [3] (fun i => ∃ k : Nat, k ≤ l.length ∧ i = .int .i64 k ∧ trimN l l.length = trimN l k) (fun i => (intOf i).toNat)
  case atStart => exact ⟨l.length, Nat.le_refl _, rfl, rfl⟩
  case round =>
    obtain ⟨k, hk, rfl, he⟩ := hrel
    have HE := hide he; clear he
    rcases k with _ | j
    · have hz := hide (show trimN l 0 = 0 from rfl)
      go_wp2
      go_ret
      exact ⟨by rw [HE.out, hz.out]; rfl, rfl⟩
    · obtain ⟨b, off, rfl, hcell⟩ := HS.out.int (by omega : j < l.length)
      have hj : l[j]?.getD 0 = l[j] := by rw [List.getElem?_eq_getElem (by omega)]; rfl
      by_cases h0 : l[j] = 0
      · have hst := hide (show trimN l (j + 1) = trimN l j by rw [trimN, if_pos (by rw [hj]; exact h0)])
        have hd : (l[j] == 0) = true := by simp [h0]
        have H0 := hide h0; clear h0 hj
        go_wp2
        go_round
        case rel => exact ⟨j, by omega, by go_num, by rw [HE.out, hst.out]⟩
        case measure => simp [intOf]
      · have hst := hide (show trimN l (j + 1) = j + 1 by rw [trimN, if_neg (by rw [hj]; exact h0)])
        have hd : (l[j] == 0) = false := by simp [h0]
        have H0 := hide h0; clear h0 hj
        go_wp2
        go_ret
        exact ⟨by rw [HE.out, hst.out]; rfl, rfl⟩

theorem wideOf_base (s : Int) (A : Option Addr) (c : Nat) (l : List Int) (w : World) (hs : Sl w A (iv l)) (hl : l.length ≤ 1000) (hc : l.length ≤ c) :
    Calls Try.prog 178 #[.int .i64 s, .slice A l.length c] w fun e w' => e = .returned (.agg #[.int .i64 (if (trimL l).length = 0 then 0 else s), .slice A (trimL l).length c]) ∧ Below w.heap.size w w' := by
  have HS := hide hs; clear hs
  by_cases h0 : (trimL l).length = 0
  · have hd : (((trimL l).length : Int) == 0) = true := by simp [h0]
    rw [if_pos h0]
    have H0 := hide h0; clear h0
    go_enter Try.func178, Try.ntmps178
    go_wp2_with (go_at_call 187; go_must (refine (trimmed_base A c l _ (HS.out.bel (by go_grown)) hl hc).mono ?_; rintro e w' ⟨rfl, rfl⟩; simp only []))
    go_returns
    exact ⟨rfl, by go_grown⟩
  · have hd : (((trimL l).length : Int) == 0) = false := by rw [beq_eq_false_iff_ne]; omega
    rw [if_neg h0]
    have H0 := hide h0; clear h0
    go_enter Try.func178, Try.ntmps178
    go_wp2_with (go_at_call 187; go_must (refine (trimmed_base A c l _ (HS.out.bel (by go_grown)) hl hc).mono ?_; rintro e w' ⟨rfl, rfl⟩; simp only []))
    go_returns
    exact ⟨rfl, by go_grown⟩

theorem wide_is {x : Int} {l : List Int} {s : Int} (hd : digOk l) (hv : val l = (x.natAbs : Int)) (hs : x ≠ 0 → s = sgnI x) : WideIs x (if (trimL l).length = 0 then 0 else s) (trimL l) := by
  refine ⟨digOk_trim hd, trim_top l, ?_, by rw [val_trim]; exact hv⟩
  split
  · rename_i h0
    have e : trimL l = [] := List.eq_nil_of_length_eq_zero h0
    have hv2 := val_trim l
    rw [e] at hv2
    simp only [val] at hv2
    obtain rfl : x = 0 := by omega
    rfl
  · rename_i h0
    have hp := val_pos (digOk_trim hd) (trim_top l) (by intro e; rw [e] at h0; exact h0 rfl)
    rw [val_trim, hv] at hp
    exact hs (by omega)
theorem trim_le (l : List Int) : (trimL l).length ≤ l.length := by rw [trimL_len]; exact trimN_le l _

theorem own_belW {w w' : World} {base e size n : Nat} {v : Value} {xs : List Value} (h : w.ownsRow base e size v n xs) (hb : Below w.heap.size w w') : w'.ownsRow base e size v n xs :=
  h.kept (row := none) ⟨hb.os, hb.tape, hb.output, hb.size, fun k hk _ => hb.block k hk⟩ (by cases hv : v.ownBlock <;> simp)
theorem own_cap {w : World} {base n c : Nat} {e : TypeId} {A : Option Addr} {xs : List Value} {size : Nat} (h : w.ownsRow base e size (.slice A n c) n xs) : n ≤ c := by
  rcases h.2 with ⟨h1, h2⟩ | ⟨g, cap, cur, hv, _, _, hc, _⟩
  · injection h1 with _ h1 h2; omega
  · injection hv with _ h1 h2; omega

set_option maxRecDepth 100000 in
set_option maxHeartbeats 2000000 in
theorem WideOf_base (x : Int) (w : World) (h1 : -10000000000000000 ≤ x) (h2 : x ≤ 10000000000000000) :
    Calls Try.prog 124 #[.int .i64 x] w (RetW w x 2) := by
  obtain ⟨i0, hi0, hz0, hz1, hz2⟩ := info_parts int_info
  obtain ⟨n0, hn0⟩ : ∃ n0, (x.natAbs : Int) = n0 := ⟨_, rfl⟩
  obtain ⟨s0, hs0⟩ : ∃ s0 : Int, s0 = if x < 0 then -1 else 1 := ⟨_, rfl⟩
  have hsx : x ≠ 0 → s0 = sgnI x := by intro h; rw [hs0]; unfold sgnI; split <;> simp_all
  have HSX := hide hsx; clear hsx
  have HN0 := hide hn0
  rcases (by omega : (x < 0 ∧ -x = n0) ∨ (¬ x < 0 ∧ x = n0)) with ⟨hx, hxn⟩ | ⟨hx, hxn⟩
  all_goals
    first | rw [if_pos hx] at hs0 | rw [if_neg hx] at hs0
    have HS0 := hide hs0; clear hs0 hn0
    have HXN := hide hxn
    have hnn : 0 ≤ n0 ∧ n0 ≤ 10000000000000000 := by omega
    clear hxn
    obtain ⟨nn1, nn2⟩ := hnn
    go_enter Try.func124, Try.ntmps124
    go_wp2
    go_loopw [0, 4] (fun a o wr => ∃ (n : Int) (d : List Int) (A' : Option Addr) (c' : Nat), a = .int .i64 n ∧ o = .slice A' d.length c' ∧ 0 ≤ n ∧ ((d.length = 0 ∧ n ≤ 10000000000000000) ∨ (d.length = 1 ∧ n ≤ 10000000) ∨ (d.length = 2 ∧ n = 0)) ∧ digOk d ∧ n0 = val d + 1000000000 ^ d.length * n ∧ wr.ownsRow w.heap.size 3 1 (.slice A' d.length c') d.length (iv d) ∧ Blk wr w.heap.size 179 #[.int .i64 0, .slice none 0 0] ∧ Below w.heap.size w wr) (fun a _ _ => (intOf a).toNat)
    case atStart => exact ⟨n0, [], none, 0, by first | rfl | rw [HXN.out], rfl, nn1, .inl ⟨rfl, nn2⟩, (fun y hy => absurd hy (by simp)), by simp [val], ⟨by simp [iv], .inl ⟨rfl, by simp⟩⟩, Blk.new w _ _, by go_grown⟩
    case round =>
      obtain ⟨n, d, A', c', rfl, rfl, hn, hcase, hdig, hval, hrow, hblk, hbel⟩ := hrel
      have HD := hide hdig; clear hdig
      have HV := hide hval; clear hval
      have yl := hblk.lt
      have hbz := hbel.size
      by_cases hlt : 0 < n
      · have hm := Int.emod_nonneg n (show (1000000000 : Int) ≠ 0 by decide)
        have hm2 := Int.emod_lt_of_pos n (show (0 : Int) < 1000000000 by decide)
        have hdm := hide (Int.emod_add_mul_ediv n 1000000000)
        have hq : 0 ≤ n / 1000000000 ∧ n / 1000000000 < n := by omega
        have et : n.tmod 1000000000 = n % 1000000000 := Int.tmod_eq_emod_of_nonneg (by omega)
        have eq : n.tdiv 1000000000 = n / 1000000000 := Int.tdiv_eq_ediv_of_nonneg (by omega)
        have hdl : d.length ≤ 1 := by omega
        obtain ⟨hq1, hq2⟩ := hq
        obtain ⟨r, hr⟩ : ∃ r, n % 1000000000 = r := ⟨_, rfl⟩
        obtain ⟨q, hqq⟩ : ∃ q, n / 1000000000 = q := ⟨_, rfl⟩
        have hcase2 : (d.length = 0 ∧ q ≤ 10000000) ∨ (d.length = 1 ∧ q = 0) := by omega
        rw [hr] at hm hm2 et hdm
        rw [hqq] at hq1 hq2 eq hdm
        have hn2 : n ≤ 10000000000000000 := by omega
        clear hr hqq hcase
        have HC2 := hide hcase2; clear hcase2
        go_wp2_with (at_builtin; go_must (
                     refine wpList_append_own _ rfl _ _ 24 rfl w.heap.size 3 i0 (.int .i64 0) 1 8 Try.underlying24 hi0 hz0 hz1 hz2 rfl (by decide) _ _ _ rfl (hrow.alloc _) ⟨wr.heap.size, 0, none⟩ 1 1 [.int .i64 r] rfl rfl (cell_one_new _ _ _) (by simp [Value.oneCell']) (by simp only [maxLen]; omega) (by omega) (by simp; omega) ?_
                     intro v' w1 hown' hgrow _
                     obtain ⟨A2, c2, rfl⟩ := own_form hown'
                     have hbel' := Below.app hbel hrow hgrow
                     have hblk' := Blk.app hblk hrow hgrow (by decide)))
        go_roundw
        case rel => exact ⟨q, d ++ [r], _, _, rfl, by rw [List.length_append]; rfl, hq1, by have := HC2.out; simp only [List.length_append, List.length_cons, List.length_nil]; omega, digOk_append HD.out (fun y hy => by simp at hy; subst hy; exact ⟨hm, hm2⟩), by
          rw [val_append, List.length_append]
          simp only [val, List.length_cons, List.length_nil, Nat.zero_add, Int.pow_succ]
          have e1 := HV.out
          have e2 := hdm.out
          rw [e1, ← e2]; grind, by rw [iv_append, List.length_append]; exact hown', hblk', hbel'⟩
        case measure => simp [intOf]; omega
      · obtain rfl : n = 0 := by omega
        have hsl := hide (Sl.of_own hrow)
        have hcp := own_cap hrow
        have hwi : Hid (WideIs x (if (trimL d).length = 0 then 0 else s0) (trimL d)) := wide_is HD.out (by have := HV.out; have := HN0.out; omega) HSX.out
        rw [HS0.out] at hwi
        have htl := trim_le d
        have hdl : d.length ≤ 2 := by omega
        generalize hD : trimL d = D at hwi htl
        have HDD := hide hD; clear hD
        generalize hS : (if D.length = 0 then 0 else _ : Int) = S at hwi
        have HS := hide hS; clear hS
        go_wp2_with (go_at_call 178; go_must (refine (wideOf_base _ A' c' d _ (hsl.out.bel (by go_grown)) (by omega) hcp).mono ?_; rw [HDD.out, HS.out]; rintro e w2 ⟨rfl, hb2⟩; have hrow2 := own_belW hrow hb2; have hblk2 := hblk.below hb2 yl; have e0 : w2.cell? ⟨w.heap.size, 0, none⟩ = some (.int .i64 0) := hblk2.cell 0; have e1 : w2.cell? ⟨w.heap.size, 1, none⟩ = some (.slice none 0 0) := hblk2.cell 1; have f0 := hblk2.frozen 0; have f1 := hblk2.frozen 1; have b2 : Below w.heap.size w w2 := Below.step hbel hb2; clear hb2; simp only []))
        have hrow3 := own_far (u := .int .i64 S) (i := 0) hrow2 hblk2 (by decide)
        have hrow4 := own_far (u := .slice A' D.length c') (i := 1) hrow3 (hblk2.set_ 0 _) (by decide)
        have hblk4 := (hblk2.set_ 0 (.int .i64 S)).set_ 1 (.slice A' D.length c')
        have hbel4 := (b2.setCell (p := ⟨w.heap.size, 0, none⟩) (by simp) (.int .i64 S)).setCell (p := ⟨w.heap.size, 1, none⟩) (by simp) (.slice A' D.length c')
        clear hrow3 hrow2 hblk2 b2 e0 e1 f0 f1 hrow hblk hbel
        revert hrow4 hblk4 hbel4
        generalize World.setCell _ _ _ = W
        intro hrow4 hblk4 hbel4
        have e0 : W.cell? ⟨w.heap.size, 0, none⟩ = some (.int .i64 S) := hblk4.cell 0
        have e1 : W.cell? ⟨w.heap.size, 1, none⟩ = some (.slice A' D.length c') := hblk4.cell 1
        refine bodyPost_ret (v := .agg #[.int .i64 S, .slice A' D.length c']) (by simp [results, Try.results124, go_sem, e0, e1]) rfl ⟨S, D, A', c', hwi, by omega, rfl, ?_, hbel4⟩
        rw [← HDD.out]
        exact (Sl.of_own hrow4).pre _
end Go.Proofs.Ythfmjohbokpceaa
