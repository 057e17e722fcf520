import Derived.Test.YtamkannjdbodpaaBeamI
import Derived.Test.YtamkannjdbodpaaLawA
namespace Go.Proofs.Ytamkannjdbodpaa
open Go.RowKit Go.WideShapes Go.ChangeShapes

/-! a test of each value by a closure with one captured value -/
theorem indexFunc1 (K : FuncId) (u : Value) (p : Int → Bool) (A : Option Addr) (c : Nat) (l : List Int) (w : World)
    (hK : ∀ args W, (callFunc K args).run Try.prog W = .ok (.enter K args) W)
    (hp : ∀ x, Calls Try.prog K #[.int .i64 x, u] w fun e w' => e = .returned (.bool (p x)) ∧ w = w')
    (hs : Sl w A (iv l)) (hl : l.length ≤ 1000000) :
    Calls Try.prog 95 #[.slice A l.length c, .func (.func K) #[] #[u]] w fun x w' => x = .returned (.int .i64 (idxFrom p l 0)) ∧ w = w' := by
  have HP := Lib.hid hp
  clear hp
  have HS := Lib.hid hs
  clear hs
  go_enter Try.func95, Try.ntmps95
  go_wp2
  go_loop [8] (fun i => ∃ k : Nat, k ≤ l.length ∧ i = .int .i64 k ∧ idxFrom p l 0 = idxFrom p (l.drop k) k) (fun i => l.length - (intOf i).toNat)
  case atStart => exact ⟨0, Nat.zero_le _, rfl, by simp⟩
  case round =>
    obtain ⟨k, hk, rfl, he⟩ := hrel
    have HE := Lib.hid he
    clear he
    by_cases hlt : k < l.length
    · obtain ⟨b, off, rfl, hc⟩ := HS.out.int hlt
      cases h0 : p l[k]
      · have hh := idx_skip p l k hlt h0
        have HH := Lib.hid hh; clear hh
        have H0 := Lib.hid h0; clear h0
        go_wp2_with fail
        refine (HP.out _).mono ?_
        rintro e w' ⟨rfl, rfl⟩
        rw [H0.out]
        go_wp2
        go_round
        case rel => exact ⟨k + 1, by omega, by go_num, by rw [HE.out, HH.out]; simp⟩
        case measure => simp [intOf]; omega
      · have hh := idx_hit p l k hlt h0
        have HH := Lib.hid hh; clear hh
        have H0 := Lib.hid h0; clear h0
        go_wp2_with fail
        refine (HP.out _).mono ?_
        rintro e w' ⟨rfl, rfl⟩
        rw [H0.out]
        go_wp2
        go_ret
        exact ⟨by rw [HE.out, HH.out]; rfl, rfl⟩
    · go_wp2
      go_ret
      exact ⟨by rw [HE.out, List.drop_eq_nil_of_le (by omega)]; rfl, rfl⟩
theorem containsFunc1 (K : FuncId) (u : Value) (p : Int → Bool) (A : Option Addr) (c : Nat) (l : List Int) (w : World)
    (hK : ∀ args W, (callFunc K args).run Try.prog W = .ok (.enter K args) W)
    (hp : ∀ x, Calls Try.prog K #[.int .i64 x, u] w fun e w' => e = .returned (.bool (p x)) ∧ w = w')
    (hs : Sl w A (iv l)) (hl : l.length ≤ 1000000) :
    Calls Try.prog 98 #[.slice A l.length c, .func (.func K) #[] #[u]] w fun x w' => x = .returned (.bool (decide (0 ≤ idxFrom p l 0))) ∧ w = w' := by
  have H := Lib.hid (indexFunc1 K u p A c l w hK hp hs hl)
  clear hp hs
  go_enter Try.func98, Try.ntmps98
  go_wp2_with fail
  refine H.out.mono ?_
  rintro e w' ⟨rfl, rfl⟩
  go_wp2
  go_ret
  exact ⟨rfl, rfl⟩

/-! what splits are accepted -/
def offB (m x : Int) : Bool := !(withinB x 0 m)
def sumL : List Int → Int
  | [] => 0
  | x :: r => x + sumL r
theorem sumL_bd (m : Int) : ∀ (l : List Int), (∀ x ∈ l, 0 ≤ x ∧ x ≤ m) → 0 ≤ sumL l ∧ sumL l ≤ m * l.length
  | [], _ => by simp [sumL]
  | x :: r, h => by
    have h1 := h x List.mem_cons_self
    have h2 := sumL_bd m r (fun y hy => h y (List.mem_cons_of_mem _ hy))
    have e : m * ((x :: r).length : Int) = m * (r.length : Int) + m := by rw [List.length_cons]; push_cast; rw [Int.mul_add, Int.mul_one]
    simp only [sumL]
    omega
theorem sumL_append : ∀ a b : List Int, sumL (a ++ b) = sumL a + sumL b
  | [], b => by simp [sumL]
  | x :: r, b => by simp only [List.cons_append, sumL, sumL_append r b]; omega
theorem sumL_take (l : List Int) (k : Nat) (hk : k < l.length) : sumL (l.take (k + 1)) = sumL (l.take k) + l[k] := by
  rw [List.take_succ_eq_append_getElem hk, sumL_append]; simp [sumL]
/-- the error of a split, and the power that it uses -/
def csE (p m : Int) (l : List Int) : Int := if spE' p m l = 0 then (if p < sumL l then 24 else 0) else spE' p m l
where spE' (p m : Int) (l : List Int) : Int := firstOf [panE p m l.length, unlessE (!(decide (0 ≤ idxFrom (offB m) l 0))) 2]
def csV (p m : Int) (l : List Int) : Int := if csE p m l = 0 then sumL l else 0
theorem spE'_ok {p m : Int} {l : List Int} (h : csE.spE' p m l = 0) : (0 ≤ p ∧ p ≤ 1000000 ∧ 0 ≤ m ∧ m ≤ 1000000 ∧ l.length ≤ 12) ∧ ∀ x ∈ l, 0 ≤ x ∧ x ≤ m := by
  obtain ⟨h1, h2⟩ := firstOf2 h
  have h3 := panE_ok h1
  have h4 := unlessE_zero (by decide) h2
  refine ⟨by omega, fun x hx => ?_⟩
  have := idx_none (offB m) l 0 (Int.le_refl _) (by simpa using h4) x hx
  simpa [offB, withinB] using this
theorem sum_take_bd {m : Int} {l : List Int} (h : ∀ x ∈ l, 0 ≤ x ∧ x ≤ m) (hm : m ≤ 1000000) (hl : l.length ≤ 12) (k : Nat) : 0 ≤ sumL (l.take k) ∧ sumL (l.take k) ≤ 12000000 := by
  have h1 := sumL_bd m (l.take k) (fun x hx => h x (List.mem_of_mem_take hx))
  have h2 : (l.take k).length ≤ 12 := by rw [List.length_take]; omega
  have h3 := sumL_bd 1000000 (l.take k) (fun x hx => by have := h x (List.mem_of_mem_take hx); omega)
  omega

theorem checkSplit1_beam (x m p : Int) (B : Nat) (w : World) (hB : Blk w B 63 #[.int .i64 p, .int .i64 m]) : Calls Try.prog 114 #[.int .i64 x, .pointer (some ⟨B, 0, none⟩)] w fun e w' => e = .returned (.bool (offB m x)) ∧ w = w' := by
  have d1 : w.cell? ⟨B, 1, none⟩ = some (.int .i64 m) := hB.cell 1
  go_enter Try.func114, Try.ntmps114
  go_wp2_with (go_at_call 100; refine (within_beam _ _ _ _).mono ?_; rintro e w' ⟨rfl, rfl⟩; simp only [])
  go_ret
  exact ⟨rfl, rfl⟩

set_option maxRecDepth 100000 in
set_option maxHeartbeats 1000000 in
theorem checkSplit_beam (A : Option Addr) (c : Nat) (l : List Int) (p m : Int) (w : World) (hs : Sl w A (iv l)) (hl : l.length ≤ 1000000) :
    Calls Try.prog 40 #[.agg #[.int .i64 p, .int .i64 m], .slice A l.length c] w fun e w' => e = .returned (.tuple #[.int .i64 (csV p m l), .int .i64 (csE p m l)]) ∧ Below w.heap.size w w' := by
  have hK := enters Try.func114 (by kernel_rfl) rfl
  have C1 := Lib.hid (fun W (B : Nat) hB hs => containsFunc1 114 (.pointer (some ⟨B, 0, none⟩)) (offB m) A c l W hK (fun x => checkSplit1_beam x m p B W hB) hs hl)
  clear hK
  have HS := hide hs; clear hs
  by_cases h : csE.spE' p m l = 0
  · obtain ⟨⟨p0, p1, m0, m1, hl12⟩, hpw⟩ := spE'_ok h
    have hg : (firstOf [panE p m l.length, unlessE (!(decide (0 ≤ idxFrom (offB m) l 0))) 2] != 0) = false := by rw [bne_eq_false_iff_eq]; exact h
    have hE : csE p m l = if p < sumL l then 24 else 0 := if_pos h
    have hV : csV p m l = if p < sumL l then 0 else sumL l := by unfold csV; rw [hE]; split <;> simp_all
    have hbt := hide (sum_take_bd hpw m1 hl12)
    clear h hpw
    rcases (by omega : (p < sumL l ∨ ¬ p < sumL l)) with hgt | hgt
    all_goals
      first | rw [if_pos hgt] at hE hV | rw [if_neg hgt] at hE hV
      rw [hE, hV]
      clear hE hV
      go_enter Try.func40, Try.ntmps40
      go_wp2_with (first
        | (go_at_call 98; go_must (refine (C1.out _ w.heap.size (Blk.new _ _ _) (HS.out.bel (by go_grown))).mono ?_; rintro e w' ⟨rfl, rfl⟩; simp only []))
        | (go_at_call 115; go_must (refine (panelErr_beam _ _ _ _).mono ?_; rintro e w1 ⟨rfl, hb1⟩; have b1 : Below w.heap.size w w1 := Below.step (by go_grown) hb1; obtain ⟨hc1, hf1, y10⟩ := bloc1 w hb1 (by first | omega | (simp; done) | (simp; omega)); simp only []))
        | (go_at_call 94; refine (unless_any _ _ _).mono ?_; rintro e w' ⟨rfl, rfl⟩; simp only [])
        | (go_at_call 93; refine (first2 _ _ _ _ (by simp)).mono ?_; rintro e w' ⟨rfl, rfl⟩; simp only []))
      have hblk : Blk w1 w.heap.size 63 #[.int .i64 p, .int .i64 m] := (Blk.new w _ _).below hb1 (by simp)
      clear hb1
      go_loopw [8, 28] (fun a i wr => ∃ k : Nat, k ≤ l.length ∧ i = .int .i64 k ∧ a = .int .i64 (sumL (l.take k)) ∧ Blk wr w.heap.size 63 #[.int .i64 p, .int .i64 m] ∧ Below w.heap.size w wr) (fun _ i _ => l.length - (intOf i).toNat)
      case atStart => exact ⟨0, Nat.zero_le _, rfl, rfl, hblk.alloc _, by go_grown⟩
      case round =>
        obtain ⟨k, hk, rfl, rfl, hblk2, hbel⟩ := hrel
        have d0 : wr.cell? ⟨w.heap.size, 0, none⟩ = some (.int .i64 p) := hblk2.cell 0
        have yl := hblk2.lt
        have hb := hbt.out k
        by_cases hlt : k < l.length
        · obtain ⟨b, off, rfl, hc⟩ := HS.out.int hlt
          have hcw : wr.cell? ⟨b, off + k, none⟩ = some (.int .i64 l[k]) := (hbel.cell (p := ⟨b, off + k, none⟩) (lt_of_cell hc)).trans hc
          have ht := sumL_take l k hlt
          have hb2 := hbt.out (k + 1)
          rw [ht] at hb2
          have HT := hide ht; clear ht hc
          go_wp2
          go_roundw
          case rel => exact ⟨k + 1, by omega, by go_num, by rw [HT.out], hblk2, hbel⟩
          case measure => simp [intOf]; omega
        · obtain rfl : k = l.length := by omega
          have hss : sumL (l.take l.length) = sumL l := by rw [List.take_length]
          first
            | (have hlt2 : p < sumL (l.take l.length) := by omega
               have HSS := hide hss; clear hss
               go_wp2
               go_ret2
               exact ⟨rfl, hbel⟩)
            | (have hlt2 : ¬ p < sumL (l.take l.length) := by omega
               have HSS := hide hss; clear hss
               go_wp2
               go_ret2
               exact ⟨rfl, hbel⟩)
  · have hg : (firstOf [panE p m l.length, unlessE (!(decide (0 ≤ idxFrom (offB m) l 0))) 2] != 0) = true := by rw [bne_iff_ne]; exact h
    have hE : csE p m l = firstOf [panE p m l.length, unlessE (!(decide (0 ≤ idxFrom (offB m) l 0))) 2] := if_neg h
    have hV : csV p m l = 0 := by unfold csV; rw [if_neg]; rw [hE]; exact h
    rw [hE, hV]
    clear h hE hV
    go_enter Try.func40, Try.ntmps40
    go_wp2_with (first
      | (go_at_call 98; go_must (refine (C1.out _ w.heap.size (Blk.new _ _ _) (HS.out.bel (by go_grown))).mono ?_; rintro e w' ⟨rfl, rfl⟩; simp only []))
      | (go_at_call 115; go_must (refine (panelErr_beam _ _ _ _).mono ?_; rintro e w1 ⟨rfl, hb1⟩; have b1 : Below w.heap.size w w1 := Below.step (by go_grown) hb1; obtain ⟨hc1, hf1, y10⟩ := bloc1 w hb1 (by first | omega | (simp; done) | (simp; omega)); simp only []))
      | (go_at_call 94; refine (unless_any _ _ _).mono ?_; rintro e w' ⟨rfl, rfl⟩; simp only [])
      | (go_at_call 93; refine (first2 _ _ _ _ (by simp)).mono ?_; rintro e w' ⟨rfl, rfl⟩; simp only []))
    go_ret2
    exact ⟨rfl, by go_grown⟩
end Go.Proofs.Ytamkannjdbodpaa
