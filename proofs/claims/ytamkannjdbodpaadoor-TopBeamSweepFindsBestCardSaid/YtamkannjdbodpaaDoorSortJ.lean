import Derived.Test.YtamkannjdbodpaaDoorSortLaw
import Derived.Test.YtamkannjdbodpaaDoorBookC
namespace Go.Proofs.YtamkannjdbodpaaDoor
open Go.RowKit Go.WideShapes Go.ChangeShapes

/-- a row of numbers in a block -/
def RowOf (w : World) (G : Nat) (L : List Nat) : Prop := ∃ cs : Array Value, Blk w G 3 cs ∧ ∀ k (hk : k < L.length), cs[k]? = some (.int .i64 (L[k] : Int))
theorem RowOf.at_ {w : World} {G : Nat} {L : List Nat} (h : RowOf w G L) {k : Nat} (hk : k < L.length) : w.cell? ⟨G, k, none⟩ = some (.int .i64 (L[k] : Int)) ∧ w.frozen? ⟨G, k, none⟩ = false := by
  obtain ⟨cs, h1, h2⟩ := h
  exact ⟨by rw [h1.cell k]; exact h2 k hk, h1.frozen k⟩
theorem RowOf.below {w w' : World} {G : Nat} {L : List Nat} (h : RowOf w G L) (hb : Below w.heap.size w w') : RowOf w' G L := by
  obtain ⟨cs, h1, h2⟩ := h
  exact ⟨cs, h1.below hb h1.lt, h2⟩
theorem RowOf.drewN {w : World} {G : Nat} {L : List Nat} (h : RowOf w G L) (n : Nat) : RowOf (w.drewN n) G L := by
  obtain ⟨cs, h1, h2⟩ := h
  exact ⟨cs, h1.drewN n, h2⟩
theorem RowOf.swap {w : World} {G : Nat} {A B : List Nat} {z k : Nat} (h : RowOf w G (A ++ z :: k :: B)) : RowOf ((w.setCell ⟨G, A.length + 1, none⟩ (.int .i64 (z : Int))).setCell ⟨G, A.length, none⟩ (.int .i64 (k : Int))) G (A ++ k :: z :: B) := by
  obtain ⟨cs, h1, h2⟩ := h
  have hsz : A.length + 1 < cs.size := by
    have := h2 (A.length + 1) (by simp)
    exact (Array.getElem?_eq_some_iff.1 this).1
  refine ⟨_, (h1.set_ (A.length + 1) _).set_ A.length _, fun t ht => ?_⟩
  by_cases q : t = A.length
  · subst q
    rw [Array.getElem?_setIfInBounds_self]
    simp; omega
  · rw [Array.getElem?_setIfInBounds_ne (by omega)]
    by_cases q2 : t = A.length + 1
    · subst q2
      rw [Array.getElem?_setIfInBounds_self]
      simp [hsz]
    · rw [Array.getElem?_setIfInBounds_ne (by omega)]
      have ht' : t < (A ++ z :: k :: B).length := by simpa using ht
      rw [h2 t ht']
      congr 3
      by_cases q3 : t < A.length
      · rw [List.getElem_append_left q3, List.getElem_append_left q3]
      · obtain ⟨s, rfl⟩ : ∃ s, t = A.length + 2 + s := ⟨t - A.length - 2, by omega⟩
        rw [List.getElem_append_right (by omega), List.getElem_append_right (by omega)]
        have e : A.length + 2 + s - A.length = s + 2 := by omega
        simp [e]

/-- what is still to come -/
def todo (i n : Nat) : List Nat := List.range' i (n - i)
theorem todo_cons {i n : Nat} (h : i < n) : todo i n = i :: todo (i + 1) n := by
  unfold todo
  obtain ⟨m, hm⟩ : ∃ m, n - i = m + 1 := ⟨n - i - 1, by omega⟩
  rw [hm, show n - (i + 1) = m by omega, List.range'_succ]
theorem todo_nil {i n : Nat} (h : n ≤ i) : todo i n = [] := by
  unfold todo
  rw [show n - i = 0 by omega]; rfl
end Go.Proofs.YtamkannjdbodpaaDoor

namespace Go.Proofs.YtamkannjdbodpaaDoor
open Go.RowKit Go.WideShapes Go.ChangeShapes

set_option maxRecDepth 100000 in
set_option maxHeartbeats 8000000 in
theorem insertion (gt : Nat → Nat → Bool) (W0 : Weak gt) (cf : Nat → Nat → Int) (hcf : ∀ i j, decide (cf i j < 0) = gt i j) (G n cap p1 p2 : Nat) (hn1 : 1 ≤ n) (hn : n ≤ 1000) (Inv : World → Prop)
    (hstep : ∀ W W', Inv W → Below W.heap.size W W' → Inv W') (hset : ∀ W p v, Inv W → p.block = G → Inv (W.setCell p v))
    (hcmp : ∀ W i j, Inv W → i < n → j < n → Calls Tryd.prog 63 #[.int .i64 (i : Int), .int .i64 (j : Int), .pointer (some ⟨p1, 0, none⟩), .pointer (some ⟨p2, 0, none⟩)] W fun e W' => e = .returned (.int .i64 (cf i j)) ∧ Below W.heap.size W W')
    (w : World) (hr : RowOf w G (todo 0 n)) (hi : Inv w) :
    Calls Tryd.prog 95 #[.slice (some ⟨G, 0, none⟩) n cap, .int .i64 0, .int .i64 (n : Int), .func (.func 63) #[] #[.pointer (some ⟨p1, 0, none⟩), .pointer (some ⟨p2, 0, none⟩)]] w fun e w' => e = .returned (.tuple #[]) ∧ Inv w' ∧ ∃ S, Sorted gt n S ∧ RowOf w' G S := by
  have hK := enters Tryd.func63 (by kernel_rfl) rfl
  have HSTEP := hide hstep; clear hstep
  have HSET := hide hset; clear hset
  have HCMP := hide hcmp; clear hcmp
  have HCF := hide hcf; clear hcf
  have HR := hide hr; clear hr
  have HI := hide hi; clear hi
  have HW := hide W0; clear W0
  go_enter Tryd.func95, Tryd.ntmps95
  go_wp2
  go_loopw [8] (fun i wr => ∃ (k : Nat) (S : List Nat), 1 ≤ k ∧ k ≤ n ∧ i = .int .i64 k ∧ Sorted gt k S ∧ RowOf wr G (S ++ todo k n) ∧ Inv wr) (fun i _ => n - (intOf i).toNat)
  case atStart => exact ⟨1, [0], Nat.le_refl _, hn1, rfl, Sorted.one gt, by have := HR.out; rw [todo_cons (by omega : 0 < n)] at this; exact this, HI.out⟩
  case round =>
    obtain ⟨k, S, hk1, hk, rfl, hS, hrow, hinv⟩ := hrel
    have HS := hide hS; clear hS
    have HROW := hide hrow; clear hrow
    have HINV := hide hinv; clear hinv
    by_cases hlt : k < n
    · have hlti : (k : Int) < (n : Int) := by omega
      go_wp2
      go_loopw [9] (fun j w2 => ∃ (A B : List Nat), j = .int .i64 (A.length : Int) ∧ Sorted gt k (A ++ B) ∧ (∀ b ∈ B, gt k b = true) ∧ RowOf w2 G (A ++ k :: (B ++ todo (k + 1) n)) ∧ Inv w2) (fun j _ => (intOf j).toNat)
      case atStart => exact ⟨S, [], by rw [HS.out.len], by rw [List.append_nil]; exact HS.out, by simp, by have := HROW.out; rwa [todo_cons hlt] at this, HINV.out⟩
      case round =>
        clear HROW HINV HS
        obtain ⟨A, B, rfl, hS, hB, hrow, hinv⟩ := hrel
        have HS := hide hS
        have HB := hide hB
        have HROW := hide hrow
        have HINV := hide hinv
        have hlen := hS.len
        rw [List.length_append] at hlen
        clear hB hinv
        rcases List.eq_nil_or_concat A with rfl | ⟨A', z, rfl⟩
        · have HPUT := hide (HS.out.put HW.out HB.out (fun h => absurd rfl h))
          clear hS hrow
          go_wp2
          go_quiet (fail)
          go_wp2
          go_roundw
          case rel => exact ⟨k + 1, k :: B, by omega, by omega, by go_num, HPUT.out, HROW.out.drewN _, HSTEP.out _ _ HINV.out (below_drewN (Below.refl _ _) _)⟩
          case measure => simp [intOf]; omega
        · have hz : z < k := (hS.mem z).1 (by simp)
          rw [List.concat_eq_append, List.append_assoc] at hrow
          have ea : A'.length < (A' ++ ([z] ++ k :: (B ++ todo (k + 1) n))).length := by simp
          have eb : A'.length + 1 < (A' ++ ([z] ++ k :: (B ++ todo (k + 1) n))).length := by simp
          obtain ⟨c1, f1⟩ := hrow.at_ ea
          obtain ⟨c2, f2⟩ := hrow.at_ eb
          rw [List.getElem_append_right (Nat.le_refl _)] at c1
          rw [List.getElem_append_right (by omega)] at c2
          simp at c1 c2
          have HR2 := hide (show RowOf wr G (A' ++ z :: k :: (B ++ todo (k + 1) n)) from hrow)
          have hpj : A'.concat z = A' ++ [z] := List.concat_eq_append
          rw [hpj] at HS HROW hlen
          rw [List.length_append, List.length_singleton] at hlen
          rw [hpj, List.length_append, List.length_singleton]
          have HCM := hide (fun W hv => HCMP.out W k z hv hlt (by omega))
          have hcf := HCF.out k z
          obtain ⟨v, hv⟩ : ∃ v, cf k z = v := ⟨_, rfl⟩
          rw [hv] at HCM hcf
          obtain ⟨a, ha⟩ : ∃ a, A'.length = a := ⟨_, rfl⟩
          have hal : a + 1 < n := by omega
          rw [ha] at c1 c2 f1 f2
          rw [ha]
          have HA := hide ha
          clear hS hrow hpj hv ha ea eb HROW
          have hcast : ((a + 1 : Nat) : Int) = (a : Int) + 1 := by omega
          rw [hcast]
          have hg1 : decide ((0 : Int) < (a : Int) + 1) = true := by rw [decide_eq_true_iff]; omega
          have hg2 : (0 : Int) ≤ (a : Int) := by omega
          have hg3 : (a : Int) < (n : Int) := by omega
          have hg4 : (a : Int) + 1 < (n : Int) := by omega
          have hg5 : a < n := by omega
          have hg6 : (0 : Int) ≤ (a : Int) + 1 := by omega
          have hw1 := IntWalk.i64_in ((a : Int) + 1 - 1) (by omega)
          have hw2 := IntWalk.i64_in (a : Int) (by omega)
          have HC1 := hide c1
          have HC2 := hide c2
          go_wp2
          go_region_held3 (fun w' => w'.cell? ⟨G, a, none⟩ = some (.int .i64 (z : Int)) ∧ w'.cell? ⟨G, a + 1, none⟩ = some (.int .i64 (k : Int))) (first | exact ⟨q1, q2⟩ | exact ⟨HC1.out, HC2.out⟩ | go_keep)
            (first
              | (go_at_call 63; go_must (refine (HCM.out _ (HSTEP.out _ _ HINV.out (below_drew (Below.refl _ _)))).mono ?_; rintro e w5 ⟨rfl, hb5⟩; have b5 : Below wr.heap.size wr w5 := Below.step (below_drew (Below.refl _ _)) hb5; clear hb5; have q1 := b5.keeps HC1.out; have q2 := b5.keeps HC2.out)))
          have hr5 := HR2.out.below b5
          have i5 := HSTEP.out _ _ HINV.out b5
          cases hgt : gt k z
          · rw [hgt] at hcf
            have HPUT := hide (HS.out.put HW.out HB.out (fun h => by rw [List.getLast_append_of_ne_nil (by simp) (by simp)]; simpa using hgt))
            have HR6 := hide (show RowOf w5 G ((A' ++ [z] ++ k :: B) ++ todo (k + 1) n) by simpa using hr5)
            have HI6 := hide i5
            clear hr5 i5 hgt
            go_wp2
            go_roundw
            case rel => exact ⟨k + 1, A' ++ [z] ++ k :: B, by omega, by omega, by go_num, HPUT.out, HR6.out, HI6.out⟩
            case measure => simp [intOf]; omega
          · rw [hgt] at hcf
            have HGT := hide hgt
            have ea5 : a < (A' ++ z :: k :: (B ++ todo (k + 1) n)).length := by rw [← HA.out]; simp
            have eb5 : a + 1 < (A' ++ z :: k :: (B ++ todo (k + 1) n)).length := by rw [← HA.out]; simp
            have f5 := (hr5.at_ ea5).2
            have f6 := (hr5.at_ eb5).2
            have HSW := hide (RowOf.swap hr5)
            rw [HA.out] at HSW
            have HI6 := hide i5
            clear hr5 i5 hgt ea5 eb5
            go_wp2
            go_region
            all_goals
              go_wp2
              go_roundw
              case rel => exact ⟨A', z :: B, by rw [HA.out], by have := HS.out; rw [List.append_assoc] at this; exact this, (fun b hb => by rcases List.mem_cons.1 hb with rfl | hb; exact HGT.out; exact HB.out b hb), (by first | exact HSW.out | exact HSW.out.drewN 1 | exact HSW.out.drewN _), (by first | exact HSET.out _ _ _ (HSET.out _ _ _ HI6.out rfl) rfl | exact HSTEP.out _ _ (HSET.out _ _ _ (HSET.out _ _ _ HI6.out rfl) rfl) (below_drew (Below.refl _ _)))⟩
              case measure => simp [intOf]
    · obtain rfl : k = n := by omega
      go_wp2
      go_end0
      exact ⟨rfl, HINV.out, S, HS.out, by have := HROW.out; rwa [todo_nil (Nat.le_refl _), List.append_nil] at this⟩

set_option maxRecDepth 100000 in
set_option maxHeartbeats 2000000 in
theorem stableCmp (gt : Nat → Nat → Bool) (W0 : Weak gt) (cf : Nat → Nat → Int) (hcf : ∀ i j, decide (cf i j < 0) = gt i j) (G n cap p1 p2 : Nat) (hn1 : 1 ≤ n) (hn : n ≤ 19) (Inv : World → Prop)
    (hstep : ∀ W W', Inv W → Below W.heap.size W W' → Inv W') (hset : ∀ W p v, Inv W → p.block = G → Inv (W.setCell p v))
    (hcmp : ∀ W i j, Inv W → i < n → j < n → Calls Tryd.prog 63 #[.int .i64 (i : Int), .int .i64 (j : Int), .pointer (some ⟨p1, 0, none⟩), .pointer (some ⟨p2, 0, none⟩)] W fun e W' => e = .returned (.int .i64 (cf i j)) ∧ Below W.heap.size W W')
    (w : World) (hr : RowOf w G (todo 0 n)) (hi : Inv w) :
    Calls Tryd.prog 83 #[.slice (some ⟨G, 0, none⟩) n cap, .int .i64 (n : Int), .func (.func 63) #[] #[.pointer (some ⟨p1, 0, none⟩), .pointer (some ⟨p2, 0, none⟩)]] w fun e w' => e = .returned (.tuple #[]) ∧ Inv w' ∧ ∃ S, Sorted gt n S ∧ RowOf w' G S := by
  have H := hide (insertion gt W0 cf hcf G n cap p1 p2 hn1 (by omega) Inv hstep hset hcmp w hr hi)
  clear hstep hset hcmp hr hi hcf W0
  have e1 : ¬ ((20 : Int) ≤ (n : Int)) := by omega
  have e2 : ¬ ((20 : Int) < (n : Int)) := by omega
  go_enter Tryd.func83, Tryd.ntmps83
  go_wp2
  go_loopw [7, 8] (fun a b wr => a = .int .i64 0 ∧ b = .int .i64 20 ∧ wr = w) (fun _ _ _ => 0)
  case atStart => exact ⟨rfl, rfl, rfl⟩
  case round =>
    obtain ⟨rfl, rfl, rfl⟩ := hrel
    go_wp2_with (go_at_call 95; go_must (refine H.out.mono ?_; rintro e w1 ⟨rfl, hi1, hs1⟩; have HI1 := hide hi1; have HS1 := hide hs1; clear hi1 hs1; simp only []))
    go_loopw [6] (fun a w2 => a = .int .i64 20 ∧ w2 = w1) (fun _ _ => 0)
    case atStart => exact ⟨rfl, rfl⟩
    case round =>
      obtain ⟨rfl, rfl⟩ := hrel
      go_wp2
      go_end0
      exact ⟨rfl, HI1.out, HS1.out⟩

set_option maxRecDepth 100000 in
theorem sortStable (gt : Nat → Nat → Bool) (W0 : Weak gt) (cf : Nat → Nat → Int) (hcf : ∀ i j, decide (cf i j < 0) = gt i j) (G n cap p1 p2 : Nat) (hn1 : 1 ≤ n) (hn : n ≤ 19) (Inv : World → Prop)
    (hstep : ∀ W W', Inv W → Below W.heap.size W W' → Inv W') (hset : ∀ W p v, Inv W → p.block = G → Inv (W.setCell p v))
    (hcmp : ∀ W i j, Inv W → i < n → j < n → Calls Tryd.prog 63 #[.int .i64 (i : Int), .int .i64 (j : Int), .pointer (some ⟨p1, 0, none⟩), .pointer (some ⟨p2, 0, none⟩)] W fun e W' => e = .returned (.int .i64 (cf i j)) ∧ Below W.heap.size W W')
    (w : World) (hr : RowOf w G (todo 0 n)) (hi : Inv w) :
    Calls Tryd.prog 62 #[.slice (some ⟨G, 0, none⟩) n cap, .func (.func 63) #[] #[.pointer (some ⟨p1, 0, none⟩), .pointer (some ⟨p2, 0, none⟩)]] w fun e w' => e = .returned (.tuple #[]) ∧ Inv w' ∧ ∃ S, Sorted gt n S ∧ RowOf w' G S := by
  have H := hide (stableCmp gt W0 cf hcf G n cap p1 p2 hn1 hn Inv hstep hset hcmp w hr hi)
  clear hstep hset hcmp hr hi hcf W0
  go_enter Tryd.func62, Tryd.ntmps62
  go_wp2_with (go_at_call 83; go_must (refine H.out.mono ?_; rintro e w1 ⟨rfl, hi1, hs1⟩; have HI1 := hide hi1; have HS1 := hide hs1; clear hi1 hs1; simp only []))
  go_end0
  exact ⟨rfl, HI1.out, HS1.out⟩
end Go.Proofs.YtamkannjdbodpaaDoor
