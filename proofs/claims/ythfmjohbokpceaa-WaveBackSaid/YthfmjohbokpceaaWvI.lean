import Derived.Test.YthfmjohbokpceaaWvH
import Derived.Test.YthfmjohbokpceaaWvApart
import Derived.Laws.Tables
namespace Go.Proofs.Ythfmjohbokpceaa
open Go.RowKit Go.WideShapes Go.ChangeShapes

/-! elements of arrays held by value; the values of a register (program) -/
theorem idx_one (t : TypeId) (n : Nat) (cs : Array Value) (i : Nat) (ht : Try.prog.underlying t = some (.array n 3)) (hi : i < n) (v : Value) (hv : cs[i]? = some v) (w : World) :
    (Instr.index t (.agg cs) (.int .i64 (i : Int))).run Try.prog w = .ok v w := by
  have h1 : 0 ≤ (i : Int) ∧ (i : Int) < (n : Int) := by omega
  have h2 : ¬ n ≤ i := by omega
  simp [Instr.index, run_underlying ht, asIntOf, h1, h2, part, go_sem, hv]

def bitsCells (b : List Int) : Array Value := (iv b ++ List.replicate (31 - b.length) (Value.int .i64 0)).toArray
theorem bits_size (b : List Int) (h : b.length ≤ 31) : (bitsCells b).size = 31 := by simp [bitsCells, iv]; omega
theorem bits_at (b : List Int) (i : Nat) (h : i < b.length) : (bitsCells b)[i]? = some (.int .i64 b[i]) := by
  unfold bitsCells
  rw [List.getElem?_toArray, List.getElem?_append_left (by simp [iv]; exact h)]
  simp [iv, h]
theorem bits_set (b : List Int) (x : Int) (h : b.length < 31) : (bitsCells b).setIfInBounds b.length (.int .i64 x) = bitsCells (b ++ [x]) := by
  unfold bitsCells
  rw [show 31 - b.length = (30 - b.length) + 1 by omega, show 31 - (b ++ [x]).length = 30 - b.length by simp, List.replicate_succ]
  simp only [List.setIfInBounds_toArray]
  congr 1
  have hl : b.length = (iv b).length := by simp [iv]
  rw [hl, List.set_append_right _ _ (Nat.le_refl _), Nat.sub_self, List.set_cons_zero, iv_append, List.append_assoc]
  rfl
theorem bits_one (b : List Int) : (bitsCells b).all (·.oneCell') = true := by
  simp [bitsCells, iv, Value.oneCell']

/-- the sum of a bit and of those that so many taps ask for -/
def tapSum (b : List Int) (k : Nat) : List Nat → Int → Int
  | [], s => s
  | t :: r, s => tapSum b k r (s + b[k + t]?.getD 0)
theorem tapSum_snoc (b : List Int) (k : Nat) : ∀ (l : List Nat) (t : Nat) (s : Int), tapSum b k (l ++ [t]) s = tapSum b k l s + b[k + t]?.getD 0
  | [], t, s => rfl
  | x :: r, t, s => by rw [List.cons_append, tapSum, tapSum_snoc b k r t]; rfl
/-- the first five bits, and k more -/
def regL (l : List Nat) : Nat → List Int
  | 0 => [1, 0, 0, 0, 0]
  | k + 1 => regL l k ++ [tapSum (regL l k) k l ((regL l k)[k]?.getD 0) % 2]
theorem regL_len (l : List Nat) : ∀ k, (regL l k).length = k + 5
  | 0 => rfl
  | k + 1 => by rw [regL, List.length_append, regL_len l k]; simp
theorem regL_bd (l : List Nat) : ∀ k, ∀ x ∈ regL l k, 0 ≤ x ∧ x ≤ 1
  | 0 => by simp [regL]
  | k + 1 => by
    intro x hx
    rw [regL, List.mem_append] at hx
    rcases hx with hx | hx
    · exact regL_bd l k x hx
    · simp at hx; omega
theorem regL_get (l : List Nat) (k i : Nat) : 0 ≤ (regL l k)[i]?.getD 0 ∧ (regL l k)[i]?.getD 0 ≤ 1 := by
  cases h : (regL l k)[i]? with
  | none => simp
  | some v => obtain ⟨hi, e⟩ := List.getElem?_eq_some_iff.1 h; subst e; exact regL_bd l k _ (List.getElem_mem hi)
theorem tap_bd (b : List Int) (k : Nat) (hb : ∀ i : Nat, 0 ≤ b[i]?.getD 0 ∧ b[i]?.getD 0 ≤ 1) : ∀ (l : List Nat) (s : Int), 0 ≤ s → 0 ≤ tapSum b k l s ∧ tapSum b k l s ≤ s + l.length
  | [], s, h => by simp [tapSum]; exact h
  | t :: r, s, h => by
    have h1 := hb (k + t)
    have h2 := tap_bd b k hb r (s + b[k + t]?.getD 0) (by omega)
    rw [tapSum, List.length_cons]
    push_cast
    omega
def zs (l : List Nat) : List Int := l.map Int.ofNat
theorem Sl.nat {w : World} {A : Option Addr} {l : List Nat} (h : Sl w A (iv (zs l))) {k : Nat} (hk : k < l.length) :
    ∃ b off, A = some ⟨b, off, none⟩ ∧ w.cell? ⟨b, off + k, none⟩ = some (.int .i64 ((l[k] : Nat) : Int)) := by
  obtain ⟨b, off, e, hc⟩ := h.int (xs := zs l) (k := k) (by simp [zs, hk])
  exact ⟨b, off, e, by simpa [zs] using hc⟩

theorem Blk.row {w : World} {g : Nat} {t : TypeId} {cs : Array Value} (h : Blk w g t cs) (cs' : Array Value) : Blk (w.setRow g cs') g t cs' := setRow_heap w g cs cs' t (0, 0) h
theorem Blk.rowFar {w : World} {g k : Nat} {t : TypeId} {cs : Array Value} (h : Blk w g t cs) (hk : g ≠ k) (cs' : Array Value) : Blk (w.setRow k cs') g t cs := (setRow_other w k g cs' hk).trans h
theorem Below.row {B g : Nat} {w w' : World} (hb : Below B w w') (hg : B ≤ g) (cs : Array Value) : Below B w (w'.setRow g cs) :=
  ⟨hb.os, hb.tape, hb.output, by simpa using hb.size, fun k hk => (setRow_other w' g k cs (by omega)).trans (hb.block k hk)⟩
theorem bits_0 : bitsCells [] = #[.int .i64 0, .int .i64 0, .int .i64 0, .int .i64 0, .int .i64 0, .int .i64 0, .int .i64 0, .int .i64 0, .int .i64 0, .int .i64 0, .int .i64 0, .int .i64 0, .int .i64 0, .int .i64 0, .int .i64 0, .int .i64 0, .int .i64 0, .int .i64 0, .int .i64 0, .int .i64 0, .int .i64 0, .int .i64 0, .int .i64 0, .int .i64 0, .int .i64 0, .int .i64 0, .int .i64 0, .int .i64 0, .int .i64 0, .int .i64 0, .int .i64 0] := rfl
theorem bits_5 : bitsCells [1, 0, 0, 0, 0] = #[.int .i64 1, .int .i64 0, .int .i64 0, .int .i64 0, .int .i64 0, .int .i64 0, .int .i64 0, .int .i64 0, .int .i64 0, .int .i64 0, .int .i64 0, .int .i64 0, .int .i64 0, .int .i64 0, .int .i64 0, .int .i64 0, .int .i64 0, .int .i64 0, .int .i64 0, .int .i64 0, .int .i64 0, .int .i64 0, .int .i64 0, .int .i64 0, .int .i64 0, .int .i64 0, .int .i64 0, .int .i64 0, .int .i64 0, .int .i64 0, .int .i64 0] := rfl
set_option maxRecDepth 100000 in
set_option maxHeartbeats 4000000 in
theorem values_wave (A : Option Addr) (c m : Nat) (l : List Nat) (w : World) (hm : l.length = m) (hs : Sl w A (iv (zs l))) (hl : m ≤ 100) (ht : ∀ t ∈ l, t ≤ 4) :
    Calls Try.prog 184 #[.slice A m c] w fun e w' => e = .returned (.agg (iv ((regL l 26).map fun x => 1 - 2 * x)).toArray) ∧ Below w.heap.size w w' := by
  have HLEN := hide (regL_len l)
  have HGET := hide (regL_get l)
  have HSTEP := hide (show ∀ k, regL l (k + 1) = regL l k ++ [tapSum (regL l k) k l ((regL l k)[k]?.getD 0) % 2] from fun k => rfl)
  have HM := hide hm
  have HS := hide (fun k (hk : k < l.length) => hs.nat hk)
  have HT := hide (show ∀ k (hk : k < l.length), l[k] ≤ 4 from fun k hk => ht _ (List.getElem_mem hk))
  clear hm hs ht
  go_enter Try.func184, Try.ntmps184
  go_wp2_with (refine wpList_store_row rfl 213 (.tmp 3) (.tmp 11) rfl (w.heap.size + 1) (bitsCells [1, 0, 0, 0, 0]) rfl rfl 213 (bitsCells []) (by rw [bits_0]; exact Blk.newN _ _ _ (by simp)) (by kernel_rfl) rfl (bits_one _) ?_)
  go_loopw [4] (fun i wr => ∃ k : Nat, k ≤ 26 ∧ i = .int .i64 ((k : Int) + 5) ∧ Blk wr w.heap.size 213 (bitsCells []) ∧ Blk wr (w.heap.size + 1) 213 (bitsCells (regL l k)) ∧ Below w.heap.size w wr) (fun i _ => 31 - (intOf i).toNat)
  case atStart => exact ⟨0, by omega, rfl, ((Blk.new w 213 (bitsCells [])).alloc _).rowFar (by omega) _, (Blk.newN (w.alloc (.cells (bitsCells []) 213)) 213 (bitsCells []) (by simp)).row _, Below.row (by go_grown) (by omega) _⟩
  case round =>
    obtain ⟨k, hk, rfl, hR, hB, hbel⟩ := hrel
    have hbz := hB.lt
    by_cases hlt : k < 26
    · have hd : decide ((k : Int) + 5 < 31) = true := by rw [decide_eq_true_iff]; omega
      have hlen := HLEN.out k
      have hc0 := hB.cell k
      rw [bits_at _ _ (by omega : k < (regL l k).length)] at hc0
      have hg0 := HGET.out k k
      rw [List.getElem?_eq_getElem (by omega : k < (regL l k).length), Option.getD_some] at hg0
      have hst := HSTEP.out k
      have hset := bits_set (regL l k) (tapSum (regL l k) k l ((regL l k)[k]?.getD 0) % 2) (by omega)
      rw [hlen, ← hst] at hset
      rw [List.getElem?_eq_getElem (by omega : k < (regL l k).length), Option.getD_some] at hset
      have hbd := fun l' => tap_bd (regL l k) k (HGET.out k) l' ((regL l k)[k]'(by omega)) hg0.1
      have HCELL := hide (show ∀ t, t ≤ 4 → wr.cell? ⟨w.heap.size + 1, k + t, none⟩ = some (.int .i64 ((regL l k)[k + t]?.getD 0)) ∧ 0 ≤ (regL l k)[k + t]?.getD 0 ∧ (regL l k)[k + t]?.getD 0 ≤ 1 from fun t ht => by
        refine ⟨?_, HGET.out k _⟩
        rw [hB.cell, bits_at _ _ (by omega : k + t < (regL l k).length), List.getElem?_eq_getElem (by omega : k + t < (regL l k).length)]; rfl)
      obtain ⟨b0, hb0⟩ : ∃ b0, (regL l k)[k]'(by omega) = b0 := ⟨_, rfl⟩
      rw [hb0] at hc0 hg0 hset hbd
      have hw5 : ((k : Int) + 5).toNat = k + 5 := by omega
      have HSET := hide hset
      have HBD := hide hbd
      have hf := hB.frozen (k + 5)
      have hcs := hB.cell (k + 5)
      have hHB := hide hB
      obtain ⟨v5, hv5⟩ : ∃ v, (bitsCells (regL l k))[k + 5]? = some v := ⟨_, Array.getElem?_eq_getElem (by rw [bits_size _ (by omega)]; omega)⟩
      rw [hv5] at hcs
      clear hset hst hbd hb0 hv5 hlen hB HSTEP
      go_wp2
      go_loop [5, 22] (fun s i => ∃ j : Nat, j ≤ m ∧ i = .int .i64 j ∧ s = .int .i64 (tapSum (regL l k) k (l.take j) b0)) (fun _ i => m - (intOf i).toNat)
      case atStart => exact ⟨0, Nat.zero_le _, rfl, rfl⟩
      case round =>
        obtain ⟨j, hj, rfl, rfl⟩ := hrel
        by_cases hlt2 : j < m
        · have hjl : j < l.length := by rw [HM.out]; exact hlt2
          obtain ⟨b, off, rfl, d⟩ := HS.out j hjl
          have d1 := (hbel.cell (p := ⟨b, off + j, none⟩) (lt_of_cell d)).trans d
          have ht := HT.out j hjl
          obtain ⟨hc1, hg1, hg2⟩ := HCELL.out l[j] ht
          have hb1 := HBD.out (l.take j)
          have hb2 := List.length_take_le j l
          have HSN := hide (show tapSum (regL l k) k (l.take (j + 1)) b0 = tapSum (regL l k) k (l.take j) b0 + (regL l k)[k + l[j]]?.getD 0 by rw [List.take_succ_eq_append_getElem hjl, tapSum_snoc])
          obtain ⟨t, ht'⟩ : ∃ t, l[j] = t := ⟨_, rfl⟩
          rw [ht'] at d1 ht hc1 hg1 hg2 HSN
          obtain ⟨x, hx⟩ : ∃ x, (regL l k)[k + t]?.getD 0 = x := ⟨_, rfl⟩
          rw [hx] at hc1 hg1 hg2 HSN
          obtain ⟨s, hs⟩ : ∃ s, tapSum (regL l k) k (l.take j) b0 = s := ⟨_, rfl⟩
          rw [hs] at hb1 HSN
          rw [hs]
          have hkt : ((k : Int) + (t : Int)).toNat = k + t := by omega
          obtain ⟨hb3, hb4⟩ := hb1
          clear d ht' hx hs
          go_wp2
          go_round
          case rel => exact ⟨j + 1, by omega, by go_num, by rw [HSN.out]⟩
          case measure => simp [intOf]; omega
        · have hjm : tapSum (regL l k) k (l.take j) b0 = tapSum (regL l k) k l b0 := by rw [List.take_of_length_le (by have := HM.out; omega)]
          obtain ⟨hb1, hb2⟩ := HBD.out l
          have hml := HM.out
          rw [hml] at hb2
          clear hml
          rw [hjm]
          clear hjm
          obtain ⟨s, hs⟩ : ∃ s, tapSum (regL l k) k l b0 = s := ⟨_, rfl⟩
          rw [hs] at hb1 hb2 HSET
          rw [hs]
          clear hs
          go_wp2
          go_roundw
          case rel => exact ⟨k + 1, by omega, by go_num, hR.far (by simp) _, by have := hHB.out.set_ (k + 5) (.int .i64 (s % 2)); rw [HSET.out] at this; exact this, by go_grown⟩
          case measure => simp [intOf]; omega
    · have hd : decide ((k : Int) + 5 < 31) = false := by rw [decide_eq_false_iff_not]; omega
      have hk26 : k = 26 := by omega
      rw [hk26] at hB
      have HSET := hide (show ∀ j, j < 31 → (bitsCells (((regL l 26).map fun x => 1 - 2 * x).take j)).setIfInBounds j (.int .i64 (1 - 2 * (regL l 26)[j]?.getD 0)) = bitsCells (((regL l 26).map fun x => 1 - 2 * x).take (j + 1)) from fun j hj => by
        have hlen := HLEN.out 26
        have h1 : j < ((regL l 26).map fun x => 1 - 2 * x).length := by simp; omega
        have := bits_set (((regL l 26).map fun x => 1 - 2 * x).take j) (1 - 2 * (regL l 26)[j]?.getD 0) (by simp; omega)
        rw [show (((regL l 26).map fun x => 1 - 2 * x).take j).length = j by simp; omega] at this
        rw [this, List.take_succ_eq_append_getElem h1]
        simp [List.getElem?_eq_getElem (by omega : j < (regL l 26).length)])
      have HIX := hide (show ∀ j : Nat, j < 31 → ∀ W, (Instr.index 213 (.agg (bitsCells (regL l 26))) (.int .i64 (j : Int))).run Try.prog W = .ok (.int .i64 ((regL l 26)[j]?.getD 0)) W from fun j hj W => by
        have hlen := HLEN.out 26
        exact idx_one 213 31 _ j Try.underlying213 hj _ (by rw [bits_at _ _ (by omega : j < (regL l 26).length), List.getElem?_eq_getElem (by omega)]; rfl) W)
      have HFIN := hide (show bitsCells (((regL l 26).map fun x => 1 - 2 * x).take 31) = (iv ((regL l 26).map fun x => 1 - 2 * x)).toArray by
        have hlen := HLEN.out 26
        unfold bitsCells
        rw [List.take_of_length_le (by simp; omega), show 31 - ((regL l 26).map fun x => 1 - 2 * x).length = 0 by simp; omega]
        simp)
      have HG2 := hide (HGET.out 26)
      have HB := hide hB
      obtain ⟨b, hb⟩ : ∃ b, regL l 26 = b := ⟨_, rfl⟩
      rw [hb] at HSET HIX HFIN HG2 HB
      have HBE := hide hb
      have HR := hide hR
      clear hB hk26 hb HSTEP HS HT hR
      go_wp2_with (refine wpList_load_row rfl 213 (.tmp 3) rfl (w.heap.size + 1) rfl 213 (bitsCells b) (0, 0) _ (by exact HB.out.alloc _) Try.underlying213 rfl (by rw [bits_size b (by rw [← HBE.out, HLEN.out]; decide)]; kernel_rfl) ?_)
      obtain ⟨ws, rfl⟩ : ∃ ws : World, ws = wr := ⟨_, rfl⟩
      go_loopw [40] (fun i w3 => ∃ j : Nat, j ≤ 31 ∧ i = .int .i64 j ∧ Blk w3 w.heap.size 213 (bitsCells []) ∧ Blk w3 ws.heap.size 213 (bitsCells ((b.map fun x => 1 - 2 * x).take j)) ∧ Below w.heap.size w w3) (fun i _ => 31 - (intOf i).toNat)
      case atStart => exact ⟨0, by omega, rfl, HR.out.alloc _, Blk.new ws 213 (bitsCells []), by go_grown⟩
      case round =>
        obtain ⟨j, hj, rfl, hR3, hV, hbel3⟩ := hrel
        by_cases hlt3 : j < 31
        · have hd3 : decide ((j : Int) < 31) = true := by rw [decide_eq_true_iff]; omega
          have hix := HIX.out j hlt3
          have hset := HSET.out j hlt3
          obtain ⟨hg1, hg2⟩ := HG2.out j
          obtain ⟨x, hx⟩ : ∃ x, b[j]?.getD 0 = x := ⟨_, rfl⟩
          rw [hx] at hix hset hg1 hg2
          have hf := hV.frozen j
          have hcs := hV.cell j
          have hsz : ((b.map fun x => 1 - 2 * x).take j).length ≤ 31 := by rw [List.length_take]; omega
          obtain ⟨v5, hv5⟩ : ∃ v, (bitsCells ((b.map fun x => 1 - 2 * x).take j))[j]? = some v := ⟨_, Array.getElem?_eq_getElem (by rw [bits_size _ hsz]; omega)⟩
          rw [hv5] at hcs
          have HV := hide hV
          have HSE := hide hset
          have HR3 := hide hR3
          have hlv := hV.lt
          clear hx hv5 hset hV hsz hR3 hd
          go_wp2
          go_roundw
          case rel => exact ⟨j + 1, by omega, by go_num, HR3.out.far (by simp; omega) _, by have := HV.out.set_ j (.int .i64 (1 - 2 * x)); rw [HSE.out] at this; exact this, by go_grown⟩
          case measure => simp [intOf]; omega
        · have hd3 : decide ((j : Int) < 31) = false := by rw [decide_eq_false_iff_not]; omega
          have hj31 : j = 31 := by omega
          rw [hj31, HFIN.out] at hV
          have HV := hide hV
          have HR3 := hide hR3
          have HZ := hide (show (iv (b.map fun x => 1 - 2 * x)).toArray.size = 31 by rw [← HBE.out]; simp [iv, HLEN.out])
          obtain ⟨cs, hcs⟩ : ∃ cs, (iv (b.map fun x => 1 - 2 * x)).toArray = cs := ⟨_, rfl⟩
          have HONE := hide (show cs.all (·.oneCell') = true by rw [← hcs]; simp [iv, Value.oneCell'])
          rw [hcs] at HV HZ
          have HCS := hide hcs
          clear hcs hj31 hV hR3 HIX HSET HFIN HG2 hd
          go_wp2_with (first
            | refine wpList_load_row rfl 213 (.tmp 8) rfl ws.heap.size rfl 213 cs (0, 0) _ HV.out Try.underlying213 rfl (by rw [HZ.out]; kernel_rfl) ?_
            | refine wpList_store_row rfl 213 (.tmp 2) (.tmp 50) rfl w.heap.size cs rfl rfl 213 (bitsCells []) HR3.out (by rw [HZ.out]; kernel_rfl) (by rw [HZ.out]; rfl) HONE.out ?_)
          exact bodyPost_ret (results_cell_row rfl _ _ w.heap.size 213 cs (0, 0) _ rfl (HR3.out.row cs) Try.underlying213 rfl (by rw [HZ.out]; kernel_rfl)) rfl ⟨by rw [← HCS.out, HBE.out], Below.row hbel3 (Nat.le_refl _) _⟩
end Go.Proofs.Ythfmjohbokpceaa
