import Derived.Test.YthfmjohbokpceaaWvN
import Derived.Test.YthfmjohbokpceaaBase
namespace Go.Proofs.Ythfmjohbokpceaa
open Go.RowKit Go.WideShapes Go.ChangeShapes

/-! shifts and correlations: the program -/
set_option maxRecDepth 100000 in
set_option maxHeartbeats 1000000 in
theorem each_int (K : FuncId) (f : Int → Int) (A : Option Addr) (c : Nat) (l : List Int) (w : World)
    (hK : ∀ args W, (callFunc K args).run Try.prog W = .ok (.enter K args) W)
    (hp : ∀ (z : Int) W, Calls Try.prog K #[.int .i64 z] W fun e w' => e = .returned (.int .i64 (f z)) ∧ W = w')
    (hs : Sl w A (iv l)) (hl : l.length ≤ 1000000) :
    Calls Try.prog 169 #[.slice A l.length c, .func (.func K) #[] #[]] w fun x w' => x = .returned (.int .i64 (eachE f l)) ∧ Below w.heap.size w w' := by
  have HP := Lib.hid hp
  clear hp
  have HS := Lib.hid hs
  clear hs
  go_enter Try.func169, Try.ntmps169
  go_wp2
  go_loopw [10] (fun i wr => ∃ k : Nat, k ≤ l.length ∧ i = .int .i64 k ∧ eachE f l = eachE f (l.drop k) ∧ Below w.heap.size w wr) (fun i _ => l.length - (intOf i).toNat)
  case atStart => exact ⟨0, Nat.zero_le _, rfl, by simp, Below.refl _ _⟩
  case round =>
    obtain ⟨k, hk, rfl, he, hbel⟩ := hrel
    have HE := Lib.hid he
    clear he
    by_cases hlt : k < l.length
    · obtain ⟨b, off, rfl, c0⟩ := HS.out.int hlt
      have d0 := (hbel.cell (p := ⟨b, off + k, none⟩) (lt_of_cell c0)).trans c0
      clear c0
      have hbz := hbel.size
      by_cases h0 : f l[k] = 0
      · have hh := eachE_skip f l k hlt h0
        have HH := Lib.hid hh; clear hh
        have H0 := Lib.hid h0; clear h0
        go_wp2_with fail
        refine (HP.out _ _).mono ?_
        rintro e w1 ⟨rfl, rfl⟩
        rw [H0.out]
        simp only []
        go_wp2
        go_roundw
        case rel => exact ⟨k + 1, by omega, by go_num, by rw [HE.out, HH.out], by go_grown⟩
        case measure => simp [intOf]; omega
      · have hh := eachE_hit f l k hlt h0
        have HH := Lib.hid hh; clear hh
        have hx : (f l[k] != 0) = true := by rw [bne_iff_ne]; exact h0
        clear h0
        go_wp2_with fail
        refine (HP.out _ _).mono ?_
        rintro e w1 ⟨rfl, rfl⟩
        simp only []
        go_wp2
        go_ret
        exact ⟨by rw [HE.out, HH.out]; rfl, by go_grown⟩
    · go_wp2
      go_ret
      exact ⟨by rw [HE.out, List.drop_eq_nil_of_le (by omega)]; rfl, hbel⟩
/-- the error of one received value, and of values -/
def vE (n : Int) : Int := unlessE (withinB n (-100000) 100000) 2
def rcvE (l : List Int) : Int := if 120 < l.length then 8 else eachE vE l
theorem received1_wave (n : Int) (w : World) : Calls Try.prog 170 #[.int .i64 n] w fun e w' => e = .returned (.int .i64 (vE n)) ∧ w = w' := by
  go_enter Try.func170, Try.ntmps170
  go_wp2_with (first
    | (go_at_call 171; refine (small_wave _ _ (by omega) (by omega) _).mono ?_; rintro e w' ⟨rfl, rfl⟩; simp only [])
    | (go_at_call 115; refine (unless_any _ _ _).mono ?_; rintro e w' ⟨rfl, rfl⟩))
  go_ret
  exact ⟨rfl, rfl⟩
theorem receivedErr_wave (A : Option Addr) (c : Nat) (l : List Int) (w : World) (hs : Sl w A (iv l)) (hl : l.length ≤ 1000000) :
    Calls Try.prog 114 #[.slice A l.length c] w fun e w' => e = .returned (.int .i64 (rcvE l)) ∧ Below w.heap.size w w' := by
  have hK := hide (enters Try.func170 (by kernel_rfl) rfl)
  have HS := hide hs; clear hs
  unfold rcvE
  by_cases h : 120 < l.length
  · rw [if_pos h]
    go_enter Try.func114, Try.ntmps114
    go_wp2
    go_ret
    exact ⟨rfl, by go_grown⟩
  · rw [if_neg h]
    have h' : l.length ≤ 120 := by omega
    go_enter Try.func114, Try.ntmps114
    go_wp2_with (go_at_call 169; go_must (refine (each_int 170 vE A c l _ hK.out (fun z W => received1_wave z W) HS.out hl).mono ?_; rintro e w1 ⟨rfl, hb1⟩; simp only []))
    go_ret
    exact ⟨rfl, hb1⟩
theorem vE_ok {n : Int} (h : vE n = 0) : -100000 ≤ n ∧ n ≤ 100000 := by
  unfold vE unlessE at h
  cases hf : withinB n (-100000) 100000
  · rw [hf] at h; exact absurd h (by decide)
  · unfold withinB at hf; simpa using hf

/-- the inner product of the first so many values -/
def innS (l m : List Int) : Nat → Int
  | 0 => 0
  | k + 1 => innS l m k + (l[k]?.getD 0) * (m[k]?.getD 0)
theorem innS_bd {l m : List Int} {B : Int} (hB : 0 ≤ B) (hl : ∀ x ∈ l, -1 ≤ x ∧ x ≤ 1) (hm : ∀ x ∈ m, -B ≤ x ∧ x ≤ B) : ∀ k : Nat, -((k : Int) * B) ≤ innS l m k ∧ innS l m k ≤ (k : Int) * B
  | 0 => by simp [innS]
  | k + 1 => by
    have h := innS_bd hB hl hm k
    have h1 : -1 ≤ l[k]?.getD 0 ∧ l[k]?.getD 0 ≤ 1 := by
      cases hk : l[k]? with
      | none => simp
      | some z => obtain ⟨hi, e⟩ := List.getElem?_eq_some_iff.1 hk; simpa using hl z (by rw [← e]; exact List.getElem_mem hi)
    have h2 : -B ≤ m[k]?.getD 0 ∧ m[k]?.getD 0 ≤ B := by
      cases hk : m[k]? with
      | none => simp; omega
      | some z => obtain ⟨hi, e⟩ := List.getElem?_eq_some_iff.1 hk; simpa using hm z (by rw [← e]; exact List.getElem_mem hi)
    have h3 := mul_le_size h1.1 h1.2 h2.1 h2.2
    unfold innS
    have e : ((k + 1 : Nat) : Int) * B = (k : Int) * B + B := by push_cast; rw [Int.add_mul, Int.one_mul]
    rw [e]
    generalize l[k]?.getD 0 * m[k]?.getD 0 = P at *
    generalize (k : Int) * B = Q at *
    omega
set_option maxRecDepth 100000 in
set_option maxHeartbeats 1000000 in
theorem inner_wave (A B : Option Addr) (n m ca cb : Nat) (xs ys : List Int) (w : World) (hx : xs.length = n) (hy : ys.length = m) (hnm : n ≤ m) (hn : n ≤ 1000) (h1 : Sl w A (iv xs)) (h2 : Sl w B (iv ys))
    (k1 : ∀ x ∈ xs, -1 ≤ x ∧ x ≤ 1) (k2 : ∀ x ∈ ys, -100000 ≤ x ∧ x ≤ 100000) :
    Calls Try.prog 133 #[.slice A n ca, .slice B m cb] w fun e w' => e = .returned (.int .i64 (innS xs ys n)) ∧ w = w' := by
  subst hx hy
  have HI := hide (innS_bd (by omega) k1 k2)
  have H1 := hide h1
  have H2 := hide h2
  have K1 := hide (fun k (hk : k < xs.length) => k1 _ (List.getElem_mem hk))
  have K2 := hide (fun k (hk : k < ys.length) => k2 _ (List.getElem_mem hk))
  have HST := hide (fun k (hk : k < xs.length) (hk' : k < ys.length) => show innS xs ys (k + 1) = innS xs ys k + xs[k] * ys[k] by show innS xs ys k + (xs[k]?.getD 0) * (ys[k]?.getD 0) = _; rw [List.getElem?_eq_getElem hk, List.getElem?_eq_getElem hk']; rfl)
  clear h1 h2 k1 k2
  go_enter Try.func133, Try.ntmps133
  go_wp2
  go_loop [5, 10] (fun s i => ∃ k : Nat, k ≤ xs.length ∧ i = .int .i64 k ∧ s = .int .i64 (innS xs ys k)) (fun _ i => xs.length - (intOf i).toNat)
  case atStart => exact ⟨0, Nat.zero_le _, rfl, rfl⟩
  case round =>
    obtain ⟨k, hk, rfl, rfl⟩ := hrel
    by_cases hlt : k < xs.length
    · have hlt' : k < ys.length := by omega
      obtain ⟨b, off, rfl, c0⟩ := H1.out.int hlt
      obtain ⟨b', off', rfl, c1⟩ := H2.out.int hlt'
      have hst := HST.out k hlt hlt'
      have hb := HI.out k
      have hb1 := HI.out (k + 1)
      rw [hst] at hb1
      have q := mul_le_size (K1.out k hlt).1 (K1.out k hlt).2 (K2.out k hlt').1 (K2.out k hlt').2
      obtain ⟨q1, q2⟩ := q
      obtain ⟨b1, b2⟩ := hb
      have HSTP := hide hst
      obtain ⟨s, hs⟩ : ∃ s, innS xs ys k = s := ⟨_, rfl⟩
      have HS := hide hs
      rw [hs] at b1 b2
      have b1' : -100000000 ≤ s := by omega
      have b2' : s ≤ 100000000 := by omega
      have q1' : -100000 ≤ xs[k] * ys[k] := by omega
      have q2' : xs[k] * ys[k] ≤ 100000 := by omega
      rw [hs]
      clear hst hb1 hs b1 b2 q1 q2
      go_wp2
      go_round
      case rel => exact ⟨k + 1, by omega, by go_num, by rw [HSTP.out, HS.out]⟩
      case measure => simp [intOf]; omega
    · have he : k = xs.length := by omega
      go_wp2
      go_ret
      exact ⟨rfl, rfl⟩
/-- the shifts of an identity -/
def shC (n : Int) : Array Value := #[.int .i64 (10 * (n % 3)), .int .i64 (n / 3 % 31), .int .i64 (n / 3 / 31)]
theorem idE_ok (n : Nat) (hn : n < 1008) : unlessE (withinB (n : Int) 0 1007) 2 = 0 := by
  unfold unlessE withinB; rw [decide_eq_true (by omega : (0 : Int) ≤ n), decide_eq_true (by omega : (n : Int) ≤ 1007)]; rfl
theorem Shifts_ok (n : Nat) (hn : n < 1008) (w : World) : Calls Try.prog 40 #[.int .i64 (n : Int)] w fun e w' => e = .returned (.tuple #[.agg (shC n), .int .i64 0]) ∧ Below w.heap.size w w' := by
  have h0 := hide (idE_ok n hn)
  go_enter Try.func40, Try.ntmps40
  go_wp2_with (go_at_call 105; refine (identityErr_wave _ _).mono ?_; rintro e w' ⟨rfl, rfl⟩; rw [h0.out]; simp only [])
  refine bodyPost_ret (v := .tuple #[.agg (shC n), .int .i64 0]) (by simp [results, Try.results40, go_sem, shC]) rfl ⟨rfl, by go_grown⟩
theorem Shifts_err (n : Int) (h : unlessE (withinB n 0 1007) 2 = 2) (w : World) : Calls Try.prog 40 #[.int .i64 n] w fun e w' => e = .returned (.tuple #[.agg #[.int .i64 0, .int .i64 0, .int .i64 0], .int .i64 2]) ∧ Below w.heap.size w w' := by
  have h0 := hide h
  clear h
  go_enter Try.func40, Try.ntmps40
  go_wp2_with (go_at_call 105; refine (identityErr_wave _ _).mono ?_; rintro e w' ⟨rfl, rfl⟩; rw [h0.out]; simp only [])
  refine bodyPost_ret (v := .tuple #[.agg #[.int .i64 0, .int .i64 0, .int .i64 0], .int .i64 2]) (by simp [results, Try.results40, go_sem]) rfl ⟨rfl, by go_grown⟩
/-- the error of a correlation's arguments -/
def corE (n : Int) (x : List Int) : Int := firstOf [unlessE (withinB n 0 1007) 2, unlessE ((x.length : Int) == 62) 10, rcvE x]
theorem seqL_bd (n : Nat) : ∀ x ∈ seqL n, -1 ≤ x ∧ x ≤ 1 := by
  intro x hx
  have hv : ∀ b, -1 ≤ vb b ∧ vb b ≤ 1 := fun b => by cases b <;> decide
  simp only [seqL, secL, grpL, List.mem_append, List.mem_map] at hx
  rcases hx with ⟨i, _, rfl⟩ | ⟨i, _, rfl⟩ <;> exact hv _
theorem rcvE_ok {l : List Int} (h : rcvE l = 0) : l.length ≤ 120 ∧ ∀ x ∈ l, -100000 ≤ x ∧ x ≤ 100000 := by
  unfold rcvE at h
  by_cases hl : 120 < l.length
  · rw [if_pos hl] at h; omega
  · rw [if_neg hl] at h
    exact ⟨by omega, fun x hx => vE_ok (eachE_ok h x hx)⟩
set_option maxRecDepth 100000 in
set_option maxHeartbeats 1000000 in
theorem CorrelationOf_err (n : Int) (A : Option Addr) (c : Nat) (x : List Int) (w : World) (hs : Sl w A (iv x)) (hl : x.length ≤ 1000000) (h : corE n x ≠ 0) :
    Calls Try.prog 41 #[.int .i64 n, .slice A x.length c] w fun e w' => e = .returned (.tuple #[.int .i64 0, .int .i64 (corE n x)]) ∧ Below w.heap.size w w' := by
  have HE := hide (show corE n x = firstOf [unlessE (withinB n 0 1007) 2, unlessE ((x.length : Int) == 62) 10, rcvE x] from rfl)
  obtain ⟨b, hb⟩ : ∃ b, ((x.length : Int) == 62) = b := ⟨_, rfl⟩
  rw [hb] at HE
  have hq : (firstOf [unlessE (withinB n 0 1007) 2, unlessE b 10, rcvE x] != 0) = true := by rw [← HE.out, bne_iff_ne]; exact h
  have HS := hide hs
  clear hs h
  go_enter Try.func41, Try.ntmps41
  go_wp2_with (first
    | (go_at_call 105; refine (identityErr_wave _ _).mono ?_; rintro e w' ⟨rfl, rfl⟩; simp only [])
    | (go_at_call 115; refine (unless_any _ _ _).mono ?_; rintro e w' ⟨rfl, rfl⟩; simp only [])
    | (go_at_call 114; go_must (refine (receivedErr_wave A c x _ HS.out hl).mono ?_; rintro e w1 ⟨rfl, hb1⟩; have z1 := hb1.size; simp only []))
    | (go_at_call 107; go_must (refine (first3 _ _ _ _ _ (by simp)).mono ?_; rintro e w' ⟨rfl, rfl⟩; simp only [])))
  go_ret2
  exact ⟨by rw [HE.out]; rfl, by go_grown⟩
set_option maxRecDepth 100000 in
set_option maxHeartbeats 1000000 in
theorem CorrelationOf_ok (n : Nat) (hn : n < 1008) (A : Option Addr) (c m : Nat) (x : List Int) (w : World) (hm : x.length = m) (hs : Sl w A (iv x)) (h62 : m = 62) (hr : rcvE x = 0) :
    Calls Try.prog 41 #[.int .i64 (n : Int), .slice A m c] w fun e w' => e = .returned (.tuple #[.int .i64 (innS (seqL n) x 62), .int .i64 0]) ∧ Below w.heap.size w w' := by
  subst h62
  have h0 := hide (idE_ok n hn)
  have HR := hide (fun W (h : Sl W A (iv x)) => by have := receivedErr_wave A c x W h (by omega); rw [hr, hm] at this; exact this)
  have HQ := hide (fun W => sequenceOf_wave n hn W)
  have HI := hide (fun C k W (h1 : Sl W C (iv (seqL n))) (h2 : Sl W A (iv x)) => inner_wave C A 62 62 k c (seqL n) x W (seqL_len n) hm (by omega) (by omega) h1 h2 (seqL_bd n) (rcvE_ok hr).2)
  have HS := hide hs
  clear hs hr hm hn
  go_enter Try.func41, Try.ntmps41
  go_wp2_with (first
    | (go_at_call 105; refine (identityErr_wave _ _).mono ?_; rintro e w' ⟨rfl, rfl⟩; rw [h0.out]; simp only [])
    | (go_at_call 115; refine (unless_any _ _ _).mono ?_; rintro e w' ⟨rfl, rfl⟩; simp only [])
    | (go_at_call 114; go_must (refine (HR.out _ HS.out).mono ?_; rintro e w1 ⟨rfl, hb1⟩; have b1 := hb1; have z1 := b1.size; clear hb1; simp only []))
    | (go_at_call 107; go_must (refine (first3 _ _ _ _ _ (by simp)).mono ?_; rintro e w' ⟨rfl, rfl⟩; simp only []))
    | (go_at_call 106; go_must (refine (HQ.out _).mono ?_; rintro e w2 ⟨C, k, rfl, ho, hb⟩; have b2 : Below w.heap.size w w2 := Below.step (by go_grown) hb; have S2 := hide (Sl.of_own ho); clear ho hb; simp only []))
    | (go_at_call 133; go_must (refine (HI.out _ _ _ S2.out (HS.out.bel b2)).mono ?_; rintro e w' ⟨rfl, rfl⟩; simp only [])))
  go_ret2
  exact ⟨rfl, b2⟩
end Go.Proofs.Ythfmjohbokpceaa
