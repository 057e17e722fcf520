import Derived.Test.YtppkibgemacdbaaMga
import Derived.Test.YtppkibgemacdbaaSef
namespace Go.Proofs.Ytppkibgemacdbaa

/-! a plain law: who gets its need in each slot has no late bit -/
/-- what arrived up to slot t -/
def arrA (bu ra : Int) (t : Nat) : Int := bu + (t : Int) * ra
theorem guar_first {bu ra g x : Int} (hx : min bu g ≤ x) : min (arrA bu ra 0) (((0 + 1 : Nat) : Int) * g) ≤ x := by
  unfold arrA
  simp
  omega
theorem guar_succ {bu ra g S x : Int} {t : Nat} (hg : ra ≤ g) (h : min (arrA bu ra t) (((t + 1 : Nat) : Int) * g) ≤ S) (hx : min (arrA bu ra (t + 1) - S) g ≤ x) :
    min (arrA bu ra (t + 1)) (((t + 1 + 1 : Nat) : Int) * g) ≤ S + x := by
  unfold arrA at *
  have e1 : ((t + 1 : Nat) : Int) * ra = (t : Int) * ra + ra := by rw [Int.natCast_add, Int.add_mul]; simp
  have e2 : ((t + 1 + 1 : Nat) : Int) * g = ((t + 1 : Nat) : Int) * g + g := by rw [Int.natCast_add (t + 1) 1, Int.add_mul]; simp
  rw [e1] at hx ⊢
  rw [e2]
  generalize ((t + 1 : Nat) : Int) * g = X at *
  generalize (t : Int) * ra = Y at *
  omega
/-- j slots are due behind slot t, if the delay is de -/
theorem guar_due {bu ra g S de : Int} {t j : Nat} (hg : ra ≤ g) (hd : bu ≤ de * g) (h1 : 1 ≤ de) (hra : 0 ≤ ra) (hj : (t : Int) + 1 - de = (j : Int)) (h : min (arrA bu ra t) (((t + 1 : Nat) : Int) * g) ≤ S) : arrA bu ra j ≤ S := by
  unfold arrA at *
  have hjt : (j : Int) ≤ (t : Int) := by omega
  have e1 := Int.mul_le_mul_of_nonneg_right hjt hra
  have e2 : ((t + 1 : Nat) : Int) * g = (j : Int) * g + de * g := by
    rw [show ((t + 1 : Nat) : Int) = (j : Int) + de by omega, Int.add_mul]
  have e3 := Int.mul_le_mul_of_nonneg_left hg (show (0 : Int) ≤ (j : Int) by omega)
  rw [e2] at h
  generalize (j : Int) * g = X at *
  generalize (t : Int) * ra = Y at *
  generalize (j : Int) * ra = Z at *
  generalize de * g = V at *
  omega
/-- whoever has at least the blocks of its need, or as many as it can use, sends the need's bits, or all -/
theorem sends_more {w nb tb bl : Int} (ht : 0 < tb) (hw : 0 ≤ w) (hn : 0 ≤ nb) (hb : min nb (ceilI w tb) ≤ bl) : min w (nb * tb) ≤ min w (bl * tb) := by
  rw [← sends ht hw hn]
  have := Int.mul_le_mul_of_nonneg_right hb (show 0 ≤ tb by omega)
  omega
end Go.Proofs.Ytppkibgemacdbaa

namespace Go.Proofs.Ytppkibgemacdbaa
open Go.RowKit Go.WideShapes Go.ChangeShapes

/-! bearers as records; lists of bearers in memory -/
structure Ber where
  nm : Bs
  kd : Int
  pr : Int
  wt : Int
  pw : Int
  le : Int
  bu : Int
  ra : Int
  de : Int
/-- its nine cells -/
def Ber.cs (x : Ber) : List Value := [strV x.nm, .int .i64 x.kd, .int .i64 x.pr, .int .i64 x.wt, .int .i64 x.pw, .int .i64 x.le, .int .i64 x.bu, .int .i64 x.ra, .int .i64 x.de]
def bvs (L : List Ber) : List Value := L.flatMap Ber.cs
theorem bvs_length (L : List Ber) : (bvs L).length = L.length * 9 := by
  induction L with
  | nil => rfl
  | cons x L ih =>
    show (Ber.cs x ++ bvs L).length = _
    rw [List.length_append, ih, show (Ber.cs x).length = 9 from rfl, List.length_cons, Nat.add_mul]
    omega
theorem bvs_append (L M : List Ber) : bvs (L ++ M) = bvs L ++ bvs M := by simp [bvs]
theorem bvs_get (L : List Ber) (k j : Nat) (hk : k < L.length) (hj : j < 9) : (bvs L)[k * 9 + j]? = (Ber.cs L[k])[j]? := by
  induction L generalizing k with
  | nil => simp at hk
  | cons x L ih =>
    show (Ber.cs x ++ bvs L)[k * 9 + j]? = _
    have hx : (Ber.cs x).length = 9 := rfl
    cases k with
    | zero => rw [List.getElem?_append_left (by omega)]; simp
    | succ k =>
      rw [List.getElem?_append_right (by omega), hx, show (k + 1) * 9 + j - 9 = k * 9 + j by omega]
      have hk' : k < L.length := by simpa using hk
      rw [ih k hk']
      simp
theorem bvs_one (L : List Ber) : ∀ u ∈ bvs L, u.oneCell' = true := by
  intro u hu
  simp only [bvs, List.mem_flatMap] at hu
  obtain ⟨x, _, hx⟩ := hu
  simp only [Ber.cs, List.mem_cons, List.not_mem_nil, or_false] at hx
  rcases hx with rfl | rfl | rfl | rfl | rfl | rfl | rfl | rfl | rfl <;> simp [Value.oneCell', strV]
/-- the slice at A reads as this list of bearers -/
def Brs (w : World) (A : Option Addr) (L : List Ber) : Prop := ∀ k (h : k < L.length), ∃ b o, A = some ⟨b, o, none⟩ ∧ ∀ j u, (Ber.cs L[k])[j]? = some u → w.cell? ⟨b, o + k * 9 + j, none⟩ = some u
theorem Brs.bel {w w' : World} {A : Option Addr} {L : List Ber} (h : Brs w A L) (hb : Below w.heap.size w w') : Brs w' A L := fun k hk => by
  obtain ⟨b, o, e, hc⟩ := h k hk
  exact ⟨b, o, e, fun j u hu => (hb.cell (lt_of_cell (hc j u hu))).trans (hc j u hu)⟩
theorem stay_brs {w : World} {A : Option Addr} {L : List Ber} (h : Brs w A L) : Stay w (fun W => Brs W A L) := fun _ hW => h.bel hW
theorem Brs.nil (w : World) (A : Option Addr) : Brs w A [] := fun k h => absurd h (by simp)
theorem Brs.of_own {w : World} {base e n c : Nat} {A : Option Addr} {L : List Ber} (h : w.ownsRow base e 9 (.slice A n c) n (bvs L)) (hn : n = L.length) : Brs w A L := fun k hk => by
  obtain ⟨g, cap, hv, _, _⟩ := h.form (by omega)
  injection hv with hA
  subst hA
  refine ⟨g, 0, rfl, fun j u hu => ?_⟩
  have hj : j < 9 := by
    obtain ⟨hj, _⟩ := List.getElem?_eq_some_iff.1 hu
    exact hj
  have hc := h.cells (g := g) rfl (k * 9 + j) u (by rw [bvs_get L k j hk hj]; exact hu)
  rw [add_lit] at hc
  rw [Nat.add_assoc]
  exact hc
/-- nine facts of the k-th bearer -/
theorem Brs.at_ {w : World} {A : Option Addr} {L : List Ber} (h : Brs w A L) (k : Nat) (hk : k < L.length) : ∃ b o, A = some ⟨b, o, none⟩ ∧
    w.cell? ⟨b, o + k * 9, none⟩ = some (strV L[k].nm) ∧ w.cell? ⟨b, o + k * 9 + 1, none⟩ = some (.int .i64 L[k].kd) ∧ w.cell? ⟨b, o + k * 9 + 2, none⟩ = some (.int .i64 L[k].pr) ∧ w.cell? ⟨b, o + k * 9 + 3, none⟩ = some (.int .i64 L[k].wt) ∧
    w.cell? ⟨b, o + k * 9 + 4, none⟩ = some (.int .i64 L[k].pw) ∧ w.cell? ⟨b, o + k * 9 + 5, none⟩ = some (.int .i64 L[k].le) ∧ w.cell? ⟨b, o + k * 9 + 6, none⟩ = some (.int .i64 L[k].bu) ∧ w.cell? ⟨b, o + k * 9 + 7, none⟩ = some (.int .i64 L[k].ra) ∧ w.cell? ⟨b, o + k * 9 + 8, none⟩ = some (.int .i64 L[k].de) := by
  obtain ⟨b, o, e, hc⟩ := h k hk
  exact ⟨b, o, e, hc 0 _ rfl, hc 1 _ rfl, hc 2 _ rfl, hc 3 _ rfl, hc 4 _ rfl, hc 5 _ rfl, hc 6 _ rfl, hc 7 _ rfl, hc 8 _ rfl⟩
/-- a right bearer of a site -/
def OkR (T : List Int) (x : Ber) : Prop := OkB T x.nm x.kd x.pr x.wt x.pw x.le x.bu x.ra x.de
/-- what it needs -/
def ndB (T : List Int) (x : Ber) : Int := if x.kd = 0 then 0 else needB x.ra x.bu x.de (tbO T x.le)
def ndC (x : Ber) : Int := if x.kd = 0 then 0 else 1
def ndP (T : List Int) (x : Ber) : Int := ndB T x * x.pw
def sumI : List Int → Int
  | [] => 0
  | x :: r => x + sumI r
theorem sumI_append (a b : List Int) : sumI (a ++ b) = sumI a + sumI b := by
  induction a with
  | nil => simp [sumI]
  | cons x a ih => simp [sumI, ih]; omega
theorem sumI_take (l : List Int) (k : Nat) (hk : k < l.length) : sumI (l.take (k + 1)) = sumI (l.take k) + l[k] := by
  rw [List.take_succ_eq_append_getElem hk, sumI_append]; simp [sumI]
def fitL (B C P : Int) (T : List Int) (L : List Ber) : Bool := decide (sumI (L.map (ndB T)) ≤ B) && decide (sumI (L.map ndC) ≤ C) && decide (sumI (L.map (ndP T)) ≤ P)
theorem ndB_bd {B C P : Int} {T : List Int} {x : Ber} (hs : OkS B C P T) (hx : OkR T x) : 0 ≤ ndB T x ∧ ndB T x ≤ 1000000 := by
  unfold ndB
  by_cases h : x.kd = 0
  · rw [if_pos h]; omega
  · rw [if_neg h]; have := need_bd hs hx h; omega
theorem ndC_bd (x : Ber) : 0 ≤ ndC x ∧ ndC x ≤ 1 := by
  unfold ndC; split <;> omega
theorem ndP_bd {B C P : Int} {T : List Int} {x : Ber} (hs : OkS B C P T) (hx : OkR T x) : 0 ≤ ndP T x ∧ ndP T x ≤ 1000000 * 100000 := by
  have h := ndB_bd hs hx
  have hp := OkB.pw_ hx
  exact ⟨Int.mul_nonneg h.1 hp.1, Int.mul_le_mul h.2 hp.2 hp.1 (by omega)⟩
/-- bearers that are right together -/
structure OkL (B C P : Int) (T : List Int) (L : List Ber) : Prop where
  ok : ∀ x ∈ L, OkR T x
  names : (L.map (·.nm)).Nodup
  fit : fitL B C P T L = true
  few : L.length ≤ 8
end Go.Proofs.Ytppkibgemacdbaa

