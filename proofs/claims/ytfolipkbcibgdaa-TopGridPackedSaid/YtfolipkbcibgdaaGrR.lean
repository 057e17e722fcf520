import Derived.Test.YtfolipkbcibgdaaGrM
namespace Go.Proofs.Ytfolipkbcibgdaa
open Go.RowKit Go.WideShapes Go.ChangeShapes

/-! carriers, signals and allocations as records; lists of them in memory -/
structure Prt where
  mu : Int
  fi : Int
  bl : Int
structure Sig where
  kd : Int
  pa : Int
  pe : Int
  of_ : Int
  sl : Int
  sy : Int
  sn : Int
  bk : Int
  bn : Int
  st : Int
  sh : Int
structure Alo where
  pa : Int
  sf : Int
  sl : Int
  sy : Int
  sn : Int
  bk : Int
  bn : Int
  deriving DecidableEq
def Prt.cs (x : Prt) : List Value := [.int .i64 x.mu, .int .i64 x.fi, .int .i64 x.bl]
def Sig.cs (x : Sig) : List Value := [.int .i64 x.kd, .int .i64 x.pa, .int .i64 x.pe, .int .i64 x.of_, .int .i64 x.sl, .int .i64 x.sy, .int .i64 x.sn, .int .i64 x.bk, .int .i64 x.bn, .int .i64 x.st, .int .i64 x.sh]
def Alo.cs (x : Alo) : List Value := [.int .i64 x.pa, .int .i64 x.sf, .int .i64 x.sl, .int .i64 x.sy, .int .i64 x.sn, .int .i64 x.bk, .int .i64 x.bn]
/-- the slice at A reads as this list; an element takes n cells -/
def Rws {α : Type} (n : Nat) (cs : α → List Value) (w : World) (A : Option Addr) (L : List α) : Prop := ∀ k (h : k < L.length), ∃ b o, A = some ⟨b, o, none⟩ ∧ ∀ j u, (cs L[k])[j]? = some u → w.cell? ⟨b, o + k * n + j, none⟩ = some u
section
variable {α : Type} {n : Nat} {cs : α → List Value} {w w' : World} {A : Option Addr} {L : List α}
theorem Rws.bel (h : Rws n cs w A L) (hb : Below w.heap.size w w') : Rws n cs w' A L := fun k hk => by
  obtain ⟨b, o, e, hc⟩ := h k hk
  exact ⟨b, o, e, fun j u hu => (hb.cell (lt_of_cell (hc j u hu))).trans (hc j u hu)⟩
theorem stay_rws (h : Rws n cs w A L) : Stay w (fun W => Rws n cs W A L) := fun _ hW => h.bel hW
theorem Rws.nil (w : World) (A : Option Addr) : Rws n cs w A ([] : List α) := fun k h => absurd h (by simp)
theorem Rws.take (h : Rws n cs w A L) (k : Nat) : Rws n cs w A (L.take k) := fun j hj => by
  rw [List.length_take] at hj
  obtain ⟨b, o, e, hc⟩ := h j (by omega)
  exact ⟨b, o, e, fun i u hu => hc i u (by simpa using hu)⟩
/-- the cells of a list -/
def flatC (cs : α → List Value) (L : List α) : List Value := L.flatMap cs
theorem flatC_length (hn : ∀ x, (cs x).length = n) (L : List α) : (flatC cs L).length = L.length * n := by
  induction L with
  | nil => simp [flatC]
  | cons x L ih =>
    show (cs x ++ flatC cs L).length = _
    rw [List.length_append, ih, hn, List.length_cons, Nat.add_mul]
    omega
theorem flatC_append (L M : List α) : flatC cs (L ++ M) = flatC cs L ++ flatC cs M := by simp [flatC]
theorem flatC_get (hn : ∀ x, (cs x).length = n) (L : List α) (k j : Nat) (hk : k < L.length) (hj : j < n) : (flatC cs L)[k * n + j]? = (cs L[k])[j]? := by
  induction L generalizing k with
  | nil => simp at hk
  | cons x L ih =>
    show (cs x ++ flatC cs L)[k * n + j]? = _
    have hx := hn x
    cases k with
    | zero => rw [List.getElem?_append_left (by omega)]; simp
    | succ k =>
      have e : (k + 1) * n = k * n + n := Nat.succ_mul k n
      rw [List.getElem?_append_right (by omega), hx, show (k + 1) * n + j - n = k * n + j by omega]
      have hk' : k < L.length := by simpa using hk
      rw [ih k hk']
      simp
theorem Rws.of_own {base e c m : Nat} (hn : ∀ x, (cs x).length = n) (h : w.ownsRow base e n (.slice A m c) m (flatC cs L)) (hm : m = L.length) : Rws n cs w A L := fun k hk => by
  obtain ⟨g, cap, hv, _, _⟩ := h.form (by omega)
  injection hv with hA
  subst hA
  refine ⟨g, 0, rfl, fun j u hu => ?_⟩
  have hj : j < n := by have := (List.getElem?_eq_some_iff.1 hu).1; rw [hn] at this; exact this
  have hc := h.cells (g := g) rfl (k * n + j) u (by rw [flatC_get hn L k j hk hj]; exact hu)
  rw [add_lit] at hc
  rw [Nat.add_assoc]
  exact hc
theorem Rws.reads (hn : ∀ x, (cs x).length = n) (hn0 : 0 < n) (h : Rws n cs w A L) : Reads w w.heap.size n A L.length (flatC cs L) := by
  refine ⟨flatC_length hn L, fun hl => ?_⟩
  obtain ⟨b, o, e, hc⟩ := h 0 hl
  have h0 : ∃ u, (cs L[0])[0]? = some u := ⟨_, List.getElem?_eq_getElem (by rw [hn]; exact hn0)⟩
  obtain ⟨u0, hu0⟩ := h0
  refine ⟨⟨b, o, none⟩, e, lt_of_cell (hc 0 u0 hu0), fun j u hu => ?_⟩
  rw [add_lit]
  have hj : j < L.length * n := by have := (List.getElem?_eq_some_iff.1 hu).1; rw [flatC_length hn] at this; exact this
  have hk : j / n < L.length := (Nat.div_lt_iff_lt_mul hn0).2 hj
  obtain ⟨b', o', e', hc'⟩ := h (j / n) hk
  rw [e] at e'
  injection e' with e'
  injection e' with e1 e2
  subst e1 e2
  have hdm : j / n * n + j % n = j := by rw [Nat.mul_comm]; exact Nat.div_add_mod j n
  have hu' : (cs L[j / n])[j % n]? = some u := by rw [← flatC_get hn L (j / n) (j % n) hk (Nat.mod_lt _ hn0), hdm]; exact hu
  have := hc' (j % n) u hu'
  rw [Nat.add_assoc, hdm] at this
  exact this
end
theorem prt_n (x : Prt) : (Prt.cs x).length = 3 := rfl
theorem sig_n (x : Sig) : (Sig.cs x).length = 11 := rfl
theorem alo_n (x : Alo) : (Alo.cs x).length = 7 := rfl
abbrev Prts := Rws 3 Prt.cs
abbrev Sigs := Rws 11 Sig.cs
abbrev Alos := Rws 7 Alo.cs
theorem Prts.at_ {w : World} {A : Option Addr} {L : List Prt} (h : Prts w A L) (k : Nat) (hk : k < L.length) : ∃ b o, A = some ⟨b, o, none⟩ ∧ w.cell? ⟨b, o + k * 3, none⟩ = some (.int .i64 L[k].mu) ∧ w.cell? ⟨b, o + k * 3 + 1, none⟩ = some (.int .i64 L[k].fi) ∧ w.cell? ⟨b, o + k * 3 + 2, none⟩ = some (.int .i64 L[k].bl) := by
  obtain ⟨b, o, e, hc⟩ := h k hk
  exact ⟨b, o, e, hc 0 _ rfl, hc 1 _ rfl, hc 2 _ rfl⟩
theorem Alos.at_ {w : World} {A : Option Addr} {L : List Alo} (h : Alos w A L) (k : Nat) (hk : k < L.length) : ∃ b o, A = some ⟨b, o, none⟩ ∧ w.cell? ⟨b, o + k * 7, none⟩ = some (.int .i64 L[k].pa) ∧ w.cell? ⟨b, o + k * 7 + 1, none⟩ = some (.int .i64 L[k].sf) ∧ w.cell? ⟨b, o + k * 7 + 2, none⟩ = some (.int .i64 L[k].sl) ∧ w.cell? ⟨b, o + k * 7 + 3, none⟩ = some (.int .i64 L[k].sy) ∧ w.cell? ⟨b, o + k * 7 + 4, none⟩ = some (.int .i64 L[k].sn) ∧ w.cell? ⟨b, o + k * 7 + 5, none⟩ = some (.int .i64 L[k].bk) ∧ w.cell? ⟨b, o + k * 7 + 6, none⟩ = some (.int .i64 L[k].bn) := by
  obtain ⟨b, o, e, hc⟩ := h k hk
  exact ⟨b, o, e, hc 0 _ rfl, hc 1 _ rfl, hc 2 _ rfl, hc 3 _ rfl, hc 4 _ rfl, hc 5 _ rfl, hc 6 _ rfl⟩
theorem Sigs.at_ {w : World} {A : Option Addr} {L : List Sig} (h : Sigs w A L) (k : Nat) (hk : k < L.length) : ∃ b o, A = some ⟨b, o, none⟩ ∧ w.cell? ⟨b, o + k * 11, none⟩ = some (.int .i64 L[k].kd) ∧ w.cell? ⟨b, o + k * 11 + 1, none⟩ = some (.int .i64 L[k].pa) ∧ w.cell? ⟨b, o + k * 11 + 2, none⟩ = some (.int .i64 L[k].pe) ∧ w.cell? ⟨b, o + k * 11 + 3, none⟩ = some (.int .i64 L[k].of_) ∧ w.cell? ⟨b, o + k * 11 + 4, none⟩ = some (.int .i64 L[k].sl) ∧ w.cell? ⟨b, o + k * 11 + 5, none⟩ = some (.int .i64 L[k].sy) ∧ w.cell? ⟨b, o + k * 11 + 6, none⟩ = some (.int .i64 L[k].sn) ∧ w.cell? ⟨b, o + k * 11 + 7, none⟩ = some (.int .i64 L[k].bk) ∧ w.cell? ⟨b, o + k * 11 + 8, none⟩ = some (.int .i64 L[k].bn) ∧ w.cell? ⟨b, o + k * 11 + 9, none⟩ = some (.int .i64 L[k].st) ∧ w.cell? ⟨b, o + k * 11 + 10, none⟩ = some (.int .i64 L[k].sh) := by
  obtain ⟨b, o, e, hc⟩ := h k hk
  exact ⟨b, o, e, hc 0 _ rfl, hc 1 _ rfl, hc 2 _ rfl, hc 3 _ rfl, hc 4 _ rfl, hc 5 _ rfl, hc 6 _ rfl, hc 7 _ rfl, hc 8 _ rfl, hc 9 _ rfl, hc 10 _ rfl⟩
/-- a right part of a carrier so wide -/
structure OkP (wi : Int) (p : Prt) : Prop where
  mu : 0 ≤ p.mu ∧ p.mu ≤ 3
  fi : 0 ≤ p.fi
  bl : 1 ≤ p.bl ∧ p.bl ≤ 24
  dv : p.fi % ((2 ^ p.mu.toNat : Nat) : Int) = 0
  fit : p.fi + ((2 ^ p.mu.toNat : Nat) : Int) * 12 * p.bl ≤ wi
/-- symbols and blocks that lie in a part -/
structure OkBx (p : Prt) (sy sn bk bn : Int) : Prop where
  sy : 0 ≤ sy ∧ 1 ≤ sn ∧ sy + sn ≤ 14
  bk : 0 ≤ bk ∧ 1 ≤ bn ∧ bk + bn ≤ p.bl
structure OkSg (P : List Prt) (s : Sig) : Prop where
  kd : 0 ≤ s.kd ∧ s.kd ≤ 5
  pa : 0 ≤ s.pa ∧ s.pa < (P.length : Int)
  pe : 1 ≤ s.pe ∧ s.pe ≤ 10240
  dv : (10240 : Int) % s.pe = 0
  of_ : 0 ≤ s.of_ ∧ s.of_ < s.pe
  sl : s.sl = -1 ∨ (0 ≤ s.sl ∧ ∀ h : s.pa.toNat < P.length, s.sl < ((2 ^ (P[s.pa.toNat]).mu.toNat : Nat) : Int))
  st : 1 ≤ s.st ∧ s.st ≤ 12
  sh : 0 ≤ s.sh ∧ s.sh < s.st
  bx : ∀ h : s.pa.toNat < P.length, OkBx P[s.pa.toNat] s.sy s.sn s.bk s.bn
structure OkCr (ce wi : Int) (P : List Prt) (S : List Sig) : Prop where
  ce_ : 0 ≤ ce ∧ ce ≤ 1007
  wi_ : 1 ≤ wi ∧ wi ≤ 600
  pn : 1 ≤ P.length ∧ P.length ≤ 4
  ps : ∀ p ∈ P, OkP wi p
  sn : S.length ≤ 12
  ss : ∀ s ∈ S, OkSg P s
structure OkAl (P : List Prt) (a : Alo) : Prop where
  pa : 0 ≤ a.pa ∧ a.pa < (P.length : Int)
  sf : 0 ≤ a.sf ∧ a.sf ≤ 10239
  sl : 0 ≤ a.sl ∧ ∀ h : a.pa.toNat < P.length, a.sl < ((2 ^ (P[a.pa.toNat]).mu.toNat : Nat) : Int)
  bx : ∀ h : a.pa.toNat < P.length, OkBx P[a.pa.toNat] a.sy a.sn a.bk a.bn
end Go.Proofs.Ytfolipkbcibgdaa
