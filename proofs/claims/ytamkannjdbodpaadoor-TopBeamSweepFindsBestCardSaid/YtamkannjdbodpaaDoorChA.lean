import Derived.Test.YtamkannjdbodpaaDoorLawA
import Derived.Test.YtamkannjdbodpaaDoorFloatInt
namespace Go.Proofs.YtamkannjdbodpaaDoor
open Go.RowKit Go.WideShapes Go.ChangeShapes

/-! channels: whole complex numbers, two cells each -/
def gv (h : List (Int × Int)) : List Value := h.flatMap (fun z => [.int .i64 z.1, .int .i64 z.2])
theorem gv_cons (z : Int × Int) (r : List (Int × Int)) : gv (z :: r) = .int .i64 z.1 :: .int .i64 z.2 :: gv r := rfl
theorem gv_len : ∀ h : List (Int × Int), (gv h).length = h.length * 2
  | [] => rfl
  | z :: r => by rw [gv_cons]; simp only [List.length_cons, gv_len r]; omega
theorem gv_at : ∀ (h : List (Int × Int)) (k : Nat) (hk : k < h.length), (gv h)[k * 2]? = some (.int .i64 h[k].1) ∧ (gv h)[k * 2 + 1]? = some (.int .i64 h[k].2)
  | z :: r, 0, _ => by rw [gv_cons]; simp
  | z :: r, k + 1, hk => by
    have e : (k + 1) * 2 = k * 2 + 1 + 1 := by omega
    rw [gv_cons, e]
    have := gv_at r k (by simpa using hk)
    simpa using this
theorem gv_append (a b : List (Int × Int)) : gv (a ++ b) = gv a ++ gv b := by simp [gv]
theorem gv_one (h : List (Int × Int)) : ∀ u ∈ gv h, u.oneCell' = true := by
  intro u hu
  simp only [gv, List.mem_flatMap] at hu
  obtain ⟨z, _, hz⟩ := hu
  simp at hz
  rcases hz with rfl | rfl <;> rfl
theorem Sl.at2 {w : World} {A : Option Addr} {h : List (Int × Int)} (hs : Sl w A (gv h)) {k : Nat} (hk : k < h.length) :
    ∃ b off, A = some ⟨b, off, none⟩ ∧ w.cell? ⟨b, off + k * 2, none⟩ = some (.int .i64 h[k].1) ∧ w.cell? ⟨b, off + k * 2 + 1, none⟩ = some (.int .i64 h[k].2) := by
  obtain ⟨h1, h2⟩ := gv_at h k hk
  obtain ⟨j1, e1⟩ := List.getElem?_eq_some_iff.1 h1
  obtain ⟨j2, e2⟩ := List.getElem?_eq_some_iff.1 h2
  obtain ⟨b, off, e, c1⟩ := hs _ j1
  obtain ⟨b', off', e', c2⟩ := hs _ j2
  rw [e] at e'
  injection e' with e'
  injection e' with e3 e4
  subst e3 e4
  exact ⟨b, off, e, by rw [c1, e1], by rw [Nat.add_assoc, c2, e2]⟩

def idxG (p : Int × Int → Bool) : List (Int × Int) → Int → Int
  | [], _ => -1
  | x :: r, k => if p x then k else idxG p r (k + 1)
theorem idxG_hit (p : Int × Int → Bool) (l : List (Int × Int)) (k : Nat) (hk : k < l.length) (h0 : p l[k] = true) (i : Int) : idxG p (l.drop k) i = i := by
  rw [List.drop_eq_getElem_cons hk]; exact if_pos h0
theorem idxG_skip (p : Int × Int → Bool) (l : List (Int × Int)) (k : Nat) (hk : k < l.length) (h0 : p l[k] = false) (i : Int) : idxG p (l.drop k) i = idxG p (l.drop (k+1)) (i+1) := by
  rw [List.drop_eq_getElem_cons hk]; exact if_neg (by simp [h0])
theorem idxG_any (p : Int × Int → Bool) : ∀ (l : List (Int × Int)) (k : Int), 0 ≤ k → decide (0 ≤ idxG p l k) = l.any p
  | [], k, _ => by simp [idxG]
  | x :: r, k, hk => by
    rw [idxG, List.any_cons]
    cases h : p x
    · rw [if_neg (by simp), idxG_any p r (k + 1) (by omega)]; rfl
    · rw [if_pos rfl, decide_eq_true hk]; rfl

set_option maxHeartbeats 1000000 in
theorem indexFuncG (K : FuncId) (p : Int × Int → Bool) (A : Option Addr) (c : Nat) (l : List (Int × Int)) (w : World)
    (hK : ∀ args W, (callFunc K args).run Tryd.prog W = .ok (.enter K args) W)
    (hp : ∀ (z : Int × Int) W, Calls Tryd.prog K #[.agg #[.int .i64 z.1, .int .i64 z.2]] W fun e w' => e = .returned (.bool (p z)) ∧ Below W.heap.size W w')
    (hs : Sl w A (gv l)) (hl : l.length ≤ 1000) :
    Calls Tryd.prog 89 #[.slice A l.length c, .func (.func K) #[] #[]] w fun x w' => x = .returned (.int .i64 (idxG p l 0)) ∧ Below w.heap.size w w' := by
  have HP := Lib.hid hp
  clear hp
  have HS := Lib.hid hs
  clear hs
  go_enter Tryd.func89, Tryd.ntmps89
  go_wp2
  go_loopw [8] (fun i wr => ∃ k : Nat, k ≤ l.length ∧ i = .int .i64 k ∧ idxG p l 0 = idxG p (l.drop k) k ∧ Below w.heap.size w wr) (fun i _ => l.length - (intOf i).toNat)
  case atStart => exact ⟨0, Nat.zero_le _, rfl, by simp, Below.refl _ _⟩
  case round =>
    obtain ⟨k, hk, rfl, he, hbel⟩ := hrel
    have HE := Lib.hid he
    clear he
    by_cases hlt : k < l.length
    · obtain ⟨b, off, rfl, c1, c2⟩ := HS.out.at2 hlt
      have d1 : wr.cell? ⟨b, off + k * 2, none⟩ = some (.int .i64 l[k].1) := (hbel.cell (p := ⟨b, off + k * 2, none⟩) (lt_of_cell c1)).trans c1
      have d2 : wr.cell? ⟨b, off + k * 2 + 1, none⟩ = some (.int .i64 l[k].2) := (hbel.cell (p := ⟨b, off + k * 2 + 1, none⟩) (lt_of_cell c2)).trans c2
      clear c1 c2
      cases h0 : p l[k]
      · have hh := idxG_skip p l k hlt h0 k
        have HH := Lib.hid hh; clear hh
        have H0 := Lib.hid h0; clear h0
        go_wp2_with fail
        refine (HP.out _ _).mono ?_
        rintro e w1 ⟨rfl, hb1⟩
        rw [H0.out]
        have b1 := Below.step hbel hb1
        clear hb1
        simp only []
        go_wp2
        go_roundw
        case rel => exact ⟨k + 1, by omega, by go_num, by rw [HE.out, HH.out]; simp, b1⟩
        case measure => simp [intOf]; omega
      · have hh := idxG_hit p l k hlt h0 k
        have HH := Lib.hid hh; clear hh
        have H0 := Lib.hid h0; clear h0
        go_wp2_with fail
        refine (HP.out _ _).mono ?_
        rintro e w1 ⟨rfl, hb1⟩
        rw [H0.out]
        have b1 := Below.step hbel hb1
        clear hb1
        simp only []
        go_wp2
        go_ret
        exact ⟨by rw [HE.out, HH.out]; rfl, b1⟩
    · go_wp2
      go_ret
      exact ⟨by rw [HE.out, List.drop_eq_nil_of_le (by omega)]; rfl, hbel⟩
theorem containsFuncG (K : FuncId) (p : Int × Int → Bool) (A : Option Addr) (c : Nat) (l : List (Int × Int)) (w : World)
    (hK : ∀ args W, (callFunc K args).run Tryd.prog W = .ok (.enter K args) W)
    (hp : ∀ (z : Int × Int) W, Calls Tryd.prog K #[.agg #[.int .i64 z.1, .int .i64 z.2]] W fun e w' => e = .returned (.bool (p z)) ∧ Below W.heap.size W w')
    (hs : Sl w A (gv l)) (hl : l.length ≤ 1000) :
    Calls Tryd.prog 68 #[.slice A l.length c, .func (.func K) #[] #[]] w fun x w' => x = .returned (.bool (l.any p)) ∧ Below w.heap.size w w' := by
  have H := Lib.hid (indexFuncG K p A c l w hK hp hs hl)
  have HA := Lib.hid (idxG_any p l 0 (Int.le_refl _))
  clear hp hs
  go_enter Tryd.func68, Tryd.ntmps68
  go_wp2_with fail
  refine H.out.mono ?_
  rintro e w1 ⟨rfl, hb1⟩
  simp only []
  go_wp2
  go_ret
  exact ⟨by rw [← HA.out]; rfl, hb1⟩

def greatG (z : Int × Int) : Bool := !(withinB z.1 (-30) 30) || !(withinB z.2 (-30) 30)
theorem channelErr1_beam (z : Int × Int) (w : World) : Calls Tryd.prog 69 #[.agg #[.int .i64 z.1, .int .i64 z.2]] w fun e w' => e = .returned (.bool (greatG z)) ∧ Below w.heap.size w w' := by
  unfold greatG
  rcases (by cases withinB z.1 (-30) 30 <;> cases withinB z.2 (-30) 30 <;> simp : (withinB z.1 (-30) 30 = false) ∨ (withinB z.1 (-30) 30 = true ∧ withinB z.2 (-30) 30 = false) ∨ (withinB z.1 (-30) 30 = true ∧ withinB z.2 (-30) 30 = true)) with k1 | ⟨k1, k2⟩ | ⟨k1, k2⟩
  · rw [k1, Bool.not_false, Bool.true_or]
    go_enter Tryd.func69, Tryd.ntmps69
    go_wp2_with (go_at_call 70; refine (small_beam _ _ (by omega) (by omega) _).mono ?_; rintro e w' ⟨rfl, rfl⟩; simp only [])
    go_ret
    exact ⟨rfl, by go_grown⟩
  all_goals
    rw [k1, k2]
    go_enter Tryd.func69, Tryd.ntmps69
    go_wp2_with (go_at_call 70; refine (small_beam _ _ (by omega) (by omega) _).mono ?_; rintro e w' ⟨rfl, rfl⟩; simp only [])
    go_ret
    exact ⟨rfl, by go_grown⟩
def someG (z : Int × Int) : Bool := decide (z ≠ (0, 0))
/-- the error of a channel -/
def chE (h : List (Int × Int)) : Int := firstOf [unlessE (decide (0 < (h.length : Int))) 10, unlessE (decide ((h.length : Int) ≤ 8)) 8, unlessE (!(h.any greatG)) 2]
end Go.Proofs.YtamkannjdbodpaaDoor
