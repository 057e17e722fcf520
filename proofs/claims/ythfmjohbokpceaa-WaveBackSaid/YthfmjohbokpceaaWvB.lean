import Derived.Test.YthfmjohbokpceaaWvA
namespace Go.Proofs.Ythfmjohbokpceaa
open Go.RowKit Go.WideShapes Go.ChangeShapes

/-- the first error -/
def firstOf : List Int → Int
  | [] => 0
  | x :: r => if x = 0 then firstOf r else x
theorem firstOf_skip (l : List Int) (k : Nat) (hk : k < l.length) (h0 : l[k] = 0) : firstOf (l.drop k) = firstOf (l.drop (k+1)) := by
  rw [List.drop_eq_getElem_cons hk]; exact if_pos h0
theorem firstOf_hit (l : List Int) (k : Nat) (hk : k < l.length) (h0 : l[k] ≠ 0) : firstOf (l.drop k) = l[k] := by
  rw [List.drop_eq_getElem_cons hk]; exact if_neg h0
theorem firstOf_ok {l : List Int} (h : firstOf l = 0) : ∀ x ∈ l, x = 0 := by
  induction l with
  | nil => simp
  | cons y r ih =>
    rw [firstOf] at h
    by_cases hy : y = 0
    · rw [if_pos hy] at h
      intro x hx
      rcases List.mem_cons.1 hx with rfl | hx
      · exact hy
      · exact ih h x hx
    · rw [if_neg hy] at h
      exact absurd h hy
theorem firstOf_zero {l : List Int} (h : ∀ x ∈ l, x = 0) : firstOf l = 0 := by
  induction l with
  | nil => rfl
  | cons y r ih => rw [firstOf, if_pos (h y (by simp))]; exact ih fun x hx => h x (by simp [hx])
theorem first_any (A : Option Addr) (c : Nat) (l : List Int) (w : World) (hs : Sl w A (iv l)) (hl : l.length ≤ 1000) :
   Calls Try.prog 107 #[.slice A l.length c] w fun x w' => x = .returned (.int .i64 (firstOf l)) ∧ w = w' := by
  have HS := hide hs; clear hs
  go_enter Try.func107, Try.ntmps107
  go_wp2
  go_loop [7] (fun i => ∃ k : Nat, k ≤ l.length ∧ i = .int .i64 k ∧ firstOf l = firstOf (l.drop k)) (fun i => l.length - (intOf i).toNat)
  case atStart => exact ⟨0, Nat.zero_le _, rfl, by simp⟩
  case round =>
    obtain ⟨k, hk, rfl, he⟩ := hrel
    have HE := hide he; clear he
    by_cases hlt : k < l.length
    · obtain ⟨b, off, rfl, hc⟩ := HS.out.int hlt
      by_cases h0 : l[k] = 0
      · have hh := firstOf_skip l k hlt h0
        have HH := hide hh; clear hh
        go_wp2
        go_round
        case rel => exact ⟨k + 1, by omega, by go_num, by rw [HE.out, HH.out]⟩
        case measure => simp [intOf]; omega
      · have hh := firstOf_hit l k hlt h0
        have HH := hide hh; clear hh
        go_wp2
        go_ret
        exact ⟨by rw [HE.out, HH.out]; rfl, rfl⟩
    · go_wp2
      go_ret
      exact ⟨by rw [HE.out, List.drop_eq_nil_of_le (by omega)]; rfl, rfl⟩
section
variable (W : World) (n : Nat)
theorem first2 (e0 e1 : Int) (hn : W.heap.size = n) : Calls Try.prog 107 #[.slice (some ⟨n, 0, none⟩) 2 2] (W.alloc (.cells #[.int .i64 e0, .int .i64 e1] 25)) fun x w' =>
    x = .returned (.int .i64 (firstOf [e0, e1])) ∧ (W.alloc (.cells #[.int .i64 e0, .int .i64 e1] 25)) = w' := first_any _ 2 [e0, e1] _ (Sl.new W (iv [e0, e1]) _ n hn) (by simp)
theorem first2d (e0 e1 : Int) (hn : W.heap.size = n) : Calls Try.prog 107 #[.slice (some ⟨n, 0, none⟩) 2 2] (W.alloc (.cells #[.int .i64 e0, .int .i64 e1] 25)).drew fun x w' =>
    x = .returned (.int .i64 (firstOf [e0, e1])) ∧ (W.alloc (.cells #[.int .i64 e0, .int .i64 e1] 25)).drew = w' := first_any _ 2 [e0, e1] _ (Sl.new W (iv [e0, e1]) _ n hn).drew (by simp)
theorem first3 (e0 e1 e2 : Int) (hn : W.heap.size = n) : Calls Try.prog 107 #[.slice (some ⟨n, 0, none⟩) 3 3] (W.alloc (.cells #[.int .i64 e0, .int .i64 e1, .int .i64 e2] 25)) fun x w' =>
    x = .returned (.int .i64 (firstOf [e0, e1, e2])) ∧ (W.alloc (.cells #[.int .i64 e0, .int .i64 e1, .int .i64 e2] 25)) = w' := first_any _ 3 [e0, e1, e2] _ (Sl.new W (iv [e0, e1, e2]) _ n hn) (by simp)
theorem first3d (e0 e1 e2 : Int) (hn : W.heap.size = n) : Calls Try.prog 107 #[.slice (some ⟨n, 0, none⟩) 3 3] (W.alloc (.cells #[.int .i64 e0, .int .i64 e1, .int .i64 e2] 25)).drew fun x w' =>
    x = .returned (.int .i64 (firstOf [e0, e1, e2])) ∧ (W.alloc (.cells #[.int .i64 e0, .int .i64 e1, .int .i64 e2] 25)).drew = w' := first_any _ 3 [e0, e1, e2] _ (Sl.new W (iv [e0, e1, e2]) _ n hn).drew (by simp)
end

/-- e unless b -/
def unlessE (b : Bool) (e : Int) : Int := if b then 0 else e
theorem unless_any (b : Bool) (e : Int) (w : World) : Calls Try.prog 115 #[.bool b, .int .i64 e] w fun x w' => x = .returned (.int .i64 (unlessE b e)) ∧ w = w' := by
  cases b <;> (go_enter Try.func115, Try.ntmps115; go_wp2; go_ret; exact ⟨rfl, rfl⟩)
theorem within_wave (n lo hi : Int) (w : World) : Calls Try.prog 142 #[.int .i64 n, .int .i64 lo, .int .i64 hi] w fun x w' => x = .returned (.bool (withinB n lo hi)) ∧ w = w' := by
  unfold withinB
  by_cases h : lo ≤ n
  · go_enter Try.func142, Try.ntmps142; go_wp2; go_ret; exact ⟨by simp [h], rfl⟩
  · go_enter Try.func142, Try.ntmps142; go_wp2; go_ret; exact ⟨by rw [decide_eq_false (by omega : ¬ lo ≤ n)]; rfl, rfl⟩
theorem small_wave (n m : Int) (h : -9223372036854775807 ≤ m) (h' : m ≤ 9223372036854775807) (w : World) : Calls Try.prog 171 #[.int .i64 n, .int .i64 m] w fun x w' => x = .returned (.bool (withinB n (-m) m)) ∧ w = w' := by
  go_enter Try.func171, Try.ntmps171
  go_wp2_with (go_at_call 142; refine (within_wave _ _ _ _).mono ?_; rintro e w' ⟨rfl, rfl⟩)
  go_ret
  exact ⟨rfl, rfl⟩
theorem eighthsErr_wave (n : Int) (w : World) : Calls Try.prog 127 #[.int .i64 n] w fun x w' => x = .returned (.int .i64 (unlessE (withinB n 0 7) 2)) ∧ w = w' := by
  go_enter Try.func127, Try.ntmps127
  go_wp2_with (first | (go_at_call 142; refine (within_wave _ _ _ _).mono ?_; rintro e w' ⟨rfl, rfl⟩) | (go_at_call 115; refine (unless_any _ _ _).mono ?_; rintro e w' ⟨rfl, rfl⟩))
  go_ret
  exact ⟨rfl, rfl⟩
theorem guardErr_wave (n : Int) (w : World) : Calls Try.prog 157 #[.int .i64 n] w fun x w' => x = .returned (.int .i64 (unlessE (withinB n 0 7) 2)) ∧ w = w' := by
  go_enter Try.func157, Try.ntmps157
  go_wp2_with (first | (go_at_call 142; refine (within_wave _ _ _ _).mono ?_; rintro e w' ⟨rfl, rfl⟩) | (go_at_call 115; refine (unless_any _ _ _).mono ?_; rintro e w' ⟨rfl, rfl⟩))
  go_ret
  exact ⟨rfl, rfl⟩
theorem identityErr_wave (n : Int) (w : World) : Calls Try.prog 105 #[.int .i64 n] w fun x w' => x = .returned (.int .i64 (unlessE (withinB n 0 1007) 2)) ∧ w = w' := by
  go_enter Try.func105, Try.ntmps105
  go_wp2_with (first | (go_at_call 142; refine (within_wave _ _ _ _).mono ?_; rintro e w' ⟨rfl, rfl⟩) | (go_at_call 115; refine (unless_any _ _ _).mono ?_; rintro e w' ⟨rfl, rfl⟩))
  go_ret
  exact ⟨rfl, rfl⟩

/-! whole complex numbers, two cells each; numbers, four cells each -/
def gv (h : List (Int × Int)) : List Value := h.flatMap (fun z => [.int .i64 z.1, .int .i64 z.2])
theorem gv_cons (z : Int × Int) (r : List (Int × Int)) : gv (z :: r) = .int .i64 z.1 :: .int .i64 z.2 :: gv r := rfl
theorem gv_len : ∀ h : List (Int × Int), (gv h).length = h.length * 2
  | [] => rfl
  | z :: r => by rw [gv_cons]; simp only [List.length_cons, gv_len r]; omega
theorem gv_at : ∀ (h : List (Int × Int)) (k : Nat) (hk : k < h.length), (gv h)[k * 2]? = some (.int .i64 h[k].1) ∧ (gv h)[k * 2 + 1]? = some (.int .i64 h[k].2)
  | z :: r, 0, _ => by rw [gv_cons]; simp
  | z :: r, k + 1, hk => by
    have e : (k + 1) * 2 = k * 2 + 1 + 1 := by omega
    rw [gv_cons, e]
    have := gv_at r k (by simpa using hk)
    simpa using this
theorem gv_append (a b : List (Int × Int)) : gv (a ++ b) = gv a ++ gv b := by simp [gv]
theorem gv_one (h : List (Int × Int)) : ∀ u ∈ gv h, u.oneCell' = true := by
  intro u hu
  simp only [gv, List.mem_flatMap] at hu
  obtain ⟨z, _, hz⟩ := hu
  simp at hz
  rcases hz with rfl | rfl <;> rfl
theorem Sl.one {w : World} {A : Option Addr} {xs : List Value} (hs : Sl w A xs) {b off : Nat} (e : A = some ⟨b, off, none⟩) {j : Nat} {u : Value} (h : xs[j]? = some u) : w.cell? ⟨b, off + j, none⟩ = some u := by
  obtain ⟨hj, hu⟩ := List.getElem?_eq_some_iff.1 h
  obtain ⟨b', off', e', c⟩ := hs _ hj
  rw [e] at e'
  injection e' with e'
  injection e' with e3 e4
  subst e3 e4
  rw [c, hu]
theorem Sl.at2 {w : World} {A : Option Addr} {h : List (Int × Int)} (hs : Sl w A (gv h)) {k : Nat} (hk : k < h.length) :
    ∃ b off, A = some ⟨b, off, none⟩ ∧ w.cell? ⟨b, off + k * 2, none⟩ = some (.int .i64 h[k].1) ∧ w.cell? ⟨b, off + k * 2 + 1, none⟩ = some (.int .i64 h[k].2) := by
  obtain ⟨h1, h2⟩ := gv_at h k hk
  obtain ⟨b, off, e, _⟩ := hs _ (List.getElem?_eq_some_iff.1 h1).1
  exact ⟨b, off, e, hs.one e h1, hs.one e h2⟩
def nvs (h : List Nm) : List Value := h.flatMap (fun z => [.int .i64 z.1, .int .i64 z.2.1, .int .i64 z.2.2.1, .int .i64 z.2.2.2])
theorem nvs_cons (z : Nm) (r : List Nm) : nvs (z :: r) = .int .i64 z.1 :: .int .i64 z.2.1 :: .int .i64 z.2.2.1 :: .int .i64 z.2.2.2 :: nvs r := rfl
theorem nvs_len : ∀ h : List Nm, (nvs h).length = h.length * 4
  | [] => rfl
  | z :: r => by rw [nvs_cons]; simp only [List.length_cons, nvs_len r]; omega
theorem nvs_at : ∀ (h : List Nm) (k : Nat) (hk : k < h.length), (nvs h)[k * 4]? = some (.int .i64 h[k].1) ∧ (nvs h)[k * 4 + 1]? = some (.int .i64 h[k].2.1) ∧ (nvs h)[k * 4 + 2]? = some (.int .i64 h[k].2.2.1) ∧ (nvs h)[k * 4 + 3]? = some (.int .i64 h[k].2.2.2)
  | z :: r, 0, _ => by rw [nvs_cons]; simp
  | z :: r, k + 1, hk => by
    have e : (k + 1) * 4 = k * 4 + 1 + 1 + 1 + 1 := by omega
    rw [nvs_cons, e]
    have := nvs_at r k (by simpa using hk)
    simpa using this
theorem nvs_append (a b : List Nm) : nvs (a ++ b) = nvs a ++ nvs b := by simp [nvs]
theorem nvs_one (h : List Nm) : ∀ u ∈ nvs h, u.oneCell' = true := by
  intro u hu
  simp only [nvs, List.mem_flatMap] at hu
  obtain ⟨z, _, hz⟩ := hu
  simp at hz
  rcases hz with rfl | rfl | rfl | rfl <;> rfl
theorem Sl.at4 {w : World} {A : Option Addr} {h : List Nm} (hs : Sl w A (nvs h)) {k : Nat} (hk : k < h.length) :
    ∃ b off, A = some ⟨b, off, none⟩ ∧ w.cell? ⟨b, off + k * 4, none⟩ = some (.int .i64 h[k].1) ∧ w.cell? ⟨b, off + k * 4 + 1, none⟩ = some (.int .i64 h[k].2.1) ∧ w.cell? ⟨b, off + k * 4 + 2, none⟩ = some (.int .i64 h[k].2.2.1) ∧ w.cell? ⟨b, off + k * 4 + 3, none⟩ = some (.int .i64 h[k].2.2.2) := by
  obtain ⟨h1, h2, h3, h4⟩ := nvs_at h k hk
  obtain ⟨b, off, e, _⟩ := hs _ (List.getElem?_eq_some_iff.1 h1).1
  exact ⟨b, off, e, hs.one e h1, hs.one e h2, hs.one e h3, hs.one e h4⟩

/-- the first error of a list's items -/
def eachE {α : Type} (f : α → Int) : List α → Int
  | [] => 0
  | x :: r => if f x = 0 then eachE f r else f x
theorem eachE_skip {α : Type} (f : α → Int) (l : List α) (k : Nat) (hk : k < l.length) (h0 : f l[k] = 0) : eachE f (l.drop k) = eachE f (l.drop (k+1)) := by
  rw [List.drop_eq_getElem_cons hk]; exact if_pos h0
theorem eachE_hit {α : Type} (f : α → Int) (l : List α) (k : Nat) (hk : k < l.length) (h0 : f l[k] ≠ 0) : eachE f (l.drop k) = f l[k] := by
  rw [List.drop_eq_getElem_cons hk]; exact if_neg h0
theorem eachE_ok {α : Type} {f : α → Int} {l : List α} (h : eachE f l = 0) : ∀ x ∈ l, f x = 0 := by
  induction l with
  | nil => simp
  | cons y r ih =>
    rw [eachE] at h
    by_cases hy : f y = 0
    · rw [if_pos hy] at h
      intro x hx
      rcases List.mem_cons.1 hx with rfl | hx
      · exact hy
      · exact ih h x hx
    · rw [if_neg hy] at h
      exact absurd h hy
theorem eachE_zero {α : Type} {f : α → Int} {l : List α} (h : ∀ x ∈ l, f x = 0) : eachE f l = 0 := by
  induction l with
  | nil => rfl
  | cons y r ih => rw [eachE, if_pos (h y (by simp))]; exact ih fun x hx => h x (by simp [hx])

set_option maxRecDepth 100000 in
set_option maxHeartbeats 1000000 in
theorem each_num (K : FuncId) (f : Nm → Int) (A : Option Addr) (c : Nat) (l : List (Nm)) (w : World)
    (hK : ∀ args W, (callFunc K args).run Try.prog W = .ok (.enter K args) W)
    (hp : ∀ (z : Nm) W, Calls Try.prog K #[nv z] W fun e w' => e = .returned (.int .i64 (f z)) ∧ Below W.heap.size W w')
    (hs : Sl w A (nvs l)) (hl : l.length ≤ 1000000) :
    Calls Try.prog 135 #[.slice A l.length c, .func (.func K) #[] #[]] w fun x w' => x = .returned (.int .i64 (eachE f l)) ∧ Below w.heap.size w w' := by
  have HP := Lib.hid hp
  clear hp
  have HS := Lib.hid hs
  clear hs
  go_enter Try.func135, Try.ntmps135
  go_wp2
  go_loopw [10] (fun i wr => ∃ k : Nat, k ≤ l.length ∧ i = .int .i64 k ∧ eachE f l = eachE f (l.drop k) ∧ Below w.heap.size w wr) (fun i _ => l.length - (intOf i).toNat)
  case atStart => exact ⟨0, Nat.zero_le _, rfl, by simp, Below.refl _ _⟩
  case round =>
    obtain ⟨k, hk, rfl, he, hbel⟩ := hrel
    have HE := Lib.hid he
    clear he
    by_cases hlt : k < l.length
    · obtain ⟨b, off, rfl, c0, c1, c2, c3⟩ := HS.out.at4 hlt
      have d0 : wr.cell? ⟨b, off + k * 4, none⟩ = some (.int .i64 l[k].1) := (hbel.cell (p := ⟨b, off + k * 4, none⟩) (lt_of_cell c0)).trans c0
      have d1 : wr.cell? ⟨b, off + k * 4 + 1, none⟩ = some (.int .i64 l[k].2.1) := (hbel.cell (p := ⟨b, off + k * 4 + 1, none⟩) (lt_of_cell c1)).trans c1
      have d2 : wr.cell? ⟨b, off + k * 4 + 2, none⟩ = some (.int .i64 l[k].2.2.1) := (hbel.cell (p := ⟨b, off + k * 4 + 2, none⟩) (lt_of_cell c2)).trans c2
      have d3 : wr.cell? ⟨b, off + k * 4 + 3, none⟩ = some (.int .i64 l[k].2.2.2) := (hbel.cell (p := ⟨b, off + k * 4 + 3, none⟩) (lt_of_cell c3)).trans c3
      clear c0 c1 c2 c3
      have hbz := hbel.size
      by_cases h0 : f l[k] = 0
      · have hh := eachE_skip f l k hlt h0
        have HH := Lib.hid hh; clear hh
        have H0 := Lib.hid h0; clear h0
        go_wp2_with fail
        refine (HP.out _ _).mono ?_
        rintro e w1 ⟨rfl, hb1⟩
        rw [H0.out]
        have b1 : Below w.heap.size w w1 := Below.step (by go_grown) hb1
        clear hb1
        simp only []
        go_wp2
        go_roundw
        case rel => exact ⟨k + 1, by omega, by go_num, by rw [HE.out, HH.out], b1⟩
        case measure => simp [intOf]; omega
      · have hh := eachE_hit f l k hlt h0
        have HH := Lib.hid hh; clear hh
        have hx : (f l[k] != 0) = true := by rw [bne_iff_ne]; exact h0
        clear h0
        go_wp2_with fail
        refine (HP.out _ _).mono ?_
        rintro e w1 ⟨rfl, hb1⟩
        have b1 : Below w.heap.size w w1 := Below.step (by go_grown) hb1
        clear hb1
        simp only []
        go_wp2
        go_ret
        exact ⟨by rw [HE.out, HH.out]; rfl, b1⟩
    · go_wp2
      go_ret
      exact ⟨by rw [HE.out, List.drop_eq_nil_of_le (by omega)]; rfl, hbel⟩
set_option maxRecDepth 100000 in
set_option maxHeartbeats 1000000 in
theorem each_gauss (K : FuncId) (f : Int × Int → Int) (A : Option Addr) (c : Nat) (l : List (Int × Int)) (w : World)
    (hK : ∀ args W, (callFunc K args).run Try.prog W = .ok (.enter K args) W)
    (hp : ∀ (z : Int × Int) W, Calls Try.prog K #[.agg #[.int .i64 z.1, .int .i64 z.2]] W fun e w' => e = .returned (.int .i64 (f z)) ∧ Below W.heap.size W w')
    (hs : Sl w A (gv l)) (hl : l.length ≤ 1000000) :
    Calls Try.prog 140 #[.slice A l.length c, .func (.func K) #[] #[]] w fun x w' => x = .returned (.int .i64 (eachE f l)) ∧ Below w.heap.size w w' := by
  have HP := Lib.hid hp
  clear hp
  have HS := Lib.hid hs
  clear hs
  go_enter Try.func140, Try.ntmps140
  go_wp2
  go_loopw [10] (fun i wr => ∃ k : Nat, k ≤ l.length ∧ i = .int .i64 k ∧ eachE f l = eachE f (l.drop k) ∧ Below w.heap.size w wr) (fun i _ => l.length - (intOf i).toNat)
  case atStart => exact ⟨0, Nat.zero_le _, rfl, by simp, Below.refl _ _⟩
  case round =>
    obtain ⟨k, hk, rfl, he, hbel⟩ := hrel
    have HE := Lib.hid he
    clear he
    by_cases hlt : k < l.length
    · obtain ⟨b, off, rfl, c0, c1⟩ := HS.out.at2 hlt
      have d0 : wr.cell? ⟨b, off + k * 2, none⟩ = some (.int .i64 l[k].1) := (hbel.cell (p := ⟨b, off + k * 2, none⟩) (lt_of_cell c0)).trans c0
      have d1 : wr.cell? ⟨b, off + k * 2 + 1, none⟩ = some (.int .i64 l[k].2) := (hbel.cell (p := ⟨b, off + k * 2 + 1, none⟩) (lt_of_cell c1)).trans c1
      clear c0 c1
      have hbz := hbel.size
      by_cases h0 : f l[k] = 0
      · have hh := eachE_skip f l k hlt h0
        have HH := Lib.hid hh; clear hh
        have H0 := Lib.hid h0; clear h0
        go_wp2_with fail
        refine (HP.out _ _).mono ?_
        rintro e w1 ⟨rfl, hb1⟩
        rw [H0.out]
        have b1 : Below w.heap.size w w1 := Below.step (by go_grown) hb1
        clear hb1
        simp only []
        go_wp2
        go_roundw
        case rel => exact ⟨k + 1, by omega, by go_num, by rw [HE.out, HH.out], b1⟩
        case measure => simp [intOf]; omega
      · have hh := eachE_hit f l k hlt h0
        have HH := Lib.hid hh; clear hh
        have hx : (f l[k] != 0) = true := by rw [bne_iff_ne]; exact h0
        clear h0
        go_wp2_with fail
        refine (HP.out _ _).mono ?_
        rintro e w1 ⟨rfl, hb1⟩
        have b1 : Below w.heap.size w w1 := Below.step (by go_grown) hb1
        clear hb1
        simp only []
        go_wp2
        go_ret
        exact ⟨by rw [HE.out, HH.out]; rfl, b1⟩
    · go_wp2
      go_ret
      exact ⟨by rw [HE.out, List.drop_eq_nil_of_le (by omega)]; rfl, hbel⟩
end Go.Proofs.Ythfmjohbokpceaa
