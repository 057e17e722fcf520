import Derived.Test.YtehcmhblppjalaaSyA
import Derived.Test.YtehcmhblppjalaaMem2
namespace Go.Proofs.Ytehcmhblppjalaa
open Go.RowKit Go.WideShapes Go.ChangeShapes

/-- the first error -/
def firstOf : List Int → Int
  | [] => 0
  | x :: r => if x = 0 then firstOf r else x
theorem firstOf_skip (l : List Int) (k : Nat) (hk : k < l.length) (h0 : l[k] = 0) : firstOf (l.drop k) = firstOf (l.drop (k+1)) := by
  rw [List.drop_eq_getElem_cons hk]; exact if_pos h0
theorem firstOf_hit (l : List Int) (k : Nat) (hk : k < l.length) (h0 : l[k] ≠ 0) : firstOf (l.drop k) = l[k] := by
  rw [List.drop_eq_getElem_cons hk]; exact if_neg h0
theorem firstOf_ok {l : List Int} (h : firstOf l = 0) : ∀ x ∈ l, x = 0 := by
  induction l with
  | nil => simp
  | cons y r ih =>
    rw [firstOf] at h
    by_cases hy : y = 0
    · rw [if_pos hy] at h
      intro x hx
      rcases List.mem_cons.1 hx with rfl | hx
      · exact hy
      · exact ih h x hx
    · rw [if_neg hy] at h
      exact absurd h hy
theorem firstOf_zero {l : List Int} (h : ∀ x ∈ l, x = 0) : firstOf l = 0 := by
  induction l with
  | nil => rfl
  | cons y r ih => rw [firstOf, if_pos (h y (by simp))]; exact ih fun x hx => h x (by simp [hx])
theorem first_any (A : Option Addr) (c : Nat) (l : List Int) (w : World) (hs : Sl w A (iv l)) (hl : l.length ≤ 1000) :
   Calls Try.prog 18 #[.slice A l.length c] w fun x w' => x = .returned (.int .i64 (firstOf l)) ∧ w = w' := by
  have HS := hide hs; clear hs
  go_enter Try.func18, Try.ntmps18
  go_wp2
  go_loop [7] (fun i => ∃ k : Nat, k ≤ l.length ∧ i = .int .i64 k ∧ firstOf l = firstOf (l.drop k)) (fun i => l.length - (intOf i).toNat)
  case atStart => exact ⟨0, Nat.zero_le _, rfl, by simp⟩
  case round =>
    obtain ⟨k, hk, rfl, he⟩ := hrel
    have HE := hide he; clear he
    by_cases hlt : k < l.length
    · obtain ⟨b, off, rfl, hc⟩ := HS.out.int hlt
      by_cases h0 : l[k] = 0
      · have hh := firstOf_skip l k hlt h0
        have HH := hide hh; clear hh
        go_wp2
        go_round
        case rel => exact ⟨k + 1, by omega, by go_num, by rw [HE.out, HH.out]⟩
        case measure => simp [intOf]; omega
      · have hh := firstOf_hit l k hlt h0
        have HH := hide hh; clear hh
        go_wp2
        go_ret
        exact ⟨by rw [HE.out, HH.out]; rfl, rfl⟩
    · go_wp2
      go_ret
      exact ⟨by rw [HE.out, List.drop_eq_nil_of_le (by omega)]; rfl, rfl⟩
section
variable (W : World) (n : Nat)
theorem first2 (e0 e1 : Int) (hn : W.heap.size = n) : Calls Try.prog 18 #[.slice (some ⟨n, 0, none⟩) 2 2] (W.alloc (.cells #[.int .i64 e0, .int .i64 e1] 28)) fun x w' =>
    x = .returned (.int .i64 (firstOf [e0, e1])) ∧ (W.alloc (.cells #[.int .i64 e0, .int .i64 e1] 28)) = w' := first_any _ 2 [e0, e1] _ (Sl.new W (iv [e0, e1]) _ n hn) (by simp)
theorem first2d (e0 e1 : Int) (hn : W.heap.size = n) : Calls Try.prog 18 #[.slice (some ⟨n, 0, none⟩) 2 2] (W.alloc (.cells #[.int .i64 e0, .int .i64 e1] 28)).drew fun x w' =>
    x = .returned (.int .i64 (firstOf [e0, e1])) ∧ (W.alloc (.cells #[.int .i64 e0, .int .i64 e1] 28)).drew = w' := first_any _ 2 [e0, e1] _ (Sl.new W (iv [e0, e1]) _ n hn).drew (by simp)
theorem first3 (e0 e1 e2 : Int) (hn : W.heap.size = n) : Calls Try.prog 18 #[.slice (some ⟨n, 0, none⟩) 3 3] (W.alloc (.cells #[.int .i64 e0, .int .i64 e1, .int .i64 e2] 28)) fun x w' =>
    x = .returned (.int .i64 (firstOf [e0, e1, e2])) ∧ (W.alloc (.cells #[.int .i64 e0, .int .i64 e1, .int .i64 e2] 28)) = w' := first_any _ 3 [e0, e1, e2] _ (Sl.new W (iv [e0, e1, e2]) _ n hn) (by simp)
theorem first3d (e0 e1 e2 : Int) (hn : W.heap.size = n) : Calls Try.prog 18 #[.slice (some ⟨n, 0, none⟩) 3 3] (W.alloc (.cells #[.int .i64 e0, .int .i64 e1, .int .i64 e2] 28)).drew fun x w' =>
    x = .returned (.int .i64 (firstOf [e0, e1, e2])) ∧ (W.alloc (.cells #[.int .i64 e0, .int .i64 e1, .int .i64 e2] 28)).drew = w' := first_any _ 3 [e0, e1, e2] _ (Sl.new W (iv [e0, e1, e2]) _ n hn).drew (by simp)
end

/-- e unless b -/
def unlessE (b : Bool) (e : Int) : Int := if b then 0 else e
theorem unless_any (b : Bool) (e : Int) (w : World) : Calls Try.prog 24 #[.bool b, .int .i64 e] w fun x w' => x = .returned (.int .i64 (unlessE b e)) ∧ w = w' := by
  cases b <;> (go_enter Try.func24, Try.ntmps24; go_wp2; go_ret; exact ⟨rfl, rfl⟩)
theorem within_sy (n lo hi : Int) (w : World) : Calls Try.prog 25 #[.int .i64 n, .int .i64 lo, .int .i64 hi] w fun x w' => x = .returned (.bool (withinB n lo hi)) ∧ w = w' := by
  unfold withinB
  by_cases h : lo ≤ n
  · go_enter Try.func25, Try.ntmps25; go_wp2; go_ret; exact ⟨by simp [h], rfl⟩
  · go_enter Try.func25, Try.ntmps25; go_wp2; go_ret; exact ⟨by rw [decide_eq_false (by omega : ¬ lo ≤ n)]; rfl, rfl⟩
theorem small_sy (n m : Int) (h : -9223372036854775807 ≤ m) (h' : m ≤ 9223372036854775807) (w : World) : Calls Try.prog 54 #[.int .i64 n, .int .i64 m] w fun x w' => x = .returned (.bool (withinB n (-m) m)) ∧ w = w' := by
  go_enter Try.func54, Try.ntmps54
  go_wp2_with (go_at_call 25; refine (within_sy _ _ _ _).mono ?_; rintro e w' ⟨rfl, rfl⟩)
  go_ret
  exact ⟨rfl, rfl⟩
/-! lists of whole complex numbers as cells -/
def gv (h : List (Int × Int)) : List Value := h.flatMap (fun z => [.int .i64 z.1, .int .i64 z.2])
theorem gv_cons (z : Int × Int) (r : List (Int × Int)) : gv (z :: r) = .int .i64 z.1 :: .int .i64 z.2 :: gv r := rfl
theorem gv_len : ∀ h : List (Int × Int), (gv h).length = h.length * 2
  | [] => rfl
  | z :: r => by rw [gv_cons]; simp only [List.length_cons, gv_len r]; omega
theorem gv_at : ∀ (h : List (Int × Int)) (k : Nat) (hk : k < h.length), (gv h)[k * 2]? = some (.int .i64 h[k].1) ∧ (gv h)[k * 2 + 1]? = some (.int .i64 h[k].2)
  | z :: r, 0, _ => by rw [gv_cons]; simp
  | z :: r, k + 1, hk => by
    have e : (k + 1) * 2 = k * 2 + 1 + 1 := by omega
    rw [gv_cons, e]
    have := gv_at r k (by simpa using hk)
    simpa using this
theorem gv_append (a b : List (Int × Int)) : gv (a ++ b) = gv a ++ gv b := by simp [gv]
theorem gv_one (h : List (Int × Int)) : ∀ u ∈ gv h, u.oneCell' = true := by
  intro u hu
  simp only [gv, List.mem_flatMap] at hu
  obtain ⟨z, _, hz⟩ := hu
  simp at hz
  rcases hz with rfl | rfl <;> rfl
theorem Sl.one {w : World} {A : Option Addr} {xs : List Value} (hs : Sl w A xs) {b off : Nat} (e : A = some ⟨b, off, none⟩) {j : Nat} {u : Value} (h : xs[j]? = some u) : w.cell? ⟨b, off + j, none⟩ = some u := by
  obtain ⟨hj, hu⟩ := List.getElem?_eq_some_iff.1 h
  obtain ⟨b', off', e', c⟩ := hs _ hj
  rw [e] at e'
  injection e' with e'
  injection e' with e3 e4
  subst e3 e4
  rw [c, hu]
theorem Sl.at2 {w : World} {A : Option Addr} {h : List (Int × Int)} (hs : Sl w A (gv h)) {k : Nat} (hk : k < h.length) :
    ∃ b off, A = some ⟨b, off, none⟩ ∧ w.cell? ⟨b, off + k * 2, none⟩ = some (.int .i64 h[k].1) ∧ w.cell? ⟨b, off + k * 2 + 1, none⟩ = some (.int .i64 h[k].2) := by
  obtain ⟨h1, h2⟩ := gv_at h k hk
  obtain ⟨b, off, e, _⟩ := hs _ (List.getElem?_eq_some_iff.1 h1).1
  exact ⟨b, off, e, hs.one e h1, hs.one e h2⟩

/-! the first index of which something holds -/
def idxFrom (p : Int → Bool) : List Int → Int → Int
  | [], _ => -1
  | x :: r, k => if p x then k else idxFrom p r (k + 1)
theorem idx_hit (p : Int → Bool) (l : List Int) (k : Nat) (hk : k < l.length) (h0 : p l[k] = true) (i : Int) : idxFrom p (l.drop k) i = i := by
  rw [List.drop_eq_getElem_cons hk]; exact if_pos h0
theorem idx_skip (p : Int → Bool) (l : List Int) (k : Nat) (hk : k < l.length) (h0 : p l[k] = false) (i : Int) : idxFrom p (l.drop k) i = idxFrom p (l.drop (k+1)) (i+1) := by
  rw [List.drop_eq_getElem_cons hk]; exact if_neg (by simp [h0])

/-- how many antennas are on -/
theorem indexFunc0 (K : FuncId) (p : Int → Bool) (A : Option Addr) (c : Nat) (l : List Int) (w : World)
    (hK : ∀ args W, (callFunc K args).run Try.prog W = .ok (.enter K args) W)
    (hp : ∀ x, Calls Try.prog K #[.int .i64 x] w fun e w' => e = .returned (.bool (p x)) ∧ w = w')
    (hs : Sl w A (iv l)) (hl : l.length ≤ 1000000) :
    Calls Try.prog 52 #[.slice A l.length c, .func (.func K) #[] #[]] w fun x w' => x = .returned (.int .i64 (idxFrom p l 0)) ∧ w = w' := by
  have HP := Lib.hid hp
  clear hp
  have HS := Lib.hid hs
  clear hs
  go_enter Try.func52, Try.ntmps52
  go_wp2
  go_loop [8] (fun i => ∃ k : Nat, k ≤ l.length ∧ i = .int .i64 k ∧ idxFrom p l 0 = idxFrom p (l.drop k) k) (fun i => l.length - (intOf i).toNat)
  case atStart => exact ⟨0, Nat.zero_le _, rfl, by simp⟩
  case round =>
    obtain ⟨k, hk, rfl, he⟩ := hrel
    have HE := Lib.hid he
    clear he
    by_cases hlt : k < l.length
    · obtain ⟨b, off, rfl, hc⟩ := HS.out.int hlt
      cases h0 : p l[k]
      · have hh := idx_skip p l k hlt h0
        have HH := Lib.hid hh; clear hh
        have H0 := Lib.hid h0; clear h0
        go_wp2_with fail
        refine (HP.out _).mono ?_
        rintro e w' ⟨rfl, rfl⟩
        rw [H0.out]
        go_wp2
        go_round
        case rel => exact ⟨k + 1, by omega, by go_num, by rw [HE.out, HH.out]; simp⟩
        case measure => simp [intOf]; omega
      · have hh := idx_hit p l k hlt h0
        have HH := Lib.hid hh; clear hh
        have H0 := Lib.hid h0; clear h0
        go_wp2_with fail
        refine (HP.out _).mono ?_
        rintro e w' ⟨rfl, rfl⟩
        rw [H0.out]
        go_wp2
        go_ret
        exact ⟨by rw [HE.out, HH.out]; rfl, rfl⟩
    · go_wp2
      go_ret
      exact ⟨by rw [HE.out, List.drop_eq_nil_of_le (by omega)]; rfl, rfl⟩
theorem containsFunc0 (K : FuncId) (p : Int → Bool) (A : Option Addr) (c : Nat) (l : List Int) (w : World)
    (hK : ∀ args W, (callFunc K args).run Try.prog W = .ok (.enter K args) W)
    (hp : ∀ x, Calls Try.prog K #[.int .i64 x] w fun e w' => e = .returned (.bool (p x)) ∧ w = w')
    (hs : Sl w A (iv l)) (hl : l.length ≤ 1000000) :
    Calls Try.prog 45 #[.slice A l.length c, .func (.func K) #[] #[]] w fun x w' => x = .returned (.bool (decide (0 ≤ idxFrom p l 0))) ∧ w = w' := by
  have H := Lib.hid (indexFunc0 K p A c l w hK hp hs hl)
  clear hp hs
  go_enter Try.func45, Try.ntmps45
  go_wp2_with fail
  refine H.out.mono ?_
  rintro e w' ⟨rfl, rfl⟩
  go_wp2
  go_ret
  exact ⟨rfl, rfl⟩
end Go.Proofs.Ytehcmhblppjalaa
