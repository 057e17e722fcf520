import Derived.Test.YtamkannjdbodpaaDoorBeamD
import Derived.Lib.Join
import Derived.Lib.Index
namespace Go.Proofs.YtamkannjdbodpaaDoor

/-! texts of beams: the plain side: cut at blanks, joined with blanks, a piece and its phase -/
abbrev Bs := List UInt8
def cutL : Bs → List Bs
  | [] => [[]]
  | c :: r => if c = 32 then [] :: cutL r else match cutL r with
    | [] => [[c]]
    | h :: t => (c :: h) :: t
theorem cutL_cons (c : UInt8) (r : Bs) : cutL (c :: r) = if c = 32 then [] :: cutL r else match cutL r with
    | [] => [[c]]
    | h :: t => (c :: h) :: t := rfl
theorem cutL_ne : ∀ l : Bs, cutL l ≠ []
  | [] => by simp [cutL]
  | c :: r => by
    unfold cutL
    split
    · simp
    · split <;> simp
theorem cutL_end : ∀ l : Bs, (∀ x ∈ l, x ≠ 32) → cutL l = [l]
  | [], _ => rfl
  | c :: r, h => by
    unfold cutL
    rw [if_neg (h c (by simp)), cutL_end r (fun x hx => h x (by simp [hx]))]
theorem cutL_app : ∀ (a r : Bs), (∀ x ∈ a, x ≠ 32) → cutL (a ++ 32 :: r) = a :: cutL r
  | [], r, _ => by simp [cutL]
  | c :: a, r, h => by
    rw [List.cons_append, cutL_cons, if_neg (h c (by simp)), cutL_app a r (fun x hx => h x (by simp [hx]))]
/-- the first blank lies behind k letters -/
theorem cutL_hit {l : Bs} {k : Nat} (hk : k < l.length) (hno : ∀ x ∈ l.take k, x ≠ 32) (h : l[k] = 32) : cutL l = l.take k :: cutL (l.drop (k + 1)) := by
  have e : l = l.take k ++ 32 :: l.drop (k + 1) := by
    rw [← h, List.getElem_cons_drop, List.take_append_drop]
  conv => lhs; rw [e]
  exact cutL_app _ _ hno
theorem cutL_len : ∀ l : Bs, (cutL l).length ≤ l.length + 1
  | [] => by simp [cutL]
  | c :: r => by
    have := cutL_len r
    unfold cutL
    split
    · simp; omega
    · split
      · simp
      · rename_i h t e
        rw [e] at this
        simp at this ⊢; omega
/-- a piece's phase -/
def phO (w : Bs) : Option Int := if w = [45] then some (-1) else match w with
  | [c] => if 48 ≤ c.toNat ∧ c.toNat ≤ 55 then some ((c.toNat : Int) - 48) else none
  | _ => none
def okP (w : Bs) : Bool := (phO w).isSome
def phV (w : Bs) : Int := (phO w).getD 0
/-- a text's phases, and its error -/
def prsE (s : Bs) : Int := if (cutL s).all okP = true then (chk ((cutL s).map phV)).2 else 7
def prsL (s : Bs) : List Int := if prsE s = 0 then (cutL s).map phV else []
theorem all_takeS {α : Type} (p : α → Bool) (l : List α) (k : Nat) (hk : k < l.length) : (l.take (k + 1)).all p = ((l.take k).all p && p l[k]) := by
  rw [List.take_succ_eq_append_getElem hk, List.all_append]; simp
theorem all_badAt {α : Type} (p : α → Bool) (l : List α) (k : Nat) (hk : k < l.length) (h : p l[k] = false) : l.all p = false := by
  rw [List.all_eq_false]; exact ⟨l[k], List.getElem_mem hk, by simp [h]⟩
/-- a phase's word -/
def wdOf (n : Int) : Bs := if n = -1 then [45] else if 0 ≤ n ∧ n ≤ 7 then [UInt8.ofNat (48 + n.toNat)] else [63]
def fmtL (l : List Int) : Bs := Lib.join (l.map wdOf) [32]
theorem wd_no32 (n : Int) : ∀ x ∈ wdOf n, x ≠ 32 := by
  unfold wdOf
  split
  · simp
  · split
    · rename_i h
      intro x hx
      have e : x = UInt8.ofNat (48 + n.toNat) := by simpa using hx
      obtain h8 : n = 0 ∨ n = 1 ∨ n = 2 ∨ n = 3 ∨ n = 4 ∨ n = 5 ∨ n = 6 ∨ n = 7 := by omega
      rw [e]
      rcases h8 with rfl | rfl | rfl | rfl | rfl | rfl | rfl | rfl <;> decide
    · simp
theorem ph_wd {n : Int} (h : -1 ≤ n ∧ n ≤ 7) : phO (wdOf n) = some n := by
  obtain h8 : n = -1 ∨ n = 0 ∨ n = 1 ∨ n = 2 ∨ n = 3 ∨ n = 4 ∨ n = 5 ∨ n = 6 ∨ n = 7 := by omega
  rcases h8 with rfl | rfl | rfl | rfl | rfl | rfl | rfl | rfl | rfl <;> decide
theorem join_one (w : Bs) : Lib.join [w] [32] = w := by simp [Lib.join, List.intercalate]
theorem join_cons (w x : Bs) (r : List Bs) : Lib.join (w :: x :: r) [32] = w ++ 32 :: Lib.join (x :: r) [32] := by
  simp [Lib.join, List.intercalate]
theorem cut_join : ∀ ws : List Bs, ws ≠ [] → (∀ w ∈ ws, ∀ x ∈ w, x ≠ 32) → cutL (Lib.join ws [32]) = ws
  | [], h, _ => absurd rfl h
  | [w], _, h => by rw [join_one]; exact cutL_end w (h w (by simp))
  | w :: x :: r, _, h => by
    rw [join_cons, cutL_app w _ (h w (by simp)), cut_join (x :: r) (by simp) (fun u hu => h u (by simp [hu]))]
theorem join_snoc : ∀ (ws : List Bs) (w : Bs), ws ≠ [] → Lib.join (ws ++ [w]) [32] = Lib.join ws [32] ++ 32 :: w
  | [], _, h => absurd rfl h
  | [a], w, _ => by rw [List.cons_append, List.nil_append, join_cons, join_one, join_one]
  | a :: b :: r, w, _ => by
    have := join_snoc (b :: r) w (by simp)
    rw [List.cons_append, List.cons_append, join_cons, join_cons, ← List.cons_append, this]; simp
theorem fmt_snoc (l : List Int) (k : Nat) (hk : k < l.length) (h0 : 0 < k) : fmtL (l.take (k + 1)) = fmtL (l.take k) ++ 32 :: wdOf l[k] := by
  unfold fmtL
  rw [List.take_succ_eq_append_getElem hk, List.map_append, List.map_singleton, join_snoc]
  intro e
  rw [List.map_eq_nil_iff, List.take_eq_nil_iff] at e
  rcases e with e | e
  · omega
  · subst e; simp at hk
theorem fmt_one (l : List Int) (hk : 0 < l.length) : fmtL (l.take 1) = wdOf l[0] := by
  unfold fmtL
  match l, hk with
  | a :: r, _ => simp [join_one]
/-- a right beam is read back -/
theorem prs_fmt {l : List Int} (h : (chk l).2 = 0) : prsE (fmtL l) = 0 ∧ prsL (fmtL l) = l := by
  obtain ⟨h1, h2, h3, _⟩ := chk_ok l h
  have hin : ∀ n ∈ l, -1 ≤ n ∧ n ≤ 7 := h3
  have hc : cutL (fmtL l) = l.map wdOf := cut_join _ (by intro e; have := congrArg List.length e; simp at this; subst this; simp at h1) (fun w hw => by
    obtain ⟨n, _, rfl⟩ := List.mem_map.1 hw
    exact wd_no32 n)
  have ha : (l.map wdOf).all okP = true := by
    rw [List.all_eq_true]
    intro w hw
    obtain ⟨n, hn, rfl⟩ := List.mem_map.1 hw
    unfold okP
    rw [ph_wd (hin n hn)]; rfl
  have hm : (l.map wdOf).map phV = l := by
    rw [List.map_map]
    conv => rhs; rw [← List.map_id l]
    refine List.map_congr_left fun n hn => ?_
    show (phO (wdOf n)).getD 0 = n
    rw [ph_wd (hin n hn)]; rfl
  have he : prsE (fmtL l) = 0 := by unfold prsE; rw [hc, if_pos ha, hm]; exact h
  refine ⟨he, ?_⟩
  unfold prsL
  rw [if_pos he, hc, hm]
theorem fmt_len (l : List Int) (h : l.length ≤ 10) : (fmtL l).length ≤ 20 := by
  have hw : ∀ n, (wdOf n).length = 1 := fun n => by unfold wdOf; split <;> (try split) <;> rfl
  have key : ∀ l : List Int, (fmtL l).length ≤ 2 * l.length := by
    intro l
    induction l with
    | nil => simp [fmtL, Lib.join]
    | cons a r ih =>
      cases r with
      | nil => simp [fmtL, join_one, hw]
      | cons b r =>
        unfold fmtL at ih ⊢
        rw [List.map_cons, List.map_cons, join_cons]
        rw [List.map_cons] at ih
        simp [hw] at ih ⊢
        omega
  have := key l
  omega
end Go.Proofs.YtamkannjdbodpaaDoor
