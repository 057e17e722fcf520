import Derived.Test.YtamkannjdbodpaaDoorBeamG
import Derived.Test.YtamkannjdbodpaaDoorBeamJ
namespace Go.Proofs.YtamkannjdbodpaaDoor
open Go.RowKit Go.WideShapes Go.ChangeShapes

/-- a look: the phases of the beam, and the gain P + Q r -/
structure Look where
  l : List Int
  P : Int
  Q : Int
deriving DecidableEq

/-- cells that read as looks; the phases lie in rows of the call's own -/
def LooksAt (w : World) (base : Nat) : List Value → List Look → Prop
  | [], [] => True
  | v :: p :: q :: r, x :: L => (∃ A c, v = .slice A x.l.length c ∧ w.ownsRow base 3 1 v x.l.length (iv x.l)) ∧ p = .int .i64 x.P ∧ q = .int .i64 x.Q ∧ LooksAt w base r L
  | _, _ => False

theorem LooksAt.imp {w w' : World} {base : Nat} (hk : ∀ v n xs, w.ownsRow base 3 1 v n xs → w'.ownsRow base 3 1 v n xs) :
    ∀ {xs : List Value} {L : List Look}, LooksAt w base xs L → LooksAt w' base xs L
  | [], [], _ => trivial
  | [], _ :: _, h => h.elim
  | [_], [], h => h.elim
  | [_], _ :: _, h => h.elim
  | [_, _], [], h => h.elim
  | [_, _], _ :: _, h => h.elim
  | _ :: _ :: _ :: _, [], h => h.elim
  | _ :: _ :: _ :: _, _ :: _, ⟨⟨A, c, e, ho⟩, hp, hq, hr⟩ => ⟨⟨A, c, e, hk _ _ _ ho⟩, hp, hq, LooksAt.imp hk hr⟩
theorem LooksAt.append {w : World} {base : Nat} : ∀ {xs ys : List Value} {L M : List Look}, LooksAt w base xs L → LooksAt w base ys M → LooksAt w base (xs ++ ys) (L ++ M)
  | [], _, [], _, _, h => h
  | [], _, _ :: _, _, h, _ => h.elim
  | [_], _, [], _, h, _ => h.elim
  | [_], _, _ :: _, _, h, _ => h.elim
  | [_, _], _, [], _, h, _ => h.elim
  | [_, _], _, _ :: _, _, h, _ => h.elim
  | _ :: _ :: _ :: _, _, [], _, h, _ => h.elim
  | _ :: _ :: _ :: _, _, _ :: _, _, ⟨ho, hp, hq, hr⟩, h' => ⟨ho, hp, hq, LooksAt.append hr h'⟩
theorem LooksAt.one {w : World} {base : Nat} {A : Option Addr} {c : Nat} {l : List Int} {P Q : Int} (h : w.ownsRow base 3 1 (.slice A l.length c) l.length (iv l)) : LooksAt w base [.slice A l.length c, .int .i64 P, .int .i64 Q] [⟨l, P, Q⟩] :=
  ⟨⟨A, c, rfl, h⟩, rfl, rfl, trivial⟩
theorem LooksAt.len {w : World} {base : Nat} : ∀ {xs : List Value} {L : List Look}, LooksAt w base xs L → xs.length = L.length * 3
  | [], [], _ => rfl
  | [], _ :: _, h => h.elim
  | [_], [], h => h.elim
  | [_], _ :: _, h => h.elim
  | [_, _], [], h => h.elim
  | [_, _], _ :: _, h => h.elim
  | _ :: _ :: _ :: _, [], h => h.elim
  | _ :: _ :: _ :: r, _ :: L, ⟨_, _, _, hr⟩ => by
    have := LooksAt.len hr
    simp only [List.length_cons]
    omega
/-- each look's cells are of one cell -/
theorem LooksAt.oneCell {w : World} {base : Nat} : ∀ {xs : List Value} {L : List Look}, LooksAt w base xs L → ∀ u ∈ xs, u.oneCell' = true
  | [], [], _ => by simp
  | [], _ :: _, h => h.elim
  | [_], [], h => h.elim
  | [_], _ :: _, h => h.elim
  | [_, _], [], h => h.elim
  | [_, _], _ :: _, h => h.elim
  | _ :: _ :: _ :: _, [], h => h.elim
  | v :: p :: q :: r, _ :: L, ⟨⟨A, c, e, _⟩, hp, hq, hr⟩ => by
    intro u hu
    simp only [List.mem_cons] at hu
    rcases hu with rfl | rfl | rfl | hu
    · rw [e]; rfl
    · rw [hp]; rfl
    · rw [hq]; rfl
    · exact LooksAt.oneCell hr u hu

/-- two rows of unlike element types share no block -/
theorem rows_ne {w : World} {base base' e e' size size' n n' : Nat} {v v' : Value} {xs xs' : List Value} (h : w.ownsRow base e size v n xs) (h' : w.ownsRow base' e' size' v' n' xs') (hne : e ≠ e') : v.ownBlock = none ∨ v.ownBlock ≠ v'.ownBlock := by
  rcases h.2 with ⟨rfl, _⟩ | ⟨g, cap, cur, rfl, _, hh, _⟩
  · exact .inl rfl
  · rcases h'.2 with ⟨rfl, _⟩ | ⟨g', cap', cur', rfl, _, hh', _⟩
    · exact .inr (by simp [Value.ownBlock])
    · refine .inr (fun he => ?_)
      have : g = g' := by simpa [Value.ownBlock] using he
      subst this
      rw [hh] at hh'
      injection hh' with hh'
      injection hh' with _ ht
      exact hne ht
/-- rows of the call's own below a world's size are kept -/
theorem own_bel {w w' : World} {base e size n : Nat} {v : Value} {xs : List Value} (h : w.ownsRow base e size v n xs) (hb : Below w.heap.size w w') : w'.ownsRow base e size v n xs :=
  h.kept (row := none) ⟨hb.os, hb.tape, hb.output, hb.size, fun k hk _ => hb.block k hk⟩ (by cases hv : v.ownBlock <;> simp)
theorem LooksAt.bel {w w' : World} {base : Nat} {xs : List Value} {L : List Look} (h : LooksAt w base xs L) (hb : Below w.heap.size w w') : LooksAt w' base xs L := h.imp fun _ _ _ ho => own_bel ho hb

/-- the gain of a steering beam of which one antenna in so many is on -/
def lookOf (every k step : Int) : Look := ⟨steerL k every 8, (resp (steerL k every 8) step).P, (resp (steerL k every 8) step).Q⟩
/-- the step behind s stages, and the looks of the stage s -/
def kAt (step : Int) : Nat → Int
  | 0 => 0
  | s + 1 => if 0 < sgnPQ ((lookOf (2 ^ (2 - s)) (kAt step s + 2 ^ s) step).P - (lookOf (2 ^ (2 - s)) (kAt step s) step).P) ((lookOf (2 ^ (2 - s)) (kAt step s + 2 ^ s) step).Q - (lookOf (2 ^ (2 - s)) (kAt step s) step).Q) then kAt step s + 2 ^ s else kAt step s
def looksAt (step : Int) : Nat → List Look
  | 0 => []
  | s + 1 => looksAt step s ++ [lookOf (2 ^ (2 - s)) (kAt step s) step, lookOf (2 ^ (2 - s)) (kAt step s + 2 ^ s) step]
theorem kAt_bd (step : Int) : ∀ s, s ≤ 3 → 0 ≤ kAt step s ∧ kAt step s < 2 ^ s
  | 0, _ => by simp [kAt]
  | s + 1, h => by
    have ih := kAt_bd step s (by omega)
    have e : (2 : Int) ^ (s + 1) = 2 * 2 ^ s := by rw [Int.pow_succ, Int.mul_comm]
    rw [kAt, e]
    split <;> omega
theorem looks_example : (looksAt 5 3).length = 6 ∧ kAt 5 3 = 5 := by decide +kernel
theorem looks_end (step : Int) (h0 : 0 ≤ step) (h7 : step ≤ 7) : kAt step 3 = step := by
  rcases (by omega : step = 0 ∨ step = 1 ∨ step = 2 ∨ step = 3 ∨ step = 4 ∨ step = 5 ∨ step = 6 ∨ step = 7) with h | h | h | h | h | h | h | h <;> subst h <;> decide +kernel
end Go.Proofs.YtamkannjdbodpaaDoor
