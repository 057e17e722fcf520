import Derived.Test.YtfolipkbcibgdaaGpD
namespace Go.Proofs.Ytfolipkbcibgdaa
open Go.RowKit Go.WideShapes Go.ChangeShapes

/-! the example's text -/
def exT : Bs := [99, 97, 114, 114, 105, 101, 114, 32, 99, 32, 52, 32, 52, 56, 10, 112, 97, 114, 116, 32, 48, 32, 48, 32, 52, 10, 115, 105, 103, 110, 97, 108, 32, 115, 121, 110, 99, 32, 48, 32, 50, 48, 32, 48, 32, 48, 32, 50, 32, 50, 32, 48, 32, 50, 32, 49, 32, 48, 10, 115, 105, 103, 110, 97, 108, 32, 98, 114, 111, 97, 100, 99, 97, 115, 116, 32, 48, 32, 50, 48, 32, 48, 32, 48, 32, 52, 32, 50, 32, 48, 32, 50, 32, 49, 32, 48, 10, 115, 105, 103, 110, 97, 108, 32, 99, 111, 110, 116, 114, 111, 108, 32, 48, 32, 49, 32, 48, 32, 45, 32, 48, 32, 49, 32, 48, 32, 52, 32, 49, 32, 48, 10, 115, 105, 103, 110, 97, 108, 32, 114, 101, 102, 101, 114, 101, 110, 99, 101, 32, 48, 32, 53, 32, 48, 32, 45, 32, 56, 32, 49, 32, 48, 32, 52, 32, 54, 32, 49, 10]
def exL : List Bs := [[99, 97, 114, 114, 105, 101, 114, 32, 99, 32, 52, 32, 52, 56], [112, 97, 114, 116, 32, 48, 32, 48, 32, 52], [115, 105, 103, 110, 97, 108, 32, 115, 121, 110, 99, 32, 48, 32, 50, 48, 32, 48, 32, 48, 32, 50, 32, 50, 32, 48, 32, 50, 32, 49, 32, 48], [115, 105, 103, 110, 97, 108, 32, 98, 114, 111, 97, 100, 99, 97, 115, 116, 32, 48, 32, 50, 48, 32, 48, 32, 48, 32, 52, 32, 50, 32, 48, 32, 50, 32, 49, 32, 48], [115, 105, 103, 110, 97, 108, 32, 99, 111, 110, 116, 114, 111, 108, 32, 48, 32, 49, 32, 48, 32, 45, 32, 48, 32, 49, 32, 48, 32, 52, 32, 49, 32, 48], [115, 105, 103, 110, 97, 108, 32, 114, 101, 102, 101, 114, 101, 110, 99, 101, 32, 48, 32, 53, 32, 48, 32, 45, 32, 56, 32, 49, 32, 48, 32, 52, 32, 54, 32, 49]]
def exW : List (List (Bs × Nat)) := [[([99, 97, 114, 114, 105, 101, 114], 1), ([99], 9), ([52], 11), ([52, 56], 13)], [([112, 97, 114, 116], 1), ([48], 6), ([48], 8), ([52], 10)], [([115, 105, 103, 110, 97, 108], 1), ([115, 121, 110, 99], 8), ([48], 13), ([50, 48], 15), ([48], 18), ([48], 20), ([50], 22), ([50], 24), ([48], 26), ([50], 28), ([49], 30), ([48], 32)], [([115, 105, 103, 110, 97, 108], 1), ([98, 114, 111, 97, 100, 99, 97, 115, 116], 8), ([48], 18), ([50, 48], 20), ([48], 23), ([48], 25), ([52], 27), ([50], 29), ([48], 31), ([50], 33), ([49], 35), ([48], 37)], [([115, 105, 103, 110, 97, 108], 1), ([99, 111, 110, 116, 114, 111, 108], 8), ([48], 16), ([49], 18), ([48], 20), ([45], 22), ([48], 24), ([49], 26), ([48], 28), ([52], 30), ([49], 32), ([48], 34)], [([115, 105, 103, 110, 97, 108], 1), ([114, 101, 102, 101, 114, 101, 110, 99, 101], 8), ([48], 18), ([53], 20), ([48], 22), ([45], 24), ([56], 26), ([49], 28), ([48], 30), ([52], 32), ([54], 34), ([49], 36)]]
def exV : List (List Int) := [[0, 4, 48], [0, 0, 4], [0, 0, 20, 0, 0, 2, 2, 0, 2, 1, 0], [1, 0, 20, 0, 0, 4, 2, 0, 2, 1, 0], [2, 0, 1, 0, -1, 0, 1, 0, 4, 1, 0], [3, 0, 5, 0, -1, 8, 1, 0, 4, 6, 1]]
def exP : List Prt := [⟨0, 0, 4⟩]
def exS : List Sig := [⟨0, 0, 20, 0, 0, 2, 2, 0, 2, 1, 0⟩, ⟨1, 0, 20, 0, 0, 4, 2, 0, 2, 1, 0⟩, ⟨2, 0, 1, 0, -1, 0, 1, 0, 4, 1, 0⟩, ⟨3, 0, 5, 0, -1, 8, 1, 0, 4, 6, 1⟩]
theorem exT_cut : cutL exT = exL ++ [[]] := by decide +kernel
theorem exL_spl : ∀ i (h : i < 6), splL (exL[i]'h) 0 = exW[i]'h := fun i h => by
  rcases (by omega : i = 0 ∨ i = 1 ∨ i = 2 ∨ i = 3 ∨ i = 4 ∨ i = 5) with rfl | rfl | rfl | rfl | rfl | rfl <;> kernel_rfl
theorem exL_len : ∀ i (h : i < 6), (exL[i]'h).length ≤ 1000 := fun i h => by
  rcases (by omega : i = 0 ∨ i = 1 ∨ i = 2 ∨ i = 3 ∨ i = 4 ∨ i = 5) with rfl | rfl | rfl | rfl | rfl | rfl <;> exact Nat.le_of_ble_eq_true rfl
/-- a line's words begin with this word, and read by this form as these numbers -/
structure LineP (ws : List (Bs × Nat)) (W F : Bs) (n : Nat) (V : List Int) : Prop where
  len : ws.length = n + 1
  fl : F.length = n
  vl : V.length = n
  fst : ∀ h : 0 < ws.length, (ws[0]'h).1 = W
  rd : ∀ k (_ : k < n) (h1 : k + 1 < ws.length) (h2 : k < F.length) (h3 : k < V.length), rdO F[k] (ws[k + 1]'h1).1 = some V[k]
def lineB (ws : List (Bs × Nat)) (W F : Bs) (n : Nat) (V : List Int) : Bool :=
  decide (ws.length = n + 1) && decide (F.length = n) && decide (V.length = n) && decide ((ws.map (·.1)).head? = some W) && decide ((ws.tail.map (·.1)).zipWith (fun s f => rdO f s) F = V.map some)
theorem lineP {ws : List (Bs × Nat)} {W F : Bs} {n : Nat} {V : List Int} (h : lineB ws W F n V = true) : LineP ws W F n V := by
  unfold lineB at h
  simp only [Bool.and_eq_true, decide_eq_true_eq] at h
  obtain ⟨⟨⟨⟨h1, h2⟩, h3⟩, h4⟩, h5⟩ := h
  refine ⟨h1, h2, h3, fun h => ?_, fun k hk a b c => ?_⟩
  · cases ws with
    | nil => simp at h
    | cons x r => simpa using h4
  · have h6 := congrArg (fun l => l[k]?) h5
    simp only [List.getElem?_zipWith, List.getElem?_map] at h6
    cases ws with
    | nil => simp at a
    | cons x r =>
      simp only [List.tail_cons] at h6
      have hr : k < r.length := by simpa using a
      rw [List.getElem?_eq_getElem hr, List.getElem?_eq_getElem b, List.getElem?_eq_getElem c] at h6
      simpa using h6
theorem ex_car : LineP (exW[0]) carW carF 3 (exV[0]) := lineP (by decide +kernel)
theorem ex_par : LineP (exW[1]) parW parF 3 (exV[1]) := lineP (by decide +kernel)
theorem ex_sig : ∀ m (_h : m < 4), LineP (exW[m + 2]'(by show m + 2 < 6; omega)) sigW sigF 11 (exV[m + 2]'(by show m + 2 < 6; omega)) := fun m h => by
  rcases (by omega : m = 0 ∨ m = 1 ∨ m = 2 ∨ m = 3) with rfl | rfl | rfl | rfl <;> exact lineP (by kernel_rfl)
theorem ex_sigS : ∀ m (h : m < 4), (exV[m + 2]'(by show m + 2 < 6; omega)) = [(exS[m]'h).kd, (exS[m]'h).pa, (exS[m]'h).pe, (exS[m]'h).of_, (exS[m]'h).sl, (exS[m]'h).sy, (exS[m]'h).sn, (exS[m]'h).bk, (exS[m]'h).bn, (exS[m]'h).st, (exS[m]'h).sh] := fun m h => by
  rcases (by omega : m = 0 ∨ m = 1 ∨ m = 2 ∨ m = 3) with rfl | rfl | rfl | rfl <;> rfl
theorem ex_okN : OkN [99] := ⟨by decide, by decide, fun k hk => by
  have hk0 : k = 0 := by simpa using hk
  subst hk0
  show nmC 0 99 = true
  decide⟩
theorem ex_okC : OkCr 4 48 exP exS := by
  refine ⟨by omega, by omega, by decide, fun p hp => ?_, by decide, fun s hs => ?_⟩
  · simp only [exP, List.mem_singleton] at hp
    subst hp
    exact ⟨by decide, by decide, by decide, by decide, by decide⟩
  · simp only [exS, List.mem_cons, List.not_mem_nil, or_false] at hs
    rcases hs with rfl | rfl | rfl | rfl <;> exact ⟨by decide, by decide, by decide, by decide, by decide, by first | exact .inl rfl | exact .inr ⟨by decide, fun _ => of_decide_eq_true (by kernel_rfl)⟩, by decide, by decide, fun _ => ⟨of_decide_eq_true (by kernel_rfl), of_decide_eq_true (by kernel_rfl)⟩⟩
end Go.Proofs.Ytfolipkbcibgdaa
