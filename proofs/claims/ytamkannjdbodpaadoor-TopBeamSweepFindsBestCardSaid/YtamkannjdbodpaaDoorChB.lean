import Derived.Test.YtamkannjdbodpaaDoorChA
import Derived.Test.YtamkannjdbodpaaDoorEqs
namespace Go.Proofs.YtamkannjdbodpaaDoor
open Go.RowKit Go.WideShapes Go.ChangeShapes

theorem ga_under : Tryd.prog.underlying 38 = some (.struct (Tryd.prog.fieldsOf 38)) := by kernel_rfl
theorem ga_held : Tryd.prog.stoodInHeld 38 = false := by kernel_rfl
set_option maxRecDepth 100000 in
theorem ga_neq (a b a' b' : Int) (w : World) : (binOp .neq 38 (.agg #[.int .i64 a, .int .i64 b]) (.agg #[.int .i64 a', .int .i64 b'])).run Tryd.prog w = .ok (.bool (!(a == a' && b == b'))) w := by
  rw [run_neq_struct, run_equalIn_agg (d := 9999) (ht := ga_under) (hp := ga_held)]
  simp [go_sem]
  (repeat' split) <;> simp_all
set_option maxRecDepth 100000 in
theorem ga_eql (a b a' b' : Int) (w : World) : (binOp .eql 38 (.agg #[.int .i64 a, .int .i64 b]) (.agg #[.int .i64 a', .int .i64 b'])).run Tryd.prog w = .ok (.bool (a == a' && b == b')) w := by
  rw [run_eql_struct, run_equalIn_agg (d := 9999) (ht := ga_under) (hp := ga_held)]
  simp [go_sem]
  (repeat' split) <;> simp_all
set_option maxRecDepth 100000 in
theorem channelErr_beam (A : Option Addr) (c : Nat) (h : List (Int × Int)) (w : World) (hs : Sl w A (gv h)) (hl : h.length ≤ 1000) :
    Calls Tryd.prog 44 #[.slice A h.length c] w fun e w' => e = .returned (.int .i64 (chE h)) ∧ Below w.heap.size w w' := by
  have hK := hide (enters Tryd.func69 (by kernel_rfl) rfl)
  have HS := hide hs; clear hs
  have HE := hide (show chE h = firstOf [unlessE (decide (0 < (h.length : Int))) 10, unlessE (decide ((h.length : Int) ≤ 8)) 8, unlessE (!(h.any greatG)) 2] from rfl)
  go_enter Tryd.func44, Tryd.ntmps44
  go_wp2_with (first
    | (go_at_call 68; go_must (refine (containsFuncG 69 greatG A c h _ hK.out (fun z W => channelErr1_beam z W) HS.out hl).mono ?_; rintro e w1 ⟨rfl, hb1⟩; simp only []))
    | (go_at_call 36; refine (unless_any _ _ _).mono ?_; rintro e w' ⟨rfl, rfl⟩; simp only [])
    | (go_at_call 35; refine (first3 _ _ _ _ _ (by simp)).mono ?_; rintro e w' ⟨rfl, rfl⟩; simp only []))
  go_ret
  exact ⟨by rw [HE.out]; first | rfl | simp, by first | exact Below.step hb1 (by go_grown) | go_grown⟩

/-- complex numbers that stand for whole ones, one cell each -/
def ChIs : List Value → List (Int × Int) → Prop
  | [], [] => True
  | v :: r, z :: h => (∃ x y, v = .complex .f64 x y ∧ IsC x y z) ∧ ChIs r h
  | _, _ => False
theorem ChIs.len : ∀ {xs : List Value} {h : List (Int × Int)}, ChIs xs h → xs.length = h.length
  | [], [], _ => rfl
  | _ :: _, [], h => h.elim
  | [], _ :: _, h => h.elim
  | _ :: _, _ :: _, ⟨_, hr⟩ => by simp [ChIs.len hr]
theorem ChIs.snoc : ∀ {xs : List Value} {h : List (Int × Int)} {x y : Nat} {z : Int × Int}, ChIs xs h → IsC x y z → ChIs (xs ++ [.complex .f64 x y]) (h ++ [z])
  | [], [], x, y, _, _, hz => ⟨⟨x, y, rfl, hz⟩, trivial⟩
  | _ :: _, [], _, _, _, h, _ => h.elim
  | [], _ :: _, _, _, _, h, _ => h.elim
  | _ :: _, _ :: _, _, _, _, ⟨hv, hr⟩, hz => ⟨hv, ChIs.snoc hr hz⟩
theorem ChIs.get : ∀ {xs : List Value} {h : List (Int × Int)}, ChIs xs h → ∀ k (hk : k < h.length), ∃ x y, xs[k]? = some (.complex .f64 x y) ∧ IsC x y h[k]
  | [], [], _, k, hk => absurd hk (by simp)
  | _ :: _, [], h, _, _ => h.elim
  | [], _ :: _, h, _, _ => h.elim
  | _ :: _, _ :: _, ⟨⟨x, y, e, hz⟩, _⟩, 0, _ => ⟨x, y, by simp [e], hz⟩
  | _ :: _, _ :: _, ⟨_, hr⟩, k + 1, hk => by
    obtain ⟨x, y, h1, h2⟩ := ChIs.get hr k (by simpa using hk)
    exact ⟨x, y, by simpa using h1, by simpa using h2⟩
/-- parts of at most m in size, all of them -/
def Small (m : Int) (h : List (Int × Int)) : Prop := ∀ z ∈ h, cle m z

theorem cx_int : (Tryd.prog.underlying 3).isSome = true := by kernel_rfl
theorem neg_float (y : Nat) (w : World) : (Op.unary .neg (.float .f64 y)).run Tryd.prog w = .ok (.float .f64 (Op.negFloat .f64 y)) w := rfl
/-- the inner product, k summands of it -/
def innerZ (g h : List (Int × Int)) : Nat → Int × Int
  | 0 => (0, 0)
  | k + 1 => cadd (innerZ g h k) (cmul (cconj (g[k]?.getD (0, 0))) (h[k]?.getD (0, 0)))
theorem cadd_le {m n : Int} {z w : Int × Int} (h : cle m z) (h' : cle n w) : cle (m + n) (cadd z w) := by unfold cle cadd at *; dsimp only; omega
theorem cconj_le {m : Int} {z : Int × Int} (h : cle m z) : cle m (cconj z) := by unfold cle cconj at *; dsimp only; omega
theorem cmul_le {m n : Int} {z w : Int × Int} (hz : cle m z) (hw : cle n w) : cle (2 * (m * n)) (cmul z w) := by
  unfold cle at hz hw
  have p1 := mul_bd2 hz.1 hz.2.1 hw.1 hw.2.1
  have p2 := mul_bd2 hz.2.2.1 hz.2.2.2 hw.2.2.1 hw.2.2.2
  have p3 := mul_bd2 hz.1 hz.2.1 hw.2.2.1 hw.2.2.2
  have p4 := mul_bd2 hz.2.2.1 hz.2.2.2 hw.1 hw.2.1
  unfold cle cmul; dsimp only; omega
theorem Small.get {m : Int} {h : List (Int × Int)} (hs : Small m h) (hm : 0 ≤ m) (k : Nat) : cle m (h[k]?.getD (0, 0)) := by
  by_cases hk : k < h.length
  · rw [List.getElem?_eq_getElem hk, Option.getD_some]; exact hs _ (List.getElem_mem hk)
  · rw [List.getElem?_eq_none (by omega), Option.getD_none]; unfold cle; dsimp only; omega
theorem innerZ_le {m n : Int} {g h : List (Int × Int)} (hg : Small m g) (hh : Small n h) (hm : 0 ≤ m) (hn : 0 ≤ n) : ∀ k : Nat, cle (k * (2 * (m * n))) (innerZ g h k)
  | 0 => by simp [innerZ, cle]
  | k + 1 => by
    have h1 := cadd_le (innerZ_le hg hh hm hn k) (cmul_le (cconj_le (hg.get hm k)) (hh.get hn k))
    have e : ((k + 1 : Nat) : Int) * (2 * (m * n)) = k * (2 * (m * n)) + 2 * (m * n) := by push_cast; rw [Int.add_mul, Int.one_mul]
    rw [e]; exact h1

end Go.Proofs.YtamkannjdbodpaaDoor
