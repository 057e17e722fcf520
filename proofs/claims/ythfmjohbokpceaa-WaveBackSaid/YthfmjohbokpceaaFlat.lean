import Derived.Test.YthfmjohbokpceaaWOpens
import Derived.Test.YthfmjohbokpceaaWvN
import Derived.Deep.Slices
namespace Go.Proofs.Ythfmjohbokpceaa
open Go.ChangeShapes Go.WideShapes Go.ChangeAt Go.RowKit Go.Deep

/-! types whose cells are ints alone: arguments of such types, and slices of them, opened -/
def Flat (e : TypeId) (n : Nat) : Prop := Try.prog.cellsOf e = n ∧ ∀ (H : Type) (enc : TypeId × Value → H) (W : World) (base : Nat) (sp : Nat → Bool) (hd : Bool) (fuel : Nat) (cs : List Value) (x : DataW H × List MemPlace),
  DataW.trod enc Try.prog W base sp hd fuel e cs = some x → ∃ zs : List Int, cs = iv zs ∧ zs.length = n ∧ ∀ z ∈ zs, (Lit.int .i64 z).wf = true
set_option maxRecDepth 100000 in
theorem Flat.int : Flat 3 1 := by
  refine ⟨int_one, fun H enc W base sp hd fuel cs x h => ?_⟩
  obtain ⟨z, e, _, w⟩ := DataW.trod_int Try.underlying3 h
  exact ⟨[z], by rw [e]; rfl, rfl, by simpa using w⟩
def FlatF : Nat → List Field → Nat → Prop
  | off, [], n => off = n
  | off, f :: r, n => f.offset = off ∧ ∃ m, Flat f.type m ∧ FlatF (off + m) r n
theorem flat_fields {H : Type} {enc : TypeId × Value → H} {W : World} {base : Nat} {sp : Nat → Bool} {hd : Bool} {fuel : Nat} {cs : List Value} : ∀ (fs : List Field) (off n : Nat), FlatF off fs n →
    (∀ f ∈ fs, ∃ y, DataW.trod enc Try.prog W base sp hd fuel f.type ((cs.drop f.offset).take (Try.prog.cellsOf f.type)) = some y) →
    off ≤ n ∧ ∃ zs : List Int, (cs.drop off).take (n - off) = iv zs ∧ zs.length = n - off ∧ ∀ z ∈ zs, (Lit.int .i64 z).wf = true
  | [], off, n, h, _ => by
    unfold FlatF at h
    subst h
    exact ⟨Nat.le_refl _, [], by simp [iv], by simp, by simp⟩
  | f :: r, off, n, h, hx => by
    obtain ⟨ho, m, hf, hr⟩ := h
    obtain ⟨hle, zs, e, hl, hw⟩ := flat_fields r (off + m) n hr fun g hg => hx g (by simp [hg])
    obtain ⟨y, hy⟩ := hx f (by simp)
    rw [ho, hf.1] at hy
    obtain ⟨ys, e1, hl1, hw1⟩ := hf.2 _ _ _ _ _ _ _ _ _ hy
    refine ⟨by omega, ys ++ zs, ?_, by rw [List.length_append]; omega, fun z hz => ?_⟩
    · rw [show n - off = m + (n - (off + m)) by omega, List.take_add, e1, List.drop_drop, e, iv_append]
    · rcases List.mem_append.1 hz with h | h
      · exact hw1 z h
      · exact hw z h
theorem Flat.struct {t : TypeId} {fs : Array Field} {n : Nat} (ht : Try.prog.underlying t = some (.struct fs)) (hc : Try.prog.cellsOf t = n) (h : FlatF 0 fs.toList n) : Flat t n := by
  refine ⟨hc, fun H enc W base sp hd fuel cs x hx => ?_⟩
  obtain ⟨xs, k, _, rfl, hl, hlen, hf⟩ := DataW.trod_struct ht hx
  obtain ⟨_, zs, e, hz, hw⟩ := flat_fields (cs := cs) fs.toList 0 n h fun f hfm => by
    obtain ⟨i, hi, e⟩ := List.mem_iff_getElem.1 hfm
    have hi' : i < fs.size := by simpa using hi
    have e' : fs[i]? = some f := by rw [Array.getElem?_eq_getElem hi']; simpa using e
    have := hf i f e'
    rw [List.getElem?_eq_getElem (by omega)] at this
    exact ⟨_, this⟩
  rw [List.drop_zero, Nat.sub_zero, List.take_of_length_le (by omega)] at e
  exact ⟨zs, e, by omega, hw⟩
theorem flat_items {H : Type} {enc : TypeId × Value → H} {W : World} {base : Nat} {sp : Nat → Bool} {hd : Bool} {fuel : Nat} {cs : List Value} {e : TypeId} {m : Nat} (hf : Flat e m) : ∀ (k : Nat),
    (∀ i, i < k → ∃ y, DataW.trod enc Try.prog W base sp hd fuel e ((cs.drop (i * m)).take m) = some y) →
    ∃ zs : List Int, cs.take (k * m) = iv zs ∧ zs.length = k * m ∧ ∀ z ∈ zs, (Lit.int .i64 z).wf = true
  | 0, _ => ⟨[], by simp [iv], by simp, by simp⟩
  | k + 1, hx => by
    obtain ⟨zs, e, hl, hw⟩ := flat_items hf k fun i hi => hx i (by omega)
    obtain ⟨y, hy⟩ := hx k (by omega)
    obtain ⟨ys, e1, hl1, hw1⟩ := hf.2 _ _ _ _ _ _ _ _ _ hy
    refine ⟨zs ++ ys, by rw [Nat.succ_mul, List.take_add, e, e1, iv_append], by rw [List.length_append, Nat.succ_mul]; omega, fun z hz => ?_⟩
    rcases List.mem_append.1 hz with h | h
    · exact hw z h
    · exact hw1 z h
theorem Flat.array {t e : TypeId} {k m : Nat} (ht : Try.prog.underlying t = some (.array k e)) (hc : Try.prog.cellsOf t = k * m) (hf : Flat e m) : Flat t (k * m) := by
  refine ⟨hc, fun H enc W base sp hd fuel cs x hx => ?_⟩
  obtain ⟨xs, n, _, rfl, hl, hlen, hi⟩ := DataW.trod_array ht hx
  obtain ⟨zs, e, hz, hw⟩ := flat_items (cs := cs) hf k fun i hik => by
    have := hi i hik
    rw [hf.1, List.getElem?_eq_getElem (by omega)] at this
    exact ⟨_, this⟩
  rw [List.take_of_length_le (by omega)] at e
  exact ⟨zs, e, hz, hw⟩
section
variable {H : Type} {enc : TypeId × Value → H} {W : World} {b0 base : Nat} {sp : Nat → Bool} {hd : Bool} {r : Reach} {v : Value} {d : DataW H} {p : List MemPlace}
theorem iv_inj {a b : List Int} (h : iv a = iv b) : a = b := by
  unfold iv at h
  exact List.map_inj_right (fun x y e => by injection e) |>.1 h
set_option maxRecDepth 100000 in
/-- a slice of such elements -/
theorem open_flat {t e : TypeId} {n : Nat} (ht : Try.prog.underlying t = some (.slice e)) (hf : Flat e n) (hv : Value.okWide Try.prog W r b0 t v) (h : DataW.Trod enc Try.prog W base sp hd t v d p) :
    ∃ A c len zs, v = .slice A len c ∧ zs.length = len * n ∧ Sl W A (iv zs) ∧ ∀ z ∈ zs, (Lit.int .i64 z).wf = true := by
  obtain ⟨A, len, c, rfl⟩ := okWide_slice ht hv
  obtain ⟨fuel, hh⟩ := h
  rcases open_slice ht (by simpa [Value.cells] using hh) with ⟨hcs, _⟩ | ⟨a, len', cap, m, k, D, Pl, hcs, _, hl, _, hm, _, hx⟩
  · injection hcs with hcs _
    injection hcs with h1 h2 h3
    subst h1 h2 h3
    exact ⟨none, 0, 0, [], rfl, by simp, fun k hk => absurd hk (by simp [iv]), by simp⟩
  · injection hcs with hcs _
    injection hcs with h1 h2 h3
    subst h1 h2 h3
    have hlm : len ≤ m := by rw [hm]; split <;> omega
    have hk : ∀ j, j ≤ len → ∃ zs : List Int, zs.length = j * n ∧ (∀ i u, (iv zs)[i]? = some u → W.cell? (a.add i) = some u) ∧ ∀ z ∈ zs, (Lit.int .i64 z).wf = true := by
      intro j
      induction j with
      | zero => intro _; exact ⟨[], by simp, by simp [iv], by simp⟩
      | succ j ih =>
        intro hj
        obtain ⟨zs, hz, hc, hw⟩ := ih (by omega)
        obtain ⟨cs', g1, g2⟩ := hx j (by omega)
        rw [hf.1] at g1
        obtain ⟨_, hlen, hcell⟩ := World.cells?_some g1
        obtain ⟨ys, e1, hl1, hw1⟩ := hf.2 _ _ _ _ _ _ _ _ _ g2
        refine ⟨zs ++ ys, by rw [List.length_append, Nat.succ_mul]; omega, fun i u hu => ?_, fun z hz => ?_⟩
        · rw [iv_append] at hu
          rcases Nat.lt_or_ge i (iv zs).length with q | q
          · rw [List.getElem?_append_left q] at hu
            exact hc i u hu
          · rw [List.getElem?_append_right q] at hu
            have hiy : i - (iv zs).length < n := by
              have q1 := (List.getElem?_eq_some_iff.1 hu).1
              have q2 : (iv ys).length = n := by rw [iv_length]; exact hl1
              omega
            have := hcell _ hiy
            rw [e1, hu, add_of_add, iv_length, hz] at this
            rw [iv_length, hz] at q
            rw [show j * n + (i - j * n) = i by omega] at this
            exact this
        · rcases List.mem_append.1 hz with h | h
          · exact hw z h
          · exact hw1 z h
    obtain ⟨zs, hz, hc, hw⟩ := hk len (Nat.le_refl _)
    refine ⟨some a, c, len, zs, rfl, hz, fun k hk => ?_, hw⟩
    have := hc k _ (List.getElem?_eq_getElem hk)
    obtain ⟨b, off, spot⟩ := a
    have hspot : spot = none := by
      have := World.cell?_spot (hc 0 _ (List.getElem?_eq_getElem (by omega : 0 < (iv zs).length)))
      simpa [Addr.add] using this
    subst hspot
    exact ⟨b, off, rfl, by rw [← add_off]; exact this⟩
set_option maxRecDepth 100000 in
theorem okWide_array {t e : TypeId} {n : Nat} (ht : Try.prog.underlying t = some (.array n e)) (h : Value.okWide Try.prog W r b0 t v) : ∃ cs, v = .agg cs ∧ cs.size = Try.prog.cellsOf t := by
  simp only [Value.okWide, ht] at h
  obtain ⟨cs, h1, h2, _⟩ := h
  exact ⟨cs, h1, h2⟩
set_option maxRecDepth 100000 in
/-- an array of ints alone -/
theorem open_arr {t e : TypeId} {n k : Nat} (ht : Try.prog.underlying t = some (.array n e)) (hf : Flat t k) (hv : Value.okWide Try.prog W r b0 t v) (h : DataW.Trod enc Try.prog W base sp hd t v d p) :
    ∃ zs, v = .agg (iv zs).toArray ∧ zs.length = k ∧ ∀ z ∈ zs, (Lit.int .i64 z).wf = true := by
  obtain ⟨cs, rfl, hsz⟩ := okWide_array ht hv
  obtain ⟨fuel, hh⟩ := h
  obtain ⟨zs, e1, hl, hw⟩ := hf.2 _ _ _ _ _ _ _ _ _ hh
  refine ⟨zs, ?_, hl, hw⟩
  congr 1
  rw [← e1]
  simp [Value.cells]
end
/-! the cells read as numbers, as whole complex numbers, as paths -/
theorem nums_of : ∀ (n : Nat) (zs : List Int), zs.length = n * 4 → ∃ l : List Nm, l.length = n ∧ iv zs = nvs l
  | 0, zs, h => ⟨[], rfl, by rw [List.eq_nil_of_length_eq_zero (by omega : zs.length = 0)]; rfl⟩
  | n + 1, zs, h => by
    match zs, h with
    | a :: b :: c :: e :: r, h =>
      obtain ⟨l, hl, he⟩ := nums_of n r (by simp at h; omega)
      exact ⟨(a, b, c, e) :: l, by simp [hl], by rw [nvs_cons, ← he]; rfl⟩
    | [], h => simp at h
    | [_], h => simp at h; omega
    | [_, _], h => simp at h; omega
    | [_, _, _], h => simp at h; omega
theorem gausses_of : ∀ (n : Nat) (zs : List Int), zs.length = n * 2 → ∃ l : List (Int × Int), l.length = n ∧ iv zs = gv l
  | 0, zs, h => ⟨[], rfl, by rw [List.eq_nil_of_length_eq_zero (by omega : zs.length = 0)]; rfl⟩
  | n + 1, zs, h => by
    match zs, h with
    | a :: b :: r, h =>
      obtain ⟨l, hl, he⟩ := gausses_of n r (by simp at h; omega)
      exact ⟨(a, b) :: l, by simp [hl], by rw [gv_cons, ← he]; rfl⟩
    | [], h => simp at h
    | [_], h => simp at h; omega
theorem paths_of : ∀ (n : Nat) (zs : List Int), zs.length = n * 3 → ∃ l : List Pth, l.length = n ∧ iv zs = pvs l
  | 0, zs, h => ⟨[], rfl, by rw [List.eq_nil_of_length_eq_zero (by omega : zs.length = 0)]; rfl⟩
  | n + 1, zs, h => by
    match zs, h with
    | a :: b :: c :: r, h =>
      obtain ⟨l, hl, he⟩ := paths_of n r (by simp at h; omega)
      exact ⟨(a, b, c) :: l, by simp [hl], by rw [pvs_cons, ← he]; rfl⟩
    | [], h => simp at h
    | [_], h => simp at h; omega
    | [_, _], h => simp at h; omega
theorem flat_num : Flat 38 4 := Flat.struct Try.underlying38 (by kernel_rfl) ⟨rfl, 1, Flat.int, rfl, 1, Flat.int, rfl, 1, Flat.int, rfl, 1, Flat.int, rfl⟩
theorem flat_gauss : Flat 30 2 := Flat.struct Try.underlying30 (by kernel_rfl) ⟨rfl, 1, Flat.int, rfl, 1, Flat.int, rfl⟩
theorem flat_path : Flat 32 3 := Flat.struct Try.underlying32 (by kernel_rfl) ⟨rfl, 1, Flat.int, rfl, 2, flat_gauss, rfl⟩
section
variable {H : Type} {enc : TypeId × Value → H} {W : World} {b0 base : Nat} {sp : Nat → Bool} {hd : Bool} {r : Reach} {v : Value} {d : DataW H} {p : List MemPlace}
set_option maxRecDepth 100000 in
theorem open_nums (hv : Value.okWide Try.prog W r b0 36 v) (h : DataW.Trod enc Try.prog W base sp hd 36 v d p) : ∃ A c l, v = .slice A l.length c ∧ Sl W A (nvs l) := by
  obtain ⟨A, c, len, zs, rfl, hl, hs, _⟩ := open_flat Try.underlying36 flat_num hv h
  obtain ⟨l, hll, e⟩ := nums_of len zs hl
  exact ⟨A, c, l, by rw [hll], by rw [← e]; exact hs⟩
set_option maxRecDepth 100000 in
theorem open_gausses (hv : Value.okWide Try.prog W r b0 83 v) (h : DataW.Trod enc Try.prog W base sp hd 83 v d p) : ∃ A c l, v = .slice A l.length c ∧ Sl W A (gv l) := by
  obtain ⟨A, c, len, zs, rfl, hl, hs, _⟩ := open_flat Try.underlying83 flat_gauss hv h
  obtain ⟨l, hll, e⟩ := gausses_of len zs hl
  exact ⟨A, c, l, by rw [hll], by rw [← e]; exact hs⟩
set_option maxRecDepth 100000 in
theorem open_paths (hv : Value.okWide Try.prog W r b0 35 v) (h : DataW.Trod enc Try.prog W base sp hd 35 v d p) : ∃ A c l, v = .slice A l.length c ∧ Sl W A (pvs l) := by
  obtain ⟨A, c, len, zs, rfl, hl, hs, _⟩ := open_flat Try.underlying35 flat_path hv h
  obtain ⟨l, hll, e⟩ := paths_of len zs hl
  exact ⟨A, c, l, by rw [hll], by rw [← e]; exact hs⟩
end
end Go.Proofs.Ythfmjohbokpceaa
