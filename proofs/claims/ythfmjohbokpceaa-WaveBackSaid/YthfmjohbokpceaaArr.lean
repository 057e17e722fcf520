import Derived.Test.YthfmjohbokpceaaGuards
import Derived.Test.YthfmjohbokpceaaWvEA
namespace Go.Proofs.Ythfmjohbokpceaa
open Go.RowKit Go.WideShapes Go.ChangeShapes

/-! a slice of a whole array; an array out of a slice; arrays of whole complex numbers compared -/
theorem Blk.sl {w : World} {g : Nat} {t : TypeId} {xs : List Value} (h : Blk w g t xs.toArray) : Sl w (some ⟨g, 0, none⟩) xs := fun k hk =>
  ⟨g, 0, rfl, by rw [Nat.zero_add, h.cell]; simp [hk]⟩
theorem run_arrayAt {P : Program} {t e : TypeId} {n len c : Nat} (a : Addr) (ht : P.underlying t = some (.array n e)) (h : n ≤ len) (w : World) : (Instr.arrayAt t (.slice (some a) len c)).run P w = .ok (.pointer (some a)) w := by
  have h1 : ¬ len < n := by omega
  simp [Instr.arrayAt, run_underlying ht, h1]
section
variable {P : Program} {ops : Array Oper} {rest : List Oper} {o : Oper} {a : Act} {w : World} {Q : Exit → Act → World → Prop}
theorem run_loadVar_sl (t : TypeId) (p : Addr) (xs : List Value) (d : TypeDesc) (hc : ∀ j u, xs[j]? = some u → w.cell? (p.add j) = some u)
    (hu : P.underlying t = some d) (hd : (match d with | .struct _ | .array _ _ => true | _ => false) = true) (hi : (P.info? t).map (·.size) = some xs.length) :
    (loadVar t p).run P w = .ok (.agg xs.toArray) w := by
  have hl : (loadCells p xs.length).run P w = .ok xs.toArray w := run_loadCells_list (P := P) w p xs hc
  cases hq : P.info? t with
  | none => simp [hq] at hi
  | some i =>
    have hs : i.size = xs.length := by simpa [hq] using hi
    have hagg : (isAgg t).run P w = .ok true w := by
      unfold isAgg
      rw [Sem.run_bind, run_underlying hu w]
      cases d <;> simp_all
    simp [loadVar, Sem.run_bind, hagg, sizeOf, typeInfo, hq, hs, hl]
theorem wpList_load_sl (t : TypeId) (x : Operand) (ho : o.op = .load t x) (hw : Region.wanted o (yielded ops a.tmps) = true)
    (p : Addr) (hx : a.eval x = .pointer (some p)) (xs : List Value) (d : TypeDesc) (hc : ∀ j u, xs[j]? = some u → w.cell? (p.add j) = some u)
    (hu : P.underlying t = some d) (hd : (match d with | .struct _ | .array _ _ => true | _ => false) = true) (hi : (P.info? t).map (·.size) = some xs.length)
    (h : wpList P ops Q rest (a.put o.dst (.agg xs.toArray)) w) : wpList P ops Q (o :: rest) a w :=
  wpList_wanted hw fun K hK => by
    unfold Oper.wp execOp
    simp only [ho, hx, Instr.loadAt, Instr.sureAddr, Sem.run_bind, Sem.run_pure, Result.andThen_ok, run_loadVar_sl t p xs d hc hu hd hi]
    exact hK _ _ h
end
theorem Sl.cells {w : World} {b off : Nat} {xs : List Value} (h : Sl w (some ⟨b, off, none⟩) xs) : ∀ j u, xs[j]? = some u → w.cell? ((⟨b, off, none⟩ : Addr).add j) = some u := fun j u hu => by
  rw [add_lit]; exact h.one rfl hu
set_option maxRecDepth 100000 in
theorem eqI_ga8 : EqI 10000 137 (8 * 2) := by
  obtain ⟨i0, hi0, hz0, hz1, hz2⟩ := info_parts ga_infoW
  exact EqI.array (d := 9999) (i := i0) Try.underlying137 hi0 (by kernel_rfl) (EqP.agg isAgg_gauss sizeOf_gauss (eqI_gauss 9997))
def gzs (l : List (Int × Int)) : List Int := l.flatMap fun z => [z.1, z.2]
theorem gzs_iv : ∀ l : List (Int × Int), gv l = iv (gzs l)
  | [] => rfl
  | z :: r => by rw [gv_cons, gzs_iv r]; rfl
theorem gzs_len (l : List (Int × Int)) : (gzs l).length = l.length * 2 := by rw [← iv_length, ← gzs_iv, gv_len]
theorem garr_iv (L : List (Int × Int)) (n : Nat) (h : L.length ≤ n) : ∃ zs : List Int, garr L n = (iv zs).toArray ∧ zs.length = n * 2 := by
  refine ⟨gzs (L ++ List.replicate (n - L.length) (0, 0)), by unfold garr; rw [gzs_iv], ?_⟩
  rw [gzs_len]; simp; omega
theorem ga8_neq (L : List (Int × Int)) (h : L.length ≤ 8) (w : World) : (binOp .neq 137 (.agg (garr L 8)) (.agg (garr L 8))).run Try.prog w = .ok (.bool false) w := by
  obtain ⟨zs, e, hl⟩ := garr_iv L 8 h
  rw [e, eqI_ga8.neq zs zs hl hl]
  simp
theorem ga8_eql (L : List (Int × Int)) (h : L.length ≤ 8) (w : World) : (binOp .eql 137 (.agg (garr L 8)) (.agg (garr L 8))).run Try.prog w = .ok (.bool true) w := by
  obtain ⟨zs, e, hl⟩ := garr_iv L 8 h
  rw [e, eqI_ga8.eql zs zs hl hl]
  simp
end Go.Proofs.Ythfmjohbokpceaa
