import Derived.Test.YthfmjohbokpceaaEqArr
import Derived.Test.YthfmjohbokpceaaWvQ
import Derived.Test.YthfmjohbokpceaaWvZ
import Derived.Great.BuildSlice
namespace Go.Proofs.Ythfmjohbokpceaa
open Go.RowKit Go.WideShapes Go.ChangeShapes

/-! loads and builds of whole arrays under a guard; arrays of numbers compared -/
section
variable {P : Program} {ops : Array Oper} {rest : List Oper} {o : Oper} {a : Act} {w : World} {Q : Exit → Act → World → Prop}
theorem wpList_wanted (hw : Region.wanted o (yielded ops a.tmps) = true) (h : ∀ K : Act → World → Prop, (∀ a w, wpList P ops Q rest a w → K a w) → o.wp P a w K Q) : wpList P ops Q (o :: rest) a w :=
  wpList_step fun K hK => by rw [if_pos hw]; exact h K hK
theorem wpList_load_rowG (ty : TypeId) (x : Operand) (ho : o.op = .load ty x) (hw : Region.wanted o (yielded ops a.tmps) = true)
    (g : Nat) (hx : a.eval x = .pointer (some ⟨g, 0, none⟩)) (t : TypeId) (cs : Array Value) (d : TypeDesc) (hg : Blk w g t cs)
    (hu : P.underlying ty = some d) (hd : (match d with | .struct _ | .array _ _ => true | _ => false) = true) (hi : (P.info? ty).map (·.size) = some cs.size)
    (h : wpList P ops Q rest (a.put o.dst (.agg cs)) w) : wpList P ops Q (o :: rest) a w :=
  wpList_wanted hw fun _ hK => wp_load_row ty x ho g hx t cs (0, 0) d hg hu hd hi (hK _ _ h)
theorem wpList_buildG (t : TypeId) (parts : Array (Nat × Operand)) (ho : o.op = .build t parts) (hw : Region.wanted o (yielded ops a.tmps) = true)
    (cells : Array Value) (hf : P.built t (parts.map fun (i, x) => (i, a.eval x)).toList = some cells)
    (h : wpList P ops Q rest (a.put o.dst (.agg cells)) w) : wpList P ops Q (o :: rest) a w :=
  wpList_wanted hw fun _ hK => wp_build t parts ho (by rw [hf]; rfl) (by rw [hf]; exact hK _ _ h)
theorem loadAt_arr {w : World} {g : Nat} {t : TypeId} {cs : Array Value} {d : TypeDesc} (h : Blk w g t cs) (hu : P.underlying t = some d) (hd : (match d with | .struct _ | .array _ _ => true | _ => false) = true) (hi : (P.info? t).map (·.size) = some cs.size) :
    (Instr.loadAt t (.pointer (some ⟨g, 0, none⟩))).run P w = .ok (.agg cs) w := by
  simp only [Instr.loadAt, Instr.sureAddr, Sem.run_bind, Sem.run_pure, Result.andThen_ok, run_loadVar_row w g t t cs (0, 0) d h hu hd hi]
/-- a whole array out of a box, in a region that draws its order -/
theorem yields_arr {S : World → Prop} {op : Oper} {t : TypeId} {cs : Array Value} {d : TypeDesc} (g : Nat) (hw : Region.wanted op (yielded ops a.tmps) = true) (x : Operand) (ho : op.op = .load t x) (hx : a.eval x = .pointer (some ⟨g, 0, none⟩))
    (hS : ∀ w, S w → Blk w g t cs) (hu : P.underlying t = some d) (hd : (match d with | .struct _ | .array _ _ => true | _ => false) = true) (hi : (P.info? t).map (·.size) = some cs.size) : YieldsIf P ops S op (.agg cs) a :=
  .inl ⟨hw, fun w hw' => by
    unfold execOp
    simp only [ho, hx, loadAt_arr (hS w hw') hu hd hi, Sem.run_bind, Sem.run_pure, Result.andThen_ok]⟩
end
set_option maxRecDepth 100000 in
theorem eqI_num (d : Nat) : EqI (d + 2) 38 4 := by
  intro xs ys hx hy w
  match xs, hx, ys, hy with
  | [a, b, c, e], _, [a', b', c', e'], _ =>
    show (Op.equalIn (d + 1 + 1) 38 (.agg #[.int .i64 a, .int .i64 b, .int .i64 c, .int .i64 e]) (.agg #[.int .i64 a', .int .i64 b', .int .i64 c', .int .i64 e'])).run Try.prog w = _
    rw [run_equalIn_agg (d := d + 1) (ht := wn_under) (hp := wn_held)]
    simp [go_sem]
    by_cases h1 : a = a' <;> by_cases h2 : b = b' <;> by_cases h3 : c = c' <;> by_cases h4 : e = e' <;> simp [h1, h2, h3, h4]
theorem ga_under' : Try.prog.underlying 30 = some (.struct (Try.prog.fieldsOf 30)) := by kernel_rfl
theorem ga_held' : Try.prog.stoodInHeld 30 = false := by kernel_rfl
set_option maxRecDepth 100000 in
theorem eqI_gauss (d : Nat) : EqI (d + 2) 30 2 := by
  intro xs ys hx hy w
  match xs, hx, ys, hy with
  | [a, b], _, [a', b'], _ =>
    show (Op.equalIn (d + 1 + 1) 30 (.agg #[.int .i64 a, .int .i64 b]) (.agg #[.int .i64 a', .int .i64 b'])).run Try.prog w = _
    rw [run_equalIn_agg (d := d + 1) (ht := ga_under') (hp := ga_held')]
    simp [go_sem]
    by_cases h1 : a = a' <;> by_cases h2 : b = b' <;> simp [h1, h2]
theorem ga_infoW' : (Try.prog.info? 30).map (fun i => (i.zero, i.size, i.bytes)) = some (some (.agg #[.int .i64 0, .int .i64 0]), 2, 16) := by kernel_rfl
theorem isAgg_num : ∀ w, (isAgg 38).run Try.prog w = .ok true w := fun w => by unfold isAgg; rw [Sem.run_bind, run_underlying wn_under w]; rfl
theorem isAgg_gauss : ∀ w, (isAgg 30).run Try.prog w = .ok true w := fun w => by unfold isAgg; rw [Sem.run_bind, run_underlying ga_under' w]; rfl
theorem sizeOf_num : ∀ w, (sizeOf 38).run Try.prog w = .ok 4 w := fun w => by kernel_rfl
theorem sizeOf_gauss : ∀ w, (sizeOf 30).run Try.prog w = .ok 2 w := fun w => by kernel_rfl
set_option maxRecDepth 100000 in
theorem eqI_num8 : EqI 10000 96 (8 * 4) := by
  obtain ⟨i0, hi0, hz0, hz1, hz2⟩ := info_parts wn_info
  exact EqI.array (d := 9999) (i := i0) Try.underlying96 hi0 (by kernel_rfl) (EqP.agg isAgg_num sizeOf_num (eqI_num 9997))
/-- the ints of numbers, one behind the other -/
def nzs (l : List Nm) : List Int := l.flatMap fun z => [z.1, z.2.1, z.2.2.1, z.2.2.2]
theorem nzs_iv : ∀ l : List Nm, nvs l = iv (nzs l)
  | [] => rfl
  | z :: r => by rw [nvs_cons, nzs_iv r]; rfl
theorem nzs_len (l : List Nm) : (nzs l).length = l.length * 4 := by rw [← iv_length, ← nzs_iv, nvs_len]
theorem nzs_inj : ∀ {a b : List Nm}, nzs a = nzs b → a = b
  | [], [], _ => rfl
  | [], _ :: _, h => by simp [nzs] at h
  | _ :: _, [], h => by simp [nzs] at h
  | x :: r, y :: s, h => by
    simp only [nzs, List.flatMap_cons, List.cons_append, List.nil_append, List.cons.injEq] at h
    obtain ⟨h1, h2, h3, h4, h5⟩ := h
    rw [nm_ext h1 h2 h3 h4, nzs_inj (a := r) (b := s) h5]
theorem numArr_iv (L : List Nm) (n : Nat) (h : L.length ≤ n) : ∃ zs : List Int, numArr L n = (iv zs).toArray ∧ zs.length = n * 4 := by
  refine ⟨nzs (L ++ List.replicate (n - L.length) n0), by unfold numArr; rw [nzs_iv], ?_⟩
  rw [nzs_len]; simp; omega
theorem arr8_neq (L : List Nm) (h : L.length ≤ 8) (w : World) : (binOp .neq 96 (.agg (numArr L 8)) (.agg (numArr L 8))).run Try.prog w = .ok (.bool false) w := by
  obtain ⟨zs, e, hl⟩ := numArr_iv L 8 h
  rw [e, eqI_num8.neq zs zs hl hl]
  simp
theorem arr8_eql (L : List Nm) (h : L.length ≤ 8) (w : World) : (binOp .eql 96 (.agg (numArr L 8)) (.agg (numArr L 8))).run Try.prog w = .ok (.bool true) w := by
  obtain ⟨zs, e, hl⟩ := numArr_iv L 8 h
  rw [e, eqI_num8.eql zs zs hl hl]
  simp
theorem built_num8 : Try.prog.built 96 [] = some (numArr [] 8) := by kernel_rfl
end Go.Proofs.Ythfmjohbokpceaa
