import Derived.Test.YthfmjohbokpceaaWvL
namespace Go.Proofs.Ythfmjohbokpceaa
open Go.RowKit Go.WideShapes Go.ChangeShapes

/-- the sequence of an identity -/
def seqL (n : Nat) : List Int := secL (n % 3) ++ grpL (n / 3)
theorem seqL_len (n : Nat) : (seqL n).length = 62 := by simp [seqL, secL, grpL]
theorem loadAt_sq (g : Nat) (w : World) (h : Blk w g 215 sqCells) : (Instr.loadAt 215 (.pointer (some ⟨g, 0, none⟩))).run Try.prog w = .ok (.agg sqCells) w := by
  simp only [Instr.loadAt, Instr.sureAddr, Sem.run_bind, Sem.run_pure, Result.andThen_ok, run_loadVar_row w g 215 215 sqCells (0, 0) _ h Try.underlying215 rfl (by kernel_rfl)]
/-- two rows of ints put together -/
theorem concat_two (A B : Option Addr) (n m ca cb : Nat) (xs ys : List Int) (w : World) (_hx : xs.length = n) (_hy : ys.length = m) (h1 : Reads w w.heap.size 1 A n (iv xs)) (h2 : Reads w w.heap.size 1 B m (iv ys)) (hl : n + m ≤ 1000000) :
    Calls Try.prog 166 #[.slice (some ⟨w.heap.size, 0, none⟩) 2 2] (w.alloc (.cells #[.slice A n ca, .slice B m cb] 24)) fun e w' => ∃ C k, e = .returned (.slice C (n + m) k) ∧ w'.ownsRow w.heap.size 3 1 (.slice C (n + m) k) (n + m) (iv (xs ++ ys)) ∧ Below w.heap.size w w' := by
  have hs : Sl (w.alloc (.cells #[.slice A n ca, .slice B m cb] 24)) (some ⟨w.heap.size, 0, none⟩) [.slice A n ca, .slice B m cb] := Sl.new _ _ _ _ rfl
  have := concat_int (some ⟨w.heap.size, 0, none⟩) 2 2 [⟨A, n, ca, iv xs⟩, ⟨B, m, cb, iv ys⟩] _ rfl hs (by
    intro p hp
    simp only [List.mem_cons, List.not_mem_nil, or_false] at hp
    rcases hp with rfl | rfl
    · exact ⟨(h1.alloc (Nat.le_refl _) _).more (by simp), iv_one _⟩
    · exact ⟨(h2.alloc (Nat.le_refl _) _).more (by simp), iv_one _⟩) (by simp [parN]; omega) (by omega)
  rw [show parN [⟨A, n, ca, iv xs⟩, ⟨B, m, cb, iv ys⟩] = n + m by simp [parN], show parX [⟨A, n, ca, iv xs⟩, ⟨B, m, cb, iv ys⟩] = iv (xs ++ ys) by simp [parX, iv_append]] at this
  refine this.mono ?_
  rintro e w' ⟨C, k, rfl, ho, hb⟩
  exact ⟨C, k, rfl, ho.weaken (by simp), Below.step (by go_grown) hb⟩
section
variable {P : Program} {ops : Array Oper} {Q : Exit → Act → World → Prop} {md : Region.Mode} {S : World → Prop}
theorem take_at {i : Nat} {oi : Oper} (d : Tmp) {v : Value} {fuel : Nat} {listed : Array Bool} {a : Act} {w : World} (hi : ops[i]? = some oi) (hd : oi.dst = some d)
    (hs : Region.noSelect ops = true) (hf : Region.free md ops listed i = true) (hr : (Region.ready md ops listed).contains i = true)
    (hQ : ∀ c a w, Q (.panic c) (a.put oi.dst v) w → Q (.panic c) a w) (hy : YieldsIf P ops S oi v a) (hS : S w)
    (h : wpAnyH P md ops Q S fuel (listed.setIfInBounds i true) (a.put (some d) v) w) : wpAnyH P md ops Q S (fuel + 1) listed a w :=
  wpAnyH_take hi hs hf hr hQ hy hS (by rw [hd]; exact h)
end
theorem yields_sq {ops : Array Oper} {op : Oper} {a : Act} (g : Nat) (hw : Region.wanted op (yielded ops a.tmps) = true) (x : Operand) (ho : op.op = .load 215 x) (hx : a.eval x = .pointer (some ⟨g, 0, none⟩)) :
    YieldsIf Try.prog ops (fun w' => Blk w' g 215 sqCells) op (.agg sqCells) a :=
  .inl ⟨hw, fun w hw' => by
    unfold execOp
    simp only [ho, hx, loadAt_sq g w hw', Sem.run_bind, Sem.run_pure, Result.andThen_ok]⟩
set_option maxRecDepth 100000 in
set_option maxHeartbeats 2000000 in
theorem sequenceOf_wave (n : Nat) (hn : n < 1008) (w : World) : Calls Try.prog 106 #[.int .i64 (n : Int)] w fun e w' => ∃ A c, e = .returned (.slice A 62 c) ∧ w'.ownsRow w.heap.size 3 1 (.slice A 62 c) 62 (iv (seqL n)) ∧ Below w.heap.size w w' := by
  have h1 : (n : Int).tmod 3 = ((n % 3 : Nat) : Int) := by rw [Int.tmod_eq_emod_of_nonneg (by omega)]; omega
  have h2 : (n : Int).tdiv 3 = ((n / 3 : Nat) : Int) := by rw [Int.tdiv_eq_ediv_of_nonneg (by omega)]; omega
  have h3 : IntKind.i64.wrap ((n : Int) / 3) = (n : Int) / 3 := IntWalk.i64_in _ (by omega)
  have e1 : ((n % 3 : Nat) : Int) = (n : Int) % 3 := by omega
  have e2 : ((n / 3 : Nat) : Int) = (n : Int) / 3 := by omega
  have HS := hide (fun W => sector_wave (n % 3) (by omega) W)
  have HG := hide (fun W => group_wave (n / 3) (by omega) W)
  rw [e1] at HS
  rw [e2] at HG
  clear e1 e2
  go_enter Try.func106, Try.ntmps106
  go_wp2_with (first
    | (go_at_call 165; go_must (refine (both_wave _).mono ?_; rintro e w1 ⟨rfl, hb1⟩; have HB1 := hide hb1; clear hb1; simp only []))
    | (refine wpList_store_row rfl 215 (.tmp 3) (.tmp 4) rfl w1.heap.size sqCells rfl rfl 215 zero62 (Blk.new w1 _ _) (by kernel_rfl) (by kernel_rfl) sq_one ?_))
  have HB2 := hide ((Blk.new w1 215 zero62).row sqCells)
  have hz : Below w.heap.size w ((w1.alloc (.cells zero62 215)).setRow w1.heap.size sqCells) := Below.row (HB1.out.alloc HB1.out.size _) HB1.out.size _
  change Code.wp _ _ _ _ ((w1.alloc (.cells zero62 215)).setRow w1.heap.size sqCells)
  generalize (w1.alloc (.cells zero62 215)).setRow w1.heap.size sqCells = W2 at HB2 hz ⊢
  generalize w1.heap.size = g at HB2 ⊢
  have hB2 := HB2.out
  refine wp_region_held_drew (S := fun w' => Blk w' g 215 sqCells) (by kernel_rfl) hB2.drew (fun hHeld => ?_)
  refine take_at (i := 0) 5 (v := .agg sqCells) rfl rfl (by kernel_rfl) (by kernel_rfl) (by kernel_rfl) (fun _ _ _ h => h) (yields_sq g (by rfl) (.tmp 3) rfl rfl) (by assumption) ?_
  try simp only [Act.put, List.setIfInBounds_toArray, List.set_cons_zero, List.set_cons_succ]
  refine take_at (i := 1) 6 (v := .int .i64 (n : Int)) rfl rfl (by kernel_rfl) (by kernel_rfl) (by kernel_rfl) (fun _ _ _ h => h) (Or.inl ⟨by rfl, by intro w hSw; go_simp⟩) (by assumption) ?_
  try simp only [Act.put, List.setIfInBounds_toArray, List.set_cons_zero, List.set_cons_succ]
  refine take_at (i := 2) 7 (v := .int .i64 ((n % 3 : Nat) : Int)) rfl rfl (by kernel_rfl) (by kernel_rfl) (by kernel_rfl) (fun _ _ _ h => h) (Or.inl ⟨by rfl, by intro w hSw; go_simp⟩) (by assumption) ?_
  try simp only [Act.put, List.setIfInBounds_toArray, List.set_cons_zero, List.set_cons_succ]
  refine take_at (i := 4) 9 (v := .agg sqCells) rfl rfl (by kernel_rfl) (by kernel_rfl) (by kernel_rfl) (fun _ _ _ h => h) (yields_sq g (by rfl) (.tmp 3) rfl rfl) (by assumption) ?_
  try simp only [Act.put, List.setIfInBounds_toArray, List.set_cons_zero, List.set_cons_succ]
  refine take_at (i := 5) 10 (v := .int .i64 (n : Int)) rfl rfl (by kernel_rfl) (by kernel_rfl) (by kernel_rfl) (fun _ _ _ h => h) (Or.inl ⟨by rfl, by intro w hSw; go_simp⟩) (by assumption) ?_
  try simp only [Act.put, List.setIfInBounds_toArray, List.set_cons_zero, List.set_cons_succ]
  refine take_at (i := 6) 11 (v := .int .i64 ((n / 3 : Nat) : Int)) rfl rfl (by kernel_rfl) (by kernel_rfl) (by kernel_rfl) (fun _ _ _ h => h) (Or.inl ⟨by rfl, by intro w hSw; go_simp⟩) (by assumption) ?_
  try simp only [Act.put, List.setIfInBounds_toArray, List.set_cons_zero, List.set_cons_succ]
  refine wpAnyH_ready (rs := [3]) (by kernel_rfl) (by simp) ?_
  refine AllReadyH.cons rfl (fun K hK => ?_) AllReadyH.nil
  go_simp
  refine (HS.out _).mono ?_
  rintro e w3 ⟨A3, c3, rfl, ho3, hb3⟩
  have b3 : Below W2.heap.size W2 w3 := Below.step (by go_grown) hb3
  have hB3 := hide (HB2.out.below b3 HB2.out.lt)
  have HO3 := hide ho3
  clear ho3 hb3
  simp only []
  refine hK.out _ _ hB3.out (fun hHeld => ?_)
  clear hK K
  try simp only [Act.put, List.setIfInBounds_toArray, List.set_cons_zero, List.set_cons_succ]
  refine wpAnyH_ready (rs := [7]) (by kernel_rfl) (by simp) ?_
  refine AllReadyH.cons rfl (fun K hK => ?_) AllReadyH.nil
  go_simp
  refine (HG.out _).mono ?_
  rintro e w4 ⟨A4, c4, rfl, ho4, hb4⟩
  have b4 : Below W2.heap.size W2 w4 := Below.step b3 hb4
  have hB4 := hide (HB2.out.below b4 HB2.out.lt)
  have HO3' := hide (own_bel HO3.out hb4)
  have HO4 := hide ho4
  clear ho4 hb4
  simp only []
  refine hK.out _ _ hB4.out (fun hHeld => ?_)
  clear hK K
  try simp only [Act.put, List.setIfInBounds_toArray, List.set_cons_zero, List.set_cons_succ]
  refine wpAnyH_ready (rs := [8]) (by kernel_rfl) (by simp) ?_
  refine AllReadyH.cons rfl (fun K hK => ?_) AllReadyH.nil
  go_simp
  refine hK.out _ _ (hB4.out.alloc _) (fun hHeld => ?_)
  clear hK K
  try simp only [Act.put, List.setIfInBounds_toArray, List.set_cons_zero, List.set_cons_succ]
  refine wpAnyH_ready (rs := [9]) (by kernel_rfl) (by simp) ?_
  refine AllReadyH.cons rfl (fun K hK => ?_) AllReadyH.nil
  go_simp
  refine (concat_two A3 A4 31 31 c3 c4 (secL (n % 3)) (grpL (n / 3)) w4 (by simp [secL]) (by simp [grpL]) (Reads.of_own HO3'.out) (Reads.of_own HO4.out) (by omega)).mono ?_
  rintro e w5 ⟨A5, c5, rfl, ho5, hb5⟩
  have b5 : Below W2.heap.size W2 w5 := Below.step b4 hb5
  have HO5 := hide ho5
  clear ho5 hb5
  simp only []
  refine hK.out _ _ (HB2.out.below b5 HB2.out.lt) (fun hHeld => ?_)
  clear hK K
  try simp only [Act.put, List.setIfInBounds_toArray, List.set_cons_zero, List.set_cons_succ]
  refine take_at (i := 10) 2 (v := .slice A5 62 c5) rfl rfl (by kernel_rfl) (by kernel_rfl) (by kernel_rfl) (fun _ _ _ h => h) (Or.inl ⟨by rfl, by intro w hSw; go_simp⟩) (by assumption) ?_
  try simp only [Act.put, List.setIfInBounds_toArray, List.set_cons_zero, List.set_cons_succ]
  refine wpAnyH_done (by kernel_rfl) ?_ _
  go_wp2
  go_ret
  exact ⟨A5, c5, rfl, HO5.out.weaken (by have := hz.size; have := b4.size; omega), Below.step hz b5⟩
end Go.Proofs.Ythfmjohbokpceaa
