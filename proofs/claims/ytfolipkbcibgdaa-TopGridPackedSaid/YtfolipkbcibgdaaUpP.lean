import Derived.Deep.RegionHeld3
import Derived.StillTail
namespace Go.Proofs.Ytfolipkbcibgdaa
open Go

/-! a region that draws its order and ends with stores: two facts held, each up to its own stores; several operations ready -/
section
variable {P : Program} {ops : Array Oper} {Q : Exit → Act → World → Prop} {md : Region.Mode} {S S' : World → Prop} {Z Z' : List Nat}

/-- whatever order is picked; every operation but those of Z keeps S -/
def UpP (P : Program) (md : Region.Mode) (ops : Array Oper) (Q : Exit → Act → World → Prop) (S : World → Prop) (Z : List Nat) (S' : World → Prop) (Z' : List Nat) : Nat → Array Bool → Act → World → Prop
  | 0, listed, a, w => Region.ready md ops listed = [] ∧ Q .normal a w
  | n + 1, listed, a, w => (Region.ready md ops listed = [] → Q .normal a w) ∧ ∀ k ∈ Region.ready md ops listed, wpOp P ops Q k (fun a' w' => ((k ∉ Z → S w → S w') ∧ (k ∉ Z' → S' w → S' w')) ∧ UpP P md ops Q S Z S' Z' n (listed.setIfInBounds k true) a' w') a w

theorem UpP.any : ∀ (n : Nat) (listed : Array Bool) (a : Act) (w : World), UpP P md ops Q S Z S' Z' n listed a w → wpAny P md ops Q n listed a w
  | 0, _, _, _, h => h
  | n + 1, _, _, _, h => ⟨h.1, fun k hk => wpOp_mono (fun a' w' g => UpP.any n _ a' w' g.2) (h.2 k hk)⟩

theorem UpP.first {T : World → Prop} {i : Nat} {oi : Oper} {v : Value} (hi : ops[i]? = some oi) (hsel : ∀ (j : Nat) (o : Oper) cs b, ops[j]? = some o → o.op ≠ .select cs b)
    (hQ : ∀ c a w, Q (.panic c) (a.put oi.dst v) w → Q (.panic c) a w)
    (hst : ∀ (j : Nat) (oj : Oper) (w w' : World), ops[j]? = some oj → (∀ x ∈ oj.after, Region.binds md x = true → x.on ≠ i) → (j ∉ Z → S w → S w') → (j ∉ Z' → S' w → S' w') → T w → T w') (n : Nat) :
    ∀ (listed : Array Bool) (a : Act) (w : World),
      (∀ j oj, ops[j]? = some oj → j ≠ i → listed.getD j true = false → (∀ e ∈ oj.after, Region.binds md e = true → e.on ≠ i) → oi.apart ops oj = true) →
      i ∈ Region.ready md ops listed → YieldsIf P ops T oi v a → T w →
      UpP P md ops Q S Z S' Z' n (listed.setIfInBounds i true) (a.put oi.dst v) w → UpP P md ops Q S Z S' Z' (n + 1) listed a w := by
  have own : ∀ (m : Nat) (listed : Array Bool) (a : Act) (w : World), YieldsIf P ops T oi v a → T w → UpP P md ops Q S Z S' Z' m (listed.setIfInBounds i true) (a.put oi.dst v) w →
      wpOp P ops Q i (fun a' w' => ((i ∉ Z → S w → S w') ∧ (i ∉ Z' → S' w → S' w')) ∧ UpP P md ops Q S Z S' Z' m (listed.setIfInBounds i true) a' w') a w := fun _ _ _ _ hy hS h => hy.wpOp hi hS ⟨⟨fun _ h => h, fun _ h => h⟩, h⟩
  induction n with
  | zero =>
    intro listed a w _ hr hy hS h
    refine ⟨fun h0 => by rw [h0] at hr; exact absurd hr (by simp), fun j hj => ?_⟩
    by_cases e : j = i
    · rw [e]; exact own 0 listed a w hy hS h
    · exact absurd (ready_mono hj e) (by rw [h.1]; simp)
  | succ n ih =>
    intro listed a w hfree hr hy hS h
    refine ⟨fun h0 => by rw [h0] at hr; exact absurd hr (by simp), fun j hj => ?_⟩
    by_cases e : j = i
    · rw [e]; exact own (n + 1) listed a w hy hS h
    obtain ⟨hun, oj, hoj, hall⟩ := mem_ready.1 hj
    -- nothing that may come up waits for i
    have hno : ∀ x ∈ oj.after, Region.binds md x = true → x.on ≠ i := by
      intro x hx hb hxi
      have g1 := hall x hx hb
      have g2 := (mem_ready.1 hr).1
      rw [hxi] at g1
      rw [getD_both g2] at g1
      exact absurd g1 (by decide)
    have step := wpOp_putIf hoj (hfree j oj hoj e hun hno) (fun cs b => hsel i oi cs b hi) (fun cs b => hsel j oj cs b hoj) hQ hy (h.2 j (ready_mono hj e))
    refine wpOp_mono (fun a' w' g => ⟨g.2.1, ?_⟩) step
    refine ih (listed.setIfInBounds j true) a' w' (fun k ok hk hki hku hkn => hfree k ok hk hki ?_ hkn) (ready_mono hr (Ne.symm e)) g.1 (hst j oj w w' hoj hno g.2.1.1 g.2.1.2 hS) ?_
    · by_cases q : j = k
      · rw [← q]; exact hun
      · rw [getD_set_ne true q] at hku; exact hku
    · rw [Array.setIfInBounds_comm _ _ e]
      exact g.2.2

theorem UpP.start {id : Nat} {a : Act} {w : World} (hm : P.follows .mixedOrders = true) (h : UpP P .any ops Q S Z S' Z' ops.size (Array.replicate ops.size false) a w.drew) : (Code.region id ops true).wp P Q a w :=
  wp_region_any hm (UpP.any _ _ _ _ h)
/-- an operation that reads: all that may break S wait for it -/
theorem UpP.take {i : Nat} {oi : Oper} (d : Tmp) {v : Value} {n : Nat} {listed : Array Bool} {a : Act} {w : World} (hi : ops[i]? = some oi) (hd : oi.dst = some d)
    (hs : Region.noSelect ops = true) (hf : Region.free md ops listed i = true) (hr : (Region.ready md ops listed).contains i = true) (hz : Z.all (fun z => Region.waitsFor md ops z i) = true)
    (hQ : ∀ c a w, Q (.panic c) (a.put oi.dst v) w → Q (.panic c) a w) (hS : S w) (hy : YieldsIf P ops S oi v a)
    (h : UpP P md ops Q S Z S' Z' n (listed.setIfInBounds i true) (a.put (some d) v) w) : UpP P md ops Q S Z S' Z' (n + 1) listed a w :=
  UpP.first (T := S) hi (Region.noSelect_spec hs) hQ (fun j oj w w' hoj hno hk _ hS => hk (fun hjZ => by
      obtain ⟨oz, hoz, x, hx, hb, hon⟩ := Region.waitsFor_spec (List.all_eq_true.1 hz j hjZ)
      rw [hoj] at hoz
      injection hoz with hoz
      subst hoz
      exact hno x hx hb hon) hS) n listed a w (Region.free_spec hi hf) (by simpa using hr) hy hS (by rw [hd]; exact h)
/-- an operation that reads: all that may break S wait for it -/
theorem UpP.take2 {i : Nat} {oi : Oper} (d : Tmp) {v : Value} {n : Nat} {listed : Array Bool} {a : Act} {w : World} (hi : ops[i]? = some oi) (hd : oi.dst = some d)
    (hs : Region.noSelect ops = true) (hf : Region.free md ops listed i = true) (hr : (Region.ready md ops listed).contains i = true) (hz : Z'.all (fun z => Region.waitsFor md ops z i) = true)
    (hQ : ∀ c a w, Q (.panic c) (a.put oi.dst v) w → Q (.panic c) a w) (hS : S' w) (hy : YieldsIf P ops S' oi v a)
    (h : UpP P md ops Q S Z S' Z' n (listed.setIfInBounds i true) (a.put (some d) v) w) : UpP P md ops Q S Z S' Z' (n + 1) listed a w :=
  UpP.first (T := S') hi (Region.noSelect_spec hs) hQ (fun j oj w w' hoj hno _ hk hS => hk (fun hjZ => by
      obtain ⟨oz, hoz, x, hx, hb, hon⟩ := Region.waitsFor_spec (List.all_eq_true.1 hz j hjZ)
      rw [hoj] at hoz
      injection hoz with hoz
      subst hoz
      exact hno x hx hb hon) hS) n listed a w (Region.free_spec hi hf) (by simpa using hr) hy hS (by rw [hd]; exact h)
/-- an operation that reads no memory: it may be taken first whatever comes -/
theorem UpP.pure {i : Nat} {oi : Oper} (d : Tmp) {v : Value} {n : Nat} {listed : Array Bool} {a : Act} {w : World} (hi : ops[i]? = some oi) (hd : oi.dst = some d)
    (hs : Region.noSelect ops = true) (hf : Region.free md ops listed i = true) (hr : (Region.ready md ops listed).contains i = true)
    (hQ : ∀ c a w, Q (.panic c) (a.put oi.dst v) w → Q (.panic c) a w) (hy : YieldsIf P ops (fun _ => True) oi v a)
    (h : UpP P md ops Q S Z S' Z' n (listed.setIfInBounds i true) (a.put (some d) v) w) : UpP P md ops Q S Z S' Z' (n + 1) listed a w :=
  UpP.first (T := fun _ => True) hi (Region.noSelect_spec hs) hQ (fun _ _ _ _ _ _ _ _ _ => trivial) n listed a w (Region.free_spec hi hf) (by simpa using hr) hy trivial (by rw [hd]; exact h)
theorem UpP.next {i : Nat} {o : Oper} {n : Nat} {listed : Array Bool} {a : Act} {w : World} (hr : Region.ready md ops listed = [i]) (ho : ops[i]? = some o)
    (h : ∀ K : Act → World → Prop, Shut (∀ a w', ((i ∉ Z → S w → S w') ∧ (i ∉ Z' → S' w → S' w')) → UpP P md ops Q S Z S' Z' n (listed.setIfInBounds i true) a w' → K a w') → if Region.wanted o (yielded ops a.tmps) = true then Oper.wp P o a w K Q else K (a.put o.dst undef) w) :
    UpP P md ops Q S Z S' Z' (n + 1) listed a w :=
  ⟨fun h0 => by rw [hr] at h0; exact absurd h0 (by simp), fun k hk => by
    rw [hr] at hk
    obtain rfl : k = i := by simpa using hk
    exact wpOp_step ho fun K hK => h K fun a w g1 g2 => hK a w ⟨g1, g2⟩⟩
theorem UpP.next2 {i j : Nat} {o o' : Oper} {n : Nat} {listed : Array Bool} {a : Act} {w : World} (hr : Region.ready md ops listed = [i, j]) (ho : ops[i]? = some o) (ho' : ops[j]? = some o')
    (h : ∀ K : Act → World → Prop, Shut (∀ a w', ((i ∉ Z → S w → S w') ∧ (i ∉ Z' → S' w → S' w')) → UpP P md ops Q S Z S' Z' n (listed.setIfInBounds i true) a w' → K a w') → if Region.wanted o (yielded ops a.tmps) = true then Oper.wp P o a w K Q else K (a.put o.dst undef) w)
    (h' : ∀ K : Act → World → Prop, Shut (∀ a w', ((j ∉ Z → S w → S w') ∧ (j ∉ Z' → S' w → S' w')) → UpP P md ops Q S Z S' Z' n (listed.setIfInBounds j true) a w' → K a w') → if Region.wanted o' (yielded ops a.tmps) = true then Oper.wp P o' a w K Q else K (a.put o'.dst undef) w) :
    UpP P md ops Q S Z S' Z' (n + 1) listed a w :=
  ⟨fun h0 => by rw [hr] at h0; exact absurd h0 (by simp), fun k hk => by
    rw [hr] at hk
    have hk : k = i ∨ k = j := by simpa using hk
    rcases hk with rfl | rfl
    · exact wpOp_step ho fun K hK => h K fun a w g1 g2 => hK a w ⟨g1, g2⟩
    · exact wpOp_step ho' fun K hK => h' K fun a w g1 g2 => hK a w ⟨g1, g2⟩⟩
theorem UpP.done {listed : Array Bool} {a : Act} {w : World} (hr : Region.ready md ops listed = []) (h : Q .normal a w) : ∀ n, UpP P md ops Q S Z S' Z' n listed a w
  | 0 => ⟨hr, h⟩
  | _ + 1 => ⟨fun _ => h, fun k hk => absurd hk (by rw [hr]; simp)⟩
end
end Go.Proofs.Ytfolipkbcibgdaa
