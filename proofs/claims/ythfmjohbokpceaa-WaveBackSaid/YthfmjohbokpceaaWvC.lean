import Derived.Test.YthfmjohbokpceaaWvB
namespace Go.Proofs.Ythfmjohbokpceaa
open Go.RowKit Go.WideShapes Go.ChangeShapes

/-! whether parts are small; the errors of entries, numbers and samples (program) -/
def idxI (p : Int → Bool) : List Int → Int → Int
  | [], _ => -1
  | x :: r, k => if p x then k else idxI p r (k + 1)
theorem idxI_hit (p : Int → Bool) (l : List Int) (k : Nat) (hk : k < l.length) (h0 : p l[k] = true) (i : Int) : idxI p (l.drop k) i = i := by
  rw [List.drop_eq_getElem_cons hk]; exact if_pos h0
theorem idxI_skip (p : Int → Bool) (l : List Int) (k : Nat) (hk : k < l.length) (h0 : p l[k] = false) (i : Int) : idxI p (l.drop k) i = idxI p (l.drop (k+1)) (i+1) := by
  rw [List.drop_eq_getElem_cons hk]; exact if_neg (by simp [h0])
theorem idxI_any (p : Int → Bool) : ∀ (l : List Int) (k : Int), 0 ≤ k → decide (0 ≤ idxI p l k) = l.any p
  | [], k, _ => by simp [idxI]
  | x :: r, k, hk => by
    rw [idxI, List.any_cons]
    cases h : p x
    · rw [if_neg (by simp), idxI_any p r (k + 1) (by omega)]; rfl
    · rw [if_pos rfl, decide_eq_true hk]; rfl
set_option maxHeartbeats 1000000 in
theorem indexFuncC (K : FuncId) (q : Value) (p : Int → Bool) (A : Option Addr) (c : Nat) (l : List Int) (w : World)
    (hK : ∀ args W, (callFunc K args).run Try.prog W = .ok (.enter K args) W)
    (hp : ∀ x, Calls Try.prog K #[.int .i64 x, q] w fun e w' => e = .returned (.bool (p x)) ∧ w = w')
    (hs : Sl w A (iv l)) (hl : l.length ≤ 1000000) :
    Calls Try.prog 186 #[.slice A l.length c, .func (.func K) #[] #[q]] w fun x w' => x = .returned (.int .i64 (idxI p l 0)) ∧ w = w' := by
  have HP := Lib.hid hp
  clear hp
  have HS := Lib.hid hs
  clear hs
  go_enter Try.func186, Try.ntmps186
  go_wp2
  go_loop [8] (fun i => ∃ k : Nat, k ≤ l.length ∧ i = .int .i64 k ∧ idxI p l 0 = idxI p (l.drop k) k) (fun i => l.length - (intOf i).toNat)
  case atStart => exact ⟨0, Nat.zero_le _, rfl, by simp⟩
  case round =>
    obtain ⟨k, hk, rfl, he⟩ := hrel
    have HE := Lib.hid he
    clear he
    by_cases hlt : k < l.length
    · obtain ⟨b, off, rfl, hc⟩ := HS.out.int hlt
      cases h0 : p l[k]
      · have hh := idxI_skip p l k hlt h0 k
        have HH := Lib.hid hh; clear hh
        have H0 := Lib.hid h0; clear h0
        go_wp2_with fail
        refine (HP.out _).mono ?_
        rintro e w' ⟨rfl, rfl⟩
        rw [H0.out]
        go_wp2
        go_round
        case rel => exact ⟨k + 1, by omega, by go_num, by rw [HE.out, HH.out]; simp⟩
        case measure => simp [intOf]; omega
      · have hh := idxI_hit p l k hlt h0 k
        have HH := Lib.hid hh; clear hh
        have H0 := Lib.hid h0; clear h0
        go_wp2_with fail
        refine (HP.out _).mono ?_
        rintro e w' ⟨rfl, rfl⟩
        rw [H0.out]
        go_wp2
        go_ret
        exact ⟨by rw [HE.out, HH.out]; rfl, rfl⟩
    · go_wp2
      go_ret
      exact ⟨by rw [HE.out, List.drop_eq_nil_of_le (by omega)]; rfl, rfl⟩
theorem containsFuncC (K : FuncId) (q : Value) (p : Int → Bool) (A : Option Addr) (c n : Nat) (l : List Int) (w : World) (hn : l.length = n)
    (hK : ∀ args W, (callFunc K args).run Try.prog W = .ok (.enter K args) W)
    (hp : ∀ x, Calls Try.prog K #[.int .i64 x, q] w fun e w' => e = .returned (.bool (p x)) ∧ w = w')
    (hs : Sl w A (iv l)) (hl : l.length ≤ 1000000) :
    Calls Try.prog 173 #[.slice A n c, .func (.func K) #[] #[q]] w fun x w' => x = .returned (.bool (l.any p)) ∧ w = w' := by
  subst hn
  have H := Lib.hid (indexFuncC K q p A c l w hK hp hs hl)
  have HA := Lib.hid (idxI_any p l 0 (Int.le_refl _))
  clear hp hs
  go_enter Try.func173, Try.ntmps173
  go_wp2_with fail
  refine H.out.mono ?_
  rintro e w' ⟨rfl, rfl⟩
  go_wp2
  go_ret
  exact ⟨by rw [← HA.out]; rfl, rfl⟩
theorem fits1_wave (x m : Int) (p : Addr) (w : World) (hc : w.cell? p = some (.int .i64 m)) (h : -9223372036854775807 ≤ m) (h' : m ≤ 9223372036854775807) :
    Calls Try.prog 174 #[.int .i64 x, .pointer (some p)] w fun e w' => e = .returned (.bool (!(withinB x (-m) m))) ∧ w = w' := by
  go_enter Try.func174, Try.ntmps174
  go_wp2_with (go_at_call 171; refine (small_wave _ _ h h' _).mono ?_; rintro e w' ⟨rfl, rfl⟩)
  go_ret
  exact ⟨rfl, rfl⟩
/-- no part is greater in size than m -/
def fitsB (m : Int) (x : Nm) : Bool := withinB x.1 (-m) m && withinB x.2.1 (-m) m && withinB x.2.2.1 (-m) m && withinB x.2.2.2 (-m) m
theorem fitsB_iff (m : Int) (x : Nm) : fitsB m x = true ↔ nle m x := by
  unfold fitsB withinB nle
  simp only [Bool.and_eq_true, decide_eq_true_eq]
  constructor
  · rintro ⟨⟨⟨⟨a, b⟩, c, d⟩, e, f⟩, g, h⟩; exact ⟨a, b, c, d, e, f, g, h⟩
  · rintro ⟨a, b, c, d, e, f, g, h⟩; exact ⟨⟨⟨⟨a, b⟩, c, d⟩, e, f⟩, g, h⟩
theorem fits_any (m : Int) (a b c d : Int) : (!([a, b, c, d].any fun x => !(withinB x (-m) m))) = fitsB m (a, b, c, d) := by
  unfold fitsB
  simp only [List.any_cons, List.any_nil, Bool.or_false, Bool.not_or, Bool.not_not]
  cases withinB a (-m) m <;> cases withinB b (-m) m <;> cases withinB c (-m) m <;> cases withinB d (-m) m <;> rfl
set_option maxRecDepth 100000 in
theorem fits_wave (x : Nm) (m : Int) (w : World) (h : -9223372036854775807 ≤ m) (h' : m ≤ 9223372036854775807) :
    Calls Try.prog 118 #[nv x, .int .i64 m] w fun e w' => e = .returned (.bool (fitsB m x)) ∧ Below w.heap.size w w' := by
  have hK := hide (enters Try.func174 (by kernel_rfl) rfl)
  obtain ⟨a, b, c, d⟩ := x
  have HF := hide (fits_any m a b c d)
  have HS := hide ((Sl.new w (iv [a, b, c, d]) 162 _ rfl).alloc (.cells #[.int .i64 m] 3))
  go_enter Try.func118, Try.ntmps118
  go_wp2_with (go_at_call 173; go_must (refine (containsFuncC 174 _ (fun x => !(withinB x (-m) m)) _ _ _ [a, b, c, d] _ rfl hK.out (fun x => fits1_wave x m _ _ (by simp [go_sem]) h h') HS.out (by simp)).mono ?_; rintro e w' ⟨rfl, rfl⟩; simp only []))
  go_ret
  exact ⟨retB (by rw [← HF.out]; simp), by go_grown⟩

/-- whether both parts are small -/
def entB (m : Int) (z : Int × Int) : Bool := withinB z.1 (-m) m && withinB z.2 (-m) m
theorem entB_iff (m : Int) (z : Int × Int) : entB m z = true ↔ (-m ≤ z.1 ∧ z.1 ≤ m ∧ -m ≤ z.2 ∧ z.2 ≤ m) := by
  unfold entB withinB
  simp only [Bool.and_eq_true, decide_eq_true_eq]
  constructor
  · rintro ⟨⟨a, b⟩, c, d⟩; exact ⟨a, b, c, d⟩
  · rintro ⟨a, b, c, d⟩; exact ⟨⟨a, b⟩, c, d⟩
theorem isEntry_wave (z : Int × Int) (m : Int) (w : World) (h : -9223372036854775807 ≤ m) (h' : m ≤ 9223372036854775807) :
    Calls Try.prog 146 #[.agg #[.int .i64 z.1, .int .i64 z.2], .int .i64 m] w fun e w' => e = .returned (.bool (entB m z)) ∧ Below w.heap.size w w' := by
  obtain ⟨a, b⟩ := z
  unfold entB
  dsimp only
  rcases (by cases withinB a (-m) m <;> simp : (withinB a (-m) m = false) ∨ (withinB a (-m) m = true)) with k1 | k1
  all_goals
    rw [k1]
    go_enter Try.func146, Try.ntmps146
    go_wp2_with (go_at_call 171; refine (small_wave _ _ h h' _).mono ?_; rintro e w' ⟨rfl, rfl⟩; simp only [])
    go_ret
    exact ⟨rfl, by go_grown⟩
/-- the error of a number that must be small -/
def numE (x : Nm) : Int := unlessE (fitsB 1000000000 x) 2
def entE (z : Int × Int) : Int := unlessE (entB 10000 z) 2
theorem entryErr_wave (z : Int × Int) (w : World) : Calls Try.prog 141 #[.agg #[.int .i64 z.1, .int .i64 z.2]] w fun e w' => e = .returned (.int .i64 (entE z)) ∧ Below w.heap.size w w' := by
  go_enter Try.func141, Try.ntmps141
  go_wp2_with (first
    | (go_at_call 146; go_must (refine (isEntry_wave z _ _ (by omega) (by omega)).mono ?_; rintro e w1 ⟨rfl, hb1⟩; simp only []))
    | (go_at_call 115; refine (unless_any _ _ _).mono ?_; rintro e w' ⟨rfl, rfl⟩))
  go_ret
  exact ⟨rfl, Below.step (by go_grown) hb1⟩
theorem numberErr_wave (x : Nm) (w : World) : Calls Try.prog 126 #[nv x] w fun e w' => e = .returned (.int .i64 (numE x)) ∧ Below w.heap.size w w' := by
  go_enter Try.func126, Try.ntmps126
  go_wp2_with (first
    | (go_at_call 110; go_must (refine (numberOf_wave x _).mono ?_; rintro e w1 ⟨rfl, hb1⟩; have b1 : Below w.heap.size w w1 := Below.step (by go_grown) hb1; clear hb1; simp only []))
    | (go_at_call 118; go_must (refine (fits_wave x _ _ (by omega) (by omega)).mono ?_; rintro e w2 ⟨rfl, hb2⟩; have b2 : Below w.heap.size w w2 := Below.step b1 hb2; clear hb2; simp only []))
    | (go_at_call 115; refine (unless_any _ _ _).mono ?_; rintro e w' ⟨rfl, rfl⟩))
  go_ret
  exact ⟨rfl, b2⟩
/-- the error of samples -/
def smpE (l : List Nm) : Int := if 120 < l.length then 8 else eachE numE l
theorem samplesErr_wave (A : Option Addr) (c : Nat) (l : List Nm) (w : World) (hs : Sl w A (nvs l)) (hl : l.length ≤ 1000000) :
    Calls Try.prog 108 #[.slice A l.length c] w fun e w' => e = .returned (.int .i64 (smpE l)) ∧ Below w.heap.size w w' := by
  have hK := hide (enters Try.func126 (by kernel_rfl) rfl)
  have HS := hide hs; clear hs
  unfold smpE
  by_cases h : 120 < l.length
  · rw [if_pos h]
    go_enter Try.func108, Try.ntmps108
    go_wp2
    go_ret
    exact ⟨rfl, by go_grown⟩
  · rw [if_neg h]
    have h' : l.length ≤ 120 := by omega
    go_enter Try.func108, Try.ntmps108
    go_wp2_with (go_at_call 135; go_must (refine (each_num 126 numE A c l _ hK.out (fun z W => numberErr_wave z W) HS.out hl).mono ?_; rintro e w1 ⟨rfl, hb1⟩; simp only []))
    go_ret
    exact ⟨rfl, hb1⟩
end Go.Proofs.Ythfmjohbokpceaa
