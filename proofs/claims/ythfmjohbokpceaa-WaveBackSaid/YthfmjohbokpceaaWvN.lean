import Derived.Test.YthfmjohbokpceaaWvM
namespace Go.Proofs.Ythfmjohbokpceaa
open Go.RowKit Go.WideShapes Go.ChangeShapes

/-! the sequence that is asked for; paths (program) -/
theorem SequenceOf_ok (n : Nat) (hn : n < 1008) (w : World) : Calls Try.prog 22 #[.int .i64 (n : Int)] w fun e w' => ∃ A c, e = .returned (.tuple #[.slice A 62 c, .int .i64 0]) ∧ w'.ownsRow w.heap.size 3 1 (.slice A 62 c) 62 (iv (seqL n)) ∧ Below w.heap.size w w' := by
  have h0 : unlessE (withinB (n : Int) 0 1007) 2 = 0 := by unfold unlessE withinB; rw [decide_eq_true (by omega : (0 : Int) ≤ n), decide_eq_true (by omega : (n : Int) ≤ 1007)]; rfl
  have HS := hide (fun W => sequenceOf_wave n hn W)
  go_enter Try.func22, Try.ntmps22
  go_wp2_with (first
    | (go_at_call 105; refine (identityErr_wave _ _).mono ?_; rintro e w' ⟨rfl, rfl⟩; rw [h0]; simp only [])
    | (go_at_call 106; refine (HS.out _).mono ?_; rintro e w1 ⟨A, c, rfl, ho, hb⟩; have HO := hide ho; have HB := hide hb; clear ho hb; simp only []))
  go_ret2
  exact ⟨A, c, rfl, HO.out, HB.out⟩
theorem SequenceOf_err (n : Int) (hn : n < 0 ∨ 1007 < n) (w : World) : Calls Try.prog 22 #[.int .i64 n] w fun e w' => e = .returned (.tuple #[.slice none 0 0, .int .i64 2]) ∧ w = w' := by
  have h0 : unlessE (withinB n 0 1007) 2 = 2 := by
    have : withinB n 0 1007 = false := by unfold withinB; rw [Bool.and_eq_false_iff, decide_eq_false_iff_not, decide_eq_false_iff_not]; omega
    rw [this]; rfl
  go_enter Try.func22, Try.ntmps22
  go_wp2_with (go_at_call 105; refine (identityErr_wave _ _).mono ?_; rintro e w' ⟨rfl, rfl⟩; rw [h0]; simp only [])
  go_ret2
  exact ⟨rfl, rfl⟩

/-- paths: how late, and the gain; three cells each -/
abbrev Pth := Int × Int × Int
def pvs (h : List Pth) : List Value := h.flatMap (fun z => [.int .i64 z.1, .int .i64 z.2.1, .int .i64 z.2.2])
theorem pvs_cons (z : Pth) (r : List Pth) : pvs (z :: r) = .int .i64 z.1 :: .int .i64 z.2.1 :: .int .i64 z.2.2 :: pvs r := rfl
theorem pvs_len : ∀ h : List Pth, (pvs h).length = h.length * 3
  | [] => rfl
  | z :: r => by rw [pvs_cons]; simp only [List.length_cons, pvs_len r]; omega
theorem pvs_at : ∀ (h : List Pth) (k : Nat) (hk : k < h.length), (pvs h)[k * 3]? = some (.int .i64 h[k].1) ∧ (pvs h)[k * 3 + 1]? = some (.int .i64 h[k].2.1) ∧ (pvs h)[k * 3 + 2]? = some (.int .i64 h[k].2.2)
  | z :: r, 0, _ => by rw [pvs_cons]; simp
  | z :: r, k + 1, hk => by
    have e : (k + 1) * 3 = k * 3 + 1 + 1 + 1 := by omega
    rw [pvs_cons, e]
    have := pvs_at r k (by simpa using hk)
    simpa using this
theorem pvs_one (h : List Pth) : ∀ u ∈ pvs h, u.oneCell' = true := by
  intro u hu
  simp only [pvs, List.mem_flatMap] at hu
  obtain ⟨z, _, hz⟩ := hu
  simp at hz
  rcases hz with rfl | rfl | rfl <;> rfl
theorem Sl.at3 {w : World} {A : Option Addr} {h : List Pth} (hs : Sl w A (pvs h)) {k : Nat} (hk : k < h.length) :
    ∃ b off, A = some ⟨b, off, none⟩ ∧ w.cell? ⟨b, off + k * 3, none⟩ = some (.int .i64 h[k].1) ∧ w.cell? ⟨b, off + k * 3 + 1, none⟩ = some (.int .i64 h[k].2.1) ∧ w.cell? ⟨b, off + k * 3 + 2, none⟩ = some (.int .i64 h[k].2.2) := by
  obtain ⟨h1, h2, h3⟩ := pvs_at h k hk
  obtain ⟨b, off, e, _⟩ := hs _ (List.getElem?_eq_some_iff.1 h1).1
  exact ⟨b, off, e, hs.one e h1, hs.one e h2, hs.one e h3⟩
/-- whether a path is right by itself -/
def rightB (p : Pth) : Bool := withinB p.1 0 7 && entB 100 p.2
/-- the error of paths from the number i on, the last delay being so much, with the number -/
def pthG (last i : Int) : List Pth → Int × Int
  | [] => (0, 0)
  | p :: r => if rightB p then (if last < p.1 then pthG p.1 (i + 1) r else (i, 9)) else (i, 2)
def pthV (l : List Pth) : Int × Int := if l.length = 0 then (0, 10) else if 6 < l.length then (0, 8) else pthG (-1) 0 l
theorem pthG_drop (l : List Pth) (k : Nat) (hk : k < l.length) (last i : Int) : pthG last i (l.drop k) = if rightB l[k] then (if last < l[k].1 then pthG l[k].1 (i + 1) (l.drop (k + 1)) else (i, 9)) else (i, 2) := by
  rw [List.drop_eq_getElem_cons hk]; rfl
set_option maxRecDepth 100000 in
set_option maxHeartbeats 4000000 in
theorem checkPaths_wave (A : Option Addr) (c : Nat) (l : List Pth) (w : World) (hs : Sl w A (pvs l)) (hl : l.length ≤ 1000000) :
    Calls Try.prog 63 #[.slice A l.length c] w fun e w' => e = .returned (.tuple #[.int .i64 (pthV l).1, .int .i64 (pthV l).2]) ∧ Below w.heap.size w w' := by
  have HS := hide hs; clear hs
  by_cases h0 : l.length = 0
  · have hv : pthV l = (0, 10) := if_pos h0
    rw [hv]
    have d1 : decide (0 < l.length) = false := by rw [decide_eq_false_iff_not]; omega
    have d2 : decide ((l.length : Int) ≤ 6) = true := by rw [decide_eq_true_iff]; omega
    clear hv h0
    have hf : firstOf [unlessE false 10, unlessE true 8] = 10 := by decide
    have hq : (firstOf [unlessE false 10, unlessE true 8] != 0) = true := by decide
    go_enter Try.func63, Try.ntmps63
    go_wp2_with (first
      | (go_at_call 115; refine (unless_any _ _ _).mono ?_; rintro e w' ⟨rfl, rfl⟩; simp only [])
      | (go_at_call 107; go_must (refine (first2 _ _ _ _ (by simp)).mono ?_; rintro e w' ⟨rfl, rfl⟩; simp only [])))
    go_ret2
    exact ⟨by first | rfl | (rw [hf]; done), by go_grown⟩
  by_cases h6 : 6 < l.length
  · have hv : pthV l = (0, 8) := by unfold pthV; rw [if_neg h0, if_pos h6]
    rw [hv]
    have d1 : decide (0 < l.length) = true := by rw [decide_eq_true_iff]; omega
    have d2 : decide ((l.length : Int) ≤ 6) = false := by rw [decide_eq_false_iff_not]; omega
    clear hv h0 h6
    have hf : firstOf [unlessE true 10, unlessE false 8] = 8 := by decide
    have hq : (firstOf [unlessE true 10, unlessE false 8] != 0) = true := by decide
    go_enter Try.func63, Try.ntmps63
    go_wp2_with (first
      | (go_at_call 115; refine (unless_any _ _ _).mono ?_; rintro e w' ⟨rfl, rfl⟩; simp only [])
      | (go_at_call 107; go_must (refine (first2 _ _ _ _ (by simp)).mono ?_; rintro e w' ⟨rfl, rfl⟩; simp only [])))
    go_ret2
    exact ⟨by first | rfl | (rw [hf]; done), by go_grown⟩
  have HV := hide (show pthV l = pthG (-1) 0 l by unfold pthV; rw [if_neg h0, if_neg h6])
  have d1 : decide (0 < l.length) = true := by rw [decide_eq_true_iff]; omega
  have d2 : decide ((l.length : Int) ≤ 6) = true := by rw [decide_eq_true_iff]; omega
  have hl6 : l.length ≤ 6 := by omega
  clear h0 h6
  have hq : (firstOf [unlessE true 10, unlessE true 8] != 0) = false := by decide
  go_enter Try.func63, Try.ntmps63
  go_wp2_with (first
    | (go_at_call 115; refine (unless_any _ _ _).mono ?_; rintro e w' ⟨rfl, rfl⟩; simp only [])
    | (go_at_call 107; go_must (refine (first2 _ _ _ _ (by simp)).mono ?_; rintro e w' ⟨rfl, rfl⟩; simp only [])))
  clear hq d1 d2
  go_loopw [5, 25] (fun t i wr => ∃ (k : Nat) (last : Int), k ≤ l.length ∧ i = .int .i64 k ∧ t = .int .i64 last ∧ pthV l = pthG last k (l.drop k) ∧ Below w.heap.size w wr) (fun _ i _ => l.length - (intOf i).toNat)
  case atStart => exact ⟨0, -1, Nat.zero_le _, rfl, rfl, by rw [HV.out]; rfl, by go_grown⟩
  case round =>
    obtain ⟨k, last, hk, rfl, rfl, he, hbel⟩ := hrel
    have HE := hide he
    have hbz := hbel.size
    clear he HV
    by_cases hlt : k < l.length
    · obtain ⟨b, off, rfl, e0, e1, e2⟩ := HS.out.at3 hlt
      have d0 := (hbel.cell (p := ⟨b, off + k * 3, none⟩) (lt_of_cell e0)).trans e0
      have d1 := (hbel.cell (p := ⟨b, off + k * 3 + 1, none⟩) (lt_of_cell e1)).trans e1
      have d2 := (hbel.cell (p := ⟨b, off + k * 3 + 2, none⟩) (lt_of_cell e2)).trans e2
      have hst := pthG_drop l k hlt last k
      obtain ⟨p, hp⟩ : ∃ p, l[k] = p := ⟨_, rfl⟩
      rw [hp] at d0 d1 d2 hst
      have HST := hide hst
      have HRB := hide (show rightB p = (withinB p.1 0 7 && entB 100 p.2) from rfl)
      clear hst e0 e1 e2 hp
      cases hD : withinB p.1 0 7
      · have hr : rightB p = false := by rw [HRB.out, hD]; rfl
        have hres := hide (show pthG last k (l.drop k) = ((k : Int), 2) by rw [HST.out, hr]; rfl)
        clear hr
        by_cases hx : last < p.1
        · have hy : decide (last < p.1) = true := decide_eq_true hx
          have hq : (firstOf [unlessE false 2, unlessE true 9] != 0) = true := by decide
          have hv : firstOf [unlessE false 2, unlessE true 9] = 2 := by decide
          have HQV := hide hv
          clear hx hv
          go_wp2_with (first | (go_at_call 142; refine (within_wave _ _ _ _).mono ?_; rintro e w' ⟨rfl, rfl⟩; rw [hD]; simp only []) | (go_at_call 146; go_must (refine (isEntry_wave p.2 100 _ (by omega) (by omega)).mono ?_; rintro e w1 ⟨rfl, hb1⟩; rw [hG]; have b1 : Below w.heap.size w w1 := Below.step (by go_grown) hb1; have q0 : w1.cell? ⟨wr.heap.size, 0, none⟩ = some (.int .i64 p.1) := (hb1.cell (p := ⟨wr.heap.size, 0, none⟩) (by simp)).trans (by simp [go_sem]); have z1 := b1.size; clear hb1; simp only [])))
          go_region_held3 (fun w' => w'.cell? ⟨wr.heap.size, 0, none⟩ = some (.int .i64 p.1)) (first | (simp [go_sem, World.cell?_alloc_past]; done) | (simp [go_sem, *]; done) | go_keep)
            (first | (go_at_call 115; refine (unless_any _ _ _).mono ?_; rintro e w' ⟨rfl, rfl⟩) | (go_at_call 107; refine (first2d _ _ _ _ (by simp)).mono ?_; rintro e w' ⟨rfl, rfl⟩) | (go_at_call 107; refine (first2 _ _ _ _ (by simp)).mono ?_; rintro e w' ⟨rfl, rfl⟩))
          go_wp2
          go_ret2
          exact ⟨by rw [HE.out, hres.out]; exact ret2i rfl HQV.out, by go_grown⟩
        · have hy : decide (last < p.1) = false := decide_eq_false hx
          have hq : (firstOf [unlessE false 2, unlessE false 9] != 0) = true := by decide
          have hv : firstOf [unlessE false 2, unlessE false 9] = 2 := by decide
          have HQV := hide hv
          clear hx hv
          go_wp2_with (first | (go_at_call 142; refine (within_wave _ _ _ _).mono ?_; rintro e w' ⟨rfl, rfl⟩; rw [hD]; simp only []) | (go_at_call 146; go_must (refine (isEntry_wave p.2 100 _ (by omega) (by omega)).mono ?_; rintro e w1 ⟨rfl, hb1⟩; rw [hG]; have b1 : Below w.heap.size w w1 := Below.step (by go_grown) hb1; have q0 : w1.cell? ⟨wr.heap.size, 0, none⟩ = some (.int .i64 p.1) := (hb1.cell (p := ⟨wr.heap.size, 0, none⟩) (by simp)).trans (by simp [go_sem]); have z1 := b1.size; clear hb1; simp only [])))
          go_region_held3 (fun w' => w'.cell? ⟨wr.heap.size, 0, none⟩ = some (.int .i64 p.1)) (first | (simp [go_sem, World.cell?_alloc_past]; done) | (simp [go_sem, *]; done) | go_keep)
            (first | (go_at_call 115; refine (unless_any _ _ _).mono ?_; rintro e w' ⟨rfl, rfl⟩) | (go_at_call 107; refine (first2d _ _ _ _ (by simp)).mono ?_; rintro e w' ⟨rfl, rfl⟩) | (go_at_call 107; refine (first2 _ _ _ _ (by simp)).mono ?_; rintro e w' ⟨rfl, rfl⟩))
          go_wp2
          go_ret2
          exact ⟨by rw [HE.out, hres.out]; exact ret2i rfl HQV.out, by go_grown⟩
      · cases hG : entB 100 p.2
        · have hr : rightB p = false := by rw [HRB.out, hD, hG]; rfl
          have hres := hide (show pthG last k (l.drop k) = ((k : Int), 2) by rw [HST.out, hr]; rfl)
          clear hr
          by_cases hx : last < p.1
          · have hy : decide (last < p.1) = true := decide_eq_true hx
            have hq : (firstOf [unlessE false 2, unlessE true 9] != 0) = true := by decide
            have hv : firstOf [unlessE false 2, unlessE true 9] = 2 := by decide
            have HQV := hide hv
            clear hx hv
            go_wp2_with (first | (go_at_call 142; refine (within_wave _ _ _ _).mono ?_; rintro e w' ⟨rfl, rfl⟩; rw [hD]; simp only []) | (go_at_call 146; go_must (refine (isEntry_wave p.2 100 _ (by omega) (by omega)).mono ?_; rintro e w1 ⟨rfl, hb1⟩; rw [hG]; have b1 : Below w.heap.size w w1 := Below.step (by go_grown) hb1; have q0 : w1.cell? ⟨wr.heap.size, 0, none⟩ = some (.int .i64 p.1) := (hb1.cell (p := ⟨wr.heap.size, 0, none⟩) (by simp)).trans (by simp [go_sem]); have z1 := b1.size; clear hb1; simp only [])))
            go_region_held3 (fun w' => w'.cell? ⟨wr.heap.size, 0, none⟩ = some (.int .i64 p.1)) (first | (simp [go_sem]; done) | (simp [go_sem, *]; done) | go_keep)
              (first | (go_at_call 115; refine (unless_any _ _ _).mono ?_; rintro e w' ⟨rfl, rfl⟩) | (go_at_call 107; refine (first2d _ _ _ _ (by simp)).mono ?_; rintro e w' ⟨rfl, rfl⟩) | (go_at_call 107; refine (first2 _ _ _ _ (by simp)).mono ?_; rintro e w' ⟨rfl, rfl⟩))
            go_wp2
            go_ret2
            exact ⟨by rw [HE.out, hres.out]; exact ret2i rfl HQV.out, by go_grown⟩
          · have hy : decide (last < p.1) = false := decide_eq_false hx
            have hq : (firstOf [unlessE false 2, unlessE false 9] != 0) = true := by decide
            have hv : firstOf [unlessE false 2, unlessE false 9] = 2 := by decide
            have HQV := hide hv
            clear hx hv
            go_wp2_with (first | (go_at_call 142; refine (within_wave _ _ _ _).mono ?_; rintro e w' ⟨rfl, rfl⟩; rw [hD]; simp only []) | (go_at_call 146; go_must (refine (isEntry_wave p.2 100 _ (by omega) (by omega)).mono ?_; rintro e w1 ⟨rfl, hb1⟩; rw [hG]; have b1 : Below w.heap.size w w1 := Below.step (by go_grown) hb1; have q0 : w1.cell? ⟨wr.heap.size, 0, none⟩ = some (.int .i64 p.1) := (hb1.cell (p := ⟨wr.heap.size, 0, none⟩) (by simp)).trans (by simp [go_sem]); have z1 := b1.size; clear hb1; simp only [])))
            go_region_held3 (fun w' => w'.cell? ⟨wr.heap.size, 0, none⟩ = some (.int .i64 p.1)) (first | (simp [go_sem]; done) | (simp [go_sem, *]; done) | go_keep)
              (first | (go_at_call 115; refine (unless_any _ _ _).mono ?_; rintro e w' ⟨rfl, rfl⟩) | (go_at_call 107; refine (first2d _ _ _ _ (by simp)).mono ?_; rintro e w' ⟨rfl, rfl⟩) | (go_at_call 107; refine (first2 _ _ _ _ (by simp)).mono ?_; rintro e w' ⟨rfl, rfl⟩))
            go_wp2
            go_ret2
            exact ⟨by rw [HE.out, hres.out]; exact ret2i rfl HQV.out, by go_grown⟩
        · have hr : rightB p = true := by rw [HRB.out, hD, hG]; rfl
          by_cases hx : last < p.1
          · have hres := hide (show pthG last k (l.drop k) = pthG p.1 ((k : Int) + 1) (l.drop (k + 1)) by rw [HST.out, hr, if_pos rfl, if_pos hx])
            clear hr
            have hy : decide (last < p.1) = true := decide_eq_true hx
            have hq : (firstOf [unlessE true 2, unlessE true 9] != 0) = false := by decide
            clear hx
            go_wp2_with (first | (go_at_call 142; refine (within_wave _ _ _ _).mono ?_; rintro e w' ⟨rfl, rfl⟩; rw [hD]; simp only []) | (go_at_call 146; go_must (refine (isEntry_wave p.2 100 _ (by omega) (by omega)).mono ?_; rintro e w1 ⟨rfl, hb1⟩; rw [hG]; have b1 : Below w.heap.size w w1 := Below.step (by go_grown) hb1; have q0 : w1.cell? ⟨wr.heap.size, 0, none⟩ = some (.int .i64 p.1) := (hb1.cell (p := ⟨wr.heap.size, 0, none⟩) (by simp)).trans (by simp [go_sem]); have z1 := b1.size; clear hb1; simp only [])))
            go_region_held3 (fun w' => w'.cell? ⟨wr.heap.size, 0, none⟩ = some (.int .i64 p.1)) (first | (simp [go_sem]; done) | (simp [go_sem, *]; done) | go_keep)
              (first | (go_at_call 115; refine (unless_any _ _ _).mono ?_; rintro e w' ⟨rfl, rfl⟩) | (go_at_call 107; refine (first2d _ _ _ _ (by simp)).mono ?_; rintro e w' ⟨rfl, rfl⟩) | (go_at_call 107; refine (first2 _ _ _ _ (by simp)).mono ?_; rintro e w' ⟨rfl, rfl⟩))
            go_wp2
            go_roundw
            case rel => exact ⟨k + 1, p.1, by omega, by go_num, rfl, by rw [HE.out, hres.out]; simp, by go_grown⟩
            case measure => simp [intOf]; omega
          · have hres := hide (show pthG last k (l.drop k) = ((k : Int), 9) by rw [HST.out, hr, if_pos rfl, if_neg hx])
            clear hr
            have hy : decide (last < p.1) = false := decide_eq_false hx
            have hq : (firstOf [unlessE true 2, unlessE false 9] != 0) = true := by decide
            have hv : firstOf [unlessE true 2, unlessE false 9] = 9 := by decide
            have HQV := hide hv
            clear hx hv
            go_wp2_with (first | (go_at_call 142; refine (within_wave _ _ _ _).mono ?_; rintro e w' ⟨rfl, rfl⟩; rw [hD]; simp only []) | (go_at_call 146; go_must (refine (isEntry_wave p.2 100 _ (by omega) (by omega)).mono ?_; rintro e w1 ⟨rfl, hb1⟩; rw [hG]; have b1 : Below w.heap.size w w1 := Below.step (by go_grown) hb1; have q0 : w1.cell? ⟨wr.heap.size, 0, none⟩ = some (.int .i64 p.1) := (hb1.cell (p := ⟨wr.heap.size, 0, none⟩) (by simp)).trans (by simp [go_sem]); have z1 := b1.size; clear hb1; simp only [])))
            go_region_held3 (fun w' => w'.cell? ⟨wr.heap.size, 0, none⟩ = some (.int .i64 p.1)) (first | (simp [go_sem]; done) | (simp [go_sem, *]; done) | go_keep)
              (first | (go_at_call 115; refine (unless_any _ _ _).mono ?_; rintro e w' ⟨rfl, rfl⟩) | (go_at_call 107; refine (first2d _ _ _ _ (by simp)).mono ?_; rintro e w' ⟨rfl, rfl⟩) | (go_at_call 107; refine (first2 _ _ _ _ (by simp)).mono ?_; rintro e w' ⟨rfl, rfl⟩))
            go_wp2
            go_ret2
            exact ⟨by rw [HE.out, hres.out]; exact ret2i rfl HQV.out, by go_grown⟩
    · have hk' : k = l.length := by omega
      have hfin := hide (show pthG last k (l.drop k) = (0, 0) by rw [List.drop_eq_nil_of_le (by omega)]; rfl)
      go_wp2
      go_ret2
      exact ⟨by rw [HE.out, hfin.out]; rfl, hbel⟩
end Go.Proofs.Ythfmjohbokpceaa
