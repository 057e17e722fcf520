import Derived.Test.YthfmjohbokpceaaWvO
import Derived.Test.YthfmjohbokpceaaWvH
namespace Go.Proofs.Ythfmjohbokpceaa
open Go.RowKit Go.WideShapes Go.ChangeShapes

/-! the offset of samples (program) -/
def kn (l : List Nm) (i : Nat) : Nm := l[i]?.getD n0
/-- the sum for f eighths, over the first so many samples -/
def osum (a b : List Nm) (f : Nat) : Nat → Nm := nsum fun i => tni (nmul (nconj (kn a i)) (kn b i)) (-(f : Int) * (i : Int))
/-- the offset so far, and the greatest square so far -/
def offSt (a b : List Nm) : Nat → Int × Int × Int
  | 0 => (0, -1, 0)
  | f + 1 => if 0 < cpW (sqP (osum a b f a.length) - (offSt a b f).2.1) (sqQ (osum a b f a.length) - (offSt a b f).2.2) then ((f : Int), sqP (osum a b f a.length), sqQ (osum a b f a.length)) else offSt a b f
def kE (z : Nm) : Int := unlessE (fitsB 100 z) 2
/-- the error of known samples and others -/
def offE (a b : List Nm) : Int :=
  if a.length = 0 ∨ b.length ≠ a.length then 10 else if 16 < a.length then 8 else eachE kE (a ++ b)
theorem kE_ok {z : Nm} (h : kE z = 0) : nle 100 z := by
  unfold kE unlessE at h
  cases hf : fitsB 100 z
  · rw [hf] at h; exact absurd h (by decide)
  · exact (fitsB_iff _ _).1 hf
theorem offE_ok {a b : List Nm} (h : offE a b = 0) : 0 < a.length ∧ b.length = a.length ∧ a.length ≤ 16 ∧ (∀ z ∈ a, nle 100 z) ∧ (∀ z ∈ b, nle 100 z) := by
  unfold offE at h
  by_cases h1 : a.length = 0 ∨ b.length ≠ a.length
  · rw [if_pos h1] at h; exact absurd h (by decide)
  · rw [if_neg h1] at h
    by_cases h2 : 16 < a.length
    · rw [if_pos h2] at h; exact absurd h (by decide)
    · rw [if_neg h2] at h
      have := eachE_ok h
      exact ⟨by omega, by omega, by omega, fun z hz => kE_ok (this z (by simp [hz])), fun z hz => kE_ok (this z (by simp [hz]))⟩
theorem kn_le {l : List Nm} (h : ∀ z ∈ l, nle 100 z) (i : Nat) : nle 100 (kn l i) := by
  unfold kn
  cases hi : l[i]? with
  | none => unfold nle n0; simp
  | some z =>
    obtain ⟨hi', e⟩ := List.getElem?_eq_some_iff.1 hi
    exact h z (by rw [← e]; exact List.getElem_mem hi')
theorem oterm_le {a b : List Nm} (ha : ∀ z ∈ a, nle 100 z) (hb : ∀ z ∈ b, nle 100 z) (i : Nat) : nle 40000 (nmul (nconj (kn a i)) (kn b i)) := nle_mul (nle_conj (kn_le ha i)) (kn_le hb i)
theorem osum_le {a b : List Nm} (ha : ∀ z ∈ a, nle 100 z) (hb : ∀ z ∈ b, nle 100 z) (f n : Nat) : nle (n * 40000) (osum a b f n) := nle_nsum n fun i _ => nle_tni (oterm_le ha hb i) _
theorem offSt_bd {a b : List Nm} (hn : a.length ≤ 16) (ha : ∀ z ∈ a, nle 100 z) (hb : ∀ z ∈ b, nle 100 z) : ∀ f, -1 ≤ (offSt a b f).2.1 ∧ (offSt a b f).2.1 ≤ 9000000000000 ∧ -9000000000000 ≤ (offSt a b f).2.2 ∧ (offSt a b f).2.2 ≤ 9000000000000
  | 0 => by simp [offSt]
  | f + 1 => by
    have h1 := offSt_bd hn ha hb f
    have h2 := sq_bd (nle_mono (osum_le ha hb f a.length) (show (a.length : Int) * 40000 ≤ 1000000 by omega))
    unfold offSt
    split
    · dsimp only; omega
    · exact h1
theorem offset1_wave (x : Nm) (w : World) : Calls Try.prog 137 #[nv x] w fun e w' => e = .returned (.int .i64 (kE x)) ∧ Below w.heap.size w w' := by
  go_enter Try.func137, Try.ntmps137
  go_wp2_with (first
    | (go_at_call 110; go_must (refine (numberOf_wave x _).mono ?_; rintro e w1 ⟨rfl, hb1⟩; have b1 : Below w.heap.size w w1 := Below.step (by go_grown) hb1; clear hb1; simp only []))
    | (go_at_call 118; go_must (refine (fits_wave x _ _ (by omega) (by omega)).mono ?_; rintro e w2 ⟨rfl, hb2⟩; have b2 : Below w.heap.size w w2 := Below.step b1 hb2; clear hb2; simp only []))
    | (go_at_call 115; refine (unless_any _ _ _).mono ?_; rintro e w' ⟨rfl, rfl⟩))
  go_ret
  exact ⟨rfl, b2⟩
theorem Sl.reads4 {w : World} {A : Option Addr} {l : List Nm} (h : Sl w A (nvs l)) : Reads w w.heap.size 4 A l.length (nvs l) := by
  refine ⟨nvs_len l, fun hn => ?_⟩
  have h0 : 0 < (nvs l).length := by rw [nvs_len]; omega
  obtain ⟨b, off, e, hc⟩ := h 0 h0
  refine ⟨⟨b, off, none⟩, e, lt_of_cell hc, fun j u hu => ?_⟩
  rw [add_lit]
  exact h.one e hu
/-- two lists of numbers put together -/
theorem concat_num2 (A B : Option Addr) (n m ca cb : Nat) (xs ys : List Nm) (w : World) (hx : xs.length = n) (hy : ys.length = m) (h1 : Sl w A (nvs xs)) (h2 : Sl w B (nvs ys)) (hl : n + m ≤ 1000000) (g : Nat) (hg : w.heap.size = g) :
    Calls Try.prog 136 #[.slice (some ⟨g, 0, none⟩) 2 2] (w.alloc (.cells #[.slice A n ca, .slice B m cb] 36)) fun e w' => ∃ C k, e = .returned (.slice C (n + m) k) ∧ Sl w' C (nvs (xs ++ ys)) ∧ Below w.heap.size w w' := by
  subst hg
  have hs : Sl (w.alloc (.cells #[.slice A n ca, .slice B m cb] 36)) (some ⟨w.heap.size, 0, none⟩) [.slice A n ca, .slice B m cb] := Sl.new _ _ _ _ rfl
  have := concat_num (some ⟨w.heap.size, 0, none⟩) 2 2 [⟨A, n, ca, nvs xs⟩, ⟨B, m, cb, nvs ys⟩] _ rfl hs (by
    intro p hp
    simp only [List.mem_cons, List.not_mem_nil, or_false] at hp
    rcases hp with rfl | rfl
    · exact ⟨by rw [← hx]; exact (h1.reads4.alloc (Nat.le_refl _) _).more (by simp), nvs_one _⟩
    · exact ⟨by rw [← hy]; exact (h2.reads4.alloc (Nat.le_refl _) _).more (by simp), nvs_one _⟩) (by simp [parN]; omega) (by omega)
  rw [show parN [⟨A, n, ca, nvs xs⟩, ⟨B, m, cb, nvs ys⟩] = n + m by simp [parN], show parX [⟨A, n, ca, nvs xs⟩, ⟨B, m, cb, nvs ys⟩] = nvs (xs ++ ys) by simp [parX, nvs_append]] at this
  refine this.mono ?_
  rintro e w' ⟨C, k, rfl, ho, hb⟩
  exact ⟨C, k, rfl, Sl.of_ownN ho, Below.step (by go_grown) hb⟩

set_option maxRecDepth 100000 in
set_option maxHeartbeats 8000000 in
theorem offsetOf_ok (A B : Option Addr) (c c' n : Nat) (a b : List Nm) (w : World) (ha : a.length = n) (hs : Sl w A (nvs a)) (hs' : Sl w B (nvs b)) (h0 : offE a b = 0) :
    Calls Try.prog 50 #[.slice A n c, .slice B n c'] w fun e w' => e = .returned (.tuple #[.int .i64 (offSt a b 8).1, .int .i64 0]) ∧ Below w.heap.size w w' := by
  obtain ⟨hn0, hbn, hn16, hka, hkb⟩ := offE_ok h0
  rw [ha] at hn0 hn16 hbn
  have hE : eachE kE (a ++ b) = 0 := by
    unfold offE at h0
    rw [if_neg (by omega), if_neg (by omega)] at h0
    exact h0
  have hK := hide (enters Try.func137 (by kernel_rfl) rfl)
  have HEACH := hide (fun C k W (hc : Sl W C (nvs (a ++ b))) => by
    have := each_num 137 kE C k (a ++ b) W hK.out (fun z W => offset1_wave z W) hc (by simp; omega)
    rw [hE, show (a ++ b).length = n + n by simp; omega] at this
    exact this)
  have HCON := hide (fun W g (hg : W.heap.size = g) (k1 : Sl W A (nvs a)) (k2 : Sl W B (nvs b)) => concat_num2 A B n n c c' a b W ha hbn k1 k2 (by omega) g hg)
  have HAT := hide (show ∀ j, j < n → ∃ bb off, A = some ⟨bb, off, none⟩ ∧ w.cell? ⟨bb, off + j * 4, none⟩ = some (.int .i64 (kn a j).1) ∧ w.cell? ⟨bb, off + j * 4 + 1, none⟩ = some (.int .i64 (kn a j).2.1) ∧ w.cell? ⟨bb, off + j * 4 + 2, none⟩ = some (.int .i64 (kn a j).2.2.1) ∧ w.cell? ⟨bb, off + j * 4 + 3, none⟩ = some (.int .i64 (kn a j).2.2.2) from fun j hj => by
    have := hs.at4 (k := j) (by omega)
    unfold kn
    rw [List.getElem?_eq_getElem (by omega)]
    exact this)
  have HBT := hide (show ∀ j, j < n → ∃ bb off, B = some ⟨bb, off, none⟩ ∧ w.cell? ⟨bb, off + j * 4, none⟩ = some (.int .i64 (kn b j).1) ∧ w.cell? ⟨bb, off + j * 4 + 1, none⟩ = some (.int .i64 (kn b j).2.1) ∧ w.cell? ⟨bb, off + j * 4 + 2, none⟩ = some (.int .i64 (kn b j).2.2.1) ∧ w.cell? ⟨bb, off + j * 4 + 3, none⟩ = some (.int .i64 (kn b j).2.2.2) from fun j hj => by
    have := hs'.at4 (k := j) (by omega)
    unfold kn
    rw [List.getElem?_eq_getElem (by omega)]
    exact this)
  have HTL := hide (fun i => oterm_le hka hkb i)
  have HOL := hide (fun f k => osum_le hka hkb f k)
  have HKA := hide (fun i => kn_le hka i)
  have HKB := hide (fun i => kn_le hkb i)
  have HBD := hide (offSt_bd (by omega : a.length ≤ 16) hka hkb)
  have HSUM := hide (show ∀ f k, osum a b f (k + 1) = nadd (osum a b f k) (tni (nmul (nconj (kn a k)) (kn b k)) (-(f : Int) * (k : Int))) from fun _ _ => rfl)
  have HSTP := hide (show ∀ f, offSt a b (f + 1) = if 0 < cpW (sqP (osum a b f n) - (offSt a b f).2.1) (sqQ (osum a b f n) - (offSt a b f).2.2) then ((f : Int), sqP (osum a b f n), sqQ (osum a b f n)) else offSt a b f from fun f => by rw [← ha]; rfl)
  have hS := hide hs
  have hS' := hide hs'
  have d1 : decide (0 < n) = true := decide_eq_true hn0
  have d2 : decide ((n : Int) ≤ 16) = true := by rw [decide_eq_true_iff]; omega
  have hq : (firstOf [unlessE true 10, unlessE true 8] != 0) = false := by decide
  have hq2 : (firstOf [unlessE true 10, unlessE true 8] == 0) = true := by decide
  have hq3 : firstOf [unlessE true 10, unlessE true 8] = 0 := by decide
  clear h0 hE hka hkb hbn hs hs' ha
  go_enter Try.func50, Try.ntmps50
  go_wp2_with (first
    | (go_at_call 115; refine (unless_any _ _ _).mono ?_; rintro e w' ⟨rfl, rfl⟩; simp only [])
    | (go_at_call 107; go_must (refine (first2 _ _ _ _ (by simp)).mono ?_; rintro e w' ⟨rfl, rfl⟩; rw [hq3]; simp only []))
    | (go_at_call 136; go_must (refine (HCON.out _ _ (by simp) (hS.out.bel (by go_grown)) (hS'.out.bel (by go_grown))).mono ?_; rintro e w1 ⟨C, k, rfl, hc, hb1⟩; have b1 : Below w.heap.size w w1 := Below.step (by go_grown) hb1; have HC := hide hc; clear hb1 hc; simp only []))
    | (go_at_call 135; go_must (refine (HEACH.out _ _ _ HC.out).mono ?_; rintro e w2 ⟨rfl, hb2⟩; have b2 : Below w.heap.size w w2 := Below.step b1 hb2; have z2 := b2.size; clear hb2; simp only [])))
  clear hq hq2 hq3 d1 d2 HC b1
  obtain ⟨w3, hw3⟩ : ∃ w3, w2 = w3 := ⟨_, rfl⟩
  go_loopw [7, 42] (fun t i wr => ∃ f : Nat, f ≤ 8 ∧ i = .int .i64 f ∧ t = .int .i64 (offSt a b f).1 ∧ Blk wr w2.heap.size 47 #[.int .i64 (offSt a b f).2.1, .int .i64 (offSt a b f).2.2] ∧ Below w.heap.size w wr) (fun _ i _ => 8 - (intOf i).toNat)
  case atStart => exact ⟨0, by omega, rfl, rfl, Blk.new w2 47 #[.int .i64 (-1), .int .i64 0], by go_grown⟩
  case round =>
    clear b2 hw3
    obtain ⟨f, hf, rfl, rfl, hQ, hbel⟩ := hrel
    have hbz := hbel.size
    by_cases hlt : f < 8
    · have hd : decide ((f : Int) < 8) = true := by rw [decide_eq_true_iff]; omega
      have HQ := hide hQ
      have hql := hQ.lt
      clear hQ
      go_wp2
      obtain ⟨wo, rfl⟩ : ∃ wo : World, wo = wr := ⟨_, rfl⟩
      go_loopw [47] (fun i wr => ∃ j : Nat, j ≤ n ∧ i = .int .i64 j ∧ Blk wr wo.heap.size 162 (ncells (osum a b f j)) ∧ Below wo.heap.size wo wr) (fun i _ => n - (intOf i).toNat)
      case atStart => exact ⟨0, Nat.zero_le _, rfl, Blk.new wo 162 (ncells n0), by go_grown⟩
      case round =>
        obtain ⟨j, hj, rfl, hT, hbo⟩ := hrel
        have hbo1 : Below w.heap.size w wr := Below.step hbel hbo
        have hboz := hbo.size
        have hTl := hT.lt
        by_cases hlt2 : j < n
        · obtain ⟨bb, off, rfl, e0, e1, e2, e3⟩ := HAT.out j hlt2
          obtain ⟨bb', off', rfl, e4, e5, e6, e7⟩ := HBT.out j hlt2
          have d0 := (hbo1.cell (p := ⟨bb, off + j * 4, none⟩) (lt_of_cell e0)).trans e0
          have d1 := (hbo1.cell (p := ⟨bb, off + j * 4 + 1, none⟩) (lt_of_cell e1)).trans e1
          have d2 := (hbo1.cell (p := ⟨bb, off + j * 4 + 2, none⟩) (lt_of_cell e2)).trans e2
          have d3 := (hbo1.cell (p := ⟨bb, off + j * 4 + 3, none⟩) (lt_of_cell e3)).trans e3
          have HX := hide (show ∀ W, Below w.heap.size w W → W.cell? ⟨bb', off' + j * 4, none⟩ = some (.int .i64 (kn b j).1) ∧ W.cell? ⟨bb', off' + j * 4 + 1, none⟩ = some (.int .i64 (kn b j).2.1) ∧ W.cell? ⟨bb', off' + j * 4 + 2, none⟩ = some (.int .i64 (kn b j).2.2.1) ∧ W.cell? ⟨bb', off' + j * 4 + 3, none⟩ = some (.int .i64 (kn b j).2.2.2) from fun W h =>
            ⟨(h.cell (p := ⟨bb', off' + j * 4, none⟩) (lt_of_cell e4)).trans e4, (h.cell (p := ⟨bb', off' + j * 4 + 1, none⟩) (lt_of_cell e5)).trans e5, (h.cell (p := ⟨bb', off' + j * 4 + 2, none⟩) (lt_of_cell e6)).trans e6, (h.cell (p := ⟨bb', off' + j * 4 + 3, none⟩) (lt_of_cell e7)).trans e7⟩)
          have hst := HSUM.out f j
          have htl := HTL.out j
          have hol := HOL.out f j
          have ka := HKA.out j
          have kb := HKB.out j
          obtain ⟨p, hp⟩ : ∃ p, kn a j = p := ⟨_, rfl⟩
          obtain ⟨q, hq⟩ : ∃ q, kn b j = q := ⟨_, rfl⟩
          rw [hp] at d0 d1 d2 d3 hst htl ka
          rw [hq] at HX hst htl kb
          obtain ⟨S, hS⟩ : ∃ S, osum a b f j = S := ⟨_, rfl⟩
          rw [hS] at hT hst hol
          have HCJ := hide (fun W => conj_wave p W (nle_mono ka (by decide)))
          have HTM := hide (fun W => times_wave (nconj p) q W (nle_conj ka) kb (by decide) (by decide) (by decide))
          obtain ⟨M, hM⟩ : ∃ M, nmul (nconj p) q = M := ⟨_, rfl⟩
          rw [hM] at hst htl HTM
          have hm1 := mul_le_size (a := -(f : Int)) (b := (j : Int)) (m := 8) (n := 16) (by omega) (by omega) (by omega) (by omega)
          obtain ⟨m1, m2⟩ := hm1
          have HTU := hide (fun (e : Int) (he : e = -(f : Int) * (j : Int)) W => he ▸ turned_wave M (-(f : Int) * (j : Int)) W (nle_mono htl (by decide)) (by omega) (by omega))
          have HTN := hide (nle_tni (nle_mono htl (show (40000 : Int) ≤ 4000000000000000000 by decide)) (-(f : Int) * (j : Int)))
          have HSL := hide (nle_mono hol (show (j : Int) * 40000 ≤ 4000000000000000000 by omega))
          have HST := hide hst
          have g1 : IntKind.i64.wrap (-(f : Int)) = -(f : Int) := IntWalk.i64_in _ (by omega)
          have g2 : IntKind.i64.wrap (-(f : Int) * (j : Int)) = -(f : Int) * (j : Int) := IntWalk.i64_in _ (by omega)
          have HH0 : Hid (Blk (wr.alloc (.cells (ncells p) 38)).drew wo.heap.size 162 (ncells S) ∧ Blk (wr.alloc (.cells (ncells p) 38)).drew wr.heap.size 38 (ncells p) ∧ Below wo.heap.size wo (wr.alloc (.cells (ncells p) 38)).drew) := hide ⟨hT.alloc _, Blk.new wr _ _, (hbo.alloc hboz (.cells (ncells p) 38)).drew⟩
          have hjn : (j : Int) < (n : Int) := by omega
          have hj0 : (0 : Int) ≤ (j : Int) := by omega
          clear hp hq hS hM hst htl hol ka kb hT e0 e1 e2 e3 e4 e5 e6 e7 HSUM HTL HOL HKA HKB HBD HSTP HAT HBT HCON HEACH
          go_wp2
          refine UpTo.start (z := 16) (S := fun w' => Blk w' wo.heap.size 162 (ncells S) ∧ Blk w' wr.heap.size 38 (ncells p) ∧ Below wo.heap.size wo w') (by kernel_rfl) ?_
          refine UpTo.take (i := 0) 52 (v := nv S) rfl rfl (by kernel_rfl) (by kernel_rfl) (by kernel_rfl) (by kernel_rfl) (fun _ _ _ h => h) HH0.out (Or.inl ⟨by rfl, by intro w hSw; obtain ⟨q0, q1, q2, q3, _, _, _, _⟩ := hSw.1.n4; go_simp⟩) ?_
          try simp only [Act.put, List.setIfInBounds_toArray, List.set_cons_zero, List.set_cons_succ]
          refine UpTo.take (i := 1) 53 (v := nv p) rfl rfl (by kernel_rfl) (by kernel_rfl) (by kernel_rfl) (by kernel_rfl) (fun _ _ _ h => h) HH0.out (Or.inl ⟨by rfl, by intro w hSw; obtain ⟨q0, q1, q2, q3, _, _, _, _⟩ := hSw.2.1.n4; go_simp⟩) ?_
          try simp only [Act.put, List.setIfInBounds_toArray, List.set_cons_zero, List.set_cons_succ]
          refine UpTo.take (i := 4) 56 (v := .slice (some ⟨bb', off', none⟩) n c') rfl rfl (by kernel_rfl) (by kernel_rfl) (by kernel_rfl) (by kernel_rfl) (fun _ _ _ h => h) HH0.out (Or.inl ⟨by rfl, by intro w hSw; go_simp⟩) ?_
          try simp only [Act.put, List.setIfInBounds_toArray, List.set_cons_zero, List.set_cons_succ]
          refine UpTo.take (i := 5) 57 (v := .int .i64 (j : Int)) rfl rfl (by kernel_rfl) (by kernel_rfl) (by kernel_rfl) (by kernel_rfl) (fun _ _ _ h => h) HH0.out (Or.inl ⟨by rfl, by intro w hSw; go_simp⟩) ?_
          try simp only [Act.put, List.setIfInBounds_toArray, List.set_cons_zero, List.set_cons_succ]
          refine UpTo.take (i := 6) 58 (v := .pointer (some ⟨bb', off' + j * 4, none⟩)) rfl rfl (by kernel_rfl) (by kernel_rfl) (by kernel_rfl) (by kernel_rfl) (fun _ _ _ h => h) HH0.out (Or.inl ⟨by rfl, by intro w hSw; go_simp⟩) ?_
          try simp only [Act.put, List.setIfInBounds_toArray, List.set_cons_zero, List.set_cons_succ]
          refine UpTo.take (i := 7) 59 (v := nv q) rfl rfl (by kernel_rfl) (by kernel_rfl) (by kernel_rfl) (by kernel_rfl) (fun _ _ _ h => h) HH0.out (Or.inl ⟨by rfl, by intro w hSw; obtain ⟨q0, q1, q2, q3⟩ := HX.out _ (Below.step hbel hSw.2.2); go_simp⟩) ?_
          try simp only [Act.put, List.setIfInBounds_toArray, List.set_cons_zero, List.set_cons_succ]
          refine UpTo.take (i := 10) 62 (v := .int .i64 (f : Int)) rfl rfl (by kernel_rfl) (by kernel_rfl) (by kernel_rfl) (by kernel_rfl) (fun _ _ _ h => h) HH0.out (Or.inl ⟨by rfl, by intro w hSw; go_simp⟩) ?_
          try simp only [Act.put, List.setIfInBounds_toArray, List.set_cons_zero, List.set_cons_succ]
          refine UpTo.take (i := 11) 63 (v := .int .i64 (-(f : Int))) rfl rfl (by kernel_rfl) (by kernel_rfl) (by kernel_rfl) (by kernel_rfl) (fun _ _ _ h => h) HH0.out (Or.inl ⟨by rfl, by intro w hSw; go_simp⟩) ?_
          try simp only [Act.put, List.setIfInBounds_toArray, List.set_cons_zero, List.set_cons_succ]
          refine UpTo.take (i := 12) 64 (v := .int .i64 (j : Int)) rfl rfl (by kernel_rfl) (by kernel_rfl) (by kernel_rfl) (by kernel_rfl) (fun _ _ _ h => h) HH0.out (Or.inl ⟨by rfl, by intro w hSw; go_simp⟩) ?_
          try simp only [Act.put, List.setIfInBounds_toArray, List.set_cons_zero, List.set_cons_succ]
          refine UpTo.take (i := 13) 65 (v := .int .i64 (-(f : Int) * (j : Int))) rfl rfl (by kernel_rfl) (by kernel_rfl) (by kernel_rfl) (by kernel_rfl) (fun _ _ _ h => h) HH0.out (Or.inl ⟨by rfl, by intro w hSw; go_simp⟩) ?_
          try simp only [Act.put, List.setIfInBounds_toArray, List.set_cons_zero, List.set_cons_succ]
          refine UpTo.next (i := 2) (by kernel_rfl) rfl (fun K hK => ?_)
          go_simp
          refine (numberOf_wave p _).mono ?_
          rintro e v1 ⟨rfl, hb⟩
          have HH1 := hide (show Blk v1 wo.heap.size 162 (ncells S) ∧ Blk v1 wr.heap.size 38 (ncells p) ∧ Below wo.heap.size wo v1 from ⟨HH0.out.1.below hb HH0.out.1.lt, HH0.out.2.1.below hb HH0.out.2.1.lt, Below.step HH0.out.2.2 hb⟩)
          clear hb
          simp only []
          refine hK.out _ _ (fun _ => HH1.out) ?_
          clear hK K
          try simp only [Act.put, List.setIfInBounds_toArray, List.set_cons_zero, List.set_cons_succ]
          refine UpTo.next (i := 3) (by kernel_rfl) rfl (fun K hK => ?_)
          go_simp
          refine (HCJ.out _).mono ?_
          rintro e v2 ⟨rfl, hb⟩
          have HH2 := hide (show Blk v2 wo.heap.size 162 (ncells S) ∧ Blk v2 wr.heap.size 38 (ncells p) ∧ Below wo.heap.size wo v2 from ⟨HH1.out.1.below hb HH1.out.1.lt, HH1.out.2.1.below hb HH1.out.2.1.lt, Below.step HH1.out.2.2 hb⟩)
          clear hb
          simp only []
          refine hK.out _ _ (fun _ => HH2.out) ?_
          clear hK K
          try simp only [Act.put, List.setIfInBounds_toArray, List.set_cons_zero, List.set_cons_succ]
          refine UpTo.next (i := 8) (by kernel_rfl) rfl (fun K hK => ?_)
          go_simp
          refine (numberOf_wave q _).mono ?_
          rintro e v3 ⟨rfl, hb⟩
          have HH3 := hide (show Blk v3 wo.heap.size 162 (ncells S) ∧ Blk v3 wr.heap.size 38 (ncells p) ∧ Below wo.heap.size wo v3 from ⟨HH2.out.1.below hb HH2.out.1.lt, HH2.out.2.1.below hb HH2.out.2.1.lt, Below.step HH2.out.2.2 hb⟩)
          clear hb
          simp only []
          refine hK.out _ _ (fun _ => HH3.out) ?_
          clear hK K
          try simp only [Act.put, List.setIfInBounds_toArray, List.set_cons_zero, List.set_cons_succ]
          refine UpTo.next (i := 9) (by kernel_rfl) rfl (fun K hK => ?_)
          go_simp
          refine (HTM.out _).mono ?_
          rintro e v4 ⟨rfl, hb⟩
          have HH4 := hide (show Blk v4 wo.heap.size 162 (ncells S) ∧ Blk v4 wr.heap.size 38 (ncells p) ∧ Below wo.heap.size wo v4 from ⟨HH3.out.1.below hb HH3.out.1.lt, HH3.out.2.1.below hb HH3.out.2.1.lt, Below.step HH3.out.2.2 hb⟩)
          clear hb
          simp only []
          refine hK.out _ _ (fun _ => HH4.out) ?_
          clear hK K
          try simp only [Act.put, List.setIfInBounds_toArray, List.set_cons_zero, List.set_cons_succ]
          refine UpTo.next (i := 14) (by kernel_rfl) rfl (fun K hK => ?_)
          go_simp
          refine (HTU.out _ (by first | rfl | (simp; done) | grind) _).mono ?_
          rintro e v5 ⟨rfl, hb⟩
          have HH5 := hide (show Blk v5 wo.heap.size 162 (ncells S) ∧ Blk v5 wr.heap.size 38 (ncells p) ∧ Below wo.heap.size wo v5 from ⟨HH4.out.1.below hb HH4.out.1.lt, HH4.out.2.1.below hb HH4.out.2.1.lt, Below.step HH4.out.2.2 hb⟩)
          clear hb
          simp only []
          refine hK.out _ _ (fun _ => HH5.out) ?_
          clear hK K
          try simp only [Act.put, List.setIfInBounds_toArray, List.set_cons_zero, List.set_cons_succ]
          refine UpTo.next (i := 15) (by kernel_rfl) rfl (fun K hK => ?_)
          go_simp
          refine (plus_wave S _ _ HSL.out HTN.out).mono ?_
          rintro e v6 ⟨rfl, hb⟩
          have HH6 := hide (show Blk v6 wo.heap.size 162 (ncells S) ∧ Blk v6 wr.heap.size 38 (ncells p) ∧ Below wo.heap.size wo v6 from ⟨HH5.out.1.below hb HH5.out.1.lt, HH5.out.2.1.below hb HH5.out.2.1.lt, Below.step HH5.out.2.2 hb⟩)
          clear hb
          simp only []
          refine hK.out _ _ (fun _ => HH6.out) ?_
          clear hK K
          try simp only [Act.put, List.setIfInBounds_toArray, List.set_cons_zero, List.set_cons_succ]
          obtain ⟨u0, u1, u2, u3, f0, f1, f2, f3⟩ := HH6.out.1.n4
          have hz6 := HH6.out.2.2.size
          refine UpTo.next (i := 16) (by kernel_rfl) rfl (fun K hK => ?_)
          go_simp
          refine hK.out _ _ (fun h => absurd rfl h) ?_
          clear hK K
          refine UpTo.done (by kernel_rfl) ?_ _
          have b6 := HH6.out.2.2
          go_wp2
          go_roundw
          case rel => exact ⟨j + 1, by omega, by go_num, by rw [HST.out]; exact (((HH6.out.1.set_ 0 _).set_ 1 _).set_ 2 _).set_ 3 _, by go_grown⟩
          case measure => simp [intOf]; omega
        · have hjn : j = n := by omega
          have hT' : Blk wr wo.heap.size 162 (ncells (osum a b f n)) := by rw [← hjn]; exact hT
          have hst := HSTP.out f
          have hol := HOL.out f n
          have hbd := HBD.out f
          obtain ⟨X, hX⟩ : ∃ X, osum a b f n = X := ⟨_, rfl⟩
          rw [hX] at hT' hst hol
          obtain ⟨t0, P0, Q0, hofs⟩ : ∃ t0 P0 Q0, offSt a b f = (t0, P0, Q0) := ⟨_, _, _, rfl⟩
          rw [hofs] at hst hbd HQ
          rw [hofs]
          dsimp only at hst hbd HQ ⊢
          have hsq := sq_bd (nle_mono hol (show (n : Int) * 40000 ≤ 1000000 by omega))
          have HSQ := hide (fun W => square_wave X W (nle_mono hol (by omega)))
          obtain ⟨P1, hP1⟩ : ∃ P1, sqP X = P1 := ⟨_, rfl⟩
          obtain ⟨Q1, hQ1⟩ : ∃ Q1, sqQ X = Q1 := ⟨_, rfl⟩
          rw [hP1, hQ1] at hst hsq HSQ
          have HCM := hide (fun W => compared_wave P1 Q1 P0 Q0 W (by omega) (by omega) (by omega) (by omega))
          obtain ⟨v, hv⟩ : ∃ v, cpW (P1 - P0) (Q1 - Q0) = v := ⟨_, rfl⟩
          rw [hv] at hst HCM
          have HST := hide hst
          have HQ1 := hide (HQ.out.below hbo hql)
          obtain ⟨y0, y1, y2, y3, _, _, _, _⟩ := hT'.n4
          have HB1 := hide hbo1
          clear hX hst hol hbd hofs hsq hP1 hQ1 hv hT hT' hjn HSUM HTL HOL HKA HKB HBD HSTP HAT HBT HCON HEACH
          by_cases hpos : 0 < v
          · have hd2 : decide (0 < v) = true := decide_eq_true hpos
            have hd3 : decide (v > 0) = true := decide_eq_true hpos
            have hres := hide (show offSt a b (f + 1) = ((f : Int), P1, Q1) by rw [HST.out, if_pos hpos])
            clear hpos
            go_wp2_with (first
              | (go_at_call 119; go_must (refine (HSQ.out _).mono ?_; rintro e w4 ⟨rfl, hb⟩; have c4 : Below w.heap.size w w4 := Below.step HB1.out hb; have HQ4 := hide (HQ1.out.below hb HQ1.out.lt); have r0 : w4.cell? ⟨w2.heap.size, 0, none⟩ = some (.int .i64 P0) := HQ4.out.cell 0; have r1 : w4.cell? ⟨w2.heap.size, 1, none⟩ = some (.int .i64 Q0) := HQ4.out.cell 1; have z4 := c4.size; have zq := HQ4.out.lt; clear hb; simp only []))
              | (go_at_call 121; go_must (refine (HCM.out _).mono ?_; rintro e w5 ⟨rfl, hb⟩; have c5 : Below w.heap.size w w5 := Below.step (by go_grown) hb; have HQ5 := hide ((HQ4.out.alloc (.cells #[.int .i64 P1, .int .i64 Q1] 47)).below hb (by simp; omega)); have HN5 := hide ((Blk.new w4 47 #[.int .i64 P1, .int .i64 Q1]).below hb (by simp)); have s0 : w5.cell? ⟨w4.heap.size, 0, none⟩ = some (.int .i64 P1) := HN5.out.cell 0; have s1 : w5.cell? ⟨w4.heap.size, 1, none⟩ = some (.int .i64 Q1) := HN5.out.cell 1; have s2 : w5.cell? ⟨w2.heap.size, 0, none⟩ = some (.int .i64 P0) := HQ5.out.cell 0; have s3 : w5.cell? ⟨w2.heap.size, 1, none⟩ = some (.int .i64 Q0) := HQ5.out.cell 1; have s4 := HQ5.out.frozen 0; have s5 := HQ5.out.frozen 1; have z5 := c5.size; clear hb; simp only [])))
            have xne : ¬ w2.heap.size = w4.heap.size := by omega
            go_region
            all_goals
              go_wp2
              go_roundw
              case rel => exact ⟨f + 1, by omega, by go_num, by rw [hres.out], by rw [hres.out]; exact (HQ5.out.drew.set_ 0 _).set_ 1 _, by go_grown⟩
              case measure => simp [intOf]; omega
          · have hd2 : decide (0 < v) = false := decide_eq_false hpos
            have hres := hide (show offSt a b (f + 1) = (t0, P0, Q0) by rw [HST.out, if_neg hpos])
            clear hpos
            go_wp2_with (first
              | (go_at_call 119; go_must (refine (HSQ.out _).mono ?_; rintro e w4 ⟨rfl, hb⟩; have c4 : Below w.heap.size w w4 := Below.step HB1.out hb; have HQ4 := hide (HQ1.out.below hb HQ1.out.lt); have r0 : w4.cell? ⟨w2.heap.size, 0, none⟩ = some (.int .i64 P0) := HQ4.out.cell 0; have r1 : w4.cell? ⟨w2.heap.size, 1, none⟩ = some (.int .i64 Q0) := HQ4.out.cell 1; have z4 := c4.size; have zq := HQ4.out.lt; clear hb; simp only []))
              | (go_at_call 121; go_must (refine (HCM.out _).mono ?_; rintro e w5 ⟨rfl, hb⟩; have c5 : Below w.heap.size w w5 := Below.step (by go_grown) hb; have HQ5 := hide ((HQ4.out.alloc (.cells #[.int .i64 P1, .int .i64 Q1] 47)).below hb (by simp; omega)); have z5 := c5.size; clear hb; simp only [])))
            go_roundw
            case rel => exact ⟨f + 1, by omega, by go_num, by rw [hres.out], by rw [hres.out]; exact HQ5.out, c5⟩
            case measure => simp [intOf]; omega
    · have hd : decide ((f : Int) < 8) = false := by rw [decide_eq_false_iff_not]; omega
      have hf8 : f = 8 := by omega
      have HF := hide hf8
      clear hf8
      go_wp2
      go_ret2
      exact ⟨by rw [HF.out]; rfl, hbel⟩
end Go.Proofs.Ythfmjohbokpceaa
