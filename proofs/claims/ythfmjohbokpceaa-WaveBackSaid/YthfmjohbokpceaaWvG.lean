import Derived.Test.YthfmjohbokpceaaWvF
namespace Go.Proofs.Ythfmjohbokpceaa
open Go.RowKit Go.WideShapes Go.ChangeShapes

/-! numbers and squares as they are asked for (program) -/
theorem one_err (A : Option Addr) (n c : Nat) (x : Int) (w : World) (hx : x ≠ 0) : Calls Try.prog 130 #[.slice A n c, .int .i64 x] w fun e w' => e = .returned (.tuple #[nv n0, .int .i64 x]) ∧ Below w.heap.size w w' := by
  have h1 : (x != 0) = true := by rw [bne_iff_ne]; exact hx
  clear hx
  go_enter Try.func130, Try.ntmps130
  go_wp2
  refine bodyPost_ret (v := .tuple #[nv n0, .int .i64 x]) (by simp [results, Try.results130, go_sem, n0]) rfl ⟨rfl, by go_grown⟩
theorem one_ok (A : Option Addr) (c : Nat) (z : Nm) (w : World) (hs : Sl w A (nvs [z])) : Calls Try.prog 130 #[.slice A 1 c, .int .i64 0] w fun e w' => e = .returned (.tuple #[nv z, .int .i64 0]) ∧ Below w.heap.size w w' := by
  obtain ⟨b, off, rfl, e0, e1, e2, e3⟩ := hs.at4 (k := 0) (by simp)
  simp only [Nat.zero_mul, Nat.add_zero, List.getElem_cons_zero] at e0 e1 e2 e3
  have hb := lt_of_cell e0
  clear hs
  go_enter Try.func130, Try.ntmps130
  go_wp2
  refine bodyPost_ret (v := .tuple #[nv z, .int .i64 0]) (by simp [results, Try.results130, go_sem]) rfl ⟨rfl, by go_grown⟩
def trnE (x : Nm) (n : Int) : Int := firstOf [numE x, unlessE (withinB n 0 7) 2]
def trnV (x : Nm) (n : Int) : Nm := if trnE x n = 0 then tni x n else n0
theorem numE_ok {x : Nm} (h : numE x = 0) : nle 1000000000 x := by
  unfold numE unlessE at h
  cases hf : fitsB 1000000000 x
  · rw [hf] at h; exact absurd h (by decide)
  · exact (fitsB_iff _ _).1 hf
theorem eighths_ok {n : Int} (h : unlessE (withinB n 0 7) 2 = 0) : 0 ≤ n ∧ n ≤ 7 := by
  unfold unlessE at h
  cases hf : withinB n 0 7
  · rw [hf] at h; exact absurd h (by decide)
  · unfold withinB at hf; simpa using hf
set_option maxRecDepth 100000 in
set_option maxHeartbeats 1000000 in
theorem turnedE_wave (x : Nm) (n : Int) (w : World) : Calls Try.prog 34 #[nv x, .int .i64 n] w fun e w' => e = .returned (.tuple #[nv (trnV x n), .int .i64 (trnE x n)]) ∧ Below w.heap.size w w' := by
  have HE := hide (show trnE x n = firstOf [numE x, unlessE (withinB n 0 7) 2] from rfl)
  by_cases h0 : trnE x n = 0
  · have hv : trnV x n = tni x n := if_pos h0
    have hx := firstOf_ok h0 (numE x) (by simp)
    have hn := eighths_ok (firstOf_ok h0 _ (by simp : unlessE (withinB n 0 7) 2 ∈ [numE x, unlessE (withinB n 0 7) 2]))
    have HT := hide (fun W => turned_wave x n W (nle_mono (numE_ok hx) (by decide)) (by omega) (by omega))
    have hq : (firstOf [numE x, unlessE (withinB n 0 7) 2] != 0) = false := by rw [← HE.out, h0]; rfl
    rw [hv, h0]
    clear h0 hv hx hn
    go_enter Try.func34, Try.ntmps34
    go_wp2_with (first
      | (go_at_call 126; go_must (refine (numberErr_wave x _).mono ?_; rintro e w1 ⟨rfl, hb1⟩; have b1 : Below w.heap.size w w1 := Below.step (by go_grown) hb1; obtain ⟨hc1, hf1, y10, y11⟩ := bloc2 w hb1 (by first | omega | (simp; done) | (simp; omega)); clear hb1; simp only []))
      | (go_at_call 127; refine (eighthsErr_wave _ _).mono ?_; rintro e w' ⟨rfl, rfl⟩; simp only [])
      | (go_at_call 107; go_must (refine (first2 _ _ _ _ (by simp)).mono ?_; rintro e w' ⟨rfl, rfl⟩; simp only []))
      | (go_at_call 110; go_must (refine (numberOf_wave x _).mono ?_; rintro e w2 ⟨rfl, hb2⟩; have b2 : Below w.heap.size w w2 := Below.step (by go_grown) hb2; obtain ⟨hc2, hf2, y20, y21⟩ := bloc2 w hb2 (by first | omega | (simp; done) | (simp; omega)); clear hb2; simp only []))
      | (go_at_call 128; go_must (refine (HT.out _).mono ?_; rintro e w3 ⟨rfl, hb3⟩; have b3 : Below w.heap.size w w3 := Below.step b2 hb3; obtain ⟨hc3, hf3, y30, y31⟩ := bloc2 w hb3 (by first | omega | (simp; done) | (simp; omega)); clear hb3; simp only []))
      | (go_at_call 129; go_must (refine (told_wave (tni x n) _).mono ?_; rintro e w4 ⟨rfl, hb4⟩; have b4 : Below w.heap.size w w4 := Below.step b3 hb4; obtain ⟨hc4, hf4, y40, y41⟩ := bloc2 w hb4 (by first | omega | (simp; done) | (simp; omega)); clear hb4; simp only [])))
    refine bodyPost_ret (v := .tuple #[nv (tni x n), .int .i64 0]) (by simp [results, Try.results34, go_sem, hc4, hc3, hc2, hc1, y11]) rfl ⟨rfl, by go_grown⟩
  · have hv : trnV x n = n0 := if_neg h0
    have hq : (firstOf [numE x, unlessE (withinB n 0 7) 2] != 0) = true := by rw [← HE.out, bne_iff_ne]; exact h0
    rw [hv]
    clear h0 hv
    go_enter Try.func34, Try.ntmps34
    go_wp2_with (first
      | (go_at_call 126; go_must (refine (numberErr_wave x _).mono ?_; rintro e w1 ⟨rfl, hb1⟩; have b1 : Below w.heap.size w w1 := Below.step (by go_grown) hb1; obtain ⟨hc1, hf1, y10, y11⟩ := bloc2 w hb1 (by first | omega | (simp; done) | (simp; omega)); clear hb1; simp only []))
      | (go_at_call 127; refine (eighthsErr_wave _ _).mono ?_; rintro e w' ⟨rfl, rfl⟩; simp only [])
      | (go_at_call 107; go_must (refine (first2 _ _ _ _ (by simp)).mono ?_; rintro e w' ⟨rfl, rfl⟩; simp only [])))
    refine bodyPost_ret (v := .tuple #[nv n0, .int .i64 (trnE x n)]) (by rw [HE.out]; simp [results, Try.results34, go_sem, hc1, y11, n0]) rfl ⟨rfl, by go_grown⟩

theorem toldOne (M : Nm) (W : World) (n : Nat) (hn : W.heap.size = n) (hf : fitsB 1000000000 M = true) :
    Calls Try.prog 113 #[.slice (some ⟨n, 0, none⟩) 1 1] (W.alloc (.cells #[.int .i64 M.1, .int .i64 M.2.1, .int .i64 M.2.2.1, .int .i64 M.2.2.2] 162)) fun e w' => ∃ A c, e = .returned (.tuple #[.slice A 1 c, .int .i64 0]) ∧ Sl w' A (nvs [M]) ∧ Below (W.alloc (.cells #[.int .i64 M.1, .int .i64 M.2.1, .int .i64 M.2.2.1, .int .i64 M.2.2.2] 162)).heap.size (W.alloc (.cells #[.int .i64 M.1, .int .i64 M.2.1, .int .i64 M.2.2.1, .int .i64 M.2.2.2] 162)) w' := by
  refine (toldIf_wave (some ⟨n, 0, none⟩) 1 [M] _ (Sl.new W (nvs [M]) 162 n hn) (by simp)).mono ?_
  rintro e w' (⟨_, ⟨A, c, h1, h2⟩, h3⟩ | ⟨h1, _, _⟩)
  · exact ⟨A, c, h1, h2, h3⟩
  · simp [hf] at h1
theorem toldNone (M : Nm) (W : World) (n : Nat) (hn : W.heap.size = n) (hf : fitsB 1000000000 M = false) :
    Calls Try.prog 113 #[.slice (some ⟨n, 0, none⟩) 1 1] (W.alloc (.cells #[.int .i64 M.1, .int .i64 M.2.1, .int .i64 M.2.2.1, .int .i64 M.2.2.2] 162)) fun e w' => e = .returned (.tuple #[.slice none 0 0, .int .i64 8]) ∧ Below (W.alloc (.cells #[.int .i64 M.1, .int .i64 M.2.1, .int .i64 M.2.2.1, .int .i64 M.2.2.2] 162)).heap.size (W.alloc (.cells #[.int .i64 M.1, .int .i64 M.2.1, .int .i64 M.2.2.1, .int .i64 M.2.2.2] 162)) w' := by
  refine (toldIf_wave (some ⟨n, 0, none⟩) 1 [M] _ (Sl.new W (nvs [M]) 162 n hn) (by simp)).mono ?_
  rintro e w' (⟨h1, _, _⟩ | ⟨_, h2, h3⟩)
  · simp [hf] at h1
  · exact ⟨h2, h3⟩
/-- two numbers in boxes side by side -/
def Two (w : World) (g : Nat) (a b : Nm) : Prop := Blk w g 38 (ncells a) ∧ Blk w (g + 1) 38 (ncells b)
theorem Two.bel {w w' : World} {g : Nat} {a b : Nm} (h : Two w g a b) (hb : Below w.heap.size w w') : Two w' g a b := ⟨h.1.below hb h.1.lt, h.2.below hb h.2.lt⟩
theorem Two.new (w : World) (a b : Nm) : Two ((w.alloc (.cells (ncells a) 38)).alloc (.cells (ncells b) 38)) w.heap.size a b := ⟨(Blk.new w _ _).alloc _, Blk.newN _ _ _ (by simp)⟩
theorem Two.alloc {w : World} {g : Nat} {a b : Nm} (h : Two w g a b) (o : Obj) : Two (w.alloc o) g a b := ⟨h.1.alloc o, h.2.alloc o⟩
theorem Two.cells {w : World} {g : Nat} {a b : Nm} (h : Two w g a b) : w.cell? ⟨g, 0, none⟩ = some (.int .i64 a.1) ∧ w.cell? ⟨g, 1, none⟩ = some (.int .i64 a.2.1) ∧ w.cell? ⟨g, 2, none⟩ = some (.int .i64 a.2.2.1) ∧ w.cell? ⟨g, 3, none⟩ = some (.int .i64 a.2.2.2) ∧
    w.cell? ⟨g + 1, 0, none⟩ = some (.int .i64 b.1) ∧ w.cell? ⟨g + 1, 1, none⟩ = some (.int .i64 b.2.1) ∧ w.cell? ⟨g + 1, 2, none⟩ = some (.int .i64 b.2.2.1) ∧ w.cell? ⟨g + 1, 3, none⟩ = some (.int .i64 b.2.2.2) :=
  ⟨h.1.cell 0, h.1.cell 1, h.1.cell 2, h.1.cell 3, h.2.cell 0, h.2.cell 1, h.2.cell 2, h.2.cell 3⟩
def prdE0 (a b : Nm) : Int := firstOf [numE a, numE b]
def prdE (a b : Nm) : Int := if prdE0 a b = 0 then (if fitsB 1000000000 (nmul a b) then 0 else 8) else prdE0 a b
def prdV (a b : Nm) : Nm := if prdE a b = 0 then nmul a b else n0
set_option maxRecDepth 100000 in
set_option maxHeartbeats 2000000 in
theorem product_wave (a b : Nm) (w : World) : Calls Try.prog 35 #[nv a, nv b] w fun e w' => e = .returned (.tuple #[nv (prdV a b), .int .i64 (prdE a b)]) ∧ Below w.heap.size w w' := by
  have HE := hide (show prdE0 a b = firstOf [numE a, numE b] from rfl)
  by_cases h0 : prdE0 a b = 0
  · have ha := numE_ok (firstOf_ok h0 (numE a) (by simp))
    have hb := numE_ok (firstOf_ok h0 (numE b) (by simp))
    have HT := hide (fun W => times_wave a b W ha hb (by decide) (by decide) (by decide))
    have hq : (firstOf [numE a, numE b] != 0) = false := by rw [← HE.out, h0]; rfl
    have hpe : prdE a b = if fitsB 1000000000 (nmul a b) then 0 else 8 := by unfold prdE; rw [if_pos h0]
    have hpv : prdV a b = if fitsB 1000000000 (nmul a b) then nmul a b else n0 := by unfold prdV; rw [hpe]; cases fitsB 1000000000 (nmul a b) <;> rfl
    obtain ⟨M, hM⟩ : ∃ M, nmul a b = M := ⟨_, rfl⟩
    rw [hM] at HT hpe hpv
    have HPE := hide hpe
    have HPV := hide hpv
    clear h0 ha hb hpe hpv hM
    cases hf : fitsB 1000000000 M
    · rw [hf] at HPE HPV
      rw [HPE.out, HPV.out]
      have HF := hide hf
      clear hf
      simp only [Bool.false_eq_true, if_false]
      have ne0 : w.heap.size + 1 + 1 ≠ w.heap.size := by omega
      have ne1 : w.heap.size + 2 ≠ w.heap.size := by omega
      have HK0 := hide ((Two.new w a b).alloc (.cells (ncells n0) 38))
      go_enter Try.func35, Try.ntmps35
      go_wp2
      go_region_held3 (fun w' => w'.cell? ⟨w.heap.size, 0, none⟩ = some (.int .i64 a.1) ∧ w'.cell? ⟨w.heap.size, 1, none⟩ = some (.int .i64 a.2.1) ∧ w'.cell? ⟨w.heap.size, 2, none⟩ = some (.int .i64 a.2.2.1) ∧ w'.cell? ⟨w.heap.size, 3, none⟩ = some (.int .i64 a.2.2.2) ∧
          w'.cell? ⟨w.heap.size + 1, 0, none⟩ = some (.int .i64 b.1) ∧ w'.cell? ⟨w.heap.size + 1, 1, none⟩ = some (.int .i64 b.2.1) ∧ w'.cell? ⟨w.heap.size + 1, 2, none⟩ = some (.int .i64 b.2.2.1) ∧ w'.cell? ⟨w.heap.size + 1, 3, none⟩ = some (.int .i64 b.2.2.2)) (first | (simp [go_sem]; done) | go_keep)
        (first
          | (go_at_call 126; have qq := b1; go_must (refine (numberErr_wave _ _).mono ?_; rintro e w2 ⟨rfl, hb2⟩; have b2 : Below w.heap.size w w2 := Below.step b1 hb2; obtain ⟨hc2, hf2, y20, y21, y22⟩ := bloc3 w hb2 (by first | omega | (simp; done) | (simp; omega)); have HK2 := hide (HK1.out.bel hb2); have qs2 := HK2.out.cells; clear hb2 qq))
          | (go_at_call 126; go_must (refine (numberErr_wave _ _).mono ?_; rintro e w1 ⟨rfl, hb1⟩; have b1 : Below w.heap.size w w1 := Below.step (by go_grown) hb1; obtain ⟨hc1, hf1, y10, y11, y12⟩ := bloc3 w hb1 (by first | omega | (simp; done) | (simp; omega)); have HK1 := hide (Two.bel (by exact HK0.out) hb1); have qs1 := HK1.out.cells; clear hb1))
          | (go_at_call 107; go_must (refine (first2 _ _ _ _ (by simp)).mono ?_; rintro e w' ⟨rfl, rfl⟩)))
      go_wp2
      go_region_held3 (fun w' => w'.cell? ⟨w.heap.size, 0, none⟩ = some (.int .i64 a.1) ∧ w'.cell? ⟨w.heap.size, 1, none⟩ = some (.int .i64 a.2.1) ∧ w'.cell? ⟨w.heap.size, 2, none⟩ = some (.int .i64 a.2.2.1) ∧ w'.cell? ⟨w.heap.size, 3, none⟩ = some (.int .i64 a.2.2.2) ∧
          w'.cell? ⟨w.heap.size + 1, 0, none⟩ = some (.int .i64 b.1) ∧ w'.cell? ⟨w.heap.size + 1, 1, none⟩ = some (.int .i64 b.2.1) ∧ w'.cell? ⟨w.heap.size + 1, 2, none⟩ = some (.int .i64 b.2.2.1) ∧ w'.cell? ⟨w.heap.size + 1, 3, none⟩ = some (.int .i64 b.2.2.2)) (first | (simp [go_sem]; done) | go_keep)
        (first
          | (go_at_call 110; have qq := b3; go_must (refine (numberOf_wave _ _).mono ?_; rintro e w4 ⟨rfl, hb4⟩; have b4 : Below w.heap.size w w4 := Below.step b3 hb4; obtain ⟨hc4, hf4, y40, y41, y42⟩ := bloc3 w hb4 (by first | omega | (simp; done) | (simp; omega)); have HK4 := hide (HK3.out.bel hb4); have qs4 := HK4.out.cells; clear hb4 qq))
          | (go_at_call 110; go_must (refine (numberOf_wave _ _).mono ?_; rintro e w3 ⟨rfl, hb3⟩; have b3 : Below w.heap.size w w3 := Below.step (by go_grown) hb3; obtain ⟨hc3, hf3, y30, y31, y32⟩ := bloc3 w hb3 (by first | omega | (simp; done) | (simp; omega)); have HK3 := hide (Two.bel (by exact HK2.out.alloc _) hb3); have qs3 := HK3.out.cells; clear hb3))
          | (go_at_call 111; go_must (refine (HT.out _).mono ?_; rintro e w5 ⟨rfl, hb5⟩; have b5 : Below w.heap.size w w5 := Below.step b4 hb5; obtain ⟨hc5, hf5, y50, y51, y52⟩ := bloc3 w hb5 (by first | omega | (simp; done) | (simp; omega)); have HK5 := hide (HK4.out.bel hb5); have qs5 := HK5.out.cells; clear hb5))
          | (go_at_call 113; go_must (refine (toldNone M _ _ (by simp) HF.out).mono ?_; rintro e w6 ⟨rfl, hb6⟩; have b6 : Below w.heap.size w w6 := Below.step (by go_grown) hb6; obtain ⟨hc6, hf6, y60, y61, y62⟩ := bloc3 w hb6 (by first | omega | (simp; done) | (simp; omega)); have HK6 := hide (Two.bel (by exact HK5.out.alloc _) hb6); have qs6 := HK6.out.cells; clear hb6))
          | (go_at_call 130; go_must (refine (one_err none 0 0 8 _ (by decide)).mono ?_; rintro e w7 ⟨rfl, hb7⟩; have b7 : Below w.heap.size w w7 := Below.step b6 hb7; obtain ⟨hc7, hf7, y70, y71, y72⟩ := bloc3 w hb7 (by first | omega | (simp; done) | (simp; omega)); have HK7 := hide (HK6.out.bel hb7); have qs7 := HK7.out.cells; clear hb7)))
      go_wp2
      refine bodyPost_ret (v := .tuple #[nv n0, .int .i64 8]) (by simp [results, Try.results35, go_sem, hc7, hc6, hc5, hc4, hc3, hc2, hc1, y22, y52]) rfl ⟨rfl, by go_grown⟩
    · rw [hf] at HPE HPV
      rw [HPE.out, HPV.out]
      have HF := hide hf
      clear hf
      simp only [if_true]
      have ne0 : w.heap.size + 1 + 1 ≠ w.heap.size := by omega
      have ne1 : w.heap.size + 2 ≠ w.heap.size := by omega
      have HK0 := hide ((Two.new w a b).alloc (.cells (ncells n0) 38))
      go_enter Try.func35, Try.ntmps35
      go_wp2
      go_region_held3 (fun w' => w'.cell? ⟨w.heap.size, 0, none⟩ = some (.int .i64 a.1) ∧ w'.cell? ⟨w.heap.size, 1, none⟩ = some (.int .i64 a.2.1) ∧ w'.cell? ⟨w.heap.size, 2, none⟩ = some (.int .i64 a.2.2.1) ∧ w'.cell? ⟨w.heap.size, 3, none⟩ = some (.int .i64 a.2.2.2) ∧
          w'.cell? ⟨w.heap.size + 1, 0, none⟩ = some (.int .i64 b.1) ∧ w'.cell? ⟨w.heap.size + 1, 1, none⟩ = some (.int .i64 b.2.1) ∧ w'.cell? ⟨w.heap.size + 1, 2, none⟩ = some (.int .i64 b.2.2.1) ∧ w'.cell? ⟨w.heap.size + 1, 3, none⟩ = some (.int .i64 b.2.2.2)) (first | (simp [go_sem]; done) | go_keep)
        (first
          | (go_at_call 126; have qq := b1; go_must (refine (numberErr_wave _ _).mono ?_; rintro e w2 ⟨rfl, hb2⟩; have b2 : Below w.heap.size w w2 := Below.step b1 hb2; obtain ⟨hc2, hf2, y20, y21, y22⟩ := bloc3 w hb2 (by first | omega | (simp; done) | (simp; omega)); have HK2 := hide (HK1.out.bel hb2); have qs2 := HK2.out.cells; clear hb2 qq))
          | (go_at_call 126; go_must (refine (numberErr_wave _ _).mono ?_; rintro e w1 ⟨rfl, hb1⟩; have b1 : Below w.heap.size w w1 := Below.step (by go_grown) hb1; obtain ⟨hc1, hf1, y10, y11, y12⟩ := bloc3 w hb1 (by first | omega | (simp; done) | (simp; omega)); have HK1 := hide (Two.bel (by exact HK0.out) hb1); have qs1 := HK1.out.cells; clear hb1))
          | (go_at_call 107; go_must (refine (first2 _ _ _ _ (by simp)).mono ?_; rintro e w' ⟨rfl, rfl⟩)))
      go_wp2
      go_region_held3 (fun w' => w'.cell? ⟨w.heap.size, 0, none⟩ = some (.int .i64 a.1) ∧ w'.cell? ⟨w.heap.size, 1, none⟩ = some (.int .i64 a.2.1) ∧ w'.cell? ⟨w.heap.size, 2, none⟩ = some (.int .i64 a.2.2.1) ∧ w'.cell? ⟨w.heap.size, 3, none⟩ = some (.int .i64 a.2.2.2) ∧
          w'.cell? ⟨w.heap.size + 1, 0, none⟩ = some (.int .i64 b.1) ∧ w'.cell? ⟨w.heap.size + 1, 1, none⟩ = some (.int .i64 b.2.1) ∧ w'.cell? ⟨w.heap.size + 1, 2, none⟩ = some (.int .i64 b.2.2.1) ∧ w'.cell? ⟨w.heap.size + 1, 3, none⟩ = some (.int .i64 b.2.2.2)) (first | (simp [go_sem]; done) | go_keep)
        (first
          | (go_at_call 110; have qq := b3; go_must (refine (numberOf_wave _ _).mono ?_; rintro e w4 ⟨rfl, hb4⟩; have b4 : Below w.heap.size w w4 := Below.step b3 hb4; obtain ⟨hc4, hf4, y40, y41, y42⟩ := bloc3 w hb4 (by first | omega | (simp; done) | (simp; omega)); have HK4 := hide (HK3.out.bel hb4); have qs4 := HK4.out.cells; clear hb4 qq))
          | (go_at_call 110; go_must (refine (numberOf_wave _ _).mono ?_; rintro e w3 ⟨rfl, hb3⟩; have b3 : Below w.heap.size w w3 := Below.step (by go_grown) hb3; obtain ⟨hc3, hf3, y30, y31, y32⟩ := bloc3 w hb3 (by first | omega | (simp; done) | (simp; omega)); have HK3 := hide (Two.bel (by exact HK2.out.alloc _) hb3); have qs3 := HK3.out.cells; clear hb3))
          | (go_at_call 111; go_must (refine (HT.out _).mono ?_; rintro e w5 ⟨rfl, hb5⟩; have b5 : Below w.heap.size w w5 := Below.step b4 hb5; obtain ⟨hc5, hf5, y50, y51, y52⟩ := bloc3 w hb5 (by first | omega | (simp; done) | (simp; omega)); have HK5 := hide (HK4.out.bel hb5); have qs5 := HK5.out.cells; clear hb5))
          | (go_at_call 113; go_must (refine (toldOne M _ _ (by simp) HF.out).mono ?_; rintro e w6 ⟨A6, c6, rfl, hs6, hb6⟩; have b6 : Below w.heap.size w w6 := Below.step (by go_grown) hb6; obtain ⟨hc6, hf6, y60, y61, y62⟩ := bloc3 w hb6 (by first | omega | (simp; done) | (simp; omega)); have HK6 := hide (Two.bel (by exact HK5.out.alloc _) hb6); have qs6 := HK6.out.cells; have HS6 := hide hs6; clear hb6 hs6))
          | (go_at_call 130; go_must (refine (one_ok A6 c6 M _ HS6.out).mono ?_; rintro e w7 ⟨rfl, hb7⟩; have b7 : Below w.heap.size w w7 := Below.step b6 hb7; obtain ⟨hc7, hf7, y70, y71, y72⟩ := bloc3 w hb7 (by first | omega | (simp; done) | (simp; omega)); have HK7 := hide (HK6.out.bel hb7); have qs7 := HK7.out.cells; clear hb7)))
      go_wp2
      refine bodyPost_ret (v := .tuple #[nv M, .int .i64 0]) (by simp [results, Try.results35, go_sem, hc7, hc6, hc5, hc4, hc3, hc2, hc1, y22, y52]) rfl ⟨rfl, by go_grown⟩
  · have hpe : prdE a b = prdE0 a b := if_neg h0
    have hpv : prdV a b = n0 := by unfold prdV; rw [hpe, if_neg h0]
    have hq : (firstOf [numE a, numE b] != 0) = true := by rw [← HE.out, bne_iff_ne]; exact h0
    rw [hpe, hpv]
    clear h0 hpe hpv
    have ne0 : w.heap.size + 1 + 1 ≠ w.heap.size := by omega
    have ne1 : w.heap.size + 2 ≠ w.heap.size := by omega
    have HK0 := hide ((Two.new w a b).alloc (.cells (ncells n0) 38))
    go_enter Try.func35, Try.ntmps35
    go_wp2
    go_region_held3 (fun w' => w'.cell? ⟨w.heap.size, 0, none⟩ = some (.int .i64 a.1) ∧ w'.cell? ⟨w.heap.size, 1, none⟩ = some (.int .i64 a.2.1) ∧ w'.cell? ⟨w.heap.size, 2, none⟩ = some (.int .i64 a.2.2.1) ∧ w'.cell? ⟨w.heap.size, 3, none⟩ = some (.int .i64 a.2.2.2) ∧
        w'.cell? ⟨w.heap.size + 1, 0, none⟩ = some (.int .i64 b.1) ∧ w'.cell? ⟨w.heap.size + 1, 1, none⟩ = some (.int .i64 b.2.1) ∧ w'.cell? ⟨w.heap.size + 1, 2, none⟩ = some (.int .i64 b.2.2.1) ∧ w'.cell? ⟨w.heap.size + 1, 3, none⟩ = some (.int .i64 b.2.2.2)) (first | (simp [go_sem]; done) | go_keep)
      (first
        | (go_at_call 126; have qq := b1; go_must (refine (numberErr_wave _ _).mono ?_; rintro e w2 ⟨rfl, hb2⟩; have b2 : Below w.heap.size w w2 := Below.step b1 hb2; obtain ⟨hc2, hf2, y20, y21, y22⟩ := bloc3 w hb2 (by first | omega | (simp; done) | (simp; omega)); have HK2 := hide (HK1.out.bel hb2); have qs2 := HK2.out.cells; clear hb2 qq))
        | (go_at_call 126; go_must (refine (numberErr_wave _ _).mono ?_; rintro e w1 ⟨rfl, hb1⟩; have b1 : Below w.heap.size w w1 := Below.step (by go_grown) hb1; obtain ⟨hc1, hf1, y10, y11, y12⟩ := bloc3 w hb1 (by first | omega | (simp; done) | (simp; omega)); have HK1 := hide (Two.bel (by exact HK0.out) hb1); have qs1 := HK1.out.cells; clear hb1))
        | (go_at_call 107; go_must (refine (first2 _ _ _ _ (by simp)).mono ?_; rintro e w' ⟨rfl, rfl⟩)))
    go_wp2
    refine bodyPost_ret (v := .tuple #[nv n0, .int .i64 (prdE0 a b)]) (by rw [HE.out]; simp [results, Try.results35, go_sem, hc2, hc1, y22, n0]) rfl ⟨rfl, by go_grown⟩
end Go.Proofs.Ythfmjohbokpceaa
