import Derived.Test.YthfmjohbokpceaaCelA
import Derived.Test.YthfmjohbokpceaaWvV
import Derived.Deep.QuietTactic
import Derived.BigQuiet
namespace Go.Proofs.Ythfmjohbokpceaa
open Go.RowKit Go.WideShapes Go.ChangeShapes

/-! the list with the greatest correlation; the identity at a place -/
def bst (g : Nat → Int) : Nat → Nat × Int
  | 0 => (0, g 0)
  | k + 1 => if (bst g k).2 < g k then (k, g k) else bst g k
theorem bst_yes {g : Nat → Int} {k : Nat} (h : (bst g k).2 < g k) : bst g (k + 1) = (k, g k) := if_pos h
theorem bst_no {g : Nat → Int} {k : Nat} (h : g k ≤ (bst g k).2) : bst g (k + 1) = bst g k := if_neg (by omega)
theorem bst_lt (g : Nat → Int) : ∀ k : Nat, (bst g k).1 ≤ k ∧ (0 < k → (bst g k).1 < k)
  | 0 => ⟨Nat.le_refl _, fun h => absurd h (by omega)⟩
  | k + 1 => by
    have h := bst_lt g k
    unfold bst
    split
    · exact ⟨by dsimp only; omega, fun _ => by dsimp only; omega⟩
    · exact ⟨by omega, fun _ => by omega⟩
theorem bst_bd {g : Nat → Int} {B : Int} (h : ∀ j, -B ≤ g j ∧ g j ≤ B) : ∀ k : Nat, -B ≤ (bst g k).2 ∧ (bst g k).2 ≤ B
  | 0 => h 0
  | k + 1 => by
    have := bst_bd h k
    unfold bst
    split
    · exact h k
    · exact this
set_option maxRecDepth 100000 in
set_option maxHeartbeats 4000000 in
theorem best_wave (A : Option Addr) (c n : Nat) (f : Nat → List Int) (B : Option Addr) (cx : Nat) (xs : List Int) (w : World) (h0 : 0 < n) (hn : n ≤ 1000) (hA : LstI w A f n) (hlen : ∀ j, (f j).length = 31)
    (hf : ∀ j, ∀ x ∈ f j, -1 ≤ x ∧ x ≤ 1) (hx : xs.length = 31) (hB : Sl w B (iv xs)) (hb : ∀ x ∈ xs, -100000 ≤ x ∧ x ≤ 100000) :
    Calls Try.prog 172 #[.slice A n c, .slice B 31 cx] w fun e w' => e = .returned (.tuple #[.int .i64 ((bst (fun j => innS (f j) xs 31) n).1 : Int), .int .i64 (bst (fun j => innS (f j) xs 31) n).2]) ∧ w = w' := by
  have HIN := hide (fun (j : Nat) (B' : Option Addr) (c' : Nat) (hs : Sl w B' (iv (f j))) => inner_wave B' B 31 31 c' cx (f j) xs w (hlen j) hx (by omega) (by omega) hs hB (hf j) hb)
  obtain ⟨G, hG⟩ : ∃ G : Nat → Int, G = fun j => innS (f j) xs 31 := ⟨_, rfl⟩
  have HG := hide (show ∀ j, innS (f j) xs 31 = G j from fun j => by rw [hG])
  rw [← hG]
  have HIN2 := hide (fun (j : Nat) (B' : Option Addr) (c' : Nat) (hs : Sl w B' (iv (f j))) => by have := HIN.out j B' c' hs; rw [HG.out] at this; exact this)
  obtain ⟨b, off, B0, c0, rfl, e0, s0⟩ := hA 0 h0
  have HA := hide (show ∀ j, j < n → ∃ B c, w.cell? ⟨b, off + j, none⟩ = some (.slice B 31 c) ∧ Sl w B (iv (f j)) from fun j hj => by
    obtain ⟨b2, off2, B2, c2, e, h1, h2⟩ := hA j hj
    injection e with e; injection e with e3 e4 _; subst e3 e4
    exact ⟨B2, c2, h1, h2⟩)
  have S0 := hide s0
  clear hA hB hb hf hlen hG HIN HG hx s0
  have hn0 : (0 : Int) < n := by omega
  have e0' : w.cell? ⟨b, off, none⟩ = some (.slice B0 31 c0) := e0
  go_enter Try.func172, Try.ntmps172
  go_wp2_with (go_at_call 133; go_must (refine (HIN2.out 0 B0 c0 S0.out).mono ?_; rintro e w' ⟨rfl, rfl⟩; simp only []))
  clear e0 e0'
  go_loop [6, 7, 18] (fun a m i => ∃ k : Nat, k ≤ n ∧ i = .int .i64 k ∧ a = .int .i64 ((bst G k).1 : Int) ∧ m = .int .i64 (bst G k).2) (fun _ _ i => n - (intOf i).toNat)
  case atStart => exact ⟨0, Nat.zero_le _, rfl, rfl, rfl⟩
  case round =>
    obtain ⟨k, hk, rfl, rfl, rfl⟩ := hrel
    by_cases hlt : k < n
    · obtain ⟨B1, c1, e1, s1⟩ := HA.out k hlt
      have S1 := hide s1
      clear s1
      have HY := hide (bst_yes (g := G) (k := k))
      have HN := hide (bst_no (g := G) (k := k))
      obtain ⟨P, hP⟩ : ∃ P, bst G k = P := ⟨_, rfl⟩
      obtain ⟨Z, hZ⟩ : ∃ Z, G k = Z := ⟨_, rfl⟩
      rw [hP, hZ] at HY HN
      have HI := hide (HIN2.out k B1 c1 S1.out)
      rw [hZ] at HI
      simp only [hP]
      clear hP hZ
      by_cases hgt : P.2 < Z
      · go_wp2_with (go_at_call 133; go_must (refine HI.out.mono ?_; rintro e w' ⟨rfl, rfl⟩; simp only []))
        go_round
        case rel => exact ⟨k + 1, by omega, by go_num, by rw [HY.out hgt], by rw [HY.out hgt]⟩
        case measure => simp [intOf]; omega
      · have hle : Z ≤ P.2 := by omega
        go_wp2_with (go_at_call 133; go_must (refine HI.out.mono ?_; rintro e w' ⟨rfl, rfl⟩; simp only []))
        go_round
        case rel => exact ⟨k + 1, by omega, by go_num, by rw [HN.out hle], by rw [HN.out hle]⟩
        case measure => simp [intOf]; omega
    · obtain rfl : k = n := by omega
      go_wp2
      go_ret2
      exact ⟨rfl, rfl⟩
/-! the identity at a place -/
def cut31 (x : List Int) (t : Nat) : List Int := (x.drop t).take 31
def secB (x : List Int) (t : Nat) : Nat × Int := bst (fun s => innS (secL s) (cut31 x t) 31) 3
def grpB (x : List Int) (t : Nat) : Nat × Int := bst (fun g => innS (grpL g) (cut31 x (t + 31)) 31) 336
def idAt (x : List Int) (t : Nat) : Int × Int := (3 * ((grpB x t).1 : Int) + (secB x t).1, (secB x t).2 + (grpB x t).2)
theorem secL_len (s : Nat) : (secL s).length = 31 := by simp [secL]
theorem secL_bd (s : Nat) : ∀ x ∈ secL s, -1 ≤ x ∧ x ≤ 1 := fun x hx => by
  unfold secL at hx
  obtain ⟨i, _, rfl⟩ := List.mem_map.1 hx
  rcases vb_size (sbit s i) with h | h <;> rw [h] <;> omega
theorem grpL_bd (s : Nat) : ∀ x ∈ grpL s, -1 ≤ x ∧ x ≤ 1 := fun x hx => by
  unfold grpL at hx
  obtain ⟨i, _, rfl⟩ := List.mem_map.1 hx
  rcases vb_size (gbit s i) with h | h <;> rw [h] <;> omega
theorem cut31_len {x : List Int} {t : Nat} (h : t + 31 ≤ x.length) : (cut31 x t).length = 31 := by simp [cut31]; omega
theorem cut31_bd {x : List Int} (h : ∀ z ∈ x, -100000 ≤ z ∧ z ≤ 100000) (t : Nat) : ∀ z ∈ cut31 x t, -100000 ≤ z ∧ z ≤ 100000 := fun z hz => h z (List.mem_of_mem_drop (List.mem_of_mem_take hz))
theorem Sl.cut {w : World} {b off t : Nat} {x : List Int} (h : Sl w (some ⟨b, off, none⟩) (iv x)) : Sl w (some ⟨b, off + t, none⟩) (iv (cut31 x t)) := fun j hj => ⟨b, off + t, rfl, by
  have e : (iv x)[t + j]? = some (iv (cut31 x t))[j] := by
    have h1 : (iv (cut31 x t)).length ≤ 31 := by rw [iv_length]; simp [cut31]; omega
    have h2 := List.getElem?_eq_getElem hj
    rw [← h2]
    unfold cut31
    rw [iv_take, iv_drop, List.getElem?_take, if_pos (by omega), List.getElem?_drop]
  have := h.one rfl e
  rw [Nat.add_assoc]
  exact this⟩
theorem secB_bd {x : List Int} (h : ∀ z ∈ x, -100000 ≤ z ∧ z ≤ 100000) (t : Nat) : -3100000 ≤ (secB x t).2 ∧ (secB x t).2 ≤ 3100000 ∧ (secB x t).1 < 3 := by
  have h1 := bst_bd (g := fun s => innS (secL s) (cut31 x t) 31) (B := 3100000) (fun j => innS_bd (B := 100000) (by omega) (secL_bd j) (cut31_bd h t) 31) 3
  exact ⟨h1.1, h1.2, (bst_lt _ 3).2 (by omega)⟩
theorem grpB_bd {x : List Int} (h : ∀ z ∈ x, -100000 ≤ z ∧ z ≤ 100000) (t : Nat) : -3100000 ≤ (grpB x t).2 ∧ (grpB x t).2 ≤ 3100000 ∧ (grpB x t).1 < 336 := by
  have h1 := bst_bd (g := fun g => innS (grpL g) (cut31 x (t + 31)) 31) (B := 3100000) (fun j => innS_bd (B := 100000) (by omega) (grpL_bd j) (cut31_bd h (t + 31)) 31) 336
  exact ⟨h1.1, h1.2, (bst_lt _ 336).2 (by omega)⟩
theorem slice_int_u : Try.prog.underlying 24 = some (.slice (Try.prog.elem 24)) := by kernel_rfl
theorem size_int1 (w : World) : (sizeOf 3).run Try.prog w = .ok 1 w := by kernel_rfl
theorem slice_cut (b off len c t : Nat) (ht : t + 31 ≤ c) (w : World) : (Instr.sliceAt 24 (.slice (some ⟨b, off, none⟩) len c) (some (.int .i64 (t : Int))) (some (.int .i64 ((t : Int) + 31))) none).run Try.prog w = .ok (.slice (some ⟨b, off + t, none⟩) 31 (c - t)) w := by
  rw [run_sliceAt_slice w _ _ _ _ _ slice_int_u, run_slice_lh w _ _ _ _ slice_int_u .i64 .i64 (t : Int) ((t : Int) + 31) (by omega) (by omega) (by omega), show Try.prog.elem 24 = 3 by kernel_rfl, size_int1]
  rw [show ((t : Int) + 31).toNat = t + 31 by omega, Int.toNat_natCast]
  simp only [Result.andThen_ok, sliced, if_neg (show ¬ c = t by omega), Option.map_some, add_lit, Nat.add_sub_cancel_left, Nat.mul_one]
theorem fnd_info : (Try.prog.info? 42).map (fun i => (i.zero, i.size, i.bytes)) = some (some (.agg #[.int .i64 0, .int .i64 0, .int .i64 0]), 3, 24) := by kernel_rfl
set_option maxRecDepth 100000 in
set_option maxHeartbeats 4000000 in
theorem at_wave (SA : Option Addr) (c1 : Nat) (GA : Option Addr) (c2 b off c t : Nat) (x : List Int) (w : World) (hS : LstI w SA secL 3) (hG : LstI w GA grpL 336) (hs : Sl w (some ⟨b, off, none⟩) (iv x)) (ht : t + 62 ≤ x.length) (hc : x.length ≤ c) (hl : x.length ≤ 120)
    (hx : ∀ z ∈ x, -100000 ≤ z ∧ z ≤ 100000) :
    Calls Try.prog 117 #[.agg #[.slice SA 3 c1, .slice GA 336 c2], .slice (some ⟨b, off, none⟩) x.length c, .int .i64 (t : Int)] w fun e w' => e = .returned (.agg #[.int .i64 (t : Int), .int .i64 (idAt x t).1, .int .i64 (idAt x t).2]) ∧ Below w.heap.size w w' := by
  have hsl1 := slice_cut b off x.length c t (by omega)
  have hsl2 := slice_cut b off x.length c (t + 31) (by omega)
  have hbA : ∀ w', w' = (w.alloc (.cells #[.slice SA 3 c1, .slice GA 336 c2] 171)).alloc (.cells #[.int .i64 0, .int .i64 0, .int .i64 0] 42) → Below w.heap.size w w' := by rintro _ rfl; go_grown
  have HB1 := hide (fun W (hb : Below w.heap.size w W) => best_wave SA c1 3 secL (some ⟨b, off + t, none⟩) (c - t) (cut31 x t) W (by omega) (by omega) (hS.bel hb) secL_len secL_bd (cut31_len (by omega)) (hs.bel hb).cut (cut31_bd hx t))
  have HB2 := hide (fun W (hb : Below w.heap.size w W) => best_wave GA c2 336 grpL (some ⟨b, off + (t + 31), none⟩) (c - (t + 31)) (cut31 x (t + 31)) W (by omega) (by omega) (hG.bel hb) grpL_len grpL_bd (cut31_len (by omega)) (hs.bel hb).cut (cut31_bd hx (t + 31)))
  obtain ⟨s1, s2, s3⟩ := secB_bd hx t
  obtain ⟨g1, g2, g3⟩ := grpB_bd hx t
  have HV := hide (show idAt x t = (3 * ((grpB x t).1 : Int) + (secB x t).1, (secB x t).2 + (grpB x t).2) from rfl)
  obtain ⟨P, hP⟩ : ∃ P, secB x t = P := ⟨_, rfl⟩
  obtain ⟨Q, hQ⟩ : ∃ Q, grpB x t = Q := ⟨_, rfl⟩
  rw [show bst (fun s => innS (secL s) (cut31 x t) 31) 3 = P from hP] at HB1
  rw [show bst (fun g => innS (grpL g) (cut31 x (t + 31)) 31) 336 = Q from hQ] at HB2
  rw [hP, hQ] at HV
  rw [hP] at s1 s2 s3
  rw [hQ] at g1 g2 g3
  rw [HV.out]
  have HBA := hide hbA
  clear hP hQ HV hS hG hs hx hbA
  have e31 : ((t + 31 : Nat) : Int) = (t : Int) + 31 := by omega
  rw [e31] at hsl2
  have hw3 : IntKind.i64.wrap ((t : Int) + 31 + 31) = (t : Int) + 31 + 31 := IntWalk.i64_in _ (by omega)
  clear e31
  go_enter Try.func117, Try.ntmps117
  go_wp2
  have HH0 := hide (show (fun w' => Blk w' w.heap.size 171 #[.slice SA 3 c1, .slice GA 336 c2] ∧ Blk w' (w.heap.size + 1) 42 #[.int .i64 0, .int .i64 0, .int .i64 0] ∧ Below w.heap.size w w') ((w.alloc (.cells #[.slice SA 3 c1, .slice GA 336 c2] 171)).alloc (.cells #[.int .i64 0, .int .i64 0, .int .i64 0] 42)).drew from ⟨((Blk.new w _ _).alloc _).drew, (Blk.newN _ _ _ (by simp)).drew, below_drewN (HBA.out _ rfl) 1⟩)
  clear HBA
  refine wp_region_held_drew (S := fun w' => Blk w' w.heap.size 171 #[.slice SA 3 c1, .slice GA 336 c2] ∧ Blk w' (w.heap.size + 1) 42 #[.int .i64 0, .int .i64 0, .int .i64 0] ∧ Below w.heap.size w w') (by kernel_rfl) HH0.out (fun hHeld => ?_)
  refine take_at (i := 0) 15 (v := .pointer (some ⟨w.heap.size, 0, none⟩)) rfl rfl (by kernel_rfl) (by kernel_rfl) (by kernel_rfl) (fun _ _ _ h => h) (Or.inl ⟨by rfl, by intro w hSw; go_simp⟩) (by assumption) ?_
  try simp only [Act.put, List.setIfInBounds_toArray, List.set_cons_zero, List.set_cons_succ]
  refine take_at (i := 1) 16 (v := .slice SA 3 c1) rfl rfl (by kernel_rfl) (by kernel_rfl) (by kernel_rfl) (fun _ _ _ h => h) (Or.inl ⟨by rfl, by intro w hSw; have c0 := hSw.1.cell 0; go_simp⟩) (by assumption) ?_
  try simp only [Act.put, List.setIfInBounds_toArray, List.set_cons_zero, List.set_cons_succ]
  refine take_at (i := 2) 17 (v := .slice (some ⟨b, off, none⟩) x.length c) rfl rfl (by kernel_rfl) (by kernel_rfl) (by kernel_rfl) (fun _ _ _ h => h) (Or.inl ⟨by rfl, by intro w hSw; go_simp⟩) (by assumption) ?_
  try simp only [Act.put, List.setIfInBounds_toArray, List.set_cons_zero, List.set_cons_succ]
  refine take_at (i := 3) 18 (v := .int .i64 (t : Int)) rfl rfl (by kernel_rfl) (by kernel_rfl) (by kernel_rfl) (fun _ _ _ h => h) (Or.inl ⟨by rfl, by intro w hSw; go_simp⟩) (by assumption) ?_
  try simp only [Act.put, List.setIfInBounds_toArray, List.set_cons_zero, List.set_cons_succ]
  refine take_at (i := 4) 19 (v := .int .i64 ((t : Int) + 31)) rfl rfl (by kernel_rfl) (by kernel_rfl) (by kernel_rfl) (fun _ _ _ h => h) (Or.inl ⟨by rfl, by intro w hSw; go_simp⟩) (by assumption) ?_
  try simp only [Act.put, List.setIfInBounds_toArray, List.set_cons_zero, List.set_cons_succ]
  refine take_at (i := 5) 20 (v := .slice (some ⟨b, off + t, none⟩) 31 (c - t)) rfl rfl (by kernel_rfl) (by kernel_rfl) (by kernel_rfl) (fun _ _ _ h => h) (Or.inl ⟨by rfl, by intro w hSw; go_simp⟩) (by assumption) ?_
  try simp only [Act.put, List.setIfInBounds_toArray, List.set_cons_zero, List.set_cons_succ]
  refine wpAnyH_ready (rs := [6]) (by kernel_rfl) (by simp) ?_
  refine AllReadyH.cons rfl (fun K hK => ?_) AllReadyH.nil
  go_simp
  refine (HB1.out _ HH0.out.2.2).mono ?_
  rintro e w5 ⟨rfl, rfl⟩
  simp only []
  refine hK.out _ _ HH0.out (fun hHeld => ?_)
  clear hK K
  try simp only [Act.put, List.setIfInBounds_toArray, List.set_cons_zero, List.set_cons_succ]
  refine take_at (i := 7) 14 (v := .tuple #[.int .i64 (P.1 : Int), .int .i64 P.2]) rfl rfl (by kernel_rfl) (by kernel_rfl) (by kernel_rfl) (fun _ _ _ h => h) (Or.inl ⟨by rfl, by intro w hSw; go_simp⟩) (by assumption) ?_
  try simp only [Act.put, List.setIfInBounds_toArray, List.set_cons_zero, List.set_cons_succ]
  refine take_at (i := 8) 22 (v := .int .i64 (P.1 : Int)) rfl rfl (by kernel_rfl) (by kernel_rfl) (by kernel_rfl) (fun _ _ _ h => h) (Or.inl ⟨by rfl, by intro w hSw; go_simp⟩) (by assumption) ?_
  try simp only [Act.put, List.setIfInBounds_toArray, List.set_cons_zero, List.set_cons_succ]
  refine take_at (i := 9) 23 (v := .int .i64 P.2) rfl rfl (by kernel_rfl) (by kernel_rfl) (by kernel_rfl) (fun _ _ _ h => h) (Or.inl ⟨by rfl, by intro w hSw; go_simp⟩) (by assumption) ?_
  try simp only [Act.put, List.setIfInBounds_toArray, List.set_cons_zero, List.set_cons_succ]
  refine take_at (i := 10) 8 (v := .int .i64 (P.1 : Int)) rfl rfl (by kernel_rfl) (by kernel_rfl) (by kernel_rfl) (fun _ _ _ h => h) (Or.inl ⟨by rfl, by intro w hSw; go_simp⟩) (by assumption) ?_
  try simp only [Act.put, List.setIfInBounds_toArray, List.set_cons_zero, List.set_cons_succ]
  refine take_at (i := 11) 9 (v := .int .i64 P.2) rfl rfl (by kernel_rfl) (by kernel_rfl) (by kernel_rfl) (fun _ _ _ h => h) (Or.inl ⟨by rfl, by intro w hSw; go_simp⟩) (by assumption) ?_
  try simp only [Act.put, List.setIfInBounds_toArray, List.set_cons_zero, List.set_cons_succ]
  refine wpAnyH_done (by kernel_rfl) ?_ _
  obtain ⟨w2, hw2⟩ : ∃ w2, ((w.alloc (.cells #[.slice SA 3 c1, .slice GA 336 c2] 171)).alloc (.cells #[.int .i64 0, .int .i64 0, .int .i64 0] 42)).drew = w2 := ⟨_, rfl⟩
  rw [hw2] at HH0 ⊢
  clear hw2 HB1 hsl1
  go_wp2
  have HH1 := hide (show (fun w' => Blk w' w.heap.size 171 #[.slice SA 3 c1, .slice GA 336 c2] ∧ Blk w' (w.heap.size + 1) 42 #[.int .i64 0, .int .i64 0, .int .i64 0] ∧ Below w.heap.size w w') w2.drew from ⟨HH0.out.1.drew, HH0.out.2.1.drew, below_drewN HH0.out.2.2 1⟩)
  refine wp_region_held_drew (S := fun w' => Blk w' w.heap.size 171 #[.slice SA 3 c1, .slice GA 336 c2] ∧ Blk w' (w.heap.size + 1) 42 #[.int .i64 0, .int .i64 0, .int .i64 0] ∧ Below w.heap.size w w') (by kernel_rfl) HH1.out (fun hHeld => ?_)
  refine take_at (i := 0) 25 (v := .pointer (some ⟨w.heap.size, 1, none⟩)) rfl rfl (by kernel_rfl) (by kernel_rfl) (by kernel_rfl) (fun _ _ _ h => h) (Or.inl ⟨by rfl, by intro w hSw; go_simp⟩) (by assumption) ?_
  try simp only [Act.put, List.setIfInBounds_toArray, List.set_cons_zero, List.set_cons_succ]
  refine take_at (i := 1) 26 (v := .slice GA 336 c2) rfl rfl (by kernel_rfl) (by kernel_rfl) (by kernel_rfl) (fun _ _ _ h => h) (Or.inl ⟨by rfl, by intro w hSw; have c0 := hSw.1.cell 1; go_simp⟩) (by assumption) ?_
  try simp only [Act.put, List.setIfInBounds_toArray, List.set_cons_zero, List.set_cons_succ]
  refine take_at (i := 2) 27 (v := .slice (some ⟨b, off, none⟩) x.length c) rfl rfl (by kernel_rfl) (by kernel_rfl) (by kernel_rfl) (fun _ _ _ h => h) (Or.inl ⟨by rfl, by intro w hSw; go_simp⟩) (by assumption) ?_
  try simp only [Act.put, List.setIfInBounds_toArray, List.set_cons_zero, List.set_cons_succ]
  refine take_at (i := 3) 28 (v := .int .i64 ((t : Int) + 31)) rfl rfl (by kernel_rfl) (by kernel_rfl) (by kernel_rfl) (fun _ _ _ h => h) (Or.inl ⟨by rfl, by intro w hSw; go_simp⟩) (by assumption) ?_
  try simp only [Act.put, List.setIfInBounds_toArray, List.set_cons_zero, List.set_cons_succ]
  refine take_at (i := 4) 29 (v := .int .i64 ((t : Int) + 31)) rfl rfl (by kernel_rfl) (by kernel_rfl) (by kernel_rfl) (fun _ _ _ h => h) (Or.inl ⟨by rfl, by intro w hSw; go_simp⟩) (by assumption) ?_
  try simp only [Act.put, List.setIfInBounds_toArray, List.set_cons_zero, List.set_cons_succ]
  refine take_at (i := 5) 30 (v := .int .i64 ((t : Int) + 31 + 31)) rfl rfl (by kernel_rfl) (by kernel_rfl) (by kernel_rfl) (fun _ _ _ h => h) (Or.inl ⟨by rfl, by intro w hSw; go_simp⟩) (by assumption) ?_
  try simp only [Act.put, List.setIfInBounds_toArray, List.set_cons_zero, List.set_cons_succ]
  refine take_at (i := 6) 31 (v := .slice (some ⟨b, off + (t + 31), none⟩) 31 (c - (t + 31))) rfl rfl (by kernel_rfl) (by kernel_rfl) (by kernel_rfl) (fun _ _ _ h => h) (Or.inl ⟨by rfl, by intro w hSw; go_simp⟩) (by assumption) ?_
  try simp only [Act.put, List.setIfInBounds_toArray, List.set_cons_zero, List.set_cons_succ]
  refine wpAnyH_ready (rs := [7]) (by kernel_rfl) (by simp) ?_
  refine AllReadyH.cons rfl (fun K hK => ?_) AllReadyH.nil
  go_simp
  refine (HB2.out _ HH1.out.2.2).mono ?_
  rintro e w5 ⟨rfl, rfl⟩
  simp only []
  refine hK.out _ _ HH1.out (fun hHeld => ?_)
  clear hK K
  try simp only [Act.put, List.setIfInBounds_toArray, List.set_cons_zero, List.set_cons_succ]
  refine take_at (i := 8) 24 (v := .tuple #[.int .i64 (Q.1 : Int), .int .i64 Q.2]) rfl rfl (by kernel_rfl) (by kernel_rfl) (by kernel_rfl) (fun _ _ _ h => h) (Or.inl ⟨by rfl, by intro w hSw; go_simp⟩) (by assumption) ?_
  try simp only [Act.put, List.setIfInBounds_toArray, List.set_cons_zero, List.set_cons_succ]
  refine take_at (i := 9) 33 (v := .int .i64 (Q.1 : Int)) rfl rfl (by kernel_rfl) (by kernel_rfl) (by kernel_rfl) (fun _ _ _ h => h) (Or.inl ⟨by rfl, by intro w hSw; go_simp⟩) (by assumption) ?_
  try simp only [Act.put, List.setIfInBounds_toArray, List.set_cons_zero, List.set_cons_succ]
  refine take_at (i := 10) 34 (v := .int .i64 Q.2) rfl rfl (by kernel_rfl) (by kernel_rfl) (by kernel_rfl) (fun _ _ _ h => h) (Or.inl ⟨by rfl, by intro w hSw; go_simp⟩) (by assumption) ?_
  try simp only [Act.put, List.setIfInBounds_toArray, List.set_cons_zero, List.set_cons_succ]
  refine take_at (i := 11) 10 (v := .int .i64 (Q.1 : Int)) rfl rfl (by kernel_rfl) (by kernel_rfl) (by kernel_rfl) (fun _ _ _ h => h) (Or.inl ⟨by rfl, by intro w hSw; go_simp⟩) (by assumption) ?_
  try simp only [Act.put, List.setIfInBounds_toArray, List.set_cons_zero, List.set_cons_succ]
  refine take_at (i := 12) 11 (v := .int .i64 Q.2) rfl rfl (by kernel_rfl) (by kernel_rfl) (by kernel_rfl) (fun _ _ _ h => h) (Or.inl ⟨by rfl, by intro w hSw; go_simp⟩) (by assumption) ?_
  try simp only [Act.put, List.setIfInBounds_toArray, List.set_cons_zero, List.set_cons_succ]
  refine wpAnyH_done (by kernel_rfl) ?_ _
  obtain ⟨w3, hw3⟩ : ∃ w3, w2.drew = w3 := ⟨_, rfl⟩
  rw [hw3] at HH1 ⊢
  clear hw3 HB2 hsl2 HH0
  have hb1 := HH1.out.2.1
  have d0 := hb1.cell 0
  have d1 := hb1.cell 1
  have d2 := hb1.cell 2
  have f0 := hb1.frozen 0
  have f1 := hb1.frozen 1
  have f2 := hb1.frozen 2
  have HR := hide (((hb1.set_ 0 (.int .i64 (t : Int))).set_ 1 (.int .i64 (3 * (Q.1 : Int) + (P.1 : Int)))).set_ 2 (.int .i64 (P.2 + Q.2)))
  clear hb1
  go_wp2
  exact bodyPost_ret (results_cell_row rfl _ _ (w.heap.size + 1) 42 _ (0, 0) _ rfl HR.out Try.underlying42 rfl (by kernel_rfl)) rfl ⟨rfl, ((HH1.out.2.2.setCell (by simp) _).setCell (by simp) _).setCell (by simp) _⟩
end Go.Proofs.Ythfmjohbokpceaa
