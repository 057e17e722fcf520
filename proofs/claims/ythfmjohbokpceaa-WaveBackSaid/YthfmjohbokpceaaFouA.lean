import Derived.Test.YthfmjohbokpceaaFloatInt
import Derived.Test.YthfmjohbokpceaaStay
import Derived.Test.YthfmjohbokpceaaWvCA
import Derived.Test.YthfmjohbokpceaaWvM
import Derived.Test.YthfmjohbokpceaaWvO
import Derived.Test.YthfmjohbokpceaaListG
import Derived.Test.YthfmjohbokpceaaWvEA
namespace Go.Proofs.Ythfmjohbokpceaa
open Go.RowKit Go.WideShapes Go.ChangeShapes

/-! stores, powers and indices for the transforms of four points (own copies: a claim holds 60 files) -/
section
variable {P : Program} {ops : Array Oper} {o : Oper} {a : Act} {w : World} {K : Act → World → Prop} {Q : Exit → Act → World → Prop} {E : Prop}
theorem step_store_rowF (hgd : o.guard = none) (ty : TypeId) (x y : Operand) (ho : o.op = .store ty x y)
    (g : Nat) (cells : Array Value) (hx : a.eval x = .pointer (some ⟨g, 0, none⟩)) (hy : a.eval y = .agg cells)
    (t : TypeId) (old : Array Value) (hg : Blk w g t old) (hi : (P.info? ty).map (·.size) = some cells.size)
    (hold : old.size = cells.size) (h1 : cells.all (·.oneCell') = true) (h : K (a.put o.dst undef) (w.setRow g cells)) :
    if Region.wanted o (yielded ops a.tmps) = true then o.wp P a w K Q else E := by
  rw [if_pos (by simp [Region.wanted, hgd])]
  exact wp_store_row ty x y ho g cells hx hy t old hg hi hold h1 h
end
theorem gmul_one (a b c d : Int) (w : World) (h : -10000 ≤ a ∧ a ≤ 10000 ∧ -10000 ≤ b ∧ b ≤ 10000) (k : -10000 ≤ c ∧ c ≤ 10000 ∧ -10000 ≤ d ∧ d ≤ 10000) :
    Calls Try.prog 152 #[.agg #[.int .i64 a, .int .i64 b], .agg #[.int .i64 c, .int .i64 d]] w fun e w' => e = .returned (.agg #[.int .i64 (a * c - b * d), .int .i64 (a * d + b * c)]) ∧ Below w.heap.size w w' := by
  obtain ⟨p1, q1⟩ := mul_le_size h.1 h.2.1 k.1 k.2.1
  obtain ⟨p2, q2⟩ := mul_le_size h.2.2.1 h.2.2.2 k.2.2.1 k.2.2.2
  obtain ⟨p3, q3⟩ := mul_le_size h.1 h.2.1 k.2.2.1 k.2.2.2
  obtain ⟨p4, q4⟩ := mul_le_size h.2.2.1 h.2.2.2 k.1 k.2.1
  clear h k
  go_enter Try.func152, Try.ntmps152
  go_wp2
  go_returns
  exact ⟨rfl, by go_grown⟩
/-- powers of the imaginary unit -/
def pw : Nat → Int × Int
  | 0 => (1, 0)
  | j + 1 => (-(pw j).2, (pw j).1)
theorem pw_bd : ∀ j, -1 ≤ (pw j).1 ∧ (pw j).1 ≤ 1 ∧ -1 ≤ (pw j).2 ∧ (pw j).2 ≤ 1
  | 0 => by decide
  | j + 1 => by have := pw_bd j; unfold pw; dsimp only; omega
set_option maxRecDepth 100000 in
set_option maxHeartbeats 4000000 in
theorem power_refZ (n : Int) (k : Nat) (hk : k < 4) (hn : n % 4 = (k : Int)) (hb1 : -1000 ≤ n) (hb2 : n ≤ 1000) (w : World) :
    Calls Try.prog 153 #[.int .i64 n] w fun e w' => e = .returned (.agg #[.int .i64 (pw k).1, .int .i64 (pw k).2]) ∧ Below w.heap.size w w' := by
  have HM := hide (fun W => by have := mod_base n 4 (by decide) (by decide) (by omega) (by omega) W; rw [hn] at this; exact this)
  clear hn
  have HG := hide (fun j W => by have b := pw_bd j; have := gmul_one (pw j).1 (pw j).2 0 1 W (by omega) (by decide); rw [show (pw j).1 * 0 - (pw j).2 * 1 = (pw (j + 1)).1 by show _ = -(pw j).2; omega, show (pw j).1 * 1 + (pw j).2 * 0 = (pw (j + 1)).2 by show _ = (pw j).1; omega] at this; exact this)
  go_enter Try.func153, Try.ntmps153
  go_wp2
  go_loopw [4] (fun i wr => ∃ j : Nat, j ≤ k ∧ i = .int .i64 (j : Int) ∧ Blk wr (w.heap.size + 1) 30 #[.int .i64 (pw j).1, .int .i64 (pw j).2] ∧ Blk wr w.heap.size 30 #[.int .i64 0, .int .i64 0] ∧ Below w.heap.size w wr) (fun i _ => k - (intOf i).toNat)
  case atStart => exact ⟨0, Nat.zero_le _, rfl, Blk.newN (w.alloc _) 30 _ (by simp), (Blk.new w 30 _).alloc _, by go_grown⟩
  case round =>
    obtain ⟨j, hj, rfl, hB, hR, hbel⟩ := hrel
    have HB := hide (stay_blk hB)
    have HR := hide (stay_blk hR)
    have HBE := hide hbel
    clear hB hR hbel
    by_cases hlt : j < k
    · have c0 := HB.out.now.cell 0
      have c1 := HB.out.now.cell 1
      have HG1 := hide (HG.out j)
      obtain ⟨N, hN⟩ : ∃ N, pw (j + 1) = N := ⟨_, rfl⟩
      have HN := hide hN
      obtain ⟨M, hM⟩ : ∃ M, pw j = M := ⟨_, rfl⟩
      rw [hN, hM] at HG1
      rw [hM] at HB c0 c1
      clear hN hM HG
      go_wp2_with (first
        | (go_at_call 131; go_must (refine (HM.out _).mono ?_; rintro e w2 ⟨rfl, rfl⟩; simp only []))
        | (go_at_call 152; go_must (refine (HG1.out _).mono ?_; rintro e w3 ⟨rfl, hb⟩; replace HB := hide (HB.out.step hb); replace HR := hide (HR.out.step hb); replace HBE := hide (Below.step HBE.out hb); clear hb c0 c1; simp only []))
        | (refine wpList_store_row rfl 30 (.tmp 3) (.tmp 14) rfl (w.heap.size + 1) #[.int .i64 N.1, .int .i64 N.2] rfl rfl 30 #[.int .i64 M.1, .int .i64 M.2] HB.out.now (by kernel_rfl) rfl (by simp [Value.oneCell']) ?_))
      go_roundw
      case rel => exact ⟨j + 1, by omega, by go_num, by rw [HN.out]; exact HB.out.now.row _, HR.out.now.rowFar (by omega) _, Below.row HBE.out (by omega) _⟩
      case measure => simp [intOf]; omega
    · obtain rfl : j = k := by omega
      have c0 := HB.out.now.cell 0
      have c1 := HB.out.now.cell 1
      obtain ⟨M, hM⟩ : ∃ M, pw j = M := ⟨_, rfl⟩
      rw [hM] at HB c0 c1
      have HMM := hide hM
      clear HG hM
      go_wp2_with (first
        | (go_at_call 131; go_must (refine (HM.out _).mono ?_; rintro e w2 ⟨rfl, rfl⟩; simp only []))
        | (refine wpList_store_row rfl 30 (.tmp 2) (.tmp 15) rfl w.heap.size #[.int .i64 M.1, .int .i64 M.2] rfl rfl 30 #[.int .i64 0, .int .i64 0] HR.out.now (by kernel_rfl) rfl (by simp [Value.oneCell']) ?_))
      exact bodyPost_ret (results_cell_row rfl _ _ w.heap.size 30 #[.int .i64 M.1, .int .i64 M.2] (0, 0) _ rfl (HR.out.now.row _) Try.underlying30 rfl (by kernel_rfl)) rfl ⟨by rw [HMM.out], Below.row HBE.out (Nat.le_refl _) _⟩
/-! four-point transforms: whole parts of a complex number; the error of an entry; what is reckoned -/
theorem conv_isW {x : Nat} {n : Int} (hx : IsF x n) (hn : -1000000000000000 ≤ n ∧ n ≤ 1000000000000000) (w : World) : (convert 229 3 (.float .f64 x)).run Try.prog w = .ok (.int .i64 n) w :=
  run_convert_float_int w 229 3 .f64 .i64 x n (by kernel_rfl) (by kernel_rfl) (toInt_is hx (by omega))
theorem gauss_wave (x y : Nat) (z : Int × Int) (w : World) (hz : IsC x y z) (hb : cle 1000000000000000 z) :
    Calls Try.prog 150 #[.complex .f64 x y] w fun e w' => e = .returned (.agg #[.int .i64 z.1, .int .i64 z.2]) ∧ Below w.heap.size w w' := by
  unfold cle at hb
  have h1 := conv_isW hz.1 ⟨hb.1, hb.2.1⟩
  have h2 := conv_isW hz.2 ⟨hb.2.2.1, hb.2.2.2⟩
  clear hb hz
  go_enter Try.func150, Try.ntmps150
  go_wp2
  go_returns
  exact ⟨rfl, by go_grown⟩
def foE (z : Int × Int) : Int := unlessE (entB 1000000000 z) 2
set_option maxRecDepth 100000 in
theorem fourErr1_wave (z : Int × Int) (w : World) : Calls Try.prog 182 #[.agg #[.int .i64 z.1, .int .i64 z.2]] w fun e w' => e = .returned (.int .i64 (foE z)) ∧ Below w.heap.size w w' := by
  have HE := hide (fun W => isEntry_wave z 1000000000 W (by omega) (by omega))
  have HZ := hide (stay_new w 30 #[.int .i64 z.1, .int .i64 z.2])
  have h0 := HZ.out.now.cell 0
  have h1 := HZ.out.now.cell 1
  unfold foE
  go_enter Try.func182, Try.ntmps182
  go_wp2_with (first
    | (go_at_call 146; go_must (refine (HE.out _).mono ?_; rintro e w1 ⟨rfl, hb⟩; have HB := hide (Below.step (show Below w.heap.size w (w.alloc _) from (Below.refl _ _).alloc (Nat.le_refl _) _) hb); clear hb; simp only []))
    | (go_at_call 115; refine (unless_any _ _ _).mono ?_; rintro e w' ⟨rfl, rfl⟩; simp only []))
  go_ret
  exact ⟨rfl, HB.out⟩
/-- the turn: i or -i -/
def uI (s : Bool) : Int × Int := if s then (0, 1) else (0, -1)
def cp (r : Int × Int) : Nat → Int × Int
  | 0 => (1, 0)
  | j + 1 => cmul (cp r j) r
def fo (x : List (Int × Int)) (s : Bool) (k : Nat) : Nat → Int × Int
  | 0 => (0, 0)
  | i + 1 => cadd (fo x s k i) (cmul (kg x i) (cp (cp (uI s) k) i))
theorem cp_bd (s : Bool) (k i : Nat) (hk : k < 5) (hi : i < 5) : cle 1 (cp (cp (uI s) k) i) := by
  have h : ∀ s : Bool, ∀ k < 5, ∀ i < 5, (decide (-1 ≤ (cp (cp (uI s) k) i).1 ∧ (cp (cp (uI s) k) i).1 ≤ 1 ∧ -1 ≤ (cp (cp (uI s) k) i).2 ∧ (cp (cp (uI s) k) i).2 ≤ 1)) = true := by decide
  unfold cle; exact of_decide_eq_true (h s k hk i hi)
theorem cp1_bd (s : Bool) (k : Nat) (hk : k < 5) : cle 1 (cp (uI s) k) := by
  have h : ∀ s : Bool, ∀ k < 5, (decide (-1 ≤ (cp (uI s) k).1 ∧ (cp (uI s) k).1 ≤ 1 ∧ -1 ≤ (cp (uI s) k).2 ∧ (cp (uI s) k).2 ≤ 1)) = true := by decide
  unfold cle; exact of_decide_eq_true (h s k hk)
/-- the reference's powers are the same: p i (n k) of the imaginary unit -/
theorem cp_pw (k i : Nat) (hk : k < 4) (hi : i < 4) : cp (cp (uI true) k) i = pw (i * k % 4) ∧ cp (cp (uI false) k) i = pw ((4 - i * k % 4) % 4) := by
  have h : ∀ k < 4, ∀ i < 4, cp (cp (uI true) k) i = pw (i * k % 4) ∧ cp (cp (uI false) k) i = pw ((4 - i * k % 4) % 4) := by decide
  exact h k hk i hi
theorem f_one : IsF 4607182418800017408 1 := by have := fint_is 1 (by decide); rwa [show floatOfInt .f64 1 = 4607182418800017408 by decide +kernel] at this
theorem f_mone : IsF 13830554455654793216 (-1) := by have := fint_is (-1) (by decide); rwa [show floatOfInt .f64 (-1) = 13830554455654793216 by decide +kernel] at this
theorem isC_one : IsC 4607182418800017408 0 (1, 0) := ⟨f_one, fzero_is⟩
theorem isC_i : IsC 0 4607182418800017408 (0, 1) := ⟨fzero_is, f_one⟩
theorem isC_mi : IsC 0 13830554455654793216 (0, -1) := ⟨fzero_is, f_mone⟩
end Go.Proofs.Ythfmjohbokpceaa
