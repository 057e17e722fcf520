import Derived.Test.YtamkannjdbodpaaChB
namespace Go.Proofs.Ytamkannjdbodpaa
open Go.RowKit Go.WideShapes Go.ChangeShapes

theorem conv_is {x : Nat} {n : Int} (hx : IsF x n) (hn : -1000000000000000 ≤ n ∧ n ≤ 1000000000000000) (w : World) : (convert 198 3 (.float .f64 x)).run Try.prog w = .ok (.int .i64 n) w :=
  run_convert_float_int w 198 3 .f64 .i64 x n (by kernel_rfl) (by kernel_rfl) (toInt_is hx (by omega))
theorem gauss_beam (x y : Nat) (z : Int × Int) (w : World) (hz : IsC x y z) (hb : cle 1000000000000000 z) :
    Calls Try.prog 127 #[.complex .f64 x y] w fun e w' => e = .returned (.agg #[.int .i64 z.1, .int .i64 z.2]) ∧ Below w.heap.size w w' := by
  unfold cle at hb
  have h1 := conv_is hz.1 ⟨hb.1, hb.2.1⟩
  have h2 := conv_is hz.2 ⟨hb.2.2.1, hb.2.2.2⟩
  clear hb hz
  go_enter Try.func127, Try.ntmps127
  go_wp2
  go_returns
  exact ⟨rfl, by go_grown⟩
def nrm (z : Int × Int) : Int := z.1 * z.1 + z.2 * z.2
theorem nrm_bd {z : Int × Int} {m : Int} (h : cle m z) : 0 ≤ nrm z ∧ nrm z ≤ 2 * (m * m) := by
  unfold cle at h
  have p1 := mul_bd2 h.1 h.2.1 h.1 h.2.1
  have p2 := mul_bd2 h.2.2.1 h.2.2.2 h.2.2.1 h.2.2.2
  have q1 : 0 ≤ z.1 * z.1 := by rw [← Int.natAbs_mul_self]; omega
  have q2 : 0 ≤ z.2 * z.2 := by rw [← Int.natAbs_mul_self]; omega
  unfold nrm; omega
theorem square2_beam (x y : Nat) (z : Int × Int) (w : World) (hz : IsC x y z) (hb : cle 1000000000 z) :
    Calls Try.prog 159 #[.complex .f64 x y] w fun e w' => e = .returned (.int .i64 (nrm z)) ∧ Below w.heap.size w w' := by
  have hb2 : cle 1000000000000000 z := by unfold cle at hb ⊢; omega
  have HG := hide (gauss_beam x y z · hz hb2)
  unfold cle at hb
  have p1 := mul_bd2 hb.1 hb.2.1 hb.1 hb.2.1
  have p2 := mul_bd2 hb.2.2.1 hb.2.2.2 hb.2.2.1 hb.2.2.2
  have hn := hide (show nrm z = z.1 * z.1 + z.2 * z.2 from rfl)
  clear hb2 hz
  obtain ⟨a, ha⟩ : ∃ a, z.1 = a := ⟨_, rfl⟩
  obtain ⟨b, hb'⟩ : ∃ b, z.2 = b := ⟨_, rfl⟩
  rw [ha] at HG p1 hn
  rw [hb'] at HG p2 hn
  clear hb ha hb'
  go_enter Try.func159, Try.ntmps159
  go_wp2_with (go_at_call 127; go_must (refine (HG.out _).mono ?_; rintro e w1 ⟨rfl, hb1⟩; have b1 : Below w.heap.size w w1 := hb1; clear hb1; simp only []))
  go_ret
  exact ⟨by rw [hn.out]; rfl, by first | exact b1.alloc b1.size _ | go_grown⟩
theorem energy_beam (A : Option Addr) (c n : Nat) (g : List (Int × Int)) (xs : List Value) (w : World) (hs : Sl w A xs) (hx : ChIs xs g) (hg : g.length = n) (hn : n ≤ 100) {m : Int} (sg : Small m g) (m0 : 0 ≤ m) (hmm : m * m ≤ 1000000000000) :
    Calls Try.prog 126 #[.slice A n c] w fun e w' => ∃ x y, e = .returned (.complex .f64 x y) ∧ IsC x y (innerZ g g n) ∧ w = w' := by
  have HI := hide (inner_beam A A c c n g g xs xs w hs hs hx hx hg hg hn sg sg m0 m0 hmm)
  clear hs hx
  go_enter Try.func126, Try.ntmps126
  go_wp2_with fail
  refine HI.out.mono ?_
  rintro e w' ⟨x, y, rfl, hc, rfl⟩
  simp only []
  go_wp2
  go_ret
  exact ⟨x, y, rfl, hc, rfl⟩

/-! the greatest common divisor -/
theorem gcd_step (a b : Int) : Int.gcd b (a.tmod b) = Int.gcd a b := by
  unfold Int.gcd
  rw [Int.natAbs_tmod, Nat.gcd_comm a.natAbs b.natAbs, Nat.gcd_rec b.natAbs a.natAbs, Nat.gcd_comm]
def lowN (num den : Int) : Int := num.tdiv (Int.gcd num den)
def lowD (num den : Int) : Int := den.tdiv (Int.gcd num den)
set_option maxRecDepth 100000 in
set_option maxHeartbeats 2000000 in
theorem lowest_beam (num den : Int) (w : World) (h1 : -9223372036854775808 ≤ num) (h2 : num ≤ 9223372036854775807) (h3 : 1 ≤ den) (h4 : den ≤ 9223372036854775807) :
    Calls Try.prog 128 #[.int .i64 num, .int .i64 den] w fun e w' => e = .returned (.agg #[.int .i64 (lowN num den), .int .i64 (lowD num den)]) ∧ Below w.heap.size w w' := by
  obtain ⟨G, hG⟩ : ∃ G : Int, (Int.gcd num den : Int) = G := ⟨_, rfl⟩
  have hGp : 1 ≤ G := by
    rw [← hG]
    have : 0 < Int.gcd num den := Int.gcd_pos_of_ne_zero_right num (by omega)
    omega
  have hGl : G ≤ den := by
    rw [← hG]
    have := Int.le_of_dvd (by omega : 0 < den) (Int.gcd_dvd_right num den)
    exact this
  have hN := hide (show lowN num den = num.tdiv G by unfold lowN; rw [hG])
  have hD := hide (show lowD num den = den.tdiv G by unfold lowD; rw [hG])
  have HG := hide hG
  clear hG
  go_enter Try.func128, Try.ntmps128
  go_wp2
  go_loopw [5, 6] (fun a b wr => ∃ x y : Int, a = .int .i64 x ∧ b = .int .i64 y ∧ -9223372036854775808 ≤ x ∧ x ≤ 9223372036854775807 ∧ -9223372036854775808 ≤ y ∧ y ≤ 9223372036854775807 ∧ (Int.gcd x y : Int) = G ∧ ∃ n, wr = (w.alloc (.cells #[.int .i64 0, .int .i64 0] 86)).drewN n) (fun _ b _ => (intOf b).natAbs)
  case atStart => exact ⟨num, den, rfl, rfl, h1, h2, by omega, h4, HG.out, 0, rfl⟩
  case round =>
    obtain ⟨x, y, rfl, rfl, x1, x2, y1, y2, hg, n, rfl⟩ := hrel
    by_cases h0 : y = 0
    · have hd : (y != 0) = false := by simp [h0]
      have hmx : max x (-x) = G := by
        rw [h0] at hg
        have e : (Int.gcd x 0 : Int) = (x.natAbs : Int) := by rw [Int.gcd_zero_right]
        omega
      have hg0 : G ≠ 0 := by omega
      have hn1 : -9223372036854775808 ≤ num.tdiv G ∧ num.tdiv G ≤ 9223372036854775807 := by
        have : (num.tdiv G).natAbs ≤ num.natAbs := by rw [Int.natAbs_tdiv]; exact Nat.div_le_self _ _
        by_cases hs : 0 ≤ num
        · omega
        · have := Int.tdiv_nonneg (a := -num) (b := G) (by omega) (by omega)
          rw [Int.neg_tdiv] at this
          omega
      have hn2 : -9223372036854775808 ≤ den.tdiv G ∧ den.tdiv G ≤ 9223372036854775807 := by
        have : (den.tdiv G).natAbs ≤ den.natAbs := by rw [Int.natAbs_tdiv]; exact Nat.div_le_self _ _
        omega
      obtain ⟨n1, n2⟩ := hn1
      obtain ⟨n3, n4⟩ := hn2
      have HMX := hide hmx
      clear hg h0
      go_wp2
      go_region
      all_goals
        go_wp2
        have B0 := (Blk.new w 86 #[.int .i64 0, .int .i64 0]).drewN (n + 1)
        have hb2 := (B0.set_ 0 (.int .i64 (num.tdiv G))).set_ 1 (.int .i64 (den.tdiv G))
        have hbel := below_drewN ((Below.refl w.heap.size w).alloc (Nat.le_refl _) (.cells #[.int .i64 0, .int .i64 0] 86)) (n + 1)
        have hbel2 := (hbel.setCell (p := ⟨w.heap.size, 0, none⟩) (by simp) (.int .i64 (num.tdiv G))).setCell (p := ⟨w.heap.size, 1, none⟩) (by simp) (.int .i64 (den.tdiv G))
        clear B0 hbel
        revert hb2 hbel2
        generalize World.setCell _ _ _ = W
        intro hb2 hbel2
        have e0 : W.cell? ⟨w.heap.size, 0, none⟩ = some (.int .i64 (num.tdiv G)) := hb2.cell 0
        have e1 : W.cell? ⟨w.heap.size, 1, none⟩ = some (.int .i64 (den.tdiv G)) := hb2.cell 1
        refine bodyPost_ret (v := .agg #[.int .i64 (num.tdiv G), .int .i64 (den.tdiv G)]) (by simp [results, Try.results128, go_sem, e0, e1]) rfl ⟨by rw [hN.out, hD.out], hbel2⟩
    · have hd : (y != 0) = true := by simp [h0]
      have hst := hide (gcd_step x y)
      have hgg := hide hg
      have hlt := hide (show (x.tmod y).natAbs < y.natAbs by rw [Int.natAbs_tmod]; exact Nat.mod_lt _ (by omega))
      have ht : -9223372036854775808 ≤ x.tmod y ∧ x.tmod y ≤ 9223372036854775807 := by have := hlt.out; omega
      obtain ⟨t1, t2⟩ := ht
      clear hg
      go_wp2
      go_quiet (fail)
      go_wp2
      go_roundw
      case rel => exact ⟨y, x.tmod y, rfl, rfl, y1, y2, t1, t2, by rw [hst.out]; exact hgg.out, by first | exact ⟨_, rfl⟩ | exact drewN2 _ _ _⟩
      case measure => simp [intOf]; exact Nat.mod_lt _ (by omega)
end Go.Proofs.Ytamkannjdbodpaa
