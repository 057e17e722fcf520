import Derived.Test.YtamkannjdbodpaaChC
namespace Go.Proofs.Ytamkannjdbodpaa
open Go.RowKit Go.WideShapes Go.ChangeShapes

def enG (g : List (Int × Int)) (n : Nat) : Int := (innerZ g g n).1
def Ch30 (g : List (Int × Int)) : Prop := g.length ≤ 8 ∧ Small 30 g
theorem Ch30.in_ {g h : List (Int × Int)} (hg : Ch30 g) (hh : Ch30 h) : cle 14400 (innerZ g h g.length) := by
  have h1 := innerZ_le hg.2 hh.2 (by decide) (by decide) g.length
  have h2 := hg.1
  unfold cle at *
  have e : (g.length : Int) * (2 * (30 * 30)) ≤ 14400 := by omega
  omega
theorem inner_im : ∀ (g : List (Int × Int)) (n : Nat), (innerZ g g n).2 = 0
  | _, 0 => rfl
  | g, n + 1 => by
    unfold innerZ cadd cmul cconj
    dsimp only
    rw [inner_im g n]
    grind
theorem en_step (g : List (Int × Int)) (n : Nat) : enG g (n + 1) = enG g n + nrm (g[n]?.getD (0, 0)) := by
  unfold enG
  rw [innerZ]
  unfold cadd cmul cconj nrm
  dsimp only
  grind
theorem nrm_nn (z : Int × Int) : 0 ≤ nrm z := by
  have h1 : 0 ≤ z.1 * z.1 := by rw [← Int.natAbs_mul_self]; omega
  have h2 : 0 ≤ z.2 * z.2 := by rw [← Int.natAbs_mul_self]; omega
  unfold nrm; omega
theorem en_nn (g : List (Int × Int)) : ∀ n : Nat, 0 ≤ enG g n
  | 0 => by simp [enG, innerZ]
  | n + 1 => by rw [en_step]; have := en_nn g n; have := nrm_nn (g[n]?.getD (0, 0)); omega
theorem Ch30.en {g : List (Int × Int)} (hg : Ch30 g) : 0 ≤ enG g g.length ∧ enG g g.length ≤ 14400 := by
  have h1 := Ch30.in_ hg hg
  have h2 := en_nn g g.length
  unfold cle at h1
  unfold enG at *
  omega
theorem Small.mono {m n : Int} {g : List (Int × Int)} (h : Small m g) (hm : m ≤ n) : Small n g := fun z hz => by have := h z hz; unfold cle at *; omega

theorem ga_re (a b : Int) (w : World) : (Instr.field 90 (.agg #[.int .i64 a, .int .i64 b]) 0).run Try.prog w = .ok (.int .i64 a) w := by kernel_rfl
set_option maxRecDepth 100000 in
set_option maxHeartbeats 2000000 in
theorem parts_beam (A B : Option Addr) (c c' n : Nat) (g h : List (Int × Int)) (xs ys : List Value) (w : World) (hs : Sl w A xs) (hs' : Sl w B ys) (hx : ChIs xs g) (hy : ChIs ys h) (hg : g.length = n) (hh : h.length = n) (sg : Ch30 g) (sh : Ch30 h) :
    Calls Try.prog 129 #[.slice A n c, .slice B n c'] w fun e w' => e = .returned (.tuple #[.int .i64 (nrm (innerZ g h n)), .int .i64 (enG g n * enG h n)]) ∧ Below w.heap.size w w' := by
  have hn8 := sg.1
  have hc0 := Ch30.in_ sg sh
  have hc1 := Ch30.in_ sg sg
  have hc2 := Ch30.in_ sh sh
  obtain ⟨e1, e2⟩ := sg.en
  obtain ⟨e3, e4⟩ := sh.en
  rw [hg] at hc0 hc1 e1 e2
  rw [hh] at hc2 e3 e4
  have HI := hide (fun W hb hb' => inner_beam A B c c' n g h xs ys W hb hb' hx hy hg hh (by omega) sg.2 sh.2 (by decide) (by decide) (by decide))
  have HG := hide (fun W hb => energy_beam A c n g xs W hb hx hg (by omega) sg.2 (by decide) (by decide))
  have HH := hide (fun W hb => energy_beam B c' n h ys W hb hy hh (by omega) sh.2 (by decide) (by decide))
  have HS := hide hs; clear hs
  have HS' := hide hs'; clear hs'
  have k0 : cle 1000000000 (innerZ g h n) := by unfold cle at *; omega
  have k1 : cle 1000000000000000 (innerZ g g n) := by unfold cle at *; omega
  have k2 : cle 1000000000000000 (innerZ h h n) := by unfold cle at *; omega
  have K0 := hide k0
  have K1 := hide k1
  have K2 := hide k2
  have hp := mul_bd2 (a := enG g n) (b := enG h n) (m := 14400) (n := 14400) (by omega) (by omega) (by omega) (by omega)
  obtain ⟨p1, p2⟩ := hp
  have E1 := hide (show (innerZ g g n).1 = enG g n from rfl)
  have E2 := hide (show (innerZ h h n).1 = enG h n from rfl)
  clear hx hy hc0 hc1 hc2 k0 k1 k2 sg sh
  obtain ⟨P, hP⟩ : ∃ P, enG g n = P := ⟨_, rfl⟩
  obtain ⟨Q, hQ⟩ : ∃ Q, enG h n = Q := ⟨_, rfl⟩
  obtain ⟨R, hR⟩ : ∃ R, nrm (innerZ g h n) = R := ⟨_, rfl⟩
  rw [hP] at e1 e2 E1 p1 p2
  rw [hQ] at e3 e4 E2 p1 p2
  rw [hP, hQ, hR]
  have HR := hide hR
  clear hP hQ hR
  have hre := fun W => ga_re P (innerZ g g n).2 W
  have hre2 := fun W => ga_re Q (innerZ h h n).2 W
  go_enter Try.func129, Try.ntmps129
  go_wp2_with (first
    | (go_at_call 125; go_must (refine (HI.out _ HS.out HS'.out).mono ?_; rintro e w' ⟨x0, y0, rfl, hI, rfl⟩; have HIs := hide hI; clear hI; simp only []))
    | (go_at_call 159; go_must (refine (square2_beam _ _ _ _ HIs.out K0.out).mono ?_; rintro e w1 ⟨rfl, hb1⟩; have b1 : Below w.heap.size w w1 := hb1; clear hb1; rw [HR.out]; simp only []))
    | (go_at_call 126; refine (HH.out _ (HS'.out.bel b2)).mono ?_; rintro e w' ⟨x2, y2, rfl, hI, rfl⟩; have HIh := hide hI; clear hI; simp only [])
    | (go_at_call 126; refine (HG.out _ (HS.out.bel b1)).mono ?_; rintro e w' ⟨x1, y1, rfl, hI, rfl⟩; have HIg := hide hI; clear hI; simp only [])
    | (go_at_call 127; refine (gauss_beam _ _ _ _ HIh.out K2.out).mono ?_; rintro e w3 ⟨rfl, hb3⟩; have b3 : Below w.heap.size w w3 := Below.step b2 hb3; clear hb3; rw [E2.out]; simp only [])
    | (go_at_call 127; refine (gauss_beam _ _ _ _ HIg.out K1.out).mono ?_; rintro e w2 ⟨rfl, hb2⟩; have b2 : Below w.heap.size w w2 := Below.step b1 hb2; clear hb2; rw [E1.out]; simp only []))
  go_ret2
  exact ⟨rfl, b3⟩
end Go.Proofs.Ytamkannjdbodpaa
