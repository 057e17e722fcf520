import Derived.Test.YtamkannjdbodpaaListsD
namespace Go.Proofs.Ytamkannjdbodpaa
open Go.RowKit Go.WideShapes Go.ChangeShapes

set_option maxRecDepth 100000 in
set_option maxHeartbeats 4000000 in
theorem pairs_A_D (A : Option Addr)
    (c : Nat) (us : List (List (Int × Int))) (a b : Int) (PA : Option Addr) (pc : Nat) (ps : List (Int × Int)) (w : World)
    (hs : RowsAt GR w A us) (hp : Sl w PA (gv ps)) (n m : Nat) (hm8 : m ≤ 8)
    (D : Int)
    (M : Int)
    (hD : (D != 0) = true) (hD2 : (D == 0) = false)
    (hn2 : ¬ (1 : Int) < (n : Int))
    (HF : Hid (∀ W, RowsAt GR W A us → Calls Try.prog 67 #[.slice A n c] W fun e w' => e = .returned (.bool true) ∧ W = w'))
    (HCU : Hid (∀ W, RowsAt GR W A us → Calls Try.prog 71 #[.slice A n c] W fun e w' => ∃ Q k, e = .returned (.slice Q n k) ∧ RowsAt GR w' Q us ∧ Below W.heap.size W w'))
    (HMP : Hid (∀ B d W, RowsAt GR W B us → Calls Try.prog 70 #[.slice B n d, .agg #[.int .i64 a, .int .i64 b]] W fun e w' => ∃ P k, e = .returned (.tuple #[.slice P 0 k, .int .i64 D]) ∧ Sl w' P [] ∧ Below W.heap.size W w'))
    (HCPA : Hid (∀ W, Sl W PA (gv ps) → Calls Try.prog 73 #[.slice PA m pc] W fun e w' => ∃ Q k, e = .returned (.slice Q m k) ∧ Sl w' Q (gv ps) ∧ Below W.heap.size W w'))
    (HCP : Hid (∀ B d Q q W, RowsAt GR W B us → Sl W Q (gv ps) → Calls Try.prog 72 #[.slice B n d, .agg #[.int .i64 a, .int .i64 b], .slice Q m q] W fun e w' => e = .returned (.tuple #[.int .i64 0, .int .i64 D]) ∧ Below W.heap.size W w'))
    (HU : Hid (∀ W, RowsAt GR W A us → Calls Try.prog 68 #[.slice A n c] W fun e w' => e = .returned (.int .i64 D) ∧ Below W.heap.size W w'))
    (_HRM : Hid (∀ W, Calls Try.prog 69 #[.agg #[.int .i64 a, .int .i64 b]] W fun e w' => e = .returned (.int .i64 M) ∧ Below W.heap.size W w')) :
    Calls Try.prog 14 #[.slice A n c, .agg #[.int .i64 a, .int .i64 b], .slice PA m pc] w fun e w' => e = .returned (.bool true) ∧ Below w.heap.size w w' := by
  have hmd : decide ((8 : Int) < (m : Int)) = false := by rw [decide_eq_false_iff_not]; omega
  clear hm8
  have HS := hide hs; clear hs
  have HPS := hide hp; clear hp
  have HB := hide ((Below.refl w.heap.size w).alloc (Nat.le_refl _) (.cells #[.int .i64 a, .int .i64 b] 86))
  have HBX := hide (stay_new w 86 #[.int .i64 a, .int .i64 b])
  have HT := hide (Stay.triv (w.alloc (.cells #[.int .i64 a, .int .i64 b] 86)))
  go_enter Try.func14, Try.ntmps14
  go_wp2_with (first
    | (go_at_call 18; go_must (refine (awake_ok _).mono ?_; rintro e w1 ⟨rfl, hb⟩; replace HB := hide (Below.step HB.out hb); replace HBX := hide (HBX.out.step hb); replace HT := hide (HT.out.step hb); clear hb; replace q0 : w1.cell? ⟨w.heap.size, 0, none⟩ = some (.int .i64 a) := HBX.out.now.cell 0; replace q1 : w1.cell? ⟨w.heap.size, 1, none⟩ = some (.int .i64 b) := HBX.out.now.cell 1; simp only []))
    | (go_at_call 67; go_must (refine (HF.out _ (HS.out.bel gr_lasts HB.out)).mono ?_; rintro e w' ⟨rfl, rfl⟩; simp only [])))
  go_region_held3 (fun w' => w'.cell? ⟨w.heap.size, 0, none⟩ = some (.int .i64 a) ∧ w'.cell? ⟨w.heap.size, 1, none⟩ = some (.int .i64 b)) (first | (simp [go_sem]; done) | (simp [go_sem, *]; done) | exact ⟨q0, q1⟩ | go_keep)
    (first
      | (go_at_call 71; go_must (refine (HCU.out _ (HS.out.bel gr_lasts (below_drew HB.out))).mono ?_; rintro e w4 ⟨B4, k4, rfl, hr4, hb⟩; have HR4 := hide hr4; replace HB := hide (Below.step (below_drew HB.out) hb); replace HBX := hide (HBX.out.drew.step hb); replace HT := hide (HT.out.drew.step hb); clear hb hr4; replace q0 : w4.cell? ⟨w.heap.size, 0, none⟩ = some (.int .i64 a) := HBX.out.now.cell 0; replace q1 : w4.cell? ⟨w.heap.size, 1, none⟩ = some (.int .i64 b) := HBX.out.now.cell 1))
      | (go_at_call 70; go_must (refine (HMP.out _ _ _ HR4.out).mono ?_; rintro e w5 ⟨P5, k5, rfl, hp5, hb⟩; replace HT := hide ((HT.out.step hb).and (stay_sl hp5)); replace HB := hide (Below.step HB.out hb); replace HBX := hide (HBX.out.step hb); clear hb hp5 HR4; replace q0 : w5.cell? ⟨w.heap.size, 0, none⟩ = some (.int .i64 a) := HBX.out.now.cell 0; replace q1 : w5.cell? ⟨w.heap.size, 1, none⟩ = some (.int .i64 b) := HBX.out.now.cell 1)))
  go_wp2_with fail
  go_region_held3 (fun w' => w'.cell? ⟨w.heap.size, 0, none⟩ = some (.int .i64 a) ∧ w'.cell? ⟨w.heap.size, 1, none⟩ = some (.int .i64 b)) (first | (simp [go_sem]; done) | (simp [go_sem, *]; done) | exact ⟨q0, q1⟩ | go_keep)
    (first
      | (go_at_call 71; go_must (refine (HCU.out _ (HS.out.bel gr_lasts (below_drew HB.out))).mono ?_; rintro e w9 ⟨B9, k9, rfl, hr9, hb⟩; have HR9 := hide hr9; replace HB := hide (Below.step (below_drew HB.out) hb); replace HBX := hide (HBX.out.drew.step hb); replace HT := hide (HT.out.drew.step hb); clear hb hr9; replace q0 : w9.cell? ⟨w.heap.size, 0, none⟩ = some (.int .i64 a) := HBX.out.now.cell 0; replace q1 : w9.cell? ⟨w.heap.size, 1, none⟩ = some (.int .i64 b) := HBX.out.now.cell 1))
      | (go_at_call 73; go_must (refine (HCPA.out _ (HPS.out.bel HB.out)).mono ?_; rintro e w10 ⟨P10, k10, rfl, hp10, hb⟩; have HR10 := hide (HR9.out.bel gr_lasts hb); have HP10 := hide hp10; replace HB := hide (Below.step HB.out hb); replace HBX := hide (HBX.out.step hb); replace HT := hide (HT.out.step hb); clear hb hp10 HR9; replace q0 : w10.cell? ⟨w.heap.size, 0, none⟩ = some (.int .i64 a) := HBX.out.now.cell 0; replace q1 : w10.cell? ⟨w.heap.size, 1, none⟩ = some (.int .i64 b) := HBX.out.now.cell 1))
      | (go_at_call 72; go_must (refine (HCP.out _ _ _ _ _ HR10.out HP10.out).mono ?_; rintro e w11 ⟨rfl, hb⟩; replace HB := hide (Below.step HB.out hb); replace HBX := hide (HBX.out.step hb); replace HT := hide (HT.out.step hb); clear hb HR10 HP10; replace q0 : w11.cell? ⟨w.heap.size, 0, none⟩ = some (.int .i64 a) := HBX.out.now.cell 0; replace q1 : w11.cell? ⟨w.heap.size, 1, none⟩ = some (.int .i64 b) := HBX.out.now.cell 1)))
  go_wp2_with (first
    | (go_at_call 68; go_must (refine (HU.out _ (HS.out.bel gr_lasts HB.out)).mono ?_; rintro e w20 ⟨rfl, hb⟩; replace HB := hide (Below.step HB.out hb); replace HBX := hide (HBX.out.step hb); replace HT := hide (HT.out.step hb); clear hb; replace q0 : w20.cell? ⟨w.heap.size, 0, none⟩ = some (.int .i64 a) := HBX.out.now.cell 0; replace q1 : w20.cell? ⟨w.heap.size, 1, none⟩ = some (.int .i64 b) := HBX.out.now.cell 1; simp only [])))
  go_ret
  exact ⟨by first | rfl | (simp; done) | simp [*], HB.out⟩

set_option maxRecDepth 100000 in
set_option maxHeartbeats 4000000 in
theorem pairs_A_M (A : Option Addr)
    (c : Nat) (us : List (List (Int × Int))) (a b : Int) (PA : Option Addr) (pc : Nat) (ps : List (Int × Int)) (w : World)
    (hs : RowsAt GR w A us) (hp : Sl w PA (gv ps)) (n m : Nat) (hm8 : m ≤ 8)
    (M : Int)
    (hM : (M != 0) = true) (_hM2 : (M == 0) = false)
    (hn2 : ¬ (1 : Int) < (n : Int))
    (HF : Hid (∀ W, RowsAt GR W A us → Calls Try.prog 67 #[.slice A n c] W fun e w' => e = .returned (.bool true) ∧ W = w'))
    (HCU : Hid (∀ W, RowsAt GR W A us → Calls Try.prog 71 #[.slice A n c] W fun e w' => ∃ Q k, e = .returned (.slice Q n k) ∧ RowsAt GR w' Q us ∧ Below W.heap.size W w'))
    (HMP : Hid (∀ B d W, RowsAt GR W B us → Calls Try.prog 70 #[.slice B n d, .agg #[.int .i64 a, .int .i64 b]] W fun e w' => ∃ P k, e = .returned (.tuple #[.slice P 0 k, .int .i64 M]) ∧ Sl w' P [] ∧ Below W.heap.size W w'))
    (HCPA : Hid (∀ W, Sl W PA (gv ps) → Calls Try.prog 73 #[.slice PA m pc] W fun e w' => ∃ Q k, e = .returned (.slice Q m k) ∧ Sl w' Q (gv ps) ∧ Below W.heap.size W w'))
    (HCP : Hid (∀ B d Q q W, RowsAt GR W B us → Sl W Q (gv ps) → Calls Try.prog 72 #[.slice B n d, .agg #[.int .i64 a, .int .i64 b], .slice Q m q] W fun e w' => e = .returned (.tuple #[.int .i64 0, .int .i64 M]) ∧ Below W.heap.size W w'))
    (HU : Hid (∀ W, RowsAt GR W A us → Calls Try.prog 68 #[.slice A n c] W fun e w' => e = .returned (.int .i64 0) ∧ Below W.heap.size W w'))
    (HRM : Hid (∀ W, Calls Try.prog 69 #[.agg #[.int .i64 a, .int .i64 b]] W fun e w' => e = .returned (.int .i64 M) ∧ Below W.heap.size W w')) :
    Calls Try.prog 14 #[.slice A n c, .agg #[.int .i64 a, .int .i64 b], .slice PA m pc] w fun e w' => e = .returned (.bool true) ∧ Below w.heap.size w w' := by
  have hmd : decide ((8 : Int) < (m : Int)) = false := by rw [decide_eq_false_iff_not]; omega
  clear hm8
  have HS := hide hs; clear hs
  have HPS := hide hp; clear hp
  have HB := hide ((Below.refl w.heap.size w).alloc (Nat.le_refl _) (.cells #[.int .i64 a, .int .i64 b] 86))
  have HBX := hide (stay_new w 86 #[.int .i64 a, .int .i64 b])
  have HT := hide (Stay.triv (w.alloc (.cells #[.int .i64 a, .int .i64 b] 86)))
  go_enter Try.func14, Try.ntmps14
  go_wp2_with (first
    | (go_at_call 18; go_must (refine (awake_ok _).mono ?_; rintro e w1 ⟨rfl, hb⟩; replace HB := hide (Below.step HB.out hb); replace HBX := hide (HBX.out.step hb); replace HT := hide (HT.out.step hb); clear hb; replace q0 : w1.cell? ⟨w.heap.size, 0, none⟩ = some (.int .i64 a) := HBX.out.now.cell 0; replace q1 : w1.cell? ⟨w.heap.size, 1, none⟩ = some (.int .i64 b) := HBX.out.now.cell 1; simp only []))
    | (go_at_call 67; go_must (refine (HF.out _ (HS.out.bel gr_lasts HB.out)).mono ?_; rintro e w' ⟨rfl, rfl⟩; simp only [])))
  go_region_held3 (fun w' => w'.cell? ⟨w.heap.size, 0, none⟩ = some (.int .i64 a) ∧ w'.cell? ⟨w.heap.size, 1, none⟩ = some (.int .i64 b)) (first | (simp [go_sem]; done) | (simp [go_sem, *]; done) | exact ⟨q0, q1⟩ | go_keep)
    (first
      | (go_at_call 71; go_must (refine (HCU.out _ (HS.out.bel gr_lasts (below_drew HB.out))).mono ?_; rintro e w4 ⟨B4, k4, rfl, hr4, hb⟩; have HR4 := hide hr4; replace HB := hide (Below.step (below_drew HB.out) hb); replace HBX := hide (HBX.out.drew.step hb); replace HT := hide (HT.out.drew.step hb); clear hb hr4; replace q0 : w4.cell? ⟨w.heap.size, 0, none⟩ = some (.int .i64 a) := HBX.out.now.cell 0; replace q1 : w4.cell? ⟨w.heap.size, 1, none⟩ = some (.int .i64 b) := HBX.out.now.cell 1))
      | (go_at_call 70; go_must (refine (HMP.out _ _ _ HR4.out).mono ?_; rintro e w5 ⟨P5, k5, rfl, hp5, hb⟩; replace HT := hide ((HT.out.step hb).and (stay_sl hp5)); replace HB := hide (Below.step HB.out hb); replace HBX := hide (HBX.out.step hb); clear hb hp5 HR4; replace q0 : w5.cell? ⟨w.heap.size, 0, none⟩ = some (.int .i64 a) := HBX.out.now.cell 0; replace q1 : w5.cell? ⟨w.heap.size, 1, none⟩ = some (.int .i64 b) := HBX.out.now.cell 1)))
  go_wp2_with fail
  go_region_held3 (fun w' => w'.cell? ⟨w.heap.size, 0, none⟩ = some (.int .i64 a) ∧ w'.cell? ⟨w.heap.size, 1, none⟩ = some (.int .i64 b)) (first | (simp [go_sem]; done) | (simp [go_sem, *]; done) | exact ⟨q0, q1⟩ | go_keep)
    (first
      | (go_at_call 71; go_must (refine (HCU.out _ (HS.out.bel gr_lasts (below_drew HB.out))).mono ?_; rintro e w9 ⟨B9, k9, rfl, hr9, hb⟩; have HR9 := hide hr9; replace HB := hide (Below.step (below_drew HB.out) hb); replace HBX := hide (HBX.out.drew.step hb); replace HT := hide (HT.out.drew.step hb); clear hb hr9; replace q0 : w9.cell? ⟨w.heap.size, 0, none⟩ = some (.int .i64 a) := HBX.out.now.cell 0; replace q1 : w9.cell? ⟨w.heap.size, 1, none⟩ = some (.int .i64 b) := HBX.out.now.cell 1))
      | (go_at_call 73; go_must (refine (HCPA.out _ (HPS.out.bel HB.out)).mono ?_; rintro e w10 ⟨P10, k10, rfl, hp10, hb⟩; have HR10 := hide (HR9.out.bel gr_lasts hb); have HP10 := hide hp10; replace HB := hide (Below.step HB.out hb); replace HBX := hide (HBX.out.step hb); replace HT := hide (HT.out.step hb); clear hb hp10 HR9; replace q0 : w10.cell? ⟨w.heap.size, 0, none⟩ = some (.int .i64 a) := HBX.out.now.cell 0; replace q1 : w10.cell? ⟨w.heap.size, 1, none⟩ = some (.int .i64 b) := HBX.out.now.cell 1))
      | (go_at_call 72; go_must (refine (HCP.out _ _ _ _ _ HR10.out HP10.out).mono ?_; rintro e w11 ⟨rfl, hb⟩; replace HB := hide (Below.step HB.out hb); replace HBX := hide (HBX.out.step hb); replace HT := hide (HT.out.step hb); clear hb HR10 HP10; replace q0 : w11.cell? ⟨w.heap.size, 0, none⟩ = some (.int .i64 a) := HBX.out.now.cell 0; replace q1 : w11.cell? ⟨w.heap.size, 1, none⟩ = some (.int .i64 b) := HBX.out.now.cell 1)))
  go_wp2_with (first
    | (go_at_call 68; go_must (refine (HU.out _ (HS.out.bel gr_lasts HB.out)).mono ?_; rintro e w20 ⟨rfl, hb⟩; replace HB := hide (Below.step HB.out hb); replace HBX := hide (HBX.out.step hb); replace HT := hide (HT.out.step hb); clear hb; replace q0 : w20.cell? ⟨w.heap.size, 0, none⟩ = some (.int .i64 a) := HBX.out.now.cell 0; replace q1 : w20.cell? ⟨w.heap.size, 1, none⟩ = some (.int .i64 b) := HBX.out.now.cell 1; simp only []))
    | (go_at_call 69; go_must (refine (HRM.out _).mono ?_; rintro e w21 ⟨rfl, hb⟩; replace HB := hide (Below.step HB.out hb); replace HBX := hide (HBX.out.step hb); replace HT := hide (HT.out.step hb); clear hb; replace q0 : w21.cell? ⟨w.heap.size, 0, none⟩ = some (.int .i64 a) := HBX.out.now.cell 0; replace q1 : w21.cell? ⟨w.heap.size, 1, none⟩ = some (.int .i64 b) := HBX.out.now.cell 1; simp only [])))
  go_ret
  exact ⟨by first | rfl | (simp; done) | simp [*], HB.out⟩

set_option maxRecDepth 100000 in
set_option maxHeartbeats 4000000 in
theorem pairs_A_0 (A : Option Addr)
    (c : Nat) (us : List (List (Int × Int))) (a b : Int) (PA : Option Addr) (pc : Nat) (ps : List (Int × Int)) (w : World)
    (hs : RowsAt GR w A us) (hp : Sl w PA (gv ps)) (n m : Nat) (hm8 : m ≤ 8)
    (X : List (Int × Int))
    (VN : Int)
    (VE : Int)
    (hn2 : ¬ (1 : Int) < (n : Int))
    (HF : Hid (∀ W, RowsAt GR W A us → Calls Try.prog 67 #[.slice A n c] W fun e w' => e = .returned (.bool true) ∧ W = w'))
    (HCU : Hid (∀ W, RowsAt GR W A us → Calls Try.prog 71 #[.slice A n c] W fun e w' => ∃ Q k, e = .returned (.slice Q n k) ∧ RowsAt GR w' Q us ∧ Below W.heap.size W w'))
    (HMP : Hid (∀ B d W, RowsAt GR W B us → Calls Try.prog 70 #[.slice B n d, .agg #[.int .i64 a, .int .i64 b]] W fun e w' => ∃ P k, e = .returned (.tuple #[.slice P X.length k, .int .i64 0]) ∧ Sl w' P (gv X) ∧ Below W.heap.size W w'))
    (HCPA : Hid (∀ W, Sl W PA (gv ps) → Calls Try.prog 73 #[.slice PA m pc] W fun e w' => ∃ Q k, e = .returned (.slice Q m k) ∧ Sl w' Q (gv ps) ∧ Below W.heap.size W w'))
    (HCP : Hid (∀ B d Q q W, RowsAt GR W B us → Sl W Q (gv ps) → Calls Try.prog 72 #[.slice B n d, .agg #[.int .i64 a, .int .i64 b], .slice Q m q] W fun e w' => e = .returned (.tuple #[.int .i64 VN, .int .i64 VE]) ∧ Below W.heap.size W w'))
    (HU : Hid (∀ W, RowsAt GR W A us → Calls Try.prog 68 #[.slice A n c] W fun e w' => e = .returned (.int .i64 0) ∧ Below W.heap.size W w'))
    (HRM : Hid (∀ W, Calls Try.prog 69 #[.agg #[.int .i64 a, .int .i64 b]] W fun e w' => e = .returned (.int .i64 0) ∧ Below W.heap.size W w'))
    (HRC : Hid (∀ W, RowsAt GR W A us → Sl W PA (gv ps) → Calls Try.prog 77 #[.slice A n c, .agg #[.int .i64 a, .int .i64 b], .slice PA m pc] W fun e w' => e = .returned (.tuple #[.int .i64 VN, .int .i64 VE]) ∧ Below W.heap.size W w'))
    (HRP : Hid (∀ W, RowsAt GR W A us → Calls Try.prog 79 #[.slice A n c, .agg #[.int .i64 a, .int .i64 b]] W fun e w' => ∃ P k, e = .returned (.slice P X.length k) ∧ Sl w' P (gv X) ∧ Below W.heap.size W w'))
    (HSP : Hid (∀ P Q k k' W, Sl W P (gv X) → Sl W Q (gv X) → Calls Try.prog 78 #[.slice P X.length k, .slice Q X.length k'] W fun e w' => e = .returned (.bool true) ∧ ∃ m, w' = W.drewN m)) :
    Calls Try.prog 14 #[.slice A n c, .agg #[.int .i64 a, .int .i64 b], .slice PA m pc] w fun e w' => e = .returned (.bool true) ∧ Below w.heap.size w w' := by
  have hmd : decide ((8 : Int) < (m : Int)) = false := by rw [decide_eq_false_iff_not]; omega
  clear hm8
  have HS := hide hs; clear hs
  have HPS := hide hp; clear hp
  have HB := hide ((Below.refl w.heap.size w).alloc (Nat.le_refl _) (.cells #[.int .i64 a, .int .i64 b] 86))
  have HBX := hide (stay_new w 86 #[.int .i64 a, .int .i64 b])
  have HT := hide (Stay.triv (w.alloc (.cells #[.int .i64 a, .int .i64 b] 86)))
  go_enter Try.func14, Try.ntmps14
  go_wp2_with (first
    | (go_at_call 18; go_must (refine (awake_ok _).mono ?_; rintro e w1 ⟨rfl, hb⟩; replace HB := hide (Below.step HB.out hb); replace HBX := hide (HBX.out.step hb); replace HT := hide (HT.out.step hb); clear hb; replace q0 : w1.cell? ⟨w.heap.size, 0, none⟩ = some (.int .i64 a) := HBX.out.now.cell 0; replace q1 : w1.cell? ⟨w.heap.size, 1, none⟩ = some (.int .i64 b) := HBX.out.now.cell 1; simp only []))
    | (go_at_call 67; go_must (refine (HF.out _ (HS.out.bel gr_lasts HB.out)).mono ?_; rintro e w' ⟨rfl, rfl⟩; simp only [])))
  go_region_held3 (fun w' => w'.cell? ⟨w.heap.size, 0, none⟩ = some (.int .i64 a) ∧ w'.cell? ⟨w.heap.size, 1, none⟩ = some (.int .i64 b)) (first | (simp [go_sem]; done) | (simp [go_sem, *]; done) | exact ⟨q0, q1⟩ | go_keep)
    (first
      | (go_at_call 71; go_must (refine (HCU.out _ (HS.out.bel gr_lasts (below_drew HB.out))).mono ?_; rintro e w4 ⟨B4, k4, rfl, hr4, hb⟩; have HR4 := hide hr4; replace HB := hide (Below.step (below_drew HB.out) hb); replace HBX := hide (HBX.out.drew.step hb); replace HT := hide (HT.out.drew.step hb); clear hb hr4; replace q0 : w4.cell? ⟨w.heap.size, 0, none⟩ = some (.int .i64 a) := HBX.out.now.cell 0; replace q1 : w4.cell? ⟨w.heap.size, 1, none⟩ = some (.int .i64 b) := HBX.out.now.cell 1))
      | (go_at_call 70; go_must (refine (HMP.out _ _ _ HR4.out).mono ?_; rintro e w5 ⟨P5, k5, rfl, hp5, hb⟩; replace HT := hide ((HT.out.step hb).and (stay_sl hp5)); replace HB := hide (Below.step HB.out hb); replace HBX := hide (HBX.out.step hb); clear hb hp5 HR4; replace q0 : w5.cell? ⟨w.heap.size, 0, none⟩ = some (.int .i64 a) := HBX.out.now.cell 0; replace q1 : w5.cell? ⟨w.heap.size, 1, none⟩ = some (.int .i64 b) := HBX.out.now.cell 1)))
  go_wp2_with fail
  go_region_held3 (fun w' => w'.cell? ⟨w.heap.size, 0, none⟩ = some (.int .i64 a) ∧ w'.cell? ⟨w.heap.size, 1, none⟩ = some (.int .i64 b)) (first | (simp [go_sem]; done) | (simp [go_sem, *]; done) | exact ⟨q0, q1⟩ | go_keep)
    (first
      | (go_at_call 71; go_must (refine (HCU.out _ (HS.out.bel gr_lasts (below_drew HB.out))).mono ?_; rintro e w9 ⟨B9, k9, rfl, hr9, hb⟩; have HR9 := hide hr9; replace HB := hide (Below.step (below_drew HB.out) hb); replace HBX := hide (HBX.out.drew.step hb); replace HT := hide (HT.out.drew.step hb); clear hb hr9; replace q0 : w9.cell? ⟨w.heap.size, 0, none⟩ = some (.int .i64 a) := HBX.out.now.cell 0; replace q1 : w9.cell? ⟨w.heap.size, 1, none⟩ = some (.int .i64 b) := HBX.out.now.cell 1))
      | (go_at_call 73; go_must (refine (HCPA.out _ (HPS.out.bel HB.out)).mono ?_; rintro e w10 ⟨P10, k10, rfl, hp10, hb⟩; have HR10 := hide (HR9.out.bel gr_lasts hb); have HP10 := hide hp10; replace HB := hide (Below.step HB.out hb); replace HBX := hide (HBX.out.step hb); replace HT := hide (HT.out.step hb); clear hb hp10 HR9; replace q0 : w10.cell? ⟨w.heap.size, 0, none⟩ = some (.int .i64 a) := HBX.out.now.cell 0; replace q1 : w10.cell? ⟨w.heap.size, 1, none⟩ = some (.int .i64 b) := HBX.out.now.cell 1))
      | (go_at_call 72; go_must (refine (HCP.out _ _ _ _ _ HR10.out HP10.out).mono ?_; rintro e w11 ⟨rfl, hb⟩; replace HB := hide (Below.step HB.out hb); replace HBX := hide (HBX.out.step hb); replace HT := hide (HT.out.step hb); clear hb HR10 HP10; replace q0 : w11.cell? ⟨w.heap.size, 0, none⟩ = some (.int .i64 a) := HBX.out.now.cell 0; replace q1 : w11.cell? ⟨w.heap.size, 1, none⟩ = some (.int .i64 b) := HBX.out.now.cell 1)))
  go_wp2_with (first
    | (go_at_call 68; go_must (refine (HU.out _ (HS.out.bel gr_lasts HB.out)).mono ?_; rintro e w20 ⟨rfl, hb⟩; replace HB := hide (Below.step HB.out hb); replace HBX := hide (HBX.out.step hb); replace HT := hide (HT.out.step hb); clear hb; replace q0 : w20.cell? ⟨w.heap.size, 0, none⟩ = some (.int .i64 a) := HBX.out.now.cell 0; replace q1 : w20.cell? ⟨w.heap.size, 1, none⟩ = some (.int .i64 b) := HBX.out.now.cell 1; simp only []))
    | (go_at_call 69; go_must (refine (HRM.out _).mono ?_; rintro e w21 ⟨rfl, hb⟩; replace HB := hide (Below.step HB.out hb); replace HBX := hide (HBX.out.step hb); replace HT := hide (HT.out.step hb); clear hb; replace q0 : w21.cell? ⟨w.heap.size, 0, none⟩ = some (.int .i64 a) := HBX.out.now.cell 0; replace q1 : w21.cell? ⟨w.heap.size, 1, none⟩ = some (.int .i64 b) := HBX.out.now.cell 1; simp only []))
    | (go_at_call 77; go_must (refine (HRC.out _ (HS.out.bel gr_lasts HB.out) (HPS.out.bel HB.out)).mono ?_; rintro e w22 ⟨rfl, hb⟩; replace HB := hide (Below.step HB.out hb); replace HBX := hide (HBX.out.step hb); replace HT := hide (HT.out.step hb); clear hb; replace q0 : w22.cell? ⟨w.heap.size, 0, none⟩ = some (.int .i64 a) := HBX.out.now.cell 0; replace q1 : w22.cell? ⟨w.heap.size, 1, none⟩ = some (.int .i64 b) := HBX.out.now.cell 1; simp only []))
    | (go_at_call 79; go_must (refine (HRP.out _ (HS.out.bel gr_lasts HB.out)).mono ?_; rintro e w23 ⟨P23, k23, rfl, hp23, hb⟩; have HP23 := hide hp23; replace HB := hide (Below.step HB.out hb); replace HBX := hide (HBX.out.step hb); replace HT := hide (HT.out.step hb); clear hb hp23; replace q0 : w23.cell? ⟨w.heap.size, 0, none⟩ = some (.int .i64 a) := HBX.out.now.cell 0; replace q1 : w23.cell? ⟨w.heap.size, 1, none⟩ = some (.int .i64 b) := HBX.out.now.cell 1; simp only []))
    | (go_at_call 78; go_must (refine (HSP.out _ _ _ _ _ HT.out.now.2 HP23.out).mono ?_; rintro e w24 ⟨rfl, m24, rfl⟩; replace HB := hide (below_drewN HB.out m24); simp only [])))
  go_ret
  exact ⟨by first | rfl | (simp; done) | simp [*], HB.out⟩

set_option maxRecDepth 100000 in
set_option maxHeartbeats 4000000 in
theorem pairs_B1_D (bb oo : Nat) (B0 B1 : Option Addr) (k0 k1 n0 n1 : Nat) (g h : List (Int × Int))
    (c : Nat) (us : List (List (Int × Int))) (a b : Int) (PA : Option Addr) (pc : Nat) (ps : List (Int × Int)) (w : World)
    (hs : RowsAt GR w (some ⟨bb, oo, none⟩) us) (hp : Sl w PA (gv ps)) (n m : Nat) (hm8 : m ≤ 8)
    (D : Int)
    (M : Int)
    (T : Int)
    (hD : (D != 0) = true) (hD2 : (D == 0) = false)
    (hT : (T != 0) = true) (hT2 : (T == 0) = false)
    (hn2 : (1 : Int) < (n : Int))
    (HF : Hid (∀ W, RowsAt GR W (some ⟨bb, oo, none⟩) us → Calls Try.prog 67 #[.slice (some ⟨bb, oo, none⟩) n c] W fun e w' => e = .returned (.bool true) ∧ W = w'))
    (HCU : Hid (∀ W, RowsAt GR W (some ⟨bb, oo, none⟩) us → Calls Try.prog 71 #[.slice (some ⟨bb, oo, none⟩) n c] W fun e w' => ∃ Q k, e = .returned (.slice Q n k) ∧ RowsAt GR w' Q us ∧ Below W.heap.size W w'))
    (HMP : Hid (∀ B d W, RowsAt GR W B us → Calls Try.prog 70 #[.slice B n d, .agg #[.int .i64 a, .int .i64 b]] W fun e w' => ∃ P k, e = .returned (.tuple #[.slice P 0 k, .int .i64 D]) ∧ Sl w' P [] ∧ Below W.heap.size W w'))
    (HCPA : Hid (∀ W, Sl W PA (gv ps) → Calls Try.prog 73 #[.slice PA m pc] W fun e w' => ∃ Q k, e = .returned (.slice Q m k) ∧ Sl w' Q (gv ps) ∧ Below W.heap.size W w'))
    (HCP : Hid (∀ B d Q q W, RowsAt GR W B us → Sl W Q (gv ps) → Calls Try.prog 72 #[.slice B n d, .agg #[.int .i64 a, .int .i64 b], .slice Q m q] W fun e w' => e = .returned (.tuple #[.int .i64 0, .int .i64 D]) ∧ Below W.heap.size W w'))
    (HU : Hid (∀ W, RowsAt GR W (some ⟨bb, oo, none⟩) us → Calls Try.prog 68 #[.slice (some ⟨bb, oo, none⟩) n c] W fun e w' => e = .returned (.int .i64 D) ∧ Below W.heap.size W w'))
    (_HRM : Hid (∀ W, Calls Try.prog 69 #[.agg #[.int .i64 a, .int .i64 b]] W fun e w' => e = .returned (.int .i64 M) ∧ Below W.heap.size W w'))
    (r0 : w.cell? ⟨bb, oo, none⟩ = some (.slice B0 n0 k0)) (r1 : w.cell? ⟨bb, oo + 1, none⟩ = some (.slice B1 n1 k1)) (g0 : Sl w B0 (gv g)) (g1 : Sl w B1 (gv h))
    (HC0 : Hid (∀ W, Sl W B0 (gv g) → Calls Try.prog 53 #[.slice B0 n0 k0] W fun e w' => ∃ Q k, e = .returned (.slice Q n0 k) ∧ Sl w' Q (gv g) ∧ Below W.heap.size W w'))
    (HC1 : Hid (∀ W, Sl W B1 (gv h) → Calls Try.prog 53 #[.slice B1 n1 k1] W fun e w' => ∃ Q k, e = .returned (.slice Q n1 k) ∧ Sl w' Q (gv h) ∧ Below W.heap.size W w'))
    (HMS : Hid (∀ P Q k k' W, Sl W P (gv g) → Sl W Q (gv h) → Calls Try.prog 75 #[.slice P n0 k, .slice Q n1 k', .agg #[.int .i64 a, .int .i64 b]] W fun e w' => e = .returned (.tuple #[.bool false, .int .i64 T]) ∧ Below W.heap.size W w'))
    (HTE : Hid (∀ W, Sl W B0 (gv g) → Sl W B1 (gv h) → Calls Try.prog 51 #[.slice B0 n0 k0, .slice B1 n1 k1] W fun e w' => e = .returned (.int .i64 T) ∧ Below W.heap.size W w')) :
    Calls Try.prog 14 #[.slice (some ⟨bb, oo, none⟩) n c, .agg #[.int .i64 a, .int .i64 b], .slice PA m pc] w fun e w' => e = .returned (.bool true) ∧ Below w.heap.size w w' := by
  have hmd : decide ((8 : Int) < (m : Int)) = false := by rw [decide_eq_false_iff_not]; omega
  clear hm8
  have hn1 : (0 : Int) < (n : Int) := by omega
  have hn3 : 0 < n := by omega
  have hn4 : 1 < n := by omega
  have HS := hide hs; clear hs
  have HPS := hide hp; clear hp
  have R0 := hide r0; have R1 := hide r1; have G0 := hide g0; have G1 := hide g1; clear r0 r1 g0 g1
  have HB := hide ((Below.refl w.heap.size w).alloc (Nat.le_refl _) (.cells #[.int .i64 a, .int .i64 b] 86))
  have HBX := hide (stay_new w 86 #[.int .i64 a, .int .i64 b])
  have HT := hide (Stay.triv (w.alloc (.cells #[.int .i64 a, .int .i64 b] 86)))
  go_enter Try.func14, Try.ntmps14
  go_wp2_with (first
    | (go_at_call 18; go_must (refine (awake_ok _).mono ?_; rintro e w1 ⟨rfl, hb⟩; replace HB := hide (Below.step HB.out hb); replace HBX := hide (HBX.out.step hb); replace HT := hide (HT.out.step hb); clear hb; replace q0 : w1.cell? ⟨w.heap.size, 0, none⟩ = some (.int .i64 a) := HBX.out.now.cell 0; replace q1 : w1.cell? ⟨w.heap.size, 1, none⟩ = some (.int .i64 b) := HBX.out.now.cell 1; simp only []))
    | (go_at_call 67; go_must (refine (HF.out _ (HS.out.bel gr_lasts HB.out)).mono ?_; rintro e w' ⟨rfl, rfl⟩; simp only [])))
  go_region_held3 (fun w' => w'.cell? ⟨w.heap.size, 0, none⟩ = some (.int .i64 a) ∧ w'.cell? ⟨w.heap.size, 1, none⟩ = some (.int .i64 b)) (first | (simp [go_sem]; done) | (simp [go_sem, *]; done) | exact ⟨q0, q1⟩ | go_keep)
    (first
      | (go_at_call 71; go_must (refine (HCU.out _ (HS.out.bel gr_lasts (below_drew HB.out))).mono ?_; rintro e w4 ⟨B4, k4, rfl, hr4, hb⟩; have HR4 := hide hr4; replace HB := hide (Below.step (below_drew HB.out) hb); replace HBX := hide (HBX.out.drew.step hb); replace HT := hide (HT.out.drew.step hb); clear hb hr4; replace q0 : w4.cell? ⟨w.heap.size, 0, none⟩ = some (.int .i64 a) := HBX.out.now.cell 0; replace q1 : w4.cell? ⟨w.heap.size, 1, none⟩ = some (.int .i64 b) := HBX.out.now.cell 1))
      | (go_at_call 70; go_must (refine (HMP.out _ _ _ HR4.out).mono ?_; rintro e w5 ⟨P5, k5, rfl, hp5, hb⟩; replace HT := hide ((HT.out.step hb).and (stay_sl hp5)); replace HB := hide (Below.step HB.out hb); replace HBX := hide (HBX.out.step hb); clear hb hp5 HR4; replace q0 : w5.cell? ⟨w.heap.size, 0, none⟩ = some (.int .i64 a) := HBX.out.now.cell 0; replace q1 : w5.cell? ⟨w.heap.size, 1, none⟩ = some (.int .i64 b) := HBX.out.now.cell 1)))
  go_wp2_with fail
  go_region_held3 (fun w' => w'.cell? ⟨w.heap.size, 0, none⟩ = some (.int .i64 a) ∧ w'.cell? ⟨w.heap.size, 1, none⟩ = some (.int .i64 b)) (first | (simp [go_sem]; done) | (simp [go_sem, *]; done) | exact ⟨q0, q1⟩ | go_keep)
    (first
      | (go_at_call 71; go_must (refine (HCU.out _ (HS.out.bel gr_lasts (below_drew HB.out))).mono ?_; rintro e w9 ⟨B9, k9, rfl, hr9, hb⟩; have HR9 := hide hr9; replace HB := hide (Below.step (below_drew HB.out) hb); replace HBX := hide (HBX.out.drew.step hb); replace HT := hide (HT.out.drew.step hb); clear hb hr9; replace q0 : w9.cell? ⟨w.heap.size, 0, none⟩ = some (.int .i64 a) := HBX.out.now.cell 0; replace q1 : w9.cell? ⟨w.heap.size, 1, none⟩ = some (.int .i64 b) := HBX.out.now.cell 1))
      | (go_at_call 73; go_must (refine (HCPA.out _ (HPS.out.bel HB.out)).mono ?_; rintro e w10 ⟨P10, k10, rfl, hp10, hb⟩; have HR10 := hide (HR9.out.bel gr_lasts hb); have HP10 := hide hp10; replace HB := hide (Below.step HB.out hb); replace HBX := hide (HBX.out.step hb); replace HT := hide (HT.out.step hb); clear hb hp10 HR9; replace q0 : w10.cell? ⟨w.heap.size, 0, none⟩ = some (.int .i64 a) := HBX.out.now.cell 0; replace q1 : w10.cell? ⟨w.heap.size, 1, none⟩ = some (.int .i64 b) := HBX.out.now.cell 1))
      | (go_at_call 72; go_must (refine (HCP.out _ _ _ _ _ HR10.out HP10.out).mono ?_; rintro e w11 ⟨rfl, hb⟩; replace HB := hide (Below.step HB.out hb); replace HBX := hide (HBX.out.step hb); replace HT := hide (HT.out.step hb); clear hb HR10 HP10; replace q0 : w11.cell? ⟨w.heap.size, 0, none⟩ = some (.int .i64 a) := HBX.out.now.cell 0; replace q1 : w11.cell? ⟨w.heap.size, 1, none⟩ = some (.int .i64 b) := HBX.out.now.cell 1; replace q2 : w11.cell? ⟨bb, oo, none⟩ = some (.slice B0 n0 k0) := HB.out.keeps R0.out; replace q3 : w11.cell? ⟨bb, oo + 1, none⟩ = some (.slice B1 n1 k1) := HB.out.keeps R1.out)))
  go_wp2_with fail
  go_region_held3 (fun w' => w'.cell? ⟨w.heap.size, 0, none⟩ = some (.int .i64 a) ∧ w'.cell? ⟨w.heap.size, 1, none⟩ = some (.int .i64 b) ∧ w'.cell? ⟨bb, oo, none⟩ = some (.slice B0 n0 k0) ∧ w'.cell? ⟨bb, oo + 1, none⟩ = some (.slice B1 n1 k1)) (first | (simp [go_sem]; done) | (simp [go_sem, *]; done) | exact ⟨q0, q1, q2, q3⟩ | go_keep)
    (first
      | (go_at_call 53; have qq := HG1; go_must (refine (HC1.out _ (G1.out.bel HB.out)).mono ?_; rintro e w13 ⟨P13, k13, rfl, hp13, hb⟩; have HG2 := hide (HG1.out.bel hb); have HH2 := hide hp13; replace HB := hide (Below.step HB.out hb); replace HBX := hide (HBX.out.step hb); replace HT := hide (HT.out.step hb); clear hb hp13 qq HG1; replace q0 : w13.cell? ⟨w.heap.size, 0, none⟩ = some (.int .i64 a) := HBX.out.now.cell 0; replace q1 : w13.cell? ⟨w.heap.size, 1, none⟩ = some (.int .i64 b) := HBX.out.now.cell 1; replace q2 : w13.cell? ⟨bb, oo, none⟩ = some (.slice B0 n0 k0) := HB.out.keeps R0.out; replace q3 : w13.cell? ⟨bb, oo + 1, none⟩ = some (.slice B1 n1 k1) := HB.out.keeps R1.out))
      | (go_at_call 53; go_must (refine (HC0.out _ (G0.out.bel (below_drew HB.out))).mono ?_; rintro e w12 ⟨P12, k12, rfl, hp12, hb⟩; have HG1 := hide hp12; replace HB := hide (Below.step (below_drew HB.out) hb); replace HBX := hide (HBX.out.drew.step hb); replace HT := hide (HT.out.drew.step hb); clear hb hp12; replace q0 : w12.cell? ⟨w.heap.size, 0, none⟩ = some (.int .i64 a) := HBX.out.now.cell 0; replace q1 : w12.cell? ⟨w.heap.size, 1, none⟩ = some (.int .i64 b) := HBX.out.now.cell 1; replace q2 : w12.cell? ⟨bb, oo, none⟩ = some (.slice B0 n0 k0) := HB.out.keeps R0.out; replace q3 : w12.cell? ⟨bb, oo + 1, none⟩ = some (.slice B1 n1 k1) := HB.out.keeps R1.out))
      | (go_at_call 75; go_must (refine (HMS.out _ _ _ _ _ HG2.out HH2.out).mono ?_; rintro e w14 ⟨rfl, hb⟩; replace HB := hide (Below.step HB.out hb); replace HBX := hide (HBX.out.step hb); replace HT := hide (HT.out.step hb); clear hb HG2 HH2; replace q0 : w14.cell? ⟨w.heap.size, 0, none⟩ = some (.int .i64 a) := HBX.out.now.cell 0; replace q1 : w14.cell? ⟨w.heap.size, 1, none⟩ = some (.int .i64 b) := HBX.out.now.cell 1; replace q2 : w14.cell? ⟨bb, oo, none⟩ = some (.slice B0 n0 k0) := HB.out.keeps R0.out; replace q3 : w14.cell? ⟨bb, oo + 1, none⟩ = some (.slice B1 n1 k1) := HB.out.keeps R1.out)))
  go_wp2_with fail
  go_region_held3 (fun w' => w'.cell? ⟨w.heap.size, 0, none⟩ = some (.int .i64 a) ∧ w'.cell? ⟨w.heap.size, 1, none⟩ = some (.int .i64 b) ∧ w'.cell? ⟨bb, oo, none⟩ = some (.slice B0 n0 k0) ∧ w'.cell? ⟨bb, oo + 1, none⟩ = some (.slice B1 n1 k1)) (first | (simp [go_sem]; done) | (simp [go_sem, *]; done) | exact ⟨q0, q1, q2, q3⟩ | go_keep)
    (first | (go_at_call 51; go_must (refine (HTE.out _ (G0.out.bel (below_drew HB.out)) (G1.out.bel (below_drew HB.out))).mono ?_; rintro e w15 ⟨rfl, hb⟩; replace HB := hide (Below.step (below_drew HB.out) hb); replace HBX := hide (HBX.out.drew.step hb); replace HT := hide (HT.out.drew.step hb); clear hb; replace q0 : w15.cell? ⟨w.heap.size, 0, none⟩ = some (.int .i64 a) := HBX.out.now.cell 0; replace q1 : w15.cell? ⟨w.heap.size, 1, none⟩ = some (.int .i64 b) := HBX.out.now.cell 1; replace q2 : w15.cell? ⟨bb, oo, none⟩ = some (.slice B0 n0 k0) := HB.out.keeps R0.out; replace q3 : w15.cell? ⟨bb, oo + 1, none⟩ = some (.slice B1 n1 k1) := HB.out.keeps R1.out)))
  go_wp2_with fail
  go_quiet (fail)
  replace HB := hide (below_drewN HB.out nq)
  replace HBX := hide (HBX.out.drewN nq)
  replace HT := hide (HT.out.drewN nq)
  clear q0 q1 q2 q3
  go_wp2_with (first
    | (go_at_call 68; go_must (refine (HU.out _ (HS.out.bel gr_lasts HB.out)).mono ?_; rintro e w20 ⟨rfl, hb⟩; replace HB := hide (Below.step HB.out hb); replace HBX := hide (HBX.out.step hb); replace HT := hide (HT.out.step hb); clear hb; replace q0 : w20.cell? ⟨w.heap.size, 0, none⟩ = some (.int .i64 a) := HBX.out.now.cell 0; replace q1 : w20.cell? ⟨w.heap.size, 1, none⟩ = some (.int .i64 b) := HBX.out.now.cell 1; simp only [])))
  go_ret
  exact ⟨by first | rfl | (simp; done) | simp [*], HB.out⟩

set_option maxRecDepth 100000 in
set_option maxHeartbeats 4000000 in
theorem pairs_B2_D (bb oo : Nat) (B0 B1 : Option Addr) (k0 k1 n0 n1 : Nat) (g h : List (Int × Int))
    (c : Nat) (us : List (List (Int × Int))) (a b : Int) (PA : Option Addr) (pc : Nat) (ps : List (Int × Int)) (w : World)
    (hs : RowsAt GR w (some ⟨bb, oo, none⟩) us) (hp : Sl w PA (gv ps)) (n m : Nat) (hm8 : m ≤ 8)
    (D : Int)
    (M : Int)
    (hD : (D != 0) = true) (hD2 : (D == 0) = false)
    (hM : (M != 0) = true) (hM2 : (M == 0) = false)
    (hn2 : (1 : Int) < (n : Int))
    (HF : Hid (∀ W, RowsAt GR W (some ⟨bb, oo, none⟩) us → Calls Try.prog 67 #[.slice (some ⟨bb, oo, none⟩) n c] W fun e w' => e = .returned (.bool true) ∧ W = w'))
    (HCU : Hid (∀ W, RowsAt GR W (some ⟨bb, oo, none⟩) us → Calls Try.prog 71 #[.slice (some ⟨bb, oo, none⟩) n c] W fun e w' => ∃ Q k, e = .returned (.slice Q n k) ∧ RowsAt GR w' Q us ∧ Below W.heap.size W w'))
    (HMP : Hid (∀ B d W, RowsAt GR W B us → Calls Try.prog 70 #[.slice B n d, .agg #[.int .i64 a, .int .i64 b]] W fun e w' => ∃ P k, e = .returned (.tuple #[.slice P 0 k, .int .i64 D]) ∧ Sl w' P [] ∧ Below W.heap.size W w'))
    (HCPA : Hid (∀ W, Sl W PA (gv ps) → Calls Try.prog 73 #[.slice PA m pc] W fun e w' => ∃ Q k, e = .returned (.slice Q m k) ∧ Sl w' Q (gv ps) ∧ Below W.heap.size W w'))
    (HCP : Hid (∀ B d Q q W, RowsAt GR W B us → Sl W Q (gv ps) → Calls Try.prog 72 #[.slice B n d, .agg #[.int .i64 a, .int .i64 b], .slice Q m q] W fun e w' => e = .returned (.tuple #[.int .i64 0, .int .i64 D]) ∧ Below W.heap.size W w'))
    (HU : Hid (∀ W, RowsAt GR W (some ⟨bb, oo, none⟩) us → Calls Try.prog 68 #[.slice (some ⟨bb, oo, none⟩) n c] W fun e w' => e = .returned (.int .i64 D) ∧ Below W.heap.size W w'))
    (HRM : Hid (∀ W, Calls Try.prog 69 #[.agg #[.int .i64 a, .int .i64 b]] W fun e w' => e = .returned (.int .i64 M) ∧ Below W.heap.size W w'))
    (r0 : w.cell? ⟨bb, oo, none⟩ = some (.slice B0 n0 k0)) (r1 : w.cell? ⟨bb, oo + 1, none⟩ = some (.slice B1 n1 k1)) (g0 : Sl w B0 (gv g)) (g1 : Sl w B1 (gv h))
    (HC0 : Hid (∀ W, Sl W B0 (gv g) → Calls Try.prog 53 #[.slice B0 n0 k0] W fun e w' => ∃ Q k, e = .returned (.slice Q n0 k) ∧ Sl w' Q (gv g) ∧ Below W.heap.size W w'))
    (HC1 : Hid (∀ W, Sl W B1 (gv h) → Calls Try.prog 53 #[.slice B1 n1 k1] W fun e w' => ∃ Q k, e = .returned (.slice Q n1 k) ∧ Sl w' Q (gv h) ∧ Below W.heap.size W w'))
    (HMS : Hid (∀ P Q k k' W, Sl W P (gv g) → Sl W Q (gv h) → Calls Try.prog 75 #[.slice P n0 k, .slice Q n1 k', .agg #[.int .i64 a, .int .i64 b]] W fun e w' => e = .returned (.tuple #[.bool false, .int .i64 M]) ∧ Below W.heap.size W w'))
    (HTE : Hid (∀ W, Sl W B0 (gv g) → Sl W B1 (gv h) → Calls Try.prog 51 #[.slice B0 n0 k0, .slice B1 n1 k1] W fun e w' => e = .returned (.int .i64 0) ∧ Below W.heap.size W w')) :
    Calls Try.prog 14 #[.slice (some ⟨bb, oo, none⟩) n c, .agg #[.int .i64 a, .int .i64 b], .slice PA m pc] w fun e w' => e = .returned (.bool true) ∧ Below w.heap.size w w' := by
  have hmd : decide ((8 : Int) < (m : Int)) = false := by rw [decide_eq_false_iff_not]; omega
  clear hm8
  have hn1 : (0 : Int) < (n : Int) := by omega
  have hn3 : 0 < n := by omega
  have hn4 : 1 < n := by omega
  have HS := hide hs; clear hs
  have HPS := hide hp; clear hp
  have R0 := hide r0; have R1 := hide r1; have G0 := hide g0; have G1 := hide g1; clear r0 r1 g0 g1
  have HB := hide ((Below.refl w.heap.size w).alloc (Nat.le_refl _) (.cells #[.int .i64 a, .int .i64 b] 86))
  have HBX := hide (stay_new w 86 #[.int .i64 a, .int .i64 b])
  have HT := hide (Stay.triv (w.alloc (.cells #[.int .i64 a, .int .i64 b] 86)))
  go_enter Try.func14, Try.ntmps14
  go_wp2_with (first
    | (go_at_call 18; go_must (refine (awake_ok _).mono ?_; rintro e w1 ⟨rfl, hb⟩; replace HB := hide (Below.step HB.out hb); replace HBX := hide (HBX.out.step hb); replace HT := hide (HT.out.step hb); clear hb; replace q0 : w1.cell? ⟨w.heap.size, 0, none⟩ = some (.int .i64 a) := HBX.out.now.cell 0; replace q1 : w1.cell? ⟨w.heap.size, 1, none⟩ = some (.int .i64 b) := HBX.out.now.cell 1; simp only []))
    | (go_at_call 67; go_must (refine (HF.out _ (HS.out.bel gr_lasts HB.out)).mono ?_; rintro e w' ⟨rfl, rfl⟩; simp only [])))
  go_region_held3 (fun w' => w'.cell? ⟨w.heap.size, 0, none⟩ = some (.int .i64 a) ∧ w'.cell? ⟨w.heap.size, 1, none⟩ = some (.int .i64 b)) (first | (simp [go_sem]; done) | (simp [go_sem, *]; done) | exact ⟨q0, q1⟩ | go_keep)
    (first
      | (go_at_call 71; go_must (refine (HCU.out _ (HS.out.bel gr_lasts (below_drew HB.out))).mono ?_; rintro e w4 ⟨B4, k4, rfl, hr4, hb⟩; have HR4 := hide hr4; replace HB := hide (Below.step (below_drew HB.out) hb); replace HBX := hide (HBX.out.drew.step hb); replace HT := hide (HT.out.drew.step hb); clear hb hr4; replace q0 : w4.cell? ⟨w.heap.size, 0, none⟩ = some (.int .i64 a) := HBX.out.now.cell 0; replace q1 : w4.cell? ⟨w.heap.size, 1, none⟩ = some (.int .i64 b) := HBX.out.now.cell 1))
      | (go_at_call 70; go_must (refine (HMP.out _ _ _ HR4.out).mono ?_; rintro e w5 ⟨P5, k5, rfl, hp5, hb⟩; replace HT := hide ((HT.out.step hb).and (stay_sl hp5)); replace HB := hide (Below.step HB.out hb); replace HBX := hide (HBX.out.step hb); clear hb hp5 HR4; replace q0 : w5.cell? ⟨w.heap.size, 0, none⟩ = some (.int .i64 a) := HBX.out.now.cell 0; replace q1 : w5.cell? ⟨w.heap.size, 1, none⟩ = some (.int .i64 b) := HBX.out.now.cell 1)))
  go_wp2_with fail
  go_region_held3 (fun w' => w'.cell? ⟨w.heap.size, 0, none⟩ = some (.int .i64 a) ∧ w'.cell? ⟨w.heap.size, 1, none⟩ = some (.int .i64 b)) (first | (simp [go_sem]; done) | (simp [go_sem, *]; done) | exact ⟨q0, q1⟩ | go_keep)
    (first
      | (go_at_call 71; go_must (refine (HCU.out _ (HS.out.bel gr_lasts (below_drew HB.out))).mono ?_; rintro e w9 ⟨B9, k9, rfl, hr9, hb⟩; have HR9 := hide hr9; replace HB := hide (Below.step (below_drew HB.out) hb); replace HBX := hide (HBX.out.drew.step hb); replace HT := hide (HT.out.drew.step hb); clear hb hr9; replace q0 : w9.cell? ⟨w.heap.size, 0, none⟩ = some (.int .i64 a) := HBX.out.now.cell 0; replace q1 : w9.cell? ⟨w.heap.size, 1, none⟩ = some (.int .i64 b) := HBX.out.now.cell 1))
      | (go_at_call 73; go_must (refine (HCPA.out _ (HPS.out.bel HB.out)).mono ?_; rintro e w10 ⟨P10, k10, rfl, hp10, hb⟩; have HR10 := hide (HR9.out.bel gr_lasts hb); have HP10 := hide hp10; replace HB := hide (Below.step HB.out hb); replace HBX := hide (HBX.out.step hb); replace HT := hide (HT.out.step hb); clear hb hp10 HR9; replace q0 : w10.cell? ⟨w.heap.size, 0, none⟩ = some (.int .i64 a) := HBX.out.now.cell 0; replace q1 : w10.cell? ⟨w.heap.size, 1, none⟩ = some (.int .i64 b) := HBX.out.now.cell 1))
      | (go_at_call 72; go_must (refine (HCP.out _ _ _ _ _ HR10.out HP10.out).mono ?_; rintro e w11 ⟨rfl, hb⟩; replace HB := hide (Below.step HB.out hb); replace HBX := hide (HBX.out.step hb); replace HT := hide (HT.out.step hb); clear hb HR10 HP10; replace q0 : w11.cell? ⟨w.heap.size, 0, none⟩ = some (.int .i64 a) := HBX.out.now.cell 0; replace q1 : w11.cell? ⟨w.heap.size, 1, none⟩ = some (.int .i64 b) := HBX.out.now.cell 1; replace q2 : w11.cell? ⟨bb, oo, none⟩ = some (.slice B0 n0 k0) := HB.out.keeps R0.out; replace q3 : w11.cell? ⟨bb, oo + 1, none⟩ = some (.slice B1 n1 k1) := HB.out.keeps R1.out)))
  go_wp2_with fail
  go_region_held3 (fun w' => w'.cell? ⟨w.heap.size, 0, none⟩ = some (.int .i64 a) ∧ w'.cell? ⟨w.heap.size, 1, none⟩ = some (.int .i64 b) ∧ w'.cell? ⟨bb, oo, none⟩ = some (.slice B0 n0 k0) ∧ w'.cell? ⟨bb, oo + 1, none⟩ = some (.slice B1 n1 k1)) (first | (simp [go_sem]; done) | (simp [go_sem, *]; done) | exact ⟨q0, q1, q2, q3⟩ | go_keep)
    (first
      | (go_at_call 53; have qq := HG1; go_must (refine (HC1.out _ (G1.out.bel HB.out)).mono ?_; rintro e w13 ⟨P13, k13, rfl, hp13, hb⟩; have HG2 := hide (HG1.out.bel hb); have HH2 := hide hp13; replace HB := hide (Below.step HB.out hb); replace HBX := hide (HBX.out.step hb); replace HT := hide (HT.out.step hb); clear hb hp13 qq HG1; replace q0 : w13.cell? ⟨w.heap.size, 0, none⟩ = some (.int .i64 a) := HBX.out.now.cell 0; replace q1 : w13.cell? ⟨w.heap.size, 1, none⟩ = some (.int .i64 b) := HBX.out.now.cell 1; replace q2 : w13.cell? ⟨bb, oo, none⟩ = some (.slice B0 n0 k0) := HB.out.keeps R0.out; replace q3 : w13.cell? ⟨bb, oo + 1, none⟩ = some (.slice B1 n1 k1) := HB.out.keeps R1.out))
      | (go_at_call 53; go_must (refine (HC0.out _ (G0.out.bel (below_drew HB.out))).mono ?_; rintro e w12 ⟨P12, k12, rfl, hp12, hb⟩; have HG1 := hide hp12; replace HB := hide (Below.step (below_drew HB.out) hb); replace HBX := hide (HBX.out.drew.step hb); replace HT := hide (HT.out.drew.step hb); clear hb hp12; replace q0 : w12.cell? ⟨w.heap.size, 0, none⟩ = some (.int .i64 a) := HBX.out.now.cell 0; replace q1 : w12.cell? ⟨w.heap.size, 1, none⟩ = some (.int .i64 b) := HBX.out.now.cell 1; replace q2 : w12.cell? ⟨bb, oo, none⟩ = some (.slice B0 n0 k0) := HB.out.keeps R0.out; replace q3 : w12.cell? ⟨bb, oo + 1, none⟩ = some (.slice B1 n1 k1) := HB.out.keeps R1.out))
      | (go_at_call 75; go_must (refine (HMS.out _ _ _ _ _ HG2.out HH2.out).mono ?_; rintro e w14 ⟨rfl, hb⟩; replace HB := hide (Below.step HB.out hb); replace HBX := hide (HBX.out.step hb); replace HT := hide (HT.out.step hb); clear hb HG2 HH2; replace q0 : w14.cell? ⟨w.heap.size, 0, none⟩ = some (.int .i64 a) := HBX.out.now.cell 0; replace q1 : w14.cell? ⟨w.heap.size, 1, none⟩ = some (.int .i64 b) := HBX.out.now.cell 1; replace q2 : w14.cell? ⟨bb, oo, none⟩ = some (.slice B0 n0 k0) := HB.out.keeps R0.out; replace q3 : w14.cell? ⟨bb, oo + 1, none⟩ = some (.slice B1 n1 k1) := HB.out.keeps R1.out)))
  go_wp2_with fail
  go_region_held3 (fun w' => w'.cell? ⟨w.heap.size, 0, none⟩ = some (.int .i64 a) ∧ w'.cell? ⟨w.heap.size, 1, none⟩ = some (.int .i64 b) ∧ w'.cell? ⟨bb, oo, none⟩ = some (.slice B0 n0 k0) ∧ w'.cell? ⟨bb, oo + 1, none⟩ = some (.slice B1 n1 k1)) (first | (simp [go_sem]; done) | (simp [go_sem, *]; done) | exact ⟨q0, q1, q2, q3⟩ | go_keep)
    (first | (go_at_call 51; go_must (refine (HTE.out _ (G0.out.bel (below_drew HB.out)) (G1.out.bel (below_drew HB.out))).mono ?_; rintro e w15 ⟨rfl, hb⟩; replace HB := hide (Below.step (below_drew HB.out) hb); replace HBX := hide (HBX.out.drew.step hb); replace HT := hide (HT.out.drew.step hb); clear hb; replace q0 : w15.cell? ⟨w.heap.size, 0, none⟩ = some (.int .i64 a) := HBX.out.now.cell 0; replace q1 : w15.cell? ⟨w.heap.size, 1, none⟩ = some (.int .i64 b) := HBX.out.now.cell 1; replace q2 : w15.cell? ⟨bb, oo, none⟩ = some (.slice B0 n0 k0) := HB.out.keeps R0.out; replace q3 : w15.cell? ⟨bb, oo + 1, none⟩ = some (.slice B1 n1 k1) := HB.out.keeps R1.out)))
  go_wp2_with (go_at_call 69; go_must (refine (HRM.out _).mono ?_; rintro e w16 ⟨rfl, hb⟩; replace HB := hide (Below.step HB.out hb); replace HBX := hide (HBX.out.step hb); replace HT := hide (HT.out.step hb); clear hb; replace q0 : w16.cell? ⟨w.heap.size, 0, none⟩ = some (.int .i64 a) := HBX.out.now.cell 0; replace q1 : w16.cell? ⟨w.heap.size, 1, none⟩ = some (.int .i64 b) := HBX.out.now.cell 1; replace q2 : w16.cell? ⟨bb, oo, none⟩ = some (.slice B0 n0 k0) := HB.out.keeps R0.out; replace q3 : w16.cell? ⟨bb, oo + 1, none⟩ = some (.slice B1 n1 k1) := HB.out.keeps R1.out; simp only []))
  go_quiet (fail)
  replace HB := hide (below_drewN HB.out nq)
  replace HBX := hide (HBX.out.drewN nq)
  replace HT := hide (HT.out.drewN nq)
  clear q0 q1 q2 q3
  go_wp2_with (first
    | (go_at_call 68; go_must (refine (HU.out _ (HS.out.bel gr_lasts HB.out)).mono ?_; rintro e w20 ⟨rfl, hb⟩; replace HB := hide (Below.step HB.out hb); replace HBX := hide (HBX.out.step hb); replace HT := hide (HT.out.step hb); clear hb; replace q0 : w20.cell? ⟨w.heap.size, 0, none⟩ = some (.int .i64 a) := HBX.out.now.cell 0; replace q1 : w20.cell? ⟨w.heap.size, 1, none⟩ = some (.int .i64 b) := HBX.out.now.cell 1; simp only [])))
  go_ret
  exact ⟨by first | rfl | (simp; done) | simp [*], HB.out⟩

set_option maxRecDepth 100000 in
set_option maxHeartbeats 4000000 in
theorem pairs_B2_M (bb oo : Nat) (B0 B1 : Option Addr) (k0 k1 n0 n1 : Nat) (g h : List (Int × Int))
    (c : Nat) (us : List (List (Int × Int))) (a b : Int) (PA : Option Addr) (pc : Nat) (ps : List (Int × Int)) (w : World)
    (hs : RowsAt GR w (some ⟨bb, oo, none⟩) us) (hp : Sl w PA (gv ps)) (n m : Nat) (hm8 : m ≤ 8)
    (M : Int)
    (hM : (M != 0) = true) (hM2 : (M == 0) = false)
    (hn2 : (1 : Int) < (n : Int))
    (HF : Hid (∀ W, RowsAt GR W (some ⟨bb, oo, none⟩) us → Calls Try.prog 67 #[.slice (some ⟨bb, oo, none⟩) n c] W fun e w' => e = .returned (.bool true) ∧ W = w'))
    (HCU : Hid (∀ W, RowsAt GR W (some ⟨bb, oo, none⟩) us → Calls Try.prog 71 #[.slice (some ⟨bb, oo, none⟩) n c] W fun e w' => ∃ Q k, e = .returned (.slice Q n k) ∧ RowsAt GR w' Q us ∧ Below W.heap.size W w'))
    (HMP : Hid (∀ B d W, RowsAt GR W B us → Calls Try.prog 70 #[.slice B n d, .agg #[.int .i64 a, .int .i64 b]] W fun e w' => ∃ P k, e = .returned (.tuple #[.slice P 0 k, .int .i64 M]) ∧ Sl w' P [] ∧ Below W.heap.size W w'))
    (HCPA : Hid (∀ W, Sl W PA (gv ps) → Calls Try.prog 73 #[.slice PA m pc] W fun e w' => ∃ Q k, e = .returned (.slice Q m k) ∧ Sl w' Q (gv ps) ∧ Below W.heap.size W w'))
    (HCP : Hid (∀ B d Q q W, RowsAt GR W B us → Sl W Q (gv ps) → Calls Try.prog 72 #[.slice B n d, .agg #[.int .i64 a, .int .i64 b], .slice Q m q] W fun e w' => e = .returned (.tuple #[.int .i64 0, .int .i64 M]) ∧ Below W.heap.size W w'))
    (HU : Hid (∀ W, RowsAt GR W (some ⟨bb, oo, none⟩) us → Calls Try.prog 68 #[.slice (some ⟨bb, oo, none⟩) n c] W fun e w' => e = .returned (.int .i64 0) ∧ Below W.heap.size W w'))
    (HRM : Hid (∀ W, Calls Try.prog 69 #[.agg #[.int .i64 a, .int .i64 b]] W fun e w' => e = .returned (.int .i64 M) ∧ Below W.heap.size W w'))
    (r0 : w.cell? ⟨bb, oo, none⟩ = some (.slice B0 n0 k0)) (r1 : w.cell? ⟨bb, oo + 1, none⟩ = some (.slice B1 n1 k1)) (g0 : Sl w B0 (gv g)) (g1 : Sl w B1 (gv h))
    (HC0 : Hid (∀ W, Sl W B0 (gv g) → Calls Try.prog 53 #[.slice B0 n0 k0] W fun e w' => ∃ Q k, e = .returned (.slice Q n0 k) ∧ Sl w' Q (gv g) ∧ Below W.heap.size W w'))
    (HC1 : Hid (∀ W, Sl W B1 (gv h) → Calls Try.prog 53 #[.slice B1 n1 k1] W fun e w' => ∃ Q k, e = .returned (.slice Q n1 k) ∧ Sl w' Q (gv h) ∧ Below W.heap.size W w'))
    (HMS : Hid (∀ P Q k k' W, Sl W P (gv g) → Sl W Q (gv h) → Calls Try.prog 75 #[.slice P n0 k, .slice Q n1 k', .agg #[.int .i64 a, .int .i64 b]] W fun e w' => e = .returned (.tuple #[.bool false, .int .i64 M]) ∧ Below W.heap.size W w'))
    (HTE : Hid (∀ W, Sl W B0 (gv g) → Sl W B1 (gv h) → Calls Try.prog 51 #[.slice B0 n0 k0, .slice B1 n1 k1] W fun e w' => e = .returned (.int .i64 0) ∧ Below W.heap.size W w')) :
    Calls Try.prog 14 #[.slice (some ⟨bb, oo, none⟩) n c, .agg #[.int .i64 a, .int .i64 b], .slice PA m pc] w fun e w' => e = .returned (.bool true) ∧ Below w.heap.size w w' := by
  have hmd : decide ((8 : Int) < (m : Int)) = false := by rw [decide_eq_false_iff_not]; omega
  clear hm8
  have hn1 : (0 : Int) < (n : Int) := by omega
  have hn3 : 0 < n := by omega
  have hn4 : 1 < n := by omega
  have HS := hide hs; clear hs
  have HPS := hide hp; clear hp
  have R0 := hide r0; have R1 := hide r1; have G0 := hide g0; have G1 := hide g1; clear r0 r1 g0 g1
  have HB := hide ((Below.refl w.heap.size w).alloc (Nat.le_refl _) (.cells #[.int .i64 a, .int .i64 b] 86))
  have HBX := hide (stay_new w 86 #[.int .i64 a, .int .i64 b])
  have HT := hide (Stay.triv (w.alloc (.cells #[.int .i64 a, .int .i64 b] 86)))
  go_enter Try.func14, Try.ntmps14
  go_wp2_with (first
    | (go_at_call 18; go_must (refine (awake_ok _).mono ?_; rintro e w1 ⟨rfl, hb⟩; replace HB := hide (Below.step HB.out hb); replace HBX := hide (HBX.out.step hb); replace HT := hide (HT.out.step hb); clear hb; replace q0 : w1.cell? ⟨w.heap.size, 0, none⟩ = some (.int .i64 a) := HBX.out.now.cell 0; replace q1 : w1.cell? ⟨w.heap.size, 1, none⟩ = some (.int .i64 b) := HBX.out.now.cell 1; simp only []))
    | (go_at_call 67; go_must (refine (HF.out _ (HS.out.bel gr_lasts HB.out)).mono ?_; rintro e w' ⟨rfl, rfl⟩; simp only [])))
  go_region_held3 (fun w' => w'.cell? ⟨w.heap.size, 0, none⟩ = some (.int .i64 a) ∧ w'.cell? ⟨w.heap.size, 1, none⟩ = some (.int .i64 b)) (first | (simp [go_sem]; done) | (simp [go_sem, *]; done) | exact ⟨q0, q1⟩ | go_keep)
    (first
      | (go_at_call 71; go_must (refine (HCU.out _ (HS.out.bel gr_lasts (below_drew HB.out))).mono ?_; rintro e w4 ⟨B4, k4, rfl, hr4, hb⟩; have HR4 := hide hr4; replace HB := hide (Below.step (below_drew HB.out) hb); replace HBX := hide (HBX.out.drew.step hb); replace HT := hide (HT.out.drew.step hb); clear hb hr4; replace q0 : w4.cell? ⟨w.heap.size, 0, none⟩ = some (.int .i64 a) := HBX.out.now.cell 0; replace q1 : w4.cell? ⟨w.heap.size, 1, none⟩ = some (.int .i64 b) := HBX.out.now.cell 1))
      | (go_at_call 70; go_must (refine (HMP.out _ _ _ HR4.out).mono ?_; rintro e w5 ⟨P5, k5, rfl, hp5, hb⟩; replace HT := hide ((HT.out.step hb).and (stay_sl hp5)); replace HB := hide (Below.step HB.out hb); replace HBX := hide (HBX.out.step hb); clear hb hp5 HR4; replace q0 : w5.cell? ⟨w.heap.size, 0, none⟩ = some (.int .i64 a) := HBX.out.now.cell 0; replace q1 : w5.cell? ⟨w.heap.size, 1, none⟩ = some (.int .i64 b) := HBX.out.now.cell 1)))
  go_wp2_with fail
  go_region_held3 (fun w' => w'.cell? ⟨w.heap.size, 0, none⟩ = some (.int .i64 a) ∧ w'.cell? ⟨w.heap.size, 1, none⟩ = some (.int .i64 b)) (first | (simp [go_sem]; done) | (simp [go_sem, *]; done) | exact ⟨q0, q1⟩ | go_keep)
    (first
      | (go_at_call 71; go_must (refine (HCU.out _ (HS.out.bel gr_lasts (below_drew HB.out))).mono ?_; rintro e w9 ⟨B9, k9, rfl, hr9, hb⟩; have HR9 := hide hr9; replace HB := hide (Below.step (below_drew HB.out) hb); replace HBX := hide (HBX.out.drew.step hb); replace HT := hide (HT.out.drew.step hb); clear hb hr9; replace q0 : w9.cell? ⟨w.heap.size, 0, none⟩ = some (.int .i64 a) := HBX.out.now.cell 0; replace q1 : w9.cell? ⟨w.heap.size, 1, none⟩ = some (.int .i64 b) := HBX.out.now.cell 1))
      | (go_at_call 73; go_must (refine (HCPA.out _ (HPS.out.bel HB.out)).mono ?_; rintro e w10 ⟨P10, k10, rfl, hp10, hb⟩; have HR10 := hide (HR9.out.bel gr_lasts hb); have HP10 := hide hp10; replace HB := hide (Below.step HB.out hb); replace HBX := hide (HBX.out.step hb); replace HT := hide (HT.out.step hb); clear hb hp10 HR9; replace q0 : w10.cell? ⟨w.heap.size, 0, none⟩ = some (.int .i64 a) := HBX.out.now.cell 0; replace q1 : w10.cell? ⟨w.heap.size, 1, none⟩ = some (.int .i64 b) := HBX.out.now.cell 1))
      | (go_at_call 72; go_must (refine (HCP.out _ _ _ _ _ HR10.out HP10.out).mono ?_; rintro e w11 ⟨rfl, hb⟩; replace HB := hide (Below.step HB.out hb); replace HBX := hide (HBX.out.step hb); replace HT := hide (HT.out.step hb); clear hb HR10 HP10; replace q0 : w11.cell? ⟨w.heap.size, 0, none⟩ = some (.int .i64 a) := HBX.out.now.cell 0; replace q1 : w11.cell? ⟨w.heap.size, 1, none⟩ = some (.int .i64 b) := HBX.out.now.cell 1; replace q2 : w11.cell? ⟨bb, oo, none⟩ = some (.slice B0 n0 k0) := HB.out.keeps R0.out; replace q3 : w11.cell? ⟨bb, oo + 1, none⟩ = some (.slice B1 n1 k1) := HB.out.keeps R1.out)))
  go_wp2_with fail
  go_region_held3 (fun w' => w'.cell? ⟨w.heap.size, 0, none⟩ = some (.int .i64 a) ∧ w'.cell? ⟨w.heap.size, 1, none⟩ = some (.int .i64 b) ∧ w'.cell? ⟨bb, oo, none⟩ = some (.slice B0 n0 k0) ∧ w'.cell? ⟨bb, oo + 1, none⟩ = some (.slice B1 n1 k1)) (first | (simp [go_sem]; done) | (simp [go_sem, *]; done) | exact ⟨q0, q1, q2, q3⟩ | go_keep)
    (first
      | (go_at_call 53; have qq := HG1; go_must (refine (HC1.out _ (G1.out.bel HB.out)).mono ?_; rintro e w13 ⟨P13, k13, rfl, hp13, hb⟩; have HG2 := hide (HG1.out.bel hb); have HH2 := hide hp13; replace HB := hide (Below.step HB.out hb); replace HBX := hide (HBX.out.step hb); replace HT := hide (HT.out.step hb); clear hb hp13 qq HG1; replace q0 : w13.cell? ⟨w.heap.size, 0, none⟩ = some (.int .i64 a) := HBX.out.now.cell 0; replace q1 : w13.cell? ⟨w.heap.size, 1, none⟩ = some (.int .i64 b) := HBX.out.now.cell 1; replace q2 : w13.cell? ⟨bb, oo, none⟩ = some (.slice B0 n0 k0) := HB.out.keeps R0.out; replace q3 : w13.cell? ⟨bb, oo + 1, none⟩ = some (.slice B1 n1 k1) := HB.out.keeps R1.out))
      | (go_at_call 53; go_must (refine (HC0.out _ (G0.out.bel (below_drew HB.out))).mono ?_; rintro e w12 ⟨P12, k12, rfl, hp12, hb⟩; have HG1 := hide hp12; replace HB := hide (Below.step (below_drew HB.out) hb); replace HBX := hide (HBX.out.drew.step hb); replace HT := hide (HT.out.drew.step hb); clear hb hp12; replace q0 : w12.cell? ⟨w.heap.size, 0, none⟩ = some (.int .i64 a) := HBX.out.now.cell 0; replace q1 : w12.cell? ⟨w.heap.size, 1, none⟩ = some (.int .i64 b) := HBX.out.now.cell 1; replace q2 : w12.cell? ⟨bb, oo, none⟩ = some (.slice B0 n0 k0) := HB.out.keeps R0.out; replace q3 : w12.cell? ⟨bb, oo + 1, none⟩ = some (.slice B1 n1 k1) := HB.out.keeps R1.out))
      | (go_at_call 75; go_must (refine (HMS.out _ _ _ _ _ HG2.out HH2.out).mono ?_; rintro e w14 ⟨rfl, hb⟩; replace HB := hide (Below.step HB.out hb); replace HBX := hide (HBX.out.step hb); replace HT := hide (HT.out.step hb); clear hb HG2 HH2; replace q0 : w14.cell? ⟨w.heap.size, 0, none⟩ = some (.int .i64 a) := HBX.out.now.cell 0; replace q1 : w14.cell? ⟨w.heap.size, 1, none⟩ = some (.int .i64 b) := HBX.out.now.cell 1; replace q2 : w14.cell? ⟨bb, oo, none⟩ = some (.slice B0 n0 k0) := HB.out.keeps R0.out; replace q3 : w14.cell? ⟨bb, oo + 1, none⟩ = some (.slice B1 n1 k1) := HB.out.keeps R1.out)))
  go_wp2_with fail
  go_region_held3 (fun w' => w'.cell? ⟨w.heap.size, 0, none⟩ = some (.int .i64 a) ∧ w'.cell? ⟨w.heap.size, 1, none⟩ = some (.int .i64 b) ∧ w'.cell? ⟨bb, oo, none⟩ = some (.slice B0 n0 k0) ∧ w'.cell? ⟨bb, oo + 1, none⟩ = some (.slice B1 n1 k1)) (first | (simp [go_sem]; done) | (simp [go_sem, *]; done) | exact ⟨q0, q1, q2, q3⟩ | go_keep)
    (first | (go_at_call 51; go_must (refine (HTE.out _ (G0.out.bel (below_drew HB.out)) (G1.out.bel (below_drew HB.out))).mono ?_; rintro e w15 ⟨rfl, hb⟩; replace HB := hide (Below.step (below_drew HB.out) hb); replace HBX := hide (HBX.out.drew.step hb); replace HT := hide (HT.out.drew.step hb); clear hb; replace q0 : w15.cell? ⟨w.heap.size, 0, none⟩ = some (.int .i64 a) := HBX.out.now.cell 0; replace q1 : w15.cell? ⟨w.heap.size, 1, none⟩ = some (.int .i64 b) := HBX.out.now.cell 1; replace q2 : w15.cell? ⟨bb, oo, none⟩ = some (.slice B0 n0 k0) := HB.out.keeps R0.out; replace q3 : w15.cell? ⟨bb, oo + 1, none⟩ = some (.slice B1 n1 k1) := HB.out.keeps R1.out)))
  go_wp2_with (go_at_call 69; go_must (refine (HRM.out _).mono ?_; rintro e w16 ⟨rfl, hb⟩; replace HB := hide (Below.step HB.out hb); replace HBX := hide (HBX.out.step hb); replace HT := hide (HT.out.step hb); clear hb; replace q0 : w16.cell? ⟨w.heap.size, 0, none⟩ = some (.int .i64 a) := HBX.out.now.cell 0; replace q1 : w16.cell? ⟨w.heap.size, 1, none⟩ = some (.int .i64 b) := HBX.out.now.cell 1; replace q2 : w16.cell? ⟨bb, oo, none⟩ = some (.slice B0 n0 k0) := HB.out.keeps R0.out; replace q3 : w16.cell? ⟨bb, oo + 1, none⟩ = some (.slice B1 n1 k1) := HB.out.keeps R1.out; simp only []))
  go_quiet (fail)
  replace HB := hide (below_drewN HB.out nq)
  replace HBX := hide (HBX.out.drewN nq)
  replace HT := hide (HT.out.drewN nq)
  clear q0 q1 q2 q3
  go_wp2_with (first
    | (go_at_call 68; go_must (refine (HU.out _ (HS.out.bel gr_lasts HB.out)).mono ?_; rintro e w20 ⟨rfl, hb⟩; replace HB := hide (Below.step HB.out hb); replace HBX := hide (HBX.out.step hb); replace HT := hide (HT.out.step hb); clear hb; replace q0 : w20.cell? ⟨w.heap.size, 0, none⟩ = some (.int .i64 a) := HBX.out.now.cell 0; replace q1 : w20.cell? ⟨w.heap.size, 1, none⟩ = some (.int .i64 b) := HBX.out.now.cell 1; simp only []))
    | (go_at_call 69; go_must (refine (HRM.out _).mono ?_; rintro e w21 ⟨rfl, hb⟩; replace HB := hide (Below.step HB.out hb); replace HBX := hide (HBX.out.step hb); replace HT := hide (HT.out.step hb); clear hb; replace q0 : w21.cell? ⟨w.heap.size, 0, none⟩ = some (.int .i64 a) := HBX.out.now.cell 0; replace q1 : w21.cell? ⟨w.heap.size, 1, none⟩ = some (.int .i64 b) := HBX.out.now.cell 1; simp only [])))
  go_ret
  exact ⟨by first | rfl | (simp; done) | simp [*], HB.out⟩

set_option maxRecDepth 100000 in
set_option maxHeartbeats 4000000 in
theorem pairs_C_D (bb oo : Nat) (B0 B1 : Option Addr) (k0 k1 n0 n1 : Nat) (g h : List (Int × Int))
    (c : Nat) (us : List (List (Int × Int))) (a b : Int) (PA : Option Addr) (pc : Nat) (ps : List (Int × Int)) (w : World)
    (hs : RowsAt GR w (some ⟨bb, oo, none⟩) us) (hp : Sl w PA (gv ps)) (n m : Nat) (hm8 : m ≤ 8)
    (D : Int)
    (IS : Bool)
    (hD : (D != 0) = true) (hD2 : (D == 0) = false)
    (hn2 : (1 : Int) < (n : Int))
    (HF : Hid (∀ W, RowsAt GR W (some ⟨bb, oo, none⟩) us → Calls Try.prog 67 #[.slice (some ⟨bb, oo, none⟩) n c] W fun e w' => e = .returned (.bool true) ∧ W = w'))
    (HCU : Hid (∀ W, RowsAt GR W (some ⟨bb, oo, none⟩) us → Calls Try.prog 71 #[.slice (some ⟨bb, oo, none⟩) n c] W fun e w' => ∃ Q k, e = .returned (.slice Q n k) ∧ RowsAt GR w' Q us ∧ Below W.heap.size W w'))
    (HMP : Hid (∀ B d W, RowsAt GR W B us → Calls Try.prog 70 #[.slice B n d, .agg #[.int .i64 a, .int .i64 b]] W fun e w' => ∃ P k, e = .returned (.tuple #[.slice P 0 k, .int .i64 D]) ∧ Sl w' P [] ∧ Below W.heap.size W w'))
    (HCPA : Hid (∀ W, Sl W PA (gv ps) → Calls Try.prog 73 #[.slice PA m pc] W fun e w' => ∃ Q k, e = .returned (.slice Q m k) ∧ Sl w' Q (gv ps) ∧ Below W.heap.size W w'))
    (HCP : Hid (∀ B d Q q W, RowsAt GR W B us → Sl W Q (gv ps) → Calls Try.prog 72 #[.slice B n d, .agg #[.int .i64 a, .int .i64 b], .slice Q m q] W fun e w' => e = .returned (.tuple #[.int .i64 0, .int .i64 D]) ∧ Below W.heap.size W w'))
    (HU : Hid (∀ W, RowsAt GR W (some ⟨bb, oo, none⟩) us → Calls Try.prog 68 #[.slice (some ⟨bb, oo, none⟩) n c] W fun e w' => e = .returned (.int .i64 D) ∧ Below W.heap.size W w'))
    (HRM : Hid (∀ W, Calls Try.prog 69 #[.agg #[.int .i64 a, .int .i64 b]] W fun e w' => e = .returned (.int .i64 0) ∧ Below W.heap.size W w'))
    (r0 : w.cell? ⟨bb, oo, none⟩ = some (.slice B0 n0 k0)) (r1 : w.cell? ⟨bb, oo + 1, none⟩ = some (.slice B1 n1 k1)) (g0 : Sl w B0 (gv g)) (g1 : Sl w B1 (gv h))
    (HC0 : Hid (∀ W, Sl W B0 (gv g) → Calls Try.prog 53 #[.slice B0 n0 k0] W fun e w' => ∃ Q k, e = .returned (.slice Q n0 k) ∧ Sl w' Q (gv g) ∧ Below W.heap.size W w'))
    (HC1 : Hid (∀ W, Sl W B1 (gv h) → Calls Try.prog 53 #[.slice B1 n1 k1] W fun e w' => ∃ Q k, e = .returned (.slice Q n1 k) ∧ Sl w' Q (gv h) ∧ Below W.heap.size W w'))
    (HMS : Hid (∀ P Q k k' W, Sl W P (gv g) → Sl W Q (gv h) → Calls Try.prog 75 #[.slice P n0 k, .slice Q n1 k', .agg #[.int .i64 a, .int .i64 b]] W fun e w' => e = .returned (.tuple #[.bool (IS), .int .i64 0]) ∧ Below W.heap.size W w'))
    (HTE : Hid (∀ W, Sl W B0 (gv g) → Sl W B1 (gv h) → Calls Try.prog 51 #[.slice B0 n0 k0, .slice B1 n1 k1] W fun e w' => e = .returned (.int .i64 0) ∧ Below W.heap.size W w'))
    (HMR : Hid (∀ W, Sl W B0 (gv g) → Sl W B1 (gv h) → Calls Try.prog 76 #[.slice B0 n0 k0, .slice B1 n1 k1, .agg #[.int .i64 a, .int .i64 b]] W fun e w' => e = .returned (.bool IS) ∧ Below W.heap.size W w')) :
    Calls Try.prog 14 #[.slice (some ⟨bb, oo, none⟩) n c, .agg #[.int .i64 a, .int .i64 b], .slice PA m pc] w fun e w' => e = .returned (.bool true) ∧ Below w.heap.size w w' := by
  have hmd : decide ((8 : Int) < (m : Int)) = false := by rw [decide_eq_false_iff_not]; omega
  clear hm8
  have hn1 : (0 : Int) < (n : Int) := by omega
  have hn3 : 0 < n := by omega
  have hn4 : 1 < n := by omega
  have HS := hide hs; clear hs
  have HPS := hide hp; clear hp
  have R0 := hide r0; have R1 := hide r1; have G0 := hide g0; have G1 := hide g1; clear r0 r1 g0 g1
  have HB := hide ((Below.refl w.heap.size w).alloc (Nat.le_refl _) (.cells #[.int .i64 a, .int .i64 b] 86))
  have HBX := hide (stay_new w 86 #[.int .i64 a, .int .i64 b])
  have HT := hide (Stay.triv (w.alloc (.cells #[.int .i64 a, .int .i64 b] 86)))
  go_enter Try.func14, Try.ntmps14
  go_wp2_with (first
    | (go_at_call 18; go_must (refine (awake_ok _).mono ?_; rintro e w1 ⟨rfl, hb⟩; replace HB := hide (Below.step HB.out hb); replace HBX := hide (HBX.out.step hb); replace HT := hide (HT.out.step hb); clear hb; replace q0 : w1.cell? ⟨w.heap.size, 0, none⟩ = some (.int .i64 a) := HBX.out.now.cell 0; replace q1 : w1.cell? ⟨w.heap.size, 1, none⟩ = some (.int .i64 b) := HBX.out.now.cell 1; simp only []))
    | (go_at_call 67; go_must (refine (HF.out _ (HS.out.bel gr_lasts HB.out)).mono ?_; rintro e w' ⟨rfl, rfl⟩; simp only [])))
  go_region_held3 (fun w' => w'.cell? ⟨w.heap.size, 0, none⟩ = some (.int .i64 a) ∧ w'.cell? ⟨w.heap.size, 1, none⟩ = some (.int .i64 b)) (first | (simp [go_sem]; done) | (simp [go_sem, *]; done) | exact ⟨q0, q1⟩ | go_keep)
    (first
      | (go_at_call 71; go_must (refine (HCU.out _ (HS.out.bel gr_lasts (below_drew HB.out))).mono ?_; rintro e w4 ⟨B4, k4, rfl, hr4, hb⟩; have HR4 := hide hr4; replace HB := hide (Below.step (below_drew HB.out) hb); replace HBX := hide (HBX.out.drew.step hb); replace HT := hide (HT.out.drew.step hb); clear hb hr4; replace q0 : w4.cell? ⟨w.heap.size, 0, none⟩ = some (.int .i64 a) := HBX.out.now.cell 0; replace q1 : w4.cell? ⟨w.heap.size, 1, none⟩ = some (.int .i64 b) := HBX.out.now.cell 1))
      | (go_at_call 70; go_must (refine (HMP.out _ _ _ HR4.out).mono ?_; rintro e w5 ⟨P5, k5, rfl, hp5, hb⟩; replace HT := hide ((HT.out.step hb).and (stay_sl hp5)); replace HB := hide (Below.step HB.out hb); replace HBX := hide (HBX.out.step hb); clear hb hp5 HR4; replace q0 : w5.cell? ⟨w.heap.size, 0, none⟩ = some (.int .i64 a) := HBX.out.now.cell 0; replace q1 : w5.cell? ⟨w.heap.size, 1, none⟩ = some (.int .i64 b) := HBX.out.now.cell 1)))
  go_wp2_with fail
  go_region_held3 (fun w' => w'.cell? ⟨w.heap.size, 0, none⟩ = some (.int .i64 a) ∧ w'.cell? ⟨w.heap.size, 1, none⟩ = some (.int .i64 b)) (first | (simp [go_sem]; done) | (simp [go_sem, *]; done) | exact ⟨q0, q1⟩ | go_keep)
    (first
      | (go_at_call 71; go_must (refine (HCU.out _ (HS.out.bel gr_lasts (below_drew HB.out))).mono ?_; rintro e w9 ⟨B9, k9, rfl, hr9, hb⟩; have HR9 := hide hr9; replace HB := hide (Below.step (below_drew HB.out) hb); replace HBX := hide (HBX.out.drew.step hb); replace HT := hide (HT.out.drew.step hb); clear hb hr9; replace q0 : w9.cell? ⟨w.heap.size, 0, none⟩ = some (.int .i64 a) := HBX.out.now.cell 0; replace q1 : w9.cell? ⟨w.heap.size, 1, none⟩ = some (.int .i64 b) := HBX.out.now.cell 1))
      | (go_at_call 73; go_must (refine (HCPA.out _ (HPS.out.bel HB.out)).mono ?_; rintro e w10 ⟨P10, k10, rfl, hp10, hb⟩; have HR10 := hide (HR9.out.bel gr_lasts hb); have HP10 := hide hp10; replace HB := hide (Below.step HB.out hb); replace HBX := hide (HBX.out.step hb); replace HT := hide (HT.out.step hb); clear hb hp10 HR9; replace q0 : w10.cell? ⟨w.heap.size, 0, none⟩ = some (.int .i64 a) := HBX.out.now.cell 0; replace q1 : w10.cell? ⟨w.heap.size, 1, none⟩ = some (.int .i64 b) := HBX.out.now.cell 1))
      | (go_at_call 72; go_must (refine (HCP.out _ _ _ _ _ HR10.out HP10.out).mono ?_; rintro e w11 ⟨rfl, hb⟩; replace HB := hide (Below.step HB.out hb); replace HBX := hide (HBX.out.step hb); replace HT := hide (HT.out.step hb); clear hb HR10 HP10; replace q0 : w11.cell? ⟨w.heap.size, 0, none⟩ = some (.int .i64 a) := HBX.out.now.cell 0; replace q1 : w11.cell? ⟨w.heap.size, 1, none⟩ = some (.int .i64 b) := HBX.out.now.cell 1; replace q2 : w11.cell? ⟨bb, oo, none⟩ = some (.slice B0 n0 k0) := HB.out.keeps R0.out; replace q3 : w11.cell? ⟨bb, oo + 1, none⟩ = some (.slice B1 n1 k1) := HB.out.keeps R1.out)))
  go_wp2_with fail
  go_region_held3 (fun w' => w'.cell? ⟨w.heap.size, 0, none⟩ = some (.int .i64 a) ∧ w'.cell? ⟨w.heap.size, 1, none⟩ = some (.int .i64 b) ∧ w'.cell? ⟨bb, oo, none⟩ = some (.slice B0 n0 k0) ∧ w'.cell? ⟨bb, oo + 1, none⟩ = some (.slice B1 n1 k1)) (first | (simp [go_sem]; done) | (simp [go_sem, *]; done) | exact ⟨q0, q1, q2, q3⟩ | go_keep)
    (first
      | (go_at_call 53; have qq := HG1; go_must (refine (HC1.out _ (G1.out.bel HB.out)).mono ?_; rintro e w13 ⟨P13, k13, rfl, hp13, hb⟩; have HG2 := hide (HG1.out.bel hb); have HH2 := hide hp13; replace HB := hide (Below.step HB.out hb); replace HBX := hide (HBX.out.step hb); replace HT := hide (HT.out.step hb); clear hb hp13 qq HG1; replace q0 : w13.cell? ⟨w.heap.size, 0, none⟩ = some (.int .i64 a) := HBX.out.now.cell 0; replace q1 : w13.cell? ⟨w.heap.size, 1, none⟩ = some (.int .i64 b) := HBX.out.now.cell 1; replace q2 : w13.cell? ⟨bb, oo, none⟩ = some (.slice B0 n0 k0) := HB.out.keeps R0.out; replace q3 : w13.cell? ⟨bb, oo + 1, none⟩ = some (.slice B1 n1 k1) := HB.out.keeps R1.out))
      | (go_at_call 53; go_must (refine (HC0.out _ (G0.out.bel (below_drew HB.out))).mono ?_; rintro e w12 ⟨P12, k12, rfl, hp12, hb⟩; have HG1 := hide hp12; replace HB := hide (Below.step (below_drew HB.out) hb); replace HBX := hide (HBX.out.drew.step hb); replace HT := hide (HT.out.drew.step hb); clear hb hp12; replace q0 : w12.cell? ⟨w.heap.size, 0, none⟩ = some (.int .i64 a) := HBX.out.now.cell 0; replace q1 : w12.cell? ⟨w.heap.size, 1, none⟩ = some (.int .i64 b) := HBX.out.now.cell 1; replace q2 : w12.cell? ⟨bb, oo, none⟩ = some (.slice B0 n0 k0) := HB.out.keeps R0.out; replace q3 : w12.cell? ⟨bb, oo + 1, none⟩ = some (.slice B1 n1 k1) := HB.out.keeps R1.out))
      | (go_at_call 75; go_must (refine (HMS.out _ _ _ _ _ HG2.out HH2.out).mono ?_; rintro e w14 ⟨rfl, hb⟩; replace HB := hide (Below.step HB.out hb); replace HBX := hide (HBX.out.step hb); replace HT := hide (HT.out.step hb); clear hb HG2 HH2; replace q0 : w14.cell? ⟨w.heap.size, 0, none⟩ = some (.int .i64 a) := HBX.out.now.cell 0; replace q1 : w14.cell? ⟨w.heap.size, 1, none⟩ = some (.int .i64 b) := HBX.out.now.cell 1; replace q2 : w14.cell? ⟨bb, oo, none⟩ = some (.slice B0 n0 k0) := HB.out.keeps R0.out; replace q3 : w14.cell? ⟨bb, oo + 1, none⟩ = some (.slice B1 n1 k1) := HB.out.keeps R1.out)))
  go_wp2_with fail
  go_region_held3 (fun w' => w'.cell? ⟨w.heap.size, 0, none⟩ = some (.int .i64 a) ∧ w'.cell? ⟨w.heap.size, 1, none⟩ = some (.int .i64 b) ∧ w'.cell? ⟨bb, oo, none⟩ = some (.slice B0 n0 k0) ∧ w'.cell? ⟨bb, oo + 1, none⟩ = some (.slice B1 n1 k1)) (first | (simp [go_sem]; done) | (simp [go_sem, *]; done) | exact ⟨q0, q1, q2, q3⟩ | go_keep)
    (first | (go_at_call 51; go_must (refine (HTE.out _ (G0.out.bel (below_drew HB.out)) (G1.out.bel (below_drew HB.out))).mono ?_; rintro e w15 ⟨rfl, hb⟩; replace HB := hide (Below.step (below_drew HB.out) hb); replace HBX := hide (HBX.out.drew.step hb); replace HT := hide (HT.out.drew.step hb); clear hb; replace q0 : w15.cell? ⟨w.heap.size, 0, none⟩ = some (.int .i64 a) := HBX.out.now.cell 0; replace q1 : w15.cell? ⟨w.heap.size, 1, none⟩ = some (.int .i64 b) := HBX.out.now.cell 1; replace q2 : w15.cell? ⟨bb, oo, none⟩ = some (.slice B0 n0 k0) := HB.out.keeps R0.out; replace q3 : w15.cell? ⟨bb, oo + 1, none⟩ = some (.slice B1 n1 k1) := HB.out.keeps R1.out)))
  go_wp2_with (go_at_call 69; go_must (refine (HRM.out _).mono ?_; rintro e w16 ⟨rfl, hb⟩; replace HB := hide (Below.step HB.out hb); replace HBX := hide (HBX.out.step hb); replace HT := hide (HT.out.step hb); clear hb; replace q0 : w16.cell? ⟨w.heap.size, 0, none⟩ = some (.int .i64 a) := HBX.out.now.cell 0; replace q1 : w16.cell? ⟨w.heap.size, 1, none⟩ = some (.int .i64 b) := HBX.out.now.cell 1; replace q2 : w16.cell? ⟨bb, oo, none⟩ = some (.slice B0 n0 k0) := HB.out.keeps R0.out; replace q3 : w16.cell? ⟨bb, oo + 1, none⟩ = some (.slice B1 n1 k1) := HB.out.keeps R1.out; simp only []))
  refine wp_region_held_drew (S := (fun w' => w'.cell? ⟨w.heap.size, 0, none⟩ = some (.int .i64 a) ∧ w'.cell? ⟨w.heap.size, 1, none⟩ = some (.int .i64 b) ∧ w'.cell? ⟨bb, oo, none⟩ = some (.slice B0 n0 k0) ∧ w'.cell? ⟨bb, oo + 1, none⟩ = some (.slice B1 n1 k1))) (by kernel_rfl) ?_ (fun hHeld => ?_)
  · exact ⟨q0, q1, q2, q3⟩
  refine wpAnyH_take (i := 0) (v := ?_) rfl (by kernel_rfl) (by kernel_rfl) (by kernel_rfl) (fun _ _ _ h => h) (Or.inl ⟨by kernel_rfl, ?_⟩) (by assumption) ?_
  rotate_left
  · intro w' hSw; (try dsimp only at hSw); go_simp; try with_reducible rfl
  try simp only [Act.put, List.setIfInBounds_toArray]
  refine wpAnyH_take (i := 1) (v := ?_) rfl (by kernel_rfl) (by kernel_rfl) (by kernel_rfl) (fun _ _ _ h => h) (Or.inl ⟨by kernel_rfl, ?_⟩) (by assumption) ?_
  rotate_left
  · intro w' hSw; (try dsimp only at hSw); go_simp; try with_reducible rfl
  try simp only [Act.put]
  refine wpAnyH_take (i := 2) (v := ?_) rfl (by kernel_rfl) (by kernel_rfl) (by kernel_rfl) (fun _ _ _ h => h) (Or.inl ⟨by kernel_rfl, ?_⟩) (by assumption) ?_
  rotate_left
  · intro w' hSw; (try dsimp only at hSw); go_simp; try with_reducible rfl
  try simp only [Act.put]
  refine wpAnyH_take (i := 3) (v := undef) rfl (by kernel_rfl) (by kernel_rfl) (by kernel_rfl) (fun _ _ _ h => h) (Or.inr ⟨by kernel_rfl, rfl⟩) (by assumption) ?_
  try simp only [Act.put]
  refine wpAnyH_take (i := 4) (v := undef) rfl (by kernel_rfl) (by kernel_rfl) (by kernel_rfl) (fun _ _ _ h => h) (Or.inr ⟨by kernel_rfl, rfl⟩) (by assumption) ?_
  try simp only [Act.put]
  refine wpAnyH_take (i := 5) (v := undef) rfl (by kernel_rfl) (by kernel_rfl) (by kernel_rfl) (fun _ _ _ h => h) (Or.inr ⟨by kernel_rfl, rfl⟩) (by assumption) ?_
  try simp only [Act.put]
  refine wpAnyH_take (i := 6) (v := undef) rfl (by kernel_rfl) (by kernel_rfl) (by kernel_rfl) (fun _ _ _ h => h) (Or.inr ⟨by kernel_rfl, rfl⟩) (by assumption) ?_
  try simp only [Act.put]
  refine wpAnyH_take (i := 7) (v := undef) rfl (by kernel_rfl) (by kernel_rfl) (by kernel_rfl) (fun _ _ _ h => h) (Or.inr ⟨by kernel_rfl, rfl⟩) (by assumption) ?_
  try simp only [Act.put]
  refine wpAnyH_take (i := 8) (v := undef) rfl (by kernel_rfl) (by kernel_rfl) (by kernel_rfl) (fun _ _ _ h => h) (Or.inr ⟨by kernel_rfl, rfl⟩) (by assumption) ?_
  try simp only [Act.put]
  refine wpAnyH_take (i := 9) (v := ?_) rfl (by kernel_rfl) (by kernel_rfl) (by kernel_rfl) (fun _ _ _ h => h) (Or.inl ⟨by kernel_rfl, ?_⟩) (by assumption) ?_
  rotate_left
  · intro w' hSw; (try dsimp only at hSw); go_simp; try with_reducible rfl
  try simp only [Act.put]
  refine wpAnyH_take (i := 10) (v := ?_) rfl (by kernel_rfl) (by kernel_rfl) (by kernel_rfl) (fun _ _ _ h => h) (Or.inl ⟨by kernel_rfl, ?_⟩) (by assumption) ?_
  rotate_left
  · intro w' hSw; (try dsimp only at hSw); go_simp; try with_reducible rfl
  try simp only [Act.put]
  refine wpAnyH_take (i := 11) (v := ?_) rfl (by kernel_rfl) (by kernel_rfl) (by kernel_rfl) (fun _ _ _ h => h) (Or.inl ⟨by kernel_rfl, ?_⟩) (by assumption) ?_
  rotate_left
  · intro w' hSw; (try dsimp only at hSw); go_simp; try with_reducible rfl
  try simp only [Act.put]
  refine wpAnyH_take (i := 12) (v := ?_) rfl (by kernel_rfl) (by kernel_rfl) (by kernel_rfl) (fun _ _ _ h => h) (Or.inl ⟨by kernel_rfl, ?_⟩) (by assumption) ?_
  rotate_left
  · intro w' hSw; (try dsimp only at hSw); go_simp; try with_reducible rfl
  try simp only [Act.put]
  refine wpAnyH_take (i := 13) (v := ?_) rfl (by kernel_rfl) (by kernel_rfl) (by kernel_rfl) (fun _ _ _ h => h) (Or.inl ⟨by kernel_rfl, ?_⟩) (by assumption) ?_
  rotate_left
  · intro w' hSw; (try dsimp only at hSw); go_simp; try with_reducible rfl
  try simp only [Act.put]
  refine wpAnyH_take (i := 14) (v := ?_) rfl (by kernel_rfl) (by kernel_rfl) (by kernel_rfl) (fun _ _ _ h => h) (Or.inl ⟨by kernel_rfl, ?_⟩) (by assumption) ?_
  rotate_left
  · intro w' hSw; (try dsimp only at hSw); go_simp; try with_reducible rfl
  try simp only [Act.put]
  refine wpAnyH_take (i := 15) (v := ?_) rfl (by kernel_rfl) (by kernel_rfl) (by kernel_rfl) (fun _ _ _ h => h) (Or.inl ⟨by kernel_rfl, ?_⟩) (by assumption) ?_
  rotate_left
  · intro w' hSw; (try dsimp only at hSw); go_simp; try with_reducible rfl
  try simp only [Act.put]
  refine wpAnyH_take (i := 16) (v := ?_) rfl (by kernel_rfl) (by kernel_rfl) (by kernel_rfl) (fun _ _ _ h => h) (Or.inl ⟨by kernel_rfl, ?_⟩) (by assumption) ?_
  rotate_left
  · intro w' hSw; (try dsimp only at hSw); go_simp; try with_reducible rfl
  try simp only [Act.put]
  refine wpAnyH_take (i := 17) (v := ?_) rfl (by kernel_rfl) (by kernel_rfl) (by kernel_rfl) (fun _ _ _ h => h) (Or.inl ⟨by kernel_rfl, ?_⟩) (by assumption) ?_
  rotate_left
  · intro w' hSw; (try dsimp only at hSw); go_simp; try with_reducible rfl
  try simp only [Act.put]
  refine wpAnyH_take (i := 18) (v := ?_) rfl (by kernel_rfl) (by kernel_rfl) (by kernel_rfl) (fun _ _ _ h => h) (Or.inl ⟨by kernel_rfl, ?_⟩) (by assumption) ?_
  rotate_left
  · intro w' hSw; (try dsimp only at hSw); go_simp; try with_reducible rfl
  try simp only [Act.put]
  refine wpAnyH_take (i := 19) (v := ?_) rfl (by kernel_rfl) (by kernel_rfl) (by kernel_rfl) (fun _ _ _ h => h) (Or.inl ⟨by kernel_rfl, ?_⟩) (by assumption) ?_
  rotate_left
  · intro w' hSw; (try dsimp only at hSw); go_simp; try with_reducible rfl
  try simp only [Act.put]
  refine wpAnyH_take (i := 20) (v := ?_) rfl (by kernel_rfl) (by kernel_rfl) (by kernel_rfl) (fun _ _ _ h => h) (Or.inl ⟨by kernel_rfl, ?_⟩) (by assumption) ?_
  rotate_left
  · intro w' hSw; (try dsimp only at hSw); go_simp; try with_reducible rfl
  try simp only [Act.put]
  refine wpAnyH_take (i := 21) (v := ?_) rfl (by kernel_rfl) (by kernel_rfl) (by kernel_rfl) (fun _ _ _ h => h) (Or.inl ⟨by kernel_rfl, ?_⟩) (by assumption) ?_
  rotate_left
  · intro w' hSw; (try dsimp only at hSw); go_simp; try with_reducible rfl
  try simp only [Act.put]
  refine wpAnyH_take (i := 22) (v := ?_) rfl (by kernel_rfl) (by kernel_rfl) (by kernel_rfl) (fun _ _ _ h => h) (Or.inl ⟨by kernel_rfl, ?_⟩) (by assumption) ?_
  rotate_left
  · intro w' hSw; (try dsimp only at hSw); go_simp; try with_reducible rfl
  try simp only [Act.put]
  refine wpAnyH_take (i := 23) (v := ?_) rfl (by kernel_rfl) (by kernel_rfl) (by kernel_rfl) (fun _ _ _ h => h) (Or.inl ⟨by kernel_rfl, ?_⟩) (by assumption) ?_
  rotate_left
  · intro w' hSw; (try dsimp only at hSw); go_simp; try with_reducible rfl
  try simp only [Act.put]
  refine wpAnyH_take (i := 24) (v := ?_) rfl (by kernel_rfl) (by kernel_rfl) (by kernel_rfl) (fun _ _ _ h => h) (Or.inl ⟨by kernel_rfl, ?_⟩) (by assumption) ?_
  rotate_left
  · intro w' hSw; (try dsimp only at hSw); go_simp; try with_reducible rfl
  try simp only [Act.put]
  refine wpAnyH_ready (rs := [25]) (by kernel_rfl) (by simp) ?_
  refine AllReadyH.cons rfl (fun K hK => ?_) AllReadyH.nil
  go_simp
  go_at_call 76
  refine (HMR.out _ (G0.out.bel (below_drew HB.out)) (G1.out.bel (below_drew HB.out))).mono ?_
  rintro e w17 ⟨rfl, hb⟩; replace HB := hide (Below.step (below_drew HB.out) hb); replace HBX := hide (HBX.out.drew.step hb); replace HT := hide (HT.out.drew.step hb); clear hb; replace q0 : w17.cell? ⟨w.heap.size, 0, none⟩ = some (.int .i64 a) := HBX.out.now.cell 0; replace q1 : w17.cell? ⟨w.heap.size, 1, none⟩ = some (.int .i64 b) := HBX.out.now.cell 1; replace q2 : w17.cell? ⟨bb, oo, none⟩ = some (.slice B0 n0 k0) := HB.out.keeps R0.out; replace q3 : w17.cell? ⟨bb, oo + 1, none⟩ = some (.slice B1 n1 k1) := HB.out.keeps R1.out
  try simp only []
  refine hK.out _ _ ?_ (fun hHeld => ?_)
  · exact ⟨q0, q1, q2, q3⟩
  clear hK K
  try simp only [Act.put, List.setIfInBounds_toArray, List.set_cons_zero, List.set_cons_succ]
  refine wpAnyH_take (i := 26) (v := ?_) rfl (by kernel_rfl) (by kernel_rfl) (by kernel_rfl) (fun _ _ _ h => h) (Or.inl ⟨by kernel_rfl, ?_⟩) (by assumption) ?_
  rotate_left
  · intro w' hSw; (try dsimp only at hSw); go_simp; try with_reducible rfl
  try simp only [Act.put, List.setIfInBounds_toArray]
  refine wpAnyH_take (i := 27) (v := ?_) rfl (by kernel_rfl) (by kernel_rfl) (by kernel_rfl) (fun _ _ _ h => h) (Or.inl ⟨by kernel_rfl, ?_⟩) (by assumption) ?_
  rotate_left
  · intro w' hSw; (try dsimp only at hSw); go_simp; try with_reducible rfl
  try simp only [Act.put]
  refine wpAnyH_take (i := 28) (v := ?_) rfl (by kernel_rfl) (by kernel_rfl) (by kernel_rfl) (fun _ _ _ h => h) (Or.inl ⟨by kernel_rfl, ?_⟩) (by assumption) ?_
  rotate_left
  · intro w' hSw; (try dsimp only at hSw); go_simp; try with_reducible rfl
  try simp only [Act.put]
  refine wpAnyH_take (i := 29) (v := ?_) rfl (by kernel_rfl) (by kernel_rfl) (by kernel_rfl) (fun _ _ _ h => h) (Or.inl ⟨by kernel_rfl, ?_⟩) (by assumption) ?_
  rotate_left
  · intro w' hSw; (try dsimp only at hSw); go_simp; try with_reducible rfl
  try simp only [Act.put]
  refine wpAnyH_done (by kernel_rfl) ?_ _
  clear hHeld
  go_wp2_with (first
    | (go_at_call 68; go_must (refine (HU.out _ (HS.out.bel gr_lasts HB.out)).mono ?_; rintro e w20 ⟨rfl, hb⟩; replace HB := hide (Below.step HB.out hb); replace HBX := hide (HBX.out.step hb); replace HT := hide (HT.out.step hb); clear hb; replace q0 : w20.cell? ⟨w.heap.size, 0, none⟩ = some (.int .i64 a) := HBX.out.now.cell 0; replace q1 : w20.cell? ⟨w.heap.size, 1, none⟩ = some (.int .i64 b) := HBX.out.now.cell 1; simp only [])))
  go_ret
  exact ⟨by first | rfl | (simp; done) | simp [*], HB.out⟩

set_option maxRecDepth 100000 in
set_option maxHeartbeats 4000000 in
theorem pairs_C_0 (bb oo : Nat) (B0 B1 : Option Addr) (k0 k1 n0 n1 : Nat) (g h : List (Int × Int))
    (c : Nat) (us : List (List (Int × Int))) (a b : Int) (PA : Option Addr) (pc : Nat) (ps : List (Int × Int)) (w : World)
    (hs : RowsAt GR w (some ⟨bb, oo, none⟩) us) (hp : Sl w PA (gv ps)) (n m : Nat) (hm8 : m ≤ 8)
    (IS : Bool)
    (X : List (Int × Int))
    (VN : Int)
    (VE : Int)
    (hn2 : (1 : Int) < (n : Int))
    (HF : Hid (∀ W, RowsAt GR W (some ⟨bb, oo, none⟩) us → Calls Try.prog 67 #[.slice (some ⟨bb, oo, none⟩) n c] W fun e w' => e = .returned (.bool true) ∧ W = w'))
    (HCU : Hid (∀ W, RowsAt GR W (some ⟨bb, oo, none⟩) us → Calls Try.prog 71 #[.slice (some ⟨bb, oo, none⟩) n c] W fun e w' => ∃ Q k, e = .returned (.slice Q n k) ∧ RowsAt GR w' Q us ∧ Below W.heap.size W w'))
    (HMP : Hid (∀ B d W, RowsAt GR W B us → Calls Try.prog 70 #[.slice B n d, .agg #[.int .i64 a, .int .i64 b]] W fun e w' => ∃ P k, e = .returned (.tuple #[.slice P X.length k, .int .i64 0]) ∧ Sl w' P (gv X) ∧ Below W.heap.size W w'))
    (HCPA : Hid (∀ W, Sl W PA (gv ps) → Calls Try.prog 73 #[.slice PA m pc] W fun e w' => ∃ Q k, e = .returned (.slice Q m k) ∧ Sl w' Q (gv ps) ∧ Below W.heap.size W w'))
    (HCP : Hid (∀ B d Q q W, RowsAt GR W B us → Sl W Q (gv ps) → Calls Try.prog 72 #[.slice B n d, .agg #[.int .i64 a, .int .i64 b], .slice Q m q] W fun e w' => e = .returned (.tuple #[.int .i64 VN, .int .i64 VE]) ∧ Below W.heap.size W w'))
    (HU : Hid (∀ W, RowsAt GR W (some ⟨bb, oo, none⟩) us → Calls Try.prog 68 #[.slice (some ⟨bb, oo, none⟩) n c] W fun e w' => e = .returned (.int .i64 0) ∧ Below W.heap.size W w'))
    (HRM : Hid (∀ W, Calls Try.prog 69 #[.agg #[.int .i64 a, .int .i64 b]] W fun e w' => e = .returned (.int .i64 0) ∧ Below W.heap.size W w'))
    (r0 : w.cell? ⟨bb, oo, none⟩ = some (.slice B0 n0 k0)) (r1 : w.cell? ⟨bb, oo + 1, none⟩ = some (.slice B1 n1 k1)) (g0 : Sl w B0 (gv g)) (g1 : Sl w B1 (gv h))
    (HC0 : Hid (∀ W, Sl W B0 (gv g) → Calls Try.prog 53 #[.slice B0 n0 k0] W fun e w' => ∃ Q k, e = .returned (.slice Q n0 k) ∧ Sl w' Q (gv g) ∧ Below W.heap.size W w'))
    (HC1 : Hid (∀ W, Sl W B1 (gv h) → Calls Try.prog 53 #[.slice B1 n1 k1] W fun e w' => ∃ Q k, e = .returned (.slice Q n1 k) ∧ Sl w' Q (gv h) ∧ Below W.heap.size W w'))
    (HMS : Hid (∀ P Q k k' W, Sl W P (gv g) → Sl W Q (gv h) → Calls Try.prog 75 #[.slice P n0 k, .slice Q n1 k', .agg #[.int .i64 a, .int .i64 b]] W fun e w' => e = .returned (.tuple #[.bool (IS), .int .i64 0]) ∧ Below W.heap.size W w'))
    (HTE : Hid (∀ W, Sl W B0 (gv g) → Sl W B1 (gv h) → Calls Try.prog 51 #[.slice B0 n0 k0, .slice B1 n1 k1] W fun e w' => e = .returned (.int .i64 0) ∧ Below W.heap.size W w'))
    (HMR : Hid (∀ W, Sl W B0 (gv g) → Sl W B1 (gv h) → Calls Try.prog 76 #[.slice B0 n0 k0, .slice B1 n1 k1, .agg #[.int .i64 a, .int .i64 b]] W fun e w' => e = .returned (.bool IS) ∧ Below W.heap.size W w'))
    (HRC : Hid (∀ W, RowsAt GR W (some ⟨bb, oo, none⟩) us → Sl W PA (gv ps) → Calls Try.prog 77 #[.slice (some ⟨bb, oo, none⟩) n c, .agg #[.int .i64 a, .int .i64 b], .slice PA m pc] W fun e w' => e = .returned (.tuple #[.int .i64 VN, .int .i64 VE]) ∧ Below W.heap.size W w'))
    (HRP : Hid (∀ W, RowsAt GR W (some ⟨bb, oo, none⟩) us → Calls Try.prog 79 #[.slice (some ⟨bb, oo, none⟩) n c, .agg #[.int .i64 a, .int .i64 b]] W fun e w' => ∃ P k, e = .returned (.slice P X.length k) ∧ Sl w' P (gv X) ∧ Below W.heap.size W w'))
    (HSP : Hid (∀ P Q k k' W, Sl W P (gv X) → Sl W Q (gv X) → Calls Try.prog 78 #[.slice P X.length k, .slice Q X.length k'] W fun e w' => e = .returned (.bool true) ∧ ∃ m, w' = W.drewN m)) :
    Calls Try.prog 14 #[.slice (some ⟨bb, oo, none⟩) n c, .agg #[.int .i64 a, .int .i64 b], .slice PA m pc] w fun e w' => e = .returned (.bool true) ∧ Below w.heap.size w w' := by
  have hmd : decide ((8 : Int) < (m : Int)) = false := by rw [decide_eq_false_iff_not]; omega
  clear hm8
  have hn1 : (0 : Int) < (n : Int) := by omega
  have hn3 : 0 < n := by omega
  have hn4 : 1 < n := by omega
  have HS := hide hs; clear hs
  have HPS := hide hp; clear hp
  have R0 := hide r0; have R1 := hide r1; have G0 := hide g0; have G1 := hide g1; clear r0 r1 g0 g1
  have HB := hide ((Below.refl w.heap.size w).alloc (Nat.le_refl _) (.cells #[.int .i64 a, .int .i64 b] 86))
  have HBX := hide (stay_new w 86 #[.int .i64 a, .int .i64 b])
  have HT := hide (Stay.triv (w.alloc (.cells #[.int .i64 a, .int .i64 b] 86)))
  go_enter Try.func14, Try.ntmps14
  go_wp2_with (first
    | (go_at_call 18; go_must (refine (awake_ok _).mono ?_; rintro e w1 ⟨rfl, hb⟩; replace HB := hide (Below.step HB.out hb); replace HBX := hide (HBX.out.step hb); replace HT := hide (HT.out.step hb); clear hb; replace q0 : w1.cell? ⟨w.heap.size, 0, none⟩ = some (.int .i64 a) := HBX.out.now.cell 0; replace q1 : w1.cell? ⟨w.heap.size, 1, none⟩ = some (.int .i64 b) := HBX.out.now.cell 1; simp only []))
    | (go_at_call 67; go_must (refine (HF.out _ (HS.out.bel gr_lasts HB.out)).mono ?_; rintro e w' ⟨rfl, rfl⟩; simp only [])))
  go_region_held3 (fun w' => w'.cell? ⟨w.heap.size, 0, none⟩ = some (.int .i64 a) ∧ w'.cell? ⟨w.heap.size, 1, none⟩ = some (.int .i64 b)) (first | (simp [go_sem]; done) | (simp [go_sem, *]; done) | exact ⟨q0, q1⟩ | go_keep)
    (first
      | (go_at_call 71; go_must (refine (HCU.out _ (HS.out.bel gr_lasts (below_drew HB.out))).mono ?_; rintro e w4 ⟨B4, k4, rfl, hr4, hb⟩; have HR4 := hide hr4; replace HB := hide (Below.step (below_drew HB.out) hb); replace HBX := hide (HBX.out.drew.step hb); replace HT := hide (HT.out.drew.step hb); clear hb hr4; replace q0 : w4.cell? ⟨w.heap.size, 0, none⟩ = some (.int .i64 a) := HBX.out.now.cell 0; replace q1 : w4.cell? ⟨w.heap.size, 1, none⟩ = some (.int .i64 b) := HBX.out.now.cell 1))
      | (go_at_call 70; go_must (refine (HMP.out _ _ _ HR4.out).mono ?_; rintro e w5 ⟨P5, k5, rfl, hp5, hb⟩; replace HT := hide ((HT.out.step hb).and (stay_sl hp5)); replace HB := hide (Below.step HB.out hb); replace HBX := hide (HBX.out.step hb); clear hb hp5 HR4; replace q0 : w5.cell? ⟨w.heap.size, 0, none⟩ = some (.int .i64 a) := HBX.out.now.cell 0; replace q1 : w5.cell? ⟨w.heap.size, 1, none⟩ = some (.int .i64 b) := HBX.out.now.cell 1)))
  go_wp2_with fail
  go_region_held3 (fun w' => w'.cell? ⟨w.heap.size, 0, none⟩ = some (.int .i64 a) ∧ w'.cell? ⟨w.heap.size, 1, none⟩ = some (.int .i64 b)) (first | (simp [go_sem]; done) | (simp [go_sem, *]; done) | exact ⟨q0, q1⟩ | go_keep)
    (first
      | (go_at_call 71; go_must (refine (HCU.out _ (HS.out.bel gr_lasts (below_drew HB.out))).mono ?_; rintro e w9 ⟨B9, k9, rfl, hr9, hb⟩; have HR9 := hide hr9; replace HB := hide (Below.step (below_drew HB.out) hb); replace HBX := hide (HBX.out.drew.step hb); replace HT := hide (HT.out.drew.step hb); clear hb hr9; replace q0 : w9.cell? ⟨w.heap.size, 0, none⟩ = some (.int .i64 a) := HBX.out.now.cell 0; replace q1 : w9.cell? ⟨w.heap.size, 1, none⟩ = some (.int .i64 b) := HBX.out.now.cell 1))
      | (go_at_call 73; go_must (refine (HCPA.out _ (HPS.out.bel HB.out)).mono ?_; rintro e w10 ⟨P10, k10, rfl, hp10, hb⟩; have HR10 := hide (HR9.out.bel gr_lasts hb); have HP10 := hide hp10; replace HB := hide (Below.step HB.out hb); replace HBX := hide (HBX.out.step hb); replace HT := hide (HT.out.step hb); clear hb hp10 HR9; replace q0 : w10.cell? ⟨w.heap.size, 0, none⟩ = some (.int .i64 a) := HBX.out.now.cell 0; replace q1 : w10.cell? ⟨w.heap.size, 1, none⟩ = some (.int .i64 b) := HBX.out.now.cell 1))
      | (go_at_call 72; go_must (refine (HCP.out _ _ _ _ _ HR10.out HP10.out).mono ?_; rintro e w11 ⟨rfl, hb⟩; replace HB := hide (Below.step HB.out hb); replace HBX := hide (HBX.out.step hb); replace HT := hide (HT.out.step hb); clear hb HR10 HP10; replace q0 : w11.cell? ⟨w.heap.size, 0, none⟩ = some (.int .i64 a) := HBX.out.now.cell 0; replace q1 : w11.cell? ⟨w.heap.size, 1, none⟩ = some (.int .i64 b) := HBX.out.now.cell 1; replace q2 : w11.cell? ⟨bb, oo, none⟩ = some (.slice B0 n0 k0) := HB.out.keeps R0.out; replace q3 : w11.cell? ⟨bb, oo + 1, none⟩ = some (.slice B1 n1 k1) := HB.out.keeps R1.out)))
  go_wp2_with fail
  go_region_held3 (fun w' => w'.cell? ⟨w.heap.size, 0, none⟩ = some (.int .i64 a) ∧ w'.cell? ⟨w.heap.size, 1, none⟩ = some (.int .i64 b) ∧ w'.cell? ⟨bb, oo, none⟩ = some (.slice B0 n0 k0) ∧ w'.cell? ⟨bb, oo + 1, none⟩ = some (.slice B1 n1 k1)) (first | (simp [go_sem]; done) | (simp [go_sem, *]; done) | exact ⟨q0, q1, q2, q3⟩ | go_keep)
    (first
      | (go_at_call 53; have qq := HG1; go_must (refine (HC1.out _ (G1.out.bel HB.out)).mono ?_; rintro e w13 ⟨P13, k13, rfl, hp13, hb⟩; have HG2 := hide (HG1.out.bel hb); have HH2 := hide hp13; replace HB := hide (Below.step HB.out hb); replace HBX := hide (HBX.out.step hb); replace HT := hide (HT.out.step hb); clear hb hp13 qq HG1; replace q0 : w13.cell? ⟨w.heap.size, 0, none⟩ = some (.int .i64 a) := HBX.out.now.cell 0; replace q1 : w13.cell? ⟨w.heap.size, 1, none⟩ = some (.int .i64 b) := HBX.out.now.cell 1; replace q2 : w13.cell? ⟨bb, oo, none⟩ = some (.slice B0 n0 k0) := HB.out.keeps R0.out; replace q3 : w13.cell? ⟨bb, oo + 1, none⟩ = some (.slice B1 n1 k1) := HB.out.keeps R1.out))
      | (go_at_call 53; go_must (refine (HC0.out _ (G0.out.bel (below_drew HB.out))).mono ?_; rintro e w12 ⟨P12, k12, rfl, hp12, hb⟩; have HG1 := hide hp12; replace HB := hide (Below.step (below_drew HB.out) hb); replace HBX := hide (HBX.out.drew.step hb); replace HT := hide (HT.out.drew.step hb); clear hb hp12; replace q0 : w12.cell? ⟨w.heap.size, 0, none⟩ = some (.int .i64 a) := HBX.out.now.cell 0; replace q1 : w12.cell? ⟨w.heap.size, 1, none⟩ = some (.int .i64 b) := HBX.out.now.cell 1; replace q2 : w12.cell? ⟨bb, oo, none⟩ = some (.slice B0 n0 k0) := HB.out.keeps R0.out; replace q3 : w12.cell? ⟨bb, oo + 1, none⟩ = some (.slice B1 n1 k1) := HB.out.keeps R1.out))
      | (go_at_call 75; go_must (refine (HMS.out _ _ _ _ _ HG2.out HH2.out).mono ?_; rintro e w14 ⟨rfl, hb⟩; replace HB := hide (Below.step HB.out hb); replace HBX := hide (HBX.out.step hb); replace HT := hide (HT.out.step hb); clear hb HG2 HH2; replace q0 : w14.cell? ⟨w.heap.size, 0, none⟩ = some (.int .i64 a) := HBX.out.now.cell 0; replace q1 : w14.cell? ⟨w.heap.size, 1, none⟩ = some (.int .i64 b) := HBX.out.now.cell 1; replace q2 : w14.cell? ⟨bb, oo, none⟩ = some (.slice B0 n0 k0) := HB.out.keeps R0.out; replace q3 : w14.cell? ⟨bb, oo + 1, none⟩ = some (.slice B1 n1 k1) := HB.out.keeps R1.out)))
  go_wp2_with fail
  go_region_held3 (fun w' => w'.cell? ⟨w.heap.size, 0, none⟩ = some (.int .i64 a) ∧ w'.cell? ⟨w.heap.size, 1, none⟩ = some (.int .i64 b) ∧ w'.cell? ⟨bb, oo, none⟩ = some (.slice B0 n0 k0) ∧ w'.cell? ⟨bb, oo + 1, none⟩ = some (.slice B1 n1 k1)) (first | (simp [go_sem]; done) | (simp [go_sem, *]; done) | exact ⟨q0, q1, q2, q3⟩ | go_keep)
    (first | (go_at_call 51; go_must (refine (HTE.out _ (G0.out.bel (below_drew HB.out)) (G1.out.bel (below_drew HB.out))).mono ?_; rintro e w15 ⟨rfl, hb⟩; replace HB := hide (Below.step (below_drew HB.out) hb); replace HBX := hide (HBX.out.drew.step hb); replace HT := hide (HT.out.drew.step hb); clear hb; replace q0 : w15.cell? ⟨w.heap.size, 0, none⟩ = some (.int .i64 a) := HBX.out.now.cell 0; replace q1 : w15.cell? ⟨w.heap.size, 1, none⟩ = some (.int .i64 b) := HBX.out.now.cell 1; replace q2 : w15.cell? ⟨bb, oo, none⟩ = some (.slice B0 n0 k0) := HB.out.keeps R0.out; replace q3 : w15.cell? ⟨bb, oo + 1, none⟩ = some (.slice B1 n1 k1) := HB.out.keeps R1.out)))
  go_wp2_with (go_at_call 69; go_must (refine (HRM.out _).mono ?_; rintro e w16 ⟨rfl, hb⟩; replace HB := hide (Below.step HB.out hb); replace HBX := hide (HBX.out.step hb); replace HT := hide (HT.out.step hb); clear hb; replace q0 : w16.cell? ⟨w.heap.size, 0, none⟩ = some (.int .i64 a) := HBX.out.now.cell 0; replace q1 : w16.cell? ⟨w.heap.size, 1, none⟩ = some (.int .i64 b) := HBX.out.now.cell 1; replace q2 : w16.cell? ⟨bb, oo, none⟩ = some (.slice B0 n0 k0) := HB.out.keeps R0.out; replace q3 : w16.cell? ⟨bb, oo + 1, none⟩ = some (.slice B1 n1 k1) := HB.out.keeps R1.out; simp only []))
  refine wp_region_held_drew (S := (fun w' => w'.cell? ⟨w.heap.size, 0, none⟩ = some (.int .i64 a) ∧ w'.cell? ⟨w.heap.size, 1, none⟩ = some (.int .i64 b) ∧ w'.cell? ⟨bb, oo, none⟩ = some (.slice B0 n0 k0) ∧ w'.cell? ⟨bb, oo + 1, none⟩ = some (.slice B1 n1 k1))) (by kernel_rfl) ?_ (fun hHeld => ?_)
  · exact ⟨q0, q1, q2, q3⟩
  refine wpAnyH_take (i := 0) (v := ?_) rfl (by kernel_rfl) (by kernel_rfl) (by kernel_rfl) (fun _ _ _ h => h) (Or.inl ⟨by kernel_rfl, ?_⟩) (by assumption) ?_
  rotate_left
  · intro w' hSw; (try dsimp only at hSw); go_simp; try with_reducible rfl
  try simp only [Act.put, List.setIfInBounds_toArray]
  refine wpAnyH_take (i := 1) (v := ?_) rfl (by kernel_rfl) (by kernel_rfl) (by kernel_rfl) (fun _ _ _ h => h) (Or.inl ⟨by kernel_rfl, ?_⟩) (by assumption) ?_
  rotate_left
  · intro w' hSw; (try dsimp only at hSw); go_simp; try with_reducible rfl
  try simp only [Act.put]
  refine wpAnyH_take (i := 2) (v := ?_) rfl (by kernel_rfl) (by kernel_rfl) (by kernel_rfl) (fun _ _ _ h => h) (Or.inl ⟨by kernel_rfl, ?_⟩) (by assumption) ?_
  rotate_left
  · intro w' hSw; (try dsimp only at hSw); go_simp; try with_reducible rfl
  try simp only [Act.put]
  refine wpAnyH_take (i := 3) (v := undef) rfl (by kernel_rfl) (by kernel_rfl) (by kernel_rfl) (fun _ _ _ h => h) (Or.inr ⟨by kernel_rfl, rfl⟩) (by assumption) ?_
  try simp only [Act.put]
  refine wpAnyH_take (i := 4) (v := undef) rfl (by kernel_rfl) (by kernel_rfl) (by kernel_rfl) (fun _ _ _ h => h) (Or.inr ⟨by kernel_rfl, rfl⟩) (by assumption) ?_
  try simp only [Act.put]
  refine wpAnyH_take (i := 5) (v := undef) rfl (by kernel_rfl) (by kernel_rfl) (by kernel_rfl) (fun _ _ _ h => h) (Or.inr ⟨by kernel_rfl, rfl⟩) (by assumption) ?_
  try simp only [Act.put]
  refine wpAnyH_take (i := 6) (v := undef) rfl (by kernel_rfl) (by kernel_rfl) (by kernel_rfl) (fun _ _ _ h => h) (Or.inr ⟨by kernel_rfl, rfl⟩) (by assumption) ?_
  try simp only [Act.put]
  refine wpAnyH_take (i := 7) (v := undef) rfl (by kernel_rfl) (by kernel_rfl) (by kernel_rfl) (fun _ _ _ h => h) (Or.inr ⟨by kernel_rfl, rfl⟩) (by assumption) ?_
  try simp only [Act.put]
  refine wpAnyH_take (i := 8) (v := undef) rfl (by kernel_rfl) (by kernel_rfl) (by kernel_rfl) (fun _ _ _ h => h) (Or.inr ⟨by kernel_rfl, rfl⟩) (by assumption) ?_
  try simp only [Act.put]
  refine wpAnyH_take (i := 9) (v := ?_) rfl (by kernel_rfl) (by kernel_rfl) (by kernel_rfl) (fun _ _ _ h => h) (Or.inl ⟨by kernel_rfl, ?_⟩) (by assumption) ?_
  rotate_left
  · intro w' hSw; (try dsimp only at hSw); go_simp; try with_reducible rfl
  try simp only [Act.put]
  refine wpAnyH_take (i := 10) (v := ?_) rfl (by kernel_rfl) (by kernel_rfl) (by kernel_rfl) (fun _ _ _ h => h) (Or.inl ⟨by kernel_rfl, ?_⟩) (by assumption) ?_
  rotate_left
  · intro w' hSw; (try dsimp only at hSw); go_simp; try with_reducible rfl
  try simp only [Act.put]
  refine wpAnyH_take (i := 11) (v := ?_) rfl (by kernel_rfl) (by kernel_rfl) (by kernel_rfl) (fun _ _ _ h => h) (Or.inl ⟨by kernel_rfl, ?_⟩) (by assumption) ?_
  rotate_left
  · intro w' hSw; (try dsimp only at hSw); go_simp; try with_reducible rfl
  try simp only [Act.put]
  refine wpAnyH_take (i := 12) (v := ?_) rfl (by kernel_rfl) (by kernel_rfl) (by kernel_rfl) (fun _ _ _ h => h) (Or.inl ⟨by kernel_rfl, ?_⟩) (by assumption) ?_
  rotate_left
  · intro w' hSw; (try dsimp only at hSw); go_simp; try with_reducible rfl
  try simp only [Act.put]
  refine wpAnyH_take (i := 13) (v := ?_) rfl (by kernel_rfl) (by kernel_rfl) (by kernel_rfl) (fun _ _ _ h => h) (Or.inl ⟨by kernel_rfl, ?_⟩) (by assumption) ?_
  rotate_left
  · intro w' hSw; (try dsimp only at hSw); go_simp; try with_reducible rfl
  try simp only [Act.put]
  refine wpAnyH_take (i := 14) (v := ?_) rfl (by kernel_rfl) (by kernel_rfl) (by kernel_rfl) (fun _ _ _ h => h) (Or.inl ⟨by kernel_rfl, ?_⟩) (by assumption) ?_
  rotate_left
  · intro w' hSw; (try dsimp only at hSw); go_simp; try with_reducible rfl
  try simp only [Act.put]
  refine wpAnyH_take (i := 15) (v := ?_) rfl (by kernel_rfl) (by kernel_rfl) (by kernel_rfl) (fun _ _ _ h => h) (Or.inl ⟨by kernel_rfl, ?_⟩) (by assumption) ?_
  rotate_left
  · intro w' hSw; (try dsimp only at hSw); go_simp; try with_reducible rfl
  try simp only [Act.put]
  refine wpAnyH_take (i := 16) (v := ?_) rfl (by kernel_rfl) (by kernel_rfl) (by kernel_rfl) (fun _ _ _ h => h) (Or.inl ⟨by kernel_rfl, ?_⟩) (by assumption) ?_
  rotate_left
  · intro w' hSw; (try dsimp only at hSw); go_simp; try with_reducible rfl
  try simp only [Act.put]
  refine wpAnyH_take (i := 17) (v := ?_) rfl (by kernel_rfl) (by kernel_rfl) (by kernel_rfl) (fun _ _ _ h => h) (Or.inl ⟨by kernel_rfl, ?_⟩) (by assumption) ?_
  rotate_left
  · intro w' hSw; (try dsimp only at hSw); go_simp; try with_reducible rfl
  try simp only [Act.put]
  refine wpAnyH_take (i := 18) (v := ?_) rfl (by kernel_rfl) (by kernel_rfl) (by kernel_rfl) (fun _ _ _ h => h) (Or.inl ⟨by kernel_rfl, ?_⟩) (by assumption) ?_
  rotate_left
  · intro w' hSw; (try dsimp only at hSw); go_simp; try with_reducible rfl
  try simp only [Act.put]
  refine wpAnyH_take (i := 19) (v := ?_) rfl (by kernel_rfl) (by kernel_rfl) (by kernel_rfl) (fun _ _ _ h => h) (Or.inl ⟨by kernel_rfl, ?_⟩) (by assumption) ?_
  rotate_left
  · intro w' hSw; (try dsimp only at hSw); go_simp; try with_reducible rfl
  try simp only [Act.put]
  refine wpAnyH_take (i := 20) (v := ?_) rfl (by kernel_rfl) (by kernel_rfl) (by kernel_rfl) (fun _ _ _ h => h) (Or.inl ⟨by kernel_rfl, ?_⟩) (by assumption) ?_
  rotate_left
  · intro w' hSw; (try dsimp only at hSw); go_simp; try with_reducible rfl
  try simp only [Act.put]
  refine wpAnyH_take (i := 21) (v := ?_) rfl (by kernel_rfl) (by kernel_rfl) (by kernel_rfl) (fun _ _ _ h => h) (Or.inl ⟨by kernel_rfl, ?_⟩) (by assumption) ?_
  rotate_left
  · intro w' hSw; (try dsimp only at hSw); go_simp; try with_reducible rfl
  try simp only [Act.put]
  refine wpAnyH_take (i := 22) (v := ?_) rfl (by kernel_rfl) (by kernel_rfl) (by kernel_rfl) (fun _ _ _ h => h) (Or.inl ⟨by kernel_rfl, ?_⟩) (by assumption) ?_
  rotate_left
  · intro w' hSw; (try dsimp only at hSw); go_simp; try with_reducible rfl
  try simp only [Act.put]
  refine wpAnyH_take (i := 23) (v := ?_) rfl (by kernel_rfl) (by kernel_rfl) (by kernel_rfl) (fun _ _ _ h => h) (Or.inl ⟨by kernel_rfl, ?_⟩) (by assumption) ?_
  rotate_left
  · intro w' hSw; (try dsimp only at hSw); go_simp; try with_reducible rfl
  try simp only [Act.put]
  refine wpAnyH_take (i := 24) (v := ?_) rfl (by kernel_rfl) (by kernel_rfl) (by kernel_rfl) (fun _ _ _ h => h) (Or.inl ⟨by kernel_rfl, ?_⟩) (by assumption) ?_
  rotate_left
  · intro w' hSw; (try dsimp only at hSw); go_simp; try with_reducible rfl
  try simp only [Act.put]
  refine wpAnyH_ready (rs := [25]) (by kernel_rfl) (by simp) ?_
  refine AllReadyH.cons rfl (fun K hK => ?_) AllReadyH.nil
  go_simp
  go_at_call 76
  refine (HMR.out _ (G0.out.bel (below_drew HB.out)) (G1.out.bel (below_drew HB.out))).mono ?_
  rintro e w17 ⟨rfl, hb⟩; replace HB := hide (Below.step (below_drew HB.out) hb); replace HBX := hide (HBX.out.drew.step hb); replace HT := hide (HT.out.drew.step hb); clear hb; replace q0 : w17.cell? ⟨w.heap.size, 0, none⟩ = some (.int .i64 a) := HBX.out.now.cell 0; replace q1 : w17.cell? ⟨w.heap.size, 1, none⟩ = some (.int .i64 b) := HBX.out.now.cell 1; replace q2 : w17.cell? ⟨bb, oo, none⟩ = some (.slice B0 n0 k0) := HB.out.keeps R0.out; replace q3 : w17.cell? ⟨bb, oo + 1, none⟩ = some (.slice B1 n1 k1) := HB.out.keeps R1.out
  try simp only []
  refine hK.out _ _ ?_ (fun hHeld => ?_)
  · exact ⟨q0, q1, q2, q3⟩
  clear hK K
  try simp only [Act.put, List.setIfInBounds_toArray, List.set_cons_zero, List.set_cons_succ]
  refine wpAnyH_take (i := 26) (v := ?_) rfl (by kernel_rfl) (by kernel_rfl) (by kernel_rfl) (fun _ _ _ h => h) (Or.inl ⟨by kernel_rfl, ?_⟩) (by assumption) ?_
  rotate_left
  · intro w' hSw; (try dsimp only at hSw); go_simp; try with_reducible rfl
  try simp only [Act.put, List.setIfInBounds_toArray]
  refine wpAnyH_take (i := 27) (v := ?_) rfl (by kernel_rfl) (by kernel_rfl) (by kernel_rfl) (fun _ _ _ h => h) (Or.inl ⟨by kernel_rfl, ?_⟩) (by assumption) ?_
  rotate_left
  · intro w' hSw; (try dsimp only at hSw); go_simp; try with_reducible rfl
  try simp only [Act.put]
  refine wpAnyH_take (i := 28) (v := ?_) rfl (by kernel_rfl) (by kernel_rfl) (by kernel_rfl) (fun _ _ _ h => h) (Or.inl ⟨by kernel_rfl, ?_⟩) (by assumption) ?_
  rotate_left
  · intro w' hSw; (try dsimp only at hSw); go_simp; try with_reducible rfl
  try simp only [Act.put]
  refine wpAnyH_take (i := 29) (v := ?_) rfl (by kernel_rfl) (by kernel_rfl) (by kernel_rfl) (fun _ _ _ h => h) (Or.inl ⟨by kernel_rfl, ?_⟩) (by assumption) ?_
  rotate_left
  · intro w' hSw; (try dsimp only at hSw); go_simp; try with_reducible rfl
  try simp only [Act.put]
  refine wpAnyH_done (by kernel_rfl) ?_ _
  clear hHeld
  go_wp2_with (first
    | (go_at_call 68; go_must (refine (HU.out _ (HS.out.bel gr_lasts HB.out)).mono ?_; rintro e w20 ⟨rfl, hb⟩; replace HB := hide (Below.step HB.out hb); replace HBX := hide (HBX.out.step hb); replace HT := hide (HT.out.step hb); clear hb; replace q0 : w20.cell? ⟨w.heap.size, 0, none⟩ = some (.int .i64 a) := HBX.out.now.cell 0; replace q1 : w20.cell? ⟨w.heap.size, 1, none⟩ = some (.int .i64 b) := HBX.out.now.cell 1; simp only []))
    | (go_at_call 69; go_must (refine (HRM.out _).mono ?_; rintro e w21 ⟨rfl, hb⟩; replace HB := hide (Below.step HB.out hb); replace HBX := hide (HBX.out.step hb); replace HT := hide (HT.out.step hb); clear hb; replace q0 : w21.cell? ⟨w.heap.size, 0, none⟩ = some (.int .i64 a) := HBX.out.now.cell 0; replace q1 : w21.cell? ⟨w.heap.size, 1, none⟩ = some (.int .i64 b) := HBX.out.now.cell 1; simp only []))
    | (go_at_call 77; go_must (refine (HRC.out _ (HS.out.bel gr_lasts HB.out) (HPS.out.bel HB.out)).mono ?_; rintro e w22 ⟨rfl, hb⟩; replace HB := hide (Below.step HB.out hb); replace HBX := hide (HBX.out.step hb); replace HT := hide (HT.out.step hb); clear hb; replace q0 : w22.cell? ⟨w.heap.size, 0, none⟩ = some (.int .i64 a) := HBX.out.now.cell 0; replace q1 : w22.cell? ⟨w.heap.size, 1, none⟩ = some (.int .i64 b) := HBX.out.now.cell 1; simp only []))
    | (go_at_call 79; go_must (refine (HRP.out _ (HS.out.bel gr_lasts HB.out)).mono ?_; rintro e w23 ⟨P23, k23, rfl, hp23, hb⟩; have HP23 := hide hp23; replace HB := hide (Below.step HB.out hb); replace HBX := hide (HBX.out.step hb); replace HT := hide (HT.out.step hb); clear hb hp23; replace q0 : w23.cell? ⟨w.heap.size, 0, none⟩ = some (.int .i64 a) := HBX.out.now.cell 0; replace q1 : w23.cell? ⟨w.heap.size, 1, none⟩ = some (.int .i64 b) := HBX.out.now.cell 1; simp only []))
    | (go_at_call 78; go_must (refine (HSP.out _ _ _ _ _ HT.out.now.2 HP23.out).mono ?_; rintro e w24 ⟨rfl, m24, rfl⟩; replace HB := hide (below_drewN HB.out m24); simp only [])))
  go_ret
  exact ⟨by first | rfl | (simp; done) | simp [*], HB.out⟩

end Go.Proofs.Ytamkannjdbodpaa
