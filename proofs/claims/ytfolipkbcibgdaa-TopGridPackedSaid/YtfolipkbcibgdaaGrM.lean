import Derived.Test.YtfolipkbcibgdaaGrF
import Derived.Deep.MidRow
import Derived.Deep.CutRange
namespace Go.Proofs.Ytfolipkbcibgdaa
open Go.RowKit Go.WideShapes Go.ChangeShapes

/-! whether two covers meet -/
def anyN (n : Nat) (f : Nat → Bool) : Bool := (List.range n).any f
theorem anyN_true {n : Nat} {f : Nat → Bool} : anyN n f = true ↔ ∃ i, i < n ∧ f i = true := by simp [anyN]
theorem anyN_false {n : Nat} {f : Nat → Bool} : anyN n f = false ↔ ∀ i, i < n → f i = false := by simp [anyN]
def bools (n : Nat) (f : Nat → Bool) : List Value := (List.range n).map fun i => .bool (f i)
theorem bools_len (n : Nat) (f : Nat → Bool) : (bools n f).length = n := by simp [bools]
theorem bools_at (n : Nat) (f : Nat → Bool) (i : Nat) (hi : i < n) : (bools n f)[i]? = some (.bool (f i)) := by simp [bools, hi]
theorem CovAt.ticks {w : World} {g : Nat} {tk un : Nat → Bool} (h : CovAt w g tk un) : w.rangeAt g 0 (bools 112 tk) := fun j v hv => by
  have hj : j < 112 := by have := (List.getElem?_eq_some_iff.1 hv).1; rw [bools_len] at this; exact this
  rw [bools_at 112 tk j hj] at hv
  rw [Nat.zero_add, h.tick j hj]; exact hv
theorem CovAt.units {w : World} {g : Nat} {tk un : Nat → Bool} (h : CovAt w g tk un) : w.rangeAt g 112 (bools 600 un) := fun j v hv => by
  have hj : j < 600 := by have := (List.getElem?_eq_some_iff.1 hv).1; rw [bools_len] at this; exact this
  rw [bools_at 600 un j hj] at hv
  rw [h.unit j hj]; exact hv
theorem idx112 (f : Nat → Bool) (k : Nat) (hk : k < 112) (w : World) : (Instr.index 111 (.agg (bools 112 f).toArray) (.int .i64 (k : Int))).run Try.prog w = .ok (.bool (f k)) w := by
  have hu := Try.underlying111
  have h1 : 0 ≤ (k : Int) ∧ (k : Int) < 112 := by omega
  simp [Instr.index, run_underlying hu, asIntOf, go_sem, bools_at 112 f k hk]
  intro hle
  omega
theorem idx600 (f : Nat → Bool) (k : Nat) (hk : k < 600) (w : World) : (Instr.index 112 (.agg (bools 600 f).toArray) (.int .i64 (k : Int))).run Try.prog w = .ok (.bool (f k)) w := by
  have hu := Try.underlying112
  have h1 : 0 ≤ (k : Int) ∧ (k : Int) < 600 := by omega
  simp [Instr.index, run_underlying hu, asIntOf, go_sem, bools_at 600 f k hk]
  intro hle
  omega
def MeetR (T U : Bool) (w : World) (e : Ending) (w' : World) : Prop := ∃ a b : Int, e = .returned (.tuple #[.int .i64 a, .int .i64 b]) ∧ (a ≠ -1 ↔ T = true) ∧ (b ≠ -1 ↔ U = true) ∧ w = w'
set_option maxRecDepth 100000 in
set_option maxHeartbeats 4000000 in
theorem meet_grid (g1 g2 : Nat) (tk1 un1 tk2 un2 : Nat → Bool) (w : World) (h1 : CovAt w g1 tk1 un1) (h2 : CovAt w g2 tk2 un2) :
    Calls Try.prog 62 #[.pointer (some ⟨g1, 0, none⟩), .pointer (some ⟨g2, 0, none⟩)] w (MeetR (anyN 112 fun i => tk1 i && tk2 i) (anyN 600 fun i => un1 i && un2 i) w) := by
  have hr1 := hide h1.ticks
  have hr2 := hide h1.units
  have hz1 : (Try.prog.info? 111).map (·.size) = some (bools 112 tk1).length := by rw [bools_len]; kernel_rfl
  have hz2 : (Try.prog.info? 112).map (·.size) = some (bools 600 un1).length := by rw [bools_len]; kernel_rfl
  have hx1 := hide (fun k hk => idx112 tk1 k hk w)
  have hx2 := hide (fun k hk => idx600 un1 k hk w)
  have hT := hide (fun k (hk : k < 112) => h2.tick k hk)
  have hU := hide (fun k (hk : k < 600) => h2.unit k hk)
  replace hz1 := hide hz1
  replace hz2 := hide hz2
  clear h1 h2
  go_enter Try.func62, Try.ntmps62
  go_wp2_with (refine wpList_load_mid rfl 111 (.tmp 14) rfl g1 0 rfl (bools 112 tk1) _ hr1.out Try.underlying111 rfl hz1.out ?_)
  obtain ⟨B1, hB1⟩ : ∃ B, (bools 112 tk1).toArray = B := ⟨_, rfl⟩
  rw [hB1] at hx1 ⊢
  clear hB1 hr1 hz1
  go_loopw [6, 16] (fun v i wr => ∃ k : Nat, k ≤ 112 ∧ i = .int .i64 k ∧ v = .int .i64 (-1) ∧ (∀ j, j < k → (tk1 j && tk2 j) = false) ∧ w = wr) (fun _ i _ => 112 - (intOf i).toNat)
  case atStart => exact ⟨0, Nat.zero_le _, rfl, rfl, fun j hj => absurd hj (by omega), rfl⟩
  case round =>
    obtain ⟨k, hk, rfl, rfl, hpre, rfl⟩ := hrel
    replace hpre := hide hpre
    by_cases hlt : k < 112
    · have hki : (k : Int) < 112 := by omega
      have hi1 := hx1.out k hlt
      have hc1 := hT.out k hlt
      cases e1 : tk1 k
      · rw [e1] at hi1
        have hn := hide (fun j (hj : j < k + 1) => show (tk1 j && tk2 j) = false from by
          by_cases q : j < k
          · exact hpre.out j q
          · obtain rfl : j = k := by omega
            rw [e1]; rfl)
        clear e1
        go_wp2_with fail
        exact ⟨⟨k + 1, by omega, by go_num, rfl, hn.out, trivial⟩, by simp [intOf]; omega⟩
      · rw [e1] at hi1
        cases e2 : tk2 k
        · rw [e2] at hc1
          have hn := hide (fun j (hj : j < k + 1) => show (tk1 j && tk2 j) = false from by
            by_cases q : j < k
            · exact hpre.out j q
            · obtain rfl : j = k := by omega
              rw [e1, e2]; rfl)
          clear e1 e2
          go_wp2_with fail
          exact ⟨⟨k + 1, by omega, by go_num, rfl, hn.out, trivial⟩, by simp [intOf]; omega⟩
        rw [e2] at hc1
        have hA := hide (show (k : Int) ≠ -1 ↔ (anyN 112 fun i => tk1 i && tk2 i) = true from ⟨fun _ => anyN_true.2 ⟨k, hlt, by simp [e1, e2]⟩, fun _ => by omega⟩)
        clear e1 e2
        go_wp2_with (refine wpList_load_mid rfl 112 (.tmp 33) rfl g1 112 rfl (bools 600 un1) _ hr2.out Try.underlying112 rfl hz2.out ?_)
        obtain ⟨B2, hB2⟩ : ∃ B, (bools 600 un1).toArray = B := ⟨_, rfl⟩
        rw [hB2] at hx2 ⊢
        clear hB2
        go_loopw [7, 35] (fun v i wr => ∃ k : Nat, k ≤ 600 ∧ i = .int .i64 k ∧ v = .int .i64 (-1) ∧ (∀ j, j < k → (un1 j && un2 j) = false) ∧ w = wr) (fun _ i _ => 600 - (intOf i).toNat)
        case atStart => exact ⟨0, Nat.zero_le _, rfl, rfl, fun j hj => absurd hj (by omega), rfl⟩
        case round =>
          obtain ⟨m, hm, rfl, rfl, hpre2, rfl⟩ := hrel
          replace hpre2 := hide hpre2
          by_cases hlt2 : m < 600
          · have hmi : (m : Int) < 600 := by omega
            have hi2 := hx2.out m hlt2
            have hc2 := hU.out m hlt2
            cases e1 : un1 m
            · rw [e1] at hi2
              have hn2 := hide (fun j (hj : j < m + 1) => show (un1 j && un2 j) = false from by
                by_cases q : j < m
                · exact hpre2.out j q
                · obtain rfl : j = m := by omega
                  rw [e1]; rfl)
              clear e1
              go_wp2_with fail
              exact ⟨⟨m + 1, by omega, by go_num, rfl, hn2.out, trivial⟩, by simp [intOf]; omega⟩
            · rw [e1] at hi2
              cases e2 : un2 m
              · rw [e2] at hc2
                have hn2 := hide (fun j (hj : j < m + 1) => show (un1 j && un2 j) = false from by
                  by_cases q : j < m
                  · exact hpre2.out j q
                  · obtain rfl : j = m := by omega
                    rw [e1, e2]; rfl)
                clear e1 e2
                go_wp2_with fail
                exact ⟨⟨m + 1, by omega, by go_num, rfl, hn2.out, trivial⟩, by simp [intOf]; omega⟩
              · rw [e2] at hc2
                have hF := hide (show (anyN 600 fun i => un1 i && un2 i) = true from anyN_true.2 ⟨m, hlt2, by simp [e1, e2]⟩)
                clear e1 e2
                go_wp2_with fail
                exact bodyPost_ret (v := .tuple #[.int .i64 (k : Int), .int .i64 (m : Int)]) (by simp [results, Try.results62, go_sem]) rfl ⟨(k : Int), (m : Int), rfl, hA.out, ⟨fun _ => hF.out, fun _ => by omega⟩, rfl⟩
          · obtain rfl : m = 600 := by omega
            have hF := hide (show (anyN 600 fun i => un1 i && un2 i) = false from anyN_false.2 fun i hi => hpre2.out i hi)
            go_wp2_with fail
            exact bodyPost_ret (v := .tuple #[.int .i64 (k : Int), .int .i64 (-1)]) (by simp [results, Try.results62, go_sem]) rfl ⟨(k : Int), -1, rfl, hA.out, ⟨fun h => absurd rfl h, fun h => by rw [hF.out] at h; exact absurd h (by decide)⟩, rfl⟩
    obtain rfl : k = 112 := by omega
    have hA := hide (show (-1 : Int) ≠ -1 ↔ (anyN 112 fun i => tk1 i && tk2 i) = true from ⟨fun h => absurd rfl h, fun h => by rw [anyN_false.2 fun i hi => hpre.out i hi] at h; exact absurd h (by decide)⟩)
    go_wp2_with (refine wpList_load_mid rfl 112 (.tmp 33) rfl g1 112 rfl (bools 600 un1) _ hr2.out Try.underlying112 rfl hz2.out ?_)
    obtain ⟨B2, hB2⟩ : ∃ B, (bools 600 un1).toArray = B := ⟨_, rfl⟩
    rw [hB2] at hx2 ⊢
    clear hB2
    go_loopw [7, 35] (fun v i wr => ∃ k : Nat, k ≤ 600 ∧ i = .int .i64 k ∧ v = .int .i64 (-1) ∧ (∀ j, j < k → (un1 j && un2 j) = false) ∧ w = wr) (fun _ i _ => 600 - (intOf i).toNat)
    case atStart => exact ⟨0, Nat.zero_le _, rfl, rfl, fun j hj => absurd hj (by omega), rfl⟩
    case round =>
      obtain ⟨m, hm, rfl, rfl, hpre2, rfl⟩ := hrel
      replace hpre2 := hide hpre2
      by_cases hlt2 : m < 600
      · have hmi : (m : Int) < 600 := by omega
        have hi2 := hx2.out m hlt2
        have hc2 := hU.out m hlt2
        cases e1 : un1 m
        · rw [e1] at hi2
          have hn2 := hide (fun j (hj : j < m + 1) => show (un1 j && un2 j) = false from by
            by_cases q : j < m
            · exact hpre2.out j q
            · obtain rfl : j = m := by omega
              rw [e1]; rfl)
          clear e1
          go_wp2_with fail
          exact ⟨⟨m + 1, by omega, by go_num, rfl, hn2.out, trivial⟩, by simp [intOf]; omega⟩
        · rw [e1] at hi2
          cases e2 : un2 m
          · rw [e2] at hc2
            have hn2 := hide (fun j (hj : j < m + 1) => show (un1 j && un2 j) = false from by
              by_cases q : j < m
              · exact hpre2.out j q
              · obtain rfl : j = m := by omega
                rw [e1, e2]; rfl)
            clear e1 e2
            go_wp2_with fail
            exact ⟨⟨m + 1, by omega, by go_num, rfl, hn2.out, trivial⟩, by simp [intOf]; omega⟩
          · rw [e2] at hc2
            have hF := hide (show (anyN 600 fun i => un1 i && un2 i) = true from anyN_true.2 ⟨m, hlt2, by simp [e1, e2]⟩)
            clear e1 e2
            go_wp2_with fail
            exact bodyPost_ret (v := .tuple #[.int .i64 (-1), .int .i64 (m : Int)]) (by simp [results, Try.results62, go_sem]) rfl ⟨(-1), (m : Int), rfl, hA.out, ⟨fun _ => hF.out, fun _ => by omega⟩, rfl⟩
      · obtain rfl : m = 600 := by omega
        have hF := hide (show (anyN 600 fun i => un1 i && un2 i) = false from anyN_false.2 fun i hi => hpre2.out i hi)
        go_wp2_with fail
        exact bodyPost_ret (v := .tuple #[.int .i64 (-1), .int .i64 (-1)]) (by simp [results, Try.results62, go_sem]) rfl ⟨(-1), -1, rfl, hA.out, ⟨fun h => absurd rfl h, fun h => by rw [hF.out] at h; exact absurd h (by decide)⟩, rfl⟩
/-- whether two covers meet: in a tick, and in a unit -/
def meetB (tk1 un1 tk2 un2 : Nat → Bool) : Bool := (anyN 112 fun i => tk1 i && tk2 i) && (anyN 600 fun i => un1 i && un2 i)
set_option maxRecDepth 100000 in
theorem meets_grid (g1 g2 : Nat) (tk1 un1 tk2 un2 : Nat → Bool) (w : World) (h1 : CovAt w g1 tk1 un1) (h2 : CovAt w g2 tk2 un2) :
    Calls Try.prog 49 #[.pointer (some ⟨g1, 0, none⟩), .pointer (some ⟨g2, 0, none⟩)] w fun e w' => e = .returned (.bool (meetB tk1 un1 tk2 un2)) ∧ w = w' := by
  have hM := hide (meet_grid g1 g2 tk1 un1 tk2 un2 w h1 h2)
  unfold meetB
  obtain ⟨X, hX⟩ : ∃ b, (anyN 112 fun i => tk1 i && tk2 i) = b := ⟨_, rfl⟩
  obtain ⟨Y, hY⟩ : ∃ b, (anyN 600 fun i => un1 i && un2 i) = b := ⟨_, rfl⟩
  rw [hX, hY] at hM ⊢
  clear h1 h2 hX hY
  go_enter Try.func49, Try.ntmps49
  go_wp2_with fail
  go_at_call 62
  refine hM.out.mono ?_
  rintro e w1 ⟨a, b, rfl, ha, hb, rfl⟩
  simp only []
  cases X
  · have ha' : (a != -1) = false := by rw [bne_eq_false_iff_eq]; exact Classical.byContradiction fun h => absurd (ha.1 h) (by decide)
    clear ha hb
    go_wp2_with fail
    go_ret
    exact ⟨rfl, rfl⟩
  · have ha' : (a != -1) = true := by rw [bne_iff_ne]; exact ha.2 rfl
    cases Y
    · have hb' : (b != -1) = false := by rw [bne_eq_false_iff_eq]; exact Classical.byContradiction fun h => absurd (hb.1 h) (by decide)
      clear ha hb
      go_wp2_with fail
      go_ret
      exact ⟨rfl, rfl⟩
    · have hb' : (b != -1) = true := by rw [bne_iff_ne]; exact hb.2 rfl
      clear ha hb
      go_wp2_with fail
      go_ret
      exact ⟨rfl, rfl⟩
end Go.Proofs.Ytfolipkbcibgdaa
