import Derived.Test.YtppkibgemacdbaaSbH
namespace Go.Proofs.Ytppkibgemacdbaa
open Go.RowKit Go.WideShapes Go.ChangeShapes

/-! next of a run of any users -/
def NextR (Us : List Nat) (X : Int) (w : World) (e : Ending) (w' : World) : Prop := (e = .returned (.pointer none) ∨ ∃ k, ∃ h : k < Us.length, e = .returned (.pointer (some ⟨Us[k], 0, none⟩)) ∧ X ≠ 0) ∧ Below w.heap.size w w'
set_option maxRecDepth 100000 in
set_option maxHeartbeats 16000000 in
theorem next_all (B C P : Int) (A : Option Addr) (c n : Nat) (R : Nat) (D : Option Addr) (m c' : Nat) (Us : List Nat) (S : List Usr) (w : World) (hm : S.length = m) (hm8 : m ≤ 8) (hR : Blk w R 93 #[.int .i64 B, .int .i64 C, .int .i64 P, .slice A n c, .slice D m c']) (hD : Sl w D (Us.map ptrV)) (hU : UsrAt w Us S) (hok : ∀ s ∈ S, OkU s)
    (hB : 0 ≤ B ∧ B ≤ 1000000) (hC : 0 ≤ C ∧ C ≤ 1000000) (hP : 0 ≤ P ∧ P ≤ 1000000) :
    Calls Try.prog 56 #[.pointer (some ⟨R, 0, none⟩)] w (NextR Us (remN B (S.map (·.bl)) m) w) := by
  have HLE := hide (fun W k1 k2 k3 => left_all B C P A c n R D m c' Us S W hm hm8 k1 k2 k3 hok hB hC hP)
  have HOK := hide hok
  have HUL := hide hU.1
  have HT := hide ((stay_blk hR).and (stay_sl hD) |>.and (show Stay w (fun W => UsrAt W Us S) from fun W hW => hU.bel hW))
  have hRl := hR.lt
  obtain ⟨X, hX⟩ : ∃ X, remN B (S.map (·.bl)) m = X := ⟨_, rfl⟩
  obtain ⟨Y, hY⟩ : ∃ X, remN C (S.map blC) m = X := ⟨_, rfl⟩
  obtain ⟨Z, hZ⟩ : ∃ X, remN P (S.map blP) m = X := ⟨_, rfl⟩
  rw [hX, hY, hZ] at HLE
  rw [hX]
  clear hX hY hZ hR hD hU hok hB hC hP
  go_enter Try.func56, Try.ntmps56
  go_wp2_with fail
  go_at_call 63
  refine (HLE.out _ HT.out.now.1.1 HT.out.now.1.2 HT.out.now.2).mono ?_
  rintro e w1 ⟨rfl, HB⟩
  replace HB := hide HB
  clear HLE
  simp only []
  have HL := hide (Blk.new w1 51 #[.int .i64 X, .int .i64 Y, .int .i64 Z])
  obtain ⟨L, hL⟩ : ∃ L, w1.heap.size = L := ⟨_, rfl⟩
  have hL1 : w.heap.size ≤ L := by have := HB.out.size; omega
  replace HB := hide (HB.out.alloc (by omega) (.cells #[.int .i64 X, .int .i64 Y, .int .i64 Z] 51))
  rw [hL] at HL
  by_cases hX : X = 0
  · subst hX
    go_wp2
    go_ret
    exact ⟨.inl rfl, HB.out⟩
  · have hX0 : (X == 0) = false := by simpa using hX
    replace hX := hide hX
    obtain ⟨W0, hW0⟩ : ∃ W0, w1.alloc (.cells #[.int .i64 X, .int .i64 Y, .int .i64 Z] 51) = W0 := ⟨_, rfl⟩
    rw [hW0] at HB HL
    have l0 : W0.cell? ⟨L, 0, none⟩ = some (.int .i64 X) := HL.out.cell 0
    have r4 : W0.cell? ⟨R, 4, none⟩ = some (.slice D m c') := (HT.out _ HB.out).1.1.cell 4
    go_wp2_with fail
    clear hW0 hL hL1 l0 r4 hX0
    replace HL := hide (stay_blk HL.out)
    go_loopw [4, 18] (fun best i wr => ∃ k : Nat, k ≤ m ∧ i = .int .i64 k ∧ (best = .pointer none ∨ ∃ j, ∃ h : j < Us.length, best = .pointer (some ⟨Us[j], 0, none⟩)) ∧ Below W0.heap.size W0 wr) (fun _ i _ => m - (intOf i).toNat)
    case atStart => exact ⟨0, Nat.zero_le _, rfl, .inl rfl, Below.refl _ _⟩
    case round =>
      obtain ⟨k, hkm, rfl, hbest, hbel⟩ := hrel
      replace hbel := hide hbel
      by_cases hlt : k < m
      · have hkl : k < S.length := by omega
        have hki : (k : Int) < (m : Int) := by omega
        have hkU : k < Us.length := by rw [HUL.out]; exact hkl
        have HBw := hide (Below.step HB.out hbel.out)
        obtain ⟨V, vo, rfl, v0⟩ := sl_ptr (HT.out _ HBw.out).1.2 k hkU
        have HTU := hide (fun W (h : Below w.heap.size w W) => (HT.out W h).2.2.2 k hkl hkU)
        have hu := HOK.out S[k] (List.getElem_mem hkl)
        have HUk := hide (And.intro hkU (Eq.refl (Us[k])))
        obtain ⟨s, hs⟩ : ∃ s, S[k] = s := ⟨_, rfl⟩
        obtain ⟨U, hU⟩ : ∃ U, Us[k] = U := ⟨_, rfl⟩
        rw [hs] at HTU hu
        rw [hU] at v0 HTU
        replace hU := hide hU
        replace hu := hide hu
        clear hs HUk
        go_wp2_with fail
        clear v0
        refine nx8 _ (fun _ _ d _ _ h => by cases d <;> exact h) U L s hu.out X Y Z wr _ _ _ _ _ _ _ _ _ _ _ _ _ _ _ _ _ _ _ _ _ _ _ _ _ _ _ _ _ _ _ _ _ _ _ _ _ _ _ _ _ _ _ _ _ _ _ _ _ _ _ _ _ _ _ _ _ _ _ _ _ _ _ _ _ _ _ _ _ _ _ _ _ _ _ _ _ _ _ _ _ _ _ _ _ _ _ _ _ _ _ _ _ (fun W h => ⟨HTU.out W (Below.step HBw.out h), HL.out W (Below.step hbel.out h)⟩) (fun _ _ _ _ _ _ _ _ _ _ _ _ _ _ _ _ _ _ _ _ _ _ _ _ _ _ _ _ _ _ _ _ _ _ _ _ b wx hb => ?_)
        replace hbel := hide (Below.step hbel.out hb)
        replace HBw := hide (Below.step HBw.out hb)
        clear hb
        go_wp2_with fail
        cases b
        · refine nx9a _ (fun _ _ d _ _ h => by cases d <;> exact h) U wx _ _ _ _ _ _ _ _ _ _ _ _ _ _ _ _ _ _ _ _ _ _ _ _ _ _ _ _ _ _ _ _ _ _ _ _ _ _ _ _ _ _ _ _ _ _ _ _ _ _ _ _ _ _ _ _ _ _ _ _ _ _ _ _ _ _ _ _ _ _ _ _ _ _ _ _ _ _ _ _ _ _ _ _ _ _ _ _ _ _ _ _ _ (fun _ _ _ _ _ _ _ _ _ _ _ _ _ _ _ _ _ _ _ _ _ _ _ _ _ _ _ _ _ _ _ _ _ b' wy hb => ?_)
          replace hbel := hide (Below.step hbel.out hb)
          clear hb HBw
          cases b'
          · go_wp2_with fail
            go_roundw
            case rel => exact ⟨k + 1, by omega, by go_num, hbest, hbel.out⟩
            case measure => simp [intOf]; omega
          · go_wp2_with fail
            go_roundw
            case rel => exact ⟨k + 1, by omega, by go_num, .inr ⟨k, hkU, by rw [hU.out]⟩, hbel.out⟩
            case measure => simp [intOf]; omega
        · rcases hbest with rfl | ⟨j, hj, rfl⟩
          · refine nx9b _ (fun _ _ d _ _ h => by cases d <;> exact h) U wx _ _ _ _ _ _ _ _ _ _ _ _ _ _ _ _ _ _ _ _ _ _ _ _ _ _ _ _ _ _ _ _ _ _ _ _ _ _ _ _ _ _ _ _ _ _ _ _ _ _ _ _ _ _ _ _ _ _ _ _ _ _ _ _ _ _ _ _ _ _ _ _ _ _ _ _ _ _ _ _ _ _ _ _ _ _ _ _ _ _ _ _ (fun _ _ _ _ _ _ _ _ _ _ _ _ _ _ _ _ _ _ _ _ _ _ _ _ _ _ _ _ _ _ _ _ _ b' wy hb => ?_)
            replace hbel := hide (Below.step hbel.out hb)
            clear hb HBw
            cases b'
            · go_wp2_with fail
              go_roundw
              case rel => exact ⟨k + 1, by omega, by go_num, .inl rfl, hbel.out⟩
              case measure => simp [intOf]; omega
            · go_wp2_with fail
              go_roundw
              case rel => exact ⟨k + 1, by omega, by go_num, .inr ⟨k, hkU, by rw [hU.out]⟩, hbel.out⟩
              case measure => simp [intOf]; omega
          · have hjS : j < S.length := by rw [← HUL.out]; exact hj
            have HTU2 := hide (fun W (h : Below w.heap.size w W) => (HT.out W h).2.2.2 j hjS hj)
            have hu2 := hide (HOK.out S[j] (List.getElem_mem hjS))
            obtain ⟨U2, hU2⟩ : ∃ U2, Us[j] = U2 := ⟨_, rfl⟩
            rw [hU2] at HTU2 ⊢
            replace hU2 := hide hU2
            refine nx9c _ (fun _ _ d _ _ h => by cases d <;> exact h) U U2 s S[j] hu.out hu2.out wx _ _ _ _ _ _ _ _ _ _ _ _ _ _ _ _ _ _ _ _ _ _ _ _ _ _ _ _ _ _ _ _ _ _ _ _ _ _ _ _ _ _ _ _ _ _ _ _ _ _ _ _ _ _ _ _ _ _ _ _ _ _ _ _ _ _ _ _ _ _ _ _ _ _ _ _ _ _ _ _ _ _ _ _ _ _ _ _ _ _ _ _ (fun W h => ⟨HTU.out W (Below.step HBw.out h), HTU2.out W (Below.step HBw.out h)⟩) (fun _ _ _ _ _ _ _ _ _ _ _ _ _ _ _ _ _ _ _ _ _ _ _ _ _ _ _ _ _ _ _ _ _ b' wy hb => ?_)
            replace hbel := hide (Below.step hbel.out hb)
            clear hb HBw
            cases b'
            · go_wp2_with fail
              go_roundw
              case rel => exact ⟨k + 1, by omega, by go_num, .inr ⟨j, hj, by rw [hU2.out]⟩, hbel.out⟩
              case measure => simp [intOf]; omega
            · go_wp2_with fail
              go_roundw
              case rel => exact ⟨k + 1, by omega, by go_num, .inr ⟨k, hkU, by rw [hU.out]⟩, hbel.out⟩
              case measure => simp [intOf]; omega
      · obtain rfl : k = m := by omega
        have hki : ¬ (k : Int) < (k : Int) := by omega
        rcases hbest with rfl | ⟨j, hj, rfl⟩
        · go_wp2
          go_ret
          exact ⟨.inl rfl, Below.step HB.out hbel.out⟩
        · go_wp2
          go_ret
          exact ⟨.inr ⟨j, hj, rfl, hX.out⟩, Below.step HB.out hbel.out⟩
end Go.Proofs.Ytppkibgemacdbaa
