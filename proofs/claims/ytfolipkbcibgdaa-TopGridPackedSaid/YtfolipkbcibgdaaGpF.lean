import Derived.Test.YtfolipkbcibgdaaGpTa
import Derived.Test.YtfolipkbcibgdaaGpTb
import Derived.Test.YtfolipkbcibgdaaGpTc
namespace Go.Proofs.Ytfolipkbcibgdaa
open Go.RowKit Go.WideShapes Go.ChangeShapes

/-! the reference's Parse at the example's text -/
theorem Rws.rowNe {α : Type} {n : Nat} {cs : α → List Value} {w : World} {A : Option Addr} {L : List α} (h : Rws n cs w A L) {g : Nat} (hne : ∀ b o, A = some ⟨b, o, none⟩ → b ≠ g) (us : Array Value) : Rws n cs (w.setRow g us) A L := fun k hk => by
  obtain ⟨b, off, e, h1⟩ := h k hk
  refine ⟨b, off, e, fun j u hu => ?_⟩
  rw [← h1 j u hu]
  unfold World.cell?
  rw [setRow_other w g b us (hne b off e)]
def ParR (w : World) (e : Ending) (w' : World) : Prop :=
  ∃ A3 c3 A4 c4, e = .returned (.tuple #[.agg #[strV [99], .int .i64 4, .int .i64 48, .slice A3 1 c3, .slice A4 4 c4], .agg #[.int .i64 0, .int .i64 0], .int .i64 0]) ∧ (Prts w' A3 exP ∧ Sigs w' A4 exS) ∧ ((∀ b o, A3 = some ⟨b, o, none⟩ → w.heap.size + 1 < b) ∧ ∀ b o, A4 = some ⟨b, o, none⟩ → w.heap.size + 1 < b) ∧ Below w.heap.size w w'
set_option maxRecDepth 100000 in
set_option maxHeartbeats 16000000 in
theorem parse_ex (w : World) : Calls Try.prog 31 #[strV exT] w (ParR w) := by
  obtain ⟨i0, hi0, hz0, hz1, hz2⟩ := info_parts int_info
  obtain ⟨i1, hj0, hy0, hy1, hy2⟩ := info_parts prt_info
  obtain ⟨i2, hk0, hx0, hx1, hx2⟩ := info_parts sig_info
  have hlen := fun t W => len_str exT t W
  have hl172 : exT.length = 169 := by kernel_rfl
  rw [hl172] at hlen
  have hT : exT.length ≤ 1000 := by rw [hl172]; omega
  have HCT := hide (fun W => cut_ref exT W hT)
  clear hT hl172
  obtain ⟨ST, hST⟩ : ∃ S, strV exT = S := ⟨_, rfl⟩
  rw [hST] at hlen HCT ⊢
  clear hST
  have HT := hide (((((stay_blk (Blk.new w 25 #[.string ⟨#[]⟩, .int .i64 0, .int .i64 0, .slice none 0 0, .slice none 0 0])).alloc (.cells #[.int .i64 0, .int .i64 0] 75)).alloc (.cells #[.string ⟨#[]⟩, .int .i64 0, .int .i64 0, .slice none 0 0, .slice none 0 0] 25)).and ((stay_blk (blk_up w 25 75 #[.string ⟨#[]⟩, .int .i64 0, .int .i64 0, .slice none 0 0, .slice none 0 0] #[.int .i64 0, .int .i64 0])).alloc (.cells #[.string ⟨#[]⟩, .int .i64 0, .int .i64 0, .slice none 0 0, .slice none 0 0] 25))).and (stay_below ((((Below.refl _ w).alloc (Nat.le_refl _) (.cells #[.string ⟨#[]⟩, .int .i64 0, .int .i64 0, .slice none 0 0, .slice none 0 0] 25)).alloc (by simp) (.cells #[.int .i64 0, .int .i64 0] 75)).alloc (by simp; omega) (.cells #[.string ⟨#[]⟩, .int .i64 0, .int .i64 0, .slice none 0 0, .slice none 0 0] 25))))
  go_enter Try.func31, Try.ntmps31
  go_wp2_with fail
  go_at_call 53
  refine (HCT.out _).mono ?_
  rintro e w1 ⟨A6, c6, rfl, ho6, hb⟩
  replace HT := hide (HT.out.step hb)
  clear hb HCT
  rw [exT_cut] at ho6 ⊢
  have h7 : (exL ++ [[]]).length = 7 := rfl
  rw [h7] at ho6 ⊢
  obtain ⟨b6, o6, rfl, hl6⟩ : ∃ b o, A6 = some ⟨b, o, none⟩ ∧ ∀ k (hk : k < 7), w1.cell? ⟨b, o + k, none⟩ = some (strV ((exL ++ [[]])[k]'hk)) := by
    have hs := Sl.of_ownN ho6
    obtain ⟨b, o, e, -⟩ := hs 0 (by rw [svL_len]; show 0 < 7; omega)
    refine ⟨b, o, e, fun k hk => ?_⟩
    obtain ⟨b', o', e', h1⟩ := hs k (by rw [svL_len]; exact hk)
    rw [e] at e'
    injection e' with e'
    injection e' with e1 e2
    subst e1 e2
    rw [h1]
    simp only [svL, List.getElem_map]
    rfl
  have hcap := own_cap ho6
  have HL6 := hide hl6
  clear hl6 ho6
  have hd6 : w1.cell? ⟨b6, o6 + 6, none⟩ = some (strV []) := HL6.out 6 (by omega)
  have e6 : ∀ W, (binOp .eql 9 (strV []) (.string ⟨#[]⟩)).run Try.prog W = .ok (.bool true) W := fun W => eq_lit [] [] _ rfl W
  have g6 := fun op u v z => eqG_str op u v [] z
  obtain ⟨SE, hSE⟩ : ∃ S, strV [] = S := ⟨_, rfl⟩
  rw [hSE] at hd6 e6 g6
  clear hSE
  have hsl6 : ∀ W, (Instr.sliceAt 101 (.slice (some ⟨b6, o6, none⟩) 7 c6) none (some (.int .i64 6)) none).run Try.prog W = .ok (.slice (some ⟨b6, o6, none⟩) 6 c6) W := slice_txt b6 o6 7 c6 6 (by omega) (by omega)
  simp only []
  go_wp2_with fail
  clear hd6 e6 g6 hsl6 hlen
  have HBX := hide (Blk.new w1 25 #[.string ⟨#[]⟩, .int .i64 0, .int .i64 0, .slice none 0 0, .slice none 0 0])
  have HB2 := hide (HT.out.alloc (.cells #[.string ⟨#[]⟩, .int .i64 0, .int .i64 0, .slice none 0 0, .slice none 0 0] 25))
  have HBE := hide ((Below.refl w1.heap.size w1).alloc (Nat.le_refl _) (.cells #[.string ⟨#[]⟩, .int .i64 0, .int .i64 0, .slice none 0 0, .slice none 0 0] 25))
  obtain ⟨g7, hg7⟩ : ∃ g, w1.heap.size = g := ⟨_, rfl⟩
  have hl7 : (w1.alloc (.cells #[.string ⟨#[]⟩, .int .i64 0, .int .i64 0, .slice none 0 0, .slice none 0 0] 25)).heap.size = g7 + 1 := by simp [hg7]
  have HL1 : Hid (∀ k (hk : k < 6), (w1.alloc (.cells #[.string ⟨#[]⟩, .int .i64 0, .int .i64 0, .slice none 0 0, .slice none 0 0] 25)).cell? ⟨b6, o6 + k, none⟩ = some (strV (exL[k]'hk)) ∧ b6 ≠ g7) := hide (fun k hk => by
    have h1 := HL6.out k (by omega)
    have h2 := lt_of_cell h1
    refine ⟨?_, by have h3 : b6 < w1.heap.size := h2; omega⟩
    rw [World.cell?_alloc_lt w1 _ _ h2, h1]
    congr 2
    exact List.getElem_append_left hk)
  have hne1 : w.heap.size ≠ g7 := by have := HT.out.now.1.1.lt; omega
  have hne2 : w.heap.size + 1 ≠ g7 := by have := HT.out.now.1.2.lt; omega
  have hle : w.heap.size ≤ g7 := by have := HT.out.now.1.1.lt; omega
  obtain ⟨W1, hW1⟩ : ∃ W1, w1.alloc (.cells #[.string ⟨#[]⟩, .int .i64 0, .int .i64 0, .slice none 0 0, .slice none 0 0] 25) = W1 := ⟨_, rfl⟩
  rw [hW1] at HBX HB2 HBE HL1 hl7 ⊢
  rw [hg7] at HBX HBE ⊢
  have HBU := hide (((but_blk HB2.out.now.1.1 hne1).and (but_blk HB2.out.now.1.2 hne2)).and (but_below HB2.out.now.2 hle))
  have HLN : Hid (∀ k (hk : k < 6) W, W1.grownBy W (some g7) → W.cell? ⟨b6, o6 + k, none⟩ = some (strV (exL[k]'hk))) := hide (fun k hk W hW => by
    obtain ⟨h1, h2⟩ := HL1.out k hk
    have h3 := lt_of_cell h1
    rw [← h1]
    unfold World.cell?
    rw [hW.block b6 h3 (by intro h; injection h with h; exact h2 h)])
  have HG7 := hide (show g7 < W1.heap.size by omega)
  have HBW := hide (show w.heap.size + 1 < W1.heap.size by have := HT.out.now.1.2.lt; omega)
  clear hne1 hne2 hle HL1 HL6 hW1 HB2 HBE HT hl7 hg7
  go_loopw [8, 9, 10, 11] (fun b8 p9 s10 i11 wr => ∃ (i : Nat) (A3 A4 A9 A10 : Option Addr) (c3 c4 c9 c10 : Nat), i ≤ 6 ∧ i11 = .int .i64 (i : Int) ∧ b8 = .int .i64 (bgI i) ∧ p9 = .slice A9 (pnI i) c9 ∧ s10 = .slice A10 (snI i) c10 ∧ PSt g7 W1 i A3 A4 A9 A10 c3 c4 c9 c10 wr) (fun _ _ _ i _ => 6 - (intOf i).toNat)
  case atStart => exact ⟨0, none, none, none, none, 0, 0, 0, 0, Nat.zero_le _, rfl, rfl, rfl, rfl, HBX.out, World.ownsRow_nil _ _ _ _, World.ownsRow_nil _ _ _ _, fun _ => ⟨rfl, rfl⟩, fun _ => ⟨rfl, rfl⟩, ⟨[], World.ownsRow_nil _ _ _ _⟩, World.grownBy.refl _ _, HG7.out⟩
  case round =>
    obtain ⟨i, A3, A4, A9, A10, c3, c4, c9, c10, hi, rfl, rfl, rfl, rfl, hst⟩ := hrel
    have HP := hide hst
    clear hst
    by_cases hi6 : i < 6
    · have g1 : (i : Int) < 6 := by omega
      have hln := HLN.out i hi6 wr HP.out.gr
      rcases (by rcases (by omega : i = 0 ∨ i = 1 ∨ 2 ≤ i) with h | h | h; exact .inl h; exact .inr (.inl h); exact .inr (.inr ⟨i - 2, by omega, by omega⟩) : i = 0 ∨ i = 1 ∨ ∃ m, m < 4 ∧ i = m + 2) with hi0 | hi0 | ⟨m, hm4, hi0⟩
      · refine prd_car _ (fun _ _ d _ _ h => by cases d <;> exact h) g7 b6 o6 c6 i _ wr A3 A4 A9 A10 c3 c4 c9 c10 _ _ _ _ _ _ _ _ _ _ _ _ _ _ _ _ _ _ _ _ _ _ _ _ _ _ _ _ _ _ _ _ _ _ _ _ _ _ _ _ _ _ _ _ _ _ _ _ _ _ _ _ _ _ _ _ _ _ _ _ _ _ _ _ _ _ _ _ _ _ _ _ _ _ _ _ _ _ _ _ _ _ _ _ _ _ _ _ _ _ _ _ _ _ _ _ _ _ _ _ _ _ _ _ _ _ _ _ _ _ _ _ _ _ _ _ _ _ _ _ _ _ _ _ _ _ _ _ _ _ _ _ _ _ _ _ _ _ _ _ _ _ _ _ _ _ _ _ _ _ _ _ _ _ _ _ _ _ _ _ _ _ _ _ _ _ _ _ _ _ _ _ _ _ _ _ _ _ _ _ _ _ _ _ _ _ _ _ _ _ _ _ _ _ _ _ _ _ _ _ _ _ _ _ _ _ _ _ _ _ _ _ _ _ _ _ _ _ _ _ _ _ _ _ _ _ _ _ _ _ _ _ _ _ _ _ _ _ _ _ _ _ _ _ _ _ _ _ _ _ _ _ _ _ _ _ _ _ _ _ _ _ _ _ _ _ _ _ _ _ _ _ _ _ _ _ _ _ _ _ _ _ _ _ _ _ _ _ _ _ _ hi6 hi0 hln HP.out (fun _ _ _ _ _ _ _ _ _ _ _ _ _ _ _ _ _ _ _ _ _ _ _ _ _ _ _ _ _ _ _ _ _ _ _ _ _ _ _ _ _ _ _ _ _ _ _ _ _ _ _ _ _ _ _ _ _ _ _ _ _ _ _ _ _ _ _ _ _ _ _ _ _ _ _ _ _ _ _ _ _ _ _ _ _ _ _ _ _ _ _ _ _ _ _ _ _ _ _ _ _ _ _ _ _ _ _ _ _ _ _ _ _ _ _ _ _ _ _ _ _ _ _ _ _ _ _ _ _ _ _ _ _ _ _ _ _ _ _ _ _ _ _ _ _ _ _ _ _ _ _ _ _ _ _ _ _ _ _ _ _ _ _ _ _ _ _ _ _ _ _ _ _ _ _ _ _ _ _ _ _ _ _ _ _ _ _ _ _ _ _ _ _ _ _ _ _ _ _ _ _ _ _ _ _ _ _ _ _ _ _ _ _ _ _ _ _ _ _ _ _ _ _ _ _ _ s8 s9 s10 s11 B3 B4 B9 B10 d3 d4 d9 d10 wx e11 e8 e9 e10 hp => ?_)
        have HPX := hide hp
        clear hp
        subst e8 e9 e10 e11
        go_roundw
        case rel => (repeat apply Exists.intro); exact ⟨⟨i + 1, B3, B4, B9, B10, d3, d4, d9, d10, by omega, rfl, rfl, rfl, rfl, HPX.out⟩, rfl⟩
        case measure => simp [intOf]; omega
      · refine prd_par _ (fun _ _ d _ _ h => by cases d <;> exact h) g7 b6 o6 c6 i _ wr A3 A4 A9 A10 c3 c4 c9 c10 _ _ _ _ _ _ _ _ _ _ _ _ _ _ _ _ _ _ _ _ _ _ _ _ _ _ _ _ _ _ _ _ _ _ _ _ _ _ _ _ _ _ _ _ _ _ _ _ _ _ _ _ _ _ _ _ _ _ _ _ _ _ _ _ _ _ _ _ _ _ _ _ _ _ _ _ _ _ _ _ _ _ _ _ _ _ _ _ _ _ _ _ _ _ _ _ _ _ _ _ _ _ _ _ _ _ _ _ _ _ _ _ _ _ _ _ _ _ _ _ _ _ _ _ _ _ _ _ _ _ _ _ _ _ _ _ _ _ _ _ _ _ _ _ _ _ _ _ _ _ _ _ _ _ _ _ _ _ _ _ _ _ _ _ _ _ _ _ _ _ _ _ _ _ _ _ _ _ _ _ _ _ _ _ _ _ _ _ _ _ _ _ _ _ _ _ _ _ _ _ _ _ _ _ _ _ _ _ _ _ _ _ _ _ _ _ _ _ _ _ _ _ _ _ _ _ _ _ _ _ _ _ _ _ _ _ _ _ _ _ _ _ _ _ _ _ _ _ _ _ _ _ _ _ _ _ _ _ _ _ _ _ _ _ _ _ _ _ _ _ _ _ _ _ _ _ _ _ _ _ _ _ _ _ _ _ _ _ _ _ _ hi6 hi0 hln HP.out (fun _ _ _ _ _ _ _ _ _ _ _ _ _ _ _ _ _ _ _ _ _ _ _ _ _ _ _ _ _ _ _ _ _ _ _ _ _ _ _ _ _ _ _ _ _ _ _ _ _ _ _ _ _ _ _ _ _ _ _ _ _ _ _ _ _ _ _ _ _ _ _ _ _ _ _ _ _ _ _ _ _ _ _ _ _ _ _ _ _ _ _ _ _ _ _ _ _ _ _ _ _ _ _ _ _ _ _ _ _ _ _ _ _ _ _ _ _ _ _ _ _ _ _ _ _ _ _ _ _ _ _ _ _ _ _ _ _ _ _ _ _ _ _ _ _ _ _ _ _ _ _ _ _ _ _ _ _ _ _ _ _ _ _ _ _ _ _ _ _ _ _ _ _ _ _ _ _ _ _ _ _ _ _ _ _ _ _ _ _ _ _ _ _ _ _ _ _ _ _ _ _ _ _ _ _ _ _ _ _ _ _ _ _ _ _ _ _ _ _ _ _ _ _ _ _ _ s8 s9 s10 s11 B3 B4 B9 B10 d3 d4 d9 d10 wx e11 e8 e9 e10 hp => ?_)
        have HPX := hide hp
        clear hp
        subst e8 e9 e10 e11
        go_roundw
        case rel => (repeat apply Exists.intro); exact ⟨⟨i + 1, B3, B4, B9, B10, d3, d4, d9, d10, by omega, rfl, rfl, rfl, rfl, HPX.out⟩, rfl⟩
        case measure => simp [intOf]; omega
      · refine prd_sig _ (fun _ _ d _ _ h => by cases d <;> exact h) g7 b6 o6 c6 i m _ wr A3 A4 A9 A10 c3 c4 c9 c10 _ _ _ _ _ _ _ _ _ _ _ _ _ _ _ _ _ _ _ _ _ _ _ _ _ _ _ _ _ _ _ _ _ _ _ _ _ _ _ _ _ _ _ _ _ _ _ _ _ _ _ _ _ _ _ _ _ _ _ _ _ _ _ _ _ _ _ _ _ _ _ _ _ _ _ _ _ _ _ _ _ _ _ _ _ _ _ _ _ _ _ _ _ _ _ _ _ _ _ _ _ _ _ _ _ _ _ _ _ _ _ _ _ _ _ _ _ _ _ _ _ _ _ _ _ _ _ _ _ _ _ _ _ _ _ _ _ _ _ _ _ _ _ _ _ _ _ _ _ _ _ _ _ _ _ _ _ _ _ _ _ _ _ _ _ _ _ _ _ _ _ _ _ _ _ _ _ _ _ _ _ _ _ _ _ _ _ _ _ _ _ _ _ _ _ _ _ _ _ _ _ _ _ _ _ _ _ _ _ _ _ _ _ _ _ _ _ _ _ _ _ _ _ _ _ _ _ _ _ _ _ _ _ _ _ _ _ _ _ _ _ _ _ _ _ _ _ _ _ _ _ _ _ _ _ _ _ _ _ _ _ _ _ _ _ _ _ _ _ _ _ _ _ _ _ _ _ _ _ _ _ _ _ _ _ _ _ _ _ _ _ hi6 hm4 hi0 hln HP.out (fun _ _ _ _ _ _ _ _ _ _ _ _ _ _ _ _ _ _ _ _ _ _ _ _ _ _ _ _ _ _ _ _ _ _ _ _ _ _ _ _ _ _ _ _ _ _ _ _ _ _ _ _ _ _ _ _ _ _ _ _ _ _ _ _ _ _ _ _ _ _ _ _ _ _ _ _ _ _ _ _ _ _ _ _ _ _ _ _ _ _ _ _ _ _ _ _ _ _ _ _ _ _ _ _ _ _ _ _ _ _ _ _ _ _ _ _ _ _ _ _ _ _ _ _ _ _ _ _ _ _ _ _ _ _ _ _ _ _ _ _ _ _ _ _ _ _ _ _ _ _ _ _ _ _ _ _ _ _ _ _ _ _ _ _ _ _ _ _ _ _ _ _ _ _ _ _ _ _ _ _ _ _ _ _ _ _ _ _ _ _ _ _ _ _ _ _ _ _ _ _ _ _ _ _ _ _ _ _ _ _ _ _ _ _ _ _ _ _ _ _ _ _ _ _ _ _ s8 s9 s10 s11 B3 B4 B9 B10 d3 d4 d9 d10 wx e11 e8 e9 e10 hp => ?_)
        have HPX := hide hp
        clear hp
        subst e8 e9 e10 e11
        go_roundw
        case rel => (repeat apply Exists.intro); exact ⟨⟨i + 1, B3, B4, B9, B10, d3, d4, d9, d10, by omega, rfl, rfl, rfl, rfl, HPX.out⟩, rfl⟩
        case measure => simp [intOf]; omega
    · obtain rfl : i = 6 := by omega
      have g1 : ¬ (((6 : Nat) : Int) < 6) := by omega
      have hbx : Blk wr g7 25 #[strV [99], .int .i64 4, .int .i64 48, .slice A3 1 c3, .slice A4 4 c4] := HP.out.box
      have h3 : wr.ownsRow W1.heap.size 56 3 (.slice A3 1 c3) 1 (flatC Prt.cs exP) := HP.out.o3
      have h4 : wr.ownsRow W1.heap.size 82 11 (.slice A4 4 c4) 4 (flatC Sig.cs exS) := HP.out.o4
      have HBK := HBU.out _ HP.out.gr
      have hg7 := HP.out.hg
      have hgs := HP.out.gr.size
      rw [show bgI 6 = 1 from rfl]
      have HE := hide (((((stay_blk hbx).and (stay_own h3)).and (stay_own h4)).and ((stay_blk HBK.1.1).and (stay_blk HBK.1.2))).and (stay_below HBK.2))
      have HB34 := hide (show (∀ b o, A3 = some ⟨b, o, none⟩ → w.heap.size + 1 < b) ∧ ∀ b o, A4 = some ⟨b, o, none⟩ → w.heap.size + 1 < b from by
        have hl := HBK.1.2.lt
        have hw1 := HBW.out
        constructor
        · rintro b o rfl
          have := (h3.lt b rfl).1
          omega
        · rintro b o rfl
          have := (h4.lt b rfl).1
          omega)
      clear HBK hbx h3 h4 HP HBX hg7 hgs
      have n0 : wr.cell? ⟨g7, 0, none⟩ = some (strV [99]) := HE.out.now.1.1.1.1.cell 0
      have n1 : wr.cell? ⟨g7, 1, none⟩ = some (.int .i64 4) := HE.out.now.1.1.1.1.cell 1
      have n2 : wr.cell? ⟨g7, 2, none⟩ = some (.int .i64 48) := HE.out.now.1.1.1.1.cell 2
      have n3 : wr.cell? ⟨g7, 3, none⟩ = some (.slice A3 1 c3) := HE.out.now.1.1.1.1.cell 3
      have n4 : wr.cell? ⟨g7, 4, none⟩ = some (.slice A4 4 c4) := HE.out.now.1.1.1.1.cell 4
      go_wp2_with fail
      go_at_call 15
      refine (show Calls Try.prog 15 #[.agg #[strV [99], .int .i64 4, .int .i64 48, .slice A3 1 c3, .slice A4 4 c4]] _ _ from checkCarrier_ref [99] 4 48 A3 A4 c3 c4 exP exS _ (by decide) (by decide) (by decide) (Rws.of_own prt_n HE.out.now.1.1.1.2 rfl) (Rws.of_own sig_n HE.out.now.1.1.2 rfl)).mono ?_
      rintro e w2 ⟨m1, m2, v, rfl, hv, hb⟩
      obtain rfl : v = 0 := hv.zero ⟨ex_okN, ex_okC⟩
      replace HE := hide (HE.out.step hb)
      clear hb hv n0 n1 n2 n3 n4
      simp only []
      have HE2 := hide (HE.out.alloc (.cells #[.int .i64 m1, .int .i64 m2] 49))
      obtain ⟨w3, hw3⟩ : ∃ w3, w2.alloc (.cells #[.int .i64 m1, .int .i64 m2] 49) = w3 := ⟨_, rfl⟩
      rw [hw3] at HE2
      have n0 : w3.cell? ⟨g7, 0, none⟩ = some (strV [99]) := HE2.out.now.1.1.1.1.cell 0
      have n1 : w3.cell? ⟨g7, 1, none⟩ = some (.int .i64 4) := HE2.out.now.1.1.1.1.cell 1
      have n2 : w3.cell? ⟨g7, 2, none⟩ = some (.int .i64 48) := HE2.out.now.1.1.1.1.cell 2
      have n3 : w3.cell? ⟨g7, 3, none⟩ = some (.slice A3 1 c3) := HE2.out.now.1.1.1.1.cell 3
      have n4 : w3.cell? ⟨g7, 4, none⟩ = some (.slice A4 4 c4) := HE2.out.now.1.1.1.1.cell 4
      go_wp2_with (first
        | (have qq := HX3; refine wpList_store_row rfl 75 (.tmp 3) (.tmp 296) rfl (w.heap.size + 1) #[.int .i64 0, .int .i64 0] rfl rfl 75 #[.int .i64 0, .int .i64 0] HX3.out (by kernel_rfl) rfl (by simp [Value.oneCell']) ?_)
        | (first | rw [hw3] | skip; refine wpList_store_row rfl 25 (.tmp 2) (.tmp 295) rfl w.heap.size #[strV [99], .int .i64 4, .int .i64 48, .slice A3 1 c3, .slice A4 4 c4] rfl rfl 25 #[.string ⟨#[]⟩, .int .i64 0, .int .i64 0, .slice none 0 0, .slice none 0 0] HE2.out.now.1.2.1 (by kernel_rfl) rfl (by simp [Value.oneCell', strV]) ?_; have HX3 := hide (HE2.out.now.1.2.2.rowFar (k := w.heap.size) (by omega) #[strV [99], .int .i64 4, .int .i64 48, .slice A3 1 c3, .slice A4 4 c4])))
      exact bodyPost_ret (results_rr_tmp rfl _ _ w.heap.size (w.heap.size + 1) 25 75 #[strV [99], .int .i64 4, .int .i64 48, .slice A3 1 c3, .slice A4 4 c4] #[.int .i64 0, .int .i64 0] _ _ (.int .i64 0) rfl rfl rfl ((HE2.out.now.1.2.1.row #[strV [99], .int .i64 4, .int .i64 48, .slice A3 1 c3, .slice A4 4 c4]).rowFar (k := w.heap.size + 1) (by omega) #[.int .i64 0, .int .i64 0]) (HX3.out.row #[.int .i64 0, .int .i64 0]) Try.underlying25 rfl (by kernel_rfl) Try.underlying75 rfl (by kernel_rfl)) rfl
        ⟨A3, c3, A4, c4, rfl, ⟨((Rws.of_own prt_n HE2.out.now.1.1.1.2 rfl).rowNe (fun b o e => by have := HB34.out.1 b o e; omega) #[strV [99], .int .i64 4, .int .i64 48, .slice A3 1 c3, .slice A4 4 c4]).rowNe (fun b o e => by have := HB34.out.1 b o e; omega) #[.int .i64 0, .int .i64 0], ((Rws.of_own sig_n HE2.out.now.1.1.2 rfl).rowNe (fun b o e => by have := HB34.out.2 b o e; omega) #[strV [99], .int .i64 4, .int .i64 48, .slice A3 1 c3, .slice A4 4 c4]).rowNe (fun b o e => by have := HB34.out.2 b o e; omega) #[.int .i64 0, .int .i64 0]⟩, HB34.out, Below.row (Below.row HE2.out.now.2 (by omega) #[strV [99], .int .i64 4, .int .i64 48, .slice A3 1 c3, .slice A4 4 c4]) (by omega) #[.int .i64 0, .int .i64 0]⟩
end Go.Proofs.Ytfolipkbcibgdaa
