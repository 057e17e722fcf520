import Derived.Test.YtfolipkbcibgdaaGsF
import Derived.Test.YtfolipkbcibgdaaGpF
import Derived.Test.YtfolipkbcibgdaaGsAx
namespace Go.Proofs.Ytfolipkbcibgdaa
open Go.RowKit Go.WideShapes Go.ChangeShapes

/-! the example of chapter 1 is as told -/
set_option maxRecDepth 100000 in
theorem text_ex (w : World) : Calls Try.prog 32 #[] w fun e w' => e = .returned (strV exT) ∧ w = w' := by
  go_enter Try.func32, Try.ntmps32
  go_wp2
  go_ret
  exact ⟨by first | rfl | kernel_rfl, rfl⟩
def CarR (w : World) (e : Ending) (w' : World) : Prop :=
  ∃ A3 c3 A4 c4, e = .returned (.agg #[strV [99], .int .i64 4, .int .i64 48, .slice A3 1 c3, .slice A4 4 c4]) ∧ Prts w' A3 exP ∧ Sigs w' A4 exS ∧ Below w.heap.size w w'
theorem lt_of_rws {w : World} {A : Option Addr} {L : List Prt} (h : Prts w A L) (h0 : 0 < L.length) {b o : Nat} (e : A = some ⟨b, o, none⟩) : b < w.heap.size := by
  obtain ⟨b', o', e', c, -⟩ := Prts.at_ h 0 h0
  rw [e] at e'
  injection e' with e'
  injection e' with e1 e2
  subst e1
  exact lt_of_cell c
theorem lt_of_rws4 {w : World} {A : Option Addr} {L : List Sig} (h : Sigs w A L) (h0 : 0 < L.length) {b o : Nat} (e : A = some ⟨b, o, none⟩) : b < w.heap.size := by
  obtain ⟨b', o', e', c, -⟩ := Sigs.at_ h 0 h0
  rw [e] at e'
  injection e' with e'
  injection e' with e1 e2
  subst e1
  exact lt_of_cell c
set_option maxRecDepth 100000 in
set_option maxHeartbeats 8000000 in
theorem carrier_ex (w : World) : Calls Try.prog 13 #[] w (CarR w) := by
  have HX0 := hide (stay_blk (Blk.new w 25 #[.string ⟨#[]⟩, .int .i64 0, .int .i64 0, .slice none 0 0, .slice none 0 0]))
  have HB0 := hide (show Below w.heap.size w (w.alloc (.cells #[.string ⟨#[]⟩, .int .i64 0, .int .i64 0, .slice none 0 0, .slice none 0 0] 25)) from (Below.refl _ _).alloc (Nat.le_refl _) _)
  go_enter Try.func13, Try.ntmps13
  go_wp2_with (go_at_call 32; go_must (refine (text_ex _).mono ?_; rintro e w' ⟨rfl, rfl⟩; simp only []))
  go_at_call 31
  refine (parse_ex _).mono ?_
  rintro e w1 ⟨A3, c3, A4, c4, rfl, ⟨h3, h4⟩, hne, hb⟩
  replace HX0 := hide (HX0.out.step hb)
  have HB1 := hide (Below.step HB0.out hb)
  have H3 := hide h3
  have HNE := hide hne
  have H4 := hide h4
  clear h3 h4 hb hne HB0
  simp only []
  have hs1 := HB1.out.size
  have hx0 := HX0.out.now.lt
  have HBa := hide (((Below.refl w1.heap.size w1).alloc (Nat.le_refl _) (.cells #[.string ⟨#[]⟩, .int .i64 0, .int .i64 0, .slice none 0 0, .slice none 0 0] 25)).alloc (by simp) (.cells #[.int .i64 0, .int .i64 0] 75))
  have HB2 := hide ((Blk.new w1 25 #[.string ⟨#[]⟩, .int .i64 0, .int .i64 0, .slice none 0 0, .slice none 0 0]).alloc (.cells #[.int .i64 0, .int .i64 0] 75))
  have HB3 := hide (blk_up w1 25 75 #[.string ⟨#[]⟩, .int .i64 0, .int .i64 0, .slice none 0 0, .slice none 0 0] #[.int .i64 0, .int .i64 0])
  have HXb := hide (HX0.out _ HBa.out)
  obtain ⟨w2, hw2⟩ : ∃ w2, (w1.alloc (.cells #[.string ⟨#[]⟩, .int .i64 0, .int .i64 0, .slice none 0 0, .slice none 0 0] 25)).alloc (.cells #[.int .i64 0, .int .i64 0] 75) = w2 := ⟨_, rfl⟩
  rw [hw2] at HBa HB2 HB3 HXb
  have hne0 : w.heap.size ≠ w1.heap.size := by omega
  have hne1 : w.heap.size ≠ w1.heap.size + 1 := by omega
  go_wp2_with (first
    | (have qq := HU2; refine wpList_store_row rfl 25 (.tmp 0) (.tmp 10) rfl w.heap.size #[strV [99], .int .i64 4, .int .i64 48, .slice A3 1 c3, .slice A4 4 c4] rfl rfl 25 #[.string ⟨#[]⟩, .int .i64 0, .int .i64 0, .slice none 0 0, .slice none 0 0] HU2c.out (by kernel_rfl) rfl (by simp [Value.oneCell', strV]) ?_)
    | (have qq := HU1; refine wpList_store_row rfl 75 (.tmp 2) (.tmp 8) rfl (w1.heap.size + 1) #[.int .i64 0, .int .i64 0] rfl rfl 75 #[.int .i64 0, .int .i64 0] HU1b.out (by kernel_rfl) rfl (by simp [Value.oneCell']) ?_; have HU2 := hide (HU1.out.rowFar (k := w1.heap.size + 1) (by omega) #[.int .i64 0, .int .i64 0]); have HU2c := hide (HU1c.out.rowFar (k := w1.heap.size + 1) hne1 #[.int .i64 0, .int .i64 0]); have d0 := HU2.out.cell 0; have d1 := HU2.out.cell 1; have d2 := HU2.out.cell 2; have d3 := HU2.out.cell 3; have d4 := HU2.out.cell 4; simp at d0 d1 d2 d3 d4)
    | (first | rw [hw2] | skip; refine wpList_store_row rfl 25 (.tmp 1) (.tmp 7) rfl w1.heap.size #[strV [99], .int .i64 4, .int .i64 48, .slice A3 1 c3, .slice A4 4 c4] rfl rfl 25 #[.string ⟨#[]⟩, .int .i64 0, .int .i64 0, .slice none 0 0, .slice none 0 0] HB2.out (by kernel_rfl) rfl (by simp [Value.oneCell', strV]) ?_; have HU1 := hide (HB2.out.row #[strV [99], .int .i64 4, .int .i64 48, .slice A3 1 c3, .slice A4 4 c4]); have HU1b := hide (HB3.out.rowFar (k := w1.heap.size) (by omega) #[strV [99], .int .i64 4, .int .i64 48, .slice A3 1 c3, .slice A4 4 c4]); have HU1c := hide (HXb.out.rowFar (k := w1.heap.size) hne0 #[strV [99], .int .i64 4, .int .i64 48, .slice A3 1 c3, .slice A4 4 c4])))
  have HBL := hide (Below.row (Below.row (Below.row (Below.step HB1.out HBa.out) (Nat.le_trans (Nat.le_of_lt hx0) (Nat.le_refl _)) #[strV [99], .int .i64 4, .int .i64 48, .slice A3 1 c3, .slice A4 4 c4]) (Nat.le_trans (Nat.le_of_lt hx0) (Nat.le_succ _)) #[.int .i64 0, .int .i64 0]) (Nat.le_refl _) #[strV [99], .int .i64 4, .int .i64 48, .slice A3 1 c3, .slice A4 4 c4])
  exact bodyPost_ret (results_cell_row rfl _ _ w.heap.size 25 #[strV [99], .int .i64 4, .int .i64 48, .slice A3 1 c3, .slice A4 4 c4] (0, 0) _ rfl (HU2c.out.row #[strV [99], .int .i64 4, .int .i64 48, .slice A3 1 c3, .slice A4 4 c4]) Try.underlying25 rfl (by kernel_rfl)) rfl
    ⟨A3, c3, A4, c4, rfl, (((H3.out.bel HBa.out).rowNe (fun b o e => by have := lt_of_rws H3.out (by decide) e; omega) #[strV [99], .int .i64 4, .int .i64 48, .slice A3 1 c3, .slice A4 4 c4]).rowNe (fun b o e => by have := lt_of_rws H3.out (by decide) e; omega) #[.int .i64 0, .int .i64 0]).rowNe (fun b o e => by have := HNE.out.1 b o e; simp at this; omega) #[strV [99], .int .i64 4, .int .i64 48, .slice A3 1 c3, .slice A4 4 c4],
      (((H4.out.bel HBa.out).rowNe (fun b o e => by have := lt_of_rws4 H4.out (by decide) e; omega) #[strV [99], .int .i64 4, .int .i64 48, .slice A3 1 c3, .slice A4 4 c4]).rowNe (fun b o e => by have := lt_of_rws4 H4.out (by decide) e; omega) #[.int .i64 0, .int .i64 0]).rowNe (fun b o e => by have := HNE.out.2 b o e; simp at this; omega) #[strV [99], .int .i64 4, .int .i64 48, .slice A3 1 c3, .slice A4 4 c4], HBL.out⟩
set_option maxRecDepth 100000 in
set_option maxHeartbeats 8000000 in
theorem gridAwake_ok (w : World) : Calls Try.prog 4 #[] w fun e w' => e = .returned (.bool true) ∧ Below w.heap.size w w' := by
  go_enter Try.func4, Try.ntmps4
  go_wp2_with fail
  go_at_call 13
  refine (carrier_ex _).mono ?_
  rintro e w1 ⟨A3, c3, A4, c4, rfl, h3, h4, hb⟩
  have HB1 := hide hb
  have HFF := hide (fit_ex A3 A4 c3 c4 w1 h3 h4)
  clear h3 h4 hb
  simp only []
  go_wp2_with fail
  go_at_call 8
  refine HFF.out.mono ?_
  rintro e w2 ⟨rfl, hb⟩
  have HB2 := hide (Below.step HB1.out hb)
  clear hb HFF HB1
  simp only []
  go_wp2_with (refine wpList_store_row rfl 34 (.tmp 1) (.tmp 9) rfl w2.heap.size #[.int .i64 0, .int .i64 1, .int .i64 0, .int .i64 2, .int .i64 2, .int .i64 0, .int .i64 3] rfl rfl 34 #[.int .i64 0, .int .i64 0, .int .i64 0, .int .i64 0, .int .i64 0, .int .i64 0, .int .i64 0] (Blk.new w2 34 #[.int .i64 0, .int .i64 0, .int .i64 0, .int .i64 0, .int .i64 0, .int .i64 0, .int .i64 0]) (by kernel_rfl) rfl (by simp [Value.oneCell']) ?_)
  have HX := hide (stay_blk ((Blk.new w2 34 #[.int .i64 0, .int .i64 0, .int .i64 0, .int .i64 0, .int .i64 0, .int .i64 0, .int .i64 0]).row #[.int .i64 0, .int .i64 1, .int .i64 0, .int .i64 2, .int .i64 2, .int .i64 0, .int .i64 3]))
  have HB3 := hide (Below.row (g := w2.heap.size) (HB2.out.alloc HB2.out.size (.cells #[.int .i64 0, .int .i64 0, .int .i64 0, .int .i64 0, .int .i64 0, .int .i64 0, .int .i64 0] 34)) HB2.out.size #[.int .i64 0, .int .i64 1, .int .i64 0, .int .i64 2, .int .i64 2, .int .i64 0, .int .i64 3])
  obtain ⟨w3, hw3⟩ : ∃ w3, (w2.alloc (.cells #[.int .i64 0, .int .i64 0, .int .i64 0, .int .i64 0, .int .i64 0, .int .i64 0, .int .i64 0] 34)).setRow w2.heap.size #[.int .i64 0, .int .i64 1, .int .i64 0, .int .i64 2, .int .i64 2, .int .i64 0, .int .i64 3] = w3 := ⟨_, rfl⟩
  rw [hw3] at HX HB3 ⊢
  clear hw3
  go_at_call 13
  refine (carrier_ex _).mono ?_
  rintro e w4 ⟨A3, c3, A4, c4, rfl, h3, h4, hb⟩
  have HB4 := hide (Below.step HB3.out hb)
  replace HX := hide (HX.out.step hb)
  have HOW := hide (ownerOf_ex A3 A4 c3 c4 w4 h3 h4)
  clear h3 h4 hb
  simp only []
  go_wp2_with fail
  go_at_call 14
  refine HOW.out.mono ?_
  rintro e w5 ⟨rfl, hb⟩
  have HB5 := hide (Below.step HB4.out hb)
  replace HX := hide (HX.out.step hb)
  clear hb HOW
  simp only []
  have d0 : w5.cell? ⟨w2.heap.size, 0, none⟩ = some (.int .i64 0) := HX.out.now.cell 0
  have d1 : w5.cell? ⟨w2.heap.size, 1, none⟩ = some (.int .i64 1) := HX.out.now.cell 1
  have d2 : w5.cell? ⟨w2.heap.size, 2, none⟩ = some (.int .i64 0) := HX.out.now.cell 2
  have d3 : w5.cell? ⟨w2.heap.size, 3, none⟩ = some (.int .i64 2) := HX.out.now.cell 3
  have d4 : w5.cell? ⟨w2.heap.size, 4, none⟩ = some (.int .i64 2) := HX.out.now.cell 4
  have d5 : w5.cell? ⟨w2.heap.size, 5, none⟩ = some (.int .i64 0) := HX.out.now.cell 5
  have d6 : w5.cell? ⟨w2.heap.size, 6, none⟩ = some (.int .i64 3) := HX.out.now.cell 6
  go_wp2_with fail
  go_ret
  exact ⟨rfl, HB5.out⟩
end Go.Proofs.Ytfolipkbcibgdaa
