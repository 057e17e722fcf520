import Derived.Test.YtamkannjdbodpaaDoorLooks
namespace Go.Proofs.YtamkannjdbodpaaDoor
open Go.RowKit Go.WideShapes Go.ChangeShapes

theorem look_info : (Tryd.prog.info? 57).map (fun i => (i.zero, i.size, i.bytes)) = some (some (.agg #[.slice none 0 0, .int .i64 0, .int .i64 0]), 3, 40) := by kernel_rfl

theorem steering8 (step every : Int) (w : World) (h0 : 0 ≤ step) (h1 : step ≤ 1000) (h2 : 1 ≤ every) (h3 : every ≤ 1000) :
    Calls Tryd.prog 39 #[.int .i64 8, .int .i64 step, .int .i64 every] w fun e w' => ∃ A c, e = .returned (.agg #[.slice A 8 c]) ∧ w'.ownsRow w.heap.size 3 1 (.slice A 8 c) 8 (iv (steerL step every 8)) ∧ Below w.heap.size w w' :=
  steering_beam 8 step every w (by omega) h0 h1 h2 h3
theorem steerL_ok (step every : Int) (n : Nat) : OnOk (steerL step every n) := by
  intro x hx
  obtain ⟨i, _, rfl⟩ := List.mem_map.1 hx
  unfold steerAt
  split <;> omega
theorem response8 (A : Option Addr) (c : Nat) (k every step : Int) (w : World) {base : Nat} (ho : w.ownsRow base 3 1 (.slice A 8 c) 8 (iv (steerL k every 8))) (h0 : 0 ≤ step) (h7 : step ≤ 7) :
    Calls Tryd.prog 41 #[.agg #[.slice A 8 c], .int .i64 step] w fun e w' => e = .returned (.agg (resp (steerL k every 8) step).cells) ∧ Below w.heap.size w w' := by
  have h := response_beam A c (steerL k every 8) step w (Sl.of_own ho) (by simp [steerL_len]) (steerL_ok _ _ _) h0 (by omega)
  rwa [steerL_len] at h
theorem resp8_le (k every step : Int) : (resp (steerL k every 8) step).le 8 := by
  have h := respS_le step (onUpto (steerL k every 8) (steerL k every 8).length)
  have := onUpto_len (steerL k every 8) (steerL k every 8).length
  rw [steerL_len] at this
  exact h.mono (by rw [steerL_len]; omega)

theorem resp8_pq (k every step : Int) : (-1000000000000 ≤ (resp (steerL k every 8) step).P ∧ (resp (steerL k every 8) step).P ≤ 1000000000000) ∧ -1000000000000 ≤ (resp (steerL k every 8) step).Q ∧ (resp (steerL k every 8) step).Q ≤ 1000000000000 := by
  have h := resp8_le k every step
  generalize resp (steerL k every 8) step = x at h
  unfold Q4.le at h
  obtain ⟨a1, a2, a3, a4, a5, a6, a7, a8⟩ := h
  have aa := mul_bd a1 a2 a1 a2
  have bb := mul_bd a3 a4 a3 a4
  have cc := mul_bd a5 a6 a5 a6
  have dd := mul_bd a7 a8 a7 a8
  have ab := mul_bd a1 a2 a3 a4
  have bc := mul_bd a3 a4 a5 a6
  have cd := mul_bd a5 a6 a7 a8
  have ad := mul_bd a7 a8 a1 a2
  have e : x.d * -x.a = -(x.d * x.a) := Int.mul_neg _ _
  unfold Q4.P Q4.Q
  rw [e]
  omega

theorem slice_two_u : Tryd.prog.underlying 82 = some (.array (Tryd.prog.arrayLen 82) (Tryd.prog.elem 82)) := by kernel_rfl
theorem slice_two_n : Tryd.prog.arrayLen 82 = 2 := by kernel_rfl
theorem slice_two_e : Tryd.prog.elem 82 = 57 := by kernel_rfl
theorem slice_two (w : World) (a : Addr) : (Instr.sliceAt 82 (.pointer (some a)) none none none).run Tryd.prog w = .ok (.slice (some a) 2 2) w := by
  obtain ⟨i, hi, _, hs, _⟩ := info_parts look_info
  rw [run_sliceAt_array_all w _ a slice_two_u, slice_two_n, slice_two_e]
  simp [go_sem, slicedAt]

set_option maxRecDepth 100000 in
set_option maxHeartbeats 4000000 in
theorem refined_ok (step : Int) (w : World) (h0 : 0 ≤ step) (h7 : step ≤ 7) :
    Calls Tryd.prog 21 #[.int .i64 step] w fun e w' => ∃ A c xs, e = .returned (.tuple #[.slice A 6 c, .int .i64 step, .int .i64 0]) ∧ w'.ownsRow w.heap.size 57 3 (.slice A 6 c) 6 xs ∧ LooksAt w' w.heap.size xs (looksAt step 3) ∧ Below w.heap.size w w' := by
  obtain ⟨i0, hi0, hz0, hz1, hz2⟩ := info_parts look_info
  have hE := looks_end step h0 h7
  have HE := hide hE; clear hE
  have hse : (unlessE (withinB step 0 7) 2 != 0) = false := by simp [unlessE, withinB, h0, h7]
  go_enter Tryd.func21, Tryd.ntmps21
  go_wp2_with (go_at_call 38; refine (stepErr_beam _ _).mono ?_; rintro e w' ⟨rfl, rfl⟩)
  go_loopw [6, 7, 18] (fun o kk st wr => ∃ (s n : Nat) (σ : Int) (A : Option Addr) (c : Nat) (xs : List Value), s ≤ 3 ∧ σ = s ∧ n = 2 * s ∧ st = .int .i64 σ ∧ kk = .int .i64 (kAt step s) ∧ o = .slice A n c ∧ wr.ownsRow w.heap.size 57 3 (.slice A n c) n xs ∧ LooksAt wr w.heap.size xs (looksAt step s) ∧ Below w.heap.size w wr) (fun _ _ st _ => 3 - (intOf st).toNat)
  case atStart => exact ⟨0, 0, 0, none, 0, [], by omega, rfl, rfl, rfl, rfl, rfl, World.ownsRow_nil _ _ _ _, trivial, by go_grown⟩
  case round =>
    obtain ⟨s, n, σ, A, c, xs, hs, hσ, hn, rfl, rfl, rfl, hown, hlk, hbel⟩ := hrel
    obtain ⟨kv, hkv⟩ : ∃ kv, kAt step s = kv := ⟨_, rfl⟩
    have hkb := kAt_bd step s hs
    rw [hkv] at hkb ⊢
    have HK := hide hkv; clear hkv
    have hbz := hbel.size
    rcases (by omega : s = 0 ∨ s = 1 ∨ s = 2 ∨ s = 3) with hs' | hs' | hs' | hs'
    · subst hs'
      obtain rfl : σ = 0 := hσ
      obtain rfl : n = 0 := hn
      have hk0 : 0 ≤ kv := by omega
      have hk1 : kv + 1 ≤ 7 := by have : (2:Int) ^ 0 = 1 := rfl; omega
      clear hkb
      go_wp2
      refine wp_loop_rounds 3 ?_
      rw [rounds_succ]
      go_wp2_with (go_at_call 39; go_must (refine (steering8 (kv) 4 _ (by omega) (by omega) (by omega) (by omega)).mono ?_; rintro e va1 ⟨A1, c1, rfl, ho1, hba1⟩; have ba1 : Below wr.heap.size wr va1 := Below.step (by go_grown) hba1; obtain ⟨hca1, hfa1, ya1⟩ := bloc1 wr hba1 (by first | omega | (simp; done) | (simp; omega))))
      go_region_held3 (fun w' => w'.cell? ⟨va1.heap.size, 0, none⟩ = some (.slice A1 8 c1)) (first | (simp [go_sem]; done) | (simp [go_sem, *]; done) | go_keep)
        (first
          | (go_at_call 41; refine (response8 A1 c1 (kv) 4 step _ (own_bel ho1 (by go_grown)) h0 h7).mono ?_; rintro e va2 ⟨rfl, hba2⟩; have ba2 : Below va1.heap.size va1 va2 := Below.step (by go_grown) hba2; obtain ⟨hca2, hfa2, ya2⟩ := bloc1 va1 hba2 (by first | omega | (simp; done) | (simp; omega)); obtain ⟨hca2', hfa2', ya2'⟩ := bloc1 wr hba2 (by first | omega | (simp; done) | (simp; omega)))
          | (go_at_call 42; refine (square_beam _ ((resp8_le (kv) 4 step).mono (by omega)) _).mono ?_; rintro e va3 ⟨rfl, hba3⟩; have ba3 : Below va1.heap.size va1 va3 := Below.step ba2 hba3; obtain ⟨hca3, hfa3, ya3⟩ := bloc1 va1 hba3 (by first | omega | (simp; done) | (simp; omega)); obtain ⟨hca3', hfa3', ya3'⟩ := bloc1 wr hba3 (by first | omega | (simp; done) | (simp; omega))))
      go_wp2_with fail
      have ta1 : Blk va3 wr.heap.size 82 #[.slice none 0 0, .int .i64 0, .int .i64 0, .slice none 0 0, .int .i64 0, .int .i64 0] := ((Blk.new wr _ _).below hba1 (by simp)).below ((Below.refl _ va1).trans ba3) ya1
      have ta2 := ((ta1.set_ 0 (.slice A1 8 c1)).set_ 1 (.int .i64 (resp (steerL (kv) 4 8) step).P)).set_ 2 (.int .i64 (resp (steerL (kv) 4 8) step).Q)
      have fara : ∀ (u : Value) (n : Nat) (zs : List Value) (base : Nat), va3.ownsRow base 3 1 u n zs → (((va3.setCell ⟨wr.heap.size, 0, none⟩ (.slice A1 8 c1)).setCell ⟨wr.heap.size, 1, none⟩ (.int .i64 (resp (steerL (kv) 4 8) step).P)).setCell ⟨wr.heap.size, 2, none⟩ (.int .i64 (resp (steerL (kv) 4 8) step).Q)).ownsRow base 3 1 u n zs := fun u n zs base h => own_far (own_far (own_far h ta1 (by decide)) (ta1.set_ 0 _) (by decide)) ((ta1.set_ 0 _).set_ 1 _) (by decide)
      have bWa : Below wr.heap.size wr (((va3.setCell ⟨wr.heap.size, 0, none⟩ (.slice A1 8 c1)).setCell ⟨wr.heap.size, 1, none⟩ (.int .i64 (resp (steerL (kv) 4 8) step).P)).setCell ⟨wr.heap.size, 2, none⟩ (.int .i64 (resp (steerL (kv) 4 8) step).Q)) := (((Below.step ba1 ba3).setCell (by simp) _).setCell (by simp) _).setCell (by simp) _
      obtain ⟨WA, hW⟩ : ∃ W, (((va3.setCell ⟨wr.heap.size, 0, none⟩ (.slice A1 8 c1)).setCell ⟨wr.heap.size, 1, none⟩ (.int .i64 (resp (steerL (kv) 4 8) step).P)).setCell ⟨wr.heap.size, 2, none⟩ (.int .i64 (resp (steerL (kv) 4 8) step).Q)) = W := ⟨_, rfl⟩
      rw [hW] at bWa fara
      rw [hW]
      replace ta2 : Blk WA wr.heap.size 82 _ := hW ▸ ta2
      clear hW
      have p1 := fara _ _ _ _ (own_bel ho1 ba3)
      clear hca1 hfa1 hca2 hfa2 hca2' hfa2' hca3 hfa3 hca3' hfa3' ta1 fara
      have g3 : WA.cell? ⟨wr.heap.size, 3, none⟩ = some (.slice none 0 0) := ta2.cell 3
      have g4 : WA.cell? ⟨wr.heap.size, 4, none⟩ = some (.int .i64 0) := ta2.cell 4
      have g5 : WA.cell? ⟨wr.heap.size, 5, none⟩ = some (.int .i64 0) := ta2.cell 5
      have gf3 := ta2.frozen 3
      have gf4 := ta2.frozen 4
      have gf5 := ta2.frozen 5
      have yA := ta2.lt
      have TA2 := hide ta2; clear ta2
      have P1 := hide p1; clear p1
      rw [rounds_succ]
      go_wp2_with (go_at_call 39; go_must (refine (steering8 (kv + 1) 4 _ (by omega) (by omega) (by omega) (by omega)).mono ?_; rintro e vb1 ⟨A2, c2, rfl, ho2, hbb1⟩; have bb1 : Below WA.heap.size WA vb1 := Below.step (by go_grown) hbb1; obtain ⟨hcb1, hfb1, yb1⟩ := bloc1 wr hbb1 (by first | omega | (simp; done) | (simp; omega))))
      go_region_held3 (fun w' => w'.cell? ⟨vb1.heap.size, 0, none⟩ = some (.slice A2 8 c2)) (first | (simp [go_sem]; done) | (simp [go_sem, *]; done) | go_keep)
        (first
          | (go_at_call 41; refine (response8 A2 c2 (kv + 1) 4 step _ (own_bel ho2 (by go_grown)) h0 h7).mono ?_; rintro e vb2 ⟨rfl, hbb2⟩; have bb2 : Below vb1.heap.size vb1 vb2 := Below.step (by go_grown) hbb2; obtain ⟨hcb2, hfb2, yb2⟩ := bloc1 vb1 hbb2 (by first | omega | (simp; done) | (simp; omega)); obtain ⟨hcb2', hfb2', yb2'⟩ := bloc1 wr hbb2 (by first | omega | (simp; done) | (simp; omega)))
          | (go_at_call 42; refine (square_beam _ ((resp8_le (kv + 1) 4 step).mono (by omega)) _).mono ?_; rintro e vb3 ⟨rfl, hbb3⟩; have bb3 : Below vb1.heap.size vb1 vb3 := Below.step bb2 hbb3; obtain ⟨hcb3, hfb3, yb3⟩ := bloc1 vb1 hbb3 (by first | omega | (simp; done) | (simp; omega)); obtain ⟨hcb3', hfb3', yb3'⟩ := bloc1 wr hbb3 (by first | omega | (simp; done) | (simp; omega))))
      go_wp2_with fail
      have tb1 := (TA2.out.below (bb1.mono (Nat.le_refl _)) yA).below bb3 yb1
      have tb2 := ((tb1.set_ 3 (.slice A2 8 c2)).set_ 4 (.int .i64 (resp (steerL (kv + 1) 4 8) step).P)).set_ 5 (.int .i64 (resp (steerL (kv + 1) 4 8) step).Q)
      have farb : ∀ (u : Value) (n : Nat) (zs : List Value) (base : Nat), vb3.ownsRow base 3 1 u n zs → (((vb3.setCell ⟨wr.heap.size, 3, none⟩ (.slice A2 8 c2)).setCell ⟨wr.heap.size, 4, none⟩ (.int .i64 (resp (steerL (kv + 1) 4 8) step).P)).setCell ⟨wr.heap.size, 5, none⟩ (.int .i64 (resp (steerL (kv + 1) 4 8) step).Q)).ownsRow base 3 1 u n zs := fun u n zs base h => own_far (own_far (own_far h tb1 (by decide)) (tb1.set_ 3 _) (by decide)) ((tb1.set_ 3 _).set_ 4 _) (by decide)
      have bWb : Below wr.heap.size wr (((vb3.setCell ⟨wr.heap.size, 3, none⟩ (.slice A2 8 c2)).setCell ⟨wr.heap.size, 4, none⟩ (.int .i64 (resp (steerL (kv + 1) 4 8) step).P)).setCell ⟨wr.heap.size, 5, none⟩ (.int .i64 (resp (steerL (kv + 1) 4 8) step).Q)) := (((bWa.trans ((bb1.trans (bb3.mono bb1.size)).mono bWa.size)).setCell (by simp) _).setCell (by simp) _).setCell (by simp) _
      obtain ⟨WB, hW⟩ : ∃ W, (((vb3.setCell ⟨wr.heap.size, 3, none⟩ (.slice A2 8 c2)).setCell ⟨wr.heap.size, 4, none⟩ (.int .i64 (resp (steerL (kv + 1) 4 8) step).P)).setCell ⟨wr.heap.size, 5, none⟩ (.int .i64 (resp (steerL (kv + 1) 4 8) step).Q)) = W := ⟨_, rfl⟩
      rw [hW] at bWb farb
      rw [hW]
      replace tb2 : Blk WB wr.heap.size 82 _ := hW ▸ tb2
      clear hW
      have p2 := farb _ _ _ _ (own_bel ho2 bb3)
      have p1' := farb _ _ _ _ (own_bel (own_bel P1.out bb1) bb3)
      clear hcb1 hfb1 hcb2 hfb2 hcb2' hfb2' hcb3 hfb3 hcb3' hfb3' tb1 farb g3 g4 g5 gf3 gf4 gf5
      have T4 : Hid (Blk WB wr.heap.size 82 #[.slice A1 8 c1, .int .i64 (resp (steerL (kv) 4 8) step).P, .int .i64 (resp (steerL (kv) 4 8) step).Q, .slice A2 8 c2, .int .i64 (resp (steerL (kv + 1) 4 8) step).P, .int .i64 (resp (steerL (kv + 1) 4 8) step).Q]) := tb2
      clear tb2
      have e1 : WB.cell? ⟨wr.heap.size, 1, none⟩ = some (.int .i64 (resp (steerL (kv) 4 8) step).P) := T4.out.cell 1
      have e2 : WB.cell? ⟨wr.heap.size, 2, none⟩ = some (.int .i64 (resp (steerL (kv) 4 8) step).Q) := T4.out.cell 2
      have e4 : WB.cell? ⟨wr.heap.size, 4, none⟩ = some (.int .i64 (resp (steerL (kv + 1) 4 8) step).P) := T4.out.cell 4
      have e5 : WB.cell? ⟨wr.heap.size, 5, none⟩ = some (.int .i64 (resp (steerL (kv + 1) 4 8) step).Q) := T4.out.cell 5
      have hk' : kAt step 1 = if 0 < sgnPQ ((resp (steerL (kv + 1) 4 8) step).P - (resp (steerL (kv) 4 8) step).P) ((resp (steerL (kv + 1) 4 8) step).Q - (resp (steerL (kv) 4 8) step).Q) then kv + 1 else kv := by rw [← HK.out]; rfl
      have hL' : looksAt step 1 = looksAt step 0 ++ ([⟨steerL (kv) 4 8, (resp (steerL (kv) 4 8) step).P, (resp (steerL (kv) 4 8) step).Q⟩] ++ [⟨steerL (kv + 1) 4 8, (resp (steerL (kv + 1) 4 8) step).P, (resp (steerL (kv + 1) 4 8) step).Q⟩]) := by rw [← HK.out]; rfl
      have K' := hide hk'; clear hk'
      have L' := hide hL'; clear hL'
      have P1' := hide p1'; clear p1'
      have P2 := hide p2; clear p2
      have HLK := hide (hlk.bel bWb); clear hlk
      have HOWN := hide (own_bel hown bWb); clear hown
      have bWl := T4.out.lt
      have bwB : Below w.heap.size w WB := Below.step hbel bWb
      clear hba1 hba2 hba3 hbb1 hbb2 hbb3 ba1 ba2 ba3 bb1 bb2 bb3 bWa bWb TA2 P1 ho1 ho2
      obtain ⟨⟨q1, q2⟩, q3, q4⟩ := resp8_pq (kv) 4 step
      obtain ⟨⟨q5, q6⟩, q7, q8⟩ := resp8_pq (kv + 1) 4 step
      obtain ⟨sg, hsg⟩ : ∃ sg, sgnPQ ((resp (steerL (kv + 1) 4 8) step).P - (resp (steerL (kv) 4 8) step).P) ((resp (steerL (kv + 1) 4 8) step).Q - (resp (steerL (kv) 4 8) step).Q) = sg := ⟨_, rfl⟩
      have HSG := hide hsg; clear hsg
      cases hgt : decide (0 < sg)
      all_goals
        rw [rounds_succ]
        go_wp2_with (first
          | (go_at_call 43; go_must (refine (compare_beam _ _ _ _ _ ⟨q5, q6⟩ ⟨q7, q8⟩ ⟨q1, q2⟩ ⟨q3, q4⟩).mono ?_; rintro e vc ⟨rfl, hbc⟩; rw [HSG.out]; have bwC : Below w.heap.size w vc := Below.step bwB hbc; have hownC := own_bel HOWN.out hbc; have tC := T4.out.below hbc bWl; have bcz := hbc.size; have HBC := hide hbc; clear hbc; have hsl := slice_two))
          | (at_builtin; go_must (
              refine wpList_append_own _ rfl _ _ 48 rfl w.heap.size 57 i0 _ 3 40 Tryd.underlying48 hi0 hz0 hz1 hz2 rfl (by decide) (.slice A 0 c) 0 xs ?_ hownC ⟨wr.heap.size, 0, none⟩ 2 2 [.slice A1 8 c1, .int .i64 (resp (steerL (kv) 4 8) step).P, .int .i64 (resp (steerL (kv) 4 8) step).Q, .slice A2 8 c2, .int .i64 (resp (steerL (kv + 1) 4 8) step).P, .int .i64 (resp (steerL (kv + 1) 4 8) step).Q] ?_ ?_ ?_ ?_ ?_ ?_ ?_ ?_
              · rfl
              · rfl
              · rfl
              · exact World.news_of_block tC
              · intro u hu; simp only [List.mem_cons, List.not_mem_nil, or_false] at hu; rcases hu with rfl | rfl | rfl | rfl | rfl | rfl <;> rfl
              · simp only [maxLen]; omega
              · omega
              · omega
              intro v' w1 hown' hgrow _
              obtain ⟨An, cn, rfl⟩ := own_form hown'
              clear hsl)))
        go_roundw
        case rel =>
          have hbc := HBC.out
          have keep : ∀ (u : Value) (n : Nat) (zs : List Value), vc.ownsRow w.heap.size 3 1 u n zs → w1.ownsRow w.heap.size 3 1 u n zs := fun u n zs h => h.kept hgrow (rows_ne h hownC (by decide))
          have lk1 := ((HLK.out.bel hbc).append ((LooksAt.one (l := steerL (kv) 4 8) (P := (resp (steerL (kv) 4 8) step).P) (Q := (resp (steerL (kv) 4 8) step).Q) (own_bel (P1'.out.weaken (by first | omega | (simp; done) | (simp; omega))) hbc)).append (LooksAt.one (l := steerL (kv + 1) 4 8) (P := (resp (steerL (kv + 1) 4 8) step).P) (Q := (resp (steerL (kv + 1) 4 8) step).Q) (own_bel (P2.out.weaken (by first | omega | (simp; done) | (simp; omega))) hbc)))).imp keep
          refine ⟨1, 2, 1, An, cn, _, by omega, rfl, rfl, by go_num, ?_, rfl, hown', ?_, Below.app' bwC hownC hgrow⟩
          · rw [K'.out, HSG.out]
            simp only [decide_eq_true_eq, decide_eq_false_iff_not] at hgt
            first | rw [if_pos hgt] | rw [if_neg hgt]
          · rw [L'.out]; exact lk1
        case measure => simp [intOf]
    · subst hs'
      obtain rfl : σ = 1 := hσ
      obtain rfl : n = 2 := hn
      have hk0 : 0 ≤ kv := by omega
      have hk1 : kv + 2 ≤ 7 := by have : (2:Int) ^ 1 = 2 := rfl; omega
      clear hkb
      go_wp2
      refine wp_loop_rounds 3 ?_
      rw [rounds_succ]
      go_wp2_with (go_at_call 39; go_must (refine (steering8 (kv) 2 _ (by omega) (by omega) (by omega) (by omega)).mono ?_; rintro e va1 ⟨A1, c1, rfl, ho1, hba1⟩; have ba1 : Below wr.heap.size wr va1 := Below.step (by go_grown) hba1; obtain ⟨hca1, hfa1, ya1⟩ := bloc1 wr hba1 (by first | omega | (simp; done) | (simp; omega))))
      go_region_held3 (fun w' => w'.cell? ⟨va1.heap.size, 0, none⟩ = some (.slice A1 8 c1)) (first | (simp [go_sem]; done) | (simp [go_sem, *]; done) | go_keep)
        (first
          | (go_at_call 41; refine (response8 A1 c1 (kv) 2 step _ (own_bel ho1 (by go_grown)) h0 h7).mono ?_; rintro e va2 ⟨rfl, hba2⟩; have ba2 : Below va1.heap.size va1 va2 := Below.step (by go_grown) hba2; obtain ⟨hca2, hfa2, ya2⟩ := bloc1 va1 hba2 (by first | omega | (simp; done) | (simp; omega)); obtain ⟨hca2', hfa2', ya2'⟩ := bloc1 wr hba2 (by first | omega | (simp; done) | (simp; omega)))
          | (go_at_call 42; refine (square_beam _ ((resp8_le (kv) 2 step).mono (by omega)) _).mono ?_; rintro e va3 ⟨rfl, hba3⟩; have ba3 : Below va1.heap.size va1 va3 := Below.step ba2 hba3; obtain ⟨hca3, hfa3, ya3⟩ := bloc1 va1 hba3 (by first | omega | (simp; done) | (simp; omega)); obtain ⟨hca3', hfa3', ya3'⟩ := bloc1 wr hba3 (by first | omega | (simp; done) | (simp; omega))))
      go_wp2_with fail
      have ta1 : Blk va3 wr.heap.size 82 #[.slice none 0 0, .int .i64 0, .int .i64 0, .slice none 0 0, .int .i64 0, .int .i64 0] := ((Blk.new wr _ _).below hba1 (by simp)).below ((Below.refl _ va1).trans ba3) ya1
      have ta2 := ((ta1.set_ 0 (.slice A1 8 c1)).set_ 1 (.int .i64 (resp (steerL (kv) 2 8) step).P)).set_ 2 (.int .i64 (resp (steerL (kv) 2 8) step).Q)
      have fara : ∀ (u : Value) (n : Nat) (zs : List Value) (base : Nat), va3.ownsRow base 3 1 u n zs → (((va3.setCell ⟨wr.heap.size, 0, none⟩ (.slice A1 8 c1)).setCell ⟨wr.heap.size, 1, none⟩ (.int .i64 (resp (steerL (kv) 2 8) step).P)).setCell ⟨wr.heap.size, 2, none⟩ (.int .i64 (resp (steerL (kv) 2 8) step).Q)).ownsRow base 3 1 u n zs := fun u n zs base h => own_far (own_far (own_far h ta1 (by decide)) (ta1.set_ 0 _) (by decide)) ((ta1.set_ 0 _).set_ 1 _) (by decide)
      have bWa : Below wr.heap.size wr (((va3.setCell ⟨wr.heap.size, 0, none⟩ (.slice A1 8 c1)).setCell ⟨wr.heap.size, 1, none⟩ (.int .i64 (resp (steerL (kv) 2 8) step).P)).setCell ⟨wr.heap.size, 2, none⟩ (.int .i64 (resp (steerL (kv) 2 8) step).Q)) := (((Below.step ba1 ba3).setCell (by simp) _).setCell (by simp) _).setCell (by simp) _
      obtain ⟨WA, hW⟩ : ∃ W, (((va3.setCell ⟨wr.heap.size, 0, none⟩ (.slice A1 8 c1)).setCell ⟨wr.heap.size, 1, none⟩ (.int .i64 (resp (steerL (kv) 2 8) step).P)).setCell ⟨wr.heap.size, 2, none⟩ (.int .i64 (resp (steerL (kv) 2 8) step).Q)) = W := ⟨_, rfl⟩
      rw [hW] at bWa fara
      rw [hW]
      replace ta2 : Blk WA wr.heap.size 82 _ := hW ▸ ta2
      clear hW
      have p1 := fara _ _ _ _ (own_bel ho1 ba3)
      clear hca1 hfa1 hca2 hfa2 hca2' hfa2' hca3 hfa3 hca3' hfa3' ta1 fara
      have g3 : WA.cell? ⟨wr.heap.size, 3, none⟩ = some (.slice none 0 0) := ta2.cell 3
      have g4 : WA.cell? ⟨wr.heap.size, 4, none⟩ = some (.int .i64 0) := ta2.cell 4
      have g5 : WA.cell? ⟨wr.heap.size, 5, none⟩ = some (.int .i64 0) := ta2.cell 5
      have gf3 := ta2.frozen 3
      have gf4 := ta2.frozen 4
      have gf5 := ta2.frozen 5
      have yA := ta2.lt
      have TA2 := hide ta2; clear ta2
      have P1 := hide p1; clear p1
      rw [rounds_succ]
      go_wp2_with (go_at_call 39; go_must (refine (steering8 (kv + 2) 2 _ (by omega) (by omega) (by omega) (by omega)).mono ?_; rintro e vb1 ⟨A2, c2, rfl, ho2, hbb1⟩; have bb1 : Below WA.heap.size WA vb1 := Below.step (by go_grown) hbb1; obtain ⟨hcb1, hfb1, yb1⟩ := bloc1 wr hbb1 (by first | omega | (simp; done) | (simp; omega))))
      go_region_held3 (fun w' => w'.cell? ⟨vb1.heap.size, 0, none⟩ = some (.slice A2 8 c2)) (first | (simp [go_sem]; done) | (simp [go_sem, *]; done) | go_keep)
        (first
          | (go_at_call 41; refine (response8 A2 c2 (kv + 2) 2 step _ (own_bel ho2 (by go_grown)) h0 h7).mono ?_; rintro e vb2 ⟨rfl, hbb2⟩; have bb2 : Below vb1.heap.size vb1 vb2 := Below.step (by go_grown) hbb2; obtain ⟨hcb2, hfb2, yb2⟩ := bloc1 vb1 hbb2 (by first | omega | (simp; done) | (simp; omega)); obtain ⟨hcb2', hfb2', yb2'⟩ := bloc1 wr hbb2 (by first | omega | (simp; done) | (simp; omega)))
          | (go_at_call 42; refine (square_beam _ ((resp8_le (kv + 2) 2 step).mono (by omega)) _).mono ?_; rintro e vb3 ⟨rfl, hbb3⟩; have bb3 : Below vb1.heap.size vb1 vb3 := Below.step bb2 hbb3; obtain ⟨hcb3, hfb3, yb3⟩ := bloc1 vb1 hbb3 (by first | omega | (simp; done) | (simp; omega)); obtain ⟨hcb3', hfb3', yb3'⟩ := bloc1 wr hbb3 (by first | omega | (simp; done) | (simp; omega))))
      go_wp2_with fail
      have tb1 := (TA2.out.below (bb1.mono (Nat.le_refl _)) yA).below bb3 yb1
      have tb2 := ((tb1.set_ 3 (.slice A2 8 c2)).set_ 4 (.int .i64 (resp (steerL (kv + 2) 2 8) step).P)).set_ 5 (.int .i64 (resp (steerL (kv + 2) 2 8) step).Q)
      have farb : ∀ (u : Value) (n : Nat) (zs : List Value) (base : Nat), vb3.ownsRow base 3 1 u n zs → (((vb3.setCell ⟨wr.heap.size, 3, none⟩ (.slice A2 8 c2)).setCell ⟨wr.heap.size, 4, none⟩ (.int .i64 (resp (steerL (kv + 2) 2 8) step).P)).setCell ⟨wr.heap.size, 5, none⟩ (.int .i64 (resp (steerL (kv + 2) 2 8) step).Q)).ownsRow base 3 1 u n zs := fun u n zs base h => own_far (own_far (own_far h tb1 (by decide)) (tb1.set_ 3 _) (by decide)) ((tb1.set_ 3 _).set_ 4 _) (by decide)
      have bWb : Below wr.heap.size wr (((vb3.setCell ⟨wr.heap.size, 3, none⟩ (.slice A2 8 c2)).setCell ⟨wr.heap.size, 4, none⟩ (.int .i64 (resp (steerL (kv + 2) 2 8) step).P)).setCell ⟨wr.heap.size, 5, none⟩ (.int .i64 (resp (steerL (kv + 2) 2 8) step).Q)) := (((bWa.trans ((bb1.trans (bb3.mono bb1.size)).mono bWa.size)).setCell (by simp) _).setCell (by simp) _).setCell (by simp) _
      obtain ⟨WB, hW⟩ : ∃ W, (((vb3.setCell ⟨wr.heap.size, 3, none⟩ (.slice A2 8 c2)).setCell ⟨wr.heap.size, 4, none⟩ (.int .i64 (resp (steerL (kv + 2) 2 8) step).P)).setCell ⟨wr.heap.size, 5, none⟩ (.int .i64 (resp (steerL (kv + 2) 2 8) step).Q)) = W := ⟨_, rfl⟩
      rw [hW] at bWb farb
      rw [hW]
      replace tb2 : Blk WB wr.heap.size 82 _ := hW ▸ tb2
      clear hW
      have p2 := farb _ _ _ _ (own_bel ho2 bb3)
      have p1' := farb _ _ _ _ (own_bel (own_bel P1.out bb1) bb3)
      clear hcb1 hfb1 hcb2 hfb2 hcb2' hfb2' hcb3 hfb3 hcb3' hfb3' tb1 farb g3 g4 g5 gf3 gf4 gf5
      have T4 : Hid (Blk WB wr.heap.size 82 #[.slice A1 8 c1, .int .i64 (resp (steerL (kv) 2 8) step).P, .int .i64 (resp (steerL (kv) 2 8) step).Q, .slice A2 8 c2, .int .i64 (resp (steerL (kv + 2) 2 8) step).P, .int .i64 (resp (steerL (kv + 2) 2 8) step).Q]) := tb2
      clear tb2
      have e1 : WB.cell? ⟨wr.heap.size, 1, none⟩ = some (.int .i64 (resp (steerL (kv) 2 8) step).P) := T4.out.cell 1
      have e2 : WB.cell? ⟨wr.heap.size, 2, none⟩ = some (.int .i64 (resp (steerL (kv) 2 8) step).Q) := T4.out.cell 2
      have e4 : WB.cell? ⟨wr.heap.size, 4, none⟩ = some (.int .i64 (resp (steerL (kv + 2) 2 8) step).P) := T4.out.cell 4
      have e5 : WB.cell? ⟨wr.heap.size, 5, none⟩ = some (.int .i64 (resp (steerL (kv + 2) 2 8) step).Q) := T4.out.cell 5
      have hk' : kAt step 2 = if 0 < sgnPQ ((resp (steerL (kv + 2) 2 8) step).P - (resp (steerL (kv) 2 8) step).P) ((resp (steerL (kv + 2) 2 8) step).Q - (resp (steerL (kv) 2 8) step).Q) then kv + 2 else kv := by rw [← HK.out]; rfl
      have hL' : looksAt step 2 = looksAt step 1 ++ ([⟨steerL (kv) 2 8, (resp (steerL (kv) 2 8) step).P, (resp (steerL (kv) 2 8) step).Q⟩] ++ [⟨steerL (kv + 2) 2 8, (resp (steerL (kv + 2) 2 8) step).P, (resp (steerL (kv + 2) 2 8) step).Q⟩]) := by rw [← HK.out]; rfl
      have K' := hide hk'; clear hk'
      have L' := hide hL'; clear hL'
      have P1' := hide p1'; clear p1'
      have P2 := hide p2; clear p2
      have HLK := hide (hlk.bel bWb); clear hlk
      have HOWN := hide (own_bel hown bWb); clear hown
      have bWl := T4.out.lt
      have bwB : Below w.heap.size w WB := Below.step hbel bWb
      clear hba1 hba2 hba3 hbb1 hbb2 hbb3 ba1 ba2 ba3 bb1 bb2 bb3 bWa bWb TA2 P1 ho1 ho2
      obtain ⟨⟨q1, q2⟩, q3, q4⟩ := resp8_pq (kv) 2 step
      obtain ⟨⟨q5, q6⟩, q7, q8⟩ := resp8_pq (kv + 2) 2 step
      obtain ⟨sg, hsg⟩ : ∃ sg, sgnPQ ((resp (steerL (kv + 2) 2 8) step).P - (resp (steerL (kv) 2 8) step).P) ((resp (steerL (kv + 2) 2 8) step).Q - (resp (steerL (kv) 2 8) step).Q) = sg := ⟨_, rfl⟩
      have HSG := hide hsg; clear hsg
      cases hgt : decide (0 < sg)
      all_goals
        rw [rounds_succ]
        go_wp2_with (first
          | (go_at_call 43; go_must (refine (compare_beam _ _ _ _ _ ⟨q5, q6⟩ ⟨q7, q8⟩ ⟨q1, q2⟩ ⟨q3, q4⟩).mono ?_; rintro e vc ⟨rfl, hbc⟩; rw [HSG.out]; have bwC : Below w.heap.size w vc := Below.step bwB hbc; have hownC := own_bel HOWN.out hbc; have tC := T4.out.below hbc bWl; have bcz := hbc.size; have HBC := hide hbc; clear hbc; have hsl := slice_two))
          | (at_builtin; go_must (
              refine wpList_append_own _ rfl _ _ 48 rfl w.heap.size 57 i0 _ 3 40 Tryd.underlying48 hi0 hz0 hz1 hz2 rfl (by decide) (.slice A 2 c) 2 xs ?_ hownC ⟨wr.heap.size, 0, none⟩ 2 2 [.slice A1 8 c1, .int .i64 (resp (steerL (kv) 2 8) step).P, .int .i64 (resp (steerL (kv) 2 8) step).Q, .slice A2 8 c2, .int .i64 (resp (steerL (kv + 2) 2 8) step).P, .int .i64 (resp (steerL (kv + 2) 2 8) step).Q] ?_ ?_ ?_ ?_ ?_ ?_ ?_ ?_
              · rfl
              · rfl
              · rfl
              · exact World.news_of_block tC
              · intro u hu; simp only [List.mem_cons, List.not_mem_nil, or_false] at hu; rcases hu with rfl | rfl | rfl | rfl | rfl | rfl <;> rfl
              · simp only [maxLen]; omega
              · omega
              · omega
              intro v' w1 hown' hgrow _
              obtain ⟨An, cn, rfl⟩ := own_form hown'
              clear hsl)))
        go_roundw
        case rel =>
          have hbc := HBC.out
          have keep : ∀ (u : Value) (n : Nat) (zs : List Value), vc.ownsRow w.heap.size 3 1 u n zs → w1.ownsRow w.heap.size 3 1 u n zs := fun u n zs h => h.kept hgrow (rows_ne h hownC (by decide))
          have lk1 := ((HLK.out.bel hbc).append ((LooksAt.one (l := steerL (kv) 2 8) (P := (resp (steerL (kv) 2 8) step).P) (Q := (resp (steerL (kv) 2 8) step).Q) (own_bel (P1'.out.weaken (by first | omega | (simp; done) | (simp; omega))) hbc)).append (LooksAt.one (l := steerL (kv + 2) 2 8) (P := (resp (steerL (kv + 2) 2 8) step).P) (Q := (resp (steerL (kv + 2) 2 8) step).Q) (own_bel (P2.out.weaken (by first | omega | (simp; done) | (simp; omega))) hbc)))).imp keep
          refine ⟨2, 4, 2, An, cn, _, by omega, rfl, rfl, by go_num, ?_, rfl, hown', ?_, Below.app' bwC hownC hgrow⟩
          · rw [K'.out, HSG.out]
            simp only [decide_eq_true_eq, decide_eq_false_iff_not] at hgt
            first | rw [if_pos hgt] | rw [if_neg hgt]
          · rw [L'.out]; exact lk1
        case measure => simp [intOf]
    · subst hs'
      obtain rfl : σ = 2 := hσ
      obtain rfl : n = 4 := hn
      have hk0 : 0 ≤ kv := by omega
      have hk1 : kv + 4 ≤ 7 := by have : (2:Int) ^ 2 = 4 := rfl; omega
      clear hkb
      go_wp2
      refine wp_loop_rounds 3 ?_
      rw [rounds_succ]
      go_wp2_with (go_at_call 39; go_must (refine (steering8 (kv) 1 _ (by omega) (by omega) (by omega) (by omega)).mono ?_; rintro e va1 ⟨A1, c1, rfl, ho1, hba1⟩; have ba1 : Below wr.heap.size wr va1 := Below.step (by go_grown) hba1; obtain ⟨hca1, hfa1, ya1⟩ := bloc1 wr hba1 (by first | omega | (simp; done) | (simp; omega))))
      go_region_held3 (fun w' => w'.cell? ⟨va1.heap.size, 0, none⟩ = some (.slice A1 8 c1)) (first | (simp [go_sem]; done) | (simp [go_sem, *]; done) | go_keep)
        (first
          | (go_at_call 41; refine (response8 A1 c1 (kv) 1 step _ (own_bel ho1 (by go_grown)) h0 h7).mono ?_; rintro e va2 ⟨rfl, hba2⟩; have ba2 : Below va1.heap.size va1 va2 := Below.step (by go_grown) hba2; obtain ⟨hca2, hfa2, ya2⟩ := bloc1 va1 hba2 (by first | omega | (simp; done) | (simp; omega)); obtain ⟨hca2', hfa2', ya2'⟩ := bloc1 wr hba2 (by first | omega | (simp; done) | (simp; omega)))
          | (go_at_call 42; refine (square_beam _ ((resp8_le (kv) 1 step).mono (by omega)) _).mono ?_; rintro e va3 ⟨rfl, hba3⟩; have ba3 : Below va1.heap.size va1 va3 := Below.step ba2 hba3; obtain ⟨hca3, hfa3, ya3⟩ := bloc1 va1 hba3 (by first | omega | (simp; done) | (simp; omega)); obtain ⟨hca3', hfa3', ya3'⟩ := bloc1 wr hba3 (by first | omega | (simp; done) | (simp; omega))))
      go_wp2_with fail
      have ta1 : Blk va3 wr.heap.size 82 #[.slice none 0 0, .int .i64 0, .int .i64 0, .slice none 0 0, .int .i64 0, .int .i64 0] := ((Blk.new wr _ _).below hba1 (by simp)).below ((Below.refl _ va1).trans ba3) ya1
      have ta2 := ((ta1.set_ 0 (.slice A1 8 c1)).set_ 1 (.int .i64 (resp (steerL (kv) 1 8) step).P)).set_ 2 (.int .i64 (resp (steerL (kv) 1 8) step).Q)
      have fara : ∀ (u : Value) (n : Nat) (zs : List Value) (base : Nat), va3.ownsRow base 3 1 u n zs → (((va3.setCell ⟨wr.heap.size, 0, none⟩ (.slice A1 8 c1)).setCell ⟨wr.heap.size, 1, none⟩ (.int .i64 (resp (steerL (kv) 1 8) step).P)).setCell ⟨wr.heap.size, 2, none⟩ (.int .i64 (resp (steerL (kv) 1 8) step).Q)).ownsRow base 3 1 u n zs := fun u n zs base h => own_far (own_far (own_far h ta1 (by decide)) (ta1.set_ 0 _) (by decide)) ((ta1.set_ 0 _).set_ 1 _) (by decide)
      have bWa : Below wr.heap.size wr (((va3.setCell ⟨wr.heap.size, 0, none⟩ (.slice A1 8 c1)).setCell ⟨wr.heap.size, 1, none⟩ (.int .i64 (resp (steerL (kv) 1 8) step).P)).setCell ⟨wr.heap.size, 2, none⟩ (.int .i64 (resp (steerL (kv) 1 8) step).Q)) := (((Below.step ba1 ba3).setCell (by simp) _).setCell (by simp) _).setCell (by simp) _
      obtain ⟨WA, hW⟩ : ∃ W, (((va3.setCell ⟨wr.heap.size, 0, none⟩ (.slice A1 8 c1)).setCell ⟨wr.heap.size, 1, none⟩ (.int .i64 (resp (steerL (kv) 1 8) step).P)).setCell ⟨wr.heap.size, 2, none⟩ (.int .i64 (resp (steerL (kv) 1 8) step).Q)) = W := ⟨_, rfl⟩
      rw [hW] at bWa fara
      rw [hW]
      replace ta2 : Blk WA wr.heap.size 82 _ := hW ▸ ta2
      clear hW
      have p1 := fara _ _ _ _ (own_bel ho1 ba3)
      clear hca1 hfa1 hca2 hfa2 hca2' hfa2' hca3 hfa3 hca3' hfa3' ta1 fara
      have g3 : WA.cell? ⟨wr.heap.size, 3, none⟩ = some (.slice none 0 0) := ta2.cell 3
      have g4 : WA.cell? ⟨wr.heap.size, 4, none⟩ = some (.int .i64 0) := ta2.cell 4
      have g5 : WA.cell? ⟨wr.heap.size, 5, none⟩ = some (.int .i64 0) := ta2.cell 5
      have gf3 := ta2.frozen 3
      have gf4 := ta2.frozen 4
      have gf5 := ta2.frozen 5
      have yA := ta2.lt
      have TA2 := hide ta2; clear ta2
      have P1 := hide p1; clear p1
      rw [rounds_succ]
      go_wp2_with (go_at_call 39; go_must (refine (steering8 (kv + 4) 1 _ (by omega) (by omega) (by omega) (by omega)).mono ?_; rintro e vb1 ⟨A2, c2, rfl, ho2, hbb1⟩; have bb1 : Below WA.heap.size WA vb1 := Below.step (by go_grown) hbb1; obtain ⟨hcb1, hfb1, yb1⟩ := bloc1 wr hbb1 (by first | omega | (simp; done) | (simp; omega))))
      go_region_held3 (fun w' => w'.cell? ⟨vb1.heap.size, 0, none⟩ = some (.slice A2 8 c2)) (first | (simp [go_sem]; done) | (simp [go_sem, *]; done) | go_keep)
        (first
          | (go_at_call 41; refine (response8 A2 c2 (kv + 4) 1 step _ (own_bel ho2 (by go_grown)) h0 h7).mono ?_; rintro e vb2 ⟨rfl, hbb2⟩; have bb2 : Below vb1.heap.size vb1 vb2 := Below.step (by go_grown) hbb2; obtain ⟨hcb2, hfb2, yb2⟩ := bloc1 vb1 hbb2 (by first | omega | (simp; done) | (simp; omega)); obtain ⟨hcb2', hfb2', yb2'⟩ := bloc1 wr hbb2 (by first | omega | (simp; done) | (simp; omega)))
          | (go_at_call 42; refine (square_beam _ ((resp8_le (kv + 4) 1 step).mono (by omega)) _).mono ?_; rintro e vb3 ⟨rfl, hbb3⟩; have bb3 : Below vb1.heap.size vb1 vb3 := Below.step bb2 hbb3; obtain ⟨hcb3, hfb3, yb3⟩ := bloc1 vb1 hbb3 (by first | omega | (simp; done) | (simp; omega)); obtain ⟨hcb3', hfb3', yb3'⟩ := bloc1 wr hbb3 (by first | omega | (simp; done) | (simp; omega))))
      go_wp2_with fail
      have tb1 := (TA2.out.below (bb1.mono (Nat.le_refl _)) yA).below bb3 yb1
      have tb2 := ((tb1.set_ 3 (.slice A2 8 c2)).set_ 4 (.int .i64 (resp (steerL (kv + 4) 1 8) step).P)).set_ 5 (.int .i64 (resp (steerL (kv + 4) 1 8) step).Q)
      have farb : ∀ (u : Value) (n : Nat) (zs : List Value) (base : Nat), vb3.ownsRow base 3 1 u n zs → (((vb3.setCell ⟨wr.heap.size, 3, none⟩ (.slice A2 8 c2)).setCell ⟨wr.heap.size, 4, none⟩ (.int .i64 (resp (steerL (kv + 4) 1 8) step).P)).setCell ⟨wr.heap.size, 5, none⟩ (.int .i64 (resp (steerL (kv + 4) 1 8) step).Q)).ownsRow base 3 1 u n zs := fun u n zs base h => own_far (own_far (own_far h tb1 (by decide)) (tb1.set_ 3 _) (by decide)) ((tb1.set_ 3 _).set_ 4 _) (by decide)
      have bWb : Below wr.heap.size wr (((vb3.setCell ⟨wr.heap.size, 3, none⟩ (.slice A2 8 c2)).setCell ⟨wr.heap.size, 4, none⟩ (.int .i64 (resp (steerL (kv + 4) 1 8) step).P)).setCell ⟨wr.heap.size, 5, none⟩ (.int .i64 (resp (steerL (kv + 4) 1 8) step).Q)) := (((bWa.trans ((bb1.trans (bb3.mono bb1.size)).mono bWa.size)).setCell (by simp) _).setCell (by simp) _).setCell (by simp) _
      obtain ⟨WB, hW⟩ : ∃ W, (((vb3.setCell ⟨wr.heap.size, 3, none⟩ (.slice A2 8 c2)).setCell ⟨wr.heap.size, 4, none⟩ (.int .i64 (resp (steerL (kv + 4) 1 8) step).P)).setCell ⟨wr.heap.size, 5, none⟩ (.int .i64 (resp (steerL (kv + 4) 1 8) step).Q)) = W := ⟨_, rfl⟩
      rw [hW] at bWb farb
      rw [hW]
      replace tb2 : Blk WB wr.heap.size 82 _ := hW ▸ tb2
      clear hW
      have p2 := farb _ _ _ _ (own_bel ho2 bb3)
      have p1' := farb _ _ _ _ (own_bel (own_bel P1.out bb1) bb3)
      clear hcb1 hfb1 hcb2 hfb2 hcb2' hfb2' hcb3 hfb3 hcb3' hfb3' tb1 farb g3 g4 g5 gf3 gf4 gf5
      have T4 : Hid (Blk WB wr.heap.size 82 #[.slice A1 8 c1, .int .i64 (resp (steerL (kv) 1 8) step).P, .int .i64 (resp (steerL (kv) 1 8) step).Q, .slice A2 8 c2, .int .i64 (resp (steerL (kv + 4) 1 8) step).P, .int .i64 (resp (steerL (kv + 4) 1 8) step).Q]) := tb2
      clear tb2
      have e1 : WB.cell? ⟨wr.heap.size, 1, none⟩ = some (.int .i64 (resp (steerL (kv) 1 8) step).P) := T4.out.cell 1
      have e2 : WB.cell? ⟨wr.heap.size, 2, none⟩ = some (.int .i64 (resp (steerL (kv) 1 8) step).Q) := T4.out.cell 2
      have e4 : WB.cell? ⟨wr.heap.size, 4, none⟩ = some (.int .i64 (resp (steerL (kv + 4) 1 8) step).P) := T4.out.cell 4
      have e5 : WB.cell? ⟨wr.heap.size, 5, none⟩ = some (.int .i64 (resp (steerL (kv + 4) 1 8) step).Q) := T4.out.cell 5
      have hk' : kAt step 3 = if 0 < sgnPQ ((resp (steerL (kv + 4) 1 8) step).P - (resp (steerL (kv) 1 8) step).P) ((resp (steerL (kv + 4) 1 8) step).Q - (resp (steerL (kv) 1 8) step).Q) then kv + 4 else kv := by rw [← HK.out]; rfl
      have hL' : looksAt step 3 = looksAt step 2 ++ ([⟨steerL (kv) 1 8, (resp (steerL (kv) 1 8) step).P, (resp (steerL (kv) 1 8) step).Q⟩] ++ [⟨steerL (kv + 4) 1 8, (resp (steerL (kv + 4) 1 8) step).P, (resp (steerL (kv + 4) 1 8) step).Q⟩]) := by rw [← HK.out]; rfl
      have K' := hide hk'; clear hk'
      have L' := hide hL'; clear hL'
      have P1' := hide p1'; clear p1'
      have P2 := hide p2; clear p2
      have HLK := hide (hlk.bel bWb); clear hlk
      have HOWN := hide (own_bel hown bWb); clear hown
      have bWl := T4.out.lt
      have bwB : Below w.heap.size w WB := Below.step hbel bWb
      clear hba1 hba2 hba3 hbb1 hbb2 hbb3 ba1 ba2 ba3 bb1 bb2 bb3 bWa bWb TA2 P1 ho1 ho2
      obtain ⟨⟨q1, q2⟩, q3, q4⟩ := resp8_pq (kv) 1 step
      obtain ⟨⟨q5, q6⟩, q7, q8⟩ := resp8_pq (kv + 4) 1 step
      obtain ⟨sg, hsg⟩ : ∃ sg, sgnPQ ((resp (steerL (kv + 4) 1 8) step).P - (resp (steerL (kv) 1 8) step).P) ((resp (steerL (kv + 4) 1 8) step).Q - (resp (steerL (kv) 1 8) step).Q) = sg := ⟨_, rfl⟩
      have HSG := hide hsg; clear hsg
      cases hgt : decide (0 < sg)
      all_goals
        rw [rounds_succ]
        go_wp2_with (first
          | (go_at_call 43; go_must (refine (compare_beam _ _ _ _ _ ⟨q5, q6⟩ ⟨q7, q8⟩ ⟨q1, q2⟩ ⟨q3, q4⟩).mono ?_; rintro e vc ⟨rfl, hbc⟩; rw [HSG.out]; have bwC : Below w.heap.size w vc := Below.step bwB hbc; have hownC := own_bel HOWN.out hbc; have tC := T4.out.below hbc bWl; have bcz := hbc.size; have HBC := hide hbc; clear hbc; have hsl := slice_two))
          | (at_builtin; go_must (
              refine wpList_append_own _ rfl _ _ 48 rfl w.heap.size 57 i0 _ 3 40 Tryd.underlying48 hi0 hz0 hz1 hz2 rfl (by decide) (.slice A 4 c) 4 xs ?_ hownC ⟨wr.heap.size, 0, none⟩ 2 2 [.slice A1 8 c1, .int .i64 (resp (steerL (kv) 1 8) step).P, .int .i64 (resp (steerL (kv) 1 8) step).Q, .slice A2 8 c2, .int .i64 (resp (steerL (kv + 4) 1 8) step).P, .int .i64 (resp (steerL (kv + 4) 1 8) step).Q] ?_ ?_ ?_ ?_ ?_ ?_ ?_ ?_
              · rfl
              · rfl
              · rfl
              · exact World.news_of_block tC
              · intro u hu; simp only [List.mem_cons, List.not_mem_nil, or_false] at hu; rcases hu with rfl | rfl | rfl | rfl | rfl | rfl <;> rfl
              · simp only [maxLen]; omega
              · omega
              · omega
              intro v' w1 hown' hgrow _
              obtain ⟨An, cn, rfl⟩ := own_form hown'
              clear hsl)))
        go_roundw
        case rel =>
          have hbc := HBC.out
          have keep : ∀ (u : Value) (n : Nat) (zs : List Value), vc.ownsRow w.heap.size 3 1 u n zs → w1.ownsRow w.heap.size 3 1 u n zs := fun u n zs h => h.kept hgrow (rows_ne h hownC (by decide))
          have lk1 := ((HLK.out.bel hbc).append ((LooksAt.one (l := steerL (kv) 1 8) (P := (resp (steerL (kv) 1 8) step).P) (Q := (resp (steerL (kv) 1 8) step).Q) (own_bel (P1'.out.weaken (by first | omega | (simp; done) | (simp; omega))) hbc)).append (LooksAt.one (l := steerL (kv + 4) 1 8) (P := (resp (steerL (kv + 4) 1 8) step).P) (Q := (resp (steerL (kv + 4) 1 8) step).Q) (own_bel (P2.out.weaken (by first | omega | (simp; done) | (simp; omega))) hbc)))).imp keep
          refine ⟨3, 6, 3, An, cn, _, by omega, rfl, rfl, by go_num, ?_, rfl, hown', ?_, Below.app' bwC hownC hgrow⟩
          · rw [K'.out, HSG.out]
            simp only [decide_eq_true_eq, decide_eq_false_iff_not] at hgt
            first | rw [if_pos hgt] | rw [if_neg hgt]
          · rw [L'.out]; exact lk1
        case measure => simp [intOf]
    · subst hs'
      obtain rfl : σ = 3 := hσ
      obtain rfl : n = 6 := hn
      have hkv : kv = step := HK.out.symm.trans HE.out
      subst hkv
      clear hkb
      have HLK := hide hlk; clear hlk
      have HOWN := hide hown; clear hown
      go_wp2
      refine bodyPost_ret (v := .tuple #[.slice A 6 c, .int .i64 kv, .int .i64 0]) (by simp [results, Tryd.results21, go_sem]) rfl ⟨A, c, xs, rfl, HOWN.out, HLK.out, hbel⟩
end Go.Proofs.YtamkannjdbodpaaDoor
