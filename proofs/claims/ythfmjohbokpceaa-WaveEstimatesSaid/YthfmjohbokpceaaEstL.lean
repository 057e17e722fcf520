import Derived.Test.YthfmjohbokpceaaEstE
import Derived.Test.YthfmjohbokpceaaEstH
namespace Go.Proofs.Ythfmjohbokpceaa
open Go.RowKit Go.WideShapes Go.ChangeShapes

/-! the reference's errors of estimates -/
def fF (z : Int × Int) : Nat → Bool
  | 0 => false
  | j + 1 => fF z j || decide (z = pw j)
theorem fF_ref (z : Int × Int) : fF z 4 = (entB 1 z && isRB z) := by
  have e : fF z 4 = (decide (z = (1, 0)) || decide (z = (0, 1)) || decide (z = (-1, 0)) || decide (z = (0, -1))) := by
    show ((((false || decide (z = pw 0)) || decide (z = pw 1)) || decide (z = pw 2)) || decide (z = pw 3)) = _
    rw [Bool.false_or]; rfl
  rw [e]
  by_cases h : entB 1 z = true
  · rw [h]
    obtain ⟨h1, h2⟩ := entB_one h
    obtain ⟨a, b⟩ := z
    dsimp only at h1 h2
    rcases h1 with rfl | rfl | rfl <;> rcases h2 with rfl | rfl | rfl <;> decide
  · have h0 : entB 1 z = false := by simpa using h
    rw [h0, Bool.false_and]
    have hn : ∀ y, entB 1 y = true → decide (z = y) = false := fun y hy => decide_eq_false (fun e => h (by rw [e]; exact hy))
    rw [hn _ (by decide), hn _ (by decide), hn _ (by decide), hn _ (by decide)]; rfl
set_option maxRecDepth 100000 in
set_option maxHeartbeats 8000000 in
theorem EstimatesErr_ref (A B : Option Addr) (c d : Nat) (k x : List (Int × Int)) (w : World) (hs : Sl w A (gv k)) (hs' : Sl w B (gv x)) (hl : k.length ≤ 1000000) (hl' : x.length ≤ 1000000) :
    Calls Try.prog 96 #[.slice A k.length c, .slice B x.length d] w fun e w' => e = .returned (.int .i64 (esE k x)) ∧ Below w.heap.size w w' := by
  by_cases h1 : 40 < k.length
  · have e1 : esE k x = 8 := by unfold esE esE0; rw [if_pos h1]; rfl
    rw [e1]
    clear e1 hs hs'
    go_enter Try.func96, Try.ntmps96
    go_wp2
    go_ret
    exact ⟨rfl, by go_grown⟩
  by_cases h2 : x.length = k.length
  rotate_left
  · have e1 : esE k x = 10 := by unfold esE esE0; rw [if_neg h1, if_pos h2]; rfl
    rw [e1]
    have q : ((x.length : Int) != (k.length : Int)) = true := by rw [bne_iff_ne]; omega
    have q2 : (x.length != k.length) = true := by rw [bne_iff_ne]; exact h2
    clear e1 hs hs' h2
    go_enter Try.func96, Try.ntmps96
    go_wp2
    go_ret
    exact ⟨rfl, by go_grown⟩
  have e0 : esE0 k x = 0 := by unfold esE0; rw [if_neg h1, if_neg (by omega)]
  have e1 : esE k x = if eachE refE k ≠ 0 then eachE refE k else eachE entE x := by unfold esE; rw [if_neg (by omega)]
  rw [e1]
  obtain ⟨V, hV⟩ : ∃ V, (if eachE refE k ≠ 0 then eachE refE k else eachE entE x) = V := ⟨_, rfl⟩
  have HV := hide hV
  rw [hV]
  clear e0 e1 hV
  have q : ((x.length : Int) != (k.length : Int)) = false := by rw [bne_eq_false_iff_eq]; omega
  have q2 : (x.length != k.length) = false := by rw [bne_eq_false_iff_eq]; exact h2
  have HT := hide ((stay_sl hs).and (stay_sl hs'))
  have HL := hide h2
  have HEE := hide (fun W (h : Sl W B (gv x)) => errGauss B d x W h hl')
  obtain ⟨m, hm⟩ : ∃ m, k.length = m := ⟨_, rfl⟩
  have HM := hide hm
  obtain ⟨m', hm'⟩ : ∃ m, x.length = m := ⟨_, rfl⟩
  rw [hm'] at HEE
  rw [hm, hm'] at q q2 h2 ⊢
  rw [hm] at h1 hl
  clear hs hs' hm hm' h2 hl'
  go_enter Try.func96, Try.ntmps96
  go_wp2
  go_loopw [5] (fun i wr => ∃ j : Nat, j ≤ m ∧ i = .int .i64 (j : Int) ∧ eachE refE k = eachE refE (k.drop j) ∧ Below w.heap.size w wr) (fun i _ => m - (intOf i).toNat)
  case atStart => exact ⟨0, Nat.zero_le _, rfl, by simp, Below.refl _ _⟩
  case round =>
    obtain ⟨j, hj, rfl, he, hbel⟩ := hrel
    have HE := hide he
    have HBE := hide hbel
    clear he hbel q q2
    by_cases hlt : j < m
    · have hlk : j < k.length := by rw [HM.out]; exact hlt
      have HH := hide (eachE_skip refE k j hlk)
      have HI := hide (eachE_hit refE k j hlk)
      have HKC := hide (fun W (h : Below w.heap.size w W) => show ∃ b off, A = some ⟨b, off, none⟩ ∧ W.cell? ⟨b, off + j * 2, none⟩ = some (.int .i64 (k[j]).1) ∧ W.cell? ⟨b, off + j * 2 + 1, none⟩ = some (.int .i64 (k[j]).2) from ((HT.out W h).1).at2 hlk)
      obtain ⟨Q, hQ⟩ : ∃ Q, k[j] = Q := ⟨_, rfl⟩
      rw [hQ] at HH HI HKC
      clear hQ
      obtain ⟨kb, ko, rfl, _, _⟩ := HKC.out wr HBE.out
      have HKD := hide (fun W (h : Below w.heap.size w W) => show W.cell? ⟨kb, ko + j * 2, none⟩ = some (.int .i64 Q.1) ∧ W.cell? ⟨kb, ko + j * 2 + 1, none⟩ = some (.int .i64 Q.2) from by
        obtain ⟨b2, off2, e, h1, h2⟩ := HKC.out W h
        injection e with e; injection e with e3 e4 _; subst e3 e4
        exact ⟨h1, h2⟩)
      clear HKC
      have k0 : (0 : Int) ≤ (j : Int) := by omega
      go_wp2
      obtain ⟨wo, hwo⟩ : ∃ wo : World, wr = wo := ⟨_, rfl⟩
      rw [hwo] at HBE ⊢
      clear hwo
      go_loopw [6, 7] (fun f i wr => ∃ t : Nat, t ≤ 4 ∧ i = .int .i64 (t : Int) ∧ f = .bool (fF Q t) ∧ Below w.heap.size w wr) (fun _ i _ => 4 - (intOf i).toNat)
      case atStart => exact ⟨0, by omega, rfl, rfl, HBE.out⟩
      case round =>
        obtain ⟨t, ht, rfl, rfl, hbel⟩ := hrel
        have HBE2 := hide hbel
        clear hbel
        by_cases hlt4 : t < 4
        · have HPW := hide (fun W => power_ref t hlt4 W)
          have HFS := hide (show fF Q (t + 1) = (fF Q t || decide (Q = pw t)) from rfl)
          obtain ⟨p, hp⟩ : ∃ p, pw t = p := ⟨_, rfl⟩
          rw [hp] at HPW HFS
          obtain ⟨bq, hbq⟩ : ∃ b, decide (Q = p) = b := ⟨_, rfl⟩
          rw [hbq] at HFS
          have HBQ := hide hbq
          clear hp hbq
          cases hf : fF Q t
          · rw [hf, Bool.false_or] at HFS
            clear hf
            go_wp2
            have HH0 := hide (show Below w.heap.size w wr.drew from below_drewN HBE2.out 1)
            refine wp_region_held_drew (S := fun w' => Below w.heap.size w w') (by kernel_rfl) HH0.out (fun hHeld => ?_)
            refine take_at (i := 0) 26 (v := .bool false) rfl rfl (by kernel_rfl) (by kernel_rfl) (by kernel_rfl) (fun _ _ _ h => h) (Or.inl ⟨by rfl, by intro w hSw; go_simp⟩) (by assumption) ?_
            try simp only [Act.put, List.setIfInBounds_toArray, List.set_cons_zero, List.set_cons_succ]
            refine take_at (i := 1) 27 (v := .bool false) rfl rfl (by kernel_rfl) (by kernel_rfl) (by kernel_rfl) (fun _ _ _ h => h) (Or.inl ⟨by rfl, by intro w hSw; go_simp⟩) (by assumption) ?_
            try simp only [Act.put, List.setIfInBounds_toArray, List.set_cons_zero, List.set_cons_succ]
            refine take_at (i := 2) 28 (v := .slice (some ⟨kb, ko, none⟩) m c) rfl rfl (by kernel_rfl) (by kernel_rfl) (by kernel_rfl) (fun _ _ _ h => h) (Or.inl ⟨by rfl, by intro w hSw; go_simp⟩) (by assumption) ?_
            try simp only [Act.put, List.setIfInBounds_toArray, List.set_cons_zero, List.set_cons_succ]
            refine take_at (i := 3) 29 (v := .int .i64 (j : Int)) rfl rfl (by kernel_rfl) (by kernel_rfl) (by kernel_rfl) (fun _ _ _ h => h) (Or.inl ⟨by rfl, by intro w hSw; go_simp⟩) (by assumption) ?_
            try simp only [Act.put, List.setIfInBounds_toArray, List.set_cons_zero, List.set_cons_succ]
            refine take_at (i := 4) 30 (v := .pointer (some ⟨kb, ko + j * 2, none⟩)) rfl rfl (by kernel_rfl) (by kernel_rfl) (by kernel_rfl) (fun _ _ _ h => h) (Or.inl ⟨by rfl, by intro w hSw; go_simp⟩) (by assumption) ?_
            try simp only [Act.put, List.setIfInBounds_toArray, List.set_cons_zero, List.set_cons_succ]
            refine take_at (i := 5) 31 (v := .agg #[.int .i64 Q.1, .int .i64 Q.2]) rfl rfl (by kernel_rfl) (by kernel_rfl) (by kernel_rfl) (fun _ _ _ h => h) (Or.inl ⟨by rfl, by intro w hSw; obtain ⟨c0, c1⟩ := HKD.out w hSw; go_simp⟩) (by assumption) ?_
            try simp only [Act.put, List.setIfInBounds_toArray, List.set_cons_zero, List.set_cons_succ]
            refine take_at (i := 6) 32 (v := .int .i64 (t : Int)) rfl rfl (by kernel_rfl) (by kernel_rfl) (by kernel_rfl) (fun _ _ _ h => h) (Or.inl ⟨by rfl, by intro w hSw; go_simp⟩) (by assumption) ?_
            try simp only [Act.put, List.setIfInBounds_toArray, List.set_cons_zero, List.set_cons_succ]
            obtain ⟨v0, hv0⟩ : ∃ W, wr.drew = W := ⟨_, rfl⟩
            rw [hv0] at HH0 hHeld ⊢
            clear hv0
            refine wpAnyH_ready (rs := [7]) (by kernel_rfl) (by simp) ?_
            refine AllReadyH.cons rfl (fun K hK => ?_) AllReadyH.nil
            go_simp
            refine (HPW.out _).mono ?_
            rintro e v1 ⟨rfl, hb⟩
            replace HH0 := hide (Below.step HH0.out hb)
            clear hb
            simp only []
            refine hK.out _ _ HH0.out (fun hHeld => ?_)
            clear hK K
            try simp only [Act.put, List.setIfInBounds_toArray, List.set_cons_zero, List.set_cons_succ]
            refine take_at (i := 8) 34 (v := .bool bq) rfl rfl (by kernel_rfl) (by kernel_rfl) (by kernel_rfl) (fun _ _ _ h => h) (Or.inl ⟨by rfl, by intro w hSw; go_simp; rw [← HBQ.out]; by_cases z1 : Q.1 = p.1 <;> by_cases z2 : Q.2 = p.2 <;> simp [z1, z2, Prod.ext_iff]⟩) (by assumption) ?_
            try simp only [Act.put, List.setIfInBounds_toArray, List.set_cons_zero, List.set_cons_succ]
            refine take_at (i := 9) 35 (v := .bool bq) rfl rfl (by kernel_rfl) (by kernel_rfl) (by kernel_rfl) (fun _ _ _ h => h) (Or.inl ⟨by rfl, by intro w hSw; go_simp⟩) (by assumption) ?_
            try simp only [Act.put, List.setIfInBounds_toArray, List.set_cons_zero, List.set_cons_succ]
            refine take_at (i := 10) 6 (v := .bool bq) rfl rfl (by kernel_rfl) (by kernel_rfl) (by kernel_rfl) (fun _ _ _ h => h) (Or.inl ⟨by rfl, by intro w hSw; go_simp⟩) (by assumption) ?_
            try simp only [Act.put, List.setIfInBounds_toArray, List.set_cons_zero, List.set_cons_succ]
            refine wpAnyH_done (by kernel_rfl) ?_ _
            go_wp2
            go_roundw
            case rel => exact ⟨t + 1, by omega, by go_num, by rw [HFS.out], HH0.out⟩
            case measure => simp [intOf]; omega
          · rw [hf, Bool.true_or] at HFS
            clear hf
            go_wp2
            have HH0 := hide (show Below w.heap.size w wr.drew from below_drewN HBE2.out 1)
            refine wp_region_held_drew (S := fun w' => Below w.heap.size w w') (by kernel_rfl) HH0.out (fun hHeld => ?_)
            refine take_at (i := 0) 26 (v := .bool true) rfl rfl (by kernel_rfl) (by kernel_rfl) (by kernel_rfl) (fun _ _ _ h => h) (Or.inl ⟨by rfl, by intro w hSw; go_simp⟩) (by assumption) ?_
            try simp only [Act.put, List.setIfInBounds_toArray, List.set_cons_zero, List.set_cons_succ]
            refine take_at (i := 1) 27 (v := .bool true) rfl rfl (by kernel_rfl) (by kernel_rfl) (by kernel_rfl) (fun _ _ _ h => h) (Or.inl ⟨by rfl, by intro w hSw; go_simp⟩) (by assumption) ?_
            try simp only [Act.put, List.setIfInBounds_toArray, List.set_cons_zero, List.set_cons_succ]
            refine take_at (i := 2) 28 (v := undef) rfl rfl (by kernel_rfl) (by kernel_rfl) (by kernel_rfl) (fun _ _ _ h => h) (Or.inr ⟨by rfl, rfl⟩) (by assumption) ?_
            try simp only [Act.put, List.setIfInBounds_toArray, List.set_cons_zero, List.set_cons_succ]
            refine take_at (i := 3) 29 (v := undef) rfl rfl (by kernel_rfl) (by kernel_rfl) (by kernel_rfl) (fun _ _ _ h => h) (Or.inr ⟨by rfl, rfl⟩) (by assumption) ?_
            try simp only [Act.put, List.setIfInBounds_toArray, List.set_cons_zero, List.set_cons_succ]
            refine take_at (i := 4) 30 (v := undef) rfl rfl (by kernel_rfl) (by kernel_rfl) (by kernel_rfl) (fun _ _ _ h => h) (Or.inr ⟨by rfl, rfl⟩) (by assumption) ?_
            try simp only [Act.put, List.setIfInBounds_toArray, List.set_cons_zero, List.set_cons_succ]
            refine take_at (i := 5) 31 (v := undef) rfl rfl (by kernel_rfl) (by kernel_rfl) (by kernel_rfl) (fun _ _ _ h => h) (Or.inr ⟨by rfl, rfl⟩) (by assumption) ?_
            try simp only [Act.put, List.setIfInBounds_toArray, List.set_cons_zero, List.set_cons_succ]
            refine take_at (i := 6) 32 (v := undef) rfl rfl (by kernel_rfl) (by kernel_rfl) (by kernel_rfl) (fun _ _ _ h => h) (Or.inr ⟨by rfl, rfl⟩) (by assumption) ?_
            try simp only [Act.put, List.setIfInBounds_toArray, List.set_cons_zero, List.set_cons_succ]
            refine take_at (i := 7) 33 (v := undef) rfl rfl (by kernel_rfl) (by kernel_rfl) (by kernel_rfl) (fun _ _ _ h => h) (Or.inr ⟨by rfl, rfl⟩) (by assumption) ?_
            try simp only [Act.put, List.setIfInBounds_toArray, List.set_cons_zero, List.set_cons_succ]
            refine take_at (i := 8) 34 (v := undef) rfl rfl (by kernel_rfl) (by kernel_rfl) (by kernel_rfl) (fun _ _ _ h => h) (Or.inr ⟨by rfl, rfl⟩) (by assumption) ?_
            try simp only [Act.put, List.setIfInBounds_toArray, List.set_cons_zero, List.set_cons_succ]
            refine take_at (i := 9) 35 (v := .bool true) rfl rfl (by kernel_rfl) (by kernel_rfl) (by kernel_rfl) (fun _ _ _ h => h) (Or.inl ⟨by rfl, by intro w hSw; go_simp⟩) (by assumption) ?_
            try simp only [Act.put, List.setIfInBounds_toArray, List.set_cons_zero, List.set_cons_succ]
            refine take_at (i := 10) 6 (v := .bool true) rfl rfl (by kernel_rfl) (by kernel_rfl) (by kernel_rfl) (fun _ _ _ h => h) (Or.inl ⟨by rfl, by intro w hSw; go_simp⟩) (by assumption) ?_
            try simp only [Act.put, List.setIfInBounds_toArray, List.set_cons_zero, List.set_cons_succ]
            refine wpAnyH_done (by kernel_rfl) ?_ _
            go_wp2
            go_roundw
            case rel => exact ⟨t + 1, by omega, by go_num, by rw [HFS.out], HH0.out⟩
            case measure => simp [intOf]; omega
        · obtain rfl : t = 4 := by omega
          have hr := fF_ref Q
          cases hf : fF Q 4
          · rw [hf] at hr
            have h3 := hide (show refE Q = 3 by unfold refE; rw [← hr]; rfl)
            clear hf hr HH
            go_wp2
            go_ret
            exact ⟨by rw [← HV.out, HE.out, HI.out (by rw [h3.out]; decide), h3.out]; rfl, HBE2.out⟩
          · rw [hf] at hr
            have h3 := hide (show refE Q = 0 by unfold refE; rw [← hr]; rfl)
            clear hf hr HI
            go_wp2
            go_roundw
            case rel => exact ⟨j + 1, by omega, by go_num, by rw [HE.out, HH.out h3.out], HBE2.out⟩
            case measure => simp [intOf]; omega
    · have HJ := hide (show eachE refE k = 0 by rw [HE.out, List.drop_eq_nil_of_le (by rw [HM.out]; omega)]; rfl)
      have HS := hide (HT.out wr HBE.out).2
      clear HE
      go_wp2_with (go_at_call 59; go_must (refine (HEE.out _ HS.out).mono ?_; rintro e w1 ⟨rfl, hb⟩; simp only []))
      go_ret
      exact ⟨by rw [← HV.out, HJ.out]; rfl, Below.step HBE.out hb⟩
end Go.Proofs.Ythfmjohbokpceaa
