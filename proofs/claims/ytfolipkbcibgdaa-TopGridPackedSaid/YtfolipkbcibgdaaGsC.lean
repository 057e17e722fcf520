import Derived.Test.YtfolipkbcibgdaaGsB
import Derived.Test.YtfolipkbcibgdaaGrX
namespace Go.Proofs.Ytfolipkbcibgdaa
open Go.RowKit Go.WideShapes Go.ChangeShapes

/-! the reference: carriers -/
set_option maxRecDepth 100000 in
set_option maxHeartbeats 4000000 in
theorem isName_yes (s : Bs) (w : World) (hs : OkN s) :
    Calls Try.prog 39 #[strV s] w fun e w' => e = .returned (.bool true) ∧ w = w' := by
  have hlen := fun t W => len_str s t W
  have g0 : ¬ (s.length : Int) < 1 := by have := hs.pos; omega
  have g1 : ¬ (12 : Int) < (s.length : Int) := by have := hs.few; omega
  have h12 := hs.few
  have HN := hide hs; clear hs
  go_enter Try.func39, Try.ntmps39
  go_wp2
  go_loopw [3] (fun i wr => ∃ k : Nat, k ≤ s.length ∧ i = .int .i64 k ∧ w = wr) (fun i _ => s.length - (intOf i).toNat)
  case atStart => exact ⟨0, Nat.zero_le _, rfl, rfl⟩
  case round =>
    obtain ⟨k, hk, rfl, rfl⟩ := hrel
    by_cases hlt : k < s.length
    · have hidx := fun W => idx_str s k hlt W
      have hc := HN.out.in_ k hlt
      obtain ⟨x, hx⟩ : ∃ x : Int, (s[k].toNat : Int) = x := ⟨_, rfl⟩
      rw [hx] at hidx hc
      have HC := hide hc
      have hki : (k : Int) < (s.length : Int) := by omega
      clear hx hc
      have hkk : k = 0 ∨ k ≠ 0 := by omega
      rcases hkk with hk0 | hk0
      · have hkz : ((k : Int) == 0) = true := by simp [hk0]
        have HK := hide hk0; clear hk0
        rcases nm_cases x with ⟨c1, c2⟩ | ⟨c1, c2, c3⟩ | ⟨c1, c2, c3, c4, c5⟩ | ⟨c1, c2, c3, c4, c5⟩ | ⟨c1, c2, c3, c4⟩ | ⟨c1, c2, c3⟩ | ⟨c1, c2, c3, c4, c5, c6⟩ | ⟨c1, c2, c3, c4, c5, c6, c7⟩
        all_goals
          first
            | (exfalso; have h := HC.out; have h0 := HK.out; unfold nmC at h; simp at h; omega)
            | (go_wp2
               go_roundw
               case rel => exact ⟨k + 1, by omega, by go_num, by first | rfl | trivial⟩
               case measure => simp [intOf]; omega)
      · have hkz : ((k : Int) == 0) = false := by rw [beq_eq_false_iff_ne]; omega
        have HK := hide hk0; clear hk0
        rcases nm_cases x with ⟨c1, c2⟩ | ⟨c1, c2, c3⟩ | ⟨c1, c2, c3, c4, c5⟩ | ⟨c1, c2, c3, c4, c5⟩ | ⟨c1, c2, c3, c4⟩ | ⟨c1, c2, c3⟩ | ⟨c1, c2, c3, c4, c5, c6⟩ | ⟨c1, c2, c3, c4, c5, c6, c7⟩
        all_goals
          first
            | (exfalso; have h := HC.out; have h0 := HK.out; unfold nmC at h; simp at h; omega)
            | (go_wp2
               go_roundw
               case rel => exact ⟨k + 1, by omega, by go_num, by first | rfl | trivial⟩
               case measure => simp [intOf]; omega)
    · go_wp2
      go_ret
      exact ⟨rfl, rfl⟩
theorem isName_no (s : Bs) (w : World) (hl : s.length ≤ 1000000) (h : ¬ OkN s) :
    Calls Try.prog 39 #[strV s] w fun e w' => e = .returned (.bool false) ∧ w = w' :=
  (isName_base s w hl).mono fun e w' k => by
    obtain ⟨v, h1, h2, h3⟩ := k
    cases v
    · exact ⟨h1, h3⟩
    · exact absurd (h2 rfl) h
theorem prts_now2 {P : List Prt} {b o : Nat} {w : World} (h : Prts w (some ⟨b, o, none⟩) P) (k : Nat) (hk : k < P.length) : w.cell? ⟨b, o + k * 3, none⟩ = some (.int .i64 (P[k]).mu) ∧ w.cell? ⟨b, o + k * 3 + 1, none⟩ = some (.int .i64 (P[k]).fi) ∧ w.cell? ⟨b, o + k * 3 + 2, none⟩ = some (.int .i64 (P[k]).bl) := by
  obtain ⟨b', o', e, c⟩ := h.at_ k hk
  injection e with e; injection e with e1 e2; subst e1 e2
  exact c
theorem sigs_now {S : List Sig} {b o : Nat} {w : World} (h : Sigs w (some ⟨b, o, none⟩) S) (k : Nat) (hk : k < S.length) : w.cell? ⟨b, o + k * 11, none⟩ = some (.int .i64 (S[k]).kd) ∧ w.cell? ⟨b, o + k * 11 + 1, none⟩ = some (.int .i64 (S[k]).pa) ∧ w.cell? ⟨b, o + k * 11 + 2, none⟩ = some (.int .i64 (S[k]).pe) ∧ w.cell? ⟨b, o + k * 11 + 3, none⟩ = some (.int .i64 (S[k]).of_) ∧ w.cell? ⟨b, o + k * 11 + 4, none⟩ = some (.int .i64 (S[k]).sl) ∧ w.cell? ⟨b, o + k * 11 + 5, none⟩ = some (.int .i64 (S[k]).sy) ∧ w.cell? ⟨b, o + k * 11 + 6, none⟩ = some (.int .i64 (S[k]).sn) ∧ w.cell? ⟨b, o + k * 11 + 7, none⟩ = some (.int .i64 (S[k]).bk) ∧ w.cell? ⟨b, o + k * 11 + 8, none⟩ = some (.int .i64 (S[k]).bn) ∧ w.cell? ⟨b, o + k * 11 + 9, none⟩ = some (.int .i64 (S[k]).st) ∧ w.cell? ⟨b, o + k * 11 + 10, none⟩ = some (.int .i64 (S[k]).sh) := by
  obtain ⟨b', o', e, c⟩ := h.at_ k hk
  injection e with e; injection e with e1 e2; subst e1 e2
  exact c
def CkR (nm : Bs) (ce wi : Int) (P : List Prt) (S : List Sig) (w : World) (e : Ending) (w' : World) : Prop :=
  ∃ m1 m2 v : Int, e = .returned (.tuple #[.agg #[.int .i64 m1, .int .i64 m2], .int .i64 v]) ∧ ErrR (OkN nm ∧ OkCr ce wi P S) v ∧ Below w.heap.size w w'
theorem blk_up3 (w : World) (t t' t'' : TypeId) (cs cs' cs'' : Array Value) : Blk (((w.alloc (.cells cs t)).alloc (.cells cs' t')).alloc (.cells cs'' t'')) (w.heap.size + 2) t'' cs'' := by
  have h := Blk.new ((w.alloc (.cells cs t)).alloc (.cells cs' t')) t'' cs''
  simpa using h
set_option maxRecDepth 100000 in
set_option maxHeartbeats 16000000 in
theorem checkCarrier_ref (nm : Bs) (ce wi : Int) (PA SA : Option Addr) (pc sc : Nat) (P : List Prt) (S : List Sig) (w : World) (hnl : nm.length ≤ 1000000) (hpl : P.length ≤ 1000) (hsl : S.length ≤ 1000) (hP : Prts w PA P) (hS : Sigs w SA S) :
    Calls Try.prog 15 #[.agg #[strV nm, .int .i64 ce, .int .i64 wi, .slice PA P.length pc, .slice SA S.length sc]] w (CkR nm ce wi P S w) := by
  have HPE := hide (fun (p : Prt) W (hw : 1 ≤ wi ∧ wi ≤ 600) => partErr_ref (strV nm) ce wi (.slice PA P.length pc) (.slice SA S.length sc) p.mu p.fi p.bl W hw)
  have HSE := hide (fun (s : Sig) W (hps : ∀ p ∈ P, OkP wi p) k => signalErr_ref (strV nm) ce wi PA pc (.slice SA S.length sc) P s.kd s.pa s.pe s.of_ s.sl s.sy s.sn s.bk s.bn s.st s.sh W hps hpl k)
  obtain ⟨pn, hpn⟩ : ∃ x, P.length = x := ⟨_, rfl⟩
  obtain ⟨sn, hsn⟩ : ∃ x, S.length = x := ⟨_, rfl⟩
  have HPN := hide hpn
  have HSN := hide hsn
  have HT : Hid (Stay (((w.alloc (.cells #[strV nm, .int .i64 ce, .int .i64 wi, .slice PA P.length pc, .slice SA S.length sc] 25)).alloc (.cells #[.int .i64 0, .int .i64 0] 49)).alloc (.cells #[.int .i64 0, .int .i64 0] 49)) (fun W => (((((Blk W w.heap.size 25 #[strV nm, .int .i64 ce, .int .i64 wi, .slice PA P.length pc, .slice SA S.length sc] ∧ Blk W (w.heap.size + 1) 49 #[.int .i64 0, .int .i64 0]) ∧ Blk W (w.heap.size + 2) 49 #[.int .i64 0, .int .i64 0]) ∧ Below w.heap.size w W) ∧ Prts W PA P) ∧ Sigs W SA S))) := hide
    ((((((((stay_blk (Blk.new w 25 #[strV nm, .int .i64 ce, .int .i64 wi, .slice PA P.length pc, .slice SA S.length sc])).alloc (.cells #[.int .i64 0, .int .i64 0] 49)).alloc (.cells #[.int .i64 0, .int .i64 0] 49)).and ((stay_blk (blk_up w 25 49 #[strV nm, .int .i64 ce, .int .i64 wi, .slice PA P.length pc, .slice SA S.length sc] #[.int .i64 0, .int .i64 0])).alloc (.cells #[.int .i64 0, .int .i64 0] 49))).and (stay_blk (blk_up3 w 25 49 49 #[strV nm, .int .i64 ce, .int .i64 wi, .slice PA P.length pc, .slice SA S.length sc] #[.int .i64 0, .int .i64 0] #[.int .i64 0, .int .i64 0]))).and (stay_below ((((Below.refl _ w).alloc (Nat.le_refl _) (.cells #[strV nm, .int .i64 ce, .int .i64 wi, .slice PA P.length pc, .slice SA S.length sc] 25)).alloc (by simp) (.cells #[.int .i64 0, .int .i64 0] 49)).alloc (by simp; omega) (.cells #[.int .i64 0, .int .i64 0] 49)))).and ((((stay_rws hP).alloc (.cells #[strV nm, .int .i64 ce, .int .i64 wi, .slice PA P.length pc, .slice SA S.length sc] 25)).alloc (.cells #[.int .i64 0, .int .i64 0] 49)).alloc (.cells #[.int .i64 0, .int .i64 0] 49))).and ((((stay_rws hS).alloc (.cells #[strV nm, .int .i64 ce, .int .i64 wi, .slice PA P.length pc, .slice SA S.length sc] 25)).alloc (.cells #[.int .i64 0, .int .i64 0] 49)).alloc (.cells #[.int .i64 0, .int .i64 0] 49)))
  clear hP hS
  rw [hpn, hsn] at HT HPE HSE
  rw [hpn] at hpl ⊢
  rw [hsn] at hsl ⊢
  clear hpn hsn
  have HINY := hide (fun W h => isName_yes nm W h)
  have HINN := hide (fun W h => isName_no nm W hnl h)
  clear hnl
  obtain ⟨W0, hW0⟩ : ∃ W0, ((w.alloc (.cells #[strV nm, .int .i64 ce, .int .i64 wi, .slice PA pn pc, .slice SA sn sc] 25)).alloc (.cells #[.int .i64 0, .int .i64 0] 49)).alloc (.cells #[.int .i64 0, .int .i64 0] 49) = W0 := ⟨_, rfl⟩
  rw [hW0] at HT
  have z0 : W0.cell? ⟨w.heap.size, 0, none⟩ = some (strV nm) := HT.out.now.1.1.1.1.1.cell 0
  have z1 : W0.cell? ⟨w.heap.size, 1, none⟩ = some (.int .i64 ce) := HT.out.now.1.1.1.1.1.cell 1
  have z2 : W0.cell? ⟨w.heap.size, 2, none⟩ = some (.int .i64 wi) := HT.out.now.1.1.1.1.1.cell 2
  have z3 : W0.cell? ⟨w.heap.size, 3, none⟩ = some (.slice PA pn pc) := HT.out.now.1.1.1.1.1.cell 3
  have z4 : W0.cell? ⟨w.heap.size, 4, none⟩ = some (.slice SA sn sc) := HT.out.now.1.1.1.1.1.cell 4
  have n0 : W0.cell? ⟨w.heap.size + 2, 0, none⟩ = some (.int .i64 0) := HT.out.now.1.1.1.2.cell 0
  have n1 : W0.cell? ⟨w.heap.size + 2, 1, none⟩ = some (.int .i64 0) := HT.out.now.1.1.1.2.cell 1
  have HW0 := hide hW0
  clear hW0
  by_cases qn : OkN nm
  case neg =>
    have Q := hide qn; clear qn
    go_enter Try.func15, Try.ntmps15
    go_wp2_with fail
    try rw [HW0.out]
    go_wp2_with (first | (go_at_call 39; go_must (refine (HINN.out _ Q.out).mono ?_; rintro e w' ⟨rfl, rfl⟩; simp only [])) | (refine wpList_store_row rfl 49 (.tmp 2) (.tmp 14) rfl (w.heap.size + 1) #[.int .i64 0, .int .i64 0] rfl rfl 49 #[.int .i64 0, .int .i64 0] HT.out.now.1.1.1.1.2 (by kernel_rfl) rfl (by simp [Value.oneCell']) ?_))
    exact bodyPost_ret (results_row_tmp rfl _ _ (w.heap.size + 1) 49 #[.int .i64 0, .int .i64 0] _ (.int .i64 4) rfl rfl (HT.out.now.1.1.1.1.2.row _) Try.underlying49 rfl (by kernel_rfl)) rfl ⟨0, 0, 4, rfl, .inr ⟨by decide, fun k => Q.out k.1⟩, Below.row HT.out.now.1.1.2 (by omega) _⟩
  have HNM := hide qn
  clear qn HINN
  cases h1 : withinB ce 0 1007
  · have N := hide (within_false h1)
    go_enter Try.func15, Try.ntmps15
    go_wp2_with fail
    try rw [HW0.out]
    go_wp2_with (first | (go_at_call 39; go_must (refine (HINY.out _ HNM.out).mono ?_; rintro e w' ⟨rfl, rfl⟩; simp only [])) | (go_at_call 29; go_must (refine (within_base _ _ _ _).mono ?_; rintro e w' ⟨rfl, rfl⟩; rw [h1]; simp only [])) | (refine wpList_store_row rfl 49 (.tmp 2) (.tmp 25) rfl (w.heap.size + 1) #[.int .i64 0, .int .i64 0] rfl rfl 49 #[.int .i64 0, .int .i64 0] HT.out.now.1.1.1.1.2 (by kernel_rfl) rfl (by simp [Value.oneCell']) ?_))
    exact bodyPost_ret (results_row_tmp rfl _ _ (w.heap.size + 1) 49 #[.int .i64 0, .int .i64 0] _ (.int .i64 2) rfl rfl (HT.out.now.1.1.1.1.2.row _) Try.underlying49 rfl (by kernel_rfl)) rfl ⟨0, 0, 2, rfl, .inr ⟨by decide, fun k => absurd k.2.ce_ (by have := N.out; omega)⟩, Below.row HT.out.now.1.1.2 (by omega) _⟩
  have N1 := hide (within_true h1)
  cases h2 : withinB wi 1 600
  · have N := hide (within_false h2)
    go_enter Try.func15, Try.ntmps15
    go_wp2_with fail
    try rw [HW0.out]
    go_wp2_with (first | (go_at_call 39; go_must (refine (HINY.out _ HNM.out).mono ?_; rintro e w' ⟨rfl, rfl⟩; simp only [])) | (go_at_call 29; go_must (refine (within_base _ _ _ _).mono ?_; rintro e w' ⟨rfl, rfl⟩; (first | rw [h1] | rw [h2]); simp only [])) | (refine wpList_store_row rfl 49 (.tmp 2) (.tmp 25) rfl (w.heap.size + 1) #[.int .i64 0, .int .i64 0] rfl rfl 49 #[.int .i64 0, .int .i64 0] HT.out.now.1.1.1.1.2 (by kernel_rfl) rfl (by simp [Value.oneCell']) ?_))
    exact bodyPost_ret (results_row_tmp rfl _ _ (w.heap.size + 1) 49 #[.int .i64 0, .int .i64 0] _ (.int .i64 2) rfl rfl (HT.out.now.1.1.1.1.2.row _) Try.underlying49 rfl (by kernel_rfl)) rfl ⟨0, 0, 2, rfl, .inr ⟨by decide, fun k => absurd k.2.wi_ (by have := N.out; omega)⟩, Below.row HT.out.now.1.1.2 (by omega) _⟩
  have N2 := hide (within_true h2)
  by_cases q0 : pn = 0
  · have e0 : ((pn : Int) == 0) = true := by simp [q0]
    have Q := hide q0; clear q0
    go_enter Try.func15, Try.ntmps15
    go_wp2_with fail
    try rw [HW0.out]
    go_wp2_with (first | (go_at_call 39; go_must (refine (HINY.out _ HNM.out).mono ?_; rintro e w' ⟨rfl, rfl⟩; simp only [])) | (go_at_call 29; go_must (refine (within_base _ _ _ _).mono ?_; rintro e w' ⟨rfl, rfl⟩; (first | rw [h1] | rw [h2]); simp only [])) | (refine wpList_store_row rfl 49 (.tmp 2) (.tmp 30) rfl (w.heap.size + 1) #[.int .i64 0, .int .i64 0] rfl rfl 49 #[.int .i64 0, .int .i64 0] HT.out.now.1.1.1.1.2 (by kernel_rfl) rfl (by simp [Value.oneCell']) ?_))
    exact bodyPost_ret (results_row_tmp rfl _ _ (w.heap.size + 1) 49 #[.int .i64 0, .int .i64 0] _ (.int .i64 10) rfl rfl (HT.out.now.1.1.1.1.2.row _) Try.underlying49 rfl (by kernel_rfl)) rfl ⟨0, 0, 10, rfl, .inr ⟨by decide, fun k => absurd k.2.pn (by have := Q.out; have := HPN.out; omega)⟩, Below.row HT.out.now.1.1.2 (by omega) _⟩
  have e0 : ((pn : Int) == 0) = false := by rw [beq_eq_false_iff_ne]; omega
  have HP0 := hide q0; clear q0
  by_cases q4 : 4 < pn
  · have e4 : (4 : Int) < (pn : Int) := by omega
    have Q := hide q4; clear q4
    go_enter Try.func15, Try.ntmps15
    go_wp2_with fail
    try rw [HW0.out]
    go_wp2_with (first | (go_at_call 39; go_must (refine (HINY.out _ HNM.out).mono ?_; rintro e w' ⟨rfl, rfl⟩; simp only [])) | (go_at_call 29; go_must (refine (within_base _ _ _ _).mono ?_; rintro e w' ⟨rfl, rfl⟩; (first | rw [h1] | rw [h2]); simp only [])) | (refine wpList_store_row rfl 49 (.tmp 2) (.tmp 35) rfl (w.heap.size + 1) #[.int .i64 0, .int .i64 0] rfl rfl 49 #[.int .i64 0, .int .i64 0] HT.out.now.1.1.1.1.2 (by kernel_rfl) rfl (by simp [Value.oneCell']) ?_))
    exact bodyPost_ret (results_row_tmp rfl _ _ (w.heap.size + 1) 49 #[.int .i64 0, .int .i64 0] _ (.int .i64 8) rfl rfl (HT.out.now.1.1.1.1.2.row _) Try.underlying49 rfl (by kernel_rfl)) rfl ⟨0, 0, 8, rfl, .inr ⟨by decide, fun k => absurd k.2.pn (by have := Q.out; have := HPN.out; omega)⟩, Below.row HT.out.now.1.1.2 (by omega) _⟩
  have e4 : ¬ (4 : Int) < (pn : Int) := by omega
  have HP4 := hide q4; clear q4
  go_enter Try.func15, Try.ntmps15
  go_wp2_with fail
  try rw [HW0.out]
  go_wp2_with (first | (go_at_call 39; go_must (refine (HINY.out _ HNM.out).mono ?_; rintro e w' ⟨rfl, rfl⟩; simp only [])) | (go_at_call 29; go_must (refine (within_base _ _ _ _).mono ?_; rintro e w' ⟨rfl, rfl⟩; (first | rw [h1] | rw [h2]); simp only [])))
  clear z0 z1 z2 z3 z4 n0 n1 HINY
  go_loopw [5] (fun i wr => ∃ k : Nat, k ≤ pn ∧ i = .int .i64 k ∧ (∀ q, ∀ h : q < P.length, q < k → OkP wi P[q]) ∧ Below W0.heap.size W0 wr) (fun i _ => pn - (intOf i).toNat)
  case atStart => exact ⟨0, Nat.zero_le _, rfl, fun q _ hq => absurd hq (by omega), Below.refl _ _⟩
  case round =>
    obtain ⟨k, hkm, rfl, hpre, hF⟩ := hrel
    have HF := hide hF
    replace HT := hide (HT.out.step hF)
    have HPRE := hide hpre
    clear hF hpre
    have c3 : wr.cell? ⟨w.heap.size, 3, none⟩ = some (.slice PA pn pc) := HT.out.now.1.1.1.1.1.cell 3
    have c4 : wr.cell? ⟨w.heap.size, 4, none⟩ = some (.slice SA sn sc) := HT.out.now.1.1.1.1.1.cell 4
    have n0 : wr.cell? ⟨w.heap.size + 2, 0, none⟩ = some (.int .i64 0) := HT.out.now.1.1.1.2.cell 0
    have n1 : wr.cell? ⟨w.heap.size + 2, 1, none⟩ = some (.int .i64 0) := HT.out.now.1.1.1.2.cell 1
    by_cases hlt : k < pn
    · have hkl : k < P.length := by have := HPN.out; omega
      have hki : (k : Int) < (pn : Int) := by omega
      clear c4 n0 n1
      go_wp2_with fail
      clear c3
      obtain ⟨b, o, rfl, -⟩ := HT.out.now.1.2.at_ k hkl
      have HPQ := hide (fun W (h : Prts W (some ⟨b, o, none⟩) P) => prts_now2 h k hkl)
      have HP1 := hide (fun W => HPE.out (P[k]'hkl) W N2.out)
      have HKP := hide (show (∀ i : Prt, i = P[k]'hkl → OkP wi i) → ∀ q, ∀ h : q < P.length, q < k + 1 → OkP wi P[q] from fun h q hq hlt => by
        by_cases e : q < k
        · exact HPRE.out q hq e
        · have : q = k := by omega
          subst this
          exact h _ rfl)
      have HKN := hide (show OkCr ce wi P S → OkP wi (P[k]'hkl) from fun q => q.ps _ (List.getElem_mem hkl))
      obtain ⟨p, hp⟩ : ∃ p, P[k]'hkl = p := ⟨_, rfl⟩
      rw [hp] at HPQ HP1 HKN HKP
      clear hp hkl
      refine wp_region_held_drew (S := fun w_ => Below wr.heap.size wr w_) (by kernel_rfl) (below_drewN (Below.refl wr.heap.size wr) 1) (fun hHeld => ?_)
      refine take_at (i := 0) 43 (v := .agg #[strV nm, .int .i64 ce, .int .i64 wi, .slice (some ⟨b, o, none⟩) pn pc, .slice SA sn sc]) rfl rfl (by kernel_rfl) (by kernel_rfl) (by kernel_rfl) (fun _ _ _ h => h) (Or.inl ⟨by rfl, by intro w_ hSw; have c0 : w_.cell? ⟨w.heap.size, 0, none⟩ = some (strV nm) := (HT.out _ hSw).1.1.1.1.1.cell 0; have c1 : w_.cell? ⟨w.heap.size, 1, none⟩ = some (.int .i64 ce) := (HT.out _ hSw).1.1.1.1.1.cell 1; have c2 : w_.cell? ⟨w.heap.size, 2, none⟩ = some (.int .i64 wi) := (HT.out _ hSw).1.1.1.1.1.cell 2; have c3 : w_.cell? ⟨w.heap.size, 3, none⟩ = some (.slice (some ⟨b, o, none⟩) pn pc) := (HT.out _ hSw).1.1.1.1.1.cell 3; have c4 : w_.cell? ⟨w.heap.size, 4, none⟩ = some (.slice SA sn sc) := (HT.out _ hSw).1.1.1.1.1.cell 4; go_simp⟩) (by assumption) ?_
      try simp only [Act.put, List.setIfInBounds_toArray, List.set_cons_zero, List.set_cons_succ]
      refine take_at (i := 1) 44 (v := .pointer (some ⟨w.heap.size, 3, none⟩)) rfl rfl (by kernel_rfl) (by kernel_rfl) (by kernel_rfl) (fun _ _ _ h => h) (Or.inl ⟨by rfl, by intro w_ hSw; go_simp⟩) (by assumption) ?_
      try simp only [Act.put, List.setIfInBounds_toArray, List.set_cons_zero, List.set_cons_succ]
      refine take_at (i := 2) 45 (v := .slice (some ⟨b, o, none⟩) pn pc) rfl rfl (by kernel_rfl) (by kernel_rfl) (by kernel_rfl) (fun _ _ _ h => h) (Or.inl ⟨by rfl, by intro w_ hSw; have c3 : w_.cell? ⟨w.heap.size, 3, none⟩ = some (.slice (some ⟨b, o, none⟩) pn pc) := (HT.out _ hSw).1.1.1.1.1.cell 3; go_simp⟩) (by assumption) ?_
      try simp only [Act.put, List.setIfInBounds_toArray, List.set_cons_zero, List.set_cons_succ]
      refine take_at (i := 3) 46 (v := .int .i64 (k : Int)) rfl rfl (by kernel_rfl) (by kernel_rfl) (by kernel_rfl) (fun _ _ _ h => h) (Or.inl ⟨by rfl, by intro w_ hSw; go_simp⟩) (by assumption) ?_
      try simp only [Act.put, List.setIfInBounds_toArray, List.set_cons_zero, List.set_cons_succ]
      refine take_at (i := 4) 47 (v := .pointer (some ⟨b, o + k * 3, none⟩)) rfl rfl (by kernel_rfl) (by kernel_rfl) (by kernel_rfl) (fun _ _ _ h => h) (Or.inl ⟨by rfl, by intro w_ hSw; go_simp⟩) (by assumption) ?_
      try simp only [Act.put, List.setIfInBounds_toArray, List.set_cons_zero, List.set_cons_succ]
      refine take_at (i := 5) 48 (v := .agg #[.int .i64 p.mu, .int .i64 p.fi, .int .i64 p.bl]) rfl rfl (by kernel_rfl) (by kernel_rfl) (by kernel_rfl) (fun _ _ _ h => h) (Or.inl ⟨by rfl, by intro w_ hSw; have hb0 := (HPQ.out _ (HT.out _ hSw).1.2).1; have hb1 := (HPQ.out _ (HT.out _ hSw).1.2).2.1; have hb2 := (HPQ.out _ (HT.out _ hSw).1.2).2.2; go_simp⟩) (by assumption) ?_
      try simp only [Act.put, List.setIfInBounds_toArray, List.set_cons_zero, List.set_cons_succ]
      refine wpAnyH_ready (rs := [6]) (by kernel_rfl) (by simp) ?_
      refine AllReadyH.cons rfl (fun K hK => ?_) AllReadyH.nil
      go_simp
      go_at_call 40
      refine (HP1.out _).mono ?_
      rintro e v13_1 ⟨v, rfl, hv, hb⟩
      replace hHeld := Below.step hHeld hb
      have HV := hide hv
      clear hb hv
      try simp only []
      refine hK.out _ _ hHeld (fun hHeld => ?_)
      clear hK K
      try simp only [Act.put, List.setIfInBounds_toArray, List.set_cons_zero, List.set_cons_succ]
      refine take_at (i := 7) 6 (v := .int .i64 v) rfl rfl (by kernel_rfl) (by kernel_rfl) (by kernel_rfl) (fun _ _ _ h => h) (Or.inl ⟨by rfl, by intro w_ hSw; go_simp⟩) (by assumption) ?_
      try simp only [Act.put, List.setIfInBounds_toArray, List.set_cons_zero, List.set_cons_succ]
      refine wpAnyH_done (by kernel_rfl) ?_ _
      obtain ⟨Wa, hWa⟩ : ∃ Wa, v13_1 = Wa := ⟨_, rfl⟩
      rw [hWa] at hHeld ⊢
      clear hWa
      replace HT := hide (HT.out.step hHeld)
      by_cases hv0 : v = 0
      · have ev : (v != 0) = false := by simp [hv0]
        have HP2 := hide (HKP.out (fun i hi => by rw [hi]; exact HV.out.ok hv0))
        have HB1 := hide (Below.step HF.out hHeld); clear hHeld hv0
        go_wp2_with fail
        go_roundw
        case rel => exact ⟨k + 1, by omega, by go_num, HP2.out, HB1.out⟩
        case measure => simp [intOf]; omega
      · have ev : (v != 0) = true := by simp [hv0]
        have Q := hide hv0; clear hHeld hv0
        go_wp2_with ((refine wpList_store_row rfl 49 (.tmp 2) (.tmp 53) rfl (w.heap.size + 1) #[.int .i64 1, .int .i64 (k : Int)] rfl rfl 49 #[.int .i64 0, .int .i64 0] HT.out.now.1.1.1.1.2 (by kernel_rfl) rfl (by simp [Value.oneCell']) ?_))
        exact bodyPost_ret (results_row_tmp rfl _ _ (w.heap.size + 1) 49 #[.int .i64 1, .int .i64 (k : Int)] _ (.int .i64 v) rfl rfl (HT.out.now.1.1.1.1.2.row _) Try.underlying49 rfl (by kernel_rfl)) rfl ⟨1, (k : Int), v, rfl, .inr ⟨Q.out, fun q => Q.out (HV.out.zero (HKN.out q.2))⟩, Below.row HT.out.now.1.1.2 (by omega) _⟩
    · obtain rfl : k = pn := by omega
      have hki : ¬ (k : Int) < (k : Int) := by omega
      have HPS := hide (show ∀ p ∈ P, OkP wi p from fun p hp => by
        obtain ⟨q, hq, rfl⟩ := List.getElem_of_mem hp
        exact HPRE.out q hq (by have := HPN.out; omega))
      clear c4 n0 n1
      by_cases q12 : 12 < sn
      · have e12 : (12 : Int) < (sn : Int) := by omega
        have Q := hide q12; clear q12
        have c4 : wr.cell? ⟨w.heap.size, 4, none⟩ = some (.slice SA sn sc) := HT.out.now.1.1.1.1.1.cell 4
        have n0 : wr.cell? ⟨w.heap.size + 2, 0, none⟩ = some (.int .i64 0) := HT.out.now.1.1.1.2.cell 0
        have n1 : wr.cell? ⟨w.heap.size + 2, 1, none⟩ = some (.int .i64 0) := HT.out.now.1.1.1.2.cell 1
        go_wp2_with ((refine wpList_store_row rfl 49 (.tmp 2) (.tmp 59) rfl (w.heap.size + 1) #[.int .i64 0, .int .i64 0] rfl rfl 49 #[.int .i64 0, .int .i64 0] HT.out.now.1.1.1.1.2 (by kernel_rfl) rfl (by simp [Value.oneCell']) ?_))
        exact bodyPost_ret (results_row_tmp rfl _ _ (w.heap.size + 1) 49 #[.int .i64 0, .int .i64 0] _ (.int .i64 8) rfl rfl (HT.out.now.1.1.1.1.2.row _) Try.underlying49 rfl (by kernel_rfl)) rfl ⟨0, 0, 8, rfl, .inr ⟨by decide, fun q => absurd q.2.sn (by have := Q.out; have := HSN.out; omega)⟩, Below.row HT.out.now.1.1.2 (by omega) _⟩
      have e12 : ¬ (12 : Int) < (sn : Int) := by omega
      have HS12 := hide q12; clear q12
      have c4 : wr.cell? ⟨w.heap.size, 4, none⟩ = some (.slice SA sn sc) := HT.out.now.1.1.1.1.1.cell 4
      go_wp2_with fail
      clear c3 c4
      obtain ⟨wo, hwo⟩ : ∃ wo : World, wo = wr := ⟨_, rfl⟩
      subst hwo
      go_loopw [7] (fun i wx => ∃ j : Nat, j ≤ sn ∧ i = .int .i64 j ∧ (∀ q, ∀ h : q < S.length, q < j → OkSg P S[q]) ∧ Below wo.heap.size wo wx) (fun i _ => sn - (intOf i).toNat)
      case atStart => exact ⟨0, Nat.zero_le _, rfl, fun q _ hq => absurd hq (by omega), Below.refl _ _⟩
      case round =>
        obtain ⟨j, hjm, rfl, hpre, hF⟩ := hrel
        have HF := hide hF
        replace HT := hide (HT.out.step hF)
        have HSRE := hide hpre
        clear hF hpre
        have c4 : wr.cell? ⟨w.heap.size, 4, none⟩ = some (.slice SA sn sc) := HT.out.now.1.1.1.1.1.cell 4
        have n0 : wr.cell? ⟨w.heap.size + 2, 0, none⟩ = some (.int .i64 0) := HT.out.now.1.1.1.2.cell 0
        have n1 : wr.cell? ⟨w.heap.size + 2, 1, none⟩ = some (.int .i64 0) := HT.out.now.1.1.1.2.cell 1
        by_cases hlt2 : j < sn
        · have hjl : j < S.length := by have := HSN.out; omega
          have hji : (j : Int) < (sn : Int) := by omega
          clear n0 n1
          go_wp2_with fail
          clear c4
          obtain ⟨b, o, rfl, -⟩ := HT.out.now.2.at_ j hjl
          have HSQ := hide (fun W (h : Sigs W (some ⟨b, o, none⟩) S) => sigs_now h j hjl)
          have HS1 := hide (fun W q => HSE.out (S[j]'hjl) W HPS.out q)
          have HKP := hide (show (∀ i : Sig, i = S[j]'hjl → OkSg P i) → ∀ q, ∀ h : q < S.length, q < j + 1 → OkSg P S[q] from fun h q hq hlt => by
            by_cases e : q < j
            · exact HSRE.out q hq e
            · have : q = j := by omega
              subst this
              exact h _ rfl)
          have HKN := hide (show OkCr ce wi P S → OkSg P (S[j]'hjl) from fun q => q.ss _ (List.getElem_mem hjl))
          obtain ⟨s, hs⟩ : ∃ s, S[j]'hjl = s := ⟨_, rfl⟩
          rw [hs] at HSQ HS1 HKN HKP
          clear hs hjl
          refine wp_region_held_drew (S := fun w_ => Below wr.heap.size wr w_) (by kernel_rfl) (below_drewN (Below.refl wr.heap.size wr) 1) (fun hHeld => ?_)
          refine take_at (i := 0) 67 (v := .agg #[strV nm, .int .i64 ce, .int .i64 wi, .slice PA k pc, .slice (some ⟨b, o, none⟩) sn sc]) rfl rfl (by kernel_rfl) (by kernel_rfl) (by kernel_rfl) (fun _ _ _ h => h) (Or.inl ⟨by rfl, by intro w_ hSw; have c0 : w_.cell? ⟨w.heap.size, 0, none⟩ = some (strV nm) := (HT.out _ hSw).1.1.1.1.1.cell 0; have c1 : w_.cell? ⟨w.heap.size, 1, none⟩ = some (.int .i64 ce) := (HT.out _ hSw).1.1.1.1.1.cell 1; have c2 : w_.cell? ⟨w.heap.size, 2, none⟩ = some (.int .i64 wi) := (HT.out _ hSw).1.1.1.1.1.cell 2; have c3 : w_.cell? ⟨w.heap.size, 3, none⟩ = some (.slice PA k pc) := (HT.out _ hSw).1.1.1.1.1.cell 3; have c4 : w_.cell? ⟨w.heap.size, 4, none⟩ = some (.slice (some ⟨b, o, none⟩) sn sc) := (HT.out _ hSw).1.1.1.1.1.cell 4; go_simp⟩) (by assumption) ?_
          try simp only [Act.put, List.setIfInBounds_toArray, List.set_cons_zero, List.set_cons_succ]
          refine take_at (i := 1) 68 (v := .pointer (some ⟨w.heap.size, 4, none⟩)) rfl rfl (by kernel_rfl) (by kernel_rfl) (by kernel_rfl) (fun _ _ _ h => h) (Or.inl ⟨by rfl, by intro w_ hSw; go_simp⟩) (by assumption) ?_
          try simp only [Act.put, List.setIfInBounds_toArray, List.set_cons_zero, List.set_cons_succ]
          refine take_at (i := 2) 69 (v := .slice (some ⟨b, o, none⟩) sn sc) rfl rfl (by kernel_rfl) (by kernel_rfl) (by kernel_rfl) (fun _ _ _ h => h) (Or.inl ⟨by rfl, by intro w_ hSw; have c4 : w_.cell? ⟨w.heap.size, 4, none⟩ = some (.slice (some ⟨b, o, none⟩) sn sc) := (HT.out _ hSw).1.1.1.1.1.cell 4; go_simp⟩) (by assumption) ?_
          try simp only [Act.put, List.setIfInBounds_toArray, List.set_cons_zero, List.set_cons_succ]
          refine take_at (i := 3) 70 (v := .int .i64 (j : Int)) rfl rfl (by kernel_rfl) (by kernel_rfl) (by kernel_rfl) (fun _ _ _ h => h) (Or.inl ⟨by rfl, by intro w_ hSw; go_simp⟩) (by assumption) ?_
          try simp only [Act.put, List.setIfInBounds_toArray, List.set_cons_zero, List.set_cons_succ]
          refine take_at (i := 4) 71 (v := .pointer (some ⟨b, o + j * 11, none⟩)) rfl rfl (by kernel_rfl) (by kernel_rfl) (by kernel_rfl) (fun _ _ _ h => h) (Or.inl ⟨by rfl, by intro w_ hSw; go_simp⟩) (by assumption) ?_
          try simp only [Act.put, List.setIfInBounds_toArray, List.set_cons_zero, List.set_cons_succ]
          refine take_at (i := 5) 72 (v := .agg #[.int .i64 s.kd, .int .i64 s.pa, .int .i64 s.pe, .int .i64 s.of_, .int .i64 s.sl, .int .i64 s.sy, .int .i64 s.sn, .int .i64 s.bk, .int .i64 s.bn, .int .i64 s.st, .int .i64 s.sh]) rfl rfl (by kernel_rfl) (by kernel_rfl) (by kernel_rfl) (fun _ _ _ h => h) (Or.inl ⟨by rfl, by intro w_ hSw; obtain ⟨hb0, hb1, hb2, hb3, hb4, hb5, hb6, hb7, hb8, hb9, hb10⟩ := HSQ.out _ (HT.out _ hSw).2; go_simp⟩) (by assumption) ?_
          try simp only [Act.put, List.setIfInBounds_toArray, List.set_cons_zero, List.set_cons_succ]
          refine wpAnyH_ready (rs := [6]) (by kernel_rfl) (by simp) ?_
          refine AllReadyH.cons rfl (fun K hK => ?_) AllReadyH.nil
          go_simp
          go_at_call 41
          refine (HS1.out _ (HT.out _ hHeld).1.2).mono ?_
          rintro e v21_1 ⟨v, rfl, hv, hb⟩
          replace hHeld := Below.step hHeld hb
          have HV := hide hv
          clear hb hv
          try simp only []
          refine hK.out _ _ hHeld (fun hHeld => ?_)
          clear hK K
          try simp only [Act.put, List.setIfInBounds_toArray, List.set_cons_zero, List.set_cons_succ]
          refine take_at (i := 7) 8 (v := .int .i64 v) rfl rfl (by kernel_rfl) (by kernel_rfl) (by kernel_rfl) (fun _ _ _ h => h) (Or.inl ⟨by rfl, by intro w_ hSw; go_simp⟩) (by assumption) ?_
          try simp only [Act.put, List.setIfInBounds_toArray, List.set_cons_zero, List.set_cons_succ]
          refine wpAnyH_done (by kernel_rfl) ?_ _
          obtain ⟨Wa, hWa⟩ : ∃ Wa, v21_1 = Wa := ⟨_, rfl⟩
          rw [hWa] at hHeld ⊢
          clear hWa
          replace HT := hide (HT.out.step hHeld)
          by_cases hv0 : v = 0
          · have ev : (v != 0) = false := by simp [hv0]
            have HP2 := hide (HKP.out (fun i hi => by rw [hi]; exact HV.out.ok hv0))
            have HB1 := hide (Below.step HF.out hHeld); clear hHeld hv0
            go_wp2_with fail
            go_roundw
            case rel => exact ⟨j + 1, by omega, by go_num, HP2.out, HB1.out⟩
            case measure => simp [intOf]; omega
          · have ev : (v != 0) = true := by simp [hv0]
            have Q := hide hv0; clear hHeld hv0
            go_wp2_with ((refine wpList_store_row rfl 49 (.tmp 2) (.tmp 77) rfl (w.heap.size + 1) #[.int .i64 2, .int .i64 (j : Int)] rfl rfl 49 #[.int .i64 0, .int .i64 0] HT.out.now.1.1.1.1.2 (by kernel_rfl) rfl (by simp [Value.oneCell']) ?_))
            exact bodyPost_ret (results_row_tmp rfl _ _ (w.heap.size + 1) 49 #[.int .i64 2, .int .i64 (j : Int)] _ (.int .i64 v) rfl rfl (HT.out.now.1.1.1.1.2.row _) Try.underlying49 rfl (by kernel_rfl)) rfl ⟨2, (j : Int), v, rfl, .inr ⟨Q.out, fun q => Q.out (HV.out.zero (HKN.out q.2))⟩, Below.row HT.out.now.1.1.2 (by omega) _⟩
        · obtain rfl : j = sn := by omega
          have hji : ¬ (j : Int) < (j : Int) := by omega
          have HFIN := hide (show OkCr ce wi P S from ⟨N1.out, N2.out, by have := HPN.out; have := HP0.out; have := HP4.out; omega, HPS.out, by have := HSN.out; have := HS12.out; omega, fun s hs => by
            obtain ⟨q, hq, rfl⟩ := List.getElem_of_mem hs
            exact HSRE.out q hq (by have := HSN.out; omega)⟩)
          go_wp2_with ((refine wpList_store_row rfl 49 (.tmp 2) (.tmp 79) rfl (w.heap.size + 1) #[.int .i64 0, .int .i64 0] rfl rfl 49 #[.int .i64 0, .int .i64 0] HT.out.now.1.1.1.1.2 (by kernel_rfl) rfl (by simp [Value.oneCell']) ?_))
          exact bodyPost_ret (results_row_tmp rfl _ _ (w.heap.size + 1) 49 #[.int .i64 0, .int .i64 0] _ (.int .i64 0) rfl rfl (HT.out.now.1.1.1.1.2.row _) Try.underlying49 rfl (by kernel_rfl)) rfl ⟨0, 0, 0, rfl, .inl ⟨rfl, HNM.out, HFIN.out⟩, Below.row HT.out.now.1.1.2 (by omega) _⟩
end Go.Proofs.Ytfolipkbcibgdaa
