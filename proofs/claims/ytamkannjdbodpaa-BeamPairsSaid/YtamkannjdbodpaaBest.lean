import Derived.Test.YtamkannjdbodpaaUsrO
import Derived.Test.YtamkannjdbodpaaPairLaw
import Derived.Laws.Bits64b
namespace Go.Proofs.Ytamkannjdbodpaa
open Go.RowKit Go.WideShapes Go.ChangeShapes

theorem out_len (f : Nat → List (Int × Int)) (sh : Nat → Nat → Bool) (T i m : Nat) (hf : ∀ k, (f k).length ≤ m) : ∀ j : Nat, (outF f sh T i j).length ≤ m + 1
  | 0 => by simp [outF]
  | j + 1 => by
    have ih := out_len f sh T i m hf j
    rw [outF]
    split
    · exact ih
    · rw [pick_len, List.length_cons]; have := hf (i + 1 + j); omega
theorem best_len (sh : Nat → Nat → Bool) : ∀ m i T : Nat, (bestF sh m i T).length ≤ m
  | 0, _, _ => by simp [bestF]
  | m + 1, i, T => by
    rw [bestF]
    split
    · have := best_len sh m (i + 1) T; omega
    · rw [pick_len]
      have h1 := out_len (fun k => bestF sh m (i + 1) (T ||| 2 ^ k)) sh T i m (fun k => best_len sh m (i + 1) (T ||| 2 ^ k)) m
      have h2 := best_len sh m (i + 1) T
      omega
theorem bit_u64 (T i : Nat) (hT : T < 18446744073709551616) : (bits .and .u64 ((T : Int) / 2 ^ i) 1 == 1) = T.testBit i := by
  have e : ((T : Int) / 2 ^ i) = ((T / 2 ^ i : Nat) : Int) := by simp
  have h1 : T / 2 ^ i ≤ T := Nat.div_le_self _ _
  rw [e, show (1 : Int) = ((1 : Nat) : Int) from rfl, bits_and_u64_nat _ _ (by omega) (by omega), Nat.and_one_is_mod, Nat.testBit_eq_decide_div_mod_eq]
  by_cases q : T / 2 ^ i % 2 = 1
  · rw [q]; rfl
  · rw [decide_eq_false q, beq_eq_false_iff_ne]; omega
theorem own_two (w : World) (a b : Value) (t base : Nat) (hb : base ≤ w.heap.size) : (w.alloc (.cells #[a, b] t)).ownsRow base t 2 (.slice (some ⟨w.heap.size, 0, none⟩) 1 1) 1 [a, b] :=
  ⟨rfl, .inr ⟨w.heap.size, 1, #[a, b], rfl, hb, heap_alloc_new w _, Nat.le_refl _, by simp [maxLen], rfl, by simp⟩⟩
def shU (us : List (List (Int × Int))) (a b : Int) (i j : Nat) : Bool := shB (us[i]?.getD []) (us[j]?.getD []) a b
theorem p2_info : (Try.prog.info? 183).map (fun i => (i.zero, i.size, i.bytes)) = some (some (.agg #[.int .i64 0, .int .i64 0]), 2, 16) := by kernel_rfl

set_option maxRecDepth 100000 in
set_option maxHeartbeats 8000000 in
theorem best_beam (us : List (List (Int × Int))) (a b : Int) (n : Nat) (hn : us.length = n) (hn6 : n ≤ 6) (hv : ∀ i j (hi : i < us.length) (hj : j < us.length), twoE us[i] us[j] = 0) (hm : mostE a b = 0) (C : Option Addr) (c : Nat) :
    ∀ (m i T : Nat) (w : World), i + m = n → T < 2 ^ n → RowsAt CR w C us →
    Calls Try.prog 137 #[.agg #[.slice C n c, .int .i64 a, .int .i64 b], .int .i64 i, .int .u64 T] w fun e w' => ∃ P k, e = .returned (.slice P (bestF (shU us a b) m i T).length k) ∧ Sl w' P (gv (bestF (shU us a b) m i T)) ∧ Below w.heap.size w w'
  | 0, i, T, w, him, hT, hs => by
    have he : ((i : Int) == (n : Int)) = true := by rw [beq_iff_eq]; omega
    go_enter Try.func137, Try.ntmps137
    go_wp2
    go_ret
    exact ⟨none, 0, rfl, fun k hk => absurd hk (by simp [bestF, gv]), by go_grown⟩
  | m + 1, i, T, w, him, hT, hs => by
    obtain ⟨i0, hi0, hz0, hz1, hz2⟩ := info_parts p2_info
    have he : ((i : Int) == (n : Int)) = false := by rw [beq_eq_false_iff_ne]; omega
    have hT64 : T < 18446744073709551616 := Nat.lt_of_lt_of_le hT (Nat.le_trans (Nat.pow_le_pow_right (by decide) hn6) (by decide))
    have hbi := bit_u64 T i hT64
    have hil : (i : Int) + 1 ≤ 100 := by omega
    have HIH := hide (fun T' w' hT' hs' => best_beam us a b n hn hn6 hv hm C c m (i + 1) T' w' (by omega) hT' hs')
    have HS := hide hs; clear hs
    have HBF := hide (show bestF (shU us a b) (m + 1) i T = if T.testBit i then bestF (shU us a b) m (i + 1) T else pick (outF (fun k => bestF (shU us a b) m (i + 1) (T ||| 2 ^ k)) (shU us a b) T i m) (bestF (shU us a b) m (i + 1) T) from rfl)
    have hlen2 := best_len (shU us a b) m (i + 1) T
    obtain ⟨R, hR⟩ : ∃ R, bestF (shU us a b) m (i + 1) T = R := ⟨_, rfl⟩
    have HIT := hide (fun w' hs' => HIH.out T w' hT hs')
    rw [hR] at HBF HIT hlen2
    have hcast : ((i + 1 : Nat) : Int) = (i : Int) + 1 := by omega
    rw [hcast] at HIT HIH
    cases htb : T.testBit i
    · rw [htb] at hbi HBF
      have HO := hide (show ∀ j, outF (fun k => bestF (shU us a b) m (i + 1) (T ||| 2 ^ k)) (shU us a b) T i (j + 1) = if T.testBit (i + 1 + j) || !(shU us a b) i (i + 1 + j) then outF (fun k => bestF (shU us a b) m (i + 1) (T ||| 2 ^ k)) (shU us a b) T i j else pick (outF (fun k => bestF (shU us a b) m (i + 1) (T ||| 2 ^ k)) (shU us a b) T i j) (pr i (i + 1 + j) :: bestF (shU us a b) m (i + 1) (T ||| 2 ^ (i + 1 + j))) from fun j => rfl)
      have HOL := hide (out_len (fun k => bestF (shU us a b) m (i + 1) (T ||| 2 ^ k)) (shU us a b) T i m (fun k => best_len (shU us a b) m (i + 1) (T ||| 2 ^ k)))
      have HBL := hide (fun T' => best_len (shU us a b) m (i + 1) T')
      have HBI := hide (fun k => bit_u64 T k hT64)
      obtain ⟨F, hF⟩ : ∃ F : Nat → List (Int × Int), (fun k => bestF (shU us a b) m (i + 1) (T ||| 2 ^ k)) = F := ⟨_, rfl⟩
      have HFK := hide (show ∀ k, bestF (shU us a b) m (i + 1) (T ||| 2 ^ k) = F k from fun k => by rw [← hF])
      rw [hF] at HO HOL HBF
      have HTO := hide (show ∀ k, k < n → T ||| 2 ^ k < 2 ^ n from fun k hk => Nat.or_lt_two_pow hT (Nat.pow_lt_pow_right (by decide) hk))
      have HSH := hide (show ∀ k (hk : k < us.length), k < n → ∀ (hi : i < us.length), shU us a b i k = shB us[i] us[k] a b from fun k hk _ hi => by unfold shU; rw [List.getElem?_eq_getElem hk, List.getElem?_eq_getElem hi]; rfl)
      have HT64 := hide hT64
      clear hF hR htb hT64
      go_enter Try.func137, Try.ntmps137
      go_wp2
      go_loopw [7, 8] (fun o x wr => ∃ (j : Nat) (P : Option Addr) (kc : Nat), j ≤ m ∧ x = .int .i64 ((i + 1 + j : Nat) : Int) ∧ o = .slice P (outF F (shU us a b) T i j).length kc ∧ Sl wr P (gv (outF F (shU us a b) T i j)) ∧ Blk wr w.heap.size 177 #[.slice C n c, .int .i64 a, .int .i64 b] ∧ Below w.heap.size w wr) (fun _ x _ => n - (intOf x).toNat)
      case atStart => exact ⟨0, none, 0, Nat.zero_le _, by rw [Nat.add_zero, hcast], rfl, fun k hk => absurd hk (by simp [outF, gv]), Blk.new w _ _, by go_grown⟩
      case round =>
        obtain ⟨j, P, kc, hj, rfl, rfl, hp, hb0, hbel⟩ := hrel
        have y0 := hb0.lt
        have c0 : wr.cell? ⟨w.heap.size, 0, none⟩ = some (.slice C n c) := hb0.cell 0
        have c1 : wr.cell? ⟨w.heap.size, 1, none⟩ = some (.int .i64 a) := hb0.cell 1
        have c2 : wr.cell? ⟨w.heap.size, 2, none⟩ = some (.int .i64 b) := hb0.cell 2
        have HP := hide hp; clear hp
        have hol := HOL.out j
        have hstep := HO.out j
        have hbk := HBI.out (i + 1 + j)
        obtain ⟨kk, hkk⟩ : ∃ kk, i + 1 + j = kk := ⟨_, rfl⟩
        rw [hkk] at hstep hbk
        rw [hkk]
        have hnext : ((i + 1 + (j + 1) : Nat) : Int) = (kk : Int) + 1 := by omega
        obtain ⟨O, hO⟩ : ∃ O, outF F (shU us a b) T i j = O := ⟨_, rfl⟩
        rw [hO] at HP hol hstep
        rw [hO]
        by_cases hlt : j < m
        · have hkn : kk < n := by omega
          have hkl : (kk : Int) < (n : Int) := by omega
          cases htk : T.testBit kk
          · rw [htk] at hbk
            have hi1 : i < us.length := by omega
            have hk1 : kk < us.length := by omega
            have hsh := HSH.out kk hk1 hkn hi1
            have HMAY := hide (fun W k => usMay_beam C c n us a b i kk W k hn (by omega) hi1 hk1 (hv i kk hi1 hk1) hm)
            rw [← hsh] at HMAY
            have HFR := hide (fun W' k => HIH.out (T ||| 2 ^ kk) W' (HTO.out kk hkn) k)
            have hfl := HBL.out (T ||| 2 ^ kk)
            rw [HFK.out] at HFR hfl
            cases hs : shU us a b i kk
            · rw [hs] at HMAY
              have hst2 : outF F (shU us a b) T i (j + 1) = O := by rw [hstep, htk, hs]; rfl
              have HST := hide hst2
              clear hst2 hstep htk hs hsh hO HFR
              go_wp2_with (go_at_call 139; go_must (refine (HMAY.out _ (HS.out.bel cr_lasts hbel)).mono ?_; rintro e w1 ⟨rfl, hb1⟩; have b1 := hb1; clear hb1; simp only []))
              go_roundw
              case rel => exact ⟨j + 1, P, kc, by omega, by rw [hnext], by rw [HST.out], by rw [HST.out]; exact HP.out.bel b1, hb0.below b1 y0, Below.step hbel b1⟩
              case measure => simp [intOf]; omega
            · rw [hs] at HMAY
              have hst2 : outF F (shU us a b) T i (j + 1) = pick O (pr i kk :: F kk) := by rw [hstep, htk, hs, HFK.out]; rfl
              have hor : bits .or .u64 (T : Int) (IntKind.u64.wrap (2 ^ kk)) = ((T ||| 2 ^ kk : Nat) : Int) := by
                have hp64 : 2 ^ kk < 18446744073709551616 := Nat.lt_of_lt_of_le (Nat.pow_lt_pow_right (by decide) hkn) (Nat.le_trans (Nat.pow_le_pow_right (by decide) hn6) (by decide))
                have hwr : IntKind.u64.wrap (2 ^ kk) = 2 ^ kk := by
                  have e : (2 ^ kk : Int) = ((2 ^ kk : Nat) : Int) := by simp
                  rw [e, IntKind.wrap_u64]
                  clear e
                  revert hp64
                  generalize 2 ^ kk = q
                  intro hp64
                  omega
                rw [hwr]
                have := bits_or_u64_nat T (2 ^ kk) HT64.out (Nat.lt_of_lt_of_le (Nat.pow_lt_pow_right (by decide) hkn) (Nat.le_trans (Nat.pow_le_pow_right (by decide) hn6) (by decide)))
                rw [← this]; simp
              have hw1 := IntWalk.i64_in ((i : Int) + 1) (by omega)
              have HW1 := hide hw1
              have HOR := hide hor
              clear hw1 hor
              obtain ⟨X, hX⟩ : ∃ X, F kk = X := ⟨_, rfl⟩
              rw [hX] at hst2 HFR hfl
              clear hstep htk hs hsh hO hX
              go_wp2_with (go_at_call 139; go_must (refine (HMAY.out _ (HS.out.bel cr_lasts hbel)).mono ?_; rintro e w1 ⟨rfl, hb1⟩; have b1 := hb1; clear hb1; have q0 := b1.keeps c0; have q1 := b1.keeps c1; have q2 := b1.keeps c2; simp only []))
              have hbw : Below w.heap.size w w1 := Below.step hbel b1
              have HBW := hide hbw; clear hbw
              go_region_held3 (fun w' => w'.cell? ⟨w.heap.size, 0, none⟩ = some (.slice C n c) ∧ w'.cell? ⟨w.heap.size, 1, none⟩ = some (.int .i64 a) ∧ w'.cell? ⟨w.heap.size, 2, none⟩ = some (.int .i64 b)) (first | (simp [go_sem]; done) | (simp [go_sem, *]; done) | exact ⟨q0, q1, q2⟩ | go_keep)
                (first
                  | (go_at_call 137; go_must (rw [HW1.out, HOR.out]; refine (HFR.out _ (HS.out.bel cr_lasts (below_drew HBW.out))).mono ?_; rintro e w2 ⟨PX, kx, rfl, hpx, hb2⟩; have b2 : Below wr.heap.size wr w2 := Below.step (below_drew b1) hb2; have HPX := hide hpx; clear hb2 hpx; have q0 := b2.keeps c0; have q1 := b2.keeps c1; have q2 := b2.keeps c2)))
              have hbz2 := (Below.step hbel b2).size
              by_cases hlen : O.length < X.length + 1
              · have hst3 : outF F (shU us a b) T i (j + 1) = pr i kk :: X := by rw [hst2]; exact if_pos (by rw [List.length_cons]; exact hlen)
                have HST := hide hst3
                have hd : decide ((O.length : Int) < (X.length : Int) + 1) = true := by rw [decide_eq_true_iff]; omega
                clear hst2 hst3
                go_wp2_with (at_builtin; go_must (
                     refine wpList_append_any _ rfl (.tmp 64) (.tmp 65) _ rfl w.heap.size 183 i0 _ 2 16 Try.underlying101 hi0 hz0 hz1 hz2 rfl (by omega) _ 1 [.int .i64 i, .int .i64 kk] rfl (own_two w2 _ _ _ _ hbz2) _ PX X.length kx (gv X) rfl (HPX.out.alloc _).reads2 (gv_one X) (by simp only [maxLen]; omega) (by omega) (by simp; omega) ?_
                     intro v1 w3 hown3 hg3 _
                     obtain ⟨P3, k3, rfl⟩ := own_form hown3
                     have hbel3 := Below.app' ((Below.step hbel b2).alloc hbz2 _) (own_two w2 (.int .i64 i) (.int .i64 kk) 183 w.heap.size hbz2) hg3
                     have hb3 := ((hb0.below b2 y0).alloc (.cells #[.int .i64 i, .int .i64 kk] 183)).app' (own_two w2 (.int .i64 i) (.int .i64 kk) 183 w.heap.size hbz2) hg3 (by decide)))
                go_roundw
                case rel => exact ⟨j + 1, P3, k3, by omega, by rw [hnext], by rw [HST.out, List.length_cons, Nat.add_comm], by rw [HST.out]; exact Sl.of_ownN hown3, hb3, hbel3⟩
                case measure => simp [intOf]; omega
              · have hst3 : outF F (shU us a b) T i (j + 1) = O := by rw [hst2]; exact if_neg (by rw [List.length_cons]; exact hlen)
                have HST := hide hst3
                have hd : decide ((O.length : Int) < (X.length : Int) + 1) = false := by rw [decide_eq_false_iff_not]; omega
                clear hst2 hst3
                go_wp2
                go_roundw
                case rel => exact ⟨j + 1, P, kc, by omega, by rw [hnext], by rw [HST.out], by rw [HST.out]; exact HP.out.bel b2, hb0.below b2 y0, Below.step hbel b2⟩
                case measure => simp [intOf]; omega
          · rw [htk] at hbk
            have hst2 : outF F (shU us a b) T i (j + 1) = O := by rw [hstep, htk]; rfl
            have HST := hide hst2
            clear hst2 hstep htk hO
            go_wp2
            go_roundw
            case rel => exact ⟨j + 1, P, kc, by omega, by rw [hnext], by rw [HST.out], by rw [HST.out]; exact HP.out, hb0, hbel⟩
            case measure => simp [intOf]; omega
        · obtain rfl : j = m := by omega
          have hend : (kk : Int) = (n : Int) := by omega
          have hdk : decide ((kk : Int) < (n : Int)) = false := by rw [decide_eq_false_iff_not]; omega
          have HFI := hide (show bestF (shU us a b) (j + 1) i T = pick O R by rw [HBF.out, hO]; rfl)
          clear hstep hbk hO
          by_cases hlen : O.length < R.length
          · have HV := hide (show bestF (shU us a b) (j + 1) i T = R by rw [HFI.out]; exact if_pos hlen)
            have hd : decide ((O.length : Int) < (R.length : Int)) = true := by rw [decide_eq_true_iff]; omega
            go_wp2_with (go_at_call 137; go_must (refine (HIT.out _ (HS.out.bel cr_lasts hbel)).mono ?_; rintro e w1 ⟨PR, kr, rfl, hpr, hb1⟩; have HPR := hide hpr; have b1 := hb1; clear hb1 hpr; simp only []))
            go_ret
            exact ⟨PR, kr, by rw [HV.out]; rfl, by rw [HV.out]; exact HPR.out, Below.step hbel b1⟩
          · have HV := hide (show bestF (shU us a b) (j + 1) i T = O by rw [HFI.out]; exact if_neg hlen)
            have hd : decide ((O.length : Int) < (R.length : Int)) = false := by rw [decide_eq_false_iff_not]; omega
            go_wp2_with (go_at_call 137; go_must (refine (HIT.out _ (HS.out.bel cr_lasts hbel)).mono ?_; rintro e w1 ⟨PR, kr, rfl, hpr, hb1⟩; have HPR := hide hpr; have b1 := hb1; clear hb1 hpr; simp only []))
            go_ret
            exact ⟨P, kc, by rw [HV.out]; rfl, by rw [HV.out]; exact HP.out.bel b1, Below.step hbel b1⟩
    · rw [htb, if_pos rfl] at HBF
      rw [htb] at hbi
      rw [HBF.out]
      clear HBF htb HIH hR
      go_enter Try.func137, Try.ntmps137
      go_wp2_with (go_at_call 137; go_must (refine (HIT.out _ (HS.out.bel cr_lasts (by go_grown))).mono ?_; rintro e w1 ⟨P, k, rfl, hp, hb1⟩; have HP := hide hp; have b1 : Below w.heap.size w w1 := Below.step (by go_grown) hb1; clear hb1 hp; simp only []))
      go_ret
      exact ⟨P, k, rfl, HP.out, b1⟩
end Go.Proofs.Ytamkannjdbodpaa
