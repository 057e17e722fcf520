import Derived.Test.YtamkannjdbodpaaOuts
namespace Go.Proofs.Ytamkannjdbodpaa
open Go.RowKit Go.WideShapes Go.ChangeShapes

theorem row_short (f : Nat → List (List (Int × Int))) (sh : Nat → Nat → Bool) (T : List Int) (i b : Nat) (hf : ∀ k, ∀ x ∈ f k, x.length ≤ b) : ∀ j : Nat, ∀ x ∈ rowF f sh T i j, x.length ≤ b + 1
  | 0, x, hx => by simp [rowF] at hx
  | j + 1, x, hx => by
    rw [rowF, List.mem_append] at hx
    rcases hx with hx | hx
    · exact row_short f sh T i b hf j x hx
    · split at hx
      · simp at hx
      · obtain ⟨y, hy, rfl⟩ := List.mem_map.1 hx
        have := hf _ y hy
        simp only [List.length_cons]; omega
theorem lists_short (sh : Nat → Nat → Bool) : ∀ (m i : Nat) (T : List Int), ∀ x ∈ listsF sh m i T, x.length ≤ m
  | 0, _, _, x, hx => by simp [listsF, blocksF] at hx; simp [hx]
  | m + 1, i, T, x, hx => by
    unfold listsF at hx
    rw [List.mem_cons, blocksF, List.mem_append] at hx
    rcases hx with rfl | hx | hx
    · simp
    · exact row_short _ sh T i m (fun k y hy => lists_short sh m (i + 1) (T ++ [(i : Int), (k : Int)]) y hy) m x hx
    · have := lists_short sh m (i + 1) T x (List.mem_cons_of_mem _ hx)
      omega
theorem OutAt.ne {w w' : World} {base B : Nat} {v v' : Value} {ls ls' : List (List (Int × Int))} (h : OutAt w base v ls) (h' : OutAt w' B v' ls') (hb : w.heap.size ≤ B) : v'.ownBlock = none ∨ v'.ownBlock ≠ v.ownBlock := by
  obtain ⟨vs, h1, _⟩ := h
  obtain ⟨vs', h1', _⟩ := h'
  cases hv : v'.ownBlock with
  | none => exact .inl rfl
  | some g =>
    refine .inr fun e => ?_
    have a1 := h1'.lt g hv
    have a2 := h1.lt g e.symm
    omega

theorem out_ne_new {w : World} {base : Nat} {v v' u : Value} {ls : List (List (Int × Int))} (h : OutAt w base v ls) (hne : v.ownBlock = none ∨ v.ownBlock ≠ u.ownBlock) (hor : v'.ownBlock = u.ownBlock ∨ v'.ownBlock = some w.heap.size) : v.ownBlock = none ∨ v.ownBlock ≠ v'.ownBlock := by
  rcases hor with e | e
  · rw [e]; exact hne
  · obtain ⟨vs, h1, _⟩ := h
    cases hv : v.ownBlock with
    | none => exact .inl rfl
    | some g =>
      refine .inr fun e2 => ?_
      rw [e] at e2
      injection e2 with e2
      have := h1.lt g hv
      omega

def ListsOk (us : List (List (Int × Int))) (a b : Int) (A : Option Addr) (c n f : Nat) : Prop :=
  ∀ (s : Nat) (T : List Int) (tl : Nat) (TA : Option Addr) (tc : Nat) (w : World), s + f = n → T.length = tl → tl ≤ 2 * s → RowsAt GR w A us → Sl w TA (iv T) →
    Calls Try.prog 143 #[.slice A n c, .agg #[.int .i64 a, .int .i64 b], .int .i64 s, .slice TA tl tc] w fun e w' => ∃ P L k, e = .returned (.slice P L k) ∧ (listsF (shU us a b) f s T).length = L ∧ OutAt w' w.heap.size (.slice P L k) (listsF (shU us a b) f s T) ∧ Below w.heap.size w w'

theorem out_one (w : World) (base g : Nat) (hb : base ≤ w.heap.size) (hg : w.heap.size = g) : OutAt (w.alloc (.cells #[.slice none 0 0] 101)) base (.slice (some ⟨g, 0, none⟩) 1 1) [[]] := by
  subst hg
  exact ⟨[.slice none 0 0], ⟨rfl, .inr ⟨w.heap.size, 1, #[.slice none 0 0], rfl, hb, heap_alloc_new w _, Nat.le_refl _, by simp [maxLen], rfl, by simp⟩⟩, rfl, fun j hj => by
    obtain rfl : j = 0 := by simp at hj; omega
    exact ⟨none, 0, rfl, World.ownsRow_nil _ _ _ _⟩⟩
theorem sl_info : (Try.prog.info? 101).map (fun i => (i.zero, i.size, i.bytes)) = some (some (.slice none 0 0), 1, 24) := by kernel_rfl

set_option maxRecDepth 100000 in
set_option maxHeartbeats 8000000 in
theorem lists_step (us : List (List (Int × Int))) (a b : Int) (n : Nat) (hn : us.length = n) (hn6 : n ≤ 6) (hv : ∀ i j (hi : i < us.length) (hj : j < us.length), twoE us[i] us[j] = 0) (hm : mostE a b = 0) (A : Option Addr) (c f : Nat)
    (ih : ∀ f', f' < f → ListsOk us a b A c n f') : ListsOk us a b A c n f := by
  intro s T tl TA tc w hsf hT htl hs ht
  obtain ⟨i0, hi0, hz0, hz1, hz2⟩ := info_parts p2_info
  obtain ⟨i1, hi1, hy0, hy1, hy2⟩ := info_parts sl_info
  have HIH := hide ih; clear ih
  have HN := hide hn; clear hn
  have HTM := hide hT; clear hT
  have HS := hide hs; clear hs
  have HTS := hide ht; clear ht
  have HM := hide (show ∀ B B' k k' (i j : Nat) W (hi : i < us.length) (hj : j < us.length), Sl W B (gv us[i]) → Sl W B' (gv us[j]) → Calls Try.prog 76 #[.slice B us[i].length k, .slice B' us[j].length k', .agg #[.int .i64 a, .int .i64 b]] W fun e W' => e = .returned (.bool (shU us a b i j)) ∧ Below W.heap.size W W' from fun B B' k k' i j W hi hj s1 s2 => by
    have ht := hv i j hi hj
    have hll : us[j].length = us[i].length := by obtain ⟨-, -, -, hq, -, -⟩ := twoE_ok ht; exact hq.symm
    have := mayShare_ref B B' k k' us[i].length us[i] us[j] a b W ht hm rfl hll s1 s2
    rw [show shU us a b i j = shB us[i] us[j] a b by unfold shU; rw [List.getElem?_eq_getElem hi, List.getElem?_eq_getElem hj]; rfl, hll]
    exact this)
  have HU := hide (show ∀ W, Below w.heap.size w W → ∀ i (hi : i < us.length), ∃ bb oo B k, A = some ⟨bb, oo, none⟩ ∧ W.cell? ⟨bb, oo + i, none⟩ = some (.slice B us[i].length k) ∧ GR W B us[i] from fun W hb i hi => (HS.out.bel gr_lasts hb).at_ hi)
  have HHAS := hide (show ∀ (z : Int) W, Below w.heap.size w W → Calls Try.prog 89 #[.slice TA tl tc, .int .i64 z] W fun e w' => e = .returned (.bool (T.contains z)) ∧ W = w' from fun z W hW => has_base TA tc tl T z _ HTM.out (HTS.out.bel hW) (by omega))
  have HCP := hide (show ∀ W, Below w.heap.size w W → Calls Try.prog 41 #[.slice TA tl tc] W fun e w' => ∃ A' c', e = .returned (.slice A' tl c') ∧ w'.ownsRow W.heap.size 3 1 (.slice A' tl c') tl (iv T) ∧ Below W.heap.size W w' from fun W hW => by
    have := HTM.out
    subst this
    exact copyInts TA tc T W (HTS.out.bel hW) (by omega))
  obtain ⟨i2, hi2, hx0, hx1, hx2⟩ := info_parts int_info
  clear hv hm
  obtain ⟨sh, hsh⟩ : ∃ sh, shU us a b = sh := ⟨_, rfl⟩
  rw [hsh] at HM
  rw [hsh]
  have HSH := hide hsh; clear hsh
  obtain ⟨LS, hLS⟩ : ∃ LS, listsF sh f s T = LS := ⟨_, rfl⟩
  have hcount : LS.length ≤ 720 := by rw [← hLS]; exact lists_count sh (by omega) s T
  rw [hLS]
  have HLS := hide hLS; clear hLS
  go_enter Try.func143, Try.ntmps143
  go_wp2
  go_loopw [9, 10] (fun o i wr => ∃ (m q L : Nat) (ls : List (List (Int × Int))) (P : Option Addr) (pc : Nat), i = .int .i64 q ∧ o = .slice P L pc ∧ q + m = n ∧ s ≤ q ∧ ls.length = L ∧ LS = ls ++ blocksF sh m q T ∧ OutAt wr w.heap.size (.slice P L pc) ls ∧ Blk wr w.heap.size 86 #[.int .i64 a, .int .i64 b] ∧ Below w.heap.size w wr) (fun _ i _ => n - (intOf i).toNat)
  case atStart => exact ⟨f, s, 1, [[]], _, _, rfl, rfl, hsf, Nat.le_refl _, rfl, by rw [← HLS.out]; rfl, out_one (w.alloc (.cells #[.int .i64 a, .int .i64 b] 86)) w.heap.size _ (by simp) (by simp), (Blk.new w _ _).alloc _, by go_grown⟩
  case round =>
    obtain ⟨m, q, L, ls, P, pc, rfl, rfl, hqm, hsq, hL, hall, hout, hbu, hbel⟩ := hrel
    have HALL := hide hall; clear hall
    have HOUT := hide hout; clear hout
    have HL := hide hL; clear hL
    have yu := hbu.lt
    have hbz := hbel.size
    obtain rfl | ⟨m, rfl⟩ : m = 0 ∨ ∃ m', m = m' + 1 := by cases m; exact .inl rfl; exact .inr ⟨_, rfl⟩
    · go_wp2
      go_ret
      exact ⟨P, L, pc, rfl, by rw [HALL.out, List.length_append, HL.out]; rfl, by have := HOUT.out; rw [HALL.out, show blocksF sh 0 q T = [] from rfl, List.append_nil]; exact this, hbel⟩
    · have hql : (q : Int) < (n : Int) := by omega
      cases htq : T.contains (q : Int)
      · have HTQ := hide htq
        have HROW := hide (show blocksF sh (m + 1) q T = rowF (fun k => [] :: blocksF sh m (q + 1) (T ++ [(q : Int), (k : Int)])) sh T q m ++ blocksF sh m (q + 1) T from rfl)
        have hF : ∀ j, rowF (fun k => [] :: blocksF sh m (q + 1) (T ++ [(q : Int), (k : Int)])) sh T q (j + 1) = rowF (fun k => [] :: blocksF sh m (q + 1) (T ++ [(q : Int), (k : Int)])) sh T q j ++ (if T.contains ((q + 1 + j : Nat) : Int) || !sh q (q + 1 + j) then [] else (listsF sh m (q + 1) (T ++ [(q : Int), ((q + 1 + j : Nat) : Int)])).map (pr q (q + 1 + j) :: ·)) := fun j => by
          rw [rowF, htq, Bool.false_or]; rfl
        have HF := hide hF
        clear htq hF
        go_wp2
        go_loopw [9, 11] (fun o x w2 => ∃ (j L2 : Nat) (P2 : Option Addr) (pc2 : Nat), j ≤ m ∧ x = .int .i64 ((q + 1 + j : Nat) : Int) ∧ o = .slice P2 L2 pc2 ∧ (ls ++ rowF (fun k => [] :: blocksF sh m (q + 1) (T ++ [(q : Int), (k : Int)])) sh T q j).length = L2 ∧ OutAt w2 w.heap.size (.slice P2 L2 pc2) (ls ++ rowF (fun k => [] :: blocksF sh m (q + 1) (T ++ [(q : Int), (k : Int)])) sh T q j) ∧ Blk w2 w.heap.size 86 #[.int .i64 a, .int .i64 b] ∧ Below w.heap.size w w2) (fun _ x _ => n - (intOf x).toNat)
        case atStart => exact ⟨0, L, P, pc, Nat.zero_le _, rfl, rfl, by rw [rowF, List.append_nil, HL.out], by rw [rowF, List.append_nil]; exact HOUT.out, hbu, hbel⟩
        case round =>
          clear hbu hbel yu hbz HOUT
          obtain ⟨j, L2, P2, pc2, hjm, rfl, rfl, hL2, hout, hbu, hbel⟩ := hrel
          have HOUT := hide hout; clear hout
          have HL2 := hide hL2; clear hL2
          have yu := hbu.lt
          have hbz := hbel.size
          obtain ⟨kk, hkk⟩ : ∃ kk, q + 1 + j = kk := ⟨_, rfl⟩
          have hst := HF.out j
          rw [hkk] at hst
          rw [hkk]
          have hnext : ((q + 1 + (j + 1) : Nat) : Int) = (kk : Int) + 1 := by omega
          by_cases hlt : j < m
          · have hkn : (kk : Int) < (n : Int) := by omega
            have hqi : q < us.length := by rw [HN.out]; omega
            have hki : kk < us.length := by rw [HN.out]; omega
            cases hty : T.contains (kk : Int)
            · have HTY := hide hty
              rw [hty] at hst
              obtain ⟨bb, oo, B1, k1, hA1, r1, g1⟩ := HU.out wr hbel q hqi
              obtain ⟨bb', oo', B2, k2, hA2, r2, g2⟩ := HU.out wr hbel kk hki
              subst hA1
              injection hA2 with hA
              injection hA with hA1 hA2
              subst hA1 hA2
              have hm2 := fun W (hb : Below wr.heap.size wr W) => HM.out B1 B2 k1 k2 q kk W hqi hki (Sl.bel g1 hb) (Sl.bel g2 hb)
              obtain ⟨l1, hl1⟩ : ∃ l, us[q].length = l := ⟨_, rfl⟩
              obtain ⟨l2, hl2⟩ : ∃ l, us[kk].length = l := ⟨_, rfl⟩
              rw [hl1] at r1 hm2
              rw [hl2] at r2 hm2
              have c0 : wr.cell? ⟨w.heap.size, 0, none⟩ = some (.int .i64 a) := hbu.cell 0
              have c1 : wr.cell? ⟨w.heap.size, 1, none⟩ = some (.int .i64 b) := hbu.cell 1
              have HRB := hide hbu
              cases hsv : sh q kk
              · rw [hsv] at hm2
                have HMM := hide hm2
                have HST := hide (show rowF (fun k => [] :: blocksF sh m (q + 1) (T ++ [(q : Int), (k : Int)])) sh T q (j + 1) = rowF (fun k => [] :: blocksF sh m (q + 1) (T ++ [(q : Int), (k : Int)])) sh T q j by rw [hst, hsv]; simp)
                clear hm2 g1 g2 hl1 hl2 hst hty hsv
                go_wp2_with (first
                  | (go_at_call 89; go_must (refine (HHAS.out _ _ hbel).mono ?_; rintro e w' ⟨rfl, rfl⟩; rw [HTQ.out]; simp only [])))
                go_region_held3 (fun w' => w'.cell? ⟨bb, oo + q, none⟩ = some (.slice B1 l1 k1) ∧ w'.cell? ⟨bb, oo + kk, none⟩ = some (.slice B2 l2 k2) ∧ w'.cell? ⟨w.heap.size, 0, none⟩ = some (.int .i64 a) ∧ w'.cell? ⟨w.heap.size, 1, none⟩ = some (.int .i64 b)) (first | exact ⟨q1, q2, q3, q4⟩ | exact ⟨r1, r2, c0, c1⟩ | go_keep)
                  (first
                    | (go_at_call 89; go_must (refine (HHAS.out _ _ (below_drew hbel)).mono ?_; rintro e w' ⟨rfl, rfl⟩; rw [HTY.out]))
                    | (go_at_call 76; go_must (refine (HMM.out _ (below_drew (Below.refl _ _))).mono ?_; rintro e w5 ⟨rfl, hb5⟩; have b5 : Below wr.heap.size wr w5 := Below.step (below_drew (Below.refl _ _)) hb5; clear hb5; have q1 := b5.keeps r1; have q2 := b5.keeps r2; have q3 := b5.keeps c0; have q4 := b5.keeps c1)))
                go_wp2
                go_roundw
                case rel => exact ⟨j + 1, L2, P2, pc2, by omega, by rw [hnext], rfl, by rw [HST.out]; exact HL2.out, by rw [HST.out]; exact HOUT.out.bel b5, HRB.out.below b5 yu, Below.step hbel b5⟩
                case measure => simp [intOf]; omega
              · rw [hsv] at hm2
                have HMM := hide hm2
                have hst2 : rowF (fun k => [] :: blocksF sh m (q + 1) (T ++ [(q : Int), (k : Int)])) sh T q (j + 1) = rowF (fun k => [] :: blocksF sh m (q + 1) (T ++ [(q : Int), (k : Int)])) sh T q j ++ (listsF sh m (q + 1) (T ++ [(q : Int), (kk : Int)])).map (pr q kk :: ·) := by rw [hst, hsv]; simp
                have HST := hide hst2
                have hih := fun W P4 k4 (h1 : Below w.heap.size w W) (h2 : Sl W P4 (iv (T ++ [(q : Int), (kk : Int)]))) => HIH.out m (by omega) (q + 1) (T ++ [(q : Int), (kk : Int)]) (tl + 2) P4 k4 W (by omega) (by simp [HTM.out]) (by omega) (HS.out.bel gr_lasts h1) h2
                rw [show ((q + 1 : Nat) : Int) = (q : Int) + 1 by omega, HSH.out] at hih
                have HI := hide hih
                clear hm2 g1 g2 hl1 hl2 hst hst2 hty hsv hih
                go_wp2_with (first
                  | (go_at_call 89; go_must (refine (HHAS.out _ _ hbel).mono ?_; rintro e w' ⟨rfl, rfl⟩; rw [HTQ.out]; simp only [])))
                go_region_held3 (fun w' => w'.cell? ⟨bb, oo + q, none⟩ = some (.slice B1 l1 k1) ∧ w'.cell? ⟨bb, oo + kk, none⟩ = some (.slice B2 l2 k2) ∧ w'.cell? ⟨w.heap.size, 0, none⟩ = some (.int .i64 a) ∧ w'.cell? ⟨w.heap.size, 1, none⟩ = some (.int .i64 b)) (first | exact ⟨q1, q2, q3, q4⟩ | exact ⟨r1, r2, c0, c1⟩ | go_keep)
                  (first
                    | (go_at_call 89; go_must (refine (HHAS.out _ _ (below_drew hbel)).mono ?_; rintro e w' ⟨rfl, rfl⟩; rw [HTY.out]))
                    | (go_at_call 76; go_must (refine (HMM.out _ (below_drew (Below.refl _ _))).mono ?_; rintro e w5 ⟨rfl, hb5⟩; have b5 : Below wr.heap.size wr w5 := Below.step (below_drew (Below.refl _ _)) hb5; clear hb5; have q1 := b5.keeps r1; have q2 := b5.keeps r2; have q3 := b5.keeps c0; have q4 := b5.keeps c1)))
                have bel5 : Below w.heap.size w w5 := Below.step hbel b5
                have z5 := b5.size
                have hw1 := IntWalk.i64_in ((q : Int) + 1) (by omega)
                go_wp2
                have y5 : w.heap.size < w5.heap.size := by omega
                have HCP2 := hide (show ∀ W, Below w5.heap.size w5 W → Calls Try.prog 41 #[.slice TA tl tc] W fun e w' => ∃ A' c', e = .returned (.slice A' tl c') ∧ w'.ownsRow w5.heap.size 3 1 (.slice A' tl c') tl (iv T) ∧ Below w5.heap.size w5 w' ∧ ∀ AA xs, Sl W AA xs → Sl w' AA xs from fun W hW => (HCP.out W (Below.step bel5 hW)).mono fun e w' ⟨A', c', h1, h2, h3⟩ => ⟨A', c', h1, h2.weaken hW.size, Below.step hW h3, fun AA xs hx => hx.bel h3⟩)
                go_region_law
                  (first
                    | (go_simp; go_at_call 41; refine (HCP2.out _ (by first | exact Below.refl _ _ | exact below_drew (Below.refl _ _) | exact (Below.refl _ _).alloc (Nat.le_refl _) _ | exact below_drew ((Below.refl _ _).alloc (Nat.le_refl _) _) | go_grown)).mono ?_; rintro e w6 ⟨A6, c6, rfl, ho6, b6, hk6⟩; have p3 := b6.keeps q3; have p4 := b6.keeps q4; have HO6 := hide ho6; have HK6 := hide hk6; clear ho6 hk6; have z6 := b6.size; have y6 : w.heap.size < w6.heap.size := by omega)
                    | (go_simp; go_at_call 143; refine (HI.out _ A7 c7 (Below.step bel5 b7) HSL7.out).mono ?_; rintro e w8 ⟨P8, L8, k8, rfl, hl8, ho8, hb8⟩; have b8 : Below w7.heap.size w7 w8 := hb8; have s3 := b8.keeps t3; have s4 := b8.keeps t4; have HR8 := hide ho8; have HL8 := hide hl8; clear ho8 hl8 hb8)
                    | (have qq := b6
                       (
                       refine step_append_any _ (by rfl) (.tmp 57) (.tmp 60) 22 (by rfl) w5.heap.size 3 i2 _ 1 8 Try.underlying22 hi2 hx0 hx1 hx2 rfl (by omega) (.slice A6 tl c6) tl (iv T) (by rfl) (HO6.out.alloc (.cells #[.int .i64 (q : Int), .int .i64 (kk : Int)] 3)) _ (some ⟨w6.heap.size, 0, none⟩) 2 2 [.int .i64 (q : Int), .int .i64 (kk : Int)] (by rfl) (Sl.new w6 [.int .i64 (q : Int), .int .i64 (kk : Int)] 3 _ rfl).reads (by simp [Value.oneCell']) (by simp only [maxLen]; omega) (by omega) (by first | omega | (simp; omega)) ?_
                       intro v' w7 hown7 hgrow _
                       obtain ⟨A7, c7, rfl⟩ := own_form hown7
                       have b7 : Below w5.heap.size w5 w7 := Below.app b6 HO6.out hgrow
                       have t3 := b7.keeps q3
                       have t4 := b7.keeps q4
                       have z7 := b7.size
                       have HSL7 := hide (show Sl w7 A7 (iv (T ++ [(q : Int), (kk : Int)])) by rw [iv_append]; exact Sl.of_own hown7)
                       clear hown7 hgrow))
                    | (have qq := b6
                       (
                       refine step_append_any _ (by rfl) (.tmp 57) (.tmp 60) 22 (by rfl) w5.heap.size 3 i2 _ 1 8 Try.underlying22 hi2 hx0 hx1 hx2 rfl (by omega) (.slice A6 tl c6) tl (iv T) (by rfl) HO6.out _ (some ⟨w5.heap.size, 0, none⟩) 2 2 [.int .i64 (q : Int), .int .i64 (kk : Int)] (by rfl) (HK6.out _ _ (Sl.new w5 [.int .i64 (q : Int), .int .i64 (kk : Int)] 3 _ rfl)).reads (by simp [Value.oneCell']) (by simp only [maxLen]; omega) (by omega) (by first | omega | (simp; omega)) ?_
                       intro v' w7 hown7 hgrow _
                       obtain ⟨A7, c7, rfl⟩ := own_form hown7
                       have b7 : Below w5.heap.size w5 w7 := Below.app' b6 HO6.out hgrow
                       have t3 := b7.keeps q3
                       have t4 := b7.keeps q4
                       have z7 := b7.size
                       have HSL7 := hide (show Sl w7 A7 (iv (T ++ [(q : Int), (kk : Int)])) by rw [iv_append]; exact Sl.of_own hown7)
                       clear hown7 hgrow)))
                all_goals
                  have b58 : Below wr.heap.size wr w8 := Below.step (Below.step b5 b7) b8
                  have bel8 : Below w.heap.size w w8 := Below.step hbel b58
                  have OUT7 := HOUT.out.bel (Below.step b5 b7)
                  have hne8 := hide (OUT7.ne HR8.out (Nat.le_refl _))
                  have OUT8 := hide (OUT7.bel b8)
                  have RES8 := hide (HR8.out.weaken (base' := w.heap.size) (Below.step bel5 b7).size)
                  have BU8 := hide (HRB.out.below b58 yu)
                  have HSHORT := hide (lists_short sh m (q + 1) (T ++ [(q : Int), (kk : Int)]))
                  have HCNT := hide (lists_count sh (m := m) (by omega) (q + 1) (T ++ [(q : Int), (kk : Int)]))
                  obtain ⟨R, hR⟩ : ∃ R, listsF sh m (q + 1) (T ++ [(q : Int), (kk : Int)]) = R := ⟨_, rfl⟩
                  rw [hR] at RES8 HL8 HST HSHORT HCNT
                  obtain ⟨LS2, hLS2⟩ : ∃ l, ls ++ rowF (fun k => [] :: blocksF sh m (q + 1) (T ++ [(q : Int), (k : Int)])) sh T q j = l := ⟨_, rfl⟩
                  have hnew : ls ++ rowF (fun k => [] :: blocksF sh m (q + 1) (T ++ [(q : Int), (k : Int)])) sh T q (j + 1) = LS2 ++ R.map (pr q kk :: ·) := by rw [HST.out, ← List.append_assoc, hLS2]
                  have HNEW := hide hnew
                  have hb2 : (ls ++ rowF (fun k => [] :: blocksF sh m (q + 1) (T ++ [(q : Int), (k : Int)])) sh T q j).length ≤ 6000 := by
                    have g1 := row_count (fun k => [] :: blocksF sh m (q + 1) (T ++ [(q : Int), (k : Int)])) sh T q 720 (fun k => lists_count sh (m := m) (by omega) (q + 1) (T ++ [(q : Int), (k : Int)])) j
                    have g2 := congrArg List.length HALL.out
                    rw [List.length_append] at g2
                    have g3 : j * 720 ≤ 6 * 720 := Nat.mul_le_mul_right 720 (by omega)
                    rw [List.length_append]
                    omega
                  rw [hLS2] at OUT8 HL2 hb2
                  clear OUT7 hR hnew hLS2 b58 q1 q2 q3 q4 p3 p4 t3 t4 s3 s4 b5 b6 b7 b8 HI HR8 HO6 HSL7 HMM HRB hbu hbel bel5 r1 r2 c0 c1 HCP2 HK6
                  have HCNT2 := HCNT.out
                  have HL82 := HL8.out
                  have hmm : m ≤ 6 := by omega
                  clear hcount HLS HN HTM HS HTS HM HU HHAS HCP HIH HTQ HF HTY HST hqi hki hsf
                  go_wp2
                  go_loopw [9, 13] (fun o r w2 => ∃ (t L3 : Nat) (P3 : Option Addr) (pc3 : Nat), t ≤ R.length ∧ r = .int .i64 t ∧ o = .slice P3 L3 pc3 ∧ (LS2 ++ (R.take t).map (pr q kk :: ·)).length = L3 ∧ OutAt w2 w.heap.size (.slice P3 L3 pc3) (LS2 ++ (R.take t).map (pr q kk :: ·)) ∧ OutAt w2 w.heap.size (.slice P8 L8 k8) R ∧ ((Value.slice P8 L8 k8).ownBlock = none ∨ (Value.slice P8 L8 k8).ownBlock ≠ (Value.slice P3 L3 pc3).ownBlock) ∧ Blk w2 w.heap.size 86 #[.int .i64 a, .int .i64 b] ∧ Below w.heap.size w w2) (fun _ r _ => L8 - (intOf r).toNat)
                  case atStart => exact ⟨0, L2, P2, pc2, Nat.zero_le _, rfl, rfl, by rw [List.take_zero, List.map_nil, List.append_nil]; exact HL2.out, by rw [List.take_zero, List.map_nil, List.append_nil]; exact OUT8.out, RES8.out, hne8.out, BU8.out, bel8⟩
                  case round =>
                    clear OUT8 RES8 hne8 BU8 bel8
                    obtain ⟨t, L3, P3, pc3, ht, rfl, rfl, hL3, hout3, hres3, hne3, hbu3, hbel3⟩ := hrel
                    have HL3 := hide hL3
                    have hbnd : L3 ≤ 7000 := by rw [← hL3, List.length_append, List.length_map, List.length_take]; omega
                    clear hL3
                    by_cases hlt : t < R.length
                    · have HRES := hide hres3
                      have HNE := hide hne3
                      have HBU := hide hbu3
                      obtain ⟨b9, B9, c9, hP8, r9, g9⟩ := hres3.at_ hlt
                      subst hP8
                      have hsh9 := HSHORT.out _ (List.getElem_mem hlt)
                      have HNX := hide (show LS2 ++ (R.take (t + 1)).map (pr q kk :: ·) = (LS2 ++ (R.take t).map (pr q kk :: ·)) ++ [pr q kk :: R[t]] by rw [List.take_succ_eq_append_getElem hlt, List.map_append, ← List.append_assoc]; rfl)
                      obtain ⟨X, hX⟩ : ∃ X, R[t] = X := ⟨_, rfl⟩
                      rw [hX] at r9 g9 hsh9 HNX
                      clear hX
                      obtain ⟨M, hM⟩ : ∃ M, LS2 ++ (R.take t).map (pr q kk :: ·) = M := ⟨_, rfl⟩
                      rw [hM] at hout3 HL3 HNX
                      clear hM
                      have hMl := HL3.out
                      subst hMl
                      have HOUT3 := hide hout3
                      have G9 := hide g9
                      have z3 := hbel3.size
                      have htl8 : (t : Int) < (L8 : Int) := by omega
                      clear hres3 hne3 hbu3 hout3 g9
                      rw [Nat.zero_add] at r9
                      have y9 := lt_of_cell r9
                      go_wp2_with (at_builtin; first
                        | (have qq := HV1; go_must (
                           refine wpList_append_any _ rfl (.tmp 69) (.tmp 79) _ rfl w.heap.size 101 i1 _ 1 24 Try.underlying187 hi1 hy0 hy1 hy2 rfl (by omega) _ M.length vs rfl HV1.out _ (some ⟨w1.heap.size, 0, none⟩) 1 1 [.slice P1 (X.length + 1) k1] rfl (reads_one w1 _ _) (by simp [Value.oneCell']) (by simp only [maxLen]; omega) (by omega) (by simp; omega) ?_
                           intro v2 w2 hown2 hg2 hat2
                           obtain ⟨P4, k4, rfl⟩ := own_form hown2
                           have OUT4 := hide (OutAt.snoc (l := pr q kk :: X) HV1.out HV2.out HV3.out HL1.out hown2 hg2)
                           have hs1 := HRES1.out.kept hg2 HNE.out (fun u n xs h => rows_ne h HV1.out (by decide))
                           have RES4 := hide hs1
                           have NE4 := hide (out_ne_new HRES1.out HNE.out hat2)
                           have BU4 := hide (HBU1.out.app' HV1.out hg2 (by decide))
                           have bel4 := Below.app' bel1 HV1.out hg2
                           clear hs1 hg2 hown2 hat2))
                        | go_must (
                           refine wpList_append_any _ rfl (.tmp 73) (.tmp 77) _ rfl wr.heap.size 183 i0 _ 2 16 Try.underlying101 hi0 hz0 hz1 hz2 rfl (by omega) _ 1 [.int .i64 q, .int .i64 kk] rfl (own_two wr _ _ _ _ (Nat.le_refl _)) _ B9 X.length c9 (gv X) rfl ((Sl.of_ownN G9.out).alloc _).reads2 (gv_one X) (by simp only [maxLen]; omega) (by omega) (by simp) ?_
                           intro v1 w1 hown1 hg1 _
                           rw [Nat.add_comm] at hown1
                           obtain ⟨P1, k1, rfl⟩ := own_form hown1
                           have b1 : Below wr.heap.size wr w1 := Below.app' ((Below.refl _ _).alloc (Nat.le_refl _) _) (own_two wr (.int .i64 q) (.int .i64 kk) 183 wr.heap.size (Nat.le_refl _)) hg1
                           have ba : Below w1.heap.size w1 (w1.alloc (.cells #[.slice P1 (X.length + 1) k1] 101)) := (Below.refl _ _).alloc (Nat.le_refl _) _
                           obtain ⟨vs, hv1, hv2, hv3⟩ := (HOUT3.out.bel b1).bel ba
                           have HV1 := hide hv1
                           have HV2 := hide hv2
                           have HV3 := hide hv3
                           have HL1 := hide ((own_bel hown1 ba).weaken z3)
                           have HRES1 := hide ((HRES.out.bel b1).bel ba)
                           have HBU1 := hide ((HBU.out.below b1 HBU.out.lt).below ba (HBU.out.below b1 HBU.out.lt).lt)
                           have bel1 := Below.step (Below.step hbel3 b1) ba
                           have z1 := b1.size
                           clear hv1 hv2 hv3 hown1 hg1))
                      go_roundw
                      case rel => exact ⟨t + 1, M.length + 1, P4, k4, by omega, by go_num, rfl, by rw [HNX.out, List.length_append]; rfl, by rw [HNX.out]; exact OUT4.out, RES4.out, NE4.out, BU4.out, bel4⟩
                      case measure => simp [intOf]; omega
                    · go_wp2
                      go_roundw
                      case rel => exact ⟨j + 1, L3, P3, pc3, by omega, by rw [hnext], rfl, by rw [HNEW.out]; have := HL3.out; rwa [List.take_of_length_le (by omega)] at this, by rw [HNEW.out]; rwa [List.take_of_length_le (by omega)] at hout3, hbu3, hbel3⟩
                      case measure => simp [intOf]; omega
            · have HTY := hide hty
              have HST := hide (show rowF (fun k => [] :: blocksF sh m (q + 1) (T ++ [(q : Int), (k : Int)])) sh T q (j + 1) = rowF (fun k => [] :: blocksF sh m (q + 1) (T ++ [(q : Int), (k : Int)])) sh T q j by rw [hst, hty]; simp)
              have HQ := hide (show ∀ k, Calls Try.prog 89 #[.slice TA tl tc, .int .i64 (kk : Int)] (wr.drewN k) fun x w' => x = .returned (.bool true) ∧ ∃ m, w' = wr.drewN m from fun k => by
                have := HHAS.out (kk : Int) _ (below_drewN hbel k)
                rw [hty] at this
                exact this.mono fun e w' ⟨h1, h2⟩ => ⟨h1, k, h2.symm⟩)
              clear hst hty
              go_wp2_with (first
                | (go_at_call 89; go_must (refine (HHAS.out _ _ hbel).mono ?_; rintro e w' ⟨rfl, rfl⟩; rw [HTQ.out]; simp only [])))
              go_quiet (first | (go_at_call 89; exact HQ.out _))
              go_wp2
              go_roundw
              case rel => exact ⟨j + 1, L2, P2, pc2, by omega, by rw [hnext], rfl, by rw [HST.out]; exact HL2.out, by rw [HST.out]; exact HOUT.out.drewN _, hbu.drewN _, below_drewN hbel _⟩
              case measure => simp [intOf]; omega
          · obtain rfl : j = m := by omega
            have hkn : ¬ (kk : Int) < (n : Int) := by omega
            clear hst
            go_wp2
            go_roundw
            case rel => exact ⟨j, q + 1, L2, _, P2, pc2, by go_num, rfl, by omega, by omega, HL2.out, by rw [HALL.out, HROW.out, List.append_assoc], HOUT.out, hbu, hbel⟩
            case measure => simp [intOf]; omega
      · have HTQ := hide htq
        have HROW := hide (show blocksF sh (m + 1) q T = blocksF sh m (q + 1) T by rw [blocksF, rowF_taken _ _ _ _ htq, List.nil_append])
        clear htq
        go_wp2
        go_loopw [9, 11] (fun o x w2 => o = .slice P L pc ∧ x = .int .i64 ((q : Int) + 1) ∧ w2 = wr) (fun _ _ _ => 0)
        case atStart => exact ⟨rfl, rfl, rfl⟩
        case round =>
          obtain ⟨rfl, rfl, rfl⟩ := hrel
          by_cases hlt : (q : Int) + 1 < (n : Int)
          · go_wp2_with (first
              | (go_at_call 89; go_must (refine (HHAS.out _ _ hbel).mono ?_; rintro e w' ⟨rfl, rfl⟩; rw [HTQ.out]; simp only [])))
            go_roundw
            case rel => exact ⟨m, q + 1, L, ls, P, pc, by go_num, rfl, by omega, by omega, HL.out, by rw [HALL.out, HROW.out], HOUT.out, hbu, hbel⟩
            case measure => simp [intOf]; omega
          · go_wp2
            go_roundw
            case rel => exact ⟨m, q + 1, L, ls, P, pc, by go_num, rfl, by omega, by omega, HL.out, by rw [HALL.out, HROW.out], HOUT.out, hbu, hbel⟩
            case measure => simp [intOf]; omega
end Go.Proofs.Ytamkannjdbodpaa

namespace Go.Proofs.Ytamkannjdbodpaa
open Go.RowKit Go.WideShapes Go.ChangeShapes

theorem lists_ref (us : List (List (Int × Int))) (a b : Int) (n : Nat) (hn : us.length = n) (hn6 : n ≤ 6) (hv : ∀ i j (hi : i < us.length) (hj : j < us.length), twoE us[i] us[j] = 0) (hm : mostE a b = 0) (A : Option Addr) (c f : Nat) : ListsOk us a b A c n f := by
  induction f using Nat.strongRecOn with
  | _ f ih => exact lists_step us a b n hn hn6 hv hm A c f ih

theorem FL_take {α : Type} (ls : List (List α)) (k : Nat) (hk : k < ls.length) : FL (ls.take (k + 1)) = pick (FL (ls.take k)) ls[k] := by
  rw [List.take_succ_eq_append_getElem hk, FL_append]
  congr 1
  exact pick_nil_left _

set_option maxRecDepth 100000 in
set_option maxHeartbeats 4000000 in
theorem mostPairs_ref (A : Option Addr) (c : Nat) (us : List (List (Int × Int))) (a b : Int) (w : World) (hs : RowsAt GR w A us) (h0 : firstOf [usersE us, mostE a b] = 0) :
    Calls Try.prog 79 #[.slice A us.length c, .agg #[.int .i64 a, .int .i64 b]] w fun e w' => ∃ P k, e = .returned (.slice P (bestF (shU us a b) us.length 0 0).length k) ∧ Sl w' P (gv (bestF (shU us a b) us.length 0 0)) ∧ Below w.heap.size w w' := by
  obtain ⟨u0, m0⟩ := firstOf_two h0
  obtain ⟨hn6, hv⟩ := usersE_ok u0
  obtain ⟨n, hn⟩ : ∃ n, us.length = n := ⟨_, rfl⟩
  have HL := hide (fun W k => lists_ref us a b n hn (by omega) hv m0 A c n 0 [] 0 none 0 W (by omega) rfl (by omega) k (fun k hk => absurd hk (by simp [iv])))
  have HFL := hide (show FL (listsF (shU us a b) n 0 []) = bestF (shU us a b) n 0 0 from by
    unfold listsF
    rw [← FL_blocks (shU us a b) n 0 0 [] (fun j _ => by simp)]
    unfold FL
    rw [List.foldl_cons, pick_nil_left])
  have hcount := lists_count (shU us a b) (m := n) (by omega) 0 []
  have hpos : 0 < (listsF (shU us a b) n 0 []).length := by simp [listsF]
  have h1 : FL ((listsF (shU us a b) n 0 []).take 1) = [] := rfl
  have HS := hide hs; clear hs
  rw [hn]
  clear h0 u0 m0 hv hn6
  obtain ⟨LS, hLS⟩ : ∃ LS, listsF (shU us a b) n 0 [] = LS := ⟨_, rfl⟩
  rw [hLS] at HL HFL hcount hpos h1
  have hz : ∀ h : 0 < LS.length, LS[0] = [] := by rw [← hLS]; exact fun _ => rfl
  obtain ⟨BV, hBV⟩ : ∃ BV, bestF (shU us a b) n 0 0 = BV := ⟨_, rfl⟩
  rw [hBV] at HFL
  rw [hBV]
  have HZ := hide hz
  have H1 := hide h1
  clear hLS hBV hz h1 hn
  go_enter Try.func79, Try.ntmps79
  go_wp2_with (go_at_call 143; go_must (refine (HL.out _ (HS.out.bel gr_lasts (by go_grown))).mono ?_; rintro e w1 ⟨P, L, k, rfl, hl, ho, hb⟩; have b1 : Below w.heap.size w w1 := Below.step (by go_grown) hb; subst hl; obtain ⟨g0, B0, c0, hP, r0, s0⟩ := ho.at_ hpos; have HO := hide ho; subst hP; rw [HZ.out] at r0; have r1 : w1.cell? ⟨g0, 0, none⟩ = some (.slice B0 0 c0) := r0; clear hb ho s0 r0; simp only []))
  have hp1 : (0 : Int) < (LS.length : Int) := by omega
  go_loopw [6, 7] (fun o i wr => ∃ (t : Nat) (Q : Option Addr) (kc : Nat), 1 ≤ t ∧ t ≤ LS.length ∧ i = .int .i64 t ∧ o = .slice Q (FL (LS.take t)).length kc ∧ Sl w1 Q (gv (FL (LS.take t))) ∧ wr = w1) (fun _ i _ => LS.length - (intOf i).toNat)
  case atStart => exact ⟨1, B0, c0, Nat.le_refl _, by omega, rfl, by rw [H1.out]; rfl, by rw [H1.out]; exact fun k hk => absurd hk (by simp [gv]), rfl⟩
  case round =>
    obtain ⟨t, Q, kc, ht1, ht, rfl, rfl, hq, rfl⟩ := hrel
    have HQ := hide hq; clear hq
    by_cases hlt : t < LS.length
    · obtain ⟨g2, B, cc, hg, r, s⟩ := HO.out.at_ hlt
      injection hg with hg
      injection hg with hg
      subst hg
      rw [Nat.zero_add] at r
      have HST := hide (FL_take LS t hlt)
      obtain ⟨X, hX⟩ : ∃ X, LS[t] = X := ⟨_, rfl⟩
      rw [hX] at r s HST
      have HS2 := hide (Sl.of_ownN s)
      obtain ⟨O, hO⟩ : ∃ O, FL (LS.take t) = O := ⟨_, rfl⟩
      rw [hO] at HQ HST
      rw [hO]
      clear hX hO s
      have hti : (t : Int) < (LS.length : Int) := by omega
      by_cases hlen : O.length < X.length
      · have HV := hide (show FL (LS.take (t + 1)) = X by rw [HST.out]; exact if_pos hlen)
        have hd : decide ((O.length : Int) < (X.length : Int)) = true := by rw [decide_eq_true_iff]; omega
        go_wp2
        go_roundw
        case rel => exact ⟨t + 1, B, cc, by omega, by omega, by go_num, by rw [HV.out], by rw [HV.out]; exact HS2.out, by trivial⟩
        case measure => simp [intOf]; omega
      · have HV := hide (show FL (LS.take (t + 1)) = O by rw [HST.out]; exact if_neg hlen)
        have hd : decide ((O.length : Int) < (X.length : Int)) = false := by rw [decide_eq_false_iff_not]; omega
        go_wp2
        go_roundw
        case rel => exact ⟨t + 1, Q, kc, by omega, by omega, by go_num, by rw [HV.out], by rw [HV.out]; exact HQ.out, by trivial⟩
        case measure => simp [intOf]; omega
    · have HV := hide (show FL (LS.take t) = BV by rw [List.take_of_length_le (by omega)]; exact HFL.out)
      go_wp2
      go_ret
      exact ⟨Q, kc, by rw [HV.out]; rfl, by rw [← HV.out]; exact HQ.out, b1⟩

set_option maxRecDepth 100000 in
set_option maxHeartbeats 4000000 in
theorem checkPairs_err (A : Option Addr) (c : Nat) (us : List (List (Int × Int))) (a b : Int) (PA : Option Addr) (pc m : Nat) (w : World) (hs : RowsAt GR w A us) (hl : ∀ u ∈ us, u.length ≤ 100) (hn : us.length ≤ 100)
    (a1 : -9223372036854775808 ≤ a) (a2 : a ≤ 9223372036854775807) (b2 : b ≤ 9223372036854775807) (h0 : firstOf [usersE us, mostE a b] ≠ 0) :
    Calls Try.prog 72 #[.slice A us.length c, .agg #[.int .i64 a, .int .i64 b], .slice PA m pc] w fun e w' => e = .returned (.tuple #[.int .i64 0, .int .i64 (firstOf [usersE us, mostE a b])]) ∧ Below w.heap.size w w' := by
  have HO := hide (fun W hb => openUsers_beam A c us a b W hb hl hn a1 a2 b2)
  have HS := hide hs; clear hs
  have HB := hide (((Below.refl w.heap.size w).alloc (Nat.le_refl _) (.cells #[.slice A us.length c] 100)).alloc (by simp) (.cells #[.int .i64 a, .int .i64 b] 86))
  have hne : (firstOf [usersE us, mostE a b] != 0) = true := by rw [bne_iff_ne]; exact h0
  obtain ⟨E, hE⟩ : ∃ E, firstOf [usersE us, mostE a b] = E := ⟨_, rfl⟩
  rw [hE] at HO hne
  rw [hE]
  clear h0 hE hl a1 a2 b2
  go_enter Try.func72, Try.ntmps72
  go_wp2_with (go_at_call 136; go_must (refine (HO.out _ (HS.out.bel gr_lasts (by go_grown))).mono ?_; rintro e w1 ⟨C, k, rfl, hrc, hb1⟩; have b1 : Below w.heap.size w w1 := Below.step HB.out hb1; have s1 := b1.size; clear hb1 hrc; simp only []))
  go_ret2
  exact ⟨rfl, by go_grown⟩
end Go.Proofs.Ytamkannjdbodpaa
