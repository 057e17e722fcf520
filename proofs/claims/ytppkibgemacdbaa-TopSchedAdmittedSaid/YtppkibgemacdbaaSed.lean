import Derived.Test.YtppkibgemacdbaaMgf
import Derived.Test.YtppkibgemacdbaaUpP
namespace Go.Proofs.Ytppkibgemacdbaa
open Go.RowKit Go.WideShapes Go.ChangeShapes

/-! Run of one bearer -/
theorem ints_info : (Try.prog.info? 22).map (fun i => (i.zero, i.size, i.bytes)) = some (some (.slice none 0 0), 1, 24) := by kernel_rfl
theorem but_own {U : Nat} {w : World} {base e size n : Nat} {v : Value} {xs : List Value} (h : w.ownsRow base e size v n xs) (hU : U < base) : But U w (fun W => W.ownsRow base e size v n xs) := fun _ hW =>
  h.kept hW (by
    cases hv : v.ownBlock with
    | none => exact .inl rfl
    | some k => exact .inr (fun e => by have h1 := (h.lt k hv).1; injection e with e; omega))
theorem but_below {U : Nat} {w0 w : World} (h : Below w0.heap.size w0 w) (hU : w0.heap.size ≤ U) : But U w (fun W => Below w0.heap.size w0 W) := fun _ hW =>
  h.grown hW h.size (fun k hk => by injection hk with hk; omega)
theorem reads_cell {w : World} {p : Nat} {a : Value} (h : w.cell? ⟨p, 0, none⟩ = some a) : Reads w (p + 1) 1 (some ⟨p, 0, none⟩) 1 [a] := ⟨rfl, fun _ => ⟨_, rfl, by simp, fun j u hu => by
  cases j with
  | zero => simp at hu; subst hu; rw [add_lit]; exact h
  | succ j => simp at hu⟩⟩
def RunR (last : Int) (w : World) (e : Ending) (w' : World) : Prop :=
  ∃ A0 n0 c0 A1 n1 c1 lb lc, e = .returned (.tuple #[.agg #[.slice A0 n0 c0, .slice A1 n1 c1, .slice (some ⟨lb, 0, none⟩) 1 lc], .int .i64 0]) ∧ w'.cell? ⟨lb, 0, none⟩ = some (.int .i64 last) ∧ Below w.heap.size w w'
set_option maxRecDepth 100000 in
set_option maxHeartbeats 8000000 in
theorem run_one (B C P : Int) (ab ao : Nat) (c n : Nat) (T : List Int) (nm : Bs) (kd pr wt pw bu ra de : Int) (kk : Nat) (w : World) (hn : T.length = n) (hs : Sl w (some ⟨ab, ao, none⟩) (iv T)) (hs2 : OkS B C P T) (ho : OkB T nm kd pr wt pw (kk : Int) bu ra de) (hk : kd ≠ 0) (hBN : B = needB ra bu de (tbO T (kk : Int)))
    (hf : fitB B P pw ra bu de (tbO T (kk : Int)) = true) (g d : Nat) (hg : Blk w g 32 #[strV nm, .int .i64 kd, .int .i64 pr, .int .i64 wt, .int .i64 pw, .int .i64 (kk : Int), .int .i64 bu, .int .i64 ra, .int .i64 de]) (D : Option Addr) (dd m : Nat) (hsl : SlotsAt w D m (kk : Int) (arrT bu)) (hm : m ≤ 60) :
    Calls Try.prog 18 #[.agg #[.int .i64 B, .int .i64 C, .int .i64 P, .slice (some ⟨ab, ao, none⟩) n c], .slice (some ⟨g, 0, none⟩) 1 d, .slice D m dd] w (RunR (wtT bu (needB ra bu de (tbO T (kk : Int)) * tbO T (kk : Int)) m) w) := by
  obtain ⟨hle, hbu, -, -, -⟩ := ho.sure hk
  have HOR := hide (fun W k k2 k3 => openRun_one B C P (some ⟨ab, ao, none⟩) c n T nm kd pr wt pw (kk : Int) bu ra de W hn k hs2 ho hk hf g d k2 D dd m (arrT bu) k3 hm (fun k _ => by have := arr_bd (bu := bu) (by omega) k; omega))
  have HSL := hide (fun R U V vc rb ro r qb qo q t se rt bl W => slot_turn B C P ab ao c n T R U V vc nm kd pr wt pw bu ra de rb ro r qb qo q kk t se rt bl W hn hs2 ho hk hBN)
  have HWS := hide (fun t => show waitsAt bu (needB ra bu de (tbO T (kk : Int)) * tbO T (kk : Int)) (t + 1) = wtT bu (needB ra bu de (tbO T (kk : Int)) * tbO T (kk : Int)) (t + 1) by unfold wtT; simp)
  have hw0 : waitsAt bu (needB ra bu de (tbO T (kk : Int)) * tbO T (kk : Int)) 0 ≤ bu := by unfold waitsAt; simp; omega
  have hw00 : wtT bu (needB ra bu de (tbO T (kk : Int)) * tbO T (kk : Int)) 0 = 0 := rfl
  obtain ⟨b0, off0, e0, hT0⟩ := hs kk (by simp [iv]; omega)
  injection e0 with e0
  injection e0 with e1 e2
  subst e1 e2
  have hT : w.cell? ⟨ab, ao + kk, none⟩ = some (.int .i64 (tbO T (kk : Int))) := by
    rw [hT0, iv_get]
    unfold tbO
    rw [show (kk : Int).toNat = kk from rfl, List.getElem?_eq_getElem (by omega)]
    rfl
  have habl := lt_of_cell hT0
  obtain ⟨NB, hNB⟩ : ∃ z, needB ra bu de (tbO T (kk : Int)) = z := ⟨_, rfl⟩
  obtain ⟨tb, htb⟩ : ∃ z, tbO T (kk : Int) = z := ⟨_, rfl⟩
  rw [hNB, htb] at HSL HWS hw0 hw00
  rw [hNB] at HOR
  rw [htb] at hT
  rw [hNB, htb]
  obtain ⟨bits, hbits⟩ : ∃ z, NB * tb = z := ⟨_, rfl⟩
  rw [hbits] at HSL HWS hw0 hw00 ⊢
  have HT : Hid (Stay w (fun W => ((Sl W (some ⟨ab, ao, none⟩) (iv T) ∧ Blk W g 32 #[strV nm, .int .i64 kd, .int .i64 pr, .int .i64 wt, .int .i64 pw, .int .i64 (kk : Int), .int .i64 bu, .int .i64 ra, .int .i64 de]) ∧ SlotsAt W D m (kk : Int) (arrT bu)) ∧ W.cell? ⟨ab, ao + kk, none⟩ = some (.int .i64 tb))) := hide
    (((stay_sl hs).and (stay_blk hg)).and (stay_slots hsl) |>.and (stay_at hT))
  have HSW := hide hsl
  clear hs hs2 ho hk hn hf hg hsl hBN hT hT0 hNB htb hbits hle
  obtain ⟨i1, hi0, hz0, hz1, hz2⟩ := info_parts ints_info
  obtain ⟨i2, hj0, hy0, hy1, hy2⟩ := info_parts int_info
  go_enter Try.func18, Try.ntmps18
  obtain ⟨W0, hW0⟩ : ∃ W0, (w.alloc (.cells #[.int .i64 B, .int .i64 C, .int .i64 P, .slice (some ⟨ab, ao, none⟩) n c] 24)).alloc (.cells #[.slice none 0 0, .slice none 0 0, .slice none 0 0] 58) = W0 := ⟨_, rfl⟩
  have HB0 : Hid (Below w.heap.size w W0) := hide (by rw [← hW0]; exact ((Below.refl _ w).alloc (Nat.le_refl _) (.cells #[.int .i64 B, .int .i64 C, .int .i64 P, .slice (some ⟨ab, ao, none⟩) n c] 24)).alloc (by simp) (.cells #[.slice none 0 0, .slice none 0 0, .slice none 0 0] 58))
  have HE : Hid (Stay W0 (fun W => Blk W (w.heap.size + 1) 58 #[.slice none 0 0, .slice none 0 0, .slice none 0 0])) := hide (by rw [← hW0]; exact stay_blk (blk_up w 24 58 #[.int .i64 B, .int .i64 C, .int .i64 P, .slice (some ⟨ab, ao, none⟩) n c] #[.slice none 0 0, .slice none 0 0, .slice none 0 0]))
  have HZ0 : Hid (W0.heap.size = w.heap.size + 2) := hide (by rw [← hW0]; simp)
  have HS0 : Hid (Blk W0 w.heap.size 24 #[.int .i64 B, .int .i64 C, .int .i64 P, .slice (some ⟨ab, ao, none⟩) n c]) := hide (by rw [← hW0]; exact (Blk.new w 24 #[.int .i64 B, .int .i64 C, .int .i64 P, .slice (some ⟨ab, ao, none⟩) n c]).alloc (.cells #[.slice none 0 0, .slice none 0 0, .slice none 0 0] 58))
  have z0 : W0.cell? ⟨w.heap.size, 0, none⟩ = some (.int .i64 B) := HS0.out.cell 0
  have z1 : W0.cell? ⟨w.heap.size, 1, none⟩ = some (.int .i64 C) := HS0.out.cell 1
  have z2 : W0.cell? ⟨w.heap.size, 2, none⟩ = some (.int .i64 P) := HS0.out.cell 2
  have z3 : W0.cell? ⟨w.heap.size, 3, none⟩ = some (.slice (some ⟨ab, ao, none⟩) n c) := HS0.out.cell 3
  go_wp2_with (go_at_call 36; go_must (refine (HOR.out _ (HT.out _ HB0.out).1.1.1 (HT.out _ HB0.out).1.1.2 (HT.out _ HB0.out).1.2).mono ?_; rintro e w1 ⟨R, U, V, vc, rfl, hR0, hV0, hU0, hRU, hVU, hUw, hb⟩; replace HE := hide (HE.out.step hb); have HB := hide (Below.step HB0.out hb); have hR := hide hR0; have hV := hide hV0; have hU := hide hU0; clear hR0 hV0 hU0 hb hW0 HS0 HOR z0 z1 z2 z3; simp only []))
  obtain ⟨O, hO⟩ : ∃ O, w1.heap.size = O := ⟨_, rfl⟩
  have hO1 : w.heap.size + 1 < O := by have := HE.out.now.lt; omega
  have hRO : R < O := by have := hR.out.lt; omega
  have hUO : U < O := by have := hU.out.lt; omega
  have hVO : V < O := by have := lt_of_cell hV.out; omega
  have hUw2 : w.heap.size + 2 ≤ U := by have h0 := HZ0.out; omega
  obtain ⟨W5, hW5⟩ : ∃ W5, w1.alloc (.cells #[.slice none 0 0, .slice none 0 0, .slice none 0 0] 58) = W5 := ⟨_, rfl⟩
  replace hR : Hid (Blk W5 R 93 #[.int .i64 B, .int .i64 C, .int .i64 P, .slice (some ⟨ab, ao, none⟩) n c, .slice (some ⟨V, 0, none⟩) 1 vc]) := hide (by rw [← hW5]; exact hR.out.alloc (.cells #[.slice none 0 0, .slice none 0 0, .slice none 0 0] 58))
  replace hU : Hid (Blk W5 U 97 #[strV nm, .int .i64 kd, .int .i64 pr, .int .i64 wt, .int .i64 pw, .int .i64 (kk : Int), .int .i64 bu, .int .i64 ra, .int .i64 de, .int .i64 NB, .int .i64 0, .int .i64 0, .int .i64 0, .int .i64 0]) := hide (by rw [← hW5]; exact hU.out.alloc (.cells #[.slice none 0 0, .slice none 0 0, .slice none 0 0] 58))
  replace hV : Hid (W5.cell? ⟨V, 0, none⟩ = some (.pointer (some ⟨U, 0, none⟩))) := hide (by rw [← hW5]; exact (World.cell?_alloc_lt _ _ _ (lt_of_cell hV.out)).trans hV.out)
  have hOb : Hid (Blk W5 O 58 #[.slice none 0 0, .slice none 0 0, .slice none 0 0]) := hide (by rw [← hW5]; exact Blk.newN w1 58 #[.slice none 0 0, .slice none 0 0, .slice none 0 0] hO)
  replace HE : Hid (Blk W5 (w.heap.size + 1) 58 #[.slice none 0 0, .slice none 0 0, .slice none 0 0]) := hide (by rw [← hW5]; exact HE.out.now.alloc (.cells #[.slice none 0 0, .slice none 0 0, .slice none 0 0] 58))
  replace HB : Hid (Below w.heap.size w W5) := hide (by rw [← hW5]; exact HB.out.alloc HB.out.size (.cells #[.slice none 0 0, .slice none 0 0, .slice none 0 0] 58))
  have hs5 : W5.heap.size = O + 1 := by rw [← hW5, ← hO]; simp
  replace hs5 := hide hs5
  clear HB0 hUw
  rw [hW5, hO]
  clear hW5 hO HZ0
  go_loopw [28] (fun i wr => ∃ t : Nat, ∃ se rt bl v0 xs, t ≤ m ∧ i = .int .i64 t ∧ (((Blk wr R 93 #[.int .i64 B, .int .i64 C, .int .i64 P, .slice (some ⟨ab, ao, none⟩) n c, .slice (some ⟨V, 0, none⟩) 1 vc] ∧ wr.cell? ⟨V, 0, none⟩ = some (.pointer (some ⟨U, 0, none⟩))) ∧ Blk wr (w.heap.size + 1) 58 #[.slice none 0 0, .slice none 0 0, .slice none 0 0]) ∧ Below w.heap.size w wr) ∧ Blk wr U 97 #[strV nm, .int .i64 kd, .int .i64 pr, .int .i64 wt, .int .i64 pw, .int .i64 (kk : Int), .int .i64 bu, .int .i64 ra, .int .i64 de, .int .i64 NB, .int .i64 (wtT bu bits t), .int .i64 se, .int .i64 rt, .int .i64 bl] ∧ 0 ≤ se ∧ se + waitsAt bu bits t ≤ bu ∧ Blk wr O 58 #[v0, .slice none 0 0, .slice none 0 0] ∧ wr.ownsRow (O + 1) 22 1 v0 t xs ∧ O + 1 ≤ wr.heap.size) (fun i _ => m - (intOf i).toNat)
  case atStart => exact ⟨0, 0, 0, 0, .slice none 0 0, [], Nat.zero_le _, rfl, ⟨⟨⟨hR.out, hV.out⟩, HE.out⟩, HB.out⟩, by rw [hw00]; exact hU.out, by omega, by omega, hOb.out, ⟨rfl, .inl ⟨rfl, rfl⟩⟩, by have := hs5.out; omega⟩
  case round =>
    obtain ⟨t, se, rt, bl, v0, xs, htm, rfl, hF, hUb, hse, hsw, hOB, hown, hsz⟩ := hrel
    clear hR hV hU HE HB hOb hs5
    replace hUb := hide hUb
    replace hOB := hide hOB
    have HF := hide hF
    have HO := hide hown
    have HSE := hide (And.intro hse hsw)
    clear hF hown hse hsw
    by_cases hlt : t < m
    · obtain ⟨b, o, rb, ro, r, qb, qo, q, rfl, h2, h3, h4, h5⟩ := HSW.out t hlt
      have hki : (t : Int) < (m : Int) := by omega
      have hrbU : rb < U := by have := lt_of_cell h4; omega
      have hqbU : qb < U := by have := lt_of_cell h5; omega
      replace h4 := hide ((HF.out.2.cell (lt_of_cell h4)).trans h4)
      replace h5 := hide ((HF.out.2.cell (lt_of_cell h5)).trans h5)
      replace h2 := (HF.out.2.cell (lt_of_cell h2)).trans h2
      replace h3 := (HF.out.2.cell (lt_of_cell h3)).trans h3
      go_wp2_with fail
      clear h2 h3
      obtain ⟨X, hX⟩ : ∃ X, wr.heap.size = X := ⟨_, rfl⟩
      have hXU : X ≠ U := by omega
      have hXO : X ≠ O := by omega
      have HLT := hide (fun k hk => (HO.out.lt k hk : O + 1 ≤ k ∧ k < wr.heap.size))
      have HQ : Hid (But U (wr.alloc (.cells #[.slice (some ⟨rb, ro, none⟩) 1 r, .slice (some ⟨qb, qo, none⟩) 1 q] 44)) (fun W => (((((((Blk W R 93 #[.int .i64 B, .int .i64 C, .int .i64 P, .slice (some ⟨ab, ao, none⟩) n c, .slice (some ⟨V, 0, none⟩) 1 vc] ∧ W.cell? ⟨V, 0, none⟩ = some (.pointer (some ⟨U, 0, none⟩))) ∧ Blk W (w.heap.size + 1) 58 #[.slice none 0 0, .slice none 0 0, .slice none 0 0]) ∧ Below w.heap.size w W) ∧ Blk W O 58 #[v0, .slice none 0 0, .slice none 0 0]) ∧ W.ownsRow (O + 1) 22 1 v0 t xs) ∧ (W.cell? ⟨rb, ro, none⟩ = some (.int .i64 (kk : Int)) ∧ W.cell? ⟨qb, qo, none⟩ = some (.int .i64 (arrT bu t)))) ∧ W.cell? ⟨ab, ao + kk, none⟩ = some (.int .i64 tb)) ∧ Blk W X 44 #[.slice (some ⟨rb, ro, none⟩) 1 r, .slice (some ⟨qb, qo, none⟩) 1 q])) := hide
        (((((((((but_blk HF.out.1.1.1 hRU).and (but_at HF.out.1.1.2 hVU)).and (but_blk HF.out.1.2 (by omega))).and (but_below HF.out.2 (by omega))).and (but_blk hOB.out (by omega))).and (but_own HO.out (by omega))).and ((but_at h4.out (by omega)).and (but_at h5.out (by omega)))).and (but_at (HT.out _ HF.out.2).2 (by omega))).alloc (.cells #[.slice (some ⟨rb, ro, none⟩) 1 r, .slice (some ⟨qb, qo, none⟩) 1 q] 44) |>.and (but_blk (Blk.newN wr 44 #[.slice (some ⟨rb, ro, none⟩) 1 r, .slice (some ⟨qb, qo, none⟩) 1 q] hX) hXU))
      have HUb := hide (hUb.out.alloc (.cells #[.slice (some ⟨rb, ro, none⟩) 1 r, .slice (some ⟨qb, qo, none⟩) 1 q] 44))
      obtain ⟨W6, hW6⟩ : ∃ W6, wr.alloc (.cells #[.slice (some ⟨rb, ro, none⟩) 1 r, .slice (some ⟨qb, qo, none⟩) 1 q] 44) = W6 := ⟨_, rfl⟩
      rw [hW6] at HQ HUb ⊢
      try rw [hX]
      clear hW6 h4 h5 HF hUb hOB HO
      have hHeld := (⟨HQ.out.now.1.1.1.1.2.cell 0, HQ.out.now.2.drew⟩ : W6.drew.cell? ⟨O, 0, none⟩ = some v0 ∧ Blk W6.drew X 44 #[.slice (some ⟨rb, ro, none⟩) 1 r, .slice (some ⟨qb, qo, none⟩) 1 q])
      refine UpM.start (Z := [8]) (S := fun w' => w'.cell? ⟨O, 0, none⟩ = some v0 ∧ Blk w' X 44 #[.slice (some ⟨rb, ro, none⟩) 1 r, .slice (some ⟨qb, qo, none⟩) 1 q]) (by kernel_rfl) ?_
      refine UpM.pure (i := 0) 32 (v := .pointer (some ⟨O, 0, none⟩)) rfl rfl (by kernel_rfl) (by kernel_rfl) (by kernel_rfl) (fun _ _ _ h => h) (Or.inl ⟨by rfl, by intro w_ hSw; go_simp⟩) ?_
      try simp only [Act.put, List.setIfInBounds_toArray, List.set_cons_zero, List.set_cons_succ]
      refine UpM.take (i := 1) 33 (v := v0) rfl rfl (by kernel_rfl) (by kernel_rfl) (by kernel_rfl) (by kernel_rfl) (fun _ _ _ h => h) hHeld (Or.inl ⟨by rfl, by intro w_ hSw; have c0 := hSw.1; go_simp⟩) ?_
      try simp only [Act.put, List.setIfInBounds_toArray, List.set_cons_zero, List.set_cons_succ]
      refine UpM.pure (i := 2) 34 (v := .pointer (some ⟨R, 0, none⟩)) rfl rfl (by kernel_rfl) (by kernel_rfl) (by kernel_rfl) (fun _ _ _ h => h) (Or.inl ⟨by rfl, by intro w_ hSw; go_simp⟩) ?_
      try simp only [Act.put, List.setIfInBounds_toArray, List.set_cons_zero, List.set_cons_succ]
      refine UpM.take (i := 3) 35 (v := .agg #[.slice (some ⟨rb, ro, none⟩) 1 r, .slice (some ⟨qb, qo, none⟩) 1 q]) rfl rfl (by kernel_rfl) (by kernel_rfl) (by kernel_rfl) (by kernel_rfl) (fun _ _ _ h => h) hHeld (Or.inl ⟨by rfl, by intro w_ hSw; have c0 : w_.cell? ⟨X, 0, none⟩ = some (.slice (some ⟨rb, ro, none⟩) 1 r) := hSw.2.cell 0; have c1 : w_.cell? ⟨X, 1, none⟩ = some (.slice (some ⟨qb, qo, none⟩) 1 q) := hSw.2.cell 1; go_simp⟩) ?_
      try simp only [Act.put, List.setIfInBounds_toArray, List.set_cons_zero, List.set_cons_succ]
      refine UpM.next (i := 4) (by kernel_rfl) rfl (fun K hK => ?_)
      go_simp
      go_at_call 37
      refine (HSL.out R U V vc rb ro r qb qo q t se rt bl _ (HQ.out.drewN 1).now.1.1.1.1.1.1.1.1 (HQ.out.drewN 1).now.1.1.1.1.1.1.1.2 HUb.out.drew hRU hVU (by omega) (by omega) (by omega) (HQ.out.drewN 1).now.1.2 (HQ.out.drewN 1).now.1.1.2.1 (HQ.out.drewN 1).now.1.1.2.2 HSE.out.1 HSE.out.2).mono ?_
      rintro e w7 ⟨A7, c7, se1, rt1, bl1, rfl, hU7, hse1, hsw1, hg7⟩
      replace HQ := hide ((HQ.out.drewN 1).step hg7)
      replace HUb := hide hU7
      replace HSE := hide (And.intro hse1 hsw1)
      clear hU7 hse1 hsw1 hg7
      have hHeld : w7.cell? ⟨O, 0, none⟩ = some v0 ∧ Blk w7 X 44 #[.slice (some ⟨rb, ro, none⟩) 1 r, .slice (some ⟨qb, qo, none⟩) 1 q] := ⟨HQ.out.now.1.1.1.1.2.cell 0, HQ.out.now.2⟩
      simp only []
      refine hK.out _ _ (fun _ _ => hHeld) ?_
      clear hK K
      try simp only [Act.put, List.setIfInBounds_toArray, List.set_cons_zero, List.set_cons_succ]
      refine UpM.next (i := 5) (by kernel_rfl) rfl (fun K hK => ?_)
      go_simp
      obtain ⟨q8, hq8⟩ : ∃ q8, w7.heap.size = q8 := ⟨_, rfl⟩
      try rw [hq8]
      replace HQ := hide (HQ.out.alloc (.cells #[.slice A7 1 c7] 22))
      replace HUb := hide (HUb.out.alloc (.cells #[.slice A7 1 c7] 22))
      have hHeld : (w7.alloc (.cells #[.slice A7 1 c7] 22)).cell? ⟨O, 0, none⟩ = some v0 ∧ Blk (w7.alloc (.cells #[.slice A7 1 c7] 22)) X 44 #[.slice (some ⟨rb, ro, none⟩) 1 r, .slice (some ⟨qb, qo, none⟩) 1 q] := ⟨HQ.out.now.1.1.1.1.2.cell 0, HQ.out.now.2⟩
      refine hK.out _ _ (fun _ _ => hHeld) ?_
      clear hK K
      try simp only [Act.put, List.setIfInBounds_toArray, List.set_cons_zero, List.set_cons_succ]
      refine UpM.next (i := 6) (by kernel_rfl) rfl (fun K hK => ?_)
      refine step_append_any _ (by rfl) (.tmp 33) (.tmp 37) 56 (by rfl) (O + 1) 22 i1 (.slice none 0 0) 1 24 Try.underlying56 hi0 hz0 hz1 hz2 rfl (by omega) v0 t xs (by rfl) HQ.out.now.1.1.1.2 (q8 + 1) (some ⟨q8, 0, none⟩) 1 1 [.slice A7 1 c7] (by rfl) (hq8 ▸ reads_one w7 _ _) (by simp [Value.oneCell']) (by simp only [maxLen]; omega) (by omega) (by have h1 := HQ.out.now.1.1.1.1.2.lt; omega) ?_
      intro v8 w9 hown9 hgrow _
      obtain ⟨A8, c8, rfl⟩ := own_form hown9
      replace hgrow : (w7.alloc (.cells #[.slice A7 1 c7] 22)).grownBy w9 v0.ownBlock := hgrow
      have hne : ∀ k, k ≤ O → v0.ownBlock ≠ some k := fun k hk he => by have := (HLT.out k he).1; omega
      have hneX : v0.ownBlock ≠ some X := fun he => by have := (HLT.out X he).2; omega
      have HR9 := hide (HQ.out.now.1.1.1.1.1.1.1.1.grown hgrow (fun e => hne R (by omega) e.symm))
      have HV9 := hide ((hgrow.cell_far ⟨V, 0, none⟩ (lt_of_cell HQ.out.now.1.1.1.1.1.1.1.2) (fun e => hne V (by omega) e.symm)).trans HQ.out.now.1.1.1.1.1.1.1.2)
      have HE9 := hide (HQ.out.now.1.1.1.1.1.1.2.grown hgrow (fun e => hne _ (by omega) e.symm))
      have HB9 := hide (HQ.out.now.1.1.1.1.1.2.grown hgrow HQ.out.now.1.1.1.1.1.2.size (fun k hk => by have := (HLT.out k hk).1; omega))
      have HOB9 := hide (HQ.out.now.1.1.1.1.2.grown hgrow (fun e => hne O (by omega) e.symm))
      have HX9 := hide (HQ.out.now.2.grown hgrow (fun e => hneX e.symm))
      have HU9 := hide (HUb.out.grown hgrow (fun e => hne U (by omega) e.symm))
      have HO9 := hide hown9
      clear hown9 hgrow HQ HUb hne hneX HLT
      have c0 : w9.cell? ⟨O, 0, none⟩ = some v0 := HOB9.out.cell 0
      have f0 := HOB9.out.frozen 0
      have hHeld : w9.cell? ⟨O, 0, none⟩ = some v0 ∧ Blk w9 X 44 #[.slice (some ⟨rb, ro, none⟩) 1 r, .slice (some ⟨qb, qo, none⟩) 1 q] := ⟨c0, HX9.out⟩
      refine hK.out _ _ (fun _ _ => hHeld) ?_
      clear hK K
      try simp only [Act.put, List.setIfInBounds_toArray]
      refine UpM.pure (i := 7) 39 (v := .pointer (some ⟨O, 0, none⟩)) rfl rfl (by kernel_rfl) (by kernel_rfl) (by kernel_rfl) (fun _ _ _ h => h) (Or.inl ⟨by rfl, by intro w_ hSw; go_simp⟩) ?_
      try simp only [Act.put]
      refine UpM.next (i := 8) (by kernel_rfl) rfl (fun K hK => ?_)
      go_simp
      refine hK.out _ _ (fun h => (h (by decide)).elim) ?_
      clear hK K
      try simp only [Act.put, List.setIfInBounds_toArray, List.set_cons_zero, List.set_cons_succ]
      refine UpM.done (by kernel_rfl) ?_ _
      have HOE : Hid (Blk (w9.setCell ⟨O, 0, none⟩ (.slice A8 (t + 1) c8)) O 58 #[.slice A8 (t + 1) c8, .slice none 0 0, .slice none 0 0]) := hide (HOB9.out.set_ 0 (.slice A8 (t + 1) c8))
      have HUE := hide (HU9.out.far (p := ⟨O, 0, none⟩) (by show U ≠ O; omega) (.slice A8 (t + 1) c8))
      have HRE := hide (HR9.out.far (p := ⟨O, 0, none⟩) (by show R ≠ O; omega) (.slice A8 (t + 1) c8))
      have HEE := hide (HE9.out.far (p := ⟨O, 0, none⟩) (by show w.heap.size + 1 ≠ O; omega) (.slice A8 (t + 1) c8))
      have HVE := hide (show (w9.setCell ⟨O, 0, none⟩ (.slice A8 (t + 1) c8)).cell? ⟨V, 0, none⟩ = some (.pointer (some ⟨U, 0, none⟩)) from (World.cell?_setCell_other w9 _ _ _ (by intro e; injection e with e1; omega)).trans HV9.out)
      have HBE := hide (HB9.out.setCell (p := ⟨O, 0, none⟩) (by show _ ≤ O; omega) (.slice A8 (t + 1) c8))
      have HOWE := hide (show (w9.setCell ⟨O, 0, none⟩ (.slice A8 (t + 1) c8)).ownsRow (O + 1) 22 1 (.slice A8 (t + 1) c8) (t + 1) (xs ++ [.slice A7 1 c7]) from own_far HO9.out HOB9.out (by decide))
      have hsE := HOE.out.lt
      obtain ⟨WE, hWE⟩ : ∃ WE, (w9.setCell ⟨O, 0, none⟩ (.slice A8 (t + 1) c8)) = WE := ⟨_, rfl⟩
      rw [hWE] at HOE HUE HRE HEE HVE HBE HOWE hsE ⊢
      clear hWE HOB9 HU9 HR9 HE9 HV9 HB9 HO9 HX9 c0 f0 hHeld
      go_wp2_with fail
      go_roundw
      case rel => exact ⟨t + 1, se1, rt1, bl1, _, _, by omega, by go_num, ⟨⟨⟨HRE.out, HVE.out⟩, HEE.out⟩, HBE.out⟩, by rw [← HWS.out t]; exact HUE.out, HSE.out.1, HSE.out.2, HOE.out, HOWE.out, by omega⟩
      case measure => simp [intOf]; omega
    · have htm2 : t = m := by omega
      subst htm2
      have hki : ¬ (t : Int) < (t : Int) := by omega
      have r4 : wr.cell? ⟨R, 4, none⟩ = some (.slice (some ⟨V, 0, none⟩) 1 vc) := HF.out.1.1.1.cell 4
      have e0 : wr.cell? ⟨V, 0, none⟩ = some (.pointer (some ⟨U, 0, none⟩)) := HF.out.1.1.2
      obtain ⟨A0, c0, rfl⟩ := own_form HO.out
      have HK := hide (((stay_blk hOB.out).and (stay_blk HF.out.1.2)).and (stay_below HF.out.2))
      obtain ⟨wq, hwq⟩ : ∃ wq, wq = wr := ⟨_, rfl⟩
      rw [← hwq] at hUb hOB HK r4 e0 ⊢
      clear HF HO hsz HSL HWS hwq
      go_wp2_with fail
      refine wp_loop_rounds 2 ?_
      rw [rounds_succ]
      go_wp2_with fail
      clear r4 e0
      have hH1 : Below wq.heap.size wq wq.drew := below_drew (Below.refl wq.heap.size wq)
      have hH2 : wq.drew.cell? ⟨U, 10, none⟩ = some (.int .i64 (wtT bu bits t)) := hUb.out.cell 10
      have HU := hide (stay_blk hUb.out)
      refine UpP.start (Z := [17, 19]) (S := fun w' => Below wq.heap.size wq w') (Z' := []) (S' := fun w' => w'.cell? ⟨U, 10, none⟩ = some (.int .i64 (wtT bu bits t))) (by kernel_rfl) ?_
      refine UpP.pure (i := 0) 50 (v := .pointer (some ⟨O, 1, none⟩)) rfl rfl (by kernel_rfl) (by kernel_rfl) (by kernel_rfl) (fun _ _ _ h => h) (Or.inl ⟨by rfl, by intro w_ hSw; go_simp⟩) ?_
      try simp only [Act.put, List.setIfInBounds_toArray, List.set_cons_zero, List.set_cons_succ]
      refine UpP.take (i := 1) 51 (v := .slice none 0 0) rfl rfl (by kernel_rfl) (by kernel_rfl) (by kernel_rfl) (by kernel_rfl) (fun _ _ _ h => h) hH1 (Or.inl ⟨by rfl, by intro w_ hSw; have q0 : w_.cell? ⟨O, 1, none⟩ = some (.slice none 0 0) := (HK.out _ hSw).1.1.cell 1; go_simp⟩) ?_
      try simp only [Act.put, List.setIfInBounds_toArray, List.set_cons_zero, List.set_cons_succ]
      refine UpP.pure (i := 2) 52 (v := .pointer (some ⟨U, 0, none⟩)) rfl rfl (by kernel_rfl) (by kernel_rfl) (by kernel_rfl) (fun _ _ _ h => h) (Or.inl ⟨by rfl, by intro w_ hSw; go_simp⟩) ?_
      try simp only [Act.put, List.setIfInBounds_toArray, List.set_cons_zero, List.set_cons_succ]
      refine UpP.pure (i := 3) 53 (v := .pointer (some ⟨U, 0, none⟩)) rfl rfl (by kernel_rfl) (by kernel_rfl) (by kernel_rfl) (fun _ _ _ h => h) (Or.inl ⟨by rfl, by intro w_ hSw; go_simp⟩) ?_
      try simp only [Act.put, List.setIfInBounds_toArray, List.set_cons_zero, List.set_cons_succ]
      refine UpP.pure (i := 4) 54 (v := .pointer (some ⟨U, 11, none⟩)) rfl rfl (by kernel_rfl) (by kernel_rfl) (by kernel_rfl) (fun _ _ _ h => h) (Or.inl ⟨by rfl, by intro w_ hSw; go_simp⟩) ?_
      try simp only [Act.put, List.setIfInBounds_toArray, List.set_cons_zero, List.set_cons_succ]
      refine UpP.take (i := 5) 55 (v := .int .i64 se) rfl rfl (by kernel_rfl) (by kernel_rfl) (by kernel_rfl) (by kernel_rfl) (fun _ _ _ h => h) hH1 (Or.inl ⟨by rfl, by intro w_ hSw; have q0 : w_.cell? ⟨U, 11, none⟩ = some (.int .i64 se) := (HU.out _ hSw).cell 11; go_simp⟩) ?_
      try simp only [Act.put, List.setIfInBounds_toArray, List.set_cons_zero, List.set_cons_succ]
      refine UpP.pure (i := 8) 58 (v := .pointer (some ⟨O, 2, none⟩)) rfl rfl (by kernel_rfl) (by kernel_rfl) (by kernel_rfl) (fun _ _ _ h => h) (Or.inl ⟨by rfl, by intro w_ hSw; go_simp⟩) ?_
      try simp only [Act.put, List.setIfInBounds_toArray, List.set_cons_zero, List.set_cons_succ]
      refine UpP.take (i := 9) 59 (v := .slice none 0 0) rfl rfl (by kernel_rfl) (by kernel_rfl) (by kernel_rfl) (by kernel_rfl) (fun _ _ _ h => h) hH1 (Or.inl ⟨by rfl, by intro w_ hSw; have q0 : w_.cell? ⟨O, 2, none⟩ = some (.slice none 0 0) := (HK.out _ hSw).1.1.cell 2; go_simp⟩) ?_
      try simp only [Act.put, List.setIfInBounds_toArray, List.set_cons_zero, List.set_cons_succ]
      refine UpP.pure (i := 10) 60 (v := .pointer (some ⟨U, 0, none⟩)) rfl rfl (by kernel_rfl) (by kernel_rfl) (by kernel_rfl) (fun _ _ _ h => h) (Or.inl ⟨by rfl, by intro w_ hSw; go_simp⟩) ?_
      try simp only [Act.put, List.setIfInBounds_toArray, List.set_cons_zero, List.set_cons_succ]
      refine UpP.pure (i := 11) 61 (v := .pointer (some ⟨U, 0, none⟩)) rfl rfl (by kernel_rfl) (by kernel_rfl) (by kernel_rfl) (fun _ _ _ h => h) (Or.inl ⟨by rfl, by intro w_ hSw; go_simp⟩) ?_
      try simp only [Act.put, List.setIfInBounds_toArray, List.set_cons_zero, List.set_cons_succ]
      refine UpP.pure (i := 12) 62 (v := .pointer (some ⟨U, 10, none⟩)) rfl rfl (by kernel_rfl) (by kernel_rfl) (by kernel_rfl) (fun _ _ _ h => h) (Or.inl ⟨by rfl, by intro w_ hSw; go_simp⟩) ?_
      try simp only [Act.put, List.setIfInBounds_toArray, List.set_cons_zero, List.set_cons_succ]
      refine UpP.take2 (i := 13) 63 (v := .int .i64 (wtT bu bits t)) rfl rfl (by kernel_rfl) (by kernel_rfl) (by kernel_rfl) (by kernel_rfl) (fun _ _ _ h => h) hH2 (Or.inl ⟨by rfl, by intro w_ hSw; have q0 := hSw; go_simp⟩) ?_
      try simp only [Act.put, List.setIfInBounds_toArray, List.set_cons_zero, List.set_cons_succ]
      replace HK := hide (HK.out.step hH1)
      clear HU
      generalize wq.drew = v0 at hH1 hH2 HK ⊢
      obtain ⟨p6, hp6⟩ : ∃ p, v0.heap.size = p := ⟨_, rfl⟩
      obtain ⟨p14, hp14⟩ : ∃ p, v0.heap.size = p := ⟨_, rfl⟩
      refine UpP.next2 (i := 6) (j := 14) (by kernel_rfl) rfl rfl (fun K hK => ?_) (fun K hK => ?_)
      · clear hp14
        go_simp
        have hbn := (Below.refl v0.heap.size v0).alloc (Nat.le_refl _) (.cells #[.int .i64 se] 3)
        replace HK := hide (HK.out.step hbn)
        replace hH1 := Below.step hH1 hbn
        replace hH2 := (hbn.cell (lt_of_cell hH2)).trans hH2
        have H6 := hide (stay_at (show (v0.alloc (.cells #[.int .i64 se] 3)).cell? ⟨p6, 0, none⟩ = some (.int .i64 se) from (Blk.newN v0 3 #[.int .i64 se] hp6).cell 0))
        obtain ⟨v1, hwn⟩ : ∃ w9, v0.alloc (.cells #[.int .i64 se] 3) = w9 := ⟨_, rfl⟩
        rw [hwn] at HK H6 hH1 hH2 ⊢
        clear hbn hwn hp6
        refine hK.out _ _ ⟨fun _ _ => hH1, fun _ _ => hH2⟩ ?_
        clear hK K
        try simp only [Act.put, List.setIfInBounds_toArray, List.set_cons_zero, List.set_cons_succ]
        obtain ⟨p14, hp14⟩ : ∃ p, v1.heap.size = p := ⟨_, rfl⟩
        refine UpP.next2 (i := 7) (j := 14) (by kernel_rfl) rfl rfl (fun K hK => ?_) (fun K hK => ?_)
        · clear hp14
          refine step_append_any _ (by rfl) (.tmp 51) (.tmp 56) 22 (by rfl) v1.heap.size 3 i2 (.int .i64 0) 1 8 Try.underlying22 hj0 hy0 hy1 hy2 rfl (by omega) (.slice none 0 0) 0 [] (by rfl) ⟨rfl, .inl ⟨rfl, rfl⟩⟩ (p6 + 1) (some ⟨p6, 0, none⟩) 1 1 [.int .i64 se] (by rfl) (reads_cell H6.out.now) (by simp [Value.oneCell']) (by decide) (by decide) (Nat.le_refl _) ?_
          intro v9 v2 hown9 hgrow _
          replace hgrow : v1.grownBy v2 none := hgrow
          simp only [Nat.zero_add, List.nil_append] at hown9
          have hbn := (Below.refl v1.heap.size v1).grown hgrow (Nat.le_refl _) (by simp)
          obtain ⟨A1, c1, rfl⟩ := own_form hown9
          replace HK := hide (HK.out.step hbn)
          replace H6 := hide (H6.out.step hbn)
          replace hH2 := (hbn.cell (lt_of_cell hH2)).trans hH2
          replace hH1 := Below.step hH1 hbn
          clear hown9 hgrow hbn
          refine hK.out _ _ ⟨fun _ _ => hH1, fun _ _ => hH2⟩ ?_
          clear hK K
          try simp only [Act.put, List.setIfInBounds_toArray]
          refine UpP.pure (i := 16) 66 (v := .pointer (some ⟨O, 1, none⟩)) rfl rfl (by kernel_rfl) (by kernel_rfl) (by kernel_rfl) (fun _ _ _ h => h) (Or.inl ⟨by rfl, by intro w_ hSw; go_simp⟩) ?_
          try simp only [Act.put]
          obtain ⟨p14, hp14⟩ : ∃ p, v2.heap.size = p := ⟨_, rfl⟩
          refine UpP.next (i := 14) (by kernel_rfl) rfl (fun K hK => ?_)
          go_simp
          have hbn := (Below.refl v2.heap.size v2).alloc (Nat.le_refl _) (.cells #[.int .i64 (wtT bu bits t)] 3)
          replace HK := hide (HK.out.step hbn)
          replace H6 := hide (H6.out.step hbn)
          replace hH1 := Below.step hH1 hbn
          replace hH2 := (hbn.cell (lt_of_cell hH2)).trans hH2
          have H14 := hide (stay_at (show (v2.alloc (.cells #[.int .i64 (wtT bu bits t)] 3)).cell? ⟨p14, 0, none⟩ = some (.int .i64 (wtT bu bits t)) from (Blk.newN v2 3 #[.int .i64 (wtT bu bits t)] hp14).cell 0))
          obtain ⟨v3, hwn⟩ : ∃ w9, v2.alloc (.cells #[.int .i64 (wtT bu bits t)] 3) = w9 := ⟨_, rfl⟩
          rw [hwn] at HK H6 H14 hH1 hH2 ⊢
          clear hbn hwn hp14
          refine hK.out _ _ ⟨fun _ _ => hH1, fun _ _ => hH2⟩ ?_
          clear hK K
          try simp only [Act.put, List.setIfInBounds_toArray, List.set_cons_zero, List.set_cons_succ]
          refine UpP.next (i := 15) (by kernel_rfl) rfl (fun K hK => ?_)
          refine step_append_any _ (by rfl) (.tmp 59) (.tmp 64) 22 (by rfl) v3.heap.size 3 i2 (.int .i64 0) 1 8 Try.underlying22 hj0 hy0 hy1 hy2 rfl (by omega) (.slice none 0 0) 0 [] (by rfl) ⟨rfl, .inl ⟨rfl, rfl⟩⟩ (p14 + 1) (some ⟨p14, 0, none⟩) 1 1 [.int .i64 (wtT bu bits t)] (by rfl) (reads_cell H14.out.now) (by simp [Value.oneCell']) (by decide) (by decide) (Nat.le_refl _) ?_
          intro v9 v4 hown9 hgrow _
          replace hgrow : v3.grownBy v4 none := hgrow
          simp only [Nat.zero_add, List.nil_append] at hown9
          have hbn := (Below.refl v3.heap.size v3).grown hgrow (Nat.le_refl _) (by simp)
          obtain ⟨g2, c2, rfl, -, -⟩ := hown9.form (by decide)
          have hg2 : v3.heap.size ≤ g2 := (hown9.lt _ rfl).1
          have HG2 := hide (hown9.cells (g := g2) rfl 0 _ rfl)
          rw [add_lit] at HG2
          replace HK := hide (HK.out.step hbn)
          replace H6 := hide (H6.out.step hbn)
          replace H14 := hide (H14.out.step hbn)
          replace hH2 := (hbn.cell (lt_of_cell hH2)).trans hH2
          have hsz9 := hH1.size
          replace hH1 := Below.step hH1 hbn
          clear hown9 hgrow hbn
          have hq1 : O < g2 := by have h1 := hOB.out.lt; omega
          refine hK.out _ _ ⟨fun _ _ => hH1, fun _ _ => hH2⟩ ?_
          clear hK K
          try simp only [Act.put, List.setIfInBounds_toArray]
          have o1 : v4.cell? ⟨O, 1, none⟩ = some (.slice none 0 0) := HK.out.now.1.1.cell 1
          have o2 : v4.cell? ⟨O, 2, none⟩ = some (.slice none 0 0) := HK.out.now.1.1.cell 2
          have f1 := HK.out.now.1.1.frozen 1
          have f2 := HK.out.now.1.1.frozen 2
          refine UpP.next (i := 17) (by kernel_rfl) rfl (fun K hK => ?_)
          go_simp
          refine hK.out _ _ ⟨fun h => (h (by decide)).elim, fun _ h => by go_simp⟩ ?_
          clear hK K
          try simp only [Act.put, List.setIfInBounds_toArray, List.set_cons_zero, List.set_cons_succ]
          refine UpP.pure (i := 18) 67 (v := .pointer (some ⟨O, 2, none⟩)) rfl rfl (by kernel_rfl) (by kernel_rfl) (by kernel_rfl) (fun _ _ _ h => h) (Or.inl ⟨by rfl, by intro w_ hSw; go_simp⟩) ?_
          try simp only [Act.put, List.setIfInBounds_toArray, List.set_cons_zero, List.set_cons_succ]
          refine UpP.next (i := 19) (by kernel_rfl) rfl (fun K hK => ?_)
          go_simp
          refine hK.out _ _ ⟨fun h => (h (by decide)).elim, fun _ h => by go_simp⟩ ?_
          clear hK K
          try simp only [Act.put, List.setIfInBounds_toArray, List.set_cons_zero, List.set_cons_succ]
          refine UpP.done (by kernel_rfl) ?_ _
          have HOE : Hid (Blk ((v4.setCell ⟨O, 1, none⟩ (.slice A1 1 c1)).setCell ⟨O, 2, none⟩ (.slice (some ⟨g2, 0, none⟩) 1 c2)) O 58 #[.slice A0 t c0, .slice A1 1 c1, .slice (some ⟨g2, 0, none⟩) 1 c2]) := hide ((HK.out.now.1.1.set_ 1 (.slice A1 1 c1)).set_ 2 (.slice (some ⟨g2, 0, none⟩) 1 c2))
          have HEE := hide ((HK.out.now.1.2.far (p := ⟨O, 1, none⟩) (by show _ ≠ O; omega) (.slice A1 1 c1)).far (p := ⟨O, 2, none⟩) (by show _ ≠ O; omega) (.slice (some ⟨g2, 0, none⟩) 1 c2))
          have HBE := hide ((HK.out.now.2.setCell (p := ⟨O, 1, none⟩) (by show _ ≤ O; omega) (.slice A1 1 c1)).setCell (p := ⟨O, 2, none⟩) (by show _ ≤ O; omega) (.slice (some ⟨g2, 0, none⟩) 1 c2))
          have HGE := hide (show ((v4.setCell ⟨O, 1, none⟩ (.slice A1 1 c1)).setCell ⟨O, 2, none⟩ (.slice (some ⟨g2, 0, none⟩) 1 c2)).cell? ⟨g2, 0, none⟩ = some (.int .i64 (wtT bu bits t)) from (World.cell?_setCell_other _ _ _ _ (by intro e; injection e with e1; omega)).trans ((World.cell?_setCell_other _ _ _ _ (by intro e; injection e with e1; omega)).trans HG2))
          obtain ⟨WE, hWE⟩ : ∃ WE, (v4.setCell ⟨O, 1, none⟩ (.slice A1 1 c1)).setCell ⟨O, 2, none⟩ (.slice (some ⟨g2, 0, none⟩) 1 c2) = WE := ⟨_, rfl⟩
          rw [hWE] at HOE HEE HBE HGE ⊢
          clear hWE HK hH1 hH2 o1 o2 f1 f2 HG2 H6 H14 hUb hOB
          have o0 : WE.cell? ⟨O, 0, none⟩ = some (.slice A0 t c0) := HOE.out.cell 0
          have o1 : WE.cell? ⟨O, 1, none⟩ = some (.slice A1 1 c1) := HOE.out.cell 1
          have o2 : WE.cell? ⟨O, 2, none⟩ = some (.slice (some ⟨g2, 0, none⟩) 1 c2) := HOE.out.cell 2
          go_wp2_with fail
          rw [rounds_succ]
          go_wp2_with (refine wpList_store_row rfl 58 (.tmp 6) (.tmp 69) rfl (w.heap.size + 1) #[.slice A0 t c0, .slice A1 1 c1, .slice (some ⟨g2, 0, none⟩) 1 c2] rfl rfl 58 #[.slice none 0 0, .slice none 0 0, .slice none 0 0] HEE.out (by kernel_rfl) rfl (by simp [Value.oneCell']) ?_)
          exact bodyPost_ret (results_row_tmp rfl _ _ (w.heap.size + 1) 58 #[.slice A0 t c0, .slice A1 1 c1, .slice (some ⟨g2, 0, none⟩) 1 c2] _ (.int .i64 0) rfl rfl (HEE.out.row _) Try.underlying58 rfl (by kernel_rfl)) rfl ⟨_, _, _, _, _, _, _, _, rfl, by show World.cell? (WE.setRow (w.heap.size + 1) _) _ = _; rw [show (WE.setRow (w.heap.size + 1) #[.slice A0 t c0, .slice A1 1 c1, .slice (some ⟨g2, 0, none⟩) 1 c2]).cell? ⟨g2, 0, none⟩ = WE.cell? ⟨g2, 0, none⟩ from by unfold World.cell?; rw [setRow_other WE (w.heap.size + 1) g2 _ (by omega)]]; exact HGE.out, Below.row HBE.out (by omega) _⟩
        · go_simp
          have hbn := (Below.refl v1.heap.size v1).alloc (Nat.le_refl _) (.cells #[.int .i64 (wtT bu bits t)] 3)
          replace HK := hide (HK.out.step hbn)
          replace H6 := hide (H6.out.step hbn)
          replace hH1 := Below.step hH1 hbn
          replace hH2 := (hbn.cell (lt_of_cell hH2)).trans hH2
          have H14 := hide (stay_at (show (v1.alloc (.cells #[.int .i64 (wtT bu bits t)] 3)).cell? ⟨p14, 0, none⟩ = some (.int .i64 (wtT bu bits t)) from (Blk.newN v1 3 #[.int .i64 (wtT bu bits t)] hp14).cell 0))
          obtain ⟨v2, hwn⟩ : ∃ w9, v1.alloc (.cells #[.int .i64 (wtT bu bits t)] 3) = w9 := ⟨_, rfl⟩
          rw [hwn] at HK H6 H14 hH1 hH2 ⊢
          clear hbn hwn hp14
          refine hK.out _ _ ⟨fun _ _ => hH1, fun _ _ => hH2⟩ ?_
          clear hK K
          try simp only [Act.put, List.setIfInBounds_toArray, List.set_cons_zero, List.set_cons_succ]
          refine UpP.next (i := 7) (by kernel_rfl) rfl (fun K hK => ?_)
          refine step_append_any _ (by rfl) (.tmp 51) (.tmp 56) 22 (by rfl) v2.heap.size 3 i2 (.int .i64 0) 1 8 Try.underlying22 hj0 hy0 hy1 hy2 rfl (by omega) (.slice none 0 0) 0 [] (by rfl) ⟨rfl, .inl ⟨rfl, rfl⟩⟩ (p6 + 1) (some ⟨p6, 0, none⟩) 1 1 [.int .i64 se] (by rfl) (reads_cell H6.out.now) (by simp [Value.oneCell']) (by decide) (by decide) (Nat.le_refl _) ?_
          intro v9 v3 hown9 hgrow _
          replace hgrow : v2.grownBy v3 none := hgrow
          simp only [Nat.zero_add, List.nil_append] at hown9
          have hbn := (Below.refl v2.heap.size v2).grown hgrow (Nat.le_refl _) (by simp)
          obtain ⟨A1, c1, rfl⟩ := own_form hown9
          replace HK := hide (HK.out.step hbn)
          replace H6 := hide (H6.out.step hbn)
          replace H14 := hide (H14.out.step hbn)
          replace hH2 := (hbn.cell (lt_of_cell hH2)).trans hH2
          replace hH1 := Below.step hH1 hbn
          clear hown9 hgrow hbn
          refine hK.out _ _ ⟨fun _ _ => hH1, fun _ _ => hH2⟩ ?_
          clear hK K
          try simp only [Act.put, List.setIfInBounds_toArray]
          refine UpP.pure (i := 16) 66 (v := .pointer (some ⟨O, 1, none⟩)) rfl rfl (by kernel_rfl) (by kernel_rfl) (by kernel_rfl) (fun _ _ _ h => h) (Or.inl ⟨by rfl, by intro w_ hSw; go_simp⟩) ?_
          try simp only [Act.put]
          refine UpP.next (i := 15) (by kernel_rfl) rfl (fun K hK => ?_)
          refine step_append_any _ (by rfl) (.tmp 59) (.tmp 64) 22 (by rfl) v3.heap.size 3 i2 (.int .i64 0) 1 8 Try.underlying22 hj0 hy0 hy1 hy2 rfl (by omega) (.slice none 0 0) 0 [] (by rfl) ⟨rfl, .inl ⟨rfl, rfl⟩⟩ (p14 + 1) (some ⟨p14, 0, none⟩) 1 1 [.int .i64 (wtT bu bits t)] (by rfl) (reads_cell H14.out.now) (by simp [Value.oneCell']) (by decide) (by decide) (Nat.le_refl _) ?_
          intro v9 v4 hown9 hgrow _
          replace hgrow : v3.grownBy v4 none := hgrow
          simp only [Nat.zero_add, List.nil_append] at hown9
          have hbn := (Below.refl v3.heap.size v3).grown hgrow (Nat.le_refl _) (by simp)
          obtain ⟨g2, c2, rfl, -, -⟩ := hown9.form (by decide)
          have hg2 : v3.heap.size ≤ g2 := (hown9.lt _ rfl).1
          have HG2 := hide (hown9.cells (g := g2) rfl 0 _ rfl)
          rw [add_lit] at HG2
          replace HK := hide (HK.out.step hbn)
          replace H6 := hide (H6.out.step hbn)
          replace H14 := hide (H14.out.step hbn)
          replace hH2 := (hbn.cell (lt_of_cell hH2)).trans hH2
          have hsz9 := hH1.size
          replace hH1 := Below.step hH1 hbn
          clear hown9 hgrow hbn
          have hq1 : O < g2 := by have h1 := hOB.out.lt; omega
          refine hK.out _ _ ⟨fun _ _ => hH1, fun _ _ => hH2⟩ ?_
          clear hK K
          try simp only [Act.put]
          have o1 : v4.cell? ⟨O, 1, none⟩ = some (.slice none 0 0) := HK.out.now.1.1.cell 1
          have o2 : v4.cell? ⟨O, 2, none⟩ = some (.slice none 0 0) := HK.out.now.1.1.cell 2
          have f1 := HK.out.now.1.1.frozen 1
          have f2 := HK.out.now.1.1.frozen 2
          refine UpP.next (i := 17) (by kernel_rfl) rfl (fun K hK => ?_)
          go_simp
          refine hK.out _ _ ⟨fun h => (h (by decide)).elim, fun _ h => by go_simp⟩ ?_
          clear hK K
          try simp only [Act.put, List.setIfInBounds_toArray, List.set_cons_zero, List.set_cons_succ]
          refine UpP.pure (i := 18) 67 (v := .pointer (some ⟨O, 2, none⟩)) rfl rfl (by kernel_rfl) (by kernel_rfl) (by kernel_rfl) (fun _ _ _ h => h) (Or.inl ⟨by rfl, by intro w_ hSw; go_simp⟩) ?_
          try simp only [Act.put, List.setIfInBounds_toArray, List.set_cons_zero, List.set_cons_succ]
          refine UpP.next (i := 19) (by kernel_rfl) rfl (fun K hK => ?_)
          go_simp
          refine hK.out _ _ ⟨fun h => (h (by decide)).elim, fun _ h => by go_simp⟩ ?_
          clear hK K
          try simp only [Act.put, List.setIfInBounds_toArray, List.set_cons_zero, List.set_cons_succ]
          refine UpP.done (by kernel_rfl) ?_ _
          have HOE : Hid (Blk ((v4.setCell ⟨O, 1, none⟩ (.slice A1 1 c1)).setCell ⟨O, 2, none⟩ (.slice (some ⟨g2, 0, none⟩) 1 c2)) O 58 #[.slice A0 t c0, .slice A1 1 c1, .slice (some ⟨g2, 0, none⟩) 1 c2]) := hide ((HK.out.now.1.1.set_ 1 (.slice A1 1 c1)).set_ 2 (.slice (some ⟨g2, 0, none⟩) 1 c2))
          have HEE := hide ((HK.out.now.1.2.far (p := ⟨O, 1, none⟩) (by show _ ≠ O; omega) (.slice A1 1 c1)).far (p := ⟨O, 2, none⟩) (by show _ ≠ O; omega) (.slice (some ⟨g2, 0, none⟩) 1 c2))
          have HBE := hide ((HK.out.now.2.setCell (p := ⟨O, 1, none⟩) (by show _ ≤ O; omega) (.slice A1 1 c1)).setCell (p := ⟨O, 2, none⟩) (by show _ ≤ O; omega) (.slice (some ⟨g2, 0, none⟩) 1 c2))
          have HGE := hide (show ((v4.setCell ⟨O, 1, none⟩ (.slice A1 1 c1)).setCell ⟨O, 2, none⟩ (.slice (some ⟨g2, 0, none⟩) 1 c2)).cell? ⟨g2, 0, none⟩ = some (.int .i64 (wtT bu bits t)) from (World.cell?_setCell_other _ _ _ _ (by intro e; injection e with e1; omega)).trans ((World.cell?_setCell_other _ _ _ _ (by intro e; injection e with e1; omega)).trans HG2))
          obtain ⟨WE, hWE⟩ : ∃ WE, (v4.setCell ⟨O, 1, none⟩ (.slice A1 1 c1)).setCell ⟨O, 2, none⟩ (.slice (some ⟨g2, 0, none⟩) 1 c2) = WE := ⟨_, rfl⟩
          rw [hWE] at HOE HEE HBE HGE ⊢
          clear hWE HK hH1 hH2 o1 o2 f1 f2 HG2 H6 H14 hUb hOB
          have o0 : WE.cell? ⟨O, 0, none⟩ = some (.slice A0 t c0) := HOE.out.cell 0
          have o1 : WE.cell? ⟨O, 1, none⟩ = some (.slice A1 1 c1) := HOE.out.cell 1
          have o2 : WE.cell? ⟨O, 2, none⟩ = some (.slice (some ⟨g2, 0, none⟩) 1 c2) := HOE.out.cell 2
          go_wp2_with fail
          rw [rounds_succ]
          go_wp2_with (refine wpList_store_row rfl 58 (.tmp 6) (.tmp 69) rfl (w.heap.size + 1) #[.slice A0 t c0, .slice A1 1 c1, .slice (some ⟨g2, 0, none⟩) 1 c2] rfl rfl 58 #[.slice none 0 0, .slice none 0 0, .slice none 0 0] HEE.out (by kernel_rfl) rfl (by simp [Value.oneCell']) ?_)
          exact bodyPost_ret (results_row_tmp rfl _ _ (w.heap.size + 1) 58 #[.slice A0 t c0, .slice A1 1 c1, .slice (some ⟨g2, 0, none⟩) 1 c2] _ (.int .i64 0) rfl rfl (HEE.out.row _) Try.underlying58 rfl (by kernel_rfl)) rfl ⟨_, _, _, _, _, _, _, _, rfl, by show World.cell? (WE.setRow (w.heap.size + 1) _) _ = _; rw [show (WE.setRow (w.heap.size + 1) #[.slice A0 t c0, .slice A1 1 c1, .slice (some ⟨g2, 0, none⟩) 1 c2]).cell? ⟨g2, 0, none⟩ = WE.cell? ⟨g2, 0, none⟩ from by unfold World.cell?; rw [setRow_other WE (w.heap.size + 1) g2 _ (by omega)]]; exact HGE.out, Below.row HBE.out (by omega) _⟩
      · clear hp6
        go_simp
        have hbn := (Below.refl v0.heap.size v0).alloc (Nat.le_refl _) (.cells #[.int .i64 (wtT bu bits t)] 3)
        replace HK := hide (HK.out.step hbn)
        replace hH1 := Below.step hH1 hbn
        replace hH2 := (hbn.cell (lt_of_cell hH2)).trans hH2
        have H14 := hide (stay_at (show (v0.alloc (.cells #[.int .i64 (wtT bu bits t)] 3)).cell? ⟨p14, 0, none⟩ = some (.int .i64 (wtT bu bits t)) from (Blk.newN v0 3 #[.int .i64 (wtT bu bits t)] hp14).cell 0))
        obtain ⟨v1, hwn⟩ : ∃ w9, v0.alloc (.cells #[.int .i64 (wtT bu bits t)] 3) = w9 := ⟨_, rfl⟩
        rw [hwn] at HK H14 hH1 hH2 ⊢
        clear hbn hwn hp14
        refine hK.out _ _ ⟨fun _ _ => hH1, fun _ _ => hH2⟩ ?_
        clear hK K
        try simp only [Act.put, List.setIfInBounds_toArray, List.set_cons_zero, List.set_cons_succ]
        obtain ⟨p6, hp6⟩ : ∃ p, v1.heap.size = p := ⟨_, rfl⟩
        refine UpP.next (i := 6) (by kernel_rfl) rfl (fun K hK => ?_)
        go_simp
        have hbn := (Below.refl v1.heap.size v1).alloc (Nat.le_refl _) (.cells #[.int .i64 se] 3)
        replace HK := hide (HK.out.step hbn)
        replace H14 := hide (H14.out.step hbn)
        replace hH1 := Below.step hH1 hbn
        replace hH2 := (hbn.cell (lt_of_cell hH2)).trans hH2
        have H6 := hide (stay_at (show (v1.alloc (.cells #[.int .i64 se] 3)).cell? ⟨p6, 0, none⟩ = some (.int .i64 se) from (Blk.newN v1 3 #[.int .i64 se] hp6).cell 0))
        obtain ⟨v2, hwn⟩ : ∃ w9, v1.alloc (.cells #[.int .i64 se] 3) = w9 := ⟨_, rfl⟩
        rw [hwn] at HK H14 H6 hH1 hH2 ⊢
        clear hbn hwn hp6
        refine hK.out _ _ ⟨fun _ _ => hH1, fun _ _ => hH2⟩ ?_
        clear hK K
        try simp only [Act.put, List.setIfInBounds_toArray, List.set_cons_zero, List.set_cons_succ]
        refine UpP.next (i := 7) (by kernel_rfl) rfl (fun K hK => ?_)
        refine step_append_any _ (by rfl) (.tmp 51) (.tmp 56) 22 (by rfl) v2.heap.size 3 i2 (.int .i64 0) 1 8 Try.underlying22 hj0 hy0 hy1 hy2 rfl (by omega) (.slice none 0 0) 0 [] (by rfl) ⟨rfl, .inl ⟨rfl, rfl⟩⟩ (p6 + 1) (some ⟨p6, 0, none⟩) 1 1 [.int .i64 se] (by rfl) (reads_cell H6.out.now) (by simp [Value.oneCell']) (by decide) (by decide) (Nat.le_refl _) ?_
        intro v9 v3 hown9 hgrow _
        replace hgrow : v2.grownBy v3 none := hgrow
        simp only [Nat.zero_add, List.nil_append] at hown9
        have hbn := (Below.refl v2.heap.size v2).grown hgrow (Nat.le_refl _) (by simp)
        obtain ⟨A1, c1, rfl⟩ := own_form hown9
        replace HK := hide (HK.out.step hbn)
        replace H14 := hide (H14.out.step hbn)
        replace H6 := hide (H6.out.step hbn)
        replace hH2 := (hbn.cell (lt_of_cell hH2)).trans hH2
        replace hH1 := Below.step hH1 hbn
        clear hown9 hgrow hbn
        refine hK.out _ _ ⟨fun _ _ => hH1, fun _ _ => hH2⟩ ?_
        clear hK K
        try simp only [Act.put, List.setIfInBounds_toArray]
        refine UpP.pure (i := 16) 66 (v := .pointer (some ⟨O, 1, none⟩)) rfl rfl (by kernel_rfl) (by kernel_rfl) (by kernel_rfl) (fun _ _ _ h => h) (Or.inl ⟨by rfl, by intro w_ hSw; go_simp⟩) ?_
        try simp only [Act.put]
        refine UpP.next (i := 15) (by kernel_rfl) rfl (fun K hK => ?_)
        refine step_append_any _ (by rfl) (.tmp 59) (.tmp 64) 22 (by rfl) v3.heap.size 3 i2 (.int .i64 0) 1 8 Try.underlying22 hj0 hy0 hy1 hy2 rfl (by omega) (.slice none 0 0) 0 [] (by rfl) ⟨rfl, .inl ⟨rfl, rfl⟩⟩ (p14 + 1) (some ⟨p14, 0, none⟩) 1 1 [.int .i64 (wtT bu bits t)] (by rfl) (reads_cell H14.out.now) (by simp [Value.oneCell']) (by decide) (by decide) (Nat.le_refl _) ?_
        intro v9 v4 hown9 hgrow _
        replace hgrow : v3.grownBy v4 none := hgrow
        simp only [Nat.zero_add, List.nil_append] at hown9
        have hbn := (Below.refl v3.heap.size v3).grown hgrow (Nat.le_refl _) (by simp)
        obtain ⟨g2, c2, rfl, -, -⟩ := hown9.form (by decide)
        have hg2 : v3.heap.size ≤ g2 := (hown9.lt _ rfl).1
        have HG2 := hide (hown9.cells (g := g2) rfl 0 _ rfl)
        rw [add_lit] at HG2
        replace HK := hide (HK.out.step hbn)
        replace H14 := hide (H14.out.step hbn)
        replace H6 := hide (H6.out.step hbn)
        replace hH2 := (hbn.cell (lt_of_cell hH2)).trans hH2
        have hsz9 := hH1.size
        replace hH1 := Below.step hH1 hbn
        clear hown9 hgrow hbn
        have hq1 : O < g2 := by have h1 := hOB.out.lt; omega
        refine hK.out _ _ ⟨fun _ _ => hH1, fun _ _ => hH2⟩ ?_
        clear hK K
        try simp only [Act.put]
        have o1 : v4.cell? ⟨O, 1, none⟩ = some (.slice none 0 0) := HK.out.now.1.1.cell 1
        have o2 : v4.cell? ⟨O, 2, none⟩ = some (.slice none 0 0) := HK.out.now.1.1.cell 2
        have f1 := HK.out.now.1.1.frozen 1
        have f2 := HK.out.now.1.1.frozen 2
        refine UpP.next (i := 17) (by kernel_rfl) rfl (fun K hK => ?_)
        go_simp
        refine hK.out _ _ ⟨fun h => (h (by decide)).elim, fun _ h => by go_simp⟩ ?_
        clear hK K
        try simp only [Act.put, List.setIfInBounds_toArray, List.set_cons_zero, List.set_cons_succ]
        refine UpP.pure (i := 18) 67 (v := .pointer (some ⟨O, 2, none⟩)) rfl rfl (by kernel_rfl) (by kernel_rfl) (by kernel_rfl) (fun _ _ _ h => h) (Or.inl ⟨by rfl, by intro w_ hSw; go_simp⟩) ?_
        try simp only [Act.put, List.setIfInBounds_toArray, List.set_cons_zero, List.set_cons_succ]
        refine UpP.next (i := 19) (by kernel_rfl) rfl (fun K hK => ?_)
        go_simp
        refine hK.out _ _ ⟨fun h => (h (by decide)).elim, fun _ h => by go_simp⟩ ?_
        clear hK K
        try simp only [Act.put, List.setIfInBounds_toArray, List.set_cons_zero, List.set_cons_succ]
        refine UpP.done (by kernel_rfl) ?_ _
        have HOE : Hid (Blk ((v4.setCell ⟨O, 1, none⟩ (.slice A1 1 c1)).setCell ⟨O, 2, none⟩ (.slice (some ⟨g2, 0, none⟩) 1 c2)) O 58 #[.slice A0 t c0, .slice A1 1 c1, .slice (some ⟨g2, 0, none⟩) 1 c2]) := hide ((HK.out.now.1.1.set_ 1 (.slice A1 1 c1)).set_ 2 (.slice (some ⟨g2, 0, none⟩) 1 c2))
        have HEE := hide ((HK.out.now.1.2.far (p := ⟨O, 1, none⟩) (by show _ ≠ O; omega) (.slice A1 1 c1)).far (p := ⟨O, 2, none⟩) (by show _ ≠ O; omega) (.slice (some ⟨g2, 0, none⟩) 1 c2))
        have HBE := hide ((HK.out.now.2.setCell (p := ⟨O, 1, none⟩) (by show _ ≤ O; omega) (.slice A1 1 c1)).setCell (p := ⟨O, 2, none⟩) (by show _ ≤ O; omega) (.slice (some ⟨g2, 0, none⟩) 1 c2))
        have HGE := hide (show ((v4.setCell ⟨O, 1, none⟩ (.slice A1 1 c1)).setCell ⟨O, 2, none⟩ (.slice (some ⟨g2, 0, none⟩) 1 c2)).cell? ⟨g2, 0, none⟩ = some (.int .i64 (wtT bu bits t)) from (World.cell?_setCell_other _ _ _ _ (by intro e; injection e with e1; omega)).trans ((World.cell?_setCell_other _ _ _ _ (by intro e; injection e with e1; omega)).trans HG2))
        obtain ⟨WE, hWE⟩ : ∃ WE, (v4.setCell ⟨O, 1, none⟩ (.slice A1 1 c1)).setCell ⟨O, 2, none⟩ (.slice (some ⟨g2, 0, none⟩) 1 c2) = WE := ⟨_, rfl⟩
        rw [hWE] at HOE HEE HBE HGE ⊢
        clear hWE HK hH1 hH2 o1 o2 f1 f2 HG2 H6 H14 hUb hOB
        have o0 : WE.cell? ⟨O, 0, none⟩ = some (.slice A0 t c0) := HOE.out.cell 0
        have o1 : WE.cell? ⟨O, 1, none⟩ = some (.slice A1 1 c1) := HOE.out.cell 1
        have o2 : WE.cell? ⟨O, 2, none⟩ = some (.slice (some ⟨g2, 0, none⟩) 1 c2) := HOE.out.cell 2
        go_wp2_with fail
        rw [rounds_succ]
        go_wp2_with (refine wpList_store_row rfl 58 (.tmp 6) (.tmp 69) rfl (w.heap.size + 1) #[.slice A0 t c0, .slice A1 1 c1, .slice (some ⟨g2, 0, none⟩) 1 c2] rfl rfl 58 #[.slice none 0 0, .slice none 0 0, .slice none 0 0] HEE.out (by kernel_rfl) rfl (by simp [Value.oneCell']) ?_)
        exact bodyPost_ret (results_row_tmp rfl _ _ (w.heap.size + 1) 58 #[.slice A0 t c0, .slice A1 1 c1, .slice (some ⟨g2, 0, none⟩) 1 c2] _ (.int .i64 0) rfl rfl (HEE.out.row _) Try.underlying58 rfl (by kernel_rfl)) rfl ⟨_, _, _, _, _, _, _, _, rfl, by show World.cell? (WE.setRow (w.heap.size + 1) _) _ = _; rw [show (WE.setRow (w.heap.size + 1) #[.slice A0 t c0, .slice A1 1 c1, .slice (some ⟨g2, 0, none⟩) 1 c2]).cell? ⟨g2, 0, none⟩ = WE.cell? ⟨g2, 0, none⟩ from by unfold World.cell?; rw [setRow_other WE (w.heap.size + 1) g2 _ (by omega)]]; exact HGE.out, Below.row HBE.out (by omega) _⟩
end Go.Proofs.Ytppkibgemacdbaa
