import Derived.Test.YtppkibgemacdbaaSbO
import Derived.Test.YtppkibgemacdbaaScG
import Derived.Test.YtppkibgemacdbaaScM
import Derived.Test.YtppkibgemacdbaaScO
import Derived.Test.YtppkibgemacdbaaSek
namespace Go.Proofs.Ytppkibgemacdbaa
open Go.RowKit Go.WideShapes Go.ChangeShapes

/-! the law TopSchedAdmitted -/
theorem lst_succ (k : Nat) (f : Nat → Int) : iv (lst (k + 1) f) = iv (lst k f) ++ [.int .i64 (f k)] := by
  simp [lst, iv, List.range_succ]
theorem okL_nil {B C P : Int} {T : List Int} (h : OkS B C P T) : OkL B C P T [] := ⟨by simp, by simp, by
  have h1 := h.b; have h2 := h.c; have h3 := h.p
  simp [fitL, sumI]; omega, by simp⟩
theorem row_lst {W : World} {RA QA : Option Addr} {p : Nat} {f g : Nat → Int} {b1 e1 b2 e2 r q : Nat} (h : W.ownsRow b1 e1 1 (.slice RA p r) p (iv (lst p f))) (h' : W.ownsRow b2 e2 1 (.slice QA p q) p (iv (lst p g))) : RowAt W RA QA p f g := sl_rows (Sl.of_ownN h) (Sl.of_ownN h')
set_option maxRecDepth 100000 in
set_option maxHeartbeats 16000000 in
theorem TopSchedAdmitted_law (B C P : Int) (A : Option Addr) (c n : Nat) (T : List Int) (L : List Ber) (D : Option Addr) (d m : Nat) (sl : Int) (w : World) (hn : T.length = n) (hs : Sl w A (iv T)) (hm : L.length = m) (hD : Brs w D L) :
    Calls Try.prog 3 #[.agg #[.int .i64 B, .int .i64 C, .int .i64 P, .slice A n c], .slice D m d, .int .i64 sl] w fun e w' => e = .returned (.bool true) ∧ Below w.heap.size w w' := by
  obtain ⟨i3, hk0, hx0, hx1, hx2⟩ := info_parts slot_info
  have HT : Hid (Stay (w.alloc (.cells #[.int .i64 B, .int .i64 C, .int .i64 P, .slice A n c] 24)) (fun W => ((Blk W w.heap.size 24 #[.int .i64 B, .int .i64 C, .int .i64 P, .slice A n c] ∧ Sl W A (iv T)) ∧ Brs W D L) ∧ Below w.heap.size w W)) := hide
    ((((stay_blk (Blk.new w 24 #[.int .i64 B, .int .i64 C, .int .i64 P, .slice A n c])).and (stay_sl (hs.alloc (.cells #[.int .i64 B, .int .i64 C, .int .i64 P, .slice A n c] 24)))).and ((stay_brs hD).alloc (.cells #[.int .i64 B, .int .i64 C, .int .i64 P, .slice A n c] 24))).and (stay_below ((Below.refl _ w).alloc (Nat.le_refl _) (.cells #[.int .i64 B, .int .i64 C, .int .i64 P, .slice A n c] 24))))
  clear hs hD
  go_enter Try.func3, Try.ntmps3
  go_wp2_with fail
  go_at_call 5
  refine (scheduled_ok _).mono ?_
  rintro e w1 ⟨rfl, hb⟩
  replace HT := hide (HT.out.step hb)
  clear hb
  simp only []
  have s0 : w1.cell? ⟨w.heap.size, 0, none⟩ = some (.int .i64 B) := HT.out.now.1.1.1.cell 0
  have s1 : w1.cell? ⟨w.heap.size, 1, none⟩ = some (.int .i64 C) := HT.out.now.1.1.1.cell 1
  have s2 : w1.cell? ⟨w.heap.size, 2, none⟩ = some (.int .i64 P) := HT.out.now.1.1.1.cell 2
  have s3 : w1.cell? ⟨w.heap.size, 3, none⟩ = some (.slice A n c) := HT.out.now.1.1.1.cell 3
  go_wp2_with fail
  clear s0 s1 s2 s3
  go_at_call 6
  refine (few_all B C P A c n L D d m _ hm HT.out.now.1.2).mono ?_
  rintro e w2 ⟨⟨v, rfl, hv⟩, hb⟩
  replace HT := hide (HT.out.step hb)
  clear hb
  simp only []
  cases v
  · clear hv
    go_wp2_with fail
    go_ret
    exact ⟨rfl, HT.out.now.2⟩
  obtain ⟨hn18, hm10, hnm⟩ := hv rfl
  clear hv
  replace hnm := hide hnm
  by_cases hm6 : 6 < m
  · have hmi : (6 : Int) < (m : Int) := by omega
    go_wp2_with fail
    go_ret
    exact ⟨rfl, HT.out.now.2⟩
  have hmi : ¬ (6 : Int) < (m : Int) := by omega
  have s0 : w2.cell? ⟨w.heap.size, 0, none⟩ = some (.int .i64 B) := HT.out.now.1.1.1.cell 0
  have s1 : w2.cell? ⟨w.heap.size, 1, none⟩ = some (.int .i64 C) := HT.out.now.1.1.1.cell 1
  have s2 : w2.cell? ⟨w.heap.size, 2, none⟩ = some (.int .i64 P) := HT.out.now.1.1.1.cell 2
  have s3 : w2.cell? ⟨w.heap.size, 3, none⟩ = some (.slice A n c) := HT.out.now.1.1.1.cell 3
  go_wp2_with fail
  clear s0 s1 s2 s3
  go_at_call 7
  refine (siteErr_ref B C P A c n T _ hn HT.out.now.1.1.2 (by omega)).mono ?_
  rintro e w3 ⟨v, rfl, hv, hb⟩
  replace HT := hide (HT.out.step hb)
  clear hb
  simp only []
  by_cases h0 : v = 0
  rotate_left
  · have hv0 : (v != 0) = true := by simpa using h0
    clear h0 hv
    go_wp2_with fail
    go_ret
    exact ⟨rfl, HT.out.now.2⟩
  subst h0
  have hs2 := hv rfl
  clear hv
  replace hs2 := hide hs2
  cases hW : withinB sl 0 12
  · replace hW := hide hW
    go_wp2_with (go_at_call 8; go_must (refine (within_base _ _ _ _).mono ?_; rintro e w' ⟨rfl, rfl⟩; rw [hW.out]; simp only []))
    go_ret
    exact ⟨rfl, HT.out.now.2⟩
  have hsl : 0 ≤ sl ∧ sl ≤ 12 := by simpa [withinB] using hW
  replace hW := hide hW
  go_wp2_with (go_at_call 8; go_must (refine (within_base _ _ _ _).mono ?_; rintro e w' ⟨rfl, rfl⟩; rw [hW.out]; simp only []))
  clear hW
  obtain ⟨sn, hsn⟩ := Int.eq_ofNat_of_zero_le hsl.1
  subst hsn
  have hsn12 : sn ≤ 12 := by omega
  clear hsl
  have hn16 := hs2.out.few
  have hnp := hs2.out.pos
  have HBE1 := hide (fun (x : Ber) W (h : x.nm.length ≤ 20) k => bearerErr_ref B C P A c n T x.nm x.kd x.pr x.wt x.pw x.le x.bu x.ra x.de W hn k (by omega) (by omega) (by omega))
  have HCP := hide (fun W k => copyS B C P A c n T W hn k (by omega))
  have HAD1 := hide (fun (H : List Ber) q x A1 c1 A5 c5 W base e0 (hHq : H.length = q) (hq6 : q ≤ 6) (hok : OkL B C P T H) (hx : OkR T x) k k2 => admit_all B C P A1 c1 n T H A5 c5 q x W base e0 hn hHq hq6 k hs2.out hok k2 hx)
  have HBO := hide (fun (H : List Ber) D d q W (hHq : H.length = q) (hok : OkL B C P T H) (hqd : q ≤ d) k k2 => bothErr_ref B C P A c n T H D d q W hn hHq k hs2.out hok hqd k2)
  have HFL := hide (fun (H : List Ber) A c E d q D dd W (hHq : H.length = q) (hok : OkL B C P T H) (hqd : q ≤ d) k k2 k3 => firstLate_all B C P A c n T H E d q D dd sn W hn hHq k hs2.out hok hqd k2 k3 hsn12)
  go_loopw [7, 8] (fun vh i wr => ∃ (k : Nat) (H : List Ber) (q : Nat) (Hd : Option Addr) (hc : Nat), k ≤ m ∧ i = .int .i64 k ∧ vh = .slice Hd q hc ∧ (H.length = q ∧ q ≤ k ∧ q ≤ hc) ∧ OkL B C P T H ∧ Brs wr Hd H ∧ Below w3.heap.size w3 wr) (fun _ i _ => m - (intOf i).toNat)
  case atStart => exact ⟨0, [], 0, none, 0, Nat.zero_le _, rfl, rfl, ⟨rfl, Nat.le_refl _, Nat.le_refl _⟩, okL_nil hs2.out, Brs.nil _ _, Below.refl _ _⟩
  case round =>
    obtain ⟨k, H, q, Hd, hc, hkm, rfl, rfl, ⟨hHq, hqk, hqc⟩, hok, hBH, hbel⟩ := hrel
    have HQ := hide ((HT.out.step hbel).and (stay_brs hBH))
    replace hok := hide hok
    replace hbel := hide hbel
    clear hBH
    by_cases hlt : k < m
    · have hkl : k < L.length := by omega
      have hki : (k : Int) < (m : Int) := by omega
      have hnx := hnm.out (L[k]'hkl) (List.getElem_mem hkl)
      obtain ⟨b, o, rfl, b0, b1, b2, b3, b4, b5, b6, b7, b8⟩ := (HQ.out.now).1.1.2.at_ k hkl
      obtain ⟨x, hx⟩ : ∃ x, L[k] = x := ⟨_, rfl⟩
      rw [hx] at hnx b0 b1 b2 b3 b4 b5 b6 b7 b8
      have HBE := hide (fun W k => HBE1.out x W hnx k)
      have HB0 := hide (And.intro b0 (And.intro b1 (And.intro b2 (And.intro b3 (And.intro b4 (And.intro b5 (And.intro b6 (And.intro b7 b8))))))))
      clear hx b0 b1 b2 b3 b4 b5 b6 b7 b8 HFL hnx
      go_wp2_with fail
      refine wp_region_held_drew (S := fun w_ => Below wr.heap.size wr w_) (by kernel_rfl) (below_drewN (Below.refl wr.heap.size wr) 1) (fun hHeld => ?_)
      refine take_at (i := 0) 45 (v := .agg #[.int .i64 B, .int .i64 C, .int .i64 P, .slice A n c]) rfl rfl (by kernel_rfl) (by kernel_rfl) (by kernel_rfl) (fun _ _ _ h => h) (Or.inl ⟨by rfl, by intro w_ hSw; have c0 : w_.cell? ⟨w.heap.size, 0, none⟩ = some (.int .i64 B) := (HQ.out _ hSw).1.1.1.1.cell 0; have c1 : w_.cell? ⟨w.heap.size, 1, none⟩ = some (.int .i64 C) := (HQ.out _ hSw).1.1.1.1.cell 1; have c2 : w_.cell? ⟨w.heap.size, 2, none⟩ = some (.int .i64 P) := (HQ.out _ hSw).1.1.1.1.cell 2; have c3 : w_.cell? ⟨w.heap.size, 3, none⟩ = some (.slice A n c) := (HQ.out _ hSw).1.1.1.1.cell 3; go_simp⟩) (by assumption) ?_
      try simp only [Act.put, List.setIfInBounds_toArray, List.set_cons_zero, List.set_cons_succ]
      refine take_at (i := 1) 46 (v := .slice (some ⟨b, o, none⟩) m d) rfl rfl (by kernel_rfl) (by kernel_rfl) (by kernel_rfl) (fun _ _ _ h => h) (Or.inl ⟨by rfl, by intro w_ hSw; go_simp⟩) (by assumption) ?_
      try simp only [Act.put, List.setIfInBounds_toArray, List.set_cons_zero, List.set_cons_succ]
      refine take_at (i := 2) 47 (v := .int .i64 (k : Int)) rfl rfl (by kernel_rfl) (by kernel_rfl) (by kernel_rfl) (fun _ _ _ h => h) (Or.inl ⟨by rfl, by intro w_ hSw; go_simp⟩) (by assumption) ?_
      try simp only [Act.put, List.setIfInBounds_toArray, List.set_cons_zero, List.set_cons_succ]
      refine take_at (i := 3) 48 (v := .pointer (some ⟨b, o + k * 9, none⟩)) rfl rfl (by kernel_rfl) (by kernel_rfl) (by kernel_rfl) (fun _ _ _ h => h) (Or.inl ⟨by rfl, by intro w_ hSw; go_simp⟩) (by assumption) ?_
      try simp only [Act.put, List.setIfInBounds_toArray, List.set_cons_zero, List.set_cons_succ]
      refine take_at (i := 4) 49 (v := .agg #[strV x.nm, .int .i64 x.kd, .int .i64 x.pr, .int .i64 x.wt, .int .i64 x.pw, .int .i64 x.le, .int .i64 x.bu, .int .i64 x.ra, .int .i64 x.de]) rfl rfl (by kernel_rfl) (by kernel_rfl) (by kernel_rfl) (fun _ _ _ h => h) (Or.inl ⟨by rfl, by intro w_ hSw; obtain ⟨b0, b1, b2, b3, b4, b5, b6, b7, b8⟩ := HB0.out; replace b0 := (hSw.cell (lt_of_cell b0)).trans b0; replace b1 := (hSw.cell (lt_of_cell b1)).trans b1; replace b2 := (hSw.cell (lt_of_cell b2)).trans b2; replace b3 := (hSw.cell (lt_of_cell b3)).trans b3; replace b4 := (hSw.cell (lt_of_cell b4)).trans b4; replace b5 := (hSw.cell (lt_of_cell b5)).trans b5; replace b6 := (hSw.cell (lt_of_cell b6)).trans b6; replace b7 := (hSw.cell (lt_of_cell b7)).trans b7; replace b8 := (hSw.cell (lt_of_cell b8)).trans b8; go_simp⟩) (by assumption) ?_
      try simp only [Act.put, List.setIfInBounds_toArray, List.set_cons_zero, List.set_cons_succ]
      refine wpAnyH_ready (rs := [5]) (by kernel_rfl) (by simp) ?_
      refine AllReadyH.cons rfl (fun K hK => ?_) AllReadyH.nil
      go_simp
      go_at_call 9
      refine (HBE.out _ (HQ.out _ hHeld).1.1.1.2).mono ?_
      rintro e wv ⟨v, rfl, hv, hb⟩
      obtain ⟨bv, hbv⟩ : ∃ b, (v != 0) = b := ⟨_, rfl⟩
      replace hHeld := Below.step hHeld hb
      clear hb
      simp only []
      refine hK.out _ _ hHeld (fun hHeld => ?_)
      clear hK K
      try simp only [Act.put, List.setIfInBounds_toArray, List.set_cons_zero, List.set_cons_succ]
      refine take_at (i := 6) 51 (v := .bool bv) rfl rfl (by kernel_rfl) (by kernel_rfl) (by kernel_rfl) (fun _ _ _ h => h) (Or.inl ⟨by rfl, by intro w_ hSw; go_simp⟩) (by assumption) ?_
      try simp only [Act.put, List.setIfInBounds_toArray, List.set_cons_zero, List.set_cons_succ]
      refine wpAnyH_done (by kernel_rfl) ?_ _
      have hB1 := hide hHeld
      replace HQ := hide (HQ.out.step hHeld)
      clear hHeld HBE
      cases bv
      rotate_left
      · go_wp2_with fail
        go_ret
        exact ⟨rfl, HQ.out.now.1.2⟩
      have hxR : OkR T x := hv (by simpa using hbv)
      have HAD := hide (fun A1 c1 A5 c5 W base e0 k k2 => HAD1.out H q x A1 c1 A5 c5 W base e0 hHq (by omega) hok.out hxR k k2)
      clear hv hbv
      go_wp2_with fail
      go_cut [9, 10] from 39 to 88 (fun s9 s10 wx => ∃ (g9 : Nat) (L6 : List Ber) (q6 : Nat) (A6 : Option Addr) (c6 : Nat) (R6 : Option Addr) (r6 rc6 : Nat) (ev : Int), s9 = .pointer (some ⟨g9, 0, none⟩) ∧ s10 = .int .i64 ev ∧ Blk wx g9 35 #[.slice A6 q6 c6, .slice R6 r6 rc6] ∧ (L6.length = q6 ∧ q6 ≤ q + 1 ∧ ((ev = 0 ∧ OkL B C P T L6) ∨ ((ev = 5 ∨ ev = 8 ∨ ev = 28) ∧ q6 = 0))) ∧ Brs wx A6 L6 ∧ wv.heap.size ≤ g9 ∧ Below wv.heap.size wv wx)
      case first =>
        refine wp_region_held_drew (S := fun w_ => Below wv.heap.size wv w_) (by kernel_rfl) (below_drewN (Below.refl wv.heap.size wv) 1) (fun hHeld => ?_)
        obtain ⟨v0, hv0⟩ : ∃ v0, wv.drew = v0 := ⟨_, rfl⟩
        replace hHeld : Below wv.heap.size wv wv.drew := hHeld
        rw [hv0] at hHeld
        first | rw [hv0] | (change wpAnyH _ _ _ _ _ _ _ _ wv.drew; rw [hv0])
        clear hv0
        refine take_at (i := 0) 53 (v := .agg #[.int .i64 B, .int .i64 C, .int .i64 P, .slice A n c]) rfl rfl (by kernel_rfl) (by kernel_rfl) (by kernel_rfl) (fun _ _ _ h => h) (Or.inl ⟨by rfl, by intro w_ hSw; have c0 : w_.cell? ⟨w.heap.size, 0, none⟩ = some (.int .i64 B) := (HQ.out _ hSw).1.1.1.1.cell 0; have c1 : w_.cell? ⟨w.heap.size, 1, none⟩ = some (.int .i64 C) := (HQ.out _ hSw).1.1.1.1.cell 1; have c2 : w_.cell? ⟨w.heap.size, 2, none⟩ = some (.int .i64 P) := (HQ.out _ hSw).1.1.1.1.cell 2; have c3 : w_.cell? ⟨w.heap.size, 3, none⟩ = some (.slice A n c) := (HQ.out _ hSw).1.1.1.1.cell 3; go_simp⟩) (by assumption) ?_
        try simp only [Act.put, List.setIfInBounds_toArray, List.set_cons_zero, List.set_cons_succ]
        refine take_at (i := 2) 55 (v := .slice Hd q hc) rfl rfl (by kernel_rfl) (by kernel_rfl) (by kernel_rfl) (fun _ _ _ h => h) (Or.inl ⟨by rfl, by intro w_ hSw; go_simp⟩) (by assumption) ?_
        try simp only [Act.put, List.setIfInBounds_toArray, List.set_cons_zero, List.set_cons_succ]
        refine take_at (i := 4) 57 (v := .slice (some ⟨b, o, none⟩) m d) rfl rfl (by kernel_rfl) (by kernel_rfl) (by kernel_rfl) (fun _ _ _ h => h) (Or.inl ⟨by rfl, by intro w_ hSw; go_simp⟩) (by assumption) ?_
        try simp only [Act.put, List.setIfInBounds_toArray, List.set_cons_zero, List.set_cons_succ]
        refine take_at (i := 5) 58 (v := .int .i64 (k : Int)) rfl rfl (by kernel_rfl) (by kernel_rfl) (by kernel_rfl) (fun _ _ _ h => h) (Or.inl ⟨by rfl, by intro w_ hSw; go_simp⟩) (by assumption) ?_
        try simp only [Act.put, List.setIfInBounds_toArray, List.set_cons_zero, List.set_cons_succ]
        refine take_at (i := 6) 59 (v := .pointer (some ⟨b, o + k * 9, none⟩)) rfl rfl (by kernel_rfl) (by kernel_rfl) (by kernel_rfl) (fun _ _ _ h => h) (Or.inl ⟨by rfl, by intro w_ hSw; go_simp⟩) (by assumption) ?_
        try simp only [Act.put, List.setIfInBounds_toArray, List.set_cons_zero, List.set_cons_succ]
        refine take_at (i := 7) 60 (v := .agg #[strV x.nm, .int .i64 x.kd, .int .i64 x.pr, .int .i64 x.wt, .int .i64 x.pw, .int .i64 x.le, .int .i64 x.bu, .int .i64 x.ra, .int .i64 x.de]) rfl rfl (by kernel_rfl) (by kernel_rfl) (by kernel_rfl) (fun _ _ _ h => h) (Or.inl ⟨by rfl, by intro w_ hSw; obtain ⟨b0, b1, b2, b3, b4, b5, b6, b7, b8⟩ := HB0.out; replace b0 := ((Below.step hB1.out hSw).cell (lt_of_cell b0)).trans b0; replace b1 := ((Below.step hB1.out hSw).cell (lt_of_cell b1)).trans b1; replace b2 := ((Below.step hB1.out hSw).cell (lt_of_cell b2)).trans b2; replace b3 := ((Below.step hB1.out hSw).cell (lt_of_cell b3)).trans b3; replace b4 := ((Below.step hB1.out hSw).cell (lt_of_cell b4)).trans b4; replace b5 := ((Below.step hB1.out hSw).cell (lt_of_cell b5)).trans b5; replace b6 := ((Below.step hB1.out hSw).cell (lt_of_cell b6)).trans b6; replace b7 := ((Below.step hB1.out hSw).cell (lt_of_cell b7)).trans b7; replace b8 := ((Below.step hB1.out hSw).cell (lt_of_cell b8)).trans b8; go_simp⟩) (by assumption) ?_
        try simp only [Act.put, List.setIfInBounds_toArray, List.set_cons_zero, List.set_cons_succ]
        obtain ⟨g9, hg9⟩ : ∃ g, v0.heap.size = g := ⟨_, rfl⟩
        refine wpAnyH_ready (rs := [1, 12]) (by kernel_rfl) (by simp) ?_
        refine AllReadyH.cons rfl (fun K hK => ?_) (AllReadyH.cons rfl (fun K hK => ?_) AllReadyH.nil)
        · clear hg9
          go_simp
          go_at_call 11
          refine (HCP.out _ (HQ.out _ hHeld).1.1.1.2).mono ?_
          rintro e v1 ⟨A1, c1, rfl, hcs, hb⟩
          replace hHeld := Below.step hHeld hb
          have HCS := hide (stay_sl hcs)
          clear hcs
          clear hb
          simp only []
          refine hK.out _ _ hHeld (fun hHeld => ?_)
          clear hK K
          try simp only [Act.put, List.setIfInBounds_toArray, List.set_cons_zero, List.set_cons_succ]
          obtain ⟨g9, hg9⟩ : ∃ g, v1.heap.size = g := ⟨_, rfl⟩
          refine wpAnyH_ready (rs := [3, 12]) (by kernel_rfl) (by simp) ?_
          refine AllReadyH.cons rfl (fun K hK => ?_) (AllReadyH.cons rfl (fun K hK => ?_) AllReadyH.nil)
          · clear hg9
            go_simp
            go_at_call 12
            refine (copyBers H Hd hc q _ hHq (HQ.out _ hHeld).2 (by omega)).mono ?_
            rintro e v2 ⟨A5, c5, rfl, ho5, hb⟩
            replace HCS := hide (HCS.out.step hb)
            replace hHeld := Below.step hHeld hb
            have HOW := hide (stay_own ho5)
            clear ho5
            clear hb
            simp only []
            refine hK.out _ _ hHeld (fun hHeld => ?_)
            clear hK K
            try simp only [Act.put, List.setIfInBounds_toArray, List.set_cons_zero, List.set_cons_succ]
            obtain ⟨g9, hg9⟩ : ∃ g, v2.heap.size = g := ⟨_, rfl⟩
            refine wpAnyH_ready (rs := [8, 12]) (by kernel_rfl) (by simp) ?_
            refine AllReadyH.cons rfl (fun K hK => ?_) (AllReadyH.cons rfl (fun K hK => ?_) AllReadyH.nil)
            · clear hg9
              go_simp
              go_at_call 10
              refine (HAD.out A1 c1 A5 c5 _ _ _ HCS.out.now HOW.out.now).mono ?_
              rintro e v3 ⟨⟨L6, q6, A6, c6, R6, r6, rc6, ev, rfl, h61, h62, h63, h64⟩, hb⟩
              replace HCS := hide (HCS.out.step hb)
              replace HOW := hide (HOW.out.step hb)
              replace hHeld := Below.step hHeld hb
              have HO6 := hide (stay_own h63)
              have H64 := hide (And.intro h61 (And.intro h62 h64))
              clear h61 h62 h63 h64
              clear hb
              simp only []
              refine hK.out _ _ hHeld (fun hHeld => ?_)
              clear hK K
              try simp only [Act.put, List.setIfInBounds_toArray, List.set_cons_zero, List.set_cons_succ]
              refine take_at (i := 9) 52 (v := .tuple #[.agg #[.slice A6 q6 c6, .slice R6 r6 rc6], .int .i64 ev]) rfl rfl (by kernel_rfl) (by kernel_rfl) (by kernel_rfl) (fun _ _ _ h => h) (Or.inl ⟨by rfl, by intro w_ hSw; go_simp⟩) (by assumption) ?_
              try simp only [Act.put, List.setIfInBounds_toArray, List.set_cons_zero, List.set_cons_succ]
              refine take_at (i := 10) 62 (v := .agg #[.slice A6 q6 c6, .slice R6 r6 rc6]) rfl rfl (by kernel_rfl) (by kernel_rfl) (by kernel_rfl) (fun _ _ _ h => h) (Or.inl ⟨by rfl, by intro w_ hSw; go_simp⟩) (by assumption) ?_
              try simp only [Act.put, List.setIfInBounds_toArray, List.set_cons_zero, List.set_cons_succ]
              refine take_at (i := 11) 63 (v := .int .i64 ev) rfl rfl (by kernel_rfl) (by kernel_rfl) (by kernel_rfl) (fun _ _ _ h => h) (Or.inl ⟨by rfl, by intro w_ hSw; go_simp⟩) (by assumption) ?_
              try simp only [Act.put, List.setIfInBounds_toArray, List.set_cons_zero, List.set_cons_succ]
              obtain ⟨g9, hg9⟩ : ∃ g, v3.heap.size = g := ⟨_, rfl⟩
              refine wpAnyH_ready (rs := [12]) (by kernel_rfl) (by simp) ?_
              refine AllReadyH.cons rfl (fun K hK => ?_) AllReadyH.nil
              go_simp
              have hb := (Below.refl v3.heap.size v3).alloc (Nat.le_refl _) (.cells #[.slice none 0 0, .slice none 0 0] 35)
              replace HCS := hide (HCS.out.step hb)
              replace HOW := hide (HOW.out.step hb)
              replace HO6 := hide (HO6.out.step hb)
              have g9ge := Nat.le_trans hHeld.size (Nat.le_of_eq hg9)
              replace hHeld := Below.step hHeld hb
              have Hg9 := hide (stay_blk (Blk.newN v3 35 #[.slice none 0 0, .slice none 0 0] hg9))
              obtain ⟨v4, hwn⟩ : ∃ w9, v3.alloc (.cells #[.slice none 0 0, .slice none 0 0] 35) = w9 := ⟨_, rfl⟩
              rw [hwn] at hHeld HCS HOW HO6 Hg9 ⊢
              clear hb hwn hg9
              refine hK.out _ _ hHeld (fun hHeld => ?_)
              clear hK K
              try simp only [Act.put, List.setIfInBounds_toArray, List.set_cons_zero, List.set_cons_succ]
              refine wpAnyH_ready (rs := [13]) (by kernel_rfl) (by simp) ?_
              refine AllReadyH.cons rfl (fun K hK => ?_) AllReadyH.nil
              refine step_store_rowF rfl 35 _ _ rfl g9 #[.slice A6 q6 c6, .slice R6 r6 rc6] rfl rfl 35 #[.slice none 0 0, .slice none 0 0] Hg9.out.now (by kernel_rfl) rfl (by simp [Value.oneCell']) ?_
              have HON := hide (own_setRow HO6.out.now (own_blk_ne HO6.out.now Hg9.out.now (by decide)) #[.slice A6 q6 c6, .slice R6 r6 rc6])
              replace hHeld := Below.row (g := g9) hHeld g9ge #[.slice A6 q6 c6, .slice R6 r6 rc6]
              have HSg9 := hide (Hg9.out.now.row #[.slice A6 q6 c6, .slice R6 r6 rc6])
              obtain ⟨v5, hwn⟩ : ∃ w9, v4.setRow g9 #[.slice A6 q6 c6, .slice R6 r6 rc6] = w9 := ⟨_, rfl⟩
              rw [hwn] at hHeld HSg9 HON ⊢
              clear hwn HCS HOW HO6 Hg9
              refine hK.out _ _ hHeld (fun hHeld => ?_)
              clear hK K
              try simp only [Act.put, List.setIfInBounds_toArray]
              refine take_at (i := 14) 10 (v := .int .i64 ev) rfl rfl (by kernel_rfl) (by kernel_rfl) (by kernel_rfl) (fun _ _ _ h => h) (Or.inl ⟨by rfl, by intro w_ hSw; go_simp⟩) (by assumption) ?_
              try simp only [Act.put]
              refine wpAnyH_done (by kernel_rfl) ?_ _
              go_wp2_with fail
              go_meet
              exact ⟨g9, L6, q6, A6, c6, R6, r6, rc6, ev, rfl, rfl, HSg9.out, H64.out, Brs.of_own HON.out H64.out.1.symm, g9ge, hHeld⟩
            · go_simp
              have hb := (Below.refl v2.heap.size v2).alloc (Nat.le_refl _) (.cells #[.slice none 0 0, .slice none 0 0] 35)
              replace HCS := hide (HCS.out.step hb)
              replace HOW := hide (HOW.out.step hb)
              have g9ge := Nat.le_trans hHeld.size (Nat.le_of_eq hg9)
              replace hHeld := Below.step hHeld hb
              have Hg9 := hide (stay_blk (Blk.newN v2 35 #[.slice none 0 0, .slice none 0 0] hg9))
              obtain ⟨v3, hwn⟩ : ∃ w9, v2.alloc (.cells #[.slice none 0 0, .slice none 0 0] 35) = w9 := ⟨_, rfl⟩
              rw [hwn] at hHeld HCS HOW Hg9 ⊢
              clear hb hwn hg9
              refine hK.out _ _ hHeld (fun hHeld => ?_)
              clear hK K
              try simp only [Act.put, List.setIfInBounds_toArray, List.set_cons_zero, List.set_cons_succ]
              refine wpAnyH_ready (rs := [8]) (by kernel_rfl) (by simp) ?_
              refine AllReadyH.cons rfl (fun K hK => ?_) AllReadyH.nil
              go_simp
              go_at_call 10
              refine (HAD.out A1 c1 A5 c5 _ _ _ HCS.out.now HOW.out.now).mono ?_
              rintro e v4 ⟨⟨L6, q6, A6, c6, R6, r6, rc6, ev, rfl, h61, h62, h63, h64⟩, hb⟩
              replace HCS := hide (HCS.out.step hb)
              replace HOW := hide (HOW.out.step hb)
              replace Hg9 := hide (Hg9.out.step hb)
              replace hHeld := Below.step hHeld hb
              have HO6 := hide (stay_own h63)
              have H64 := hide (And.intro h61 (And.intro h62 h64))
              clear h61 h62 h63 h64
              clear hb
              simp only []
              refine hK.out _ _ hHeld (fun hHeld => ?_)
              clear hK K
              try simp only [Act.put, List.setIfInBounds_toArray, List.set_cons_zero, List.set_cons_succ]
              refine take_at (i := 9) 52 (v := .tuple #[.agg #[.slice A6 q6 c6, .slice R6 r6 rc6], .int .i64 ev]) rfl rfl (by kernel_rfl) (by kernel_rfl) (by kernel_rfl) (fun _ _ _ h => h) (Or.inl ⟨by rfl, by intro w_ hSw; go_simp⟩) (by assumption) ?_
              try simp only [Act.put, List.setIfInBounds_toArray, List.set_cons_zero, List.set_cons_succ]
              refine take_at (i := 10) 62 (v := .agg #[.slice A6 q6 c6, .slice R6 r6 rc6]) rfl rfl (by kernel_rfl) (by kernel_rfl) (by kernel_rfl) (fun _ _ _ h => h) (Or.inl ⟨by rfl, by intro w_ hSw; go_simp⟩) (by assumption) ?_
              try simp only [Act.put, List.setIfInBounds_toArray, List.set_cons_zero, List.set_cons_succ]
              refine take_at (i := 11) 63 (v := .int .i64 ev) rfl rfl (by kernel_rfl) (by kernel_rfl) (by kernel_rfl) (fun _ _ _ h => h) (Or.inl ⟨by rfl, by intro w_ hSw; go_simp⟩) (by assumption) ?_
              try simp only [Act.put, List.setIfInBounds_toArray, List.set_cons_zero, List.set_cons_succ]
              refine wpAnyH_ready (rs := [13]) (by kernel_rfl) (by simp) ?_
              refine AllReadyH.cons rfl (fun K hK => ?_) AllReadyH.nil
              refine step_store_rowF rfl 35 _ _ rfl g9 #[.slice A6 q6 c6, .slice R6 r6 rc6] rfl rfl 35 #[.slice none 0 0, .slice none 0 0] Hg9.out.now (by kernel_rfl) rfl (by simp [Value.oneCell']) ?_
              have HON := hide (own_setRow HO6.out.now (own_blk_ne HO6.out.now Hg9.out.now (by decide)) #[.slice A6 q6 c6, .slice R6 r6 rc6])
              replace hHeld := Below.row (g := g9) hHeld g9ge #[.slice A6 q6 c6, .slice R6 r6 rc6]
              have HSg9 := hide (Hg9.out.now.row #[.slice A6 q6 c6, .slice R6 r6 rc6])
              obtain ⟨v5, hwn⟩ : ∃ w9, v4.setRow g9 #[.slice A6 q6 c6, .slice R6 r6 rc6] = w9 := ⟨_, rfl⟩
              rw [hwn] at hHeld HSg9 HON ⊢
              clear hwn HCS HOW Hg9 HO6
              refine hK.out _ _ hHeld (fun hHeld => ?_)
              clear hK K
              try simp only [Act.put, List.setIfInBounds_toArray]
              refine take_at (i := 14) 10 (v := .int .i64 ev) rfl rfl (by kernel_rfl) (by kernel_rfl) (by kernel_rfl) (fun _ _ _ h => h) (Or.inl ⟨by rfl, by intro w_ hSw; go_simp⟩) (by assumption) ?_
              try simp only [Act.put]
              refine wpAnyH_done (by kernel_rfl) ?_ _
              go_wp2_with fail
              go_meet
              exact ⟨g9, L6, q6, A6, c6, R6, r6, rc6, ev, rfl, rfl, HSg9.out, H64.out, Brs.of_own HON.out H64.out.1.symm, g9ge, hHeld⟩
          · go_simp
            have hb := (Below.refl v1.heap.size v1).alloc (Nat.le_refl _) (.cells #[.slice none 0 0, .slice none 0 0] 35)
            replace HCS := hide (HCS.out.step hb)
            have g9ge := Nat.le_trans hHeld.size (Nat.le_of_eq hg9)
            replace hHeld := Below.step hHeld hb
            have Hg9 := hide (stay_blk (Blk.newN v1 35 #[.slice none 0 0, .slice none 0 0] hg9))
            obtain ⟨v2, hwn⟩ : ∃ w9, v1.alloc (.cells #[.slice none 0 0, .slice none 0 0] 35) = w9 := ⟨_, rfl⟩
            rw [hwn] at hHeld HCS Hg9 ⊢
            clear hb hwn hg9
            refine hK.out _ _ hHeld (fun hHeld => ?_)
            clear hK K
            try simp only [Act.put, List.setIfInBounds_toArray, List.set_cons_zero, List.set_cons_succ]
            refine wpAnyH_ready (rs := [3]) (by kernel_rfl) (by simp) ?_
            refine AllReadyH.cons rfl (fun K hK => ?_) AllReadyH.nil
            go_simp
            go_at_call 12
            refine (copyBers H Hd hc q _ hHq (HQ.out _ hHeld).2 (by omega)).mono ?_
            rintro e v3 ⟨A5, c5, rfl, ho5, hb⟩
            replace HCS := hide (HCS.out.step hb)
            replace Hg9 := hide (Hg9.out.step hb)
            replace hHeld := Below.step hHeld hb
            have HOW := hide (stay_own ho5)
            clear ho5
            clear hb
            simp only []
            refine hK.out _ _ hHeld (fun hHeld => ?_)
            clear hK K
            try simp only [Act.put, List.setIfInBounds_toArray, List.set_cons_zero, List.set_cons_succ]
            refine wpAnyH_ready (rs := [8]) (by kernel_rfl) (by simp) ?_
            refine AllReadyH.cons rfl (fun K hK => ?_) AllReadyH.nil
            go_simp
            go_at_call 10
            refine (HAD.out A1 c1 A5 c5 _ _ _ HCS.out.now HOW.out.now).mono ?_
            rintro e v4 ⟨⟨L6, q6, A6, c6, R6, r6, rc6, ev, rfl, h61, h62, h63, h64⟩, hb⟩
            replace HCS := hide (HCS.out.step hb)
            replace Hg9 := hide (Hg9.out.step hb)
            replace HOW := hide (HOW.out.step hb)
            replace hHeld := Below.step hHeld hb
            have HO6 := hide (stay_own h63)
            have H64 := hide (And.intro h61 (And.intro h62 h64))
            clear h61 h62 h63 h64
            clear hb
            simp only []
            refine hK.out _ _ hHeld (fun hHeld => ?_)
            clear hK K
            try simp only [Act.put, List.setIfInBounds_toArray, List.set_cons_zero, List.set_cons_succ]
            refine take_at (i := 9) 52 (v := .tuple #[.agg #[.slice A6 q6 c6, .slice R6 r6 rc6], .int .i64 ev]) rfl rfl (by kernel_rfl) (by kernel_rfl) (by kernel_rfl) (fun _ _ _ h => h) (Or.inl ⟨by rfl, by intro w_ hSw; go_simp⟩) (by assumption) ?_
            try simp only [Act.put, List.setIfInBounds_toArray, List.set_cons_zero, List.set_cons_succ]
            refine take_at (i := 10) 62 (v := .agg #[.slice A6 q6 c6, .slice R6 r6 rc6]) rfl rfl (by kernel_rfl) (by kernel_rfl) (by kernel_rfl) (fun _ _ _ h => h) (Or.inl ⟨by rfl, by intro w_ hSw; go_simp⟩) (by assumption) ?_
            try simp only [Act.put, List.setIfInBounds_toArray, List.set_cons_zero, List.set_cons_succ]
            refine take_at (i := 11) 63 (v := .int .i64 ev) rfl rfl (by kernel_rfl) (by kernel_rfl) (by kernel_rfl) (fun _ _ _ h => h) (Or.inl ⟨by rfl, by intro w_ hSw; go_simp⟩) (by assumption) ?_
            try simp only [Act.put, List.setIfInBounds_toArray, List.set_cons_zero, List.set_cons_succ]
            refine wpAnyH_ready (rs := [13]) (by kernel_rfl) (by simp) ?_
            refine AllReadyH.cons rfl (fun K hK => ?_) AllReadyH.nil
            refine step_store_rowF rfl 35 _ _ rfl g9 #[.slice A6 q6 c6, .slice R6 r6 rc6] rfl rfl 35 #[.slice none 0 0, .slice none 0 0] Hg9.out.now (by kernel_rfl) rfl (by simp [Value.oneCell']) ?_
            have HON := hide (own_setRow HO6.out.now (own_blk_ne HO6.out.now Hg9.out.now (by decide)) #[.slice A6 q6 c6, .slice R6 r6 rc6])
            replace hHeld := Below.row (g := g9) hHeld g9ge #[.slice A6 q6 c6, .slice R6 r6 rc6]
            have HSg9 := hide (Hg9.out.now.row #[.slice A6 q6 c6, .slice R6 r6 rc6])
            obtain ⟨v5, hwn⟩ : ∃ w9, v4.setRow g9 #[.slice A6 q6 c6, .slice R6 r6 rc6] = w9 := ⟨_, rfl⟩
            rw [hwn] at hHeld HSg9 HON ⊢
            clear hwn HCS Hg9 HOW HO6
            refine hK.out _ _ hHeld (fun hHeld => ?_)
            clear hK K
            try simp only [Act.put, List.setIfInBounds_toArray]
            refine take_at (i := 14) 10 (v := .int .i64 ev) rfl rfl (by kernel_rfl) (by kernel_rfl) (by kernel_rfl) (fun _ _ _ h => h) (Or.inl ⟨by rfl, by intro w_ hSw; go_simp⟩) (by assumption) ?_
            try simp only [Act.put]
            refine wpAnyH_done (by kernel_rfl) ?_ _
            go_wp2_with fail
            go_meet
            exact ⟨g9, L6, q6, A6, c6, R6, r6, rc6, ev, rfl, rfl, HSg9.out, H64.out, Brs.of_own HON.out H64.out.1.symm, g9ge, hHeld⟩
        · go_simp
          have hb := (Below.refl v0.heap.size v0).alloc (Nat.le_refl _) (.cells #[.slice none 0 0, .slice none 0 0] 35)
          have g9ge := Nat.le_trans hHeld.size (Nat.le_of_eq hg9)
          replace hHeld := Below.step hHeld hb
          have Hg9 := hide (stay_blk (Blk.newN v0 35 #[.slice none 0 0, .slice none 0 0] hg9))
          obtain ⟨v1, hwn⟩ : ∃ w9, v0.alloc (.cells #[.slice none 0 0, .slice none 0 0] 35) = w9 := ⟨_, rfl⟩
          rw [hwn] at hHeld Hg9 ⊢
          clear hb hwn hg9
          refine hK.out _ _ hHeld (fun hHeld => ?_)
          clear hK K
          try simp only [Act.put, List.setIfInBounds_toArray, List.set_cons_zero, List.set_cons_succ]
          refine wpAnyH_ready (rs := [1]) (by kernel_rfl) (by simp) ?_
          refine AllReadyH.cons rfl (fun K hK => ?_) AllReadyH.nil
          go_simp
          go_at_call 11
          refine (HCP.out _ (HQ.out _ hHeld).1.1.1.2).mono ?_
          rintro e v2 ⟨A1, c1, rfl, hcs, hb⟩
          replace Hg9 := hide (Hg9.out.step hb)
          replace hHeld := Below.step hHeld hb
          have HCS := hide (stay_sl hcs)
          clear hcs
          clear hb
          simp only []
          refine hK.out _ _ hHeld (fun hHeld => ?_)
          clear hK K
          try simp only [Act.put, List.setIfInBounds_toArray, List.set_cons_zero, List.set_cons_succ]
          refine wpAnyH_ready (rs := [3]) (by kernel_rfl) (by simp) ?_
          refine AllReadyH.cons rfl (fun K hK => ?_) AllReadyH.nil
          go_simp
          go_at_call 12
          refine (copyBers H Hd hc q _ hHq (HQ.out _ hHeld).2 (by omega)).mono ?_
          rintro e v3 ⟨A5, c5, rfl, ho5, hb⟩
          replace Hg9 := hide (Hg9.out.step hb)
          replace HCS := hide (HCS.out.step hb)
          replace hHeld := Below.step hHeld hb
          have HOW := hide (stay_own ho5)
          clear ho5
          clear hb
          simp only []
          refine hK.out _ _ hHeld (fun hHeld => ?_)
          clear hK K
          try simp only [Act.put, List.setIfInBounds_toArray, List.set_cons_zero, List.set_cons_succ]
          refine wpAnyH_ready (rs := [8]) (by kernel_rfl) (by simp) ?_
          refine AllReadyH.cons rfl (fun K hK => ?_) AllReadyH.nil
          go_simp
          go_at_call 10
          refine (HAD.out A1 c1 A5 c5 _ _ _ HCS.out.now HOW.out.now).mono ?_
          rintro e v4 ⟨⟨L6, q6, A6, c6, R6, r6, rc6, ev, rfl, h61, h62, h63, h64⟩, hb⟩
          replace Hg9 := hide (Hg9.out.step hb)
          replace HCS := hide (HCS.out.step hb)
          replace HOW := hide (HOW.out.step hb)
          replace hHeld := Below.step hHeld hb
          have HO6 := hide (stay_own h63)
          have H64 := hide (And.intro h61 (And.intro h62 h64))
          clear h61 h62 h63 h64
          clear hb
          simp only []
          refine hK.out _ _ hHeld (fun hHeld => ?_)
          clear hK K
          try simp only [Act.put, List.setIfInBounds_toArray, List.set_cons_zero, List.set_cons_succ]
          refine take_at (i := 9) 52 (v := .tuple #[.agg #[.slice A6 q6 c6, .slice R6 r6 rc6], .int .i64 ev]) rfl rfl (by kernel_rfl) (by kernel_rfl) (by kernel_rfl) (fun _ _ _ h => h) (Or.inl ⟨by rfl, by intro w_ hSw; go_simp⟩) (by assumption) ?_
          try simp only [Act.put, List.setIfInBounds_toArray, List.set_cons_zero, List.set_cons_succ]
          refine take_at (i := 10) 62 (v := .agg #[.slice A6 q6 c6, .slice R6 r6 rc6]) rfl rfl (by kernel_rfl) (by kernel_rfl) (by kernel_rfl) (fun _ _ _ h => h) (Or.inl ⟨by rfl, by intro w_ hSw; go_simp⟩) (by assumption) ?_
          try simp only [Act.put, List.setIfInBounds_toArray, List.set_cons_zero, List.set_cons_succ]
          refine take_at (i := 11) 63 (v := .int .i64 ev) rfl rfl (by kernel_rfl) (by kernel_rfl) (by kernel_rfl) (fun _ _ _ h => h) (Or.inl ⟨by rfl, by intro w_ hSw; go_simp⟩) (by assumption) ?_
          try simp only [Act.put, List.setIfInBounds_toArray, List.set_cons_zero, List.set_cons_succ]
          refine wpAnyH_ready (rs := [13]) (by kernel_rfl) (by simp) ?_
          refine AllReadyH.cons rfl (fun K hK => ?_) AllReadyH.nil
          refine step_store_rowF rfl 35 _ _ rfl g9 #[.slice A6 q6 c6, .slice R6 r6 rc6] rfl rfl 35 #[.slice none 0 0, .slice none 0 0] Hg9.out.now (by kernel_rfl) rfl (by simp [Value.oneCell']) ?_
          have HON := hide (own_setRow HO6.out.now (own_blk_ne HO6.out.now Hg9.out.now (by decide)) #[.slice A6 q6 c6, .slice R6 r6 rc6])
          replace hHeld := Below.row (g := g9) hHeld g9ge #[.slice A6 q6 c6, .slice R6 r6 rc6]
          have HSg9 := hide (Hg9.out.now.row #[.slice A6 q6 c6, .slice R6 r6 rc6])
          obtain ⟨v5, hwn⟩ : ∃ w9, v4.setRow g9 #[.slice A6 q6 c6, .slice R6 r6 rc6] = w9 := ⟨_, rfl⟩
          rw [hwn] at hHeld HSg9 HON ⊢
          clear hwn Hg9 HCS HOW HO6
          refine hK.out _ _ hHeld (fun hHeld => ?_)
          clear hK K
          try simp only [Act.put, List.setIfInBounds_toArray]
          refine take_at (i := 14) 10 (v := .int .i64 ev) rfl rfl (by kernel_rfl) (by kernel_rfl) (by kernel_rfl) (fun _ _ _ h => h) (Or.inl ⟨by rfl, by intro w_ hSw; go_simp⟩) (by assumption) ?_
          try simp only [Act.put]
          refine wpAnyH_done (by kernel_rfl) ?_ _
          go_wp2_with fail
          go_meet
          exact ⟨g9, L6, q6, A6, c6, R6, r6, rc6, ev, rfl, rfl, HSg9.out, H64.out, Brs.of_own HON.out H64.out.1.symm, g9ge, hHeld⟩
      case rest =>
        obtain ⟨g9, L6, q6, A6, c6, R6, r6, rc6, ev, rfl, rfl, hB9, ⟨h61, h62, h64⟩, hbr6, hg9, hb9⟩ := hcut
        have HC := hide ((HQ.out.step hb9).and (stay_brs hbr6) |>.and (stay_blk hB9))
        have hbl := hide (Below.step hbel.out (Below.step hB1.out hb9))
        have hBL := hide (stay_below hbl.out)
        clear hb9 hbr6 hB9 HQ HAD HAD1 HBE1 HCP hB1 HB0 hbel hbl
        have m0 : wc.cell? ⟨g9, 0, none⟩ = some (.slice A6 q6 c6) := HC.out.now.2.cell 0
        rcases h64 with ⟨rfl, hok6⟩ | ⟨hev, hq0⟩
        · replace hok6 := hide hok6
          clear hok
          go_wp2_with fail
          go_at_call 12
          refine (copyBers L6 A6 c6 q6 _ h61 HC.out.now.1.2 (by omega)).mono ?_
          rintro e w7 ⟨A7, c7, rfl, ho7, hb⟩
          have hle7 := own_le ho7
          have hB7 := hide (stay_brs (Brs.of_own ho7 h61.symm))
          replace HC := hide (HC.out.step hb)
          replace hBL := hide (hBL.out.step hb)
          clear hb ho7 m0
          simp only []
          have s0 : w7.cell? ⟨w.heap.size, 0, none⟩ = some (.int .i64 B) := HC.out.now.1.1.1.1.1.1.cell 0
          have s1 : w7.cell? ⟨w.heap.size, 1, none⟩ = some (.int .i64 C) := HC.out.now.1.1.1.1.1.1.cell 1
          have s2 : w7.cell? ⟨w.heap.size, 2, none⟩ = some (.int .i64 P) := HC.out.now.1.1.1.1.1.1.cell 2
          have s3 : w7.cell? ⟨w.heap.size, 3, none⟩ = some (.slice A n c) := HC.out.now.1.1.1.1.1.1.cell 3
          go_wp2_with fail
          go_at_call 13
          refine (HBO.out L6 A7 c7 q6 _ h61 hok6.out hle7 HC.out.now.1.1.1.1.1.2 hB7.out.now).mono ?_
          rintro e w8 ⟨rfl, hb⟩
          replace hBL := hide (hBL.out.step hb)
          replace hB7 := hide (hB7.out.step hb)
          clear hb s0 s1 s2 s3 HC HBO
          simp only []
          go_wp2_with fail
          go_roundw
          case rel => exact ⟨k + 1, L6, q6, A7, c7, by omega, by go_num, rfl, ⟨h61, by omega, hle7⟩, hok6.out, hB7.out.now, hBL.out.now⟩
          case measure => simp [intOf]; omega
        · subst hq0
          have hBH := hide (stay_brs HC.out.now.1.1.2)
          have s0 : wc.cell? ⟨w.heap.size, 0, none⟩ = some (.int .i64 B) := HC.out.now.1.1.1.1.1.1.cell 0
          have s1 : wc.cell? ⟨w.heap.size, 1, none⟩ = some (.int .i64 C) := HC.out.now.1.1.1.1.1.1.cell 1
          have s2 : wc.cell? ⟨w.heap.size, 2, none⟩ = some (.int .i64 P) := HC.out.now.1.1.1.1.1.1.cell 2
          have s3 : wc.cell? ⟨w.heap.size, 3, none⟩ = some (.slice A n c) := HC.out.now.1.1.1.1.1.1.cell 3
          rcases hev with rfl | rfl | rfl
          · skip
            go_wp2_with fail
            go_at_call 13
            refine (HBO.out H Hd hc q _ hHq hok.out hqc HC.out.now.1.1.1.1.1.2 hBH.out.now).mono ?_
            rintro e w8 ⟨rfl, hb⟩
            replace hBL := hide (hBL.out.step hb)
            replace hBH := hide (hBH.out.step hb)
            clear hb s0 s1 s2 s3 HC HBO m0
            simp only []
            go_wp2_with fail
            go_roundw
            case rel => exact ⟨k + 1, H, q, Hd, hc, by omega, by go_num, rfl, ⟨hHq, by omega, hqc⟩, hok.out, hBH.out.now, hBL.out.now⟩
            case measure => simp [intOf]; omega
          · skip
            go_wp2_with fail
            go_at_call 13
            refine (HBO.out H Hd hc q _ hHq hok.out hqc HC.out.now.1.1.1.1.1.2 hBH.out.now).mono ?_
            rintro e w8 ⟨rfl, hb⟩
            replace hBL := hide (hBL.out.step hb)
            replace hBH := hide (hBH.out.step hb)
            clear hb s0 s1 s2 s3 HC HBO m0
            simp only []
            go_wp2_with fail
            go_roundw
            case rel => exact ⟨k + 1, H, q, Hd, hc, by omega, by go_num, rfl, ⟨hHq, by omega, hqc⟩, hok.out, hBH.out.now, hBL.out.now⟩
            case measure => simp [intOf]; omega
          · skip
            go_wp2_with fail
            go_at_call 13
            refine (HBO.out H Hd hc q _ hHq hok.out hqc HC.out.now.1.1.1.1.1.2 hBH.out.now).mono ?_
            rintro e w8 ⟨rfl, hb⟩
            replace hBL := hide (hBL.out.step hb)
            replace hBH := hide (hBH.out.step hb)
            clear hb s0 s1 s2 s3 HC HBO m0
            simp only []
            go_wp2_with fail
            go_roundw
            case rel => exact ⟨k + 1, H, q, Hd, hc, by omega, by go_num, rfl, ⟨hHq, by omega, hqc⟩, hok.out, hBH.out.now, hBL.out.now⟩
            case measure => simp [intOf]; omega
    · obtain rfl : m = k := by omega
      have hki : ¬ (m : Int) < (m : Int) := by omega
      clear HBE1 HAD1 HBO
      have hq6 : q ≤ 6 := by omega
      obtain ⟨wL, hwL⟩ : ∃ W, W = wr := ⟨_, rfl⟩
      rw [← hwL] at HQ hbel ⊢
      clear hwL
      have HQ0 := hide HQ.out.now.2
      go_wp2_with fail
      go_loopw [11, 12] (fun vr i wr => ∃ (t : Nat) (A9 : Option Addr) (c9 : Nat) (xs : List Value), t ≤ sn ∧ i = .int .i64 t ∧ vr = .slice A9 t c9 ∧ wr.ownsRow wL.heap.size 44 2 (.slice A9 t c9) t xs ∧ RowsA wr (.slice A9 t c9) xs t q (fun _ => leI H) (arI H) ∧ Below wL.heap.size wL wr) (fun _ i _ => sn - (intOf i).toNat)
      case atStart => exact ⟨0, none, 0, [], Nat.zero_le _, rfl, rfl, ⟨rfl, .inl ⟨rfl, rfl⟩⟩, fun j hj => absurd hj (by omega), Below.refl _ _⟩
      case round =>
        obtain ⟨t, A9, c9, xs, hts, rfl, rfl, hown, hrows, hb2⟩ := hrel
        replace hown := hide hown
        replace hrows := hide hrows
        replace hb2 := hide hb2
        by_cases hlt2 : t < sn
        · have hti : (t : Int) < (sn : Int) := by omega
          obtain ⟨V, hV⟩ : ∃ W, W = wr := ⟨_, rfl⟩
          rw [← hV] at hown hrows hb2 ⊢
          clear hV HFL HCP
          have hBV := hide (HQ0.out.bel hb2.out)
          go_wp2_with fail
          go_loopw [14] (fun i wr => ∃ (k : Nat) (A1 : Option Addr) (c1 : Nat) (A2 : Option Addr) (c2 : Nat), k ≤ q ∧ i = .int .i64 k ∧ Two V.heap.size V.heap.size #[.slice A1 k c1, .slice A2 k c2] (.slice A1 k c1) (.slice A2 k c2) k k (iv (lst k (leI H))) (iv (lst k (arI H t))) V wr) (fun i _ => q - (intOf i).toNat)
          case atStart => exact ⟨0, none, 0, none, 0, Nat.zero_le _, rfl, ⟨Blk.new V 44 #[.slice none 0 0, .slice none 0 0], ⟨rfl, .inl ⟨rfl, rfl⟩⟩, ⟨rfl, .inl ⟨rfl, rfl⟩⟩, fun j hj => by simp [Value.ownBlock] at hj, (Below.refl _ V).alloc (Nat.le_refl _) _, Nat.le_refl _⟩⟩
          case round =>
            obtain ⟨k, A1, c1, A2, c2, hkq, rfl, hTw⟩ := hrel
            replace hTw := hide hTw
            by_cases hlk : k < q
            · have hkH : k < H.length := by omega
              have hki2 : (k : Int) < (q : Int) := by omega
              obtain ⟨b, o, rfl, -, e1, -, -, -, e5, e6, e7, -⟩ := hBV.out.at_ k hkH
              have hle5 : leI H k = H[k].le := leI_eq hkH
              have har5 : arI H t k = arB H[k] t := arI_eq hkH
              have hbb : b < V.heap.size := lt_of_cell e5
              have u1 := (hTw.out.bel.cell hbb).trans e1
              have u6 := (hTw.out.bel.cell hbb).trans e6
              have u7 := (hTw.out.bel.cell hbb).trans e7
              obtain ⟨x, hx⟩ : ∃ x, H[k] = x := ⟨_, rfl⟩
              rw [hx] at hle5 har5 u1 u6 u7 e5
              replace har5 := hide har5
              replace hle5 := hide hle5
              replace e5 := hide e5
              clear e1 e6 e7 hx
              by_cases hk0' : x.kd = 0
              · have hkb : (x.kd == 0) = true := by simp [hk0']
                have hval : arB x t = 1000000 := by unfold arB; rw [if_pos hk0']
                replace hval := hide hval
                clear hk0'
                by_cases ht0 : t = 0
                · have htb : ((t : Int) == 0) = true := by simp [ht0]
                  clear ht0
                  go_wp2_with fail
                  refine ad31 _ (fun _ _ d _ _ h => by cases d <;> exact h) V.heap.size V.heap.size b o k q hc c1 c2 A1 A2 (iv (lst k (leI H))) (iv (lst k (arI H t))) x.le 1000000 V _ _ _ _ _ _ _ _ _ _ _ _ _ _ _ _ _ _ _ _ _ _ _ _ _ _ _ _ _ _ _ _ _ _ _ _ _ _ _ _ _ _ _ _ _ _ _ _ _ _ _ _ _ _ _ _ _ _ _ _ _ _ _ _ _ _ _ _ _ _ _ _ _ _ _ _ _ _ _ _ _ _ _ _ _ _ _ _ _ _ _ _ _ _ _ _ _ _ _ _ _ _ _ _ _ _ _ _ _ _ _ _ _ _ _ _ _ _ _ _ _ _ _ _ _ _ _ _ _ _ _ _ _ _ _ _ _ _ _ _ _ _ _ _ _ _ _ hTw.out e5.out hbb hki2 (by omega) (fun _ _ _ _ _ _ _ _ _ _ _ _ _ _ _ _ wx A3 c3 A4 c4 hT3 => ?_)
                  clear u1 u6 u7 hkb htb
                  go_wp2_with fail
                  exact ⟨⟨k + 1, A3, c3, A4, c4, by omega, by go_num, by rw [lst_succ, lst_succ, hle5.out, har5.out, hval.out]; exact hT3⟩, by simp [intOf]; omega⟩
                · have htb : ((t : Int) == 0) = false := by rw [beq_eq_false_iff_ne]; omega
                  clear ht0
                  go_wp2_with fail
                  refine ad31 _ (fun _ _ d _ _ h => by cases d <;> exact h) V.heap.size V.heap.size b o k q hc c1 c2 A1 A2 (iv (lst k (leI H))) (iv (lst k (arI H t))) x.le 1000000 V _ _ _ _ _ _ _ _ _ _ _ _ _ _ _ _ _ _ _ _ _ _ _ _ _ _ _ _ _ _ _ _ _ _ _ _ _ _ _ _ _ _ _ _ _ _ _ _ _ _ _ _ _ _ _ _ _ _ _ _ _ _ _ _ _ _ _ _ _ _ _ _ _ _ _ _ _ _ _ _ _ _ _ _ _ _ _ _ _ _ _ _ _ _ _ _ _ _ _ _ _ _ _ _ _ _ _ _ _ _ _ _ _ _ _ _ _ _ _ _ _ _ _ _ _ _ _ _ _ _ _ _ _ _ _ _ _ _ _ _ _ _ _ _ _ _ _ hTw.out e5.out hbb hki2 (by omega) (fun _ _ _ _ _ _ _ _ _ _ _ _ _ _ _ _ wx A3 c3 A4 c4 hT3 => ?_)
                  clear u1 u6 u7 hkb htb
                  go_wp2_with fail
                  exact ⟨⟨k + 1, A3, c3, A4, c4, by omega, by go_num, by rw [lst_succ, lst_succ, hle5.out, har5.out, hval.out]; exact hT3⟩, by simp [intOf]; omega⟩
              · have hkb : (x.kd == 0) = false := by rw [beq_eq_false_iff_ne]; exact hk0'
                by_cases ht0 : t = 0
                · have htb : ((t : Int) == 0) = true := by simp [ht0]
                  have hval : arB x t = x.bu := by unfold arB; rw [if_neg hk0', if_pos ht0]
                  replace hval := hide hval
                  clear ht0 hk0'
                  go_wp2_with fail
                  refine ad31 _ (fun _ _ d _ _ h => by cases d <;> exact h) V.heap.size V.heap.size b o k q hc c1 c2 A1 A2 (iv (lst k (leI H))) (iv (lst k (arI H t))) x.le (x.bu) V _ _ _ _ _ _ _ _ _ _ _ _ _ _ _ _ _ _ _ _ _ _ _ _ _ _ _ _ _ _ _ _ _ _ _ _ _ _ _ _ _ _ _ _ _ _ _ _ _ _ _ _ _ _ _ _ _ _ _ _ _ _ _ _ _ _ _ _ _ _ _ _ _ _ _ _ _ _ _ _ _ _ _ _ _ _ _ _ _ _ _ _ _ _ _ _ _ _ _ _ _ _ _ _ _ _ _ _ _ _ _ _ _ _ _ _ _ _ _ _ _ _ _ _ _ _ _ _ _ _ _ _ _ _ _ _ _ _ _ _ _ _ _ _ _ _ _ hTw.out e5.out hbb hki2 (by omega) (fun _ _ _ _ _ _ _ _ _ _ _ _ _ _ _ _ wx A3 c3 A4 c4 hT3 => ?_)
                  clear u1 u6 u7 hkb htb
                  go_wp2_with fail
                  exact ⟨⟨k + 1, A3, c3, A4, c4, by omega, by go_num, by rw [lst_succ, lst_succ, hle5.out, har5.out, hval.out]; exact hT3⟩, by simp [intOf]; omega⟩
                · have htb : ((t : Int) == 0) = false := by rw [beq_eq_false_iff_ne]; omega
                  have hval : arB x t = x.ra := by unfold arB; rw [if_neg hk0', if_neg ht0]
                  replace hval := hide hval
                  clear ht0 hk0'
                  go_wp2_with fail
                  refine ad31 _ (fun _ _ d _ _ h => by cases d <;> exact h) V.heap.size V.heap.size b o k q hc c1 c2 A1 A2 (iv (lst k (leI H))) (iv (lst k (arI H t))) x.le (x.ra) V _ _ _ _ _ _ _ _ _ _ _ _ _ _ _ _ _ _ _ _ _ _ _ _ _ _ _ _ _ _ _ _ _ _ _ _ _ _ _ _ _ _ _ _ _ _ _ _ _ _ _ _ _ _ _ _ _ _ _ _ _ _ _ _ _ _ _ _ _ _ _ _ _ _ _ _ _ _ _ _ _ _ _ _ _ _ _ _ _ _ _ _ _ _ _ _ _ _ _ _ _ _ _ _ _ _ _ _ _ _ _ _ _ _ _ _ _ _ _ _ _ _ _ _ _ _ _ _ _ _ _ _ _ _ _ _ _ _ _ _ _ _ _ _ _ _ _ hTw.out e5.out hbb hki2 (by omega) (fun _ _ _ _ _ _ _ _ _ _ _ _ _ _ _ _ wx A3 c3 A4 c4 hT3 => ?_)
                  clear u1 u6 u7 hkb htb
                  go_wp2_with fail
                  exact ⟨⟨k + 1, A3, c3, A4, c4, by omega, by go_num, by rw [lst_succ, lst_succ, hle5.out, har5.out, hval.out]; exact hT3⟩, by simp [intOf]; omega⟩
            · obtain rfl : k = q := by omega
              have hki2 : ¬ (k : Int) < (k : Int) := by omega
              have t0 : wr.cell? ⟨V.heap.size, 0, none⟩ = some (.slice A1 k c1) := hTw.out.slot.cell 0
              have t1 : wr.cell? ⟨V.heap.size, 1, none⟩ = some (.slice A2 k c2) := hTw.out.slot.cell 1
              have hbV := hTw.out.bel
              have hbA : Below V.heap.size V (wr.alloc (.cells #[.slice A1 k c1, .slice A2 k c2] 44)) := hbV.alloc hbV.size _
              have hownA := own_bel hown.out hbA
              have hrowsA := rowsA_bel hrows.out hbA
              have hrowA := (row_lst hTw.out.own1 hTw.out.own2).bel ((Below.refl _ wr).alloc (Nat.le_refl _) (.cells #[.slice A1 k c1, .slice A2 k c2] 44))
              have hfar1 := hide (fun b o (e : A1 = some ⟨b, o, none⟩) => own_base hTw.out.own1 e)
              have hfar2 := hide (fun b o (e : A2 = some ⟨b, o, none⟩) => own_base hTw.out.own2 e)
              have hltv := hide (fun j (e : Value.ownBlock (.slice A9 t c9) = some j) => (hown.out.lt j e).2)
              have hlen := hown.out.1
              have hsz2 : wL.heap.size ≤ V.heap.size := hb2.out.size
              replace hbA := hide hbA
              replace hownA := hide hownA
              replace hrowsA := hide hrowsA
              replace hrowA := hide hrowA
              replace hlen := hide hlen
              go_wp2_with (at_builtin; refine wpList_append_any _ rfl (.tmp 134) (.tmp 136) 42 rfl wL.heap.size 44 i3 _ 2 48 Try.underlying42 hk0 hx0 hx1 hx2 rfl (by omega) (.slice A9 t c9) t xs rfl hownA.out (wr.heap.size + 1) (some ⟨wr.heap.size, 0, none⟩) 1 1 [.slice A1 k c1, .slice A2 k c2] rfl (reads_two wr _ _ _ rfl) (by simp [Value.oneCell']) (by simp only [maxLen]; omega) (by omega) (Nat.le_trans hsz2 hbA.out.size) ?_; intro v9 w9 hown9 hgrow hat; obtain ⟨A10, c10, rfl⟩ := own_form hown9; have HO10 := hide hown9; have HR10 := hide (rowsA_snoc (r := c1) (q := c2) hrowsA.out hlen.out hrowA.out (fun _ b o e e2 => by have h3 := hfar1.out b o e; have h4 := hltv.out b e2; omega) (fun _ b o e e2 => by have h3 := hfar2.out b o e; have h4 := hltv.out b e2; omega) hgrow hat); have HB10 := hide ((hb2.out.trans (hbA.out.mono hsz2)).grown hgrow (Nat.le_trans hsz2 hbA.out.size) (fun j hj => (hown.out.lt j hj).1)); clear hown9 hgrow hat)
              exact ⟨⟨t + 1, A10, c10, _, by omega, by go_num, rfl, HO10.out, HR10.out, HB10.out⟩, by simp [intOf]; omega⟩
        · obtain rfl : t = sn := by omega
          have hti : ¬ (t : Int) < (t : Int) := by omega
          have hSA := hide (rowsA_slots hown.out hrows.out)
          have HX := hide ((HQ.out.step hb2.out).and (stay_slotsAll hSA.out))
          clear hown hrows hSA HQ0
          have s0 : wr.cell? ⟨w.heap.size, 0, none⟩ = some (.int .i64 B) := HX.out.now.1.1.1.1.1.cell 0
          have s1 : wr.cell? ⟨w.heap.size, 1, none⟩ = some (.int .i64 C) := HX.out.now.1.1.1.1.1.cell 1
          have s2 : wr.cell? ⟨w.heap.size, 2, none⟩ = some (.int .i64 P) := HX.out.now.1.1.1.1.1.cell 2
          have s3 : wr.cell? ⟨w.heap.size, 3, none⟩ = some (.slice A n c) := HX.out.now.1.1.1.1.1.cell 3
          go_wp2_with fail
          go_at_call 11
          refine (HCP.out _ HX.out.now.1.1.1.1.2).mono ?_
          rintro e w4 ⟨A1, c1, rfl, hcs, hb⟩
          replace HX := hide ((HX.out.step hb).and (stay_sl hcs))
          clear hb hcs s0 s1 s2 s3 HCP
          simp only []
          go_wp2_with fail
          go_at_call 12
          refine (copyBers H Hd hc q _ hHq HX.out.now.1.1.2 (by omega)).mono ?_
          rintro e w5 ⟨A5, c5, rfl, ho5, hb⟩
          have hle5 := own_le ho5
          replace HX := hide ((HX.out.step hb).and (stay_brs (Brs.of_own ho5 hHq.symm)))
          clear hb ho5
          simp only []
          go_wp2_with fail
          go_at_call 15
          refine (copySlots_all A9 c9 t q _ _ _ HX.out.now.1.1.2 (by omega) (by omega)).mono ?_
          rintro e w6 ⟨A6, c6, rfl, hsl6, hb⟩
          replace HX := hide ((HX.out.step hb).and (stay_slotsAll hsl6))
          clear hb hsl6
          simp only []
          go_wp2_with fail
          go_at_call 14
          refine (HFL.out H A1 c1 A5 c5 q A6 c6 _ hHq hok.out hle5 HX.out.now.1.1.2 HX.out.now.1.2 HX.out.now.2).mono ?_
          rintro e w7 ⟨rfl, hb⟩
          replace HX := hide (HX.out.step hb)
          clear hb HFL
          simp only []
          go_wp2_with (refine wpList_store_row rfl 45 (.tmp 16) (.tmp 146) rfl w7.heap.size #[.int .i64 0, .int .i64 0] rfl rfl 45 #[.int .i64 0, .int .i64 0] (Blk.new w7 45 #[.int .i64 0, .int .i64 0]) (by kernel_rfl) rfl (by simp [Value.oneCell']) ?_)
          go_ret
          exact ⟨rfl, Below.row (g := w7.heap.size) (HX.out.now.1.1.1.1.1.2.alloc HX.out.now.1.1.1.1.1.2.size (.cells #[.int .i64 0, .int .i64 0] 45)) HX.out.now.1.1.1.1.1.2.size #[.int .i64 0, .int .i64 0]⟩
end Go.Proofs.Ytppkibgemacdbaa
