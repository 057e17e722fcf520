import Derived.Test.YtppkibgemacdbaaMge
namespace Go.Proofs.Ytppkibgemacdbaa
open Go.RowKit Go.WideShapes Go.ChangeShapes

/-! FirstLate of a list of bearers: none is late -/
def leI (L : List Ber) (i : Nat) : Int := match L[i]? with | some x => x.le | none => 0
def arI (L : List Ber) (t i : Nat) : Int := match L[i]? with | some x => arB x t | none => 0
theorem leI_eq {L : List Ber} {i : Nat} (h : i < L.length) : leI L i = L[i].le := by simp [leI, h]
theorem arI_eq {L : List Ber} {t i : Nat} (h : i < L.length) : arI L t i = arB L[i] t := by simp [arI, h]
theorem leI_bd {T : List Int} {L : List Ber} (hT : 0 < T.length) (hok : ∀ x ∈ L, OkR T x) (i : Nat) (h : i < L.length) : 0 ≤ leI L i ∧ leI L i < (T.length : Int) := by
  rw [leI_eq h]
  have hx := hok _ (List.getElem_mem h)
  by_cases hk : L[i].kd = 0
  · have := OkB.best hx hk; omega
  · have := OkB.sure hx hk; omega
theorem arI_bd {T : List Int} {L : List Ber} (hok : ∀ x ∈ L, OkR T x) (t i : Nat) (h : i < L.length) : 0 ≤ arI L t i ∧ arI L t i ≤ 1000000 := by
  rw [arI_eq h]
  have hb := okR_bd (hok _ (List.getElem_mem h))
  unfold arB
  split
  · omega
  · split <;> omega
theorem okR_tb {B C P : Int} {T : List Int} {x : Ber} (hs2 : OkS B C P T) (h : OkR T x) (hk : x.kd ≠ 0) : 0 < tbO T x.le ∧ 1 ≤ x.de := by
  have h1 := OkB.sure h hk
  have h2 := tb_ok hs2 h hk
  exact ⟨h2.1, by omega⟩
def SlotLt (T : List Int) (L : List Ber) (Us : List Nat) (t m : Nat) (w : World) (e : Ending) (w' : World) : Prop := ∃ A c S', e = .returned (.slice A m c) ∧ UsrAt w' Us S' ∧ GrowU Us w w' ∧ LateI T L (t + 1) S' ∧ ∀ s ∈ S', OkU s
theorem slot_late (B C P : Int) (ab ao c n : Nat) (T : List Int) (L : List Ber) (p R : Nat) (D : Option Addr) (c' : Nat) (Us : List Nat) (S : List Usr) (RA QA : Option Addr) (r q t : Nat) (w W : World) (hn : T.length = n) (hp : L.length = p) (hs2 : OkS B C P T) (hL : OkL B C P T L)
    (hs : Sl w (some ⟨ab, ao, none⟩) (iv T)) (hsW : Sl W (some ⟨ab, ao, none⟩) (iv T)) (hR : Blk W R 93 #[.int .i64 B, .int .i64 C, .int .i64 P, .slice (some ⟨ab, ao, none⟩) n c, .slice D p c']) (hD : Sl W D (Us.map ptrV)) (hU : UsrAt W Us S)
    (hRU : R ∉ Us) (hDU : ∀ b off, D = some ⟨b, off, none⟩ → b ∉ Us) (hUw : ∀ u ∈ Us, w.heap.size ≤ u) (hr0 : RowAt w RA QA p (leI L) (arI L t)) (hr : RowAt W RA QA p (leI L) (arI L t)) (hi : LateI T L t S) (hok : ∀ s ∈ S, OkU s) (ht : t ≤ 60) :
    Calls Try.prog 37 #[.pointer (some ⟨R, 0, none⟩), .agg #[.slice RA p r, .slice QA p q]] W (SlotLt T L Us t p W) := by
  have hT : ∀ i (h : i < T.length), 0 ≤ T[i] ∧ T[i] ≤ 1000 := fun i h => hs2.in_ i h
  have habU : ab ∉ Us := fun h => by
    obtain ⟨b, o, e, hc⟩ := hs 0 (by simpa [iv] using hs2.pos)
    injection e with e
    injection e with e5 e6
    subst e5
    have h1 := hUw _ h
    have h2 := lt_of_cell hc
    omega
  have hrep := rep_of (rs := leI L) (ars := arI L t) hsW hn hr0 hr hUw (fun i h => by rw [← hn]; exact leI_bd hs2.pos hL.ok i (by omega)) (fun i h => arI_bd hL.ok t i (by omega)) hT
  have hfit := hL.fit
  simp only [fitL, Bool.and_eq_true, decide_eq_true_eq] at hfit
  have b1 := hs2.b
  have b2 := hs2.c
  have b3 := hs2.p
  refine (slot_all B C P ab ao c n R D p c' Us S RA QA r q (fun i => tbO T (leI L i)) (fun i => arI L t i) W (hi.1.trans hp) (by have := hL.few; omega) hR hD hU hRU hDU habU hrep hok (late_se hi hL.ok ht) (by rw [late_sum hi]; exact hfit.1.1) (by omega) (by omega) (by omega)).mono ?_
  rintro e w' ⟨A, c1, S', rfl, h1, h2, h3, h4, -, h5⟩
  refine ⟨A, c1, S', rfl, h1, h2, late_succ (tbs := fun i => tbO T (leI L i)) (ars := fun i => arI L t i) hi h3 h5 (fun j h _ => by show tbO T (leI L j) = _; rw [leI_eq h]) (fun j h => arI_eq h) (fun j h hk => (okR_tb hs2 (hL.ok _ (List.getElem_mem h)) hk).1), h4⟩
set_option maxRecDepth 100000 in
set_option maxHeartbeats 16000000 in
theorem firstLate_all (B C P : Int) (A : Option Addr) (c n : Nat) (T : List Int) (L : List Ber) (E : Option Addr) (d p : Nat) (D : Option Addr) (dd m : Nat) (w : World) (hn : T.length = n) (hp : L.length = p) (hs : Sl w A (iv T)) (hs2 : OkS B C P T) (hL : OkL B C P T L) (hpd : p ≤ d) (hE : Brs w E L) (hsl : SlotsAll w D m p (fun _ => leI L) (arI L)) (hm : m ≤ 12) :
    Calls Try.prog 14 #[.agg #[.int .i64 B, .int .i64 C, .int .i64 P, .slice A n c], .slice E p d, .slice D m dd] w fun e w' => e = .returned (.tuple #[.agg #[.int .i64 0, .int .i64 0], .int .i64 12]) ∧ Below w.heap.size w w' := by
  have hle : ∀ k i, k < m → i < p → 0 ≤ leI L i ∧ leI L i < (n : Int) := fun _ i _ h => by rw [← hn]; exact leI_bd hs2.pos hL.ok i (by omega)
  have har : ∀ k i, k < m → i < p → 0 ≤ arI L k i ∧ arI L k i ≤ 1000000 := fun k i _ h => arI_bd hL.ok k i (by omega)
  have hp8 : p ≤ 8 := by have := hL.few; omega
  obtain ⟨ab, ao, hA, -⟩ := hs 0 (by simpa [iv] using hs2.pos)
  have HSLT := hide (fun R D' c' Us S RA QA r q t W k3 k4 k5 k6 k7 k8 k9 k10 k11 k12 k13 k14 => slot_late B C P ab ao c n T L p R D' c' Us S RA QA r q t w W hn hp hs2 hL (hA ▸ hs) k3 k4 k5 k6 k7 k8 k9 k10 k11 k12 k13 k14)
  replace hA := hide hA
  have HOR := hide (fun W k k2 k3 => openRun_all B C P A c n T L E d p D dd m (fun _ => leI L) (arI L) W hn hp k hs2 hL hpd k2 k3 (by omega) hle har)
  have HT := hide (((stay_sl hs).and (stay_brs hE)).and (stay_slotsAll hsl))
  have hFX := hide (Blk.new w 24 #[.int .i64 B, .int .i64 C, .int .i64 P, .slice A n c])
  have HG := hide (fun (x : Ber) W => guaranteed_sched x.nm x.kd x.pr x.wt x.pw x.le x.bu x.ra x.de W)
  replace hsl := hide hsl
  replace hL := hide hL
  replace hle := hide hle
  replace har := hide har
  go_enter Try.func14, Try.ntmps14
  go_wp2_with fail
  obtain ⟨W0, hW0⟩ : ∃ W0, (w.alloc (.cells #[.int .i64 B, .int .i64 C, .int .i64 P, .slice A n c] 24)).alloc (.cells #[.int .i64 0, .int .i64 0] 45) = W0 := ⟨_, rfl⟩
  have hB0 : Hid (Below w.heap.size w W0) := hide (hW0 ▸ ((Below.refl _ w).alloc (Nat.le_refl _) (.cells #[.int .i64 B, .int .i64 C, .int .i64 P, .slice A n c] 24)).alloc (by simp) (.cells #[.int .i64 0, .int .i64 0] 45))
  have hF0 : Hid (Blk W0 w.heap.size 24 #[.int .i64 B, .int .i64 C, .int .i64 P, .slice A n c]) := hide (hW0 ▸ hFX.out.alloc (.cells #[.int .i64 0, .int .i64 0] 45))
  have hZ0 : Hid (Blk W0 (w.heap.size + 1) 45 #[.int .i64 0, .int .i64 0]) := hide (hW0 ▸ by simpa using Blk.new (w.alloc (.cells #[.int .i64 B, .int .i64 C, .int .i64 P, .slice A n c] 24)) 45 #[.int .i64 0, .int .i64 0])
  rw [hW0]
  refine (HOR.out W0 (HT.out W0 hB0.out).1.1 (HT.out W0 hB0.out).1.2 (HT.out W0 hB0.out).2).mono ?_
  rintro e w1 ⟨R, D', c', Us, rfl, hR, hD, hU, hRU, hDU, hUw0, hRw, hb⟩
  simp only []
  go_wp2_with fail
  have hl0 : w.heap.size ≤ w1.heap.size := Nat.le_trans hB0.out.size hb.size
  have hUw : ∀ u ∈ Us, w.heap.size ≤ u := fun u h => Nat.le_trans hB0.out.size (hUw0 u h)
  have hZU : w.heap.size + 1 ∉ Us := fun h => by have h1 := hUw0 _ h; have h2 := hZ0.out.lt; omega
  have hZ1 := hide (hZ0.out.below hb hZ0.out.lt)
  have hB1 := hide (hB0.out.trans (hb.mono hB0.out.size))
  have HK := hide (fun W (g : GrowU Us w1 W) => And.intro (HT.out W (GrowU.below hB1.out g hUw hl0)) (GrowU.below hB1.out g hUw hl0))
  have HRD := hide (((butL_blk hR hRU).and (butL_sl hD hDU)).and (butL_blk hZ1.out hZU))
  replace hDU := hide hDU
  replace hUw := hide hUw
  clear HT HOR hFX hF0 hB1 hB0 hD hR hW0 hZ0 hZ1 hUw0
  go_loopw [29] (fun i wr => ∃ (t : Nat) (S : List Usr), t ≤ m ∧ i = .int .i64 t ∧ GrowU Us w1 wr ∧ UsrAt wr Us S ∧ LateI T L t S ∧ ∀ s ∈ S, OkU s) (fun i _ => m - (intOf i).toNat)
  case atStart => exact ⟨0, _, Nat.zero_le _, rfl, GrowU.refl _ _, hU, late_zero T L, new_ok hs2 hL.out.ok⟩
  case round =>
    obtain ⟨t, S, htm, rfl, hg, hu, hlate, hok⟩ := hrel
    clear hU
    replace hg := hide hg
    replace hu := hide hu
    replace hlate := hide hlate
    replace hok := hide hok
    by_cases hlt : t < m
    · have hti : (t : Int) < (m : Int) := by omega
      have hk := hide (HK.out _ hg.out)
      obtain ⟨b, o, RA, r, QA, q, hDe, h2, h3, h4⟩ := hsl.out t hlt
      have g2 := (hk.out.2.cell (lt_of_cell h2)).trans h2
      have g3 := (hk.out.2.cell (lt_of_cell h3)).trans h3
      replace h4 := hide h4
      clear h2 h3
      subst hDe
      go_wp2_with fail
      obtain ⟨W2, hW2⟩ : ∃ W2, wr.alloc (.cells #[.slice RA p r, .slice QA p q] 44) = W2 := ⟨_, rfl⟩
      have hbW : Below wr.heap.size wr W2 := hW2 ▸ (Below.refl _ wr).alloc (Nat.le_refl _) (.cells #[.slice RA p r, .slice QA p q] 44)
      have hg1 := hide (hg.out.trans (GrowU.bel hbW))
      have hu1 := hide (hu.out.bel hbW)
      rw [hW2]
      clear hW2 hbW g2 g3 hg hu hk
      have hk := hide (HK.out _ hg1.out)
      have hrd := hide (HRD.out _ hg1.out)
      refine (HSLT.out R D' c' Us S RA QA r q t W2 (hA.out ▸ hk.out.1.1.1) (hA.out ▸ hrd.out.1.1) hrd.out.1.2 hu1.out hRU hDU.out hUw.out h4.out (fun i hi => ?_) hlate.out hok.out (by omega)).mono ?_
      · obtain ⟨rb, ro, qb, qo, e1, e2, e3, e4⟩ := h4.out i hi
        exact ⟨rb, ro, qb, qo, e1, e2, (hk.out.2.cell (lt_of_cell e3)).trans e3, (hk.out.2.cell (lt_of_cell e4)).trans e4⟩
      rintro e w2 ⟨A2, c2, S2, rfl, hu2, hg2, hlate2, hok2⟩
      replace hg2 := hide (hg1.out.trans hg2)
      replace hlate2 := hide hlate2
      replace hok2 := hide hok2
      clear HSLT hk hrd hu1 hg1 hlate hok h4
      have hS2 : S2.length = p := hlate2.out.1.trans hp
      have hUS2 : Us.length = p := by rw [hu2.1]; exact hS2
      have r4 : w2.cell? ⟨R, 4, none⟩ = some (.slice D' p c') := (HRD.out _ hg2.out).1.1.cell 4
      simp only []
      go_wp2_with fail
      clear r4
      go_loopw [42] (fun i wz => ∃ k : Nat, k ≤ p ∧ i = .int .i64 k ∧ GrowU Us w1 wz ∧ UsrAt wz Us S2) (fun i _ => p - (intOf i).toNat)
      case atStart => exact ⟨0, Nat.zero_le _, rfl, hg2.out, hu2⟩
      case round =>
        obtain ⟨k, hkp, rfl, hg3, hu3⟩ := hrel
        clear hu2 hg2
        replace hg3 := hide hg3
        replace hu3 := hide hu3
        by_cases hlk : k < p
        · have hki : (k : Int) < (p : Int) := by omega
          have hkU : k < Us.length := by omega
          have hkS : k < S2.length := by omega
          have hkL : k < L.length := by omega
          have hkr := hide (HK.out _ hg3.out)
          have hrd := hide (HRD.out _ hg3.out)
          obtain ⟨V, vo, rfl, v0⟩ := sl_ptr hrd.out.1.2 k hkU
          have hBU := hu3.out.2.2 k hkS hkU
          obtain ⟨q1, q2, q3, q4, q5, q6⟩ := hlate2.out.2 k hkL hkS
          have hmemL : L[k] ∈ L := List.getElem_mem hkL
          have hox := hL.out.ok _ hmemL
          have hbd := okR_bd hox
          have hdue := hide (fun hk hp hd hr i hij => late_due hlate2.out k hkL hkS hk hp hd hr i hij)
          have hse0 : 0 ≤ S2[k].se := q5
          have hkd : (0 : Int) ≤ S2[k].x.de ∧ S2[k].x.de ≤ 1000 := by
            rw [q1]
            by_cases e : L[k].kd = 0
            · have := OkB.best hox e; omega
            · have := OkB.sure hox e; omega
          have hsure := hide (fun (e : S2[k].x.kd ≠ 0) => show (1 ≤ S2[k].x.de) ∧ 0 < tbO T S2[k].x.le ∧ 0 ≤ S2[k].x.ra from by
            rw [q1] at e ⊢
            have h1 := okR_tb hs2 hox e
            exact ⟨h1.2, h1.1, hbd.2.1⟩)
          have hsum := hide (fun z => sumB_le (x := L[k]) hbd.1 hbd.2 z)
          have hari := hide (fun z => arI_eq (L := L) (t := z) hkL)
          rw [← q1] at hdue hbd hsum hari
          obtain ⟨s, hs'⟩ : ∃ s, S2[k] = s := ⟨_, rfl⟩
          obtain ⟨U, hUk⟩ : ∃ U, Us[k] = U := ⟨_, rfl⟩
          rw [hs'] at hBU hse0 hkd hsure hdue hbd hsum hari
          rw [hUk] at hBU v0
          replace hBU := hide hBU
          have HGs := hide (HG.out s.x)
          obtain ⟨kb, hkb⟩ : ∃ z, (!(s.x.kd == 0)) = z := ⟨_, rfl⟩
          rw [hkb] at HGs
          replace hkb := hide hkb
          clear q1 q2 q3 q4 q5 q6 hs' hUk hmemL hox hrd hkr
          have u0 : wr.cell? ⟨U, 0, none⟩ = some (strV s.x.nm) := hBU.out.cell 0
          have u1 : wr.cell? ⟨U, 1, none⟩ = some (.int .i64 s.x.kd) := hBU.out.cell 1
          have u2 : wr.cell? ⟨U, 2, none⟩ = some (.int .i64 s.x.pr) := hBU.out.cell 2
          have u3 : wr.cell? ⟨U, 3, none⟩ = some (.int .i64 s.x.wt) := hBU.out.cell 3
          have u4 : wr.cell? ⟨U, 4, none⟩ = some (.int .i64 s.x.pw) := hBU.out.cell 4
          have u5 : wr.cell? ⟨U, 5, none⟩ = some (.int .i64 s.x.le) := hBU.out.cell 5
          have u6 : wr.cell? ⟨U, 6, none⟩ = some (.int .i64 s.x.bu) := hBU.out.cell 6
          have u7 : wr.cell? ⟨U, 7, none⟩ = some (.int .i64 s.x.ra) := hBU.out.cell 7
          have u8 : wr.cell? ⟨U, 8, none⟩ = some (.int .i64 s.x.de) := hBU.out.cell 8
          cases kb
          · go_wp2_with (go_at_call 38; go_must (refine (HGs.out _).mono ?_; rintro e w3 ⟨rfl, hb⟩; have hg4 := hide (hg3.out.trans (GrowU.bel hb)); have hu4 := hide (hu3.out.bel hb); have hB4 := hide (hBU.out.below hb hBU.out.lt); clear hb u0 u1 u2 u3 u4 u5 u6 u7 u8; have u8 : w3.cell? ⟨U, 8, none⟩ = some (.int .i64 s.x.de) := hB4.out.cell 8; have u11 : w3.cell? ⟨U, 11, none⟩ = some (.int .i64 s.se) := hB4.out.cell 11; simp only []))
            exact ⟨⟨k + 1, by omega, by go_num, hg4.out, hu4.out⟩, by simp [intOf]; omega⟩
          · have hk0 : s.x.kd ≠ 0 := by intro e; have h := hkb.out; rw [e] at h; simp at h
            obtain ⟨hde1, htb, hra⟩ := hsure.out hk0
            have hduek := hide (hdue.out hk0 htb hde1 hra)
            clear hsure hdue hkb htb
            go_wp2_with (go_at_call 38; go_must (refine (HGs.out _).mono ?_; rintro e w3 ⟨rfl, hb⟩; have hg4 := hide (hg3.out.trans (GrowU.bel hb)); have hu4 := hide (hu3.out.bel hb); have hB4 := hide (hBU.out.below hb hBU.out.lt); clear hb u0 u1 u2 u3 u4 u5 u6 u7 u8; have u8 : w3.cell? ⟨U, 8, none⟩ = some (.int .i64 s.x.de) := hB4.out.cell 8; have u11 : w3.cell? ⟨U, 11, none⟩ = some (.int .i64 s.se) := hB4.out.cell 11; simp only []))
            clear u8 u11 hu3 hg3 HGs hBU HG hle har v0
            go_loopw [14, 15] (fun v i wz => ∃ z : Nat, z ≤ t + 1 ∧ ((z : Int) ≤ (t : Int) + 2 - s.x.de ∨ z = 0) ∧ v = .int .i64 (sumB s.x z) ∧ i = .int .i64 z ∧ w3 = wz) (fun _ i _ => t + 2 - (intOf i).toNat)
            case atStart => exact ⟨0, by omega, .inr rfl, rfl, rfl, rfl⟩
            case round =>
              obtain ⟨z, hz1, hz2, rfl, rfl, rfl⟩ := hrel
              have hse := hide (show ¬ (z : Int) ≤ (t : Int) + 1 - s.x.de → sumB s.x z ≤ s.se from fun hc => by
                cases z with
                | zero => simpa [sumB] using hse0
                | succ z => exact hduek.out z (by rcases hz2 with h | h <;> omega))
              have hss := hsum.out z
              have har' := hari.out z
              have hs1 : sumB s.x (z + 1) = sumB s.x z + arB s.x z := rfl
              have hab : 0 ≤ arB s.x z ∧ arB s.x z ≤ 1000000 := by
                unfold arB
                split
                · omega
                · split <;> omega
              have u8 : w3.cell? ⟨U, 8, none⟩ = some (.int .i64 s.x.de) := hB4.out.cell 8
              have u11 : w3.cell? ⟨U, 11, none⟩ = some (.int .i64 s.se) := hB4.out.cell 11
              have hq1 : IntKind.i64.wrap ((t : Int) + 1) = (t : Int) + 1 := IntWalk.i64_in _ (by omega)
              have hq2 : IntKind.i64.wrap ((t : Int) + 1 - s.x.de) = (t : Int) + 1 - s.x.de := IntWalk.i64_in _ (by omega)
              by_cases hzc : (z : Int) ≤ (t : Int) + 1 - s.x.de
              · have hzm : z < m := by omega
                have hzi : (z : Int) < (m : Int) := by omega
                obtain ⟨bz, oz, RA', r', QA', q', e, h2, h3, h4⟩ := hsl.out z hzm
                injection e with e
                injection e with e1 e2
                subst e1 e2
                obtain ⟨rb, ro, qb, qo, -, e2, -, h5⟩ := h4 k hlk
                subst e2
                have hkw := (HK.out _ hg4.out).2
                have g3 := (hkw.cell (lt_of_cell h3)).trans h3
                have g5 := (hkw.cell (lt_of_cell h5)).trans h5
                rw [har'] at g5
                obtain ⟨sz, hsz⟩ : ∃ x, sumB s.x z = x := ⟨_, rfl⟩
                obtain ⟨az, haz⟩ : ∃ x, arB s.x z = x := ⟨_, rfl⟩
                rw [hsz] at hs1 hss ⊢
                rw [haz] at hs1 hab g5
                have hq3 : IntKind.i64.wrap (sz + az) = sz + az := IntWalk.i64_in _ (by omega)
                replace hs1 := hide hs1
                clear h2 h3 h4 h5 hkw hse hsz haz har'
                go_wp2_with fail
                exact ⟨⟨z + 1, by omega, .inl (by omega), by rw [hs1.out], by go_num, trivial⟩, by simp [intOf]; omega⟩
              · have hle' := hse.out hzc
                obtain ⟨sz, hsz⟩ : ∃ x, sumB s.x z = x := ⟨_, rfl⟩
                rw [hsz] at hle' ⊢
                have hnl : ¬ s.se < sz := by omega
                clear hsz hse har' hs1
                go_wp2_with fail
                exact ⟨⟨k + 1, by omega, by go_num, hg4.out, hu4.out⟩, by simp [intOf]; omega⟩
        · obtain rfl : p = k := by omega
          have hki : ¬ (p : Int) < (p : Int) := by omega
          have hg4 := hg3.out
          have hu4 := hu3.out
          go_wp2_with fail
          exact ⟨⟨t + 1, S2, by omega, by go_num, hg3.out, hu3.out, hlate2.out, hok2.out⟩, by simp [intOf]; omega⟩
    · obtain rfl : m = t := by omega
      have hti : ¬ (m : Int) < (m : Int) := by omega
      have hZ := (HRD.out _ hg.out).2
      have hbz := (HK.out _ hg.out).2
      go_wp2_with (refine wpList_store_row rfl 45 (.tmp 6) (.tmp 86) rfl (w.heap.size + 1) #[.int .i64 0, .int .i64 0] rfl rfl 45 #[.int .i64 0, .int .i64 0] hZ (by kernel_rfl) rfl (by simp [Value.oneCell']) ?_)
      exact bodyPost_ret (results_row_tmp rfl _ _ (w.heap.size + 1) 45 #[.int .i64 0, .int .i64 0] _ (.int .i64 12) rfl rfl (hZ.row _) Try.underlying45 rfl (by kernel_rfl)) rfl ⟨rfl, Below.row hbz (by omega) _⟩
end Go.Proofs.Ytppkibgemacdbaa
