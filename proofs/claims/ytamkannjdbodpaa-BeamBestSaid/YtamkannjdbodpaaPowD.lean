import Derived.Test.YtamkannjdbodpaaPowB
import Derived.Test.YtamkannjdbodpaaChS
namespace Go.Proofs.Ytamkannjdbodpaa
open Go.RowKit Go.WideShapes Go.ChangeShapes

/-! what stays so in every later world -/
def Stay (w : World) (P : World → Prop) : Prop := ∀ W, Below w.heap.size w W → P W
theorem Stay.now {w : World} {P : World → Prop} (h : Stay w P) : P w := h w (Below.refl _ _)
theorem Stay.step {w w' : World} {P : World → Prop} (h : Stay w P) (hb : Below w.heap.size w w') : Stay w' P := fun W hW => h W (Below.step hb hW)
theorem Stay.alloc {w : World} {P : World → Prop} (h : Stay w P) (o : Obj) : Stay (w.alloc o) P := h.step ((Below.refl _ _).alloc (Nat.le_refl _) o)
theorem Stay.and {w : World} {P Q : World → Prop} (h : Stay w P) (h' : Stay w Q) : Stay w (fun W => P W ∧ Q W) := fun W hW => ⟨h W hW, h' W hW⟩
theorem Stay.triv (w : World) : Stay w (fun _ => True) := fun _ _ => trivial
theorem stay_blk {w : World} {g t : Nat} {cs : Array Value} (h : Blk w g t cs) : Stay w (fun W => Blk W g t cs) := fun _ hW => h.below hW h.lt
theorem stay_new (w : World) (t : Nat) (cs : Array Value) : Stay (w.alloc (.cells cs t)) (fun W => Blk W w.heap.size t cs) := stay_blk (Blk.new w t cs)
theorem stay_sl {w : World} {A : Option Addr} {xs : List Value} (h : Sl w A xs) : Stay w (fun W => Sl W A xs) := fun _ hW => h.bel hW
theorem stay_below {w W : World} (h : Below w.heap.size w W) : Stay W (fun W' => Below w.heap.size w W') := fun _ hW => Below.step h hW
theorem below_drew {B : Nat} {a w : World} (h : Below B a w) : Below B a w.drew := ⟨h.os, h.tape, h.output, h.size, h.block⟩
theorem Stay.drew {w : World} {P : World → Prop} (h : Stay w P) : Stay w.drew P := h.step (below_drew (Below.refl _ _))
theorem Stay.drewN {w : World} {P : World → Prop} (h : Stay w P) (n : Nat) : Stay (w.drewN n) P := h.step (below_drewN (Below.refl _ _) n)
end Go.Proofs.Ytamkannjdbodpaa

namespace Go.Proofs.Ytamkannjdbodpaa
open Go.RowKit Go.WideShapes Go.ChangeShapes

def powE (l : List Int) (h : List (Int × Int)) : Int := firstOf [(chk l).2, chE h, unlessE (decide (h.length = l.length)) 13]
def powV (l : List Int) (h : List (Int × Int)) : Int × Int := if powE l h = 0 then ((pow l h).P, (pow l h).Q) else (0, 0)
theorem powE_ok {l : List Int} {h : List (Int × Int)} (e : powE l h = 0) : OnOk l ∧ l.length ≤ 8 ∧ h.length = l.length ∧ Ch30 h ∧ (chk l).2 = 0 ∧ chE h = 0 := by
  have h1 := firstOf_ok e (chk l).2 (by simp)
  have h2 := firstOf_ok e (chE h) (by simp)
  have h3 := firstOf_ok e (unlessE (decide (h.length = l.length)) 13) (by simp)
  obtain ⟨-, a2, a3, -⟩ := chk_ok l h1
  obtain ⟨-, b2⟩ := chE_ok h2
  refine ⟨a3, a2, ?_, b2, h1, h2⟩
  by_cases q : h.length = l.length
  · exact q
  · rw [decide_eq_false q] at h3; simp [unlessE] at h3

set_option maxRecDepth 100000 in
set_option maxHeartbeats 4000000 in
theorem powerOf_beam (A : Option Addr) (c : Nat) (l : List Int) (B : Option Addr) (k : Nat) (h : List (Int × Int)) (w : World) (hs : Sl w A (iv l)) (hs' : Sl w B (gv h)) (hl : l.length ≤ 1000) (hl' : h.length ≤ 1000) :
    Calls Try.prog 86 #[.agg #[.slice A l.length c], .slice B h.length k] w fun e w' => e = .returned (.tuple #[.agg #[.int .i64 (powV l h).1, .int .i64 (powV l h).2], .int .i64 (powE l h)]) ∧ Below w.heap.size w w' := by
  have HBE := hide (fun W hb => beamErr_beam A c l W hb (by omega))
  have HCE := hide (fun W hb => channelErr_beam B k h W hb hl')
  have HS := hide hs; clear hs
  have HS' := hide hs'; clear hs'
  have hee : firstOf [(chk l).2, chE h, unlessE (decide (h.length = l.length)) 13] = powE l h := rfl
  obtain ⟨n, hn⟩ : ∃ n, l.length = n := ⟨_, rfl⟩
  obtain ⟨m, hm⟩ : ∃ m, h.length = m := ⟨_, rfl⟩
  have HP := hide (show powE l h = 0 → ∀ W, Sl W A (iv l) → Sl W B (gv h) → Calls Try.prog 149 #[.agg #[.slice A n c], .slice B m k] W fun e w' => e = .returned (.agg #[.int .i64 (pow l h).P, .int .i64 (pow l h).Q]) ∧ Below W.heap.size W w' from fun he W hb hb' => by
    obtain ⟨p1, p2, p3, p4, _⟩ := powE_ok he
    have := power_beam A c l B n k h W hb hb' hn (p3.trans hn) (by omega) p1 p4.2
    rw [show m = n by omega]
    exact this)
  rw [hn] at HBE hee
  rw [hm] at HCE hee
  rw [hn, hm]
  obtain ⟨q, hq⟩ : ∃ q, decide (m = n) = q := ⟨_, rfl⟩
  have hq1 : ((m : Int) == (n : Int)) = q := (lenEq m n).trans hq
  rw [hq] at hee
  have HEE := hide hee
  have d0 : ((w.alloc (.cells #[.slice A n c] 24)).alloc (.cells #[.int .i64 0, .int .i64 0] 42)).cell? ⟨w.heap.size, 0, none⟩ = some (.slice A n c) := ((Blk.new w 24 #[.slice A n c]).alloc _).cell 0
  have D0 := hide d0
  have HBX := hide ((stay_new w 24 #[.slice A n c]).alloc (.cells #[.int .i64 0, .int .i64 0] 42))
  have HB := hide (((Below.refl w.heap.size w).alloc (Nat.le_refl _) (.cells #[.slice A n c] 24)).alloc (by simp) (.cells #[.int .i64 0, .int .i64 0] 42))
  have HB2 := hide (show Stay ((w.alloc (.cells #[.slice A n c] 24)).alloc (.cells #[.int .i64 0, .int .i64 0] 42)) (fun W => Blk W (w.heap.size + 1) 42 #[.int .i64 0, .int .i64 0]) by have := stay_new (w.alloc (.cells #[.slice A n c] 24)) 42 #[.int .i64 0, .int .i64 0]; rw [World.size_alloc] at this; exact this)
  clear hn hm hl hl' hee
  by_cases he : powE l h = 0
  · have hne : (powE l h != 0) = false := by rw [bne_eq_false_iff_eq]; exact he
    have hpv : powV l h = ((pow l h).P, (pow l h).Q) := if_pos he
    rw [hpv, he]
    rw [he] at HEE hne
    replace HP := hide (HP.out he)
    clear he hpv
    go_enter Try.func86, Try.ntmps86
    go_wp2_with fail
    clear d0
    go_region_held3 (fun w' => w'.cell? ⟨w.heap.size, 0, none⟩ = some (.slice A n c)) (first | exact q0 | exact D0.out | (simp [go_sem]; done) | (simp [go_sem, *]; done) | go_keep)
      (first
        | (go_at_call 104; go_must (refine (HBE.out _ (HS.out.bel (below_drew HB.out))).mono ?_; rintro e w1 ⟨rfl, hb⟩; replace HB := hide (Below.step (below_drew HB.out) hb); replace HBX := hide (HBX.out.drew.step hb); replace HB2 := hide (HB2.out.drew.step hb); clear hb; have q0 : w1.cell? ⟨w.heap.size, 0, none⟩ = some (.slice A n c) := HBX.out.now.cell 0))
        | (go_at_call 130; go_must (refine (HCE.out _ (HS'.out.bel HB.out)).mono ?_; rintro e w2 ⟨rfl, hb⟩; replace HB := hide (Below.step HB.out hb); replace HBX := hide (HBX.out.step hb); replace HB2 := hide (HB2.out.step hb); clear hb; replace q0 : w2.cell? ⟨w.heap.size, 0, none⟩ = some (.slice A n c) := HBX.out.now.cell 0))
        | (go_at_call 94; go_must (refine (unless_any _ _ _).mono ?_; rintro e w' ⟨rfl, rfl⟩))
        | (go_at_call 93; go_must (refine (first3 _ _ _ _ _ (by simp)).mono ?_; rintro e w' ⟨rfl, rfl⟩; rw [HEE.out])))
    all_goals
      generalize hW5 : World.alloc w2 _ = W5
      have hb5 : Below w2.heap.size w2 W5 := by rw [← hW5]; exact (Below.refl _ _).alloc (Nat.le_refl _) _
      replace HB := hide (Below.step HB.out hb5)
      replace HB2 := hide (HB2.out.step hb5)
      replace q0 := hb5.keeps q0
      clear hW5 hb5 HBX
      go_wp2_with (go_at_call 149; go_must (refine (HP.out _ (HS.out.bel HB.out) (HS'.out.bel HB.out)).mono ?_; rintro e w6 ⟨rfl, hb⟩; replace HB := hide (Below.step HB.out hb); replace HB2 := hide (HB2.out.step hb); clear hb; have f0 := HB2.out.now.frozen 0; have f1 := HB2.out.now.frozen 1; have g0 : w6.cell? ⟨w.heap.size + 1, 0, none⟩ = some (.int .i64 0) := HB2.out.now.cell 0; have g1 : w6.cell? ⟨w.heap.size + 1, 1, none⟩ = some (.int .i64 0) := HB2.out.now.cell 1; simp only []))
      have hb3 := (HB2.out.now.set_ 0 (.int .i64 (pow l h).P)).set_ 1 (.int .i64 (pow l h).Q)
      have hbel3 := (HB.out.setCell (p := ⟨w.heap.size + 1, 0, none⟩) (by simp) (.int .i64 (pow l h).P)).setCell (p := ⟨w.heap.size + 1, 1, none⟩) (by simp) (.int .i64 (pow l h).Q)
      clear f0 f1 g0 g1 q0
      revert hb3 hbel3
      generalize World.setCell _ _ _ = W
      intro hb3 hbel3
      have e0 : W.cell? ⟨w.heap.size + 1, 0, none⟩ = some (.int .i64 (pow l h).P) := hb3.cell 0
      have e1 : W.cell? ⟨w.heap.size + 1, 1, none⟩ = some (.int .i64 (pow l h).Q) := hb3.cell 1
      refine bodyPost_ret (v := .tuple #[.agg #[.int .i64 (pow l h).P, .int .i64 (pow l h).Q], .int .i64 0]) (by simp [results, Try.results86, go_sem, e0, e1]) rfl ⟨rfl, hbel3⟩
  · have hne : (powE l h != 0) = true := by rw [bne_iff_ne]; exact he
    have hpv : powV l h = (0, 0) := if_neg he
    rw [hpv]
    obtain ⟨E, hE⟩ : ∃ E, powE l h = E := ⟨_, rfl⟩
    rw [hE] at HEE hne
    rw [hE]
    clear he hpv hE HP
    go_enter Try.func86, Try.ntmps86
    go_wp2_with fail
    clear d0
    go_region_held3 (fun w' => w'.cell? ⟨w.heap.size, 0, none⟩ = some (.slice A n c)) (first | exact q0 | exact D0.out | (simp [go_sem]; done) | (simp [go_sem, *]; done) | go_keep)
      (first
        | (go_at_call 104; go_must (refine (HBE.out _ (HS.out.bel (below_drew HB.out))).mono ?_; rintro e w1 ⟨rfl, hb⟩; replace HB := hide (Below.step (below_drew HB.out) hb); replace HBX := hide (HBX.out.drew.step hb); replace HB2 := hide (HB2.out.drew.step hb); clear hb; have q0 : w1.cell? ⟨w.heap.size, 0, none⟩ = some (.slice A n c) := HBX.out.now.cell 0))
        | (go_at_call 130; go_must (refine (HCE.out _ (HS'.out.bel HB.out)).mono ?_; rintro e w2 ⟨rfl, hb⟩; replace HB := hide (Below.step HB.out hb); replace HBX := hide (HBX.out.step hb); replace HB2 := hide (HB2.out.step hb); clear hb; replace q0 : w2.cell? ⟨w.heap.size, 0, none⟩ = some (.slice A n c) := HBX.out.now.cell 0))
        | (go_at_call 94; go_must (refine (unless_any _ _ _).mono ?_; rintro e w' ⟨rfl, rfl⟩))
        | (go_at_call 93; go_must (refine (first3 _ _ _ _ _ (by simp)).mono ?_; rintro e w' ⟨rfl, rfl⟩; rw [HEE.out])))
    all_goals
      generalize hW5 : World.alloc w2 _ = W5
      have hb5 : Below w2.heap.size w2 W5 := by rw [← hW5]; exact (Below.refl _ _).alloc (Nat.le_refl _) _
      replace HB := hide (Below.step HB.out hb5)
      replace HB2 := hide (HB2.out.step hb5)
      clear hW5 hb5 HBX
      have f0 := HB2.out.now.frozen 0
      have f1 := HB2.out.now.frozen 1
      have g0 : W5.cell? ⟨w.heap.size + 1, 0, none⟩ = some (.int .i64 0) := HB2.out.now.cell 0
      have g1 : W5.cell? ⟨w.heap.size + 1, 1, none⟩ = some (.int .i64 0) := HB2.out.now.cell 1
      go_wp2
      have hb3 := (HB2.out.now.set_ 0 (.int .i64 0)).set_ 1 (.int .i64 0)
      have hbel3 := (HB.out.setCell (p := ⟨w.heap.size + 1, 0, none⟩) (by simp) (.int .i64 0)).setCell (p := ⟨w.heap.size + 1, 1, none⟩) (by simp) (.int .i64 0)
      clear f0 f1 g0 g1
      revert hb3 hbel3
      generalize World.setCell _ _ _ = W
      intro hb3 hbel3
      have e0 : W.cell? ⟨w.heap.size + 1, 0, none⟩ = some (.int .i64 0) := hb3.cell 0
      have e1 : W.cell? ⟨w.heap.size + 1, 1, none⟩ = some (.int .i64 0) := hb3.cell 1
      refine bodyPost_ret (v := .tuple #[.agg #[.int .i64 0, .int .i64 0], .int .i64 E]) (by simp [results, Try.results86, go_sem, e0, e1]) rfl ⟨rfl, hbel3⟩
end Go.Proofs.Ytamkannjdbodpaa

namespace Go.Proofs.Ytamkannjdbodpaa
open Go.RowKit Go.WideShapes Go.ChangeShapes

set_option maxRecDepth 100000 in
set_option maxHeartbeats 8000000 in
theorem powerOf_ref (A : Option Addr) (c : Nat) (l : List Int) (B : Option Addr) (n kc : Nat) (h : List (Int × Int)) (w : World) (hs : Sl w A (iv l)) (hs' : Sl w B (gv h)) (hn : l.length = n) (hh : h.length = n) (hl : n ≤ 100) (hok : OnOk l) (hsm : Small 30 h) :
    Calls Try.prog 88 #[.agg #[.slice A n c], .slice B n kc] w fun e w' => e = .returned (.agg #[.int .i64 (pow l h).P, .int .i64 (pow l h).Q]) ∧ Below w.heap.size w w' := by
  subst hn
  have HS := hide hs; clear hs
  have HG := hide hs'; clear hs'
  have HOK := hide hok; clear hok
  have HSM := hide hsm; clear hsm
  have HH := hide hh; clear hh
  have hk0 : Blk (w.alloc (.cells #[.slice A l.length c] 24)) w.heap.size 24 #[.slice A l.length c] := Blk.new w _ _
  have hk1 := Blk.new (w.alloc (.cells #[.slice A l.length c] 24)) 42 #[.int .i64 0, .int .i64 0]
  have hk2 := Blk.new ((w.alloc (.cells #[.slice A l.length c] 24)).alloc (.cells #[.int .i64 0, .int .i64 0] 42)) 73 #[.int .i64 0, .int .i64 0, .int .i64 0, .int .i64 0]
  simp only [World.size_alloc] at hk1 hk2
  have HK0 := hide hk0; clear hk0
  have HK1 := hide hk1; clear hk1
  have HK2 := hide hk2; clear hk2
  go_enter Try.func88, Try.ntmps88
  go_wp2
  go_loopw [6] (fun i wr => ∃ k : Nat, k ≤ l.length ∧ i = .int .i64 k ∧ Blk wr w.heap.size 24 #[.slice A l.length c] ∧ Blk wr (w.heap.size + 1) 42 #[.int .i64 0, .int .i64 0] ∧ Blk wr (w.heap.size + 1 + 1) 73 (powU l h k).cells ∧ Below w.heap.size w wr) (fun i _ => l.length - (intOf i).toNat)
  case atStart => exact ⟨0, Nat.zero_le _, rfl, (HK0.out.alloc _).alloc _, HK1.out.alloc _, HK2.out, by go_grown⟩
  case round =>
    obtain ⟨k, hk, rfl, hb0, hb1, hb2, hbel⟩ := hrel
    have d0 : wr.cell? ⟨w.heap.size, 0, none⟩ = some (.slice A l.length c) := hb0.cell 0
    have yl0 := hb0.lt
    have yl1 := hb1.lt
    have yl2 := hb2.lt
    have hle := hide (powU_le l HSM.out k)
    by_cases hlt : k < l.length
    · obtain ⟨b, off, rfl, hc⟩ := HS.out.int hlt
      have hkh : k < h.length := by rw [HH.out]; exact hlt
      obtain ⟨bg, og, hB, g1, g2⟩ := HG.out.at2 hkh
      have hcw : wr.cell? ⟨b, off + k, none⟩ = some (.int .i64 l[k]) := hbel.keeps hc
      have hd1 : wr.cell? ⟨bg, og + k * 2, none⟩ = some (.int .i64 h[k].1) := hbel.keeps g1
      have hd2 : wr.cell? ⟨bg, og + k * 2 + 1, none⟩ = some (.int .i64 h[k].2) := hbel.keeps g2
      subst hB
      have hbw := lt_of_cell hc
      have hbg := lt_of_cell g1
      have hz := HSM.out _ (List.getElem_mem hkh)
      have HNA := hide (show numAt h k = h[k] by unfold numAt; rw [List.getElem?_eq_getElem hkh]; rfl)
      unfold cle at hz
      have HW1 := hide hc; have HW2 := hide g1; have HW3 := hide g2
      clear hc g1 g2
      have hr := HOK.out l[k] (List.getElem_mem hlt)
      by_cases hx : l[k] = -1
      · have hn : (l[k] != -1) = false := by simp [hx]
        have hst := powU_off l h k hlt hx
        have HST := hide hst; clear hst hx hd1 hd2
        go_wp2
        go_roundw
        case rel => exact ⟨k + 1, by omega, by go_num, hb0, hb1, by rw [HST.out]; exact hb2, hbel⟩
        case measure => simp [intOf]; omega
      · have hn : (l[k] != -1) = true := by simp [hx]
        have hst := powU_on l h k hlt ⟨by omega, hr.2⟩
        obtain ⟨x, hxe⟩ : ∃ x, l[k] = x := ⟨_, rfl⟩
        obtain ⟨re, hre⟩ : ∃ re, h[k].1 = re := ⟨_, rfl⟩
        obtain ⟨im, him⟩ : ∃ im, h[k].2 = im := ⟨_, rfl⟩
        rw [show h[k] = (re, im) from Prod.ext hre him] at HNA
        rw [hxe] at hcw hr hn hx hst HW1
        rw [hre] at hd1 hz HW2
        rw [him] at hd2 hz HW3
        rw [HNA.out] at hst
        have HST2 := hide hst
        clear hxe hst hre him hx HNA
        obtain ⟨hx0, hx7⟩ := hr
        obtain ⟨S, hS⟩ : ∃ S, powU l h k = S := ⟨_, rfl⟩
        rw [hS] at hb2 hle HST2
        have e0 : wr.cell? ⟨w.heap.size + 1 + 1, 0, none⟩ = some (.int .i64 S.a) := hb2.cell 0
        have e1 : wr.cell? ⟨w.heap.size + 1 + 1, 1, none⟩ = some (.int .i64 S.b) := hb2.cell 1
        have e2 : wr.cell? ⟨w.heap.size + 1 + 1, 2, none⟩ = some (.int .i64 S.c) := hb2.cell 2
        have e3 : wr.cell? ⟨w.heap.size + 1 + 1, 3, none⟩ = some (.int .i64 S.d) := hb2.cell 3
        have HN := hide (show (⟨re, 0, im, 0⟩ : Q4).le 1000000000 by unfold Q4.le; dsimp only; omega)
        have gl1 : (k : Int) < (l.length : Int) := by omega
        have HTR := hide (fun W => turn_ref ⟨re, 0, im, 0⟩ x HN.out (by omega) (by omega) W)
        have HPL := hide (fun W => plus_ref S ((⟨re, 0, im, 0⟩ : Q4).rotN (x % 8).toNat) (hle.out.mono (by omega)) (Q4.rotN_le HN.out _) W)
        have hpp := put_plus S (re, im) x
        dsimp only at hpp
        rw [hpp, ← HST2.out] at HPL
        obtain ⟨T, hT⟩ : ∃ T, powU l h (k + 1) = T := ⟨_, rfl⟩
        have HTT := hide hT
        rw [hT] at HPL
        clear hS hpp HST2 hle hT
        go_wp2
        have HC0 := hide d0; have HCW := hide hcw; have HD1 := hide hd1; have HD2 := hide hd2
        refine wp_region_held_drew (S := (fun w' => w'.cell? ⟨w.heap.size, 0, none⟩ = some (.slice (some ⟨b, off, none⟩) l.length c) ∧ w'.cell? ⟨b, off + k, none⟩ = some (.int .i64 x) ∧ w'.cell? ⟨bg, og + k * 2, none⟩ = some (.int .i64 re) ∧ w'.cell? ⟨bg, og + k * 2 + 1, none⟩ = some (.int .i64 im))) (by kernel_rfl) ?_ (fun hHeld => ?_)
        · exact ⟨d0, hcw, hd1, hd2⟩
        refine wpAnyH_take (i := 1) (v := ?_) rfl (by kernel_rfl) (by kernel_rfl) (by kernel_rfl) (fun _ _ _ h => h) (Or.inl ⟨by kernel_rfl, ?_⟩) (by assumption) ?_
        rotate_left
        · intro w' hSw; (try dsimp only at hSw); go_simp; try with_reducible rfl
        try simp only [Act.put, List.setIfInBounds_toArray]
        refine wpAnyH_take (i := 2) (v := ?_) rfl (by kernel_rfl) (by kernel_rfl) (by kernel_rfl) (fun _ _ _ h => h) (Or.inl ⟨by kernel_rfl, ?_⟩) (by assumption) ?_
        rotate_left
        · intro w' hSw; (try dsimp only at hSw); go_simp; try with_reducible rfl
        try simp only [Act.put]
        refine wpAnyH_take (i := 3) (v := ?_) rfl (by kernel_rfl) (by kernel_rfl) (by kernel_rfl) (fun _ _ _ h => h) (Or.inl ⟨by kernel_rfl, ?_⟩) (by assumption) ?_
        rotate_left
        · intro w' hSw; (try dsimp only at hSw); go_simp; try with_reducible rfl
        try simp only [Act.put]
        refine wpAnyH_take (i := 4) (v := ?_) rfl (by kernel_rfl) (by kernel_rfl) (by kernel_rfl) (fun _ _ _ h => h) (Or.inl ⟨by kernel_rfl, ?_⟩) (by assumption) ?_
        rotate_left
        · intro w' hSw; (try dsimp only at hSw); go_simp; try with_reducible rfl
        try simp only [Act.put]
        refine wpAnyH_take (i := 5) (v := ?_) rfl (by kernel_rfl) (by kernel_rfl) (by kernel_rfl) (fun _ _ _ h => h) (Or.inl ⟨by kernel_rfl, ?_⟩) (by assumption) ?_
        rotate_left
        · intro w' hSw; (try dsimp only at hSw); go_simp; try with_reducible rfl
        try simp only [Act.put]
        refine wpAnyH_take (i := 6) (v := ?_) rfl (by kernel_rfl) (by kernel_rfl) (by kernel_rfl) (fun _ _ _ h => h) (Or.inl ⟨by kernel_rfl, ?_⟩) (by assumption) ?_
        rotate_left
        · intro w' hSw; (try dsimp only at hSw); go_simp; try with_reducible rfl
        try simp only [Act.put]
        refine wpAnyH_take (i := 7) (v := ?_) rfl (by kernel_rfl) (by kernel_rfl) (by kernel_rfl) (fun _ _ _ h => h) (Or.inl ⟨by kernel_rfl, ?_⟩) (by assumption) ?_
        rotate_left
        · intro w' hSw; (try dsimp only at hSw); go_simp; try with_reducible rfl
        try simp only [Act.put]
        refine wpAnyH_take (i := 8) (v := ?_) rfl (by kernel_rfl) (by kernel_rfl) (by kernel_rfl) (fun _ _ _ h => h) (Or.inl ⟨by kernel_rfl, ?_⟩) (by assumption) ?_
        rotate_left
        · intro w' hSw; (try dsimp only at hSw); go_simp; try with_reducible rfl
        try simp only [Act.put]
        refine wpAnyH_take (i := 9) (v := ?_) rfl (by kernel_rfl) (by kernel_rfl) (by kernel_rfl) (fun _ _ _ h => h) (Or.inl ⟨by kernel_rfl, ?_⟩) (by assumption) ?_
        rotate_left
        · intro w' hSw; (try dsimp only at hSw); go_simp; try with_reducible rfl
        try simp only [Act.put]
        refine wpAnyH_take (i := 10) (v := ?_) rfl (by kernel_rfl) (by kernel_rfl) (by kernel_rfl) (fun _ _ _ h => h) (Or.inl ⟨by kernel_rfl, ?_⟩) (by assumption) ?_
        rotate_left
        · intro w' hSw; (try dsimp only at hSw); go_simp; try with_reducible rfl
        try simp only [Act.put]
        refine wpAnyH_take (i := 11) (v := ?_) rfl (by kernel_rfl) (by kernel_rfl) (by kernel_rfl) (fun _ _ _ h => h) (Or.inl ⟨by kernel_rfl, ?_⟩) (by assumption) ?_
        rotate_left
        · intro w' hSw; (try dsimp only at hSw); go_simp; try with_reducible rfl
        try simp only [Act.put]
        refine wpAnyH_take (i := 12) (v := ?_) rfl (by kernel_rfl) (by kernel_rfl) (by kernel_rfl) (fun _ _ _ h => h) (Or.inl ⟨by kernel_rfl, ?_⟩) (by assumption) ?_
        rotate_left
        · intro w' hSw; (try dsimp only at hSw); go_simp; try with_reducible rfl
        try simp only [Act.put]
        refine wpAnyH_take (i := 13) (v := ?_) rfl (by kernel_rfl) (by kernel_rfl) (by kernel_rfl) (fun _ _ _ h => h) (Or.inl ⟨by kernel_rfl, ?_⟩) (by assumption) ?_
        rotate_left
        · intro w' hSw; (try dsimp only at hSw); go_simp; try with_reducible rfl
        try simp only [Act.put]
        refine wpAnyH_take (i := 14) (v := ?_) rfl (by kernel_rfl) (by kernel_rfl) (by kernel_rfl) (fun _ _ _ h => h) (Or.inl ⟨by kernel_rfl, ?_⟩) (by assumption) ?_
        rotate_left
        · intro w' hSw; (try dsimp only at hSw); go_simp; try with_reducible rfl
        try simp only [Act.put]
        refine wpAnyH_take (i := 15) (v := ?_) rfl (by kernel_rfl) (by kernel_rfl) (by kernel_rfl) (fun _ _ _ h => h) (Or.inl ⟨by kernel_rfl, ?_⟩) (by assumption) ?_
        rotate_left
        · intro w' hSw; (try dsimp only at hSw); go_simp; try with_reducible rfl
        try simp only [Act.put]
        refine wpAnyH_take (i := 16) (v := ?_) rfl (by kernel_rfl) (by kernel_rfl) (by kernel_rfl) (fun _ _ _ h => h) (Or.inl ⟨by kernel_rfl, ?_⟩) (by assumption) ?_
        rotate_left
        · intro w' hSw; (try dsimp only at hSw); go_simp; try with_reducible rfl
        try simp only [Act.put]
        refine wpAnyH_ready (rs := [0, 17]) (by kernel_rfl) (by simp) ?_
        refine AllReadyH.cons rfl (fun K hK => ?_) (AllReadyH.cons rfl (fun K hK => ?_) AllReadyH.nil)
        · go_simp
          refine hK.out _ _ ?_ (fun hHeld => ?_)
          · exact ⟨HC0.out, HCW.out, HD1.out, HD2.out⟩
          clear hK K
          try simp only [Act.put, List.setIfInBounds_toArray, List.set_cons_zero, List.set_cons_succ]
          refine wpAnyH_ready (rs := [17]) (by kernel_rfl) (by simp) ?_
          refine AllReadyH.cons rfl (fun K hK => ?_) AllReadyH.nil
          go_simp
          go_at_call 123
          refine (HTR.out _).mono ?_
          rintro e w1 ⟨rfl, hb⟩
          have b1 : Below wr.heap.size wr w1 := Below.step (below_drew (Below.refl wr.heap.size wr)) hb
          clear hb
          have i0 := b1.keeps e0; have i1 := b1.keeps e1; have i2 := b1.keeps e2; have i3 := b1.keeps e3
          try simp only []
          refine hK.out _ _ ?_ (fun hHeld => ?_)
          · exact ⟨b1.keeps HC0.out, b1.keeps HCW.out, b1.keeps HD1.out, b1.keeps HD2.out⟩
          clear hK K
          try simp only [Act.put, List.setIfInBounds_toArray, List.set_cons_zero, List.set_cons_succ]
          refine wpAnyH_ready (rs := [18]) (by kernel_rfl) (by simp) ?_
          refine AllReadyH.cons rfl (fun K hK => ?_) AllReadyH.nil
          go_simp
          go_at_call 122
          refine (HPL.out _).mono ?_
          rintro e w2 ⟨rfl, hb⟩
          have b2 : Below wr.heap.size wr w2 := Below.step b1 hb
          clear hb
          have B2 := hb2.below b2 yl2; have f0 := B2.frozen 0; have f1 := B2.frozen 1; have f2 := B2.frozen 2; have f3 := B2.frozen 3; have j0 := b2.keeps e0; have j1 := b2.keeps e1; have j2 := b2.keeps e2; have j3 := b2.keeps e3
          try simp only []
          refine hK.out _ _ ?_ (fun hHeld => ?_)
          · exact ⟨b2.keeps HC0.out, b2.keeps HCW.out, b2.keeps HD1.out, b2.keeps HD2.out⟩
          clear hK K
          try simp only [Act.put, List.setIfInBounds_toArray, List.set_cons_zero, List.set_cons_succ]
          try simp only [Q4.cells]
          refine wpAnyH_ready (rs := [19]) (by kernel_rfl) (by simp) ?_
          refine AllReadyH.cons rfl (fun K hK => ?_) AllReadyH.nil
          go_simp
          have bq := (((hb0.below b2 yl0).far (by simp; omega) (.int .i64 T.a) (p := ⟨w.heap.size + 1 + 1, 0, none⟩)).far (by simp; omega) (.int .i64 T.b) (p := ⟨w.heap.size + 1 + 1, 1, none⟩)).far (by simp; omega) (.int .i64 T.c) (p := ⟨w.heap.size + 1 + 1, 2, none⟩) |>.far (by simp; omega) (.int .i64 T.d) (p := ⟨w.heap.size + 1 + 1, 3, none⟩)
          have bq1 := (((hb1.below b2 yl1).far (by simp) (.int .i64 T.a) (p := ⟨w.heap.size + 1 + 1, 0, none⟩)).far (by simp) (.int .i64 T.b) (p := ⟨w.heap.size + 1 + 1, 1, none⟩)).far (by simp) (.int .i64 T.c) (p := ⟨w.heap.size + 1 + 1, 2, none⟩) |>.far (by simp) (.int .i64 T.d) (p := ⟨w.heap.size + 1 + 1, 3, none⟩)
          have bq2 := (((B2.set_ 0 (.int .i64 T.a)).set_ 1 (.int .i64 T.b)).set_ 2 (.int .i64 T.c)).set_ 3 (.int .i64 T.d)
          have bqb := (((Below.step hbel b2).setCell (p := ⟨w.heap.size + 1 + 1, 0, none⟩) (by simp; omega) (.int .i64 T.a)).setCell (p := ⟨w.heap.size + 1 + 1, 1, none⟩) (by simp; omega) (.int .i64 T.b)).setCell (p := ⟨w.heap.size + 1 + 1, 2, none⟩) (by simp; omega) (.int .i64 T.c) |>.setCell (p := ⟨w.heap.size + 1 + 1, 3, none⟩) (by simp; omega) (.int .i64 T.d)
          refine hK.out _ _ ?_ (fun hHeld => ?_)
          · exact ⟨bq.cell 0, bqb.keeps HW1.out, bqb.keeps HW2.out, bqb.keeps HW3.out⟩
          clear hK K
          try simp only [Act.put, List.setIfInBounds_toArray, List.set_cons_zero, List.set_cons_succ]
          refine wpAnyH_done (by kernel_rfl) ?_ _
          clear hHeld
          go_wp2
          go_roundw
          case rel => exact ⟨k + 1, by omega, by go_num, bq, bq1, by rw [HTT.out]; simpa [Q4.cells] using bq2, bqb⟩
          case measure => simp [intOf]; omega
        · go_simp
          go_at_call 123
          refine (HTR.out _).mono ?_
          rintro e w1 ⟨rfl, hb⟩
          have b1 : Below wr.heap.size wr w1 := Below.step (below_drew (Below.refl wr.heap.size wr)) hb
          clear hb
          have i0 := b1.keeps e0; have i1 := b1.keeps e1; have i2 := b1.keeps e2; have i3 := b1.keeps e3
          try simp only []
          refine hK.out _ _ ?_ (fun hHeld => ?_)
          · exact ⟨b1.keeps HC0.out, b1.keeps HCW.out, b1.keeps HD1.out, b1.keeps HD2.out⟩
          clear hK K
          try simp only [Act.put, List.setIfInBounds_toArray, List.set_cons_zero, List.set_cons_succ]
          refine wpAnyH_ready (rs := [0]) (by kernel_rfl) (by simp) ?_
          refine AllReadyH.cons rfl (fun K hK => ?_) AllReadyH.nil
          go_simp
          refine hK.out _ _ ?_ (fun hHeld => ?_)
          · exact ⟨b1.keeps HC0.out, b1.keeps HCW.out, b1.keeps HD1.out, b1.keeps HD2.out⟩
          clear hK K
          try simp only [Act.put, List.setIfInBounds_toArray, List.set_cons_zero, List.set_cons_succ]
          refine wpAnyH_ready (rs := [18]) (by kernel_rfl) (by simp) ?_
          refine AllReadyH.cons rfl (fun K hK => ?_) AllReadyH.nil
          go_simp
          go_at_call 122
          refine (HPL.out _).mono ?_
          rintro e w2 ⟨rfl, hb⟩
          have b2 : Below wr.heap.size wr w2 := Below.step b1 hb
          clear hb
          have B2 := hb2.below b2 yl2; have f0 := B2.frozen 0; have f1 := B2.frozen 1; have f2 := B2.frozen 2; have f3 := B2.frozen 3; have j0 := b2.keeps e0; have j1 := b2.keeps e1; have j2 := b2.keeps e2; have j3 := b2.keeps e3
          try simp only []
          refine hK.out _ _ ?_ (fun hHeld => ?_)
          · exact ⟨b2.keeps HC0.out, b2.keeps HCW.out, b2.keeps HD1.out, b2.keeps HD2.out⟩
          clear hK K
          try simp only [Act.put, List.setIfInBounds_toArray, List.set_cons_zero, List.set_cons_succ]
          try simp only [Q4.cells]
          refine wpAnyH_ready (rs := [19]) (by kernel_rfl) (by simp) ?_
          refine AllReadyH.cons rfl (fun K hK => ?_) AllReadyH.nil
          go_simp
          have bq := (((hb0.below b2 yl0).far (by simp; omega) (.int .i64 T.a) (p := ⟨w.heap.size + 1 + 1, 0, none⟩)).far (by simp; omega) (.int .i64 T.b) (p := ⟨w.heap.size + 1 + 1, 1, none⟩)).far (by simp; omega) (.int .i64 T.c) (p := ⟨w.heap.size + 1 + 1, 2, none⟩) |>.far (by simp; omega) (.int .i64 T.d) (p := ⟨w.heap.size + 1 + 1, 3, none⟩)
          have bq1 := (((hb1.below b2 yl1).far (by simp) (.int .i64 T.a) (p := ⟨w.heap.size + 1 + 1, 0, none⟩)).far (by simp) (.int .i64 T.b) (p := ⟨w.heap.size + 1 + 1, 1, none⟩)).far (by simp) (.int .i64 T.c) (p := ⟨w.heap.size + 1 + 1, 2, none⟩) |>.far (by simp) (.int .i64 T.d) (p := ⟨w.heap.size + 1 + 1, 3, none⟩)
          have bq2 := (((B2.set_ 0 (.int .i64 T.a)).set_ 1 (.int .i64 T.b)).set_ 2 (.int .i64 T.c)).set_ 3 (.int .i64 T.d)
          have bqb := (((Below.step hbel b2).setCell (p := ⟨w.heap.size + 1 + 1, 0, none⟩) (by simp; omega) (.int .i64 T.a)).setCell (p := ⟨w.heap.size + 1 + 1, 1, none⟩) (by simp; omega) (.int .i64 T.b)).setCell (p := ⟨w.heap.size + 1 + 1, 2, none⟩) (by simp; omega) (.int .i64 T.c) |>.setCell (p := ⟨w.heap.size + 1 + 1, 3, none⟩) (by simp; omega) (.int .i64 T.d)
          refine hK.out _ _ ?_ (fun hHeld => ?_)
          · exact ⟨bq.cell 0, bqb.keeps HW1.out, bqb.keeps HW2.out, bqb.keeps HW3.out⟩
          clear hK K
          try simp only [Act.put, List.setIfInBounds_toArray, List.set_cons_zero, List.set_cons_succ]
          refine wpAnyH_done (by kernel_rfl) ?_ _
          clear hHeld
          go_wp2
          go_roundw
          case rel => exact ⟨k + 1, by omega, by go_num, bq, bq1, by rw [HTT.out]; simpa [Q4.cells] using bq2, bqb⟩
          case measure => simp [intOf]; omega
    · obtain rfl : k = l.length := by omega
      obtain ⟨X, hX⟩ : ∃ X, powU l h l.length = X := ⟨_, rfl⟩
      have HX := hide (show pow l h = X from hX)
      rw [hX] at hb2 hle
      have HSQ := hide (fun W => squareOf_ref X (hle.out.mono (by omega)) W)
      have e0 : wr.cell? ⟨w.heap.size + 1 + 1, 0, none⟩ = some (.int .i64 X.a) := hb2.cell 0
      have e1 : wr.cell? ⟨w.heap.size + 1 + 1, 1, none⟩ = some (.int .i64 X.b) := hb2.cell 1
      have e2 : wr.cell? ⟨w.heap.size + 1 + 1, 2, none⟩ = some (.int .i64 X.c) := hb2.cell 2
      have e3 : wr.cell? ⟨w.heap.size + 1 + 1, 3, none⟩ = some (.int .i64 X.d) := hb2.cell 3
      clear hX hle
      go_wp2_with (go_at_call 50; go_must (refine (HSQ.out _).mono ?_; rintro e w6 ⟨rfl, hb⟩; have hb16 := hb1.below hb yl1; have hbel6 := Below.step hbel hb; clear hb; have f0 := hb16.frozen 0; have f1 := hb16.frozen 1; have g0 : w6.cell? ⟨w.heap.size + 1, 0, none⟩ = some (.int .i64 0) := hb16.cell 0; have g1 : w6.cell? ⟨w.heap.size + 1, 1, none⟩ = some (.int .i64 0) := hb16.cell 1; simp only []))
      have hb3 := (hb16.set_ 0 (.int .i64 X.P)).set_ 1 (.int .i64 X.Q)
      have hbel3 := (hbel6.setCell (p := ⟨w.heap.size + 1, 0, none⟩) (by simp) (.int .i64 X.P)).setCell (p := ⟨w.heap.size + 1, 1, none⟩) (by simp) (.int .i64 X.Q)
      clear f0 f1 g0 g1 hb16 hbel6
      revert hb3 hbel3
      generalize World.setCell _ _ _ = W
      intro hb3 hbel3
      have z0 : W.cell? ⟨w.heap.size + 1, 0, none⟩ = some (.int .i64 X.P) := hb3.cell 0
      have z1 : W.cell? ⟨w.heap.size + 1, 1, none⟩ = some (.int .i64 X.Q) := hb3.cell 1
      refine bodyPost_ret (v := .agg #[.int .i64 X.P, .int .i64 X.Q]) (by simp [results, Try.results88, go_sem, z0, z1]) rfl ⟨by rw [HX.out], hbel3⟩
end Go.Proofs.Ytamkannjdbodpaa
