import Derived.Test.YtamkannjdbodpaaDoorTxS
import Derived.Test.YtamkannjdbodpaaDoorPowB
import Derived.Test.YtamkannjdbodpaaDoorChS
namespace Go.Proofs.YtamkannjdbodpaaDoor
open Go.RowKit Go.WideShapes Go.ChangeShapes

/-! what stays so in every later world -/
end Go.Proofs.YtamkannjdbodpaaDoor

namespace Go.Proofs.YtamkannjdbodpaaDoor
open Go.RowKit Go.WideShapes Go.ChangeShapes

def powE (l : List Int) (h : List (Int × Int)) : Int := firstOf [(chk l).2, chE h, unlessE (decide (h.length = l.length)) 13]
def powV (l : List Int) (h : List (Int × Int)) : Int × Int := if powE l h = 0 then ((pow l h).P, (pow l h).Q) else (0, 0)
theorem powE_ok {l : List Int} {h : List (Int × Int)} (e : powE l h = 0) : OnOk l ∧ l.length ≤ 8 ∧ h.length = l.length ∧ Ch30 h ∧ (chk l).2 = 0 ∧ chE h = 0 := by
  have h1 := firstOf_ok e (chk l).2 (by simp)
  have h2 := firstOf_ok e (chE h) (by simp)
  have h3 := firstOf_ok e (unlessE (decide (h.length = l.length)) 13) (by simp)
  obtain ⟨-, a2, a3, -⟩ := chk_ok l h1
  obtain ⟨-, b2⟩ := chE_ok h2
  refine ⟨a3, a2, ?_, b2, h1, h2⟩
  by_cases q : h.length = l.length
  · exact q
  · rw [decide_eq_false q] at h3; simp [unlessE] at h3

set_option maxRecDepth 100000 in
set_option maxHeartbeats 4000000 in
theorem powerOf_beam (A : Option Addr) (c : Nat) (l : List Int) (B : Option Addr) (k : Nat) (h : List (Int × Int)) (w : World) (hs : Sl w A (iv l)) (hs' : Sl w B (gv h)) (hl : l.length ≤ 1000) (hl' : h.length ≤ 1000) :
    Calls Tryd.prog 22 #[.agg #[.slice A l.length c], .slice B h.length k] w fun e w' => e = .returned (.tuple #[.agg #[.int .i64 (powV l h).1, .int .i64 (powV l h).2], .int .i64 (powE l h)]) ∧ Below w.heap.size w w' := by
  have HBE := hide (fun W hb => beamErr_beam A c l W hb (by omega))
  have HCE := hide (fun W hb => channelErr_beam B k h W hb hl')
  have HS := hide hs; clear hs
  have HS' := hide hs'; clear hs'
  have hee : firstOf [(chk l).2, chE h, unlessE (decide (h.length = l.length)) 13] = powE l h := rfl
  obtain ⟨n, hn⟩ : ∃ n, l.length = n := ⟨_, rfl⟩
  obtain ⟨m, hm⟩ : ∃ m, h.length = m := ⟨_, rfl⟩
  have HP := hide (show powE l h = 0 → ∀ W, Sl W A (iv l) → Sl W B (gv h) → Calls Tryd.prog 45 #[.agg #[.slice A n c], .slice B m k] W fun e w' => e = .returned (.agg #[.int .i64 (pow l h).P, .int .i64 (pow l h).Q]) ∧ Below W.heap.size W w' from fun he W hb hb' => by
    obtain ⟨p1, p2, p3, p4, _⟩ := powE_ok he
    have := power_beam A c l B n k h W hb hb' hn (p3.trans hn) (by omega) p1 p4.2
    rw [show m = n by omega]
    exact this)
  rw [hn] at HBE hee
  rw [hm] at HCE hee
  rw [hn, hm]
  obtain ⟨q, hq⟩ : ∃ q, decide (m = n) = q := ⟨_, rfl⟩
  have hq1 : ((m : Int) == (n : Int)) = q := (lenEq m n).trans hq
  rw [hq] at hee
  have HEE := hide hee
  have d0 : ((w.alloc (.cells #[.slice A n c] 24)).alloc (.cells #[.int .i64 0, .int .i64 0] 52)).cell? ⟨w.heap.size, 0, none⟩ = some (.slice A n c) := ((Blk.new w 24 #[.slice A n c]).alloc _).cell 0
  have D0 := hide d0
  have HBX := hide ((stay_new w 24 #[.slice A n c]).alloc (.cells #[.int .i64 0, .int .i64 0] 52))
  have HB := hide (((Below.refl w.heap.size w).alloc (Nat.le_refl _) (.cells #[.slice A n c] 24)).alloc (by simp) (.cells #[.int .i64 0, .int .i64 0] 52))
  have HB2 := hide (show Stay ((w.alloc (.cells #[.slice A n c] 24)).alloc (.cells #[.int .i64 0, .int .i64 0] 52)) (fun W => Blk W (w.heap.size + 1) 52 #[.int .i64 0, .int .i64 0]) by have := stay_new (w.alloc (.cells #[.slice A n c] 24)) 52 #[.int .i64 0, .int .i64 0]; rw [World.size_alloc] at this; exact this)
  clear hn hm hl hl' hee
  by_cases he : powE l h = 0
  · have hne : (powE l h != 0) = false := by rw [bne_eq_false_iff_eq]; exact he
    have hpv : powV l h = ((pow l h).P, (pow l h).Q) := if_pos he
    rw [hpv, he]
    rw [he] at HEE hne
    replace HP := hide (HP.out he)
    clear he hpv
    go_enter Tryd.func22, Tryd.ntmps22
    go_wp2_with fail
    clear d0
    go_region_held3 (fun w' => w'.cell? ⟨w.heap.size, 0, none⟩ = some (.slice A n c)) (first | exact q0 | exact D0.out | (simp [go_sem]; done) | (simp [go_sem, *]; done) | go_keep)
      (first
        | (go_at_call 31; go_must (refine (HBE.out _ (HS.out.bel (below_drew HB.out))).mono ?_; rintro e w1 ⟨rfl, hb⟩; replace HB := hide (Below.step (below_drew HB.out) hb); replace HBX := hide (HBX.out.drew.step hb); replace HB2 := hide (HB2.out.drew.step hb); clear hb; have q0 : w1.cell? ⟨w.heap.size, 0, none⟩ = some (.slice A n c) := HBX.out.now.cell 0))
        | (go_at_call 44; go_must (refine (HCE.out _ (HS'.out.bel HB.out)).mono ?_; rintro e w2 ⟨rfl, hb⟩; replace HB := hide (Below.step HB.out hb); replace HBX := hide (HBX.out.step hb); replace HB2 := hide (HB2.out.step hb); clear hb; replace q0 : w2.cell? ⟨w.heap.size, 0, none⟩ = some (.slice A n c) := HBX.out.now.cell 0))
        | (go_at_call 36; go_must (refine (unless_any _ _ _).mono ?_; rintro e w' ⟨rfl, rfl⟩))
        | (go_at_call 35; go_must (refine (first3 _ _ _ _ _ (by simp)).mono ?_; rintro e w' ⟨rfl, rfl⟩; rw [HEE.out])))
    all_goals
      generalize hW5 : World.alloc w2 _ = W5
      have hb5 : Below w2.heap.size w2 W5 := by rw [← hW5]; exact (Below.refl _ _).alloc (Nat.le_refl _) _
      replace HB := hide (Below.step HB.out hb5)
      replace HB2 := hide (HB2.out.step hb5)
      replace q0 := hb5.keeps q0
      clear hW5 hb5 HBX
      go_wp2_with (go_at_call 45; go_must (refine (HP.out _ (HS.out.bel HB.out) (HS'.out.bel HB.out)).mono ?_; rintro e w6 ⟨rfl, hb⟩; replace HB := hide (Below.step HB.out hb); replace HB2 := hide (HB2.out.step hb); clear hb; have f0 := HB2.out.now.frozen 0; have f1 := HB2.out.now.frozen 1; have g0 : w6.cell? ⟨w.heap.size + 1, 0, none⟩ = some (.int .i64 0) := HB2.out.now.cell 0; have g1 : w6.cell? ⟨w.heap.size + 1, 1, none⟩ = some (.int .i64 0) := HB2.out.now.cell 1; simp only []))
      have hb3 := (HB2.out.now.set_ 0 (.int .i64 (pow l h).P)).set_ 1 (.int .i64 (pow l h).Q)
      have hbel3 := (HB.out.setCell (p := ⟨w.heap.size + 1, 0, none⟩) (by simp) (.int .i64 (pow l h).P)).setCell (p := ⟨w.heap.size + 1, 1, none⟩) (by simp) (.int .i64 (pow l h).Q)
      clear f0 f1 g0 g1 q0
      revert hb3 hbel3
      generalize World.setCell _ _ _ = W
      intro hb3 hbel3
      have e0 : W.cell? ⟨w.heap.size + 1, 0, none⟩ = some (.int .i64 (pow l h).P) := hb3.cell 0
      have e1 : W.cell? ⟨w.heap.size + 1, 1, none⟩ = some (.int .i64 (pow l h).Q) := hb3.cell 1
      refine bodyPost_ret (v := .tuple #[.agg #[.int .i64 (pow l h).P, .int .i64 (pow l h).Q], .int .i64 0]) (by simp [results, Tryd.results22, go_sem, e0, e1]) rfl ⟨rfl, hbel3⟩
  · have hne : (powE l h != 0) = true := by rw [bne_iff_ne]; exact he
    have hpv : powV l h = (0, 0) := if_neg he
    rw [hpv]
    obtain ⟨E, hE⟩ : ∃ E, powE l h = E := ⟨_, rfl⟩
    rw [hE] at HEE hne
    rw [hE]
    clear he hpv hE HP
    go_enter Tryd.func22, Tryd.ntmps22
    go_wp2_with fail
    clear d0
    go_region_held3 (fun w' => w'.cell? ⟨w.heap.size, 0, none⟩ = some (.slice A n c)) (first | exact q0 | exact D0.out | (simp [go_sem]; done) | (simp [go_sem, *]; done) | go_keep)
      (first
        | (go_at_call 31; go_must (refine (HBE.out _ (HS.out.bel (below_drew HB.out))).mono ?_; rintro e w1 ⟨rfl, hb⟩; replace HB := hide (Below.step (below_drew HB.out) hb); replace HBX := hide (HBX.out.drew.step hb); replace HB2 := hide (HB2.out.drew.step hb); clear hb; have q0 : w1.cell? ⟨w.heap.size, 0, none⟩ = some (.slice A n c) := HBX.out.now.cell 0))
        | (go_at_call 44; go_must (refine (HCE.out _ (HS'.out.bel HB.out)).mono ?_; rintro e w2 ⟨rfl, hb⟩; replace HB := hide (Below.step HB.out hb); replace HBX := hide (HBX.out.step hb); replace HB2 := hide (HB2.out.step hb); clear hb; replace q0 : w2.cell? ⟨w.heap.size, 0, none⟩ = some (.slice A n c) := HBX.out.now.cell 0))
        | (go_at_call 36; go_must (refine (unless_any _ _ _).mono ?_; rintro e w' ⟨rfl, rfl⟩))
        | (go_at_call 35; go_must (refine (first3 _ _ _ _ _ (by simp)).mono ?_; rintro e w' ⟨rfl, rfl⟩; rw [HEE.out])))
    all_goals
      generalize hW5 : World.alloc w2 _ = W5
      have hb5 : Below w2.heap.size w2 W5 := by rw [← hW5]; exact (Below.refl _ _).alloc (Nat.le_refl _) _
      replace HB := hide (Below.step HB.out hb5)
      replace HB2 := hide (HB2.out.step hb5)
      clear hW5 hb5 HBX
      have f0 := HB2.out.now.frozen 0
      have f1 := HB2.out.now.frozen 1
      have g0 : W5.cell? ⟨w.heap.size + 1, 0, none⟩ = some (.int .i64 0) := HB2.out.now.cell 0
      have g1 : W5.cell? ⟨w.heap.size + 1, 1, none⟩ = some (.int .i64 0) := HB2.out.now.cell 1
      go_wp2
      have hb3 := (HB2.out.now.set_ 0 (.int .i64 0)).set_ 1 (.int .i64 0)
      have hbel3 := (HB.out.setCell (p := ⟨w.heap.size + 1, 0, none⟩) (by simp) (.int .i64 0)).setCell (p := ⟨w.heap.size + 1, 1, none⟩) (by simp) (.int .i64 0)
      clear f0 f1 g0 g1
      revert hb3 hbel3
      generalize World.setCell _ _ _ = W
      intro hb3 hbel3
      have e0 : W.cell? ⟨w.heap.size + 1, 0, none⟩ = some (.int .i64 0) := hb3.cell 0
      have e1 : W.cell? ⟨w.heap.size + 1, 1, none⟩ = some (.int .i64 0) := hb3.cell 1
      refine bodyPost_ret (v := .tuple #[.agg #[.int .i64 0, .int .i64 0], .int .i64 E]) (by simp [results, Tryd.results22, go_sem, e0, e1]) rfl ⟨rfl, hbel3⟩
end Go.Proofs.YtamkannjdbodpaaDoor

namespace Go.Proofs.YtamkannjdbodpaaDoor
open Go.RowKit Go.WideShapes Go.ChangeShapes

end Go.Proofs.YtamkannjdbodpaaDoor
