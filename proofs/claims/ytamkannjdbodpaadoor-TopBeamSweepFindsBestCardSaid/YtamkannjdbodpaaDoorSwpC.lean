import Derived.Test.YtamkannjdbodpaaDoorTxS
import Derived.Test.YtamkannjdbodpaaDoorSortJ
namespace Go.Proofs.YtamkannjdbodpaaDoor
open Go.RowKit Go.WideShapes Go.ChangeShapes

/-- the power of a beam, as a pair -/
def pwP (h : List (Int × Int)) (l : List Int) : Int × Int := ((pow l h).P, (pow l h).Q)
/-- beam i has greater power than beam j -/
def gtB (bs : List (List Int)) (h : List (Int × Int)) (i j : Nat) : Bool := gtPQ (pwP h (bs[i]?.getD [])) (pwP h (bs[j]?.getD []))
theorem gtB_weak (bs : List (List Int)) (h : List (Int × Int)) : Weak (gtB bs h) := ⟨fun _ _ k => gtPQ_asymm k, fun _ _ _ k k' => gtPQ_trans k k'⟩
def cmpB (bs : List (List Int)) (h : List (Int × Int)) (i j : Nat) : Int := sgnPQ ((pwP h (bs[j]?.getD [])).1 - (pwP h (bs[i]?.getD [])).1) ((pwP h (bs[j]?.getD [])).2 - (pwP h (bs[i]?.getD [])).2)
theorem cmpB_gt (bs : List (List Int)) (h : List (Int × Int)) (i j : Nat) : decide (cmpB bs h i j < 0) = gtB bs h i j := by
  unfold cmpB gtB gtPQ
  have := sgnneg ((pwP h (bs[i]?.getD [])).1 - (pwP h (bs[j]?.getD [])).1) ((pwP h (bs[i]?.getD [])).2 - (pwP h (bs[j]?.getD [])).2)
  rw [show -((pwP h (bs[i]?.getD [])).1 - (pwP h (bs[j]?.getD [])).1) = (pwP h (bs[j]?.getD [])).1 - (pwP h (bs[i]?.getD [])).1 by omega, show -((pwP h (bs[i]?.getD [])).2 - (pwP h (bs[j]?.getD [])).2) = (pwP h (bs[j]?.getD [])).2 - (pwP h (bs[i]?.getD [])).2 by omega] at this
  rw [this]
  by_cases q : 0 < sgnPQ ((pwP h (bs[i]?.getD [])).1 - (pwP h (bs[j]?.getD [])).1) ((pwP h (bs[i]?.getD [])).2 - (pwP h (bs[j]?.getD [])).2)
  · rw [decide_eq_true q, decide_eq_true (by omega)]
  · rw [decide_eq_false q, decide_eq_false (by omega)]
theorem sq_bd {a m : Int} (h1 : -m ≤ a) (h2 : a ≤ m) (b : Int) (h3 : -m ≤ b) (h4 : b ≤ m) : -(m * m) ≤ a * b ∧ a * b ≤ m * m := by
  have hm : 0 ≤ m := by omega
  have k1 : a * b ≤ m * m ∧ -(m * m) ≤ a * b := by
    rcases Int.le_total 0 a with ha | ha <;> rcases Int.le_total 0 b with hb | hb
    · have := Int.mul_le_mul h2 h4 hb hm; have := Int.mul_nonneg ha hb; omega
    · have k := Int.mul_le_mul h2 (show -b ≤ m by omega) (by omega) hm
      have k2 := Int.mul_nonneg ha (show 0 ≤ -b by omega)
      have e : a * -b = -(a * b) := by grind
      rw [e] at k k2; omega
    · have k := Int.mul_le_mul (show -a ≤ m by omega) h4 hb hm
      have k2 := Int.mul_nonneg (show 0 ≤ -a by omega) hb
      have e : -a * b = -(a * b) := by grind
      rw [e] at k k2; omega
    · have k := Int.mul_le_mul (show -a ≤ m by omega) (show -b ≤ m by omega) (by omega) hm
      have k2 := Int.mul_nonneg (show 0 ≤ -a by omega) (show 0 ≤ -b by omega)
      have e : -a * -b = a * b := by grind
      rw [e] at k k2; omega
  exact ⟨k1.2, k1.1⟩
theorem pq_bd {x : Q4} (h : x.le 480) : -1000000 ≤ x.P ∧ x.P ≤ 1000000 ∧ -1000000 ≤ x.Q ∧ x.Q ≤ 1000000 := by
  unfold Q4.le at h
  obtain ⟨a1, a2, b1, b2, c1, c2, d1, d2⟩ := h
  have aa := sq_bd a1 a2 x.a a1 a2
  have bb := sq_bd b1 b2 x.b b1 b2
  have cc := sq_bd c1 c2 x.c c1 c2
  have dd := sq_bd d1 d2 x.d d1 d2
  have ab := sq_bd a1 a2 x.b b1 b2
  have bc := sq_bd b1 b2 x.c c1 c2
  have cd := sq_bd c1 c2 x.d d1 d2
  have da := sq_bd d1 d2 (-x.a) (by omega) (by omega)
  unfold Q4.P Q4.Q
  omega
/-- a book and a channel that may be swept -/
structure OkB (bs : List (List Int)) (h : List (Int × Int)) : Prop where
  pos : 0 < bs.length
  few : bs.length ≤ 16
  on_ : ∀ b ∈ bs, OnOk b
  len : ∀ b ∈ bs, b.length = h.length
  n8 : h.length ≤ 8
  sm : Small 30 h
theorem sweepE_ok {bs : List (List Int)} {h : List (Int × Int)} (e : sweepE bs h = 0) : OkB bs h := by
  have h1 := firstOf_ok e (bookE bs) (by simp)
  have h2 := firstOf_ok e (chE h) (by simp)
  have h3 := firstOf_ok e (unlessE (!(otherB h.length bs)) 13) (by simp)
  obtain ⟨a1, a2, a3⟩ := bookE_ok h1
  obtain ⟨-, b2⟩ := chE_ok h2
  have h4 : otherB h.length bs = false := by
    cases q : otherB h.length bs
    · rfl
    · rw [q] at h3; simp [unlessE] at h3
  refine ⟨a1, a2, fun b hb => (chk_ok b (a3 b hb)).2.2.1, fun b hb => ?_, b2.1, b2.2⟩
  have := List.any_eq_false.1 h4 b hb
  unfold neqB at this
  simpa using this
theorem OkB.bd {bs : List (List Int)} {h : List (Int × Int)} (H : OkB bs h) (l : List Int) (hl : l.length ≤ 8) : -1000000 ≤ (pwP h l).1 ∧ (pwP h l).1 ≤ 1000000 ∧ -1000000 ≤ (pwP h l).2 ∧ (pwP h l).2 ≤ 1000000 :=
  pq_bd ((powS_le H.sm _).mono (by have := onN_len l l.length; omega))

set_option maxRecDepth 100000 in
set_option maxHeartbeats 4000000 in
theorem sweep2_beam (bs : List (List Int)) (h : List (Int × Int)) (H : OkB bs h) (A : Option Addr) (c : Nat) (B : Option Addr) (kc p1 p2 i j : Nat) (w : World) (hs : BookAt w A bs) (hs' : Sl w B (gv h)) (hi : i < bs.length) (hj : j < bs.length)
    (c1 : w.cell? ⟨p1, 0, none⟩ = some (.slice A bs.length c)) (c2 : w.cell? ⟨p2, 0, none⟩ = some (.slice B h.length kc)) :
    Calls Tryd.prog 63 #[.int .i64 (i : Int), .int .i64 (j : Int), .pointer (some ⟨p1, 0, none⟩), .pointer (some ⟨p2, 0, none⟩)] w fun e w' => e = .returned (.int .i64 (cmpB bs h i j)) ∧ Below w.heap.size w w' := by
  obtain ⟨bb, oo, Bi, ki, rfl, ri, gi⟩ := hs.at_ hi
  obtain ⟨bb', oo', Bj, kj, hA, rj, gj⟩ := hs.at_ hj
  injection hA with hA
  injection hA with e1 e2
  subst e1 e2
  have li := H.len _ (List.getElem_mem hi)
  have lj := H.len _ (List.getElem_mem hj)
  have bdi := H.bd bs[i] (by have := H.n8; omega)
  have bdj := H.bd bs[j] (by have := H.n8; omega)
  have HPI := hide (fun W (k : Sl W Bi (iv bs[i])) (k' : Sl W B (gv h)) => power_beam Bi ki bs[i] B h.length kc h W k k' li rfl (by have := H.n8; omega) (H.on_ _ (List.getElem_mem hi)) H.sm)
  have HPJ := hide (fun W (k : Sl W Bj (iv bs[j])) (k' : Sl W B (gv h)) => power_beam Bj kj bs[j] B h.length kc h W k k' lj rfl (by have := H.n8; omega) (H.on_ _ (List.getElem_mem hj)) H.sm)
  have hV : cmpB bs h i j = sgnPQ ((pwP h bs[j]).1 - (pwP h bs[i]).1) ((pwP h bs[j]).2 - (pwP h bs[i]).2) := by unfold cmpB; rw [List.getElem?_eq_getElem hi, List.getElem?_eq_getElem hj]; rfl
  rw [li] at ri
  rw [lj] at rj
  have hm8 := H.n8
  rw [hV]
  obtain ⟨Pi, hPi⟩ : ∃ P, pwP h bs[i] = P := ⟨_, rfl⟩
  obtain ⟨Pj, hPj⟩ : ∃ P, pwP h bs[j] = P := ⟨_, rfl⟩
  rw [show (pow bs[i] h).P = Pi.1 by rw [← hPi]; rfl, show (pow bs[i] h).Q = Pi.2 by rw [← hPi]; rfl] at HPI
  rw [show (pow bs[j] h).P = Pj.1 by rw [← hPj]; rfl, show (pow bs[j] h).Q = Pj.2 by rw [← hPj]; rfl] at HPJ
  rw [hPi] at bdi
  rw [hPj] at bdj
  rw [hPi, hPj]
  have HCC := hide (fun W => compare_beam Pj.1 Pj.2 Pi.1 Pi.2 W (by omega) (by omega) (by omega) (by omega))
  have GI := hide gi
  have GJ := hide gj
  have HG := hide hs'
  obtain ⟨n, hn⟩ : ∃ n, bs.length = n := ⟨_, rfl⟩
  obtain ⟨m, hm⟩ : ∃ m, h.length = m := ⟨_, rfl⟩
  rw [hn] at hi hj c1
  rw [hm] at ri rj c2 HPI HPJ
  have HC1 := hide c1
  have HC2 := hide c2
  have HRI := hide ri
  have HRJ := hide rj
  have g1 : (i : Int) < (n : Int) := by omega
  have g2 : (j : Int) < (n : Int) := by omega
  clear hs hs' gi gj H li lj hV hPi hPj hn hm bdi bdj hm8
  go_enter Tryd.func63, Tryd.ntmps63
  go_wp2_with fail
  go_region_held3 (fun w' => w'.cell? ⟨p1, 0, none⟩ = some (.slice (some ⟨bb, oo, none⟩) n c) ∧ w'.cell? ⟨p2, 0, none⟩ = some (.slice B m kc) ∧ w'.cell? ⟨bb, oo + i, none⟩ = some (.slice Bi m ki) ∧ w'.cell? ⟨bb, oo + j, none⟩ = some (.slice Bj m kj)) (first | exact ⟨q1, q2, q3, q4⟩ | exact ⟨HC1.out, HC2.out, HRI.out, HRJ.out⟩ | go_keep)
    (first
      | (go_at_call 45; have qq := b5; go_must (refine (HPI.out _ (GI.out.bel b5) (HG.out.bel b5)).mono ?_; rintro e w6 ⟨rfl, hb⟩; have b6 := Below.step b5 hb; clear hb qq b5; replace q1 := b6.keeps HC1.out; replace q2 := b6.keeps HC2.out; replace q3 := b6.keeps HRI.out; replace q4 := b6.keeps HRJ.out))
      | (go_at_call 45; go_must (refine (HPJ.out _ (GJ.out.bel (below_drew (Below.refl _ _))) (HG.out.bel (below_drew (Below.refl _ _)))).mono ?_; rintro e w5 ⟨rfl, hb⟩; have b5 : Below w.heap.size w w5 := Below.step (below_drew (Below.refl _ _)) hb; clear hb; have q1 := b5.keeps HC1.out; have q2 := b5.keeps HC2.out; have q3 := b5.keeps HRI.out; have q4 := b5.keeps HRJ.out))
      | (go_at_call 43; go_must (refine (HCC.out _).mono ?_; rintro e w7 ⟨rfl, hb⟩; have b7 := Below.step b6 hb; clear hb; replace q1 := b7.keeps HC1.out; replace q2 := b7.keeps HC2.out; replace q3 := b7.keeps HRI.out; replace q4 := b7.keeps HRJ.out)))
  go_wp2
  go_ret
  exact ⟨rfl, b7⟩
end Go.Proofs.YtamkannjdbodpaaDoor

namespace Go.Proofs.YtamkannjdbodpaaDoor
open Go.RowKit Go.WideShapes Go.ChangeShapes

/-- numbers as the program holds them -/
def zs (S : List Nat) : List Int := S.map (fun i : Nat => (i : Int))
theorem zs_at (S : List Nat) (k : Nat) (hk : k < S.length) : (iv (zs S))[k]? = some (.int .i64 (S[k] : Int)) := by
  simp [iv, zs, hk]
theorem zs_todo (k : Nat) : zs (todo 0 (k + 1)) = zs (todo 0 k) ++ [(k : Int)] := by
  unfold zs todo
  rw [Nat.sub_zero, Nat.sub_zero, List.range'_concat, List.map_append]
  simp
theorem todo_len (k : Nat) : (zs (todo 0 k)).length = k := by simp [zs, todo]
theorem row_of_own {w : World} {base g cap n : Nat} {S : List Nat} (h : w.ownsRow base 3 1 (.slice (some ⟨g, 0, none⟩) n cap) n (iv (zs S))) (_hn : 0 < n) : RowOf w g S ∧ base ≤ g := by
  rcases h.2 with ⟨h1, _⟩ | ⟨g', cap', cur, hv, hb, hh, _⟩
  · cases h1
  · injection hv with hv
    injection hv with hv
    injection hv with hv
    subst hv
    have hb2 : Blk w g 3 cur := hh
    refine ⟨⟨cur, hb2, fun k hk => ?_⟩, hb⟩
    have := h.cells (g := g) rfl k _ (zs_at S k hk)
    rw [add_lit] at this
    rw [← hb2.cell k]
    simpa using this
theorem sl_of_row {w : World} {G : Nat} {S : List Nat} (h : RowOf w G S) : Sl w (some ⟨G, 0, none⟩) (iv (zs S)) := fun k hk => by
  have hk' : k < S.length := by simpa [iv, zs] using hk
  refine ⟨G, 0, rfl, ?_⟩
  have := (h.at_ hk').1
  rw [Nat.zero_add, this]
  simp [iv, zs]

set_option maxRecDepth 100000 in
set_option maxHeartbeats 4000000 in
theorem sweep_err (A : Option Addr) (c : Nat) (bs : List (List Int)) (B : Option Addr) (kc : Nat) (h : List (Int × Int)) (w : World) (hs : BookAt w A bs) (hs' : Sl w B (gv h)) (hl : ∀ b ∈ bs, b.length ≤ 100) (hn : bs.length ≤ 100) (hm : h.length ≤ 100) (he : sweepE bs h ≠ 0) :
    Calls Tryd.prog 40 #[.slice A bs.length c, .slice B h.length kc] w fun e w' => e = .returned (.tuple #[.slice none 0 0, .int .i64 (sweepE bs h)]) ∧ Below w.heap.size w w' := by
  have HBE := hide (fun W hb => bookErr_beam A c bs W hb hl hn)
  have HCE := hide (fun W hb => channelErr_beam B kc h W hb (by omega))
  have hne : (sweepE bs h != 0) = true := by rw [bne_iff_ne]; exact he
  have hee : firstOf [bookE bs, chE h, unlessE (!(otherB h.length bs)) 13] = sweepE bs h := rfl
  obtain ⟨E, hE⟩ : ∃ E, sweepE bs h = E := ⟨_, rfl⟩
  have HCO := hide (fun W g k' hb hg => containsL A c bs g B h.length k' W hb (by omega) hg)
  rw [hE] at hne hee
  rw [hE]
  obtain ⟨m, hm'⟩ : ∃ m, h.length = m := ⟨_, rfl⟩
  obtain ⟨n, hn'⟩ : ∃ n, bs.length = n := ⟨_, rfl⟩
  rw [hm'] at HCE hee HCO
  rw [hn'] at HBE HCO
  rw [hm', hn']
  obtain ⟨o, ho⟩ : ∃ o, otherB m bs = o := ⟨_, rfl⟩
  rw [ho] at hee HCO
  have HEE := hide hee
  have HS := hide hs
  have HS' := hide hs'
  have HB := hide (((Below.refl w.heap.size w).alloc (Nat.le_refl _) (.cells #[.slice A n c] 42)).alloc (by simp) (.cells #[.slice B m kc] 40))
  have HX1 := hide ((stay_new w 42 #[.slice A n c]).alloc (.cells #[.slice B m kc] 40))
  have HX2 := hide (show Stay ((w.alloc (.cells #[.slice A n c] 42)).alloc (.cells #[.slice B m kc] 40)) (fun W => Blk W (w.heap.size + 1) 40 #[.slice B m kc]) by have := stay_new (w.alloc (.cells #[.slice A n c] 42)) 40 #[.slice B m kc]; rw [World.size_alloc] at this; exact this)
  clear hs hs' he hE hm' hn' ho hl hn hm hee
  go_enter Tryd.func40, Tryd.ntmps40
  go_wp2_with (go_at_call 59; go_must (refine (HCO.out _ _ _ (HS.out.bel HB.out) (HX2.out.now.cell 0)).mono ?_; rintro e w1 ⟨rfl, hb⟩; replace HB := hide (Below.step HB.out hb); replace HX1 := hide (HX1.out.step hb); replace HX2 := hide (HX2.out.step hb); clear hb; have q1 : w1.cell? ⟨w.heap.size, 0, none⟩ = some (.slice A n c) := HX1.out.now.cell 0; have q2 : w1.cell? ⟨w.heap.size + 1, 0, none⟩ = some (.slice B m kc) := HX2.out.now.cell 0; simp only []))
  go_region_held3 (fun w' => w'.cell? ⟨w.heap.size, 0, none⟩ = some (.slice A n c) ∧ w'.cell? ⟨w.heap.size + 1, 0, none⟩ = some (.slice B m kc)) (first | exact ⟨q1, q2⟩ | (simp [go_sem]; done) | (simp [go_sem, *]; done) | go_keep)
    (first
      | (go_at_call 61; go_must (refine (HBE.out _ (HS.out.bel (below_drew HB.out))).mono ?_; rintro e w2 ⟨rfl, hb⟩; replace HB := hide (Below.step (below_drew HB.out) hb); replace HX1 := hide (HX1.out.drew.step hb); replace HX2 := hide (HX2.out.drew.step hb); clear hb; replace q1 : w2.cell? ⟨w.heap.size, 0, none⟩ = some (.slice A n c) := HX1.out.now.cell 0; replace q2 : w2.cell? ⟨w.heap.size + 1, 0, none⟩ = some (.slice B m kc) := HX2.out.now.cell 0))
      | (go_at_call 44; go_must (refine (HCE.out _ (HS'.out.bel HB.out)).mono ?_; rintro e w3 ⟨rfl, hb⟩; replace HB := hide (Below.step HB.out hb); replace HX1 := hide (HX1.out.step hb); replace HX2 := hide (HX2.out.step hb); clear hb; replace q1 : w3.cell? ⟨w.heap.size, 0, none⟩ = some (.slice A n c) := HX1.out.now.cell 0; replace q2 : w3.cell? ⟨w.heap.size + 1, 0, none⟩ = some (.slice B m kc) := HX2.out.now.cell 0))
      | (go_at_call 36; go_must (refine (unless_any _ _ _).mono ?_; rintro e w' ⟨rfl, rfl⟩))
      | (go_at_call 35; go_must (refine (first3 _ _ _ _ _ (by simp)).mono ?_; rintro e w' ⟨rfl, rfl⟩; rw [HEE.out])))
  all_goals
    go_wp2
    go_ret2
    exact ⟨rfl, HB.out.alloc HB.out.size _⟩

/-- a sweep's answer -/
def RetSweep (w : World) (gt : Nat → Nat → Bool) (n : Nat) (e : Ending) (w' : World) : Prop :=
  ∃ G c' S, e = .returned (.tuple #[.slice (some ⟨G, 0, none⟩) n c', .int .i64 0]) ∧ Sorted gt n S ∧ Sl w' (some ⟨G, 0, none⟩) (iv (zs S)) ∧ Below w.heap.size w w' ∧ n ≤ c'
set_option maxRecDepth 100000 in
set_option maxHeartbeats 4000000 in
theorem sweep_ok (A : Option Addr) (c : Nat) (bs : List (List Int)) (B : Option Addr) (kc : Nat) (h : List (Int × Int)) (w : World) (hs : BookAt w A bs) (hs' : Sl w B (gv h)) (hl : ∀ b ∈ bs, b.length ≤ 100) (hm : h.length ≤ 100) (he : sweepE bs h = 0) :
    Calls Tryd.prog 40 #[.slice A bs.length c, .slice B h.length kc] w (RetSweep w (gtB bs h) bs.length) := by
  obtain ⟨i0, hi0, hz0, hz1, hz2⟩ := info_parts int_info
  have hok := sweepE_ok he
  have hn16 := hok.few
  have hn1 := hok.pos
  have HBE := hide (fun W hb => bookErr_beam A c bs W hb hl (by omega))
  have HCE := hide (fun W hb => channelErr_beam B kc h W hb (by omega))
  have hne : (sweepE bs h != 0) = false := by rw [bne_eq_false_iff_eq]; exact he
  have hee : firstOf [bookE bs, chE h, unlessE (!(otherB h.length bs)) 13] = 0 := he
  have HCO := hide (fun W g k' hb hg => containsL A c bs g B h.length k' W hb (by omega) hg)
  have HST := hide (fun G cap p1 p2 Inv h1 h2 h3 W h4 h5 => sortStable (gtB bs h) (gtB_weak bs h) (cmpB bs h) (cmpB_gt bs h) G bs.length cap p1 p2 (by omega) (by omega) Inv h1 h2 h3 W h4 h5)
  have HCM := hide (fun p1 p2 i j W k1 k2 k3 k4 k5 k6 => sweep2_beam bs h hok A c B kc p1 p2 i j W k1 k2 k3 k4 k5 k6)
  rw [he] at hne
  obtain ⟨m, hm'⟩ : ∃ m, h.length = m := ⟨_, rfl⟩
  obtain ⟨n, hn'⟩ : ∃ n, bs.length = n := ⟨_, rfl⟩
  rw [hm'] at HCE hee HCO HCM
  rw [hn'] at HBE HCO HST hn16 hn1 HCM
  rw [hm', hn']
  obtain ⟨o, ho⟩ : ∃ o, otherB m bs = o := ⟨_, rfl⟩
  rw [ho] at hee HCO
  have HEE := hide hee
  have HS := hide hs
  have HS' := hide hs'
  have HB := hide (((Below.refl w.heap.size w).alloc (Nat.le_refl _) (.cells #[.slice A n c] 42)).alloc (by simp) (.cells #[.slice B m kc] 40))
  have HX1 := hide ((stay_new w 42 #[.slice A n c]).alloc (.cells #[.slice B m kc] 40))
  have HX2 := hide (show Stay ((w.alloc (.cells #[.slice A n c] 42)).alloc (.cells #[.slice B m kc] 40)) (fun W => Blk W (w.heap.size + 1) 40 #[.slice B m kc]) by have := stay_new (w.alloc (.cells #[.slice A n c] 42)) 40 #[.slice B m kc]; rw [World.size_alloc] at this; exact this)
  obtain ⟨GT, hGT⟩ : ∃ g, gtB bs h = g := ⟨_, rfl⟩
  obtain ⟨CF, hCF⟩ : ∃ g, cmpB bs h = g := ⟨_, rfl⟩
  rw [hGT, hCF] at HST
  rw [hCF] at HCM
  rw [hGT]
  clear hs hs' he hm' hn' ho hl hm hee hok hGT hCF
  go_enter Tryd.func40, Tryd.ntmps40
  go_wp2_with (go_at_call 59; go_must (refine (HCO.out _ _ _ (HS.out.bel HB.out) (HX2.out.now.cell 0)).mono ?_; rintro e w1 ⟨rfl, hb⟩; replace HB := hide (Below.step HB.out hb); replace HX1 := hide (HX1.out.step hb); replace HX2 := hide (HX2.out.step hb); clear hb; have q1 : w1.cell? ⟨w.heap.size, 0, none⟩ = some (.slice A n c) := HX1.out.now.cell 0; have q2 : w1.cell? ⟨w.heap.size + 1, 0, none⟩ = some (.slice B m kc) := HX2.out.now.cell 0; simp only []))
  go_region_held3 (fun w' => w'.cell? ⟨w.heap.size, 0, none⟩ = some (.slice A n c) ∧ w'.cell? ⟨w.heap.size + 1, 0, none⟩ = some (.slice B m kc)) (first | exact ⟨q1, q2⟩ | (simp [go_sem]; done) | (simp [go_sem, *]; done) | go_keep)
    (first
      | (go_at_call 61; go_must (refine (HBE.out _ (HS.out.bel (below_drew HB.out))).mono ?_; rintro e w2 ⟨rfl, hb⟩; replace HB := hide (Below.step (below_drew HB.out) hb); replace HX1 := hide (HX1.out.drew.step hb); replace HX2 := hide (HX2.out.drew.step hb); clear hb; replace q1 : w2.cell? ⟨w.heap.size, 0, none⟩ = some (.slice A n c) := HX1.out.now.cell 0; replace q2 : w2.cell? ⟨w.heap.size + 1, 0, none⟩ = some (.slice B m kc) := HX2.out.now.cell 0))
      | (go_at_call 44; go_must (refine (HCE.out _ (HS'.out.bel HB.out)).mono ?_; rintro e w3 ⟨rfl, hb⟩; replace HB := hide (Below.step HB.out hb); replace HX1 := hide (HX1.out.step hb); replace HX2 := hide (HX2.out.step hb); clear hb; replace q1 : w3.cell? ⟨w.heap.size, 0, none⟩ = some (.slice A n c) := HX1.out.now.cell 0; replace q2 : w3.cell? ⟨w.heap.size + 1, 0, none⟩ = some (.slice B m kc) := HX2.out.now.cell 0))
      | (go_at_call 36; go_must (refine (unless_any _ _ _).mono ?_; rintro e w' ⟨rfl, rfl⟩))
      | (go_at_call 35; go_must (refine (first3 _ _ _ _ _ (by simp)).mono ?_; rintro e w' ⟨rfl, rfl⟩; rw [HEE.out])))
  all_goals
    generalize hW5 : World.alloc w3 _ = W5
    have hb5 : Below w3.heap.size w3 W5 := by rw [← hW5]; exact (Below.refl _ _).alloc (Nat.le_refl _) _
    replace HB := hide (Below.step HB.out hb5)
    replace HX1 := hide (HX1.out.step hb5)
    replace HX2 := hide (HX2.out.step hb5)
    replace q1 : W5.cell? ⟨w.heap.size, 0, none⟩ = some (.slice A n c) := HX1.out.now.cell 0
    clear hW5 hb5 q2 HBE HCE HCO HEE
    go_wp2
    go_loopw [8, 27] (fun o i wr => ∃ (k : Nat) (P : Option Addr) (pc : Nat), k ≤ n ∧ i = .int .i64 k ∧ o = .slice P k pc ∧ wr.ownsRow w.heap.size 3 1 (.slice P k pc) k (iv (zs (todo 0 k))) ∧ Blk wr w.heap.size 42 #[.slice A n c] ∧ Blk wr (w.heap.size + 1) 40 #[.slice B m kc] ∧ Below w.heap.size w wr) (fun _ i _ => n - (intOf i).toNat)
    case atStart => exact ⟨0, none, 0, Nat.zero_le _, rfl, rfl, World.ownsRow_nil _ _ _ _, HX1.out.now, HX2.out.now, HB.out⟩
    case round =>
      clear HB HX1 HX2 q1
      obtain ⟨k, P, pc, hk, rfl, rfl, hrow, hx1, hx2, hbel⟩ := hrel
      have hbz := hbel.size
      by_cases hlt : k < n
      · have hlti : (k : Int) < (n : Int) := by omega
        have HROW := hide hrow
        clear hrow
        go_wp2_with (at_builtin; go_must (
             refine wpList_append_own _ rfl _ _ 22 rfl w.heap.size 3 i0 (.int .i64 0) 1 8 Tryd.underlying22 hi0 hz0 hz1 hz2 rfl (by decide) _ _ _ rfl (HROW.out.alloc _) ⟨wr.heap.size, 0, none⟩ 1 1 [.int .i64 k] rfl rfl (cell_one_new _ _ _) (by simp [Value.oneCell']) (by simp only [maxLen]; omega) (by omega) (by simp; omega) ?_
             intro v' w6 hown' hgrow _
             obtain ⟨P2, pc2, rfl⟩ := own_form hown'
             have hbel' := Below.app hbel HROW.out hgrow
             have hx1' := Blk.app hx1 HROW.out hgrow (by decide)
             have hx2' := Blk.app hx2 HROW.out hgrow (by decide)))
        go_roundw
        case rel => exact ⟨k + 1, P2, pc2, by omega, by go_num, rfl, by rw [zs_todo, iv_append]; exact hown', hx1', hx2', hbel'⟩
        case measure => simp [intOf]; omega
      · obtain rfl : k = n := by omega
        obtain ⟨g, cap, hv, _, _⟩ := hrow.form (by omega)
        injection hv with hP _ hcap
        subst hP
        subst hcap
        obtain ⟨hr, hgb⟩ := row_of_own hrow hn1
        have hne1 : g ≠ w.heap.size := fun e => own_blk_ne hrow hx1 (by decide) (by rw [← e]; rfl)
        have hne2 : g ≠ w.heap.size + 1 := fun e => own_blk_ne hrow hx2 (by decide) (by rw [← e]; rfl)
        have HSORT := hide (HST.out g pc w.heap.size (w.heap.size + 1) (fun W => Below w.heap.size w W ∧ Blk W w.heap.size 42 #[.slice A k c] ∧ Blk W (w.heap.size + 1) 40 #[.slice B m kc])
          (fun W W' ⟨a1, a2, a3⟩ hb => ⟨Below.step a1 hb, a2.below hb a2.lt, a3.below hb a3.lt⟩)
          (fun W p v ⟨a1, a2, a3⟩ hp => ⟨a1.setCell (by rw [hp]; exact hgb) v, a2.far (by rw [hp]; exact fun e => hne1 e.symm) v, a3.far (by rw [hp]; exact fun e => hne2 e.symm) v⟩)
          (fun W i j ⟨a1, a2, a3⟩ hi hj => HCM.out _ _ i j W (HS.out.bel a1) (HS'.out.bel a1) hi hj (a2.cell 0) (a3.cell 0))
          wr hr ⟨hbel, hx1, hx2⟩)
        have HCAP := hide (cap_of_own hrow)
        clear hrow hr hx1 hx2 hbel hne1 hne2
        go_wp2_with (go_at_call 62; go_must (refine HSORT.out.mono ?_; rintro e w7 ⟨rfl, ⟨b7, _, _⟩, S, hS, hrS⟩; have HSS := hide hS; have HRS := hide hrS; have B7 := hide b7; clear hS hrS b7; simp only []))
        go_ret2
        exact ⟨g, pc, S, rfl, HSS.out, sl_of_row HRS.out, B7.out, HCAP.out⟩
end Go.Proofs.YtamkannjdbodpaaDoor

namespace Go.Proofs.YtamkannjdbodpaaDoor
open Go.RowKit Go.WideShapes Go.ChangeShapes

section
variable {gt : Nat → Nat → Bool}
theorem Sorted.best (W : Weak gt) {n k : Nat} {S : List Nat} (hS : Sorted gt n S) (hk : k < S.length) : Best gt (S.take k) n (S[k] : Int) := by
  have hnd := nodup_srt W hS.srt
  have e := List.take_append_drop k S
  refine .inr ⟨S[k], rfl, (hS.mem _).1 (List.getElem_mem hk), fun hm => ?_, fun j hj hn => ?_⟩
  · rw [← e, List.nodup_append] at hnd
    refine hnd.2.2 _ hm S[k] ?_ rfl
    rw [List.drop_eq_getElem_cons hk]
    exact List.mem_cons_self
  · have hc : j ∈ S := (hS.mem j).2 hj
    rw [← e] at hc
    rcases List.mem_append.1 hc with hc | hc
    · exact absurd hc hn
    · rw [List.drop_eq_getElem_cons hk] at hc
      rcases List.mem_cons.1 hc with hc | hc
      · exact .inl hc
      · have hs := hS.srt
        unfold Srt at hs
        rw [← e, List.pairwise_append, List.drop_eq_getElem_cons hk, List.pairwise_cons] at hs
        exact .inr (hs.2.1.1 j hc)
theorem Sorted.uniq (W : Weak gt) {n : Nat} {S S' : List Nat} (h : Sorted gt n S) (h' : Sorted gt n S') : S = S' := by
  have key : ∀ k, k ≤ n → S.take k = S'.take k := by
    intro k
    induction k with
    | zero => intro _; rfl
    | succ k ih =>
      intro hk
      have ih := ih (by omega)
      have hkl : k < S.length := by rw [h.len]; omega
      have hb := h.best W hkl
      rw [ih] at hb
      obtain ⟨hk', e⟩ := Best.done W h' (by omega) hb
      rw [List.take_succ_eq_append_getElem hkl, List.take_succ_eq_append_getElem hk', ih]
      have : S[k] = S'[k] := by omega
      rw [this]
  have := key n (Nat.le_refl _)
  rwa [List.take_of_length_le (by rw [h.len]; omega), List.take_of_length_le (by rw [h'.len]; omega)] at this
theorem part (k : Nat) : ∀ R : List Nat, ∃ A B, R.reverse = A ++ B ∧ (∀ b ∈ B, gt k b = true) ∧ ∀ (h : A ≠ []), gt k (A.getLast h) = false
  | [] => ⟨[], [], rfl, by simp, fun h => absurd rfl h⟩
  | x :: r => by
    cases q : gt k x
    · exact ⟨(x :: r).reverse, [], by simp, by simp, fun h => by simpa using q⟩
    · obtain ⟨A, B, h1, h2, h3⟩ := part k r
      refine ⟨A, B ++ [x], by rw [List.reverse_cons, h1, List.append_assoc], fun b hb => ?_, h3⟩
      rcases List.mem_append.1 hb with hb | hb
      · exact h2 b hb
      · simp at hb; rw [hb]; exact q
theorem sorted_ex (W : Weak gt) : ∀ n, ∃ S, Sorted gt n S
  | 0 => ⟨[], rfl, fun i => by simp, List.Pairwise.nil⟩
  | n + 1 => by
    obtain ⟨S, hS⟩ := sorted_ex W n
    obtain ⟨A, B, h1, h2, h3⟩ := part (gt := gt) n S.reverse
    rw [List.reverse_reverse] at h1
    rw [h1] at hS
    exact ⟨_, hS.put W h2 h3⟩
end

theorem sweep_at (A : Option Addr) (c : Nat) (bs : List (List Int)) (B : Option Addr) (kc : Nat) (h : List (Int × Int)) (w : World) (hs : BookAt w A bs) (hs' : Sl w B (gv h)) (hl : ∀ b ∈ bs, b.length ≤ 100) (hm : h.length ≤ 100) (he : sweepE bs h = 0) (S : List Nat) (hS : Sorted (gtB bs h) bs.length S) :
    Calls Tryd.prog 40 #[.slice A bs.length c, .slice B h.length kc] w fun e w' => ∃ P c', e = .returned (.tuple #[.slice P bs.length c', .int .i64 0]) ∧ Sl w' P (iv (zs S)) ∧ Below w.heap.size w w' := by
  refine (sweep_ok A c bs B kc h w hs hs' hl hm he).mono ?_
  rintro e w' ⟨G, c', S', h1, h2, h3, h4, _⟩
  rw [← h2.uniq (gtB_weak bs h) hS]
  exact ⟨_, c', h1, h3, h4⟩

theorem sweep_atc (A : Option Addr) (c : Nat) (bs : List (List Int)) (B : Option Addr) (kc : Nat) (h : List (Int × Int)) (w : World) (hs : BookAt w A bs) (hs' : Sl w B (gv h)) (hl : ∀ b ∈ bs, b.length ≤ 100) (hm : h.length ≤ 100) (he : sweepE bs h = 0) (S : List Nat) (hS : Sorted (gtB bs h) bs.length S) :
    Calls Tryd.prog 40 #[.slice A bs.length c, .slice B h.length kc] w fun e w' => ∃ P c', e = .returned (.tuple #[.slice P bs.length c', .int .i64 0]) ∧ Sl w' P (iv (zs S)) ∧ Below w.heap.size w w' ∧ bs.length ≤ c' := by
  refine (sweep_ok A c bs B kc h w hs hs' hl hm he).mono ?_
  rintro e w' ⟨G, c', S', h1, h2, h3, h4, h5⟩
  rw [← h2.uniq (gtB_weak bs h) hS]
  exact ⟨_, c', h1, h3, h4, h5⟩

set_option maxRecDepth 100000 in
set_option maxHeartbeats 2000000 in
theorem bestOf_at (A : Option Addr) (c : Nat) (bs : List (List Int)) (B : Option Addr) (kc : Nat) (h : List (Int × Int)) (w : World) (hs : BookAt w A bs) (hs' : Sl w B (gv h)) (hl : ∀ b ∈ bs, b.length ≤ 100) (hm : h.length ≤ 100) (he : sweepE bs h = 0) (S : List Nat) (hS : Sorted (gtB bs h) bs.length S) :
    Calls Tryd.prog 18 #[.slice A bs.length c, .slice B h.length kc] w fun e w' => e = .returned (.tuple #[.int .i64 (S[0]?.getD 0 : Nat), .int .i64 0]) ∧ Below w.heap.size w w' := by
  have hpos := (sweepE_ok he).pos
  have h0 : 0 < S.length := by rw [hS.len]; exact hpos
  have HSW := hide (sweep_at A c bs B kc h w hs hs' hl hm he S hS)
  have hz : (iv (zs S))[0]? = some (.int .i64 ((S[0]?.getD 0 : Nat) : Int)) := by rw [zs_at S 0 h0, List.getElem?_eq_getElem h0]; rfl
  obtain ⟨z, hzz⟩ : ∃ z : Nat, S[0]?.getD 0 = z := ⟨_, rfl⟩
  rw [hzz] at hz
  rw [hzz]
  have hl0 : 0 < (iv (zs S)).length := by simp [iv, zs, h0]
  have HZ := hide hz
  obtain ⟨n, hn⟩ : ∃ n, bs.length = n := ⟨_, rfl⟩
  obtain ⟨m, hm'⟩ : ∃ m, h.length = m := ⟨_, rfl⟩
  rw [hn, hm'] at HSW
  rw [hn] at hpos
  rw [hn, hm']
  have g1 : (0 : Int) < (n : Int) := by omega
  have HL0 := hide hl0
  clear hs hs' hl hm he hS h0 hz hzz hn hm' hl0
  go_enter Tryd.func18, Tryd.ntmps18
  go_wp2_with (go_at_call 40; go_must (refine HSW.out.mono ?_; rintro e w1 ⟨P, c', rfl, hp, hb⟩; have B1 := hide hb; obtain ⟨b, off, rfl, hc⟩ := hp 0 HL0.out; have hc1 : w1.cell? ⟨b, off, none⟩ = some (.int .i64 (z : Int)) := (by have h2 := HZ.out; rw [List.getElem?_eq_getElem HL0.out] at h2; rw [← h2]; simpa using hc); clear hc hp hb; simp only []))
  go_ret2
  exact ⟨rfl, B1.out⟩

set_option maxRecDepth 100000 in
theorem bestOf_err (A : Option Addr) (c : Nat) (bs : List (List Int)) (B : Option Addr) (kc : Nat) (h : List (Int × Int)) (w : World) (hs : BookAt w A bs) (hs' : Sl w B (gv h)) (hl : ∀ b ∈ bs, b.length ≤ 100) (hn : bs.length ≤ 100) (hm : h.length ≤ 100) (he : sweepE bs h ≠ 0) :
    Calls Tryd.prog 18 #[.slice A bs.length c, .slice B h.length kc] w fun e w' => e = .returned (.tuple #[.int .i64 0, .int .i64 (sweepE bs h)]) ∧ Below w.heap.size w w' := by
  have HSW := hide (sweep_err A c bs B kc h w hs hs' hl hn hm he)
  have hne : (sweepE bs h != 0) = true := by rw [bne_iff_ne]; exact he
  clear hs hs' hl hm he hn
  go_enter Tryd.func18, Tryd.ntmps18
  go_wp2_with (go_at_call 40; go_must (refine HSW.out.mono ?_; rintro e w1 ⟨rfl, hb⟩; have B1 := hide hb; clear hb; simp only []))
  go_ret2
  exact ⟨rfl, B1.out⟩
end Go.Proofs.YtamkannjdbodpaaDoor
