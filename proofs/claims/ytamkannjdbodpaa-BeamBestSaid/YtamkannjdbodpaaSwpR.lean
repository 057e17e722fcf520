import Derived.Test.YtamkannjdbodpaaBeamA
import Derived.Test.YtamkannjdbodpaaSwpC
import Derived.Test.YtamkannjdbodpaaLargB
namespace Go.Proofs.Ytamkannjdbodpaa
open Go.RowKit Go.WideShapes Go.ChangeShapes

theorem takeHas {T : List Int} {x : Int} {k : Nat} (hk : k < T.length) (h : (T.take k).contains x = false) (hx : (T[k] == x) = false) : (T.take (k + 1)).contains x = false := by
  rw [List.take_succ_eq_append_getElem hk, List.contains_eq_any_beq, List.any_append, ← List.contains_eq_any_beq, h]
  have : (x == T[k]) = false := by rw [beq_eq_false_iff_ne] at *; exact fun e => hx e.symm
  simp [this]
theorem hasAt {T : List Int} {x : Int} {k : Nat} (hk : k < T.length) (hx : (T[k] == x) = true) : T.contains x = true := by
  rw [beq_iff_eq] at hx
  subst hx
  rw [List.contains_iff_mem]
  exact List.getElem_mem hk
theorem hasB (A : Option Addr) (c n : Nat) (T : List Int) (x : Int) (w : World) (hn : T.length = n) (hs : Sl w A (iv T)) (hl : n ≤ 1000000) :
    Calls Try.prog 89 #[.slice A n c, .int .i64 x] w fun e w' => e = .returned (.bool (T.contains x)) ∧ w = w' := by
  subst hn
  have HS := hide hs; clear hs
  obtain ⟨v, hv⟩ : ∃ v, T.contains x = v := ⟨_, rfl⟩
  rw [hv]
  have HV := hide hv; clear hv
  go_enter Try.func89, Try.ntmps89
  go_wp2
  go_loopw [5] (fun i wr => ∃ k : Nat, k ≤ T.length ∧ i = .int .i64 k ∧ (T.take k).contains x = false ∧ wr = w) (fun i _ => T.length - (intOf i).toNat)
  case atStart => exact ⟨0, Nat.zero_le _, rfl, by simp, rfl⟩
  case round =>
    obtain ⟨k, hk, rfl, he, rfl⟩ := hrel
    have HE := hide he; clear he
    by_cases hlt : k < T.length
    · obtain ⟨b1, o1, rfl, c1⟩ := HS.out.int hlt
      obtain ⟨z, hz⟩ : ∃ z, T[k] = z := ⟨_, rfl⟩
      rw [hz] at c1
      have g1 : (k : Int) < (T.length : Int) := by omega
      cases hx : (z == x)
      · have HX := hide (show (T[k] == x) = false by rw [hz]; exact hx)
        clear hz
        go_wp2
        go_roundw
        case rel => exact ⟨k + 1, by omega, by go_num, takeHas hlt HE.out HX.out, by trivial⟩
        case measure => simp [intOf]; omega
      · have HX := hide (show (T[k] == x) = true by rw [hz]; exact hx)
        clear hz
        go_wp2
        go_ret
        exact ⟨by rw [← HV.out, hasAt hlt HX.out]; rfl, rfl⟩
    · go_wp2
      go_ret
      exact ⟨by rw [← HV.out, ← HE.out, List.take_of_length_le (by omega)]; rfl, rfl⟩

end Go.Proofs.Ytamkannjdbodpaa

namespace Go.Proofs.Ytamkannjdbodpaa
open Go.RowKit Go.WideShapes Go.ChangeShapes

def lenV : Value → Nat
  | .slice _ k _ => k
  | _ => 0
theorem zs_has (T : List Nat) (i : Nat) : (zs T).contains (i : Int) = decide (i ∈ T) := by
  induction T with
  | nil => rfl
  | cons x r ih =>
    unfold zs at *
    rw [List.map_cons, List.contains_cons, ih]
    by_cases q : i = x
    · subst q; simp
    · have : ((i : Int) == (x : Int)) = false := by rw [beq_eq_false_iff_ne]; omega
      rw [this]; simp [q]
theorem zs_len (T : List Nat) : (zs T).length = T.length := by simp [zs]
theorem zs_take (S : List Nat) (k : Nat) (hk : k < S.length) : zs (S.take (k + 1)) = zs (S.take k) ++ [(S[k] : Int)] := by
  unfold zs
  rw [List.take_succ_eq_append_getElem hk, List.map_append]; rfl

set_option maxRecDepth 100000 in
set_option maxHeartbeats 8000000 in
theorem sweep_ref (A : Option Addr) (c : Nat) (bs : List (List Int)) (B : Option Addr) (kc : Nat) (h : List (Int × Int)) (w : World) (hs : BookAt w A bs) (hs' : Sl w B (gv h)) (he : sweepE bs h = 0) (S : List Nat) (hS : Sorted (gtB bs h) bs.length S) :
    Calls Try.prog 85 #[.slice A bs.length c, .slice B h.length kc] w fun e w' => ∃ P c', e = .returned (.slice P bs.length c') ∧ Sl w' P (iv (zs S)) ∧ Below w.heap.size w w' := by
  obtain ⟨i0, hi0, hz0, hz1, hz2⟩ := info_parts int_info
  have hok := sweepE_ok he
  have hn16 := hok.few
  have hW := gtB_weak bs h
  have HPW := hide (show ∀ i (hi : i < bs.length) (Bi : Option Addr) (ki : Nat) W, Sl W Bi (iv bs[i]) → Sl W B (gv h) → Calls Try.prog 88 #[.agg #[.slice Bi bs[i].length ki], .slice B h.length kc] W fun e w' => e = .returned (.agg #[.int .i64 (pwP h (bs[i]?.getD [])).1, .int .i64 (pwP h (bs[i]?.getD [])).2]) ∧ Below W.heap.size W w' from fun i hi Bi ki W k k' => by
    have li := hok.len _ (List.getElem_mem hi)
    have := powerOf_ref Bi ki bs[i] B h.length kc h W k k' li rfl (by have := hok.n8; omega) (hok.on_ _ (List.getElem_mem hi)) hok.sm
    rw [List.getElem?_eq_getElem hi]
    rw [li]
    exact this)
  have HLG := hide (show ∀ i (hi : i < bs.length) j (hj : j < bs.length) W, Calls Try.prog 33 #[.agg #[.int .i64 (pwP h (bs[i]?.getD [])).1, .int .i64 (pwP h (bs[i]?.getD [])).2], .agg #[.int .i64 (pwP h (bs[j]?.getD [])).1, .int .i64 (pwP h (bs[j]?.getD [])).2]] W fun e w' => ∃ v : Int, e = .returned (.int .i64 v) ∧ decide (0 < v) = gtB bs h i j ∧ Below W.heap.size W w' from fun i hi j hj W => by
    have li := hok.len _ (List.getElem_mem hi)
    have lj := hok.len _ (List.getElem_mem hj)
    have bi := hok.bd bs[i] (by have := hok.n8; omega)
    have bj := hok.bd bs[j] (by have := hok.n8; omega)
    unfold gtB gtPQ
    rw [List.getElem?_eq_getElem hi, List.getElem?_eq_getElem hj]
    simp only [Option.getD_some]
    refine (larger_ref _ _ _ _ (by unfold sqB withinB; simp; omega) (by unfold sqB withinB; simp; omega) W).mono ?_
    rintro e w' ⟨rfl, hb⟩
    exact ⟨_, rfl, rfl, hb⟩)
  have HS := hide hs
  have HS' := hide hs'
  have HSS := hide hS
  have HWK := hide hW
  have hlenS := hS.len
  obtain ⟨m, hm⟩ : ∃ m, h.length = m := ⟨_, rfl⟩
  rw [hm] at HPW
  rw [hm]
  obtain ⟨GT, hGT⟩ : ∃ g, gtB bs h = g := ⟨_, rfl⟩
  rw [hGT] at HLG HSS HWK
  obtain ⟨PW, hPW⟩ : ∃ f : Nat → Int × Int, (fun i => pwP h (bs[i]?.getD [])) = f := ⟨_, rfl⟩
  have HPWE := hide (show ∀ i, pwP h (bs[i]?.getD []) = PW i from fun i => by rw [← hPW])
  simp only [HPWE.out] at HPW HLG
  obtain ⟨n, hn⟩ : ∃ n, bs.length = n := ⟨_, rfl⟩
  rw [hn] at hn16 hlenS HSS
  have HN := hide hn
  clear hs hs' he hS hok hW hGT hPW HPWE hm
  rw [hn]
  clear hn
  go_enter Try.func85, Try.ntmps85
  go_wp2
  go_loopw [5] (fun o wr => ∃ (k : Nat) (P : Option Addr) (pc : Nat), k ≤ n ∧ o = .slice P k pc ∧ wr.ownsRow w.heap.size 3 1 (.slice P k pc) k (iv (zs (S.take k))) ∧ Below w.heap.size w wr) (fun o _ => n - lenV o)
  case atStart => exact ⟨0, none, 0, Nat.zero_le _, rfl, World.ownsRow_nil _ _ _ _, Below.refl _ _⟩
  case round =>
    obtain ⟨k, P, pc, hk, rfl, hrow, hbel⟩ := hrel
    have HROW := hide hrow; clear hrow
    by_cases hlt : k < n
    · have hlti : (k : Int) < (n : Int) := by omega
      obtain ⟨T, hT⟩ : ∃ T, S.take k = T := ⟨_, rfl⟩
      have hTl : T.length = k := by rw [← hT, List.length_take]; omega
      have HT := hide hT
      rw [hT] at HROW
      clear hT
      have HHAS0 := hide (show ∀ (j : Nat) W, Below wr.heap.size wr W → Calls Try.prog 89 #[.slice P k pc, .int .i64 (j : Int)] W fun e w' => e = .returned (.bool (decide (j ∈ T))) ∧ W = w' from fun j W hW => by
        have := hasB P pc k (zs T) (j : Int) W (by rw [zs_len, hTl]) ((Sl.of_own HROW.out).bel hW) (by omega)
        rwa [zs_has] at this)
      go_wp2
      go_loopw [6, 7] (fun b i w2 => ∃ (j : Nat) (z : Int), j ≤ n ∧ i = .int .i64 j ∧ b = .int .i64 z ∧ Best GT T j z ∧ Below wr.heap.size wr w2) (fun _ i _ => n - (intOf i).toNat)
      case atStart => exact ⟨0, -1, Nat.zero_le _, rfl, rfl, Best.zero T, Below.refl _ _⟩
      case round =>
        obtain ⟨j, z, hj, rfl, rfl, hb, hbel2⟩ := hrel
        have HBST := hide hb
        have hbd := hb.bound
        clear hb
        have HHAS := hide (HHAS0.out j)
        have HQ := hide (show ∀ q, Calls Try.prog 89 #[.slice P k pc, .int .i64 (j : Int)] (wr.drewN q) fun x w' => x = .returned (.bool (decide (j ∈ T))) ∧ ∃ m, w' = wr.drewN m from fun q => by
          have := HHAS.out _ (below_drewN hbel2 q)
          exact this.mono fun e w' ⟨h1, h2⟩ => ⟨h1, q, h2.symm⟩)
        by_cases hltj : j < n
        · have hltji : (j : Int) < (n : Int) := by omega
          by_cases hmem : j ∈ T
          · have HBN := hide (HBST.out.in_ hmem)
            rw [decide_eq_true hmem] at HQ
            clear hmem hbd HHAS
            go_wp2
            go_quiet (first | (go_at_call 89; exact HQ.out _))
            go_wp2
            go_roundw
            case rel => exact ⟨j + 1, z, by omega, by go_num, rfl, HBN.out, below_drewN hbel2 _⟩
            case measure => simp [intOf]; omega
          · have hmd : decide (j ∈ T) = false := decide_eq_false hmem
            rw [hmd] at HQ HHAS
            by_cases hz : z < 0
            · have hzd : decide (z < 0) = true := decide_eq_true hz
              have HBN := hide (HBST.out.first hz hmem)
              clear hmem hbd HHAS hz hmd
              go_wp2
              go_quiet (first | (go_at_call 89; exact HQ.out _))
              go_wp2
              go_roundw
              case rel => exact ⟨j + 1, j, by omega, by go_num, rfl, HBN.out, below_drewN hbel2 _⟩
              case measure => simp [intOf]; omega
            · obtain ⟨b, rfl, hbj⟩ := hbd.2.2 (by omega)
              have hzd : decide ((b : Int) < 0) = false := by rw [decide_eq_false_iff_not]; omega
              have hbn : b < n := by omega
              have hji : j < bs.length := by rw [HN.out]; exact hltj
              have hbi : b < bs.length := by rw [HN.out]; exact hbn
              obtain ⟨bb, oo, Bj, kj, hA1, rj, gj⟩ := (HS.out.bel (Below.step hbel hbel2)).at_ hji
              obtain ⟨bb', oo', Bb, kb, hA2, rb, gb⟩ := (HS.out.bel (Below.step hbel hbel2)).at_ hbi
              subst hA1
              injection hA2 with hA
              injection hA with hA1 hA2
              subst hA1 hA2
              have HPJ := hide (HPW.out j hji Bj kj)
              have HPB := hide (HPW.out b hbi Bb kb)
              have HLL := hide (HLG.out j hji b hbi)
              obtain ⟨lj, hlj⟩ : ∃ l, bs[j].length = l := ⟨_, rfl⟩
              obtain ⟨lb, hlb⟩ : ∃ l, bs[b].length = l := ⟨_, rfl⟩
              rw [hlj] at rj HPJ
              rw [hlb] at rb HPB
              obtain ⟨Lj, hLj⟩ : ∃ l, bs[j] = l := ⟨_, rfl⟩
              obtain ⟨Lb, hLb⟩ : ∃ l, bs[b] = l := ⟨_, rfl⟩
              rw [hLj] at gj HPJ
              rw [hLb] at gb HPB
              have GJ := hide gj
              have GB := hide gb
              have GH := hide (HS'.out.bel (Below.step hbel hbel2))
              have RJ := hide rj
              have RB := hide rb
              have hg1 : (0 : Int) ≤ (b : Int) := by omega
              have hg2 : (b : Int) < (n : Int) := by omega
              have HBEL2 := hide hbel2
              have HMEM := hide hmem
              clear hmem hbd hz hmd HQ gj gb hlj hlb hLj hLb hbel2
              go_wp2
              go_region_held3 (fun w' => w'.cell? ⟨bb, oo + j, none⟩ = some (.slice Bj lj kj) ∧ w'.cell? ⟨bb, oo + b, none⟩ = some (.slice Bb lb kb)) (first | exact ⟨q1, q2⟩ | exact ⟨RJ.out, RB.out⟩ | go_keep)
                (first
                  | (go_at_call 89; go_must (refine (HHAS.out _ (below_drew HBEL2.out)).mono ?_; rintro e w' ⟨rfl, rfl⟩))
                  | (go_at_call 88; have qq := b5; go_must (refine (HPB.out _ (GB.out.bel b5) (GH.out.bel b5)).mono ?_; rintro e w6 ⟨rfl, hb⟩; have b6 := Below.step b5 hb; clear hb qq b5; replace q1 := b6.keeps RJ.out; replace q2 := b6.keeps RB.out))
                  | (go_at_call 88; go_must (refine (HPJ.out _ (GJ.out.bel (below_drew (Below.refl _ _))) (GH.out.bel (below_drew (Below.refl _ _)))).mono ?_; rintro e w5 ⟨rfl, hb⟩; have b5 : Below wr.heap.size wr w5 := Below.step (below_drew (Below.refl _ _)) hb; clear hb; have q1 := b5.keeps RJ.out; have q2 := b5.keeps RB.out))
                  | (go_at_call 33; go_must (refine (HLL.out _).mono ?_; rintro e w7 ⟨v, rfl, hv, hb⟩; have b7 := Below.step b6 hb; clear hb; replace q1 := b7.keeps RJ.out; replace q2 := b7.keeps RB.out)))
              cases hgt : GT j b
              · rw [hgt] at hv
                have HBN := hide (HBST.out.stay hgt)
                have B7 := hide (Below.step HBEL2.out b7)
                clear hgt b7 q1 q2
                go_wp2
                go_roundw
                case rel => exact ⟨j + 1, b, by omega, by go_num, rfl, HBN.out, B7.out⟩
                case measure => simp [intOf]; omega
              · rw [hgt] at hv
                have HBN := hide (HBST.out.up HWK.out HMEM.out hgt)
                have B7 := hide (Below.step HBEL2.out b7)
                clear hgt b7 q1 q2
                go_wp2
                go_roundw
                case rel => exact ⟨j + 1, j, by omega, by go_num, rfl, HBN.out, B7.out⟩
                case measure => simp [intOf]; omega
        · obtain rfl : j = n := by omega
          have hkS : k < S.length := by rw [hlenS]; exact hlt
          have hdone := HBST.out
          rw [← HT.out] at hdone
          obtain ⟨_, rfl⟩ := Best.done HWK.out HSS.out hlt hdone
          have HZT := hide (zs_take S k hkS)
          have HROW2 := hide (own_bel HROW.out hbel2)
          have hbz := (Below.step hbel hbel2).size
          have HB2 := hide (Below.step hbel hbel2)
          rw [HT.out] at HZT
          clear hdone hbd HBST HHAS HQ hbel2
          go_wp2_with (at_builtin; go_must (
               refine wpList_append_own _ rfl _ _ 22 rfl w.heap.size 3 i0 (.int .i64 0) 1 8 Try.underlying22 hi0 hz0 hz1 hz2 rfl (by decide) _ _ _ rfl (HROW2.out.alloc _) ⟨wr.heap.size, 0, none⟩ 1 1 [.int .i64 (S[k] : Int)] rfl rfl (cell_one_new _ _ _) (by simp [Value.oneCell']) (by simp only [maxLen]; omega) (by omega) (by simp; omega) ?_
               intro v' w6 hown' hgrow _
               obtain ⟨P2, pc2, rfl⟩ := own_form hown'
               have hbel' := Below.app HB2.out HROW2.out hgrow))
          go_roundw
          case rel => exact ⟨k + 1, P2, pc2, by omega, rfl, by rw [HZT.out, iv_append]; exact hown', hbel'⟩
          case measure => simp [lenV]; omega
    · obtain rfl : k = n := by omega
      go_wp2
      go_ret
      exact ⟨P, pc, rfl, by have := Sl.of_own HROW.out; rwa [List.take_of_length_le (by omega)] at this, hbel⟩
end Go.Proofs.Ytamkannjdbodpaa
