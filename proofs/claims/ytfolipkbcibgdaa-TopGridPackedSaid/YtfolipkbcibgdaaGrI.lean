import Derived.Test.YtfolipkbcibgdaaGrH
namespace Go.Proofs.Ytfolipkbcibgdaa
open Go.RowKit Go.WideShapes Go.ChangeShapes

/-! the subcarriers and the slots of a signal -/
def subsN (st sh ce lo m : Nat) : List Nat := (List.range' lo m).filter (combB st sh ce)
theorem subsN_succ (st sh ce lo m : Nat) : subsN st sh ce lo (m + 1) = subsN st sh ce lo m ++ (if combB st sh ce (lo + m) = true then [lo + m] else []) := by
  unfold subsN
  rw [List.range'_1_concat, List.filter_append]
  congr 1
  cases h : combB st sh ce (lo + m) <;> simp [h]
theorem subsN_len (st sh ce lo m : Nat) : (subsN st sh ce lo m).length ≤ m := by
  unfold subsN
  have := List.length_filter_le (combB st sh ce) (List.range' lo m)
  rwa [List.length_range'] at this
def natI (l : List Nat) : List Int := l.map (fun (x : Nat) => (x : Int))
theorem natI_len (l : List Nat) : (natI l).length = l.length := by simp [natI]
theorem natI_append (a b : List Nat) : natI (a ++ b) = natI a ++ natI b := by simp [natI]
def IntsR (l : List Nat) (w : World) (e : Ending) (w' : World) : Prop := ∃ A c, e = .returned (.slice A l.length c) ∧ Sl w' A (iv (natI l)) ∧ Below w.heap.size w w'
set_option maxRecDepth 100000 in
set_option maxHeartbeats 8000000 in
theorem subcarriers_grid (nmv : Value) (wi kd pe of_ sl sy sn : Int) (b o pn pc : Nat) (SA : Option Addr) (sm sc pa bk bn st sh ce : Nat) (w : World) (hst : 1 ≤ st ∧ st ≤ 12) (hsh : sh < st) (hce : ce ≤ 1007) (hbk : bk + bn ≤ 24) :
    Calls Try.prog 61 #[.agg #[nmv, .int .i64 (ce : Int), .int .i64 wi, .slice (some ⟨b, o, none⟩) pn pc, .slice SA sm sc], .agg #[.int .i64 kd, .int .i64 (pa : Int), .int .i64 pe, .int .i64 of_, .int .i64 sl, .int .i64 sy, .int .i64 sn, .int .i64 (bk : Int), .int .i64 (bn : Int), .int .i64 (st : Int), .int .i64 (sh : Int)]] w (IntsR (subsN st sh ce (12 * bk) (12 * bn)) w) := by
  obtain ⟨i0, hi0, hz0, hz1, hz2⟩ := info_parts int_info
  have HH := hide (fun k W hk1 hk2 => has_grid nmv wi kd pe of_ sl sy sn b o pn pc SA sm sc pa bk bn st sh ce k W hst hsh hce hbk hk1 hk2)
  have HT : Hid (Stay ((w.alloc (.cells #[nmv, .int .i64 (ce : Int), .int .i64 wi, .slice (some ⟨b, o, none⟩) pn pc, .slice SA sm sc] 58)).alloc (.cells #[.int .i64 kd, .int .i64 (pa : Int), .int .i64 pe, .int .i64 of_, .int .i64 sl, .int .i64 sy, .int .i64 sn, .int .i64 (bk : Int), .int .i64 (bn : Int), .int .i64 (st : Int), .int .i64 (sh : Int)] 82)) (fun W => (Blk W w.heap.size 58 #[nmv, .int .i64 (ce : Int), .int .i64 wi, .slice (some ⟨b, o, none⟩) pn pc, .slice SA sm sc] ∧ Blk W (w.heap.size + 1) 82 #[.int .i64 kd, .int .i64 (pa : Int), .int .i64 pe, .int .i64 of_, .int .i64 sl, .int .i64 sy, .int .i64 sn, .int .i64 (bk : Int), .int .i64 (bn : Int), .int .i64 (st : Int), .int .i64 (sh : Int)]) ∧ Below w.heap.size w W)) := hide
    ((((stay_blk (Blk.new w 58 #[nmv, .int .i64 (ce : Int), .int .i64 wi, .slice (some ⟨b, o, none⟩) pn pc, .slice SA sm sc])).alloc (.cells #[.int .i64 kd, .int .i64 (pa : Int), .int .i64 pe, .int .i64 of_, .int .i64 sl, .int .i64 sy, .int .i64 sn, .int .i64 (bk : Int), .int .i64 (bn : Int), .int .i64 (st : Int), .int .i64 (sh : Int)] 82)).and (stay_blk (blk_up w 58 82 #[nmv, .int .i64 (ce : Int), .int .i64 wi, .slice (some ⟨b, o, none⟩) pn pc, .slice SA sm sc] #[.int .i64 kd, .int .i64 (pa : Int), .int .i64 pe, .int .i64 of_, .int .i64 sl, .int .i64 sy, .int .i64 sn, .int .i64 (bk : Int), .int .i64 (bn : Int), .int .i64 (st : Int), .int .i64 (sh : Int)]))).and (stay_below (((Below.refl _ w).alloc (Nat.le_refl _) (.cells #[nmv, .int .i64 (ce : Int), .int .i64 wi, .slice (some ⟨b, o, none⟩) pn pc, .slice SA sm sc] 58)).alloc (by simp) (.cells #[.int .i64 kd, .int .i64 (pa : Int), .int .i64 pe, .int .i64 of_, .int .i64 sl, .int .i64 sy, .int .i64 sn, .int .i64 (bk : Int), .int .i64 (bn : Int), .int .i64 (st : Int), .int .i64 (sh : Int)] 82))))
  have e1 : IntKind.i64.wrap (12 * (bk : Int)) = ((12 * bk : Nat) : Int) := by rw [IntWalk.i64_in _ (by omega)]; push_cast; rfl
  have e2 : IntKind.i64.wrap ((bk : Int) + (bn : Int)) = (bk : Int) + (bn : Int) := IntWalk.i64_in _ (by omega)
  have e3 : IntKind.i64.wrap (12 * ((bk : Int) + (bn : Int))) = ((12 * bk + 12 * bn : Nat) : Int) := by rw [IntWalk.i64_in _ (by omega)]; push_cast; omega
  obtain ⟨W0, hW0⟩ : ∃ W0, (w.alloc (.cells #[nmv, .int .i64 (ce : Int), .int .i64 wi, .slice (some ⟨b, o, none⟩) pn pc, .slice SA sm sc] 58)).alloc (.cells #[.int .i64 kd, .int .i64 (pa : Int), .int .i64 pe, .int .i64 of_, .int .i64 sl, .int .i64 sy, .int .i64 sn, .int .i64 (bk : Int), .int .i64 (bn : Int), .int .i64 (st : Int), .int .i64 (sh : Int)] 82) = W0 := ⟨_, rfl⟩
  have hW0' := hide hW0
  rw [hW0] at HT
  have a7 : W0.cell? ⟨w.heap.size + 1, 7, none⟩ = some (.int .i64 (bk : Int)) := HT.out.now.1.2.cell 7
  go_enter Try.func61, Try.ntmps61
  first | rw [hW0] | skip
  go_wp2_with fail
  clear hW0 a7
  go_loopw [5, 6] (fun v i wr => ∃ (m : Nat) (A : Option Addr) (c : Nat), m ≤ 12 * bn ∧ i = .int .i64 ((12 * bk + m : Nat) : Int) ∧ v = .slice A (subsN st sh ce (12 * bk) m).length c ∧ wr.ownsRow W0.heap.size 3 1 (.slice A (subsN st sh ce (12 * bk) m).length c) (subsN st sh ce (12 * bk) m).length (iv (natI (subsN st sh ce (12 * bk) m))) ∧ Below W0.heap.size W0 wr) (fun _ i _ => 12 * bk + 12 * bn - (intOf i).toNat)
  case atStart => exact ⟨0, none, 0, Nat.zero_le _, by simp, by simp [subsN], ⟨by simp [subsN, natI, iv], .inl ⟨by simp [subsN], by simp [subsN]⟩⟩, Below.refl _ _⟩
  case round =>
    obtain ⟨m, A, c, hm, rfl, rfl, hown, hbel⟩ := hrel
    have hHT := hide (HT.out.step hbel)
    have hl := subsN_len st sh ce (12 * bk) m
    have hsucc := hide (subsN_succ st sh ce (12 * bk) m)
    obtain ⟨L, hL⟩ : ∃ l, subsN st sh ce (12 * bk) m = l := ⟨_, rfl⟩
    rw [hL] at hown hl hsucc ⊢
    replace hown := hide hown
    replace hbel := hide hbel
    replace hL := hide hL
    have c0 : wr.cell? ⟨w.heap.size, 0, none⟩ = some (nmv) := hHT.out.now.1.1.cell 0
    have c1 : wr.cell? ⟨w.heap.size, 1, none⟩ = some (.int .i64 (ce : Int)) := hHT.out.now.1.1.cell 1
    have c2 : wr.cell? ⟨w.heap.size, 2, none⟩ = some (.int .i64 wi) := hHT.out.now.1.1.cell 2
    have c3 : wr.cell? ⟨w.heap.size, 3, none⟩ = some (.slice (some ⟨b, o, none⟩) pn pc) := hHT.out.now.1.1.cell 3
    have c4 : wr.cell? ⟨w.heap.size, 4, none⟩ = some (.slice SA sm sc) := hHT.out.now.1.1.cell 4
    have a0 : wr.cell? ⟨w.heap.size + 1, 0, none⟩ = some (.int .i64 kd) := hHT.out.now.1.2.cell 0
    have a1 : wr.cell? ⟨w.heap.size + 1, 1, none⟩ = some (.int .i64 (pa : Int)) := hHT.out.now.1.2.cell 1
    have a2 : wr.cell? ⟨w.heap.size + 1, 2, none⟩ = some (.int .i64 pe) := hHT.out.now.1.2.cell 2
    have a3 : wr.cell? ⟨w.heap.size + 1, 3, none⟩ = some (.int .i64 of_) := hHT.out.now.1.2.cell 3
    have a4 : wr.cell? ⟨w.heap.size + 1, 4, none⟩ = some (.int .i64 sl) := hHT.out.now.1.2.cell 4
    have a5 : wr.cell? ⟨w.heap.size + 1, 5, none⟩ = some (.int .i64 sy) := hHT.out.now.1.2.cell 5
    have a6 : wr.cell? ⟨w.heap.size + 1, 6, none⟩ = some (.int .i64 sn) := hHT.out.now.1.2.cell 6
    have a7 : wr.cell? ⟨w.heap.size + 1, 7, none⟩ = some (.int .i64 (bk : Int)) := hHT.out.now.1.2.cell 7
    have a8 : wr.cell? ⟨w.heap.size + 1, 8, none⟩ = some (.int .i64 (bn : Int)) := hHT.out.now.1.2.cell 8
    have a9 : wr.cell? ⟨w.heap.size + 1, 9, none⟩ = some (.int .i64 (st : Int)) := hHT.out.now.1.2.cell 9
    have a10 : wr.cell? ⟨w.heap.size + 1, 10, none⟩ = some (.int .i64 (sh : Int)) := hHT.out.now.1.2.cell 10
    by_cases hlt : m < 12 * bn
    · have hki : ((12 * bk + m : Nat) : Int) < ((12 * bk + 12 * bn : Nat) : Int) := by omega
      have hHas := hide (HH.out (12 * bk + m) wr (by omega) (by omega))
      obtain ⟨k, hk⟩ : ∃ k, 12 * bk + m = k := ⟨_, rfl⟩
      rw [hk] at hki hHas hsucc ⊢
      have hk2 : k < 300 := by omega
      cases hcb : combB st sh ce k
      · rw [hcb] at hHas hsucc
        clear hcb
        go_wp2_with (go_at_call 38; go_must (refine hHas.out.mono ?_; rintro e w1 ⟨rfl, hb⟩; have hbel1 := hide (Below.step hbel.out hb); have hown1 := hide (own_bel hown.out hb); clear hb c0 c1 c2 c3 c4 a0 a1 a2 a3 a4 a5 a6 a7 a8 a9 a10; simp only []))
        have hs2 : subsN st sh ce (12 * bk) (m + 1) = L := by rw [hsucc.out]; simp
        exact ⟨⟨m + 1, A, c, by omega, by go_num, by rw [hs2], by rw [hs2]; exact hown1.out, hbel1.out⟩, by simp [intOf]; omega⟩
      · rw [hcb] at hHas hsucc
        clear hcb
        have hl2 : L.length ≤ 300 := by omega
        go_wp2_with (first
          | (go_at_call 38; go_must (refine hHas.out.mono ?_; rintro e w1 ⟨rfl, hb⟩; have hbel1 := hide (Below.step hbel.out hb); have hown1 := hide (own_bel hown.out hb); clear hb c0 c1 c2 c3 c4 a0 a1 a2 a3 a4 a5 a6 a7 a8 a9 a10; simp only []))
          | (at_builtin; refine wpList_append_own _ rfl _ _ 103 rfl W0.heap.size 3 i0 (.int .i64 0) 1 8 Try.underlying103 hi0 hz0 hz1 hz2 rfl (by decide) _ L.length (iv (natI L)) rfl (hown1.out.alloc _) ⟨w1.heap.size, 0, none⟩ 1 1 [.int .i64 (k : Int)] rfl rfl (cell_one_new _ _ _) (by simp [Value.oneCell']) (by simp only [maxLen]; omega) (by omega) (Nat.le_trans hbel1.out.size (by simp)) ?_; intro v' w2 hown' hgrow _; obtain ⟨A2, c2, rfl⟩ := own_form hown'; have hbel2 := hide ((hbel1.out.alloc hbel1.out.size (.cells #[.int .i64 (k : Int)] 3)).grown hgrow (Nat.le_trans hbel1.out.size (by simp)) (fun j hj => (hown1.out.lt j hj).1)); replace hown' := hide hown'; clear hgrow hown1))
        have hs2 : subsN st sh ce (12 * bk) (m + 1) = L ++ [k] := by rw [hsucc.out]; simp
        exact ⟨⟨m + 1, A2, c2, by omega, by go_num, by rw [hs2, List.length_append]; rfl, by rw [hs2, natI_append, iv_append, List.length_append]; exact hown'.out, hbel2.out⟩, by simp [intOf]; omega⟩
    · obtain rfl : m = 12 * bn := by omega
      have hki : ¬ ((12 * bk + 12 * bn : Nat) : Int) < ((12 * bk + 12 * bn : Nat) : Int) := by omega
      have HS := hide (Sl.of_ownN hown.out)
      go_wp2_with fail
      go_ret
      exact ⟨A, c, by rw [hL.out]; rfl, by rw [hL.out]; exact HS.out, by have h1 := hHT.out.now.2; exact h1⟩
def slotsN (mu : Nat) (sl : Int) : List Nat := if sl = -1 then List.range (2 ^ mu) else [sl.toNat]
set_option maxRecDepth 100000 in
set_option maxHeartbeats 8000000 in
theorem slots_grid (nmv : Value) (wi kd pe of_ sl sy sn : Int) (b o pn pc : Nat) (SA : Option Addr) (sm sc pa bk bn st sh ce mu : Nat) (w : World) (hmu : mu ≤ 3) (hsl : sl = -1 ∨ 0 ≤ sl) (hpa : pa < pn) (h0 : w.cell? ⟨b, o + pa * 3, none⟩ = some (.int .i64 (mu : Int))) :
    Calls Try.prog 60 #[.agg #[nmv, .int .i64 (ce : Int), .int .i64 wi, .slice (some ⟨b, o, none⟩) pn pc, .slice SA sm sc], .agg #[.int .i64 kd, .int .i64 (pa : Int), .int .i64 pe, .int .i64 of_, .int .i64 sl, .int .i64 sy, .int .i64 sn, .int .i64 (bk : Int), .int .i64 (bn : Int), .int .i64 (st : Int), .int .i64 (sh : Int)]] w (IntsR (slotsN mu sl) w) := by
  obtain ⟨i0, hi0, hz0, hz1, hz2⟩ := info_parts int_info
  have hSO := hide (fun W => slotsOf_grid mu W hmu)
  have hpw := pw_bd mu hmu
  have HT : Hid (Stay ((w.alloc (.cells #[nmv, .int .i64 (ce : Int), .int .i64 wi, .slice (some ⟨b, o, none⟩) pn pc, .slice SA sm sc] 58)).alloc (.cells #[.int .i64 kd, .int .i64 (pa : Int), .int .i64 pe, .int .i64 of_, .int .i64 sl, .int .i64 sy, .int .i64 sn, .int .i64 (bk : Int), .int .i64 (bn : Int), .int .i64 (st : Int), .int .i64 (sh : Int)] 82)) (fun W => ((Blk W w.heap.size 58 #[nmv, .int .i64 (ce : Int), .int .i64 wi, .slice (some ⟨b, o, none⟩) pn pc, .slice SA sm sc] ∧ Blk W (w.heap.size + 1) 82 #[.int .i64 kd, .int .i64 (pa : Int), .int .i64 pe, .int .i64 of_, .int .i64 sl, .int .i64 sy, .int .i64 sn, .int .i64 (bk : Int), .int .i64 (bn : Int), .int .i64 (st : Int), .int .i64 (sh : Int)]) ∧ W.cell? ⟨b, o + pa * 3, none⟩ = some (.int .i64 (mu : Int))) ∧ Below w.heap.size w W)) := hide
    (((((stay_blk (Blk.new w 58 #[nmv, .int .i64 (ce : Int), .int .i64 wi, .slice (some ⟨b, o, none⟩) pn pc, .slice SA sm sc])).alloc (.cells #[.int .i64 kd, .int .i64 (pa : Int), .int .i64 pe, .int .i64 of_, .int .i64 sl, .int .i64 sy, .int .i64 sn, .int .i64 (bk : Int), .int .i64 (bn : Int), .int .i64 (st : Int), .int .i64 (sh : Int)] 82)).and (stay_blk (blk_up w 58 82 #[nmv, .int .i64 (ce : Int), .int .i64 wi, .slice (some ⟨b, o, none⟩) pn pc, .slice SA sm sc] #[.int .i64 kd, .int .i64 (pa : Int), .int .i64 pe, .int .i64 of_, .int .i64 sl, .int .i64 sy, .int .i64 sn, .int .i64 (bk : Int), .int .i64 (bn : Int), .int .i64 (st : Int), .int .i64 (sh : Int)]))).and (((stay_at h0).alloc (.cells #[nmv, .int .i64 (ce : Int), .int .i64 wi, .slice (some ⟨b, o, none⟩) pn pc, .slice SA sm sc] 58)).alloc (.cells #[.int .i64 kd, .int .i64 (pa : Int), .int .i64 pe, .int .i64 of_, .int .i64 sl, .int .i64 sy, .int .i64 sn, .int .i64 (bk : Int), .int .i64 (bn : Int), .int .i64 (st : Int), .int .i64 (sh : Int)] 82))).and (stay_below (((Below.refl _ w).alloc (Nat.le_refl _) (.cells #[nmv, .int .i64 (ce : Int), .int .i64 wi, .slice (some ⟨b, o, none⟩) pn pc, .slice SA sm sc] 58)).alloc (by simp) (.cells #[.int .i64 kd, .int .i64 (pa : Int), .int .i64 pe, .int .i64 of_, .int .i64 sl, .int .i64 sy, .int .i64 sn, .int .i64 (bk : Int), .int .i64 (bn : Int), .int .i64 (st : Int), .int .i64 (sh : Int)] 82))))
  have hpi : (pa : Int) < (pn : Int) := by omega
  clear h0
  obtain ⟨W0, hW0⟩ : ∃ W0, (w.alloc (.cells #[nmv, .int .i64 (ce : Int), .int .i64 wi, .slice (some ⟨b, o, none⟩) pn pc, .slice SA sm sc] 58)).alloc (.cells #[.int .i64 kd, .int .i64 (pa : Int), .int .i64 pe, .int .i64 of_, .int .i64 sl, .int .i64 sy, .int .i64 sn, .int .i64 (bk : Int), .int .i64 (bn : Int), .int .i64 (st : Int), .int .i64 (sh : Int)] 82) = W0 := ⟨_, rfl⟩
  rw [hW0] at HT
  have a1 : W0.cell? ⟨w.heap.size + 1, 1, none⟩ = some (.int .i64 (pa : Int)) := HT.out.now.1.1.2.cell 1
  have a4 : W0.cell? ⟨w.heap.size + 1, 4, none⟩ = some (.int .i64 sl) := HT.out.now.1.1.2.cell 4
  have c3 : W0.cell? ⟨w.heap.size, 3, none⟩ = some (.slice (some ⟨b, o, none⟩) pn pc) := HT.out.now.1.1.1.cell 3
  have t0 := HT.out.now.1.2
  by_cases hm1 : sl = -1
  · have hb1 : (sl != -1) = false := by simp [hm1]
    have hN : slotsN mu sl = List.range (2 ^ mu) := by unfold slotsN; rw [if_pos hm1]
    rw [hN]
    obtain ⟨V, hV⟩ : ∃ V, 2 ^ mu = V := ⟨_, rfl⟩
    rw [hV] at hSO hpw ⊢
    clear hm1 hN hV hsl
    go_enter Try.func60, Try.ntmps60
    first | rw [hW0] | skip
    go_wp2_with (go_at_call 25; go_must (refine (hSO.out _).mono ?_; rintro e w' ⟨rfl, rfl⟩; simp only []))
    clear a1 a4 c3 t0 hW0
    go_loopw [5, 22] (fun v i wr => ∃ (m : Nat) (A : Option Addr) (c : Nat), m ≤ V ∧ i = .int .i64 (m : Int) ∧ v = .slice A m c ∧ wr.ownsRow W0.heap.size 3 1 (.slice A m c) m (iv (natI (List.range m))) ∧ Below W0.heap.size W0 wr) (fun _ i _ => V - (intOf i).toNat)
    case atStart => exact ⟨0, none, 0, Nat.zero_le _, rfl, rfl, ⟨rfl, .inl ⟨rfl, rfl⟩⟩, Below.refl _ _⟩
    case round =>
      obtain ⟨m, A, c, hm, rfl, rfl, hown, hbel⟩ := hrel
      replace hown := hide hown
      replace hbel := hide hbel
      by_cases hlt : m < V
      · have hki : (m : Int) < (V : Int) := by omega
        go_wp2_with (at_builtin; refine wpList_append_own _ rfl _ _ 103 rfl W0.heap.size 3 i0 (.int .i64 0) 1 8 Try.underlying103 hi0 hz0 hz1 hz2 rfl (by decide) _ m (iv (natI (List.range m))) rfl (hown.out.alloc _) ⟨wr.heap.size, 0, none⟩ 1 1 [.int .i64 (m : Int)] rfl rfl (cell_one_new _ _ _) (by simp [Value.oneCell']) (by simp only [maxLen]; omega) (by omega) (Nat.le_trans hbel.out.size (by simp)) ?_; intro v' w2 hown' hgrow _; obtain ⟨A2, c2, rfl⟩ := own_form hown'; have hbel2 := hide ((hbel.out.alloc hbel.out.size (.cells #[.int .i64 (m : Int)] 3)).grown hgrow (Nat.le_trans hbel.out.size (by simp)) (fun j hj => (hown.out.lt j hj).1)); replace hown' := hide hown'; clear hgrow)
        exact ⟨⟨m + 1, A2, c2, by omega, by go_num, rfl, by rw [List.range_succ, natI_append, iv_append]; exact hown'.out, hbel2.out⟩, by simp [intOf]; omega⟩
      · obtain rfl : m = V := by omega
        have hki : ¬ (m : Int) < (m : Int) := by omega
        have HS := hide (Sl.of_ownN hown.out)
        have HB := hide (HT.out _ hbel.out).2
        go_wp2_with fail
        go_ret
        exact ⟨A, c, by rw [List.length_range]; rfl, HS.out, HB.out⟩
  · have hb1 : (sl != -1) = true := by rw [bne_iff_ne]; exact hm1
    have hN : slotsN mu sl = [sl.toNat] := by unfold slotsN; rw [if_neg hm1]
    have hI : natI [sl.toNat] = [sl] := by simp [natI]; omega
    rw [hN]
    have HB := hide (HT.out _ ((Below.refl _ W0).alloc (Nat.le_refl _) (.cells #[.int .i64 sl] 3))).2
    have HS := hide (Sl.new W0 (iv [sl]) 3 W0.heap.size rfl)
    clear hm1 hN hsl
    go_enter Try.func60, Try.ntmps60
    first | rw [hW0] | skip
    go_wp2_with fail
    go_ret
    exact ⟨_, _, rfl, by rw [hI]; exact HS.out, HB.out⟩
end Go.Proofs.Ytfolipkbcibgdaa
