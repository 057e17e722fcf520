import Derived.Test.YtppkibgemacdbaaMgd
namespace Go.Proofs.Ytppkibgemacdbaa
open Go.RowKit Go.WideShapes Go.ChangeShapes

/-! need, room and fit of any right bearers -/
theorem sumI_bd {M : Int} (_ : 0 ≤ M) : ∀ (l : List Int), (∀ x ∈ l, 0 ≤ x ∧ x ≤ M) → 0 ≤ sumI l ∧ sumI l ≤ (l.length : Int) * M := by
  intro l
  induction l with
  | nil => intro _; simp [sumI]
  | cons x l ih =>
    intro h
    have h1 := ih (fun y hy => h y (by simp [hy]))
    have h2 := h x (by simp)
    have e : ((x :: l).length : Int) * M = (l.length : Int) * M + M := by rw [List.length_cons, Int.natCast_add, Int.add_mul]; simp
    rw [e]
    simp only [sumI]
    generalize (l.length : Int) * M = Y at *
    omega
set_option maxRecDepth 100000 in
set_option maxHeartbeats 4000000 in
theorem need_zero (B C P : Int) (A : Option Addr) (c n : Nat) (x : Ber) (w : World) (hk : x.kd = 0) :
    Calls Try.prog 40 #[.agg #[.int .i64 B, .int .i64 C, .int .i64 P, .slice A n c], .agg #[strV x.nm, .int .i64 x.kd, .int .i64 x.pr, .int .i64 x.wt, .int .i64 x.pw, .int .i64 x.le, .int .i64 x.bu, .int .i64 x.ra, .int .i64 x.de]] w fun e w' => e = .returned (.agg #[.int .i64 0, .int .i64 0, .int .i64 0]) ∧ Below w.heap.size w w' := by
  have HG := hide (fun W => guaranteed_sched x.nm x.kd x.pr x.wt x.pw x.le x.bu x.ra x.de W)
  rw [hk] at HG
  rw [hk]
  have HT : Hid (Stay (((w.alloc (.cells #[.int .i64 B, .int .i64 C, .int .i64 P, .slice A n c] 74)).alloc (.cells #[strV x.nm, .int .i64 0, .int .i64 x.pr, .int .i64 x.wt, .int .i64 x.pw, .int .i64 x.le, .int .i64 x.bu, .int .i64 x.ra, .int .i64 x.de] 32)).alloc (.cells #[.int .i64 0, .int .i64 0, .int .i64 0] 51)) (fun W => (Blk W (w.heap.size + 1) 32 #[strV x.nm, .int .i64 0, .int .i64 x.pr, .int .i64 x.wt, .int .i64 x.pw, .int .i64 x.le, .int .i64 x.bu, .int .i64 x.ra, .int .i64 x.de] ∧ Blk W (w.heap.size + 2) 51 #[.int .i64 0, .int .i64 0, .int .i64 0]) ∧ Below w.heap.size w W)) := hide
    ((((stay_blk (blk_up w 74 32 #[.int .i64 B, .int .i64 C, .int .i64 P, .slice A n c] #[strV x.nm, .int .i64 0, .int .i64 x.pr, .int .i64 x.wt, .int .i64 x.pw, .int .i64 x.le, .int .i64 x.bu, .int .i64 x.ra, .int .i64 x.de])).alloc (.cells #[.int .i64 0, .int .i64 0, .int .i64 0] 51)).and (stay_blk (blk_up2 w 74 32 51 #[.int .i64 B, .int .i64 C, .int .i64 P, .slice A n c] #[strV x.nm, .int .i64 0, .int .i64 x.pr, .int .i64 x.wt, .int .i64 x.pw, .int .i64 x.le, .int .i64 x.bu, .int .i64 x.ra, .int .i64 x.de] #[.int .i64 0, .int .i64 0, .int .i64 0]))).and (stay_below ((((Below.refl _ w).alloc (Nat.le_refl _) (.cells #[.int .i64 B, .int .i64 C, .int .i64 P, .slice A n c] 74)).alloc (by simp) (.cells #[strV x.nm, .int .i64 0, .int .i64 x.pr, .int .i64 x.wt, .int .i64 x.pw, .int .i64 x.le, .int .i64 x.bu, .int .i64 x.ra, .int .i64 x.de] 32)).alloc (by simp; omega) (.cells #[.int .i64 0, .int .i64 0, .int .i64 0] 51))))
  clear hk
  go_enter Try.func40, Try.ntmps40
  obtain ⟨W0, hW0⟩ : ∃ W0, ((w.alloc (.cells #[.int .i64 B, .int .i64 C, .int .i64 P, .slice A n c] 74)).alloc (.cells #[strV x.nm, .int .i64 0, .int .i64 x.pr, .int .i64 x.wt, .int .i64 x.pw, .int .i64 x.le, .int .i64 x.bu, .int .i64 x.ra, .int .i64 x.de] 32)).alloc (.cells #[.int .i64 0, .int .i64 0, .int .i64 0] 51) = W0 := ⟨_, rfl⟩
  rw [hW0] at HT
  have z0 : W0.cell? ⟨w.heap.size + 1, 0, none⟩ = some (strV x.nm) := HT.out.now.1.1.cell 0
  have z1 : W0.cell? ⟨w.heap.size + 1, 1, none⟩ = some (.int .i64 0) := HT.out.now.1.1.cell 1
  have z2 : W0.cell? ⟨w.heap.size + 1, 2, none⟩ = some (.int .i64 x.pr) := HT.out.now.1.1.cell 2
  have z3 : W0.cell? ⟨w.heap.size + 1, 3, none⟩ = some (.int .i64 x.wt) := HT.out.now.1.1.cell 3
  have z4 : W0.cell? ⟨w.heap.size + 1, 4, none⟩ = some (.int .i64 x.pw) := HT.out.now.1.1.cell 4
  have z5 : W0.cell? ⟨w.heap.size + 1, 5, none⟩ = some (.int .i64 x.le) := HT.out.now.1.1.cell 5
  have z6 : W0.cell? ⟨w.heap.size + 1, 6, none⟩ = some (.int .i64 x.bu) := HT.out.now.1.1.cell 6
  have z7 : W0.cell? ⟨w.heap.size + 1, 7, none⟩ = some (.int .i64 x.ra) := HT.out.now.1.1.cell 7
  have z8 : W0.cell? ⟨w.heap.size + 1, 8, none⟩ = some (.int .i64 x.de) := HT.out.now.1.1.cell 8
  go_wp2_with (first
    | (go_at_call 38; go_must (refine (HG.out _).mono ?_; rintro e w1 ⟨rfl, hb⟩; replace HT := hide (HT.out.step hb); clear hb hW0 z0 z1 z2 z3 z4 z5 z6 z7 z8; simp only []))
    | (refine wpList_store_row rfl 51 (.tmp 4) (.tmp 9) rfl (w.heap.size + 2) #[.int .i64 0, .int .i64 0, .int .i64 0] rfl rfl 51 #[.int .i64 0, .int .i64 0, .int .i64 0] HT.out.now.1.2 (by kernel_rfl) rfl (by simp [Value.oneCell']) ?_))
  refine bodyPost_ret (v := .agg #[.int .i64 0, .int .i64 0, .int .i64 0]) ?_ rfl ⟨rfl, Below.row HT.out.now.2 (by omega) _⟩
  have HZ := HT.out.now.1.2.row #[.int .i64 0, .int .i64 0, .int .i64 0]
  have y0 := HZ.cell 0
  have y1 := HZ.cell 1
  have y2 := HZ.cell 2
  simp [results, Try.results40, go_sem, y0, y1, y2]
theorem need_all (B C P : Int) (A : Option Addr) (c n : Nat) (T : List Int) (x : Ber) (w : World) (hn : T.length = n) (hs : Sl w A (iv T)) (hs2 : OkS B C P T) (ho : OkR T x) :
    Calls Try.prog 40 #[.agg #[.int .i64 B, .int .i64 C, .int .i64 P, .slice A n c], .agg #[strV x.nm, .int .i64 x.kd, .int .i64 x.pr, .int .i64 x.wt, .int .i64 x.pw, .int .i64 x.le, .int .i64 x.bu, .int .i64 x.ra, .int .i64 x.de]] w fun e w' => e = .returned (.agg #[.int .i64 (ndB T x), .int .i64 (ndC x), .int .i64 (ndP T x)]) ∧ Below w.heap.size w w' := by
  unfold ndP ndB ndC
  by_cases h : x.kd = 0
  · rw [if_pos h, if_pos h, Int.zero_mul]
    exact need_zero B C P A c n x w h
  · rw [if_neg h, if_neg h]
    exact need_ok B C P A c n T x.nm x.kd x.pr x.wt x.pw x.le x.bu x.ra x.de w hn hs hs2 ho h
def remN (v : Int) (l : List Int) (k : Nat) : Int := v - sumI (l.take k)
theorem remN_succ (v : Int) (l : List Int) (k : Nat) (hk : k < l.length) : remN v l (k + 1) = remN v l k - l[k] := by
  unfold remN
  rw [sumI_take l k hk]
  omega
theorem remN_bd {v M V : Int} (hM : 0 ≤ M) (hv : 0 ≤ v ∧ v ≤ V) (l : List Int) (h : ∀ x ∈ l, 0 ≤ x ∧ x ≤ M) (hl : l.length ≤ 20) (k : Nat) : - (20 * M) ≤ remN v l k ∧ remN v l k ≤ V := by
  unfold remN
  have h1 := sumI_bd hM (l.take k) (fun x hx => h x (List.mem_of_mem_take hx))
  have h2 : ((l.take k).length : Int) ≤ 20 := by have := List.length_take_le k l; rw [List.length_take]; omega
  have h3 := Int.mul_le_mul_of_nonneg_right h2 hM
  omega
set_option maxRecDepth 100000 in
set_option maxHeartbeats 8000000 in
theorem room_all (B C P : Int) (A : Option Addr) (c n : Nat) (T : List Int) (L : List Ber) (D : Option Addr) (d m : Nat) (w : World) (hn : T.length = n) (hm : L.length = m) (hs : Sl w A (iv T)) (hs2 : OkS B C P T) (ho : ∀ x ∈ L, OkR T x) (hl : m ≤ 20) (hD : Brs w D L) :
    Calls Try.prog 51 #[.agg #[.int .i64 B, .int .i64 C, .int .i64 P, .slice A n c], .slice D m d] w fun e w' => e = .returned (.agg #[.int .i64 (remN B (L.map (ndB T)) m), .int .i64 (remN C (L.map ndC) m), .int .i64 (remN P (L.map (ndP T)) m)]) ∧ Below w.heap.size w w' := by
  have HNE := hide (fun x W hx k => need_all B C P A c n T x W hn k hs2 (ho x hx))
  have hb := hs2.b
  have hc := hs2.c
  have hp := hs2.p
  have HRB := hide (fun k => remN_bd (v := B) (M := 1000000) (V := 20) (by omega) (by omega) (L.map (ndB T)) (by intro y hy; obtain ⟨x, hx, rfl⟩ := List.mem_map.1 hy; exact ndB_bd hs2 (ho x hx)) (by rw [List.length_map]; omega) k)
  have HRC := hide (fun k => remN_bd (v := C) (M := 1) (V := 8) (by omega) (by omega) (L.map ndC) (by intro y hy; obtain ⟨x, hx, rfl⟩ := List.mem_map.1 hy; exact ndC_bd x) (by rw [List.length_map]; omega) k)
  have HRP := hide (fun k => remN_bd (v := P) (M := 1000000 * 100000) (V := 100000) (by omega) (by omega) (L.map (ndP T)) (by intro y hy; obtain ⟨x, hx, rfl⟩ := List.mem_map.1 hy; exact ndP_bd hs2 (ho x hx)) (by rw [List.length_map]; omega) k)
  have HSU := hide (fun k (hk : k < L.length) => And.intro (remN_succ B (L.map (ndB T)) k (by rw [List.length_map]; exact hk)) (And.intro (remN_succ C (L.map ndC) k (by rw [List.length_map]; exact hk)) (remN_succ P (L.map (ndP T)) k (by rw [List.length_map]; exact hk))))
  have h00 : remN B (L.map (ndB T)) 0 = B ∧ remN C (L.map ndC) 0 = C ∧ remN P (L.map (ndP T)) 0 = P := by simp [remN, sumI]
  have HT := hide ((stay_sl hs).and (stay_brs hD))
  have hb0 : Below w.heap.size w (((w.alloc (.cells #[.int .i64 B, .int .i64 C, .int .i64 P, .slice A n c] 74)).alloc (.cells #[.int .i64 0, .int .i64 0, .int .i64 0] 51)).alloc (.cells #[.int .i64 B, .int .i64 C, .int .i64 P] 51)) := (((Below.refl _ w).alloc (Nat.le_refl _) (.cells #[.int .i64 B, .int .i64 C, .int .i64 P, .slice A n c] 74)).alloc (by simp) (.cells #[.int .i64 0, .int .i64 0, .int .i64 0] 51)).alloc (by simp; omega) (.cells #[.int .i64 B, .int .i64 C, .int .i64 P] 51)
  have hx0 := ((Blk.new w 74 #[.int .i64 B, .int .i64 C, .int .i64 P, .slice A n c]).alloc (.cells #[.int .i64 0, .int .i64 0, .int .i64 0] 51)).alloc (.cells #[.int .i64 B, .int .i64 C, .int .i64 P] 51)
  have hx1 := (blk_up w 74 51 #[.int .i64 B, .int .i64 C, .int .i64 P, .slice A n c] #[.int .i64 0, .int .i64 0, .int .i64 0]).alloc (.cells #[.int .i64 B, .int .i64 C, .int .i64 P] 51)
  have hx2 := blk_up2 w 74 51 51 #[.int .i64 B, .int .i64 C, .int .i64 P, .slice A n c] #[.int .i64 0, .int .i64 0, .int .i64 0] #[.int .i64 B, .int .i64 C, .int .i64 P]
  have HI := hide (And.intro hb0 (And.intro hx0 (And.intro hx1 hx2)))
  clear hs hs2 ho hn hb hc hp hb0 hx0 hx1 hx2 hD
  go_enter Try.func51, Try.ntmps51
  go_wp2_with fail
  obtain ⟨W3, hW3⟩ : ∃ W3, ((w.alloc (.cells #[.int .i64 B, .int .i64 C, .int .i64 P, .slice A n c] 74)).alloc (.cells #[.int .i64 0, .int .i64 0, .int .i64 0] 51)).alloc (.cells #[.int .i64 B, .int .i64 C, .int .i64 P] 51) = W3 := ⟨_, rfl⟩
  rw [hW3] at HI ⊢
  clear hW3
  go_loopw [21] (fun i wr => ∃ k : Nat, k ≤ m ∧ i = .int .i64 k ∧ ((Below w.heap.size w wr ∧ Blk wr w.heap.size 74 #[.int .i64 B, .int .i64 C, .int .i64 P, .slice A n c]) ∧ Blk wr (w.heap.size + 1) 51 #[.int .i64 0, .int .i64 0, .int .i64 0]) ∧ Blk wr (w.heap.size + 2) 51 #[.int .i64 (remN B (L.map (ndB T)) k), .int .i64 (remN C (L.map ndC) k), .int .i64 (remN P (L.map (ndP T)) k)]) (fun i _ => m - (intOf i).toNat)
  case atStart => exact ⟨0, Nat.zero_le _, rfl, ⟨⟨HI.out.1, HI.out.2.1⟩, HI.out.2.2.1⟩, by rw [h00.1, h00.2.1, h00.2.2]; exact HI.out.2.2.2⟩
  case round =>
    obtain ⟨k, hkm, rfl, hF, hO⟩ := hrel
    clear HI h00
    replace hF := hide hF
    replace hO := hide hO
    by_cases hlt : k < m
    · have hkl : k < L.length := by omega
      have hki : (k : Int) < (m : Int) := by omega
      obtain ⟨b, o, rfl, b0, b1, b2, b3, b4, b5, b6, b7, b8⟩ := (HT.out _ hF.out.1.1).2.at_ k hkl
      have hsu := HSU.out k hkl
      have hrb := HRB.out (k + 1)
      have hrc := HRC.out (k + 1)
      have hrp := HRP.out (k + 1)
      have hmem : L[k] ∈ L := List.getElem_mem hkl
      have HN := hide (fun W q => HNE.out L[k] W hmem q)
      rw [hsu.1] at hrb
      rw [hsu.2.1] at hrc
      rw [hsu.2.2] at hrp
      simp only [List.getElem_map] at hsu hrb hrc hrp
      replace hsu := hide hsu
      obtain ⟨x, hx⟩ : ∃ x, L[k] = x := ⟨_, rfl⟩
      rw [hx] at hsu hrb hrc hrp HN b0 b1 b2 b3 b4 b5 b6 b7 b8
      obtain ⟨X, hX⟩ : ∃ X, remN B (L.map (ndB T)) k = X := ⟨_, rfl⟩
      obtain ⟨Y, hY⟩ : ∃ X, remN C (L.map ndC) k = X := ⟨_, rfl⟩
      obtain ⟨Z, hZ⟩ : ∃ X, remN P (L.map (ndP T)) k = X := ⟨_, rfl⟩
      rw [hX] at hO hsu hrb
      rw [hY] at hO hsu hrc
      rw [hZ] at hO hsu hrp
      obtain ⟨a1, ha1⟩ : ∃ X, ndB T x = X := ⟨_, rfl⟩
      obtain ⟨a2, ha2⟩ : ∃ X, ndC x = X := ⟨_, rfl⟩
      obtain ⟨a3, ha3⟩ : ∃ X, ndP T x = X := ⟨_, rfl⟩
      rw [ha1] at HN hsu hrb
      rw [ha2] at HN hsu hrc
      rw [ha3] at HN hsu hrp
      have w1 : IntKind.i64.wrap (X - a1) = X - a1 := IntWalk.i64_in _ (by omega)
      have w2 : IntKind.i64.wrap (Y - a2) = Y - a2 := IntWalk.i64_in _ (by omega)
      have w3 : IntKind.i64.wrap (Z - a3) = Z - a3 := IntWalk.i64_in _ (by omega)
      have hzz := hO.out.lt
      clear hX hY hZ ha1 ha2 ha3 hrb hrc hrp hmem hx
      go_wp2_with (refine wpList_store_row rfl 32 (.tmp 7) (.tmp 24) rfl wr.heap.size #[strV x.nm, .int .i64 x.kd, .int .i64 x.pr, .int .i64 x.wt, .int .i64 x.pw, .int .i64 x.le, .int .i64 x.bu, .int .i64 x.ra, .int .i64 x.de] rfl rfl 32 #[.string ⟨#[]⟩, .int .i64 0, .int .i64 0, .int .i64 0, .int .i64 0, .int .i64 0, .int .i64 0, .int .i64 0, .int .i64 0] (Blk.new wr 32 #[.string ⟨#[]⟩, .int .i64 0, .int .i64 0, .int .i64 0, .int .i64 0, .int .i64 0, .int .i64 0, .int .i64 0, .int .i64 0]) (by kernel_rfl) rfl (by simp [Value.oneCell', strV]) ?_; have HZ := hide ((Blk.new wr 32 #[.string ⟨#[]⟩, .int .i64 0, .int .i64 0, .int .i64 0, .int .i64 0, .int .i64 0, .int .i64 0, .int .i64 0, .int .i64 0]).row #[strV x.nm, .int .i64 x.kd, .int .i64 x.pr, .int .i64 x.wt, .int .i64 x.pw, .int .i64 x.le, .int .i64 x.bu, .int .i64 x.ra, .int .i64 x.de]); have hbz : Below wr.heap.size wr ((wr.alloc (.cells #[.string ⟨#[]⟩, .int .i64 0, .int .i64 0, .int .i64 0, .int .i64 0, .int .i64 0, .int .i64 0, .int .i64 0, .int .i64 0] 32)).setRow wr.heap.size #[strV x.nm, .int .i64 x.kd, .int .i64 x.pr, .int .i64 x.wt, .int .i64 x.pw, .int .i64 x.le, .int .i64 x.bu, .int .i64 x.ra, .int .i64 x.de]) := Below.row (g := wr.heap.size) ((Below.refl wr.heap.size wr).alloc (Nat.le_refl _) (.cells #[.string ⟨#[]⟩, .int .i64 0, .int .i64 0, .int .i64 0, .int .i64 0, .int .i64 0, .int .i64 0, .int .i64 0, .int .i64 0] 32)) (Nat.le_refl _) #[strV x.nm, .int .i64 x.kd, .int .i64 x.pr, .int .i64 x.wt, .int .i64 x.pw, .int .i64 x.le, .int .i64 x.bu, .int .i64 x.ra, .int .i64 x.de]; obtain ⟨W4, hW4⟩ : ∃ W4, (wr.alloc (.cells #[.string ⟨#[]⟩, .int .i64 0, .int .i64 0, .int .i64 0, .int .i64 0, .int .i64 0, .int .i64 0, .int .i64 0, .int .i64 0] 32)).setRow wr.heap.size #[strV x.nm, .int .i64 x.kd, .int .i64 x.pr, .int .i64 x.wt, .int .i64 x.pw, .int .i64 x.le, .int .i64 x.bu, .int .i64 x.ra, .int .i64 x.de] = W4 := ⟨_, rfl⟩; rw [hW4] at HZ hbz ⊢; have HQ := hide ((((stay_below hF.out.1.1).and (stay_blk hF.out.1.2)).and (stay_blk hF.out.2)).and (stay_blk hO.out) |>.step hbz); clear hW4 hbz b0 b1 b2 b3 b4 b5 b6 b7 b8; have s0 : W4.cell? ⟨w.heap.size, 0, none⟩ = some (.int .i64 B) := HQ.out.now.1.1.2.cell 0; have s1 : W4.cell? ⟨w.heap.size, 1, none⟩ = some (.int .i64 C) := HQ.out.now.1.1.2.cell 1; have s2 : W4.cell? ⟨w.heap.size, 2, none⟩ = some (.int .i64 P) := HQ.out.now.1.1.2.cell 2; have s3 : W4.cell? ⟨w.heap.size, 3, none⟩ = some (.slice A n c) := HQ.out.now.1.1.2.cell 3; have d0 : W4.cell? ⟨wr.heap.size, 0, none⟩ = some (strV x.nm) := HZ.out.cell 0; have d1 : W4.cell? ⟨wr.heap.size, 1, none⟩ = some (.int .i64 x.kd) := HZ.out.cell 1; have d2 : W4.cell? ⟨wr.heap.size, 2, none⟩ = some (.int .i64 x.pr) := HZ.out.cell 2; have d3 : W4.cell? ⟨wr.heap.size, 3, none⟩ = some (.int .i64 x.wt) := HZ.out.cell 3; have d4 : W4.cell? ⟨wr.heap.size, 4, none⟩ = some (.int .i64 x.pw) := HZ.out.cell 4; have d5 : W4.cell? ⟨wr.heap.size, 5, none⟩ = some (.int .i64 x.le) := HZ.out.cell 5; have d6 : W4.cell? ⟨wr.heap.size, 6, none⟩ = some (.int .i64 x.bu) := HZ.out.cell 6; have d7 : W4.cell? ⟨wr.heap.size, 7, none⟩ = some (.int .i64 x.ra) := HZ.out.cell 7; have d8 : W4.cell? ⟨wr.heap.size, 8, none⟩ = some (.int .i64 x.de) := HZ.out.cell 8)
      go_at_call 40
      refine (HN.out _ (HT.out _ HQ.out.now.1.1.1).1).mono ?_
      rintro e v1 ⟨rfl, hb⟩
      replace HQ := hide ((HQ.out.step hb).alloc (.cells #[.int .i64 a1, .int .i64 a2, .int .i64 a3] 51))
      clear hb HZ s0 s1 s2 s3 d0 d1 d2 d3 d4 d5 d6 d7 d8
      have t0 : (v1.alloc (.cells #[.int .i64 a1, .int .i64 a2, .int .i64 a3] 51)).cell? ⟨w.heap.size + 2, 0, none⟩ = some (.int .i64 X) := HQ.out.now.2.cell 0
      have t1 : (v1.alloc (.cells #[.int .i64 a1, .int .i64 a2, .int .i64 a3] 51)).cell? ⟨w.heap.size + 2, 1, none⟩ = some (.int .i64 Y) := HQ.out.now.2.cell 1
      have t2 : (v1.alloc (.cells #[.int .i64 a1, .int .i64 a2, .int .i64 a3] 51)).cell? ⟨w.heap.size + 2, 2, none⟩ = some (.int .i64 Z) := HQ.out.now.2.cell 2
      simp only []
      go_wp2_with (refine wpList_store_row rfl 51 (.tmp 5) (.tmp 43) rfl (w.heap.size + 2) #[.int .i64 (X - a1), .int .i64 (Y - a2), .int .i64 (Z - a3)] rfl rfl 51 #[.int .i64 X, .int .i64 Y, .int .i64 Z] HQ.out.now.2 (by kernel_rfl) rfl (by simp [Value.oneCell']) ?_)
      have HE := hide (HQ.out.now.2.row #[.int .i64 (X - a1), .int .i64 (Y - a2), .int .i64 (Z - a3)])
      have HE1 := hide (HQ.out.now.1.2.rowFar (k := w.heap.size + 2) (by omega) #[.int .i64 (X - a1), .int .i64 (Y - a2), .int .i64 (Z - a3)])
      have HE0 := hide (HQ.out.now.1.1.2.rowFar (k := w.heap.size + 2) (by omega) #[.int .i64 (X - a1), .int .i64 (Y - a2), .int .i64 (Z - a3)])
      have HEB := hide (Below.row (g := w.heap.size + 2) HQ.out.now.1.1.1 (by omega) #[.int .i64 (X - a1), .int .i64 (Y - a2), .int .i64 (Z - a3)])
      obtain ⟨W7, hW7⟩ : ∃ W7, (v1.alloc (.cells #[.int .i64 a1, .int .i64 a2, .int .i64 a3] 51)).setRow (w.heap.size + 2) #[.int .i64 (X - a1), .int .i64 (Y - a2), .int .i64 (Z - a3)] = W7 := ⟨_, rfl⟩
      rw [hW7] at HE HE0 HE1 HEB ⊢
      clear hW7 HQ t0 t1 t2 w1 w2 w3
      go_wp2_with fail
      go_roundw
      case rel => exact ⟨k + 1, by omega, by go_num, ⟨⟨HEB.out, HE0.out⟩, HE1.out⟩, by rw [hsu.out.1, hsu.out.2.1, hsu.out.2.2]; exact HE.out⟩
      case measure => simp [intOf]; omega
    · obtain rfl : k = m := by omega
      have hki : ¬ (k : Int) < (k : Int) := by omega
      obtain ⟨X, hX⟩ : ∃ X, remN B (L.map (ndB T)) k = X := ⟨_, rfl⟩
      obtain ⟨Y, hY⟩ : ∃ X, remN C (L.map ndC) k = X := ⟨_, rfl⟩
      obtain ⟨Z, hZ⟩ : ∃ X, remN P (L.map (ndP T)) k = X := ⟨_, rfl⟩
      rw [hX, hY, hZ] at hO
      have c0 : wr.cell? ⟨w.heap.size + 2, 0, none⟩ = some (.int .i64 X) := hO.out.cell 0
      have c1 : wr.cell? ⟨w.heap.size + 2, 1, none⟩ = some (.int .i64 Y) := hO.out.cell 1
      have c2 : wr.cell? ⟨w.heap.size + 2, 2, none⟩ = some (.int .i64 Z) := hO.out.cell 2
      replace hX := hide hX
      replace hY := hide hY
      replace hZ := hide hZ
      go_wp2_with (refine wpList_store_row rfl 51 (.tmp 4) (.tmp 45) rfl (w.heap.size + 1) #[.int .i64 X, .int .i64 Y, .int .i64 Z] rfl rfl 51 #[.int .i64 0, .int .i64 0, .int .i64 0] hF.out.2 (by kernel_rfl) rfl (by simp [Value.oneCell']) ?_)
      have HX2 := hide (hF.out.2.row #[.int .i64 X, .int .i64 Y, .int .i64 Z])
      have HB2 := hide (Below.row (g := w.heap.size + 1) hF.out.1.1 (by omega) #[.int .i64 X, .int .i64 Y, .int .i64 Z])
      obtain ⟨W8, hW8⟩ : ∃ W8, wr.setRow (w.heap.size + 1) #[.int .i64 X, .int .i64 Y, .int .i64 Z] = W8 := ⟨_, rfl⟩
      rw [hW8] at HX2 HB2 ⊢
      refine bodyPost_ret (v := .agg #[.int .i64 X, .int .i64 Y, .int .i64 Z]) ?_ rfl ⟨by rw [hX.out, hY.out, hZ.out], HB2.out⟩
      have y0 : W8.cell? ⟨w.heap.size + 1, 0, none⟩ = some (.int .i64 X) := HX2.out.cell 0
      have y1 : W8.cell? ⟨w.heap.size + 1, 1, none⟩ = some (.int .i64 Y) := HX2.out.cell 1
      have y2 : W8.cell? ⟨w.heap.size + 1, 2, none⟩ = some (.int .i64 Z) := HX2.out.cell 2
      simp [results, Try.results51, go_sem, y0, y1, y2]
end Go.Proofs.Ytppkibgemacdbaa
