import Derived.Test.YtppkibgemacdbaaScB
import Derived.Test.YtppkibgemacdbaaScL
import Derived.Deep.CutRange
import Derived.Deep.LoopGhost
namespace Go.Proofs.Ytppkibgemacdbaa
open Go.RowKit Go.WideShapes Go.ChangeShapes

/-! Admit of a right bearer to bearers that are right together -/
theorem str_info' : (Try.prog.info? 9).map (fun i => (i.zero, i.size, i.bytes)) = some (some (.string ⟨#[]⟩), 1, 16) := by kernel_rfl
theorem brs_one {W : World} {g : Nat} {x : Ber} (h : Blk W g 32 #[strV x.nm, .int .i64 x.kd, .int .i64 x.pr, .int .i64 x.wt, .int .i64 x.pw, .int .i64 x.le, .int .i64 x.bu, .int .i64 x.ra, .int .i64 x.de]) : Brs W (some ⟨g, 0, none⟩) [x] := fun k hk => by
  obtain rfl : k = 0 := by simpa using hk
  refine ⟨g, 0, rfl, fun j u hu => ?_⟩
  rw [show 0 + 0 * 9 + j = j by omega, h.cell j]
  show (Ber.cs x).toArray[j]? = _
  rw [List.getElem?_toArray]
  exact hu
theorem Brs.keep {w w' : World} {A : Option Addr} {L : List Ber} (h : Brs w A L) (hk : ∀ b o, A = some ⟨b, o, none⟩ → w'.heap[b]? = w.heap[b]?) : Brs w' A L := fun k hk' => by
  obtain ⟨b, o, e, hc⟩ := h k hk'
  exact ⟨b, o, e, fun j u hu => (World.cell?_of_block (a := ⟨b, o + k * 9 + j, none⟩) (hk b o e)).trans (hc j u hu)⟩
theorem own_le {w : World} {base e size m d : Nat} {D : Option Addr} {xs : List Value} (h : w.ownsRow base e size (.slice D m d) m xs) : m ≤ d := by
  rcases h.2 with ⟨hv, h0⟩ | ⟨g, cap, cur, hv, _, _, hc, _⟩
  · omega
  · injection hv with _ _ e
    omega
theorem own_own_ne {w : World} {b b' e e' s s' n n' : Nat} {v v' : Value} {xs xs' : List Value} (h : w.ownsRow b e s v n xs) (h' : w.ownsRow b' e' s' v' n' xs') (hne : e' ≠ e) : v.ownBlock = none ∨ v.ownBlock ≠ v'.ownBlock := by
  rcases h.2 with ⟨rfl, _⟩ | ⟨g, cap, cur, rfl, _, hg, _⟩
  · exact .inl rfl
  · exact .inr fun e => own_blk_ne h' (show Blk w g _ cur from hg) hne e.symm
theorem grown_put (w : World) (p : Addr) (u : Value) : w.grownBy (w.setCell p u) (some p.block) :=
  ⟨rfl, rfl, rfl, by simp [World.setCell], fun k _ hk => Below.heap_setCell w p u k (fun e => hk (by rw [e]))⟩
theorem own_set {w : World} {base e size n : Nat} {v : Value} {xs : List Value} (h : w.ownsRow base e size v n xs) {g : Nat} (hne : v.ownBlock ≠ some g) (i : Nat) (u : Value) : (w.setCell ⟨g, i, none⟩ u).ownsRow base e size v n xs :=
  h.kept (grown_put w ⟨g, i, none⟩ u) (.inr hne)
theorem own_name {w : World} {base e n gA oA c : Nat} {L : List Ber} (h : w.ownsRow base e 9 (.slice (some ⟨gA, oA, none⟩) n c) n (bvs L)) (hn : n = L.length) (zn : Nat) (hz : zn < L.length) : w.cell? ⟨gA, oA + zn * 9, none⟩ = some (strV L[zn].nm) := by
  obtain ⟨b, o, e, h0, -⟩ := (Brs.of_own h hn).at_ zn hz
  injection e with e
  injection e with e1 e2
  subst e1 e2
  exact h0
theorem own_zero {w : World} {base e size n gA oA c : Nat} {xs : List Value} (h : w.ownsRow base e size (.slice (some ⟨gA, oA, none⟩) n c) n xs) : oA = 0 := by
  rcases h.2 with ⟨hv, -⟩ | ⟨g, cap, cur, hv, _⟩
  · injection hv with e1; simp at e1
  · injection hv with e1
    injection e1 with e1
    injection e1 with _ e2
theorem okL_snoc {B C P : Int} {T : List Int} {L L' : List Ber} {x : Ber} (hL : OkL B C P T L) (hsub : L'.Sublist L) (hx : OkR T x) (hno : nmIn L x.nm = false) (hf : fitL B C P T (L' ++ [x]) = true) (hl : L'.length ≤ 7) : OkL B C P T (L' ++ [x]) := by
  refine ⟨fun y hy => ?_, ?_, hf, by rw [List.length_append]; simp; omega⟩
  · rcases List.mem_append.1 hy with h | h
    · exact hL.ok y (hsub.subset h)
    · obtain rfl : y = x := by simpa using h
      exact hx
  · rw [List.map_append, List.nodup_append]
    refine ⟨(hsub.map _).nodup hL.names, by simp, fun a ha b hb e => ?_⟩
    obtain rfl : b = x.nm := by simpa using hb
    obtain ⟨y, hy, rfl⟩ := List.mem_map.1 ha
    unfold nmIn at hno
    rw [List.any_eq_false] at hno
    exact hno y (hsub.subset hy) (by simpa using e)
def AdmR (B C P : Int) (T : List Int) (m : Nat) (w : World) (e : Ending) (w' : World) : Prop :=
  (∃ (L' : List Ber) (q : Nat) (A1 : Option Addr) (c1 : Nat) (R : Option Addr) (r rc : Nat) (v : Int), e = .returned (.tuple #[.agg #[.slice A1 q c1, .slice R r rc], .int .i64 v]) ∧ L'.length = q ∧ q ≤ m + 1 ∧ w'.ownsRow w.heap.size 32 9 (.slice A1 q c1) q (bvs L') ∧ ((v = 0 ∧ OkL B C P T L') ∨ ((v = 5 ∨ v = 8 ∨ v = 28) ∧ q = 0))) ∧ Below w.heap.size w w'
theorem admR_err {B C P : Int} {T : List Int} {m : Nat} {w w' : World} {v : Int} (hv : v = 5 ∨ v = 8 ∨ v = 28) (hb : Below w.heap.size w w') : AdmR B C P T m w (.returned (.tuple #[.agg #[.slice none 0 0, .slice none 0 0], .int .i64 v])) w' :=
  ⟨⟨[], 0, none, 0, none, 0, 0, v, rfl, rfl, by omega, ⟨rfl, .inl ⟨rfl, rfl⟩⟩, .inr ⟨hv, rfl⟩⟩, hb⟩
theorem own_setRow {w : World} {base e size n : Nat} {v : Value} {xs : List Value} (h : w.ownsRow base e size v n xs) {g : Nat} (hne : v.ownBlock ≠ some g) (cs : Array Value) : (w.setRow g cs).ownsRow base e size v n xs :=
  h.kept (row := some g) ⟨rfl, rfl, rfl, by simp, fun k _ hk => setRow_other w g k cs (fun e => hk (by rw [e]))⟩ (.inr hne)
set_option maxRecDepth 100000 in
set_option maxHeartbeats 16000000 in
theorem admit_all (B C P : Int) (A : Option Addr) (c n : Nat) (T : List Int) (L : List Ber) (D : Option Addr) (d m : Nat) (x : Ber) (w : World) (base e0 : Nat) (hn : T.length = n) (hm : L.length = m) (hm6 : m ≤ 6) (hs : Sl w A (iv T)) (hs2 : OkS B C P T) (hL : OkL B C P T L) (ho : w.ownsRow base e0 9 (.slice D m d) m (bvs L)) (hx : OkR T x) :
    Calls Try.prog 10 #[.agg #[.int .i64 B, .int .i64 C, .int .i64 P, .slice A n c], .slice D m d, .agg #[strV x.nm, .int .i64 x.kd, .int .i64 x.pr, .int .i64 x.wt, .int .i64 x.pw, .int .i64 x.le, .int .i64 x.bu, .int .i64 x.ra, .int .i64 x.de]] w (AdmR B C P T m w) := by
  obtain ⟨i1, hi0, hz0, hz1, hz2⟩ := info_parts ber_info
  obtain ⟨j1, hj0, hy0, hy1, hy2⟩ := info_parts str_info'
  have hmd := own_le ho
  have HOA := hide (fun W k (k2 : W.ownsRow base e0 9 (.slice D m d) m (bvs L)) => openAll_all B C P A c n T L D d m W hn hm k hs2 hL hmd (Brs.of_own k2 hm.symm))
  have HBE := hide (fun W k => bearerErr_all B C P A c n T x W hn k hs2 hx)
  have HNA := hide (fun W (k : W.ownsRow base e0 9 (.slice D m d) m (bvs L)) => named_all L x.nm D d m W hm (by omega) (Brs.of_own k hm.symm))
  have HFI := hide (fun W g k k2 => fit_all B C P A c n T [x] (some ⟨g, 0, none⟩) 1 1 W hn rfl k hs2 (fun y hy => (List.mem_singleton.1 hy).symm ▸ hx) (by omega) (brs_one k2))
  have HFA := hide (fun (M : List Ber) A2 c2 q W (hq : M.length = q) (hM : ∀ y ∈ M, OkR T y) (h20 : q ≤ 20) k k2 => fit_all B C P A c n T M A2 c2 q W hn hq k hs2 hM h20 k2)
  have HT : Hid (Stay (((w.alloc (.cells #[.int .i64 B, .int .i64 C, .int .i64 P, .slice A n c] 24)).alloc (.cells #[strV x.nm, .int .i64 x.kd, .int .i64 x.pr, .int .i64 x.wt, .int .i64 x.pw, .int .i64 x.le, .int .i64 x.bu, .int .i64 x.ra, .int .i64 x.de] 32)).alloc (.cells #[.slice none 0 0, .slice none 0 0] 35)) (fun W => ((((Blk W w.heap.size 24 #[.int .i64 B, .int .i64 C, .int .i64 P, .slice A n c] ∧ Blk W (w.heap.size + 1) 32 #[strV x.nm, .int .i64 x.kd, .int .i64 x.pr, .int .i64 x.wt, .int .i64 x.pw, .int .i64 x.le, .int .i64 x.bu, .int .i64 x.ra, .int .i64 x.de]) ∧ Blk W (w.heap.size + 2) 35 #[.slice none 0 0, .slice none 0 0]) ∧ Sl W A (iv T)) ∧ W.ownsRow base e0 9 (.slice D m d) m (bvs L)) ∧ Below w.heap.size w W)) := hide
    (((((((stay_blk (Blk.new w 24 #[.int .i64 B, .int .i64 C, .int .i64 P, .slice A n c])).alloc (.cells #[strV x.nm, .int .i64 x.kd, .int .i64 x.pr, .int .i64 x.wt, .int .i64 x.pw, .int .i64 x.le, .int .i64 x.bu, .int .i64 x.ra, .int .i64 x.de] 32)).alloc (.cells #[.slice none 0 0, .slice none 0 0] 35)).and ((stay_blk (blk_up w 24 32 #[.int .i64 B, .int .i64 C, .int .i64 P, .slice A n c] #[strV x.nm, .int .i64 x.kd, .int .i64 x.pr, .int .i64 x.wt, .int .i64 x.pw, .int .i64 x.le, .int .i64 x.bu, .int .i64 x.ra, .int .i64 x.de])).alloc (.cells #[.slice none 0 0, .slice none 0 0] 35))).and (stay_blk (blk_up2 w 24 32 35 #[.int .i64 B, .int .i64 C, .int .i64 P, .slice A n c] #[strV x.nm, .int .i64 x.kd, .int .i64 x.pr, .int .i64 x.wt, .int .i64 x.pw, .int .i64 x.le, .int .i64 x.bu, .int .i64 x.ra, .int .i64 x.de] #[.slice none 0 0, .slice none 0 0]))).and (((stay_sl (hs.alloc (.cells #[.int .i64 B, .int .i64 C, .int .i64 P, .slice A n c] 24))).alloc (.cells #[strV x.nm, .int .i64 x.kd, .int .i64 x.pr, .int .i64 x.wt, .int .i64 x.pw, .int .i64 x.le, .int .i64 x.bu, .int .i64 x.ra, .int .i64 x.de] 32)).alloc (.cells #[.slice none 0 0, .slice none 0 0] 35))).and ((((stay_own ho).alloc (.cells #[.int .i64 B, .int .i64 C, .int .i64 P, .slice A n c] 24)).alloc (.cells #[strV x.nm, .int .i64 x.kd, .int .i64 x.pr, .int .i64 x.wt, .int .i64 x.pw, .int .i64 x.le, .int .i64 x.bu, .int .i64 x.ra, .int .i64 x.de] 32)).alloc (.cells #[.slice none 0 0, .slice none 0 0] 35)) |>.and (stay_below ((((Below.refl _ w).alloc (Nat.le_refl _) (.cells #[.int .i64 B, .int .i64 C, .int .i64 P, .slice A n c] 24)).alloc (by simp) (.cells #[strV x.nm, .int .i64 x.kd, .int .i64 x.pr, .int .i64 x.wt, .int .i64 x.pw, .int .i64 x.le, .int .i64 x.bu, .int .i64 x.ra, .int .i64 x.de] 32)).alloc (by simp; omega) (.cells #[.slice none 0 0, .slice none 0 0] 35))))
  have HOKS := hide (fun (L' : List Ber) (hsub : L'.Sublist L) (hno : nmIn L x.nm = false) hf hl => okL_snoc hL hsub hx hno hf hl)
  have HOKM := hide (fun (L' : List Ber) (hsub : L'.Sublist L) (y : Ber) (hy : y ∈ L' ++ [x]) => show OkR T y from by
    rcases List.mem_append.1 hy with h | h
    · exact hL.ok y (hsub.subset h)
    · obtain rfl : y = x := by simpa using h
      exact hx)
  clear hs hs2 ho hn hL hx hmd
  obtain ⟨nb, hnb⟩ : ∃ b, nmIn L x.nm = b := ⟨_, rfl⟩
  obtain ⟨f1, hf1⟩ : ∃ b, fitL B C P T [x] = b := ⟨_, rfl⟩
  rw [hnb] at HNA
  rw [hf1] at HFI
  replace hnb := hide hnb
  clear hf1
  go_enter Try.func10, Try.ntmps10
  obtain ⟨W0, hW0⟩ : ∃ W0, ((w.alloc (.cells #[.int .i64 B, .int .i64 C, .int .i64 P, .slice A n c] 24)).alloc (.cells #[strV x.nm, .int .i64 x.kd, .int .i64 x.pr, .int .i64 x.wt, .int .i64 x.pw, .int .i64 x.le, .int .i64 x.bu, .int .i64 x.ra, .int .i64 x.de] 32)).alloc (.cells #[.slice none 0 0, .slice none 0 0] 35) = W0 := ⟨_, rfl⟩
  rw [hW0] at HT
  have z0 : W0.cell? ⟨w.heap.size, 0, none⟩ = some (.int .i64 B) := HT.out.now.1.1.1.1.1.cell 0
  have z1 : W0.cell? ⟨w.heap.size, 1, none⟩ = some (.int .i64 C) := HT.out.now.1.1.1.1.1.cell 1
  have z2 : W0.cell? ⟨w.heap.size, 2, none⟩ = some (.int .i64 P) := HT.out.now.1.1.1.1.1.cell 2
  have z3 : W0.cell? ⟨w.heap.size, 3, none⟩ = some (.slice A n c) := HT.out.now.1.1.1.1.1.cell 3
  go_wp2_with (first
    | (go_at_call 25; go_must (refine (HOA.out _ HT.out.now.1.1.2 HT.out.now.1.2).mono ?_; rintro e w1 ⟨rfl, hb⟩; replace HT := hide (HT.out.step hb); clear hb hW0 z0 z1 z2 z3; simp only []))
    | (refine wpList_store_row rfl 74 (.tmp 8) (.tmp 19) rfl w1.heap.size #[.int .i64 B, .int .i64 C, .int .i64 P, .slice A n c] rfl rfl 74 #[.int .i64 0, .int .i64 0, .int .i64 0, .slice none 0 0] (Blk.new w1 74 #[.int .i64 0, .int .i64 0, .int .i64 0, .slice none 0 0]) (by kernel_rfl) rfl (by simp [Value.oneCell']) ?_; have HX := hide ((Blk.new w1 74 #[.int .i64 0, .int .i64 0, .int .i64 0, .slice none 0 0]).row #[.int .i64 B, .int .i64 C, .int .i64 P, .slice A n c]); replace HT := hide ((HT.out.step (Below.row (g := w1.heap.size) ((Below.refl w1.heap.size w1).alloc (Nat.le_refl _) (.cells #[.int .i64 0, .int .i64 0, .int .i64 0, .slice none 0 0] 74)) (Nat.le_refl _) #[.int .i64 B, .int .i64 C, .int .i64 P, .slice A n c])).and (stay_blk HX.out)); clear HX))
  obtain ⟨W4, hW4⟩ : ∃ W4, (w1.alloc (.cells #[.int .i64 0, .int .i64 0, .int .i64 0, .slice none 0 0] 74)).setRow w1.heap.size #[.int .i64 B, .int .i64 C, .int .i64 P, .slice A n c] = W4 := ⟨_, rfl⟩
  rw [hW4] at HT ⊢
  clear hW4 HOA
  cases nb
  rotate_left
  · clear HFI HFA HOKS HOKM
    refine wp_region_held_drew (S := fun w' => Below W4.heap.size W4 w') (by kernel_rfl) (below_drewN (Below.refl W4.heap.size W4) 1) (fun hHeld => ?_)
    refine take_at (i := 0) 25 (v := .agg #[.int .i64 B, .int .i64 C, .int .i64 P, .slice A n c]) rfl rfl (by kernel_rfl) (by kernel_rfl) (by kernel_rfl) (fun _ _ _ h => h) (Or.inl ⟨by rfl, by intro w_ hSw; have c0 : w_.cell? ⟨w1.heap.size, 0, none⟩ = some (.int .i64 B) := (HT.out _ hSw).2.cell 0; have c1 : w_.cell? ⟨w1.heap.size, 1, none⟩ = some (.int .i64 C) := (HT.out _ hSw).2.cell 1; have c2 : w_.cell? ⟨w1.heap.size, 2, none⟩ = some (.int .i64 P) := (HT.out _ hSw).2.cell 2; have c3 : w_.cell? ⟨w1.heap.size, 3, none⟩ = some (.slice A n c) := (HT.out _ hSw).2.cell 3; go_simp⟩) (by assumption) ?_
    try simp only [Act.put, List.setIfInBounds_toArray, List.set_cons_zero, List.set_cons_succ]
    refine take_at (i := 1) 26 (v := .agg #[strV x.nm, .int .i64 x.kd, .int .i64 x.pr, .int .i64 x.wt, .int .i64 x.pw, .int .i64 x.le, .int .i64 x.bu, .int .i64 x.ra, .int .i64 x.de]) rfl rfl (by kernel_rfl) (by kernel_rfl) (by kernel_rfl) (fun _ _ _ h => h) (Or.inl ⟨by rfl, by intro w_ hSw; have c0 : w_.cell? ⟨w.heap.size + 1, 0, none⟩ = some (strV x.nm) := (HT.out _ hSw).1.1.1.1.1.2.cell 0; have c1 : w_.cell? ⟨w.heap.size + 1, 1, none⟩ = some (.int .i64 x.kd) := (HT.out _ hSw).1.1.1.1.1.2.cell 1; have c2 : w_.cell? ⟨w.heap.size + 1, 2, none⟩ = some (.int .i64 x.pr) := (HT.out _ hSw).1.1.1.1.1.2.cell 2; have c3 : w_.cell? ⟨w.heap.size + 1, 3, none⟩ = some (.int .i64 x.wt) := (HT.out _ hSw).1.1.1.1.1.2.cell 3; have c4 : w_.cell? ⟨w.heap.size + 1, 4, none⟩ = some (.int .i64 x.pw) := (HT.out _ hSw).1.1.1.1.1.2.cell 4; have c5 : w_.cell? ⟨w.heap.size + 1, 5, none⟩ = some (.int .i64 x.le) := (HT.out _ hSw).1.1.1.1.1.2.cell 5; have c6 : w_.cell? ⟨w.heap.size + 1, 6, none⟩ = some (.int .i64 x.bu) := (HT.out _ hSw).1.1.1.1.1.2.cell 6; have c7 : w_.cell? ⟨w.heap.size + 1, 7, none⟩ = some (.int .i64 x.ra) := (HT.out _ hSw).1.1.1.1.1.2.cell 7; have c8 : w_.cell? ⟨w.heap.size + 1, 8, none⟩ = some (.int .i64 x.de) := (HT.out _ hSw).1.1.1.1.1.2.cell 8; go_simp⟩) (by assumption) ?_
    try simp only [Act.put, List.setIfInBounds_toArray, List.set_cons_zero, List.set_cons_succ]
    refine take_at (i := 3) 28 (v := .slice D m d) rfl rfl (by kernel_rfl) (by kernel_rfl) (by kernel_rfl) (fun _ _ _ h => h) (Or.inl ⟨by rfl, by intro w_ hSw; go_simp⟩) (by assumption) ?_
    try simp only [Act.put, List.setIfInBounds_toArray, List.set_cons_zero, List.set_cons_succ]
    refine take_at (i := 4) 29 (v := .pointer (some ⟨w.heap.size + 1, 0, none⟩)) rfl rfl (by kernel_rfl) (by kernel_rfl) (by kernel_rfl) (fun _ _ _ h => h) (Or.inl ⟨by rfl, by intro w_ hSw; go_simp⟩) (by assumption) ?_
    try simp only [Act.put, List.setIfInBounds_toArray, List.set_cons_zero, List.set_cons_succ]
    refine take_at (i := 5) 30 (v := strV x.nm) rfl rfl (by kernel_rfl) (by kernel_rfl) (by kernel_rfl) (fun _ _ _ h => h) (Or.inl ⟨by rfl, by intro w_ hSw; have c0 : w_.cell? ⟨w.heap.size + 1, 0, none⟩ = some (strV x.nm) := (HT.out _ hSw).1.1.1.1.1.2.cell 0; go_simp⟩) (by assumption) ?_
    try simp only [Act.put, List.setIfInBounds_toArray, List.set_cons_zero, List.set_cons_succ]
    refine wpAnyH_ready (rs := [2]) (by kernel_rfl) (by simp) ?_
    refine AllReadyH.cons rfl (fun K hK => ?_) AllReadyH.nil
    go_simp
    go_at_call 27
    refine (HBE.out _ (HT.out _ hHeld).1.1.1.2).mono ?_
    rintro e w5 ⟨rfl, hb⟩
    replace hHeld := Below.step hHeld hb
    clear hb
    simp only []
    refine hK.out _ _ hHeld (fun hHeld => ?_)
    clear hK K
    try simp only [Act.put, List.setIfInBounds_toArray, List.set_cons_zero, List.set_cons_succ]
    refine wpAnyH_ready (rs := [6]) (by kernel_rfl) (by simp) ?_
    refine AllReadyH.cons rfl (fun K hK => ?_) AllReadyH.nil
    go_simp
    go_at_call 29
    refine (HNA.out _ (HT.out _ hHeld).1.1.2).mono ?_
    rintro e w6 ⟨rfl, hb⟩
    replace hHeld := Below.step hHeld hb
    clear hb
    simp only []
    refine hK.out _ _ hHeld (fun hHeld => ?_)
    clear hK K
    try simp only [Act.put, List.setIfInBounds_toArray, List.set_cons_zero, List.set_cons_succ]
    refine take_at (i := 7) 32 (v := .bool false) rfl rfl (by kernel_rfl) (by kernel_rfl) (by kernel_rfl) (fun _ _ _ h => h) (Or.inl ⟨by rfl, by intro w_ hSw; go_simp⟩) (by assumption) ?_
    try simp only [Act.put, List.setIfInBounds_toArray, List.set_cons_zero, List.set_cons_succ]
    refine wpAnyH_ready (rs := [8]) (by kernel_rfl) (by simp) ?_
    refine AllReadyH.cons rfl (fun K hK => ?_) AllReadyH.nil
    go_simp
    go_at_call 28
    refine (unless_any false 5 _).mono ?_
    rintro e w7 ⟨rfl, rfl⟩
    simp only [unlessE, Bool.false_eq_true, if_false]
    refine hK.out _ _ hHeld (fun hHeld => ?_)
    clear hK K
    try simp only [Act.put, List.setIfInBounds_toArray, List.set_cons_zero, List.set_cons_succ]
    refine wpAnyH_ready (rs := [9]) (by kernel_rfl) (by simp) ?_
    refine AllReadyH.cons rfl (fun K hK => ?_) AllReadyH.nil
    go_simp
    replace hHeld := hHeld.alloc hHeld.size (.cells #[.int .i64 0, .int .i64 5] 36)
    refine hK.out _ _ hHeld (fun hHeld => ?_)
    clear hK K
    try simp only [Act.put, List.setIfInBounds_toArray, List.set_cons_zero, List.set_cons_succ]
    refine wpAnyH_ready (rs := [10]) (by kernel_rfl) (by simp) ?_
    refine AllReadyH.cons rfl (fun K hK => ?_) AllReadyH.nil
    go_simp
    go_at_call 26
    refine (first2 w6 _ 0 5 rfl).mono ?_
    rintro e w8 ⟨rfl, rfl⟩
    rw [show firstOf [0, 5] = 5 from rfl]
    refine hK.out _ _ hHeld (fun hHeld => ?_)
    clear hK K
    try simp only [Act.put, List.setIfInBounds_toArray, List.set_cons_zero, List.set_cons_succ]
    refine take_at (i := 11) 9 (v := .int .i64 5) rfl rfl (by kernel_rfl) (by kernel_rfl) (by kernel_rfl) (fun _ _ _ h => h) (Or.inl ⟨by rfl, by intro w_ hSw; go_simp⟩) (by assumption) ?_
    try simp only [Act.put, List.setIfInBounds_toArray, List.set_cons_zero, List.set_cons_succ]
    refine wpAnyH_done (by kernel_rfl) ?_ _
    replace HT := hide (HT.out.step hHeld)
    clear hHeld HBE HNA
    obtain ⟨W8, hW8⟩ : ∃ W8, w6.alloc (.cells #[.int .i64 0, .int .i64 5] 36) = W8 := ⟨_, rfl⟩
    rw [hW8] at HT ⊢
    clear hW8
    go_wp2_with (refine wpList_store_row rfl 35 (.tmp 6) (.tmp 45) rfl (w.heap.size + 2) #[.slice none 0 0, .slice none 0 0] rfl rfl 35 #[.slice none 0 0, .slice none 0 0] HT.out.now.1.1.1.1.2 (by kernel_rfl) rfl (by simp [Value.oneCell']) ?_)
    exact bodyPost_ret (results_row_tmp rfl _ _ (w.heap.size + 2) 35 #[.slice none 0 0, .slice none 0 0] _ (.int .i64 5) rfl rfl (HT.out.now.1.1.1.1.2.row #[.slice none 0 0, .slice none 0 0]) Try.underlying35 rfl (by kernel_rfl)) rfl (admR_err (.inl rfl) (Below.row HT.out.now.1.2 (by omega) _))
  · skip
    refine wp_region_held_drew (S := fun w' => Below W4.heap.size W4 w') (by kernel_rfl) (below_drewN (Below.refl W4.heap.size W4) 1) (fun hHeld => ?_)
    refine take_at (i := 0) 25 (v := .agg #[.int .i64 B, .int .i64 C, .int .i64 P, .slice A n c]) rfl rfl (by kernel_rfl) (by kernel_rfl) (by kernel_rfl) (fun _ _ _ h => h) (Or.inl ⟨by rfl, by intro w_ hSw; have c0 : w_.cell? ⟨w1.heap.size, 0, none⟩ = some (.int .i64 B) := (HT.out _ hSw).2.cell 0; have c1 : w_.cell? ⟨w1.heap.size, 1, none⟩ = some (.int .i64 C) := (HT.out _ hSw).2.cell 1; have c2 : w_.cell? ⟨w1.heap.size, 2, none⟩ = some (.int .i64 P) := (HT.out _ hSw).2.cell 2; have c3 : w_.cell? ⟨w1.heap.size, 3, none⟩ = some (.slice A n c) := (HT.out _ hSw).2.cell 3; go_simp⟩) (by assumption) ?_
    try simp only [Act.put, List.setIfInBounds_toArray, List.set_cons_zero, List.set_cons_succ]
    refine take_at (i := 1) 26 (v := .agg #[strV x.nm, .int .i64 x.kd, .int .i64 x.pr, .int .i64 x.wt, .int .i64 x.pw, .int .i64 x.le, .int .i64 x.bu, .int .i64 x.ra, .int .i64 x.de]) rfl rfl (by kernel_rfl) (by kernel_rfl) (by kernel_rfl) (fun _ _ _ h => h) (Or.inl ⟨by rfl, by intro w_ hSw; have c0 : w_.cell? ⟨w.heap.size + 1, 0, none⟩ = some (strV x.nm) := (HT.out _ hSw).1.1.1.1.1.2.cell 0; have c1 : w_.cell? ⟨w.heap.size + 1, 1, none⟩ = some (.int .i64 x.kd) := (HT.out _ hSw).1.1.1.1.1.2.cell 1; have c2 : w_.cell? ⟨w.heap.size + 1, 2, none⟩ = some (.int .i64 x.pr) := (HT.out _ hSw).1.1.1.1.1.2.cell 2; have c3 : w_.cell? ⟨w.heap.size + 1, 3, none⟩ = some (.int .i64 x.wt) := (HT.out _ hSw).1.1.1.1.1.2.cell 3; have c4 : w_.cell? ⟨w.heap.size + 1, 4, none⟩ = some (.int .i64 x.pw) := (HT.out _ hSw).1.1.1.1.1.2.cell 4; have c5 : w_.cell? ⟨w.heap.size + 1, 5, none⟩ = some (.int .i64 x.le) := (HT.out _ hSw).1.1.1.1.1.2.cell 5; have c6 : w_.cell? ⟨w.heap.size + 1, 6, none⟩ = some (.int .i64 x.bu) := (HT.out _ hSw).1.1.1.1.1.2.cell 6; have c7 : w_.cell? ⟨w.heap.size + 1, 7, none⟩ = some (.int .i64 x.ra) := (HT.out _ hSw).1.1.1.1.1.2.cell 7; have c8 : w_.cell? ⟨w.heap.size + 1, 8, none⟩ = some (.int .i64 x.de) := (HT.out _ hSw).1.1.1.1.1.2.cell 8; go_simp⟩) (by assumption) ?_
    try simp only [Act.put, List.setIfInBounds_toArray, List.set_cons_zero, List.set_cons_succ]
    refine take_at (i := 3) 28 (v := .slice D m d) rfl rfl (by kernel_rfl) (by kernel_rfl) (by kernel_rfl) (fun _ _ _ h => h) (Or.inl ⟨by rfl, by intro w_ hSw; go_simp⟩) (by assumption) ?_
    try simp only [Act.put, List.setIfInBounds_toArray, List.set_cons_zero, List.set_cons_succ]
    refine take_at (i := 4) 29 (v := .pointer (some ⟨w.heap.size + 1, 0, none⟩)) rfl rfl (by kernel_rfl) (by kernel_rfl) (by kernel_rfl) (fun _ _ _ h => h) (Or.inl ⟨by rfl, by intro w_ hSw; go_simp⟩) (by assumption) ?_
    try simp only [Act.put, List.setIfInBounds_toArray, List.set_cons_zero, List.set_cons_succ]
    refine take_at (i := 5) 30 (v := strV x.nm) rfl rfl (by kernel_rfl) (by kernel_rfl) (by kernel_rfl) (fun _ _ _ h => h) (Or.inl ⟨by rfl, by intro w_ hSw; have c0 : w_.cell? ⟨w.heap.size + 1, 0, none⟩ = some (strV x.nm) := (HT.out _ hSw).1.1.1.1.1.2.cell 0; go_simp⟩) (by assumption) ?_
    try simp only [Act.put, List.setIfInBounds_toArray, List.set_cons_zero, List.set_cons_succ]
    refine wpAnyH_ready (rs := [2]) (by kernel_rfl) (by simp) ?_
    refine AllReadyH.cons rfl (fun K hK => ?_) AllReadyH.nil
    go_simp
    go_at_call 27
    refine (HBE.out _ (HT.out _ hHeld).1.1.1.2).mono ?_
    rintro e w5 ⟨rfl, hb⟩
    replace hHeld := Below.step hHeld hb
    clear hb
    simp only []
    refine hK.out _ _ hHeld (fun hHeld => ?_)
    clear hK K
    try simp only [Act.put, List.setIfInBounds_toArray, List.set_cons_zero, List.set_cons_succ]
    refine wpAnyH_ready (rs := [6]) (by kernel_rfl) (by simp) ?_
    refine AllReadyH.cons rfl (fun K hK => ?_) AllReadyH.nil
    go_simp
    go_at_call 29
    refine (HNA.out _ (HT.out _ hHeld).1.1.2).mono ?_
    rintro e w6 ⟨rfl, hb⟩
    replace hHeld := Below.step hHeld hb
    clear hb
    simp only []
    refine hK.out _ _ hHeld (fun hHeld => ?_)
    clear hK K
    try simp only [Act.put, List.setIfInBounds_toArray, List.set_cons_zero, List.set_cons_succ]
    refine take_at (i := 7) 32 (v := .bool true) rfl rfl (by kernel_rfl) (by kernel_rfl) (by kernel_rfl) (fun _ _ _ h => h) (Or.inl ⟨by rfl, by intro w_ hSw; go_simp⟩) (by assumption) ?_
    try simp only [Act.put, List.setIfInBounds_toArray, List.set_cons_zero, List.set_cons_succ]
    refine wpAnyH_ready (rs := [8]) (by kernel_rfl) (by simp) ?_
    refine AllReadyH.cons rfl (fun K hK => ?_) AllReadyH.nil
    go_simp
    go_at_call 28
    refine (unless_any true 5 _).mono ?_
    rintro e w7 ⟨rfl, rfl⟩
    simp only [unlessE, if_true]
    refine hK.out _ _ hHeld (fun hHeld => ?_)
    clear hK K
    try simp only [Act.put, List.setIfInBounds_toArray, List.set_cons_zero, List.set_cons_succ]
    refine wpAnyH_ready (rs := [9]) (by kernel_rfl) (by simp) ?_
    refine AllReadyH.cons rfl (fun K hK => ?_) AllReadyH.nil
    go_simp
    replace hHeld := hHeld.alloc hHeld.size (.cells #[.int .i64 0, .int .i64 0] 36)
    refine hK.out _ _ hHeld (fun hHeld => ?_)
    clear hK K
    try simp only [Act.put, List.setIfInBounds_toArray, List.set_cons_zero, List.set_cons_succ]
    refine wpAnyH_ready (rs := [10]) (by kernel_rfl) (by simp) ?_
    refine AllReadyH.cons rfl (fun K hK => ?_) AllReadyH.nil
    go_simp
    go_at_call 26
    refine (first2 w6 _ 0 0 rfl).mono ?_
    rintro e w8 ⟨rfl, rfl⟩
    rw [show firstOf [0, 0] = 0 from rfl]
    refine hK.out _ _ hHeld (fun hHeld => ?_)
    clear hK K
    try simp only [Act.put, List.setIfInBounds_toArray, List.set_cons_zero, List.set_cons_succ]
    refine take_at (i := 11) 9 (v := .int .i64 0) rfl rfl (by kernel_rfl) (by kernel_rfl) (by kernel_rfl) (fun _ _ _ h => h) (Or.inl ⟨by rfl, by intro w_ hSw; go_simp⟩) (by assumption) ?_
    try simp only [Act.put, List.setIfInBounds_toArray, List.set_cons_zero, List.set_cons_succ]
    refine wpAnyH_done (by kernel_rfl) ?_ _
    replace HT := hide (HT.out.step hHeld)
    clear hHeld HBE HNA
    obtain ⟨W8, hW8⟩ : ∃ W8, w6.alloc (.cells #[.int .i64 0, .int .i64 0] 36) = W8 := ⟨_, rfl⟩
    rw [hW8] at HT ⊢
    clear hW8
    have s0 : W8.cell? ⟨w1.heap.size, 0, none⟩ = some (.int .i64 B) := HT.out.now.2.cell 0
    have s1 : W8.cell? ⟨w1.heap.size, 1, none⟩ = some (.int .i64 C) := HT.out.now.2.cell 1
    have s2 : W8.cell? ⟨w1.heap.size, 2, none⟩ = some (.int .i64 P) := HT.out.now.2.cell 2
    have s3 : W8.cell? ⟨w1.heap.size, 3, none⟩ = some (.slice A n c) := HT.out.now.2.cell 3
    have b0 : W8.cell? ⟨w.heap.size + 1, 0, none⟩ = some (strV x.nm) := HT.out.now.1.1.1.1.1.2.cell 0
    have b1 : W8.cell? ⟨w.heap.size + 1, 1, none⟩ = some (.int .i64 x.kd) := HT.out.now.1.1.1.1.1.2.cell 1
    have b2 : W8.cell? ⟨w.heap.size + 1, 2, none⟩ = some (.int .i64 x.pr) := HT.out.now.1.1.1.1.1.2.cell 2
    have b3 : W8.cell? ⟨w.heap.size + 1, 3, none⟩ = some (.int .i64 x.wt) := HT.out.now.1.1.1.1.1.2.cell 3
    have b4 : W8.cell? ⟨w.heap.size + 1, 4, none⟩ = some (.int .i64 x.pw) := HT.out.now.1.1.1.1.1.2.cell 4
    have b5 : W8.cell? ⟨w.heap.size + 1, 5, none⟩ = some (.int .i64 x.le) := HT.out.now.1.1.1.1.1.2.cell 5
    have b6 : W8.cell? ⟨w.heap.size + 1, 6, none⟩ = some (.int .i64 x.bu) := HT.out.now.1.1.1.1.1.2.cell 6
    have b7 : W8.cell? ⟨w.heap.size + 1, 7, none⟩ = some (.int .i64 x.ra) := HT.out.now.1.1.1.1.1.2.cell 7
    have b8 : W8.cell? ⟨w.heap.size + 1, 8, none⟩ = some (.int .i64 x.de) := HT.out.now.1.1.1.1.1.2.cell 8
    cases f1
    · go_wp2_with (first
        | (go_at_call 30; go_must (refine (HFI.out _ W8.heap.size ((HT.out.alloc (.cells #[strV x.nm, .int .i64 x.kd, .int .i64 x.pr, .int .i64 x.wt, .int .i64 x.pw, .int .i64 x.le, .int .i64 x.bu, .int .i64 x.ra, .int .i64 x.de] 32)).now.1.1.1.2) (Blk.new W8 32 #[strV x.nm, .int .i64 x.kd, .int .i64 x.pr, .int .i64 x.wt, .int .i64 x.pw, .int .i64 x.le, .int .i64 x.bu, .int .i64 x.ra, .int .i64 x.de])).mono ?_; rintro e w9 ⟨rfl, hb⟩; replace HT := hide ((HT.out.alloc (.cells #[strV x.nm, .int .i64 x.kd, .int .i64 x.pr, .int .i64 x.wt, .int .i64 x.pw, .int .i64 x.le, .int .i64 x.bu, .int .i64 x.ra, .int .i64 x.de] 32)).step hb); clear hb s0 s1 s2 s3 b0 b1 b2 b3 b4 b5 b6 b7 b8; simp only []))
        | (go_at_call 28; go_must (refine (unless_any false 8 _).mono ?_; rintro e w10 ⟨rfl, rfl⟩; simp only [unlessE, Bool.false_eq_true, if_false]))
        | (refine wpList_store_row rfl 35 (.tmp 6) (.tmp 45) rfl (w.heap.size + 2) #[.slice none 0 0, .slice none 0 0] rfl rfl 35 #[.slice none 0 0, .slice none 0 0] HT.out.now.1.1.1.1.2 (by kernel_rfl) rfl (by simp [Value.oneCell']) ?_))
      exact bodyPost_ret (results_row_tmp rfl _ _ (w.heap.size + 2) 35 #[.slice none 0 0, .slice none 0 0] _ (.int .i64 8) rfl rfl (HT.out.now.1.1.1.1.2.row #[.slice none 0 0, .slice none 0 0]) Try.underlying35 rfl (by kernel_rfl)) rfl (admR_err (.inr (.inl rfl)) (Below.row HT.out.now.1.2 (by omega) _))
    go_wp2_with (first
      | (go_at_call 30; go_must (refine (HFI.out _ W8.heap.size ((HT.out.alloc (.cells #[strV x.nm, .int .i64 x.kd, .int .i64 x.pr, .int .i64 x.wt, .int .i64 x.pw, .int .i64 x.le, .int .i64 x.bu, .int .i64 x.ra, .int .i64 x.de] 32)).now.1.1.1.2) (Blk.new W8 32 #[strV x.nm, .int .i64 x.kd, .int .i64 x.pr, .int .i64 x.wt, .int .i64 x.pw, .int .i64 x.le, .int .i64 x.bu, .int .i64 x.ra, .int .i64 x.de])).mono ?_; rintro e w9 ⟨rfl, hb⟩; replace HT := hide ((HT.out.alloc (.cells #[strV x.nm, .int .i64 x.kd, .int .i64 x.pr, .int .i64 x.wt, .int .i64 x.pw, .int .i64 x.le, .int .i64 x.bu, .int .i64 x.ra, .int .i64 x.de] 32)).step hb); clear hb s0 s1 s2 s3 b0 b1 b2 b3 b4 b5 b6 b7 b8; simp only []))
      | (go_at_call 28; go_must (refine (unless_any true 8 _).mono ?_; rintro e w10 ⟨rfl, rfl⟩; simp only [unlessE, if_true])))
    go_at_call 31
    refine (clone_own L D d m _ hm HT.out.now.1.1.2 (by omega)).mono ?_
    rintro e w11 ⟨A1, c1, rfl, hown1, hb⟩
    have HT9 := hide HT.out
    have hs2lt := HT9.out.now.1.1.1.1.2.lt
    have hsz : w9.heap.size ≤ w11.heap.size := hb.size
    simp only []
    go_wp2_with (refine wpList_store_row rfl 35 (.tmp 10) (.tmp 49) rfl w11.heap.size #[.slice A1 m c1, .slice none 0 0] rfl rfl 35 #[.slice none 0 0, .slice none 0 0] (Blk.new w11 35 #[.slice none 0 0, .slice none 0 0]) (by kernel_rfl) rfl (by simp [Value.oneCell']) ?_)
    have HX := (Blk.new w11 35 #[.slice none 0 0, .slice none 0 0]).row #[.slice A1 m c1, .slice none 0 0]
    have hb12 := Below.row (g := w11.heap.size) ((Below.refl w11.heap.size w11).alloc (Nat.le_refl _) (.cells #[.slice none 0 0, .slice none 0 0] 35)) (Nat.le_refl _) #[.slice A1 m c1, .slice none 0 0]
    obtain ⟨W12, hW12⟩ : ∃ W, (w11.alloc (.cells #[.slice none 0 0, .slice none 0 0] 35)).setRow w11.heap.size #[.slice A1 m c1, .slice none 0 0] = W := ⟨_, rfl⟩
    rw [hW12] at HX hb12 ⊢
    have HI := hide (And.intro (Below.step hb hb12) (And.intro (own_bel hown1 hb12) HX))
    obtain ⟨g10, hg10⟩ : ∃ g, w11.heap.size = g := ⟨_, rfl⟩
    rw [hg10] at HI hsz ⊢
    clear hW12 hb12 hb hown1 HX hg10 HT HFI
    simp only [Act.put]
    go_loopg [] m (fun k wr => ∃ (L' : List Ber) (R : Option Addr) (r rc : Nat) (xs : List Value), L'.length = k ∧ (L'.Sublist L ∧ r + k = m) ∧ Below w9.heap.size w9 wr ∧ wr.ownsRow w9.heap.size 32 9 (.slice A1 k c1) k (bvs L') ∧ Blk wr g10 35 #[.slice A1 k c1, .slice R r rc] ∧ wr.ownsRow w9.heap.size 9 1 (.slice R r rc) r xs)
    case atStart => exact ⟨L, none, 0, 0, [], hm, ⟨List.Sublist.refl _, by omega⟩, HI.out.1, HI.out.2.1, HI.out.2.2, ⟨rfl, .inl ⟨rfl, rfl⟩⟩⟩
    case round =>
    obtain ⟨L', R, r, rc, xs, hk, ⟨hsub, hrk⟩, hbel, hown, hblk, hstr⟩ := hrel
    clear HI
    have hgwr : g10 < wr.heap.size := hblk.lt
    replace hk := hide hk
    replace hsub := hide hsub
    replace hbel := hide hbel
    replace hown := hide hown
    replace hblk := hide hblk
    replace hstr := hide hstr
    have HG0 := hide (stay_blk hblk.out)
    have c0 : wr.cell? ⟨g10, 0, none⟩ = some (.slice A1 gk c1) := hblk.out.cell 0
    have h8 : ((gk : Int) == 8) = false := by rw [beq_eq_false_iff_ne]; omega
    go_wp2_with fail
    clear c0
    go_cut [12] from 50 to 107 (fun s12 wx => ∃ A2 c2, s12 = .slice A2 (gk + 1) c2 ∧ wx.ownsRow wr.heap.size 32 9 (.slice A2 (gk + 1) c2) (gk + 1) (bvs (L' ++ [x])) ∧ Below wr.heap.size wr wx)
    case first =>
      refine wp_region_held_drew (S := fun w_ => Below wr.heap.size wr w_) (by kernel_rfl) (below_drewN (Below.refl wr.heap.size wr) 1) (fun hHeld => ?_)
      obtain ⟨v0, hv0⟩ : ∃ v0, wr.drew = v0 := ⟨_, rfl⟩
      replace hHeld : Below wr.heap.size wr wr.drew := hHeld
      rw [hv0] at hHeld
      first | rw [hv0] | (change wpAnyH _ _ _ _ _ _ _ _ wr.drew; rw [hv0])
      clear hv0
      refine take_at (i := 0) 54 (v := .pointer (some ⟨g10, 0, none⟩)) rfl rfl (by kernel_rfl) (by kernel_rfl) (by kernel_rfl) (fun _ _ _ h => h) (Or.inl ⟨by rfl, by intro w_ hSw; go_simp⟩) (by assumption) ?_
      try simp only [Act.put, List.setIfInBounds_toArray, List.set_cons_zero, List.set_cons_succ]
      refine take_at (i := 1) 55 (v := .slice A1 gk c1) rfl rfl (by kernel_rfl) (by kernel_rfl) (by kernel_rfl) (fun _ _ _ h => h) (Or.inl ⟨by rfl, by intro w_ hSw; have c0 : w_.cell? ⟨g10, 0, none⟩ = some (.slice A1 gk c1) := (HG0.out _ hSw).cell 0; go_simp⟩) (by assumption) ?_
      try simp only [Act.put, List.setIfInBounds_toArray, List.set_cons_zero, List.set_cons_succ]
      refine take_at (i := 3) 57 (v := .agg #[strV x.nm, .int .i64 x.kd, .int .i64 x.pr, .int .i64 x.wt, .int .i64 x.pw, .int .i64 x.le, .int .i64 x.bu, .int .i64 x.ra, .int .i64 x.de]) rfl rfl (by kernel_rfl) (by kernel_rfl) (by kernel_rfl) (fun _ _ _ h => h) (Or.inl ⟨by rfl, by intro w_ hSw; have c0 : w_.cell? ⟨w.heap.size + 1, 0, none⟩ = some (strV x.nm) := (HT9.out _ (Below.step hbel.out hSw)).1.1.1.1.1.2.cell 0; have c1 : w_.cell? ⟨w.heap.size + 1, 1, none⟩ = some (.int .i64 x.kd) := (HT9.out _ (Below.step hbel.out hSw)).1.1.1.1.1.2.cell 1; have c2 : w_.cell? ⟨w.heap.size + 1, 2, none⟩ = some (.int .i64 x.pr) := (HT9.out _ (Below.step hbel.out hSw)).1.1.1.1.1.2.cell 2; have c3 : w_.cell? ⟨w.heap.size + 1, 3, none⟩ = some (.int .i64 x.wt) := (HT9.out _ (Below.step hbel.out hSw)).1.1.1.1.1.2.cell 3; have c4 : w_.cell? ⟨w.heap.size + 1, 4, none⟩ = some (.int .i64 x.pw) := (HT9.out _ (Below.step hbel.out hSw)).1.1.1.1.1.2.cell 4; have c5 : w_.cell? ⟨w.heap.size + 1, 5, none⟩ = some (.int .i64 x.le) := (HT9.out _ (Below.step hbel.out hSw)).1.1.1.1.1.2.cell 5; have c6 : w_.cell? ⟨w.heap.size + 1, 6, none⟩ = some (.int .i64 x.bu) := (HT9.out _ (Below.step hbel.out hSw)).1.1.1.1.1.2.cell 6; have c7 : w_.cell? ⟨w.heap.size + 1, 7, none⟩ = some (.int .i64 x.ra) := (HT9.out _ (Below.step hbel.out hSw)).1.1.1.1.1.2.cell 7; have c8 : w_.cell? ⟨w.heap.size + 1, 8, none⟩ = some (.int .i64 x.de) := (HT9.out _ (Below.step hbel.out hSw)).1.1.1.1.1.2.cell 8; go_simp⟩) (by assumption) ?_
      try simp only [Act.put, List.setIfInBounds_toArray, List.set_cons_zero, List.set_cons_succ]
      obtain ⟨g7, hg7⟩ : ∃ g, v0.heap.size = g := ⟨_, rfl⟩
      refine wpAnyH_ready (rs := [2, 4]) (by kernel_rfl) (by simp) ?_
      refine AllReadyH.cons rfl (fun K hK => ?_) (AllReadyH.cons rfl (fun K hK => ?_) AllReadyH.nil)
      · clear hg7
        go_simp
        go_at_call 31
        have hHsz := hHeld.size
        refine (clone_own L' A1 c1 gk _ hk.out (own_bel hown.out hHeld) (by omega)).mono ?_
        rintro e v1 ⟨A5, c5, rfl, hown5, hb⟩
        replace hHeld := Below.step hHeld hb
        have HOW := hide (stay_own (hown5.weaken (Nat.le_trans (Nat.le_refl _) hHsz)))
        clear hown5 hHsz
        clear hb
        simp only []
        refine hK.out _ _ hHeld (fun hHeld => ?_)
        clear hK K
        try simp only [Act.put, List.setIfInBounds_toArray, List.set_cons_zero, List.set_cons_succ]
        obtain ⟨g7, hg7⟩ : ∃ g, v1.heap.size = g := ⟨_, rfl⟩
        refine wpAnyH_ready (rs := [4]) (by kernel_rfl) (by simp) ?_
        refine AllReadyH.cons rfl (fun K hK => ?_) AllReadyH.nil
        go_simp
        have hb := (Below.refl v1.heap.size v1).alloc (Nat.le_refl _) (.cells #[strV x.nm, .int .i64 x.kd, .int .i64 x.pr, .int .i64 x.wt, .int .i64 x.pw, .int .i64 x.le, .int .i64 x.bu, .int .i64 x.ra, .int .i64 x.de] 32)
        replace HOW := hide (HOW.out.step hb)
        have g7ge := Nat.le_trans hHeld.size (Nat.le_of_eq hg7)
        replace hHeld := Below.step hHeld hb
        have Hg7 := hide (stay_blk (Blk.newN v1 32 #[strV x.nm, .int .i64 x.kd, .int .i64 x.pr, .int .i64 x.wt, .int .i64 x.pw, .int .i64 x.le, .int .i64 x.bu, .int .i64 x.ra, .int .i64 x.de] hg7))
        obtain ⟨v2, hwn⟩ : ∃ w9, v1.alloc (.cells #[strV x.nm, .int .i64 x.kd, .int .i64 x.pr, .int .i64 x.wt, .int .i64 x.pw, .int .i64 x.le, .int .i64 x.bu, .int .i64 x.ra, .int .i64 x.de] 32) = w9 := ⟨_, rfl⟩
        rw [hwn] at hHeld HOW Hg7 ⊢
        clear hb hwn hg7
        refine hK.out _ _ hHeld (fun hHeld => ?_)
        clear hK K
        try simp only [Act.put, List.setIfInBounds_toArray, List.set_cons_zero, List.set_cons_succ]
        refine wpAnyH_ready (rs := [5]) (by kernel_rfl) (by simp) ?_
        refine AllReadyH.cons rfl (fun K hK => ?_) AllReadyH.nil
        refine step_append_any _ (by rfl) (.tmp 56) (.tmp 58) 25 (by rfl) wr.heap.size 32 i1 _ 9 80 Try.underlying25 hi0 hz0 hz1 hz2 rfl (by omega) (.slice A5 gk c5) gk (bvs L') (by rfl) HOW.out.now v2.heap.size (some ⟨g7, 0, none⟩) 1 1 (bvs [x]) (by rfl) (Brs.reads (brs_one Hg7.out.now)) (bvs_one _) (by simp only [maxLen]; omega) (by omega) hHeld.size ?_
        intro v9 v3 hown9 hgrow _
        replace hgrow : v2.grownBy v3 (Value.ownBlock (.slice A5 gk c5)) := hgrow
        replace hHeld := hHeld.grown hgrow hHeld.size (fun j hj => (HOW.out.now.lt j hj).1)
        obtain ⟨A6, c6, rfl⟩ := own_form hown9
        rw [← bvs_append] at hown9
        have HON := hide hown9
        clear hown9 hgrow HOW Hg7
        change K (Act.put _ (some 59) _) _
        refine hK.out _ _ hHeld (fun hHeld => ?_)
        clear hK K
        try simp only [Act.put, List.setIfInBounds_toArray, List.set_cons_zero, List.set_cons_succ]
        refine take_at (i := 6) 12 (v := .slice A6 (gk + 1) c6) rfl rfl (by kernel_rfl) (by kernel_rfl) (by kernel_rfl) (fun _ _ _ h => h) (Or.inl ⟨by rfl, by intro w_ hSw; go_simp⟩) (by assumption) ?_
        try simp only [Act.put, List.setIfInBounds_toArray, List.set_cons_zero, List.set_cons_succ]
        refine wpAnyH_done (by kernel_rfl) ?_ _
        go_wp2_with fail
        go_meet
        exact ⟨A6, c6, rfl, HON.out, hHeld⟩
      · go_simp
        have hb := (Below.refl v0.heap.size v0).alloc (Nat.le_refl _) (.cells #[strV x.nm, .int .i64 x.kd, .int .i64 x.pr, .int .i64 x.wt, .int .i64 x.pw, .int .i64 x.le, .int .i64 x.bu, .int .i64 x.ra, .int .i64 x.de] 32)
        have g7ge := Nat.le_trans hHeld.size (Nat.le_of_eq hg7)
        replace hHeld := Below.step hHeld hb
        have Hg7 := hide (stay_blk (Blk.newN v0 32 #[strV x.nm, .int .i64 x.kd, .int .i64 x.pr, .int .i64 x.wt, .int .i64 x.pw, .int .i64 x.le, .int .i64 x.bu, .int .i64 x.ra, .int .i64 x.de] hg7))
        obtain ⟨v1, hwn⟩ : ∃ w9, v0.alloc (.cells #[strV x.nm, .int .i64 x.kd, .int .i64 x.pr, .int .i64 x.wt, .int .i64 x.pw, .int .i64 x.le, .int .i64 x.bu, .int .i64 x.ra, .int .i64 x.de] 32) = w9 := ⟨_, rfl⟩
        rw [hwn] at hHeld Hg7 ⊢
        clear hb hwn hg7
        refine hK.out _ _ hHeld (fun hHeld => ?_)
        clear hK K
        try simp only [Act.put, List.setIfInBounds_toArray, List.set_cons_zero, List.set_cons_succ]
        refine wpAnyH_ready (rs := [2]) (by kernel_rfl) (by simp) ?_
        refine AllReadyH.cons rfl (fun K hK => ?_) AllReadyH.nil
        go_simp
        go_at_call 31
        have hHsz := hHeld.size
        refine (clone_own L' A1 c1 gk _ hk.out (own_bel hown.out hHeld) (by omega)).mono ?_
        rintro e v2 ⟨A5, c5, rfl, hown5, hb⟩
        replace Hg7 := hide (Hg7.out.step hb)
        replace hHeld := Below.step hHeld hb
        have HOW := hide (stay_own (hown5.weaken (Nat.le_trans (Nat.le_refl _) hHsz)))
        clear hown5 hHsz
        clear hb
        simp only []
        refine hK.out _ _ hHeld (fun hHeld => ?_)
        clear hK K
        try simp only [Act.put, List.setIfInBounds_toArray, List.set_cons_zero, List.set_cons_succ]
        refine wpAnyH_ready (rs := [5]) (by kernel_rfl) (by simp) ?_
        refine AllReadyH.cons rfl (fun K hK => ?_) AllReadyH.nil
        refine step_append_any _ (by rfl) (.tmp 56) (.tmp 58) 25 (by rfl) wr.heap.size 32 i1 _ 9 80 Try.underlying25 hi0 hz0 hz1 hz2 rfl (by omega) (.slice A5 gk c5) gk (bvs L') (by rfl) HOW.out.now v2.heap.size (some ⟨g7, 0, none⟩) 1 1 (bvs [x]) (by rfl) (Brs.reads (brs_one Hg7.out.now)) (bvs_one _) (by simp only [maxLen]; omega) (by omega) hHeld.size ?_
        intro v9 v3 hown9 hgrow _
        replace hgrow : v2.grownBy v3 (Value.ownBlock (.slice A5 gk c5)) := hgrow
        replace hHeld := hHeld.grown hgrow hHeld.size (fun j hj => (HOW.out.now.lt j hj).1)
        obtain ⟨A6, c6, rfl⟩ := own_form hown9
        rw [← bvs_append] at hown9
        have HON := hide hown9
        clear hown9 hgrow HOW Hg7
        change K (Act.put _ (some 59) _) _
        refine hK.out _ _ hHeld (fun hHeld => ?_)
        clear hK K
        try simp only [Act.put, List.setIfInBounds_toArray, List.set_cons_zero, List.set_cons_succ]
        refine take_at (i := 6) 12 (v := .slice A6 (gk + 1) c6) rfl rfl (by kernel_rfl) (by kernel_rfl) (by kernel_rfl) (fun _ _ _ h => h) (Or.inl ⟨by rfl, by intro w_ hSw; go_simp⟩) (by assumption) ?_
        try simp only [Act.put, List.setIfInBounds_toArray, List.set_cons_zero, List.set_cons_succ]
        refine wpAnyH_done (by kernel_rfl) ?_ _
        go_wp2_with fail
        go_meet
        exact ⟨A6, c6, rfl, HON.out, hHeld⟩
    case rest =>
      obtain ⟨A2, c2, rfl, hown2, hb2⟩ := hcut
      have HC := hide (HT9.out.step (Below.step hbel.out hb2))
      have HQ := hide (((((stay_below hbel.out).and (stay_own hown.out)).and (stay_blk hblk.out)).and (stay_own hstr.out)).step hb2 |>.and (stay_own hown2))
      have HF2 := hide (fun W k k2 => HFA.out (L' ++ [x]) A2 c2 (gk + 1) W (by simp [hk.out]) (HOKM.out L' hsub.out) (by omega) k k2)
      obtain ⟨f2, hf2⟩ : ∃ f, fitL B C P T (L' ++ [x]) = f := ⟨_, rfl⟩
      rw [hf2] at HF2
      replace hf2 := hide hf2
      clear hb2 HFA hbel hown hblk hstr HG0 HT9
      have hA2 := hide (fun b o (e : A2 = some ⟨b, o, none⟩) => own_base hown2 e)
      clear hown2
      have s0 : wc.cell? ⟨w1.heap.size, 0, none⟩ = some (.int .i64 B) := HC.out.now.2.cell 0
      have s1 : wc.cell? ⟨w1.heap.size, 1, none⟩ = some (.int .i64 C) := HC.out.now.2.cell 1
      have s2 : wc.cell? ⟨w1.heap.size, 2, none⟩ = some (.int .i64 P) := HC.out.now.2.cell 2
      have s3 : wc.cell? ⟨w1.heap.size, 3, none⟩ = some (.slice A n c) := HC.out.now.2.cell 3
      cases f2
      rotate_left
      · go_wp2_with (first | (go_at_call 30; go_must (refine (HF2.out _ HC.out.now.1.1.1.2 (Brs.of_own HQ.out.now.2 (by simp [hk.out]))).mono ?_; rintro e w13 ⟨rfl, hb⟩; replace HC := hide (HC.out.step hb); replace HQ := hide (HQ.out.step hb); clear hb s0 s1 s2 s3; have y0 : w13.cell? ⟨g10, 0, none⟩ = some (.slice A1 gk c1) := HQ.out.now.1.1.2.cell 0; have f0 := HQ.out.now.1.1.2.frozen 0; have HX := hide (HQ.out.now.1.1.2.set_ 0 (.slice A2 (gk + 1) c2)); have HOUT := hide (HC.out.now.1.1.1.1.2.far (p := ⟨g10, 0, none⟩) (by show w.heap.size + 2 ≠ g10; omega) (.slice A2 (gk + 1) c2)); have x0 : (w13.setCell ⟨g10, 0, none⟩ (.slice A2 (gk + 1) c2)).cell? ⟨g10, 0, none⟩ = some (.slice A2 (gk + 1) c2) := HX.out.cell 0; have x1 : (w13.setCell ⟨g10, 0, none⟩ (.slice A2 (gk + 1) c2)).cell? ⟨g10, 1, none⟩ = some (.slice R r rc) := HX.out.cell 1; simp only [])) | (refine wpList_store_row rfl 35 (.tmp 6) (.tmp 69) rfl (w.heap.size + 2) #[.slice A2 (gk + 1) c2, .slice R r rc] rfl rfl 35 #[.slice none 0 0, .slice none 0 0] HOUT.out (by kernel_rfl) rfl (by simp [Value.oneCell']) ?_))
        have hbf := Below.row (g := w.heap.size + 2) (HC.out.now.1.2.setCell (p := ⟨g10, 0, none⟩) (by show w.heap.size ≤ g10; omega) (.slice A2 (gk + 1) c2)) (by omega) #[.slice A2 (gk + 1) c2, .slice R r rc]
        have hHOX := own_set (HQ.out.now.2.weaken (by omega : w.heap.size ≤ wr.heap.size)) (own_blk_ne HQ.out.now.2 HQ.out.now.1.1.2 (by decide)) 0 (.slice A2 (gk + 1) c2)
        have hbr := own_setRow hHOX (own_blk_ne hHOX HOUT.out (by decide)) #[.slice A2 (gk + 1) c2, .slice R r rc]
        exact bodyPost_ret (results_row_tmp rfl _ _ (w.heap.size + 2) 35 #[.slice A2 (gk + 1) c2, .slice R r rc] _ (.int .i64 0) rfl rfl (HOUT.out.row _) Try.underlying35 rfl (by kernel_rfl)) rfl ⟨⟨L' ++ [x], gk + 1, A2, c2, R, r, rc, 0, rfl, by simp [hk.out], by omega, hbr, .inl ⟨rfl, HOKS.out L' hsub.out hnb.out hf2.out (by have := hk.out; omega)⟩⟩, hbf⟩
      · go_wp2_with (go_at_call 30; go_must (refine (HF2.out _ HC.out.now.1.1.1.2 (Brs.of_own HQ.out.now.2 (by simp [hk.out]))).mono ?_; rintro e w13 ⟨rfl, hb⟩; replace HC := hide (HC.out.step hb); replace HQ := hide (HQ.out.step hb); clear hb s0 s1 s2 s3; have y0 : w13.cell? ⟨g10, 0, none⟩ = some (.slice A1 gk c1) := HQ.out.now.1.1.2.cell 0; simp only []))
        go_at_call 32
        refine (last_any L' A1 c1 gk _ _ hk.out (by omega) (Brs.of_own HQ.out.now.1.1.1.2 hk.out.symm)).mono ?_
        rintro e w14 ⟨⟨z, rfl, hz1', hz2'⟩, hb⟩
        replace HC := hide (HC.out.step hb)
        replace HQ := hide (HQ.out.step hb)
        clear hb y0 HF2
        have y0 : w14.cell? ⟨g10, 0, none⟩ = some (.slice A1 gk c1) := HQ.out.now.1.1.2.cell 0
        simp only []
        go_wp2_with fail
        go_at_call 32
        refine (last_any L' A1 c1 gk _ _ hk.out (by omega) (Brs.of_own HQ.out.now.1.1.1.2 hk.out.symm)).mono ?_
        rintro e w15 ⟨⟨z2, rfl, -, -⟩, hb⟩
        replace HC := hide (HC.out.step hb)
        replace HQ := hide (HQ.out.step hb)
        clear hb y0
        have b1 : w15.cell? ⟨w.heap.size + 1, 1, none⟩ = some (.int .i64 x.kd) := HC.out.now.1.1.1.1.1.2.cell 1
        simp only []
        by_cases hkd : x.kd = 2
        · have hkd2 : (x.kd != 2) = false := by simp [hkd]
          replace hkd := hide hkd
          by_cases hz : z < 0
          · have hzd : decide (z < 0) = true := decide_eq_true hz
            go_wp2_with (refine wpList_store_row rfl 35 (.tmp 6) (.tmp 89) rfl (w.heap.size + 2) #[.slice none 0 0, .slice none 0 0] rfl rfl 35 #[.slice none 0 0, .slice none 0 0] HC.out.now.1.1.1.1.2 (by kernel_rfl) rfl (by simp [Value.oneCell']) ?_)
            exact bodyPost_ret (results_row_tmp rfl _ _ (w.heap.size + 2) 35 #[.slice none 0 0, .slice none 0 0] _ (.int .i64 28) rfl rfl (HC.out.now.1.1.1.1.2.row #[.slice none 0 0, .slice none 0 0]) Try.underlying35 rfl (by kernel_rfl)) rfl (admR_err (.inr (.inr rfl)) (Below.row HC.out.now.1.2 (by omega) _))
          have hzd : decide (z < 0) = false := decide_eq_false hz
          obtain ⟨zn, hzn⟩ := Int.eq_ofNat_of_zero_le (show 0 ≤ z by omega)
          subst hzn
          have hzl : zn < L'.length := by have := hk.out; omega
          have hzg : (zn : Int) < (gk : Int) := by omega
          obtain ⟨gA, oA, hA1, hn0, -⟩ := (Brs.of_own HQ.out.now.1.1.1.2 hk.out.symm).at_ zn hzl
          subst hA1
          have hoA := hide (own_zero HQ.out.now.1.1.1.2)
          obtain ⟨nz, hnz⟩ : ∃ s, L'[zn].nm = s := ⟨_, rfl⟩
          rw [hnz] at hn0
          replace hnz := hide hnz
          have hq := HQ.out.now
          have HQ := hide ((((stay_below hq.1.1.1.1).and (stay_own hq.1.1.1.2)).and (stay_blk hq.1.1.2)).and (stay_own hq.1.2) |>.and (stay_at hn0))
          clear hq hz hn0
          go_wp2_with fail
          clear b1
-- behind gA
          have hHeld := (⟨(HQ.out.drewN 1).now.1.1.2, (HQ.out.drewN 1).now.2⟩ : Blk w15.drew g10 35 #[.slice (some ⟨gA, oA, none⟩) gk c1, .slice R r rc] ∧ w15.drew.cell? ⟨gA, oA + zn * 9, none⟩ = some (strV nz))
          refine UpM.start (Z := [11]) (S := fun w_ => Blk w_ g10 35 #[.slice (some ⟨gA, oA, none⟩) gk c1, .slice R r rc] ∧ w_.cell? ⟨gA, oA + zn * 9, none⟩ = some (strV nz)) (by kernel_rfl) ?_
          refine UpM.pure (i := 0) 90 (v := .pointer (some ⟨g10, 1, none⟩)) rfl rfl (by kernel_rfl) (by kernel_rfl) (by kernel_rfl) (fun _ _ _ h => h) (Or.inl ⟨by rfl, by intro w_ hSw; go_simp⟩) ?_
          try simp only [Act.put, List.setIfInBounds_toArray, List.set_cons_zero, List.set_cons_succ]
          refine UpM.take (i := 1) 91 (v := .slice R r rc) rfl rfl (by kernel_rfl) (by kernel_rfl) (by kernel_rfl) (by kernel_rfl) (fun _ _ _ h => h) hHeld (Or.inl ⟨by rfl, by intro w_ hSw; have c1 : w_.cell? ⟨g10, 1, none⟩ = some (.slice R r rc) := hSw.1.cell 1; go_simp⟩) ?_
          try simp only [Act.put, List.setIfInBounds_toArray, List.set_cons_zero, List.set_cons_succ]
          refine UpM.pure (i := 2) 92 (v := .pointer (some ⟨g10, 0, none⟩)) rfl rfl (by kernel_rfl) (by kernel_rfl) (by kernel_rfl) (fun _ _ _ h => h) (Or.inl ⟨by rfl, by intro w_ hSw; go_simp⟩) ?_
          try simp only [Act.put, List.setIfInBounds_toArray, List.set_cons_zero, List.set_cons_succ]
          refine UpM.take (i := 3) 93 (v := .slice (some ⟨gA, oA, none⟩) gk c1) rfl rfl (by kernel_rfl) (by kernel_rfl) (by kernel_rfl) (by kernel_rfl) (fun _ _ _ h => h) hHeld (Or.inl ⟨by rfl, by intro w_ hSw; have c0 : w_.cell? ⟨g10, 0, none⟩ = some (.slice (some ⟨gA, oA, none⟩) gk c1) := hSw.1.cell 0; go_simp⟩) ?_
          try simp only [Act.put, List.setIfInBounds_toArray, List.set_cons_zero, List.set_cons_succ]
          refine UpM.pure (i := 4) 94 (v := .int .i64 (zn : Int)) rfl rfl (by kernel_rfl) (by kernel_rfl) (by kernel_rfl) (fun _ _ _ h => h) (Or.inl ⟨by rfl, by intro w_ hSw; go_simp⟩) ?_
          try simp only [Act.put, List.setIfInBounds_toArray, List.set_cons_zero, List.set_cons_succ]
          refine UpM.pure (i := 5) 95 (v := .pointer (some ⟨gA, oA + zn * 9, none⟩)) rfl rfl (by kernel_rfl) (by kernel_rfl) (by kernel_rfl) (fun _ _ _ h => h) (Or.inl ⟨by rfl, by intro w_ hSw; go_simp⟩) ?_
          try simp only [Act.put, List.setIfInBounds_toArray, List.set_cons_zero, List.set_cons_succ]
          refine UpM.pure (i := 6) 96 (v := .pointer (some ⟨gA, oA + zn * 9, none⟩)) rfl rfl (by kernel_rfl) (by kernel_rfl) (by kernel_rfl) (fun _ _ _ h => h) (Or.inl ⟨by rfl, by intro w_ hSw; go_simp⟩) ?_
          try simp only [Act.put, List.setIfInBounds_toArray, List.set_cons_zero, List.set_cons_succ]
          refine UpM.take (i := 7) 97 (v := strV nz) rfl rfl (by kernel_rfl) (by kernel_rfl) (by kernel_rfl) (by kernel_rfl) (fun _ _ _ h => h) hHeld (Or.inl ⟨by rfl, by intro w_ hSw; have cn := hSw.2; go_simp⟩) ?_
          try simp only [Act.put, List.setIfInBounds_toArray, List.set_cons_zero, List.set_cons_succ]
          refine UpM.next (i := 8) (by kernel_rfl) rfl (fun K hK => ?_)
          go_simp
          have HQ8 := hide ((HQ.out.drewN 1).alloc (.cells #[strV nz] 9))
          obtain ⟨v1, hv1⟩ : ∃ v1, w15.drew = v1 := ⟨_, rfl⟩
          obtain ⟨q8, hq8⟩ : ∃ q, v1.heap.size = q := ⟨_, rfl⟩
          have hHeld : Blk (w15.drew.alloc (.cells #[strV nz] 9)) g10 35 #[.slice (some ⟨gA, oA, none⟩) gk c1, .slice R r rc] ∧ (w15.drew.alloc (.cells #[strV nz] 9)).cell? ⟨gA, oA + zn * 9, none⟩ = some (strV nz) := ⟨HQ8.out.now.1.1.2, (HQ8.out.now.2)⟩
          refine hK.out _ _ (fun _ _ => hHeld) ?_
          clear hK K
          try simp only [Act.put, List.setIfInBounds_toArray, List.set_cons_zero, List.set_cons_succ]
          refine UpM.next (i := 9) (by kernel_rfl) rfl (fun K hK => ?_)
          refine step_append_any _ (by rfl) (.tmp 91) (.tmp 98) 33 (by rfl) w9.heap.size 9 j1 _ 1 16 Try.underlying33 hj0 hy0 hy1 hy2 rfl (by omega) (.slice R r rc) r xs (by rfl) HQ8.out.now.1.2 (w15.heap.size + 1) (some ⟨w15.heap.size, 0, none⟩) 1 1 [strV nz] (by rfl) (reads_cell (a := strV nz) (by have h := (Blk.new w15.drew 9 #[strV nz]).cell 0; exact h)) (by simp [Value.oneCell', strV]) (by simp only [maxLen]; omega) (by omega) HQ8.out.now.1.1.1.1.size ?_
          intro v9 w16 hown9 hgrow _
          replace hgrow : (w15.drew.alloc (.cells #[strV nz] 9)).grownBy w16 (Value.ownBlock (.slice R r rc)) := hgrow
          obtain ⟨R9, rc9, rfl⟩ := own_form hown9
          have hq := HQ8.out.now
          have HB9 := hide (hq.1.1.1.1.grown hgrow hq.1.1.1.1.size (fun j hj => (hq.1.2.lt j hj).1))
          have HO9 := hide (hq.1.1.1.2.kept hgrow (own_own_ne hq.1.1.1.2 hq.1.2 (by decide)))
          have HG9 := hide (hq.1.1.2.grown hgrow (fun e => own_blk_ne hq.1.2 hq.1.1.2 (by decide) e.symm))
          have HS9 := hide hown9
          have HN9 : w16.cell? ⟨gA, oA + zn * 9, none⟩ = some (strV nz) := by rw [← hnz.out]; exact own_name HO9.out hk.out.symm zn hzl
          clear hown9 hgrow hq HQ8
          have cR : w16.cell? ⟨g10, 1, none⟩ = some (.slice R r rc) := HG9.out.cell 1
          have f1 := HG9.out.frozen 1
          have hHeld : Blk w16 g10 35 #[.slice (some ⟨gA, oA, none⟩) gk c1, .slice R r rc] ∧ w16.cell? ⟨gA, oA + zn * 9, none⟩ = some (strV nz) := ⟨HG9.out, HN9⟩
          refine hK.out _ _ (fun _ _ => hHeld) ?_
          clear hK K
          try simp only [Act.put, List.setIfInBounds_toArray]
          refine UpM.pure (i := 10) 100 (v := .pointer (some ⟨g10, 1, none⟩)) rfl rfl (by kernel_rfl) (by kernel_rfl) (by kernel_rfl) (fun _ _ _ h => h) (Or.inl ⟨by rfl, by intro w_ hSw; go_simp⟩) ?_
          try simp only [Act.put]
          refine UpM.next (i := 11) (by kernel_rfl) rfl (fun K hK => ?_)
          go_simp
          refine hK.out _ _ (fun h => (h (by decide)).elim) ?_
          clear hK K
          try simp only [Act.put, List.setIfInBounds_toArray, List.set_cons_zero, List.set_cons_succ]
          refine UpM.done (by kernel_rfl) ?_ _
          have HG17 := hide (HG9.out.set_ 1 (.slice R9 (r + 1) rc9))
          have HO17 := hide (own_set HO9.out (own_blk_ne HO9.out HG9.out (by decide)) 1 (.slice R9 (r + 1) rc9))
          have HS17 := hide (own_set HS9.out (own_blk_ne HS9.out HG9.out (by decide)) 1 (.slice R9 (r + 1) rc9))
          have HB17 := hide (HB9.out.setCell (p := ⟨g10, 1, none⟩) (by show w9.heap.size ≤ g10; omega) (.slice R9 (r + 1) rc9))
          obtain ⟨w17, hw17⟩ : ∃ W, w16.setCell ⟨g10, 1, none⟩ (.slice R9 (r + 1) rc9) = W := ⟨_, rfl⟩
          rw [hw17] at HG17 HO17 HS17 HB17 ⊢
          clear hw17 HG9 HO9 HS9 HB9 HN9 hHeld cR f1
          obtain rfl : oA = 0 := hoA.out
          have d0 : w17.cell? ⟨g10, 0, none⟩ = some (.slice (some ⟨gA, 0, none⟩) gk c1) := HG17.out.cell 0
          go_wp2_with fail
          go_at_call 33
          refine (deleteBer w9.heap.size L' gA gk c1 zn (zn + 1) _ hk.out (by omega) rfl (by omega) HO17.out).mono ?_
          rintro e w18 ⟨rfl, hown18, hg18⟩
          have HG18 := hide (HG17.out.grown hg18 (fun e => own_blk_ne HO17.out HG17.out (by decide) e.symm))
          have HS18 := hide (HS17.out.kept hg18 (own_own_ne HS17.out HO17.out (by decide)))
          have HB18 := hide (HB17.out.grown hg18 HB17.out.size (fun j hj => (HO17.out.lt j hj).1))
          have HO18 := hide hown18
          clear hown18 hg18 HG17 HS17 HB17 HO17 d0
          have d0 : w18.cell? ⟨g10, 0, none⟩ = some (.slice (some ⟨gA, 0, none⟩) gk c1) := HG18.out.cell 0
          have f0 := HG18.out.frozen 0
          simp only []
          go_wp2_with fail
          go_roundg (gk - 1)
          case measure => omega
          case rel => exact ⟨L'.eraseIdx zn, R9, r + 1, rc9, xs ++ [strV nz], by rw [List.length_eraseIdx, if_pos hzl, hk.out], ⟨(List.eraseIdx_sublist ..).trans hsub.out, by omega⟩, HB18.out.setCell (p := ⟨g10, 0, none⟩) (by show w9.heap.size ≤ g10; omega) _, own_set HO18.out (own_blk_ne HO18.out HG18.out (by decide)) 0 _, HG18.out.set_ 0 _, own_set HS18.out (own_blk_ne HS18.out HG18.out (by decide)) 0 _⟩
        · have hkd2 : (x.kd != 2) = true := by rw [bne_iff_ne]; exact hkd
          go_wp2_with (refine wpList_store_row rfl 35 (.tmp 6) (.tmp 89) rfl (w.heap.size + 2) #[.slice none 0 0, .slice none 0 0] rfl rfl 35 #[.slice none 0 0, .slice none 0 0] HC.out.now.1.1.1.1.2 (by kernel_rfl) rfl (by simp [Value.oneCell']) ?_)
          exact bodyPost_ret (results_row_tmp rfl _ _ (w.heap.size + 2) 35 #[.slice none 0 0, .slice none 0 0] _ (.int .i64 28) rfl rfl (HC.out.now.1.1.1.1.2.row #[.slice none 0 0, .slice none 0 0]) Try.underlying35 rfl (by kernel_rfl)) rfl (admR_err (.inr (.inr rfl)) (Below.row HC.out.now.1.2 (by omega) _))
end Go.Proofs.Ytppkibgemacdbaa
