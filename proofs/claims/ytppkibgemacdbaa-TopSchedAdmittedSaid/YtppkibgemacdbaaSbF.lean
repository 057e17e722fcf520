import Derived.Test.YtppkibgemacdbaaSbE
namespace Go.Proofs.Ytppkibgemacdbaa
open Go.RowKit Go.WideShapes Go.ChangeShapes

/-! users of a run as records; newRun of a list -/
structure Usr where
  x : Ber
  ne : Int
  wa : Int
  se : Int
  rt : Int
  bl : Int
def Usr.cs (s : Usr) : Array Value := #[strV s.x.nm, .int .i64 s.x.kd, .int .i64 s.x.pr, .int .i64 s.x.wt, .int .i64 s.x.pw, .int .i64 s.x.le, .int .i64 s.x.bu, .int .i64 s.x.ra, .int .i64 s.x.de, .int .i64 s.ne, .int .i64 s.wa, .int .i64 s.se, .int .i64 s.rt, .int .i64 s.bl]
def ptrV (u : Nat) : Value := .pointer (some ⟨u, 0, none⟩)
def newU (T : List Int) (x : Ber) : Usr := ⟨x, ndB T x, 0, 0, 0, 0⟩
/-- blocks Us hold these users -/
def UsrAt (W : World) (Us : List Nat) (S : List Usr) : Prop := Us.length = S.length ∧ Us.Nodup ∧ ∀ k (h : k < S.length) (h' : k < Us.length), Blk W Us[k] 97 (Usr.cs S[k])
theorem UsrAt.keep {W W' : World} {Us : List Nat} {S : List Usr} (h : UsrAt W Us S) (hk : ∀ u ∈ Us, W'.heap[u]? = W.heap[u]?) : UsrAt W' Us S :=
  ⟨h.1, h.2.1, fun k h1 h2 => (hk _ (List.getElem_mem h2)).trans (h.2.2 k h1 h2)⟩
theorem UsrAt.lt {W : World} {Us : List Nat} {S : List Usr} (h : UsrAt W Us S) : ∀ u ∈ Us, u < W.heap.size := fun u hu => by
  obtain ⟨k, hk, rfl⟩ := List.getElem_of_mem hu
  exact (h.2.2 k (by rw [← h.1]; exact hk) hk).lt
theorem UsrAt.bel {W W' : World} {Us : List Nat} {S : List Usr} (h : UsrAt W Us S) (hb : Below W.heap.size W W') : UsrAt W' Us S := h.keep fun u hu => hb.block u (h.lt u hu)
theorem UsrAt.set_ {W W' : World} {Us : List Nat} {S : List Usr} (h : UsrAt W Us S) (k : Nat) (_ : k < S.length) (hk' : k < Us.length) (s : Usr) (hg : W.grownBy W' (some Us[k])) (hB : Blk W' Us[k] 97 (Usr.cs s)) : UsrAt W' Us (S.set k s) := by
  refine ⟨by rw [List.length_set]; exact h.1, h.2.1, fun j h1 h2 => ?_⟩
  rw [List.length_set] at h1
  by_cases e : k = j
  · subst e
    rw [List.getElem_set_self]
    exact hB
  · rw [List.getElem_set_ne e]
    refine (h.2.2 j h1 h2).grown hg ?_
    intro e2
    injection e2 with e2
    exact e ((List.getElem_inj (h₀ := h2) (h₁ := hk') h.2.1).1 e2).symm
theorem UsrAt.snoc {W : World} {Us : List Nat} {S : List Usr} (h : UsrAt W Us S) {u : Nat} {s : Usr} (hu : u ∉ Us) (hB : Blk W u 97 (Usr.cs s)) : UsrAt W (Us ++ [u]) (S ++ [s]) := by
  refine ⟨by simp [h.1], ?_, fun k h1 h2 => ?_⟩
  · rw [List.nodup_append]
    exact ⟨h.2.1, by simp, fun a ha b hb e => by simp at hb; subst hb; subst e; exact hu ha⟩
  · by_cases hk : k < S.length
    · rw [List.getElem_append_left (by rw [h.1]; exact hk), List.getElem_append_left hk]
      exact h.2.2 k hk (by rw [h.1]; exact hk)
    · have e : k = S.length := by simp at h1; omega
      subst e
      rw [List.getElem_append_right (by rw [h.1]; exact Nat.le_refl _), List.getElem_append_right (Nat.le_refl _)]
      simp [h.1, hB]
theorem ptrs_one (Us : List Nat) : ∀ u ∈ Us.map ptrV, u.oneCell' = true := by
  intro u hu
  obtain ⟨a, _, rfl⟩ := List.mem_map.1 hu
  rfl
def NewRunL (B C P : Int) (A : Option Addr) (c n : Nat) (S : List Usr) (m : Nat) (w : World) (e : Ending) (w' : World) : Prop :=
  ∃ R D c' Us, e = .returned (ptrV R) ∧ Blk w' R 93 #[.int .i64 B, .int .i64 C, .int .i64 P, .slice A n c, .slice D m c'] ∧ w'.ownsRow (w.heap.size + 2) 94 1 (.slice D m c') m (Us.map ptrV) ∧ UsrAt w' Us S ∧ (∀ u ∈ Us, w.heap.size ≤ u) ∧ w.heap.size ≤ R ∧ Below w.heap.size w w'
set_option maxRecDepth 100000 in
set_option maxHeartbeats 8000000 in
theorem newRun_all (B C P : Int) (A : Option Addr) (c n : Nat) (T : List Int) (L : List Ber) (D : Option Addr) (d m : Nat) (w : World) (hn : T.length = n) (hm : L.length = m) (hs : Sl w A (iv T)) (hs2 : OkS B C P T) (hok : ∀ x ∈ L, OkR T x) (hm8 : m ≤ 8) (hD : Brs w D L) :
    Calls Try.prog 54 #[.agg #[.int .i64 B, .int .i64 C, .int .i64 P, .slice A n c], .slice D m d] w (NewRunL B C P A c n (L.map (newU T)) m w) := by
  have HNE := hide (fun x W (hx : x ∈ L) k => need_all B C P A c n T x W hn k hs2 (hok x hx))
  have HT := hide ((stay_sl hs).and (stay_brs hD))
  have hb0 : Below w.heap.size w ((w.alloc (.cells #[.int .i64 B, .int .i64 C, .int .i64 P, .slice A n c] 74)).alloc (.cells #[.int .i64 B, .int .i64 C, .int .i64 P, .slice A n c, .slice none 0 0] 93)) := ((Below.refl _ w).alloc (Nat.le_refl _) (.cells #[.int .i64 B, .int .i64 C, .int .i64 P, .slice A n c] 74)).alloc (by simp) (.cells #[.int .i64 B, .int .i64 C, .int .i64 P, .slice A n c, .slice none 0 0] 93)
  have hx0 := (Blk.new w 74 #[.int .i64 B, .int .i64 C, .int .i64 P, .slice A n c]).alloc (.cells #[.int .i64 B, .int .i64 C, .int .i64 P, .slice A n c, .slice none 0 0] 93)
  have hx1 := blk_up w 74 93 #[.int .i64 B, .int .i64 C, .int .i64 P, .slice A n c] #[.int .i64 B, .int .i64 C, .int .i64 P, .slice A n c, .slice none 0 0]
  have hz0 : ((w.alloc (.cells #[.int .i64 B, .int .i64 C, .int .i64 P, .slice A n c] 74)).alloc (.cells #[.int .i64 B, .int .i64 C, .int .i64 P, .slice A n c, .slice none 0 0] 93)).heap.size = w.heap.size + 2 := by simp
  have HI := hide (And.intro (And.intro hb0 hx0) (And.intro hx1 hz0))
  obtain ⟨i1, hi0, hy0, hy1, hy2⟩ := info_parts ptr_info
  clear hs hs2 hok hn hD hb0 hx0 hx1 hz0
  go_enter Try.func54, Try.ntmps54
  go_wp2_with fail
  obtain ⟨W3, hW3⟩ : ∃ W3, (w.alloc (.cells #[.int .i64 B, .int .i64 C, .int .i64 P, .slice A n c] 74)).alloc (.cells #[.int .i64 B, .int .i64 C, .int .i64 P, .slice A n c, .slice none 0 0] 93) = W3 := ⟨_, rfl⟩
  rw [hW3] at HI ⊢
  clear hW3
  go_loopw [13] (fun i wr => ∃ k : Nat, ∃ D' c' Us, k ≤ m ∧ i = .int .i64 k ∧ (Below w.heap.size w wr ∧ Blk wr w.heap.size 74 #[.int .i64 B, .int .i64 C, .int .i64 P, .slice A n c]) ∧ Blk wr (w.heap.size + 1) 93 #[.int .i64 B, .int .i64 C, .int .i64 P, .slice A n c, .slice D' k c'] ∧ wr.ownsRow (w.heap.size + 2) 94 1 (.slice D' k c') k (Us.map ptrV) ∧ UsrAt wr Us ((L.take k).map (newU T)) ∧ (∀ u ∈ Us, w.heap.size + 2 ≤ u) ∧ w.heap.size + 2 ≤ wr.heap.size) (fun i _ => m - (intOf i).toNat)
  case atStart => exact ⟨0, none, 0, [], Nat.zero_le _, rfl, HI.out.1, HI.out.2.1, ⟨rfl, .inl ⟨rfl, rfl⟩⟩, ⟨rfl, List.nodup_nil, fun k h => absurd h (by simp)⟩, by simp, by rw [HI.out.2.2]; exact Nat.le_refl _⟩
  case round =>
    obtain ⟨k, D', c', Us, hkm, rfl, hF, hR, hown, hU, hUs, hsz⟩ := hrel
    clear HI
    replace hF := hide hF
    replace hR := hide hR
    replace hU := hide hU
    replace hUs := hide hUs
    have HO := hide hown
    clear hown
    by_cases hlt : k < m
    · have hkl : k < L.length := by omega
      have hki : (k : Int) < (m : Int) := by omega
      obtain ⟨b, o, rfl, b0, b1, b2, b3, b4, b5, b6, b7, b8⟩ := (HT.out _ hF.out.1).2.at_ k hkl
      have HN1 := hide (fun W q => HNE.out L[k] W (List.getElem_mem hkl) q)
      have HTK := hide (show (L.take (k + 1)).map (newU T) = (L.take k).map (newU T) ++ [newU T L[k]] by rw [List.take_succ_eq_append_getElem hkl, List.map_append]; rfl)
      obtain ⟨x, hx⟩ : ∃ x, L[k] = x := ⟨_, rfl⟩
      rw [hx] at HN1 HTK b0 b1 b2 b3 b4 b5 b6 b7 b8
      clear hx
      go_wp2_with (refine wpList_store_row rfl 32 (.tmp 7) (.tmp 16) rfl wr.heap.size #[strV x.nm, .int .i64 x.kd, .int .i64 x.pr, .int .i64 x.wt, .int .i64 x.pw, .int .i64 x.le, .int .i64 x.bu, .int .i64 x.ra, .int .i64 x.de] rfl rfl 32 #[.string ⟨#[]⟩, .int .i64 0, .int .i64 0, .int .i64 0, .int .i64 0, .int .i64 0, .int .i64 0, .int .i64 0, .int .i64 0] (Blk.new wr 32 #[.string ⟨#[]⟩, .int .i64 0, .int .i64 0, .int .i64 0, .int .i64 0, .int .i64 0, .int .i64 0, .int .i64 0, .int .i64 0]) (by kernel_rfl) rfl (by simp [Value.oneCell', strV]) ?_; have HZ := (Blk.new wr 32 #[.string ⟨#[]⟩, .int .i64 0, .int .i64 0, .int .i64 0, .int .i64 0, .int .i64 0, .int .i64 0, .int .i64 0, .int .i64 0]).row #[strV x.nm, .int .i64 x.kd, .int .i64 x.pr, .int .i64 x.wt, .int .i64 x.pw, .int .i64 x.le, .int .i64 x.bu, .int .i64 x.ra, .int .i64 x.de]; have hbz : Below wr.heap.size wr ((wr.alloc (.cells #[.string ⟨#[]⟩, .int .i64 0, .int .i64 0, .int .i64 0, .int .i64 0, .int .i64 0, .int .i64 0, .int .i64 0, .int .i64 0] 32)).setRow wr.heap.size #[strV x.nm, .int .i64 x.kd, .int .i64 x.pr, .int .i64 x.wt, .int .i64 x.pw, .int .i64 x.le, .int .i64 x.bu, .int .i64 x.ra, .int .i64 x.de]) := Below.row (g := wr.heap.size) ((Below.refl wr.heap.size wr).alloc (Nat.le_refl _) (.cells #[.string ⟨#[]⟩, .int .i64 0, .int .i64 0, .int .i64 0, .int .i64 0, .int .i64 0, .int .i64 0, .int .i64 0, .int .i64 0] 32)) (Nat.le_refl _) #[strV x.nm, .int .i64 x.kd, .int .i64 x.pr, .int .i64 x.wt, .int .i64 x.pw, .int .i64 x.le, .int .i64 x.bu, .int .i64 x.ra, .int .i64 x.de]; obtain ⟨W4, hW4⟩ : ∃ W4, (wr.alloc (.cells #[.string ⟨#[]⟩, .int .i64 0, .int .i64 0, .int .i64 0, .int .i64 0, .int .i64 0, .int .i64 0, .int .i64 0, .int .i64 0] 32)).setRow wr.heap.size #[strV x.nm, .int .i64 x.kd, .int .i64 x.pr, .int .i64 x.wt, .int .i64 x.pw, .int .i64 x.le, .int .i64 x.bu, .int .i64 x.ra, .int .i64 x.de] = W4 := ⟨_, rfl⟩; rw [hW4] at HZ hbz ⊢; have HQ := hide ((((((stay_below hF.out.1).and (stay_blk hF.out.2)).and (stay_blk hR.out)).and (stay_own HO.out)).and (show Stay wr (fun W => UsrAt W Us ((L.take k).map (newU T))) from fun W hW => hU.out.bel hW)).step hbz |>.and (stay_blk HZ)); have hsz4 := hbz.size; clear hW4 hbz HZ b0 b1 b2 b3 b4 b5 b6 b7 b8)
      clear hR hU HO
      have hfd := fun W => field_need (ndB T x) (ndC x) (ndP T x) W
      have hHeld := (⟨⟨(HQ.out.drewN 1).now.1.1.1.2, (HQ.out.drewN 1).now.2⟩, (HQ.out.drewN 1).now.1.1.1.1.2⟩ : (Blk W4.drew (w.heap.size + 1) 93 #[.int .i64 B, .int .i64 C, .int .i64 P, .slice A n c, .slice D' k c'] ∧ Blk W4.drew wr.heap.size 32 #[strV x.nm, .int .i64 x.kd, .int .i64 x.pr, .int .i64 x.wt, .int .i64 x.pw, .int .i64 x.le, .int .i64 x.bu, .int .i64 x.ra, .int .i64 x.de]) ∧ Blk W4.drew w.heap.size 74 #[.int .i64 B, .int .i64 C, .int .i64 P, .slice A n c])
      refine UpM.start (Z := [16]) (S := fun w' => (Blk w' (w.heap.size + 1) 93 #[.int .i64 B, .int .i64 C, .int .i64 P, .slice A n c, .slice D' k c'] ∧ Blk w' wr.heap.size 32 #[strV x.nm, .int .i64 x.kd, .int .i64 x.pr, .int .i64 x.wt, .int .i64 x.pw, .int .i64 x.le, .int .i64 x.bu, .int .i64 x.ra, .int .i64 x.de]) ∧ Blk w' w.heap.size 74 #[.int .i64 B, .int .i64 C, .int .i64 P, .slice A n c]) (by kernel_rfl) ?_
      refine UpM.pure (i := 0) 17 (v := .pointer (some ⟨w.heap.size + 1, 0, none⟩)) rfl rfl (by kernel_rfl) (by kernel_rfl) (by kernel_rfl) (fun _ _ _ h => h) (Or.inl ⟨by rfl, by intro w_ hSw; go_simp⟩) ?_
      try simp only [Act.put, List.setIfInBounds_toArray, List.set_cons_zero, List.set_cons_succ]
      refine UpM.pure (i := 1) 18 (v := .pointer (some ⟨w.heap.size + 1, 0, none⟩)) rfl rfl (by kernel_rfl) (by kernel_rfl) (by kernel_rfl) (fun _ _ _ h => h) (Or.inl ⟨by rfl, by intro w_ hSw; go_simp⟩) ?_
      try simp only [Act.put, List.setIfInBounds_toArray, List.set_cons_zero, List.set_cons_succ]
      refine UpM.pure (i := 2) 19 (v := .pointer (some ⟨w.heap.size + 1, 0, none⟩)) rfl rfl (by kernel_rfl) (by kernel_rfl) (by kernel_rfl) (fun _ _ _ h => h) (Or.inl ⟨by rfl, by intro w_ hSw; go_simp⟩) ?_
      try simp only [Act.put, List.setIfInBounds_toArray, List.set_cons_zero, List.set_cons_succ]
      refine UpM.pure (i := 3) 20 (v := .pointer (some ⟨w.heap.size + 1, 4, none⟩)) rfl rfl (by kernel_rfl) (by kernel_rfl) (by kernel_rfl) (fun _ _ _ h => h) (Or.inl ⟨by rfl, by intro w_ hSw; go_simp⟩) ?_
      try simp only [Act.put, List.setIfInBounds_toArray, List.set_cons_zero, List.set_cons_succ]
      refine UpM.take (i := 4) 21 (v := .slice D' k c') rfl rfl (by kernel_rfl) (by kernel_rfl) (by kernel_rfl) (by kernel_rfl) (fun _ _ _ h => h) hHeld (Or.inl ⟨by rfl, by intro w_ hSw; have c4 : w_.cell? ⟨w.heap.size + 1, 4, none⟩ = some (.slice D' k c') := hSw.1.1.cell 4; go_simp⟩) ?_
      try simp only [Act.put, List.setIfInBounds_toArray, List.set_cons_zero, List.set_cons_succ]
      refine UpM.take (i := 5) 22 (v := .agg #[strV x.nm, .int .i64 x.kd, .int .i64 x.pr, .int .i64 x.wt, .int .i64 x.pw, .int .i64 x.le, .int .i64 x.bu, .int .i64 x.ra, .int .i64 x.de]) rfl rfl (by kernel_rfl) (by kernel_rfl) (by kernel_rfl) (by kernel_rfl) (fun _ _ _ h => h) hHeld (Or.inl ⟨by rfl, by intro w_ hSw; have c0 : w_.cell? ⟨wr.heap.size, 0, none⟩ = some (strV x.nm) := hSw.1.2.cell 0; have c1 : w_.cell? ⟨wr.heap.size, 1, none⟩ = some (.int .i64 x.kd) := hSw.1.2.cell 1; have c2 : w_.cell? ⟨wr.heap.size, 2, none⟩ = some (.int .i64 x.pr) := hSw.1.2.cell 2; have c3 : w_.cell? ⟨wr.heap.size, 3, none⟩ = some (.int .i64 x.wt) := hSw.1.2.cell 3; have c4 : w_.cell? ⟨wr.heap.size, 4, none⟩ = some (.int .i64 x.pw) := hSw.1.2.cell 4; have c5 : w_.cell? ⟨wr.heap.size, 5, none⟩ = some (.int .i64 x.le) := hSw.1.2.cell 5; have c6 : w_.cell? ⟨wr.heap.size, 6, none⟩ = some (.int .i64 x.bu) := hSw.1.2.cell 6; have c7 : w_.cell? ⟨wr.heap.size, 7, none⟩ = some (.int .i64 x.ra) := hSw.1.2.cell 7; have c8 : w_.cell? ⟨wr.heap.size, 8, none⟩ = some (.int .i64 x.de) := hSw.1.2.cell 8; go_simp⟩) ?_
      try simp only [Act.put, List.setIfInBounds_toArray, List.set_cons_zero, List.set_cons_succ]
      refine UpM.take (i := 6) 23 (v := .agg #[.int .i64 B, .int .i64 C, .int .i64 P, .slice A n c]) rfl rfl (by kernel_rfl) (by kernel_rfl) (by kernel_rfl) (by kernel_rfl) (fun _ _ _ h => h) hHeld (Or.inl ⟨by rfl, by intro w_ hSw; have s0 : w_.cell? ⟨w.heap.size, 0, none⟩ = some (.int .i64 B) := hSw.2.cell 0; have s1 : w_.cell? ⟨w.heap.size, 1, none⟩ = some (.int .i64 C) := hSw.2.cell 1; have s2 : w_.cell? ⟨w.heap.size, 2, none⟩ = some (.int .i64 P) := hSw.2.cell 2; have s3 : w_.cell? ⟨w.heap.size, 3, none⟩ = some (.slice A n c) := hSw.2.cell 3; go_simp⟩) ?_
      try simp only [Act.put, List.setIfInBounds_toArray, List.set_cons_zero, List.set_cons_succ]
      refine UpM.take (i := 7) 24 (v := .agg #[strV x.nm, .int .i64 x.kd, .int .i64 x.pr, .int .i64 x.wt, .int .i64 x.pw, .int .i64 x.le, .int .i64 x.bu, .int .i64 x.ra, .int .i64 x.de]) rfl rfl (by kernel_rfl) (by kernel_rfl) (by kernel_rfl) (by kernel_rfl) (fun _ _ _ h => h) hHeld (Or.inl ⟨by rfl, by intro w_ hSw; have c0 : w_.cell? ⟨wr.heap.size, 0, none⟩ = some (strV x.nm) := hSw.1.2.cell 0; have c1 : w_.cell? ⟨wr.heap.size, 1, none⟩ = some (.int .i64 x.kd) := hSw.1.2.cell 1; have c2 : w_.cell? ⟨wr.heap.size, 2, none⟩ = some (.int .i64 x.pr) := hSw.1.2.cell 2; have c3 : w_.cell? ⟨wr.heap.size, 3, none⟩ = some (.int .i64 x.wt) := hSw.1.2.cell 3; have c4 : w_.cell? ⟨wr.heap.size, 4, none⟩ = some (.int .i64 x.pw) := hSw.1.2.cell 4; have c5 : w_.cell? ⟨wr.heap.size, 5, none⟩ = some (.int .i64 x.le) := hSw.1.2.cell 5; have c6 : w_.cell? ⟨wr.heap.size, 6, none⟩ = some (.int .i64 x.bu) := hSw.1.2.cell 6; have c7 : w_.cell? ⟨wr.heap.size, 7, none⟩ = some (.int .i64 x.ra) := hSw.1.2.cell 7; have c8 : w_.cell? ⟨wr.heap.size, 8, none⟩ = some (.int .i64 x.de) := hSw.1.2.cell 8; go_simp⟩) ?_
      try simp only [Act.put, List.setIfInBounds_toArray, List.set_cons_zero, List.set_cons_succ]
      refine UpM.next (i := 8) (by kernel_rfl) rfl (fun K hK => ?_)
      go_simp
      replace HQ := hide (HQ.out.drewN 1)
      go_at_call 40
      refine (HN1.out _ (HT.out _ HQ.out.now.1.1.1.1.1).1).mono ?_
      rintro e v1 ⟨rfl, hb⟩
      replace HQ := hide (HQ.out.step hb)
      replace hsz4 := Nat.le_trans hsz4 hb.size
      clear hb HN1
      obtain ⟨U, hU⟩ : ∃ U, v1.heap.size = U := ⟨_, rfl⟩
      have hUw : wr.heap.size < U := by have := HQ.out.now.2.lt; omega
      have hUn : U ∉ Us := fun h => by have := HQ.out.now.1.2.lt U h; omega
      have hHeld : (Blk v1 (w.heap.size + 1) 93 #[.int .i64 B, .int .i64 C, .int .i64 P, .slice A n c, .slice D' k c'] ∧ Blk v1 wr.heap.size 32 #[strV x.nm, .int .i64 x.kd, .int .i64 x.pr, .int .i64 x.wt, .int .i64 x.pw, .int .i64 x.le, .int .i64 x.bu, .int .i64 x.ra, .int .i64 x.de]) ∧ Blk v1 w.heap.size 74 #[.int .i64 B, .int .i64 C, .int .i64 P, .slice A n c] := ⟨⟨HQ.out.now.1.1.1.2, HQ.out.now.2⟩, HQ.out.now.1.1.1.1.2⟩
      simp only []
      refine hK.out _ _ (fun _ _ => hHeld) ?_
      clear hK K
      try simp only [Act.put, List.setIfInBounds_toArray, List.set_cons_zero, List.set_cons_succ]
      refine UpM.pure (i := 9) 26 (v := .int .i64 (ndB T x)) rfl rfl (by kernel_rfl) (by kernel_rfl) (by kernel_rfl) (fun _ _ _ h => h) (Or.inl ⟨by rfl, by intro w_ hSw; go_simp⟩) ?_
      try simp only [Act.put, List.setIfInBounds_toArray, List.set_cons_zero, List.set_cons_succ]
      refine UpM.pure (i := 10) 27 (v := .agg #[strV x.nm, .int .i64 x.kd, .int .i64 x.pr, .int .i64 x.wt, .int .i64 x.pw, .int .i64 x.le, .int .i64 x.bu, .int .i64 x.ra, .int .i64 x.de, .int .i64 (ndB T x), .int .i64 0, .int .i64 0, .int .i64 0, .int .i64 0]) rfl rfl (by kernel_rfl) (by kernel_rfl) (by kernel_rfl) (fun _ _ _ h => h) (Or.inl ⟨by rfl, by intro w_ hSw; go_simp⟩) ?_
      try simp only [Act.put, List.setIfInBounds_toArray, List.set_cons_zero, List.set_cons_succ]
      refine UpM.next (i := 11) (by kernel_rfl) rfl (fun K hK => ?_)
      go_simp
      have HBU := hide (stay_blk (Blk.newN v1 97 #[strV x.nm, .int .i64 x.kd, .int .i64 x.pr, .int .i64 x.wt, .int .i64 x.pw, .int .i64 x.le, .int .i64 x.bu, .int .i64 x.ra, .int .i64 x.de, .int .i64 (ndB T x), .int .i64 0, .int .i64 0, .int .i64 0, .int .i64 0] hU))
      replace HQ := hide (HQ.out.alloc (.cells #[strV x.nm, .int .i64 x.kd, .int .i64 x.pr, .int .i64 x.wt, .int .i64 x.pw, .int .i64 x.le, .int .i64 x.bu, .int .i64 x.ra, .int .i64 x.de, .int .i64 (ndB T x), .int .i64 0, .int .i64 0, .int .i64 0, .int .i64 0] 97))
      obtain ⟨v2, hv2⟩ : ∃ v2, v1.alloc (.cells #[strV x.nm, .int .i64 x.kd, .int .i64 x.pr, .int .i64 x.wt, .int .i64 x.pw, .int .i64 x.le, .int .i64 x.bu, .int .i64 x.ra, .int .i64 x.de, .int .i64 (ndB T x), .int .i64 0, .int .i64 0, .int .i64 0, .int .i64 0] 97) = v2 := ⟨_, rfl⟩
      have hv3 : v2.heap.size = U + 1 := by rw [← hv2, ← hU]; simp
      rw [hv2] at HQ HBU ⊢
      clear hv2 hU
      have hHeld : (Blk v2 (w.heap.size + 1) 93 #[.int .i64 B, .int .i64 C, .int .i64 P, .slice A n c, .slice D' k c'] ∧ Blk v2 wr.heap.size 32 #[strV x.nm, .int .i64 x.kd, .int .i64 x.pr, .int .i64 x.wt, .int .i64 x.pw, .int .i64 x.le, .int .i64 x.bu, .int .i64 x.ra, .int .i64 x.de]) ∧ Blk v2 w.heap.size 74 #[.int .i64 B, .int .i64 C, .int .i64 P, .slice A n c] := ⟨⟨HQ.out.now.1.1.1.2, HQ.out.now.2⟩, HQ.out.now.1.1.1.1.2⟩
      refine hK.out _ _ (fun _ _ => hHeld) ?_
      clear hK K
      try simp only [Act.put, List.setIfInBounds_toArray, List.set_cons_zero, List.set_cons_succ]
      refine UpM.next (i := 12) (by kernel_rfl) rfl (fun K hK => ?_)
      go_simp
      replace HQ := hide (HQ.out.alloc (.cells #[.pointer (some ⟨U, 0, none⟩)] 94))
      replace HBU := hide (HBU.out.alloc (.cells #[.pointer (some ⟨U, 0, none⟩)] 94))
      have hHeld : (Blk (v2.alloc (.cells #[.pointer (some ⟨U, 0, none⟩)] 94)) (w.heap.size + 1) 93 #[.int .i64 B, .int .i64 C, .int .i64 P, .slice A n c, .slice D' k c'] ∧ Blk (v2.alloc (.cells #[.pointer (some ⟨U, 0, none⟩)] 94)) wr.heap.size 32 #[strV x.nm, .int .i64 x.kd, .int .i64 x.pr, .int .i64 x.wt, .int .i64 x.pw, .int .i64 x.le, .int .i64 x.bu, .int .i64 x.ra, .int .i64 x.de]) ∧ Blk (v2.alloc (.cells #[.pointer (some ⟨U, 0, none⟩)] 94)) w.heap.size 74 #[.int .i64 B, .int .i64 C, .int .i64 P, .slice A n c] := ⟨⟨HQ.out.now.1.1.1.2, HQ.out.now.2⟩, HQ.out.now.1.1.1.1.2⟩
      refine hK.out _ _ (fun _ _ => hHeld) ?_
      clear hK K
      try simp only [Act.put, List.setIfInBounds_toArray, List.set_cons_zero, List.set_cons_succ]
      refine UpM.next (i := 13) (by kernel_rfl) rfl (fun K hK => ?_)
      refine step_append_any _ (by rfl) (.tmp 21) (.tmp 29) 91 (by rfl) (w.heap.size + 2) 94 i1 (.pointer none) 1 8 Try.underlying91 hi0 hy0 hy1 hy2 rfl (by omega) (.slice D' k c') k (Us.map ptrV) (by rfl) HQ.out.now.1.1.2 (U + 1 + 1) (some ⟨U + 1, 0, none⟩) 1 1 [ptrV U] (by rfl) (hv3 ▸ reads_one v2 _ _) (by simp [Value.oneCell', ptrV]) (by simp only [maxLen]; omega) (by omega) (by simp; omega) ?_
      intro v9 w9 hown9 hgrow _
      replace hgrow : (v2.alloc (.cells #[.pointer (some ⟨U, 0, none⟩)] 94)).grownBy w9 (Value.ownBlock (.slice D' k c')) := hgrow
      obtain ⟨D9, c9, rfl⟩ := own_form hown9
      have hq := HQ.out.now
      have HO9 := hide hown9
      have HR9 := hide (hq.1.1.1.2.grown hgrow (fun e => own_blk_ne hq.1.1.2 hq.1.1.1.2 (by decide) e.symm))
      have HX9 := hide (hq.2.grown hgrow (fun e => own_blk_ne hq.1.1.2 hq.2 (by decide) e.symm))
      have HS9 := hide (hq.1.1.1.1.2.grown hgrow (fun e => own_blk_ne hq.1.1.2 hq.1.1.1.1.2 (by decide) e.symm))
      have HBU9 := hide (HBU.out.now.grown hgrow (fun e => own_blk_ne hq.1.1.2 HBU.out.now (by decide) e.symm))
      have HUS9 := hide (hq.1.2.keep (fun u hu => hgrow.block u (hq.1.2.lt u hu) (fun e => by obtain ⟨j, hj, rfl⟩ := List.getElem_of_mem hu; exact own_blk_ne hq.1.1.2 (hq.1.2.2.2 j (by rw [← hq.1.2.1]; exact hj) hj) (by decide) e.symm)))
      have HB9 := hide (hq.1.1.1.1.1.grown hgrow hq.1.1.1.1.1.size (fun j hj => by have := (hq.1.1.2.lt j hj).1; omega))
      clear hown9 hgrow hq HQ HBU
      have r4 : w9.cell? ⟨w.heap.size + 1, 4, none⟩ = some (.slice D' k c') := HR9.out.cell 4
      have f4 := HR9.out.frozen 4
      have hHeld : (Blk w9 (w.heap.size + 1) 93 #[.int .i64 B, .int .i64 C, .int .i64 P, .slice A n c, .slice D' k c'] ∧ Blk w9 wr.heap.size 32 #[strV x.nm, .int .i64 x.kd, .int .i64 x.pr, .int .i64 x.wt, .int .i64 x.pw, .int .i64 x.le, .int .i64 x.bu, .int .i64 x.ra, .int .i64 x.de]) ∧ Blk w9 w.heap.size 74 #[.int .i64 B, .int .i64 C, .int .i64 P, .slice A n c] := ⟨⟨HR9.out, HX9.out⟩, HS9.out⟩
      refine hK.out _ _ (fun _ _ => hHeld) ?_
      clear hK K
      try simp only [Act.put, List.setIfInBounds_toArray]
      refine UpM.pure (i := 14) 31 (v := .pointer (some ⟨w.heap.size + 1, 0, none⟩)) rfl rfl (by kernel_rfl) (by kernel_rfl) (by kernel_rfl) (fun _ _ _ h => h) (Or.inl ⟨by rfl, by intro w_ hSw; go_simp⟩) ?_
      try simp only [Act.put]
      refine UpM.pure (i := 15) 32 (v := .pointer (some ⟨w.heap.size + 1, 4, none⟩)) rfl rfl (by kernel_rfl) (by kernel_rfl) (by kernel_rfl) (fun _ _ _ h => h) (Or.inl ⟨by rfl, by intro w_ hSw; go_simp⟩) ?_
      try simp only [Act.put]
      refine UpM.next (i := 16) (by kernel_rfl) rfl (fun K hK => ?_)
      go_simp
      refine hK.out _ _ (fun h => (h (by decide)).elim) ?_
      clear hK K
      try simp only [Act.put, List.setIfInBounds_toArray, List.set_cons_zero, List.set_cons_succ]
      refine UpM.done (by kernel_rfl) ?_ _
      have HRE : Hid (Blk (w9.setCell ⟨w.heap.size + 1, 4, none⟩ (.slice D9 (k + 1) c9)) (w.heap.size + 1) 93 #[.int .i64 B, .int .i64 C, .int .i64 P, .slice A n c, .slice D9 (k + 1) c9]) := hide (HR9.out.set_ 4 (.slice D9 (k + 1) c9))
      have HSE := hide (HS9.out.far (p := ⟨w.heap.size + 1, 4, none⟩) (by show w.heap.size ≠ w.heap.size + 1; omega) (.slice D9 (k + 1) c9))
      have HBE := hide (HB9.out.setCell (p := ⟨w.heap.size + 1, 4, none⟩) (by show _ ≤ w.heap.size + 1; omega) (.slice D9 (k + 1) c9))
      have HOE := hide (own_far (i := 4) (u := .slice D9 (k + 1) c9) HO9.out HR9.out (by decide))
      have HUE := hide ((HUS9.out.snoc (s := newU T x) hUn HBU9.out).keep (W' := w9.setCell ⟨w.heap.size + 1, 4, none⟩ (.slice D9 (k + 1) c9)) (fun u hu => Below.heap_setCell w9 ⟨w.heap.size + 1, 4, none⟩ _ u (fun e => by
        have e : u = w.heap.size + 1 := e
        have hh := hUs.out
        rcases List.mem_append.1 hu with h | h
        · have := hh u h; omega
        · simp at h; omega)))
      have hzE := HSE.out.lt
      have hz9 := HB9.out.size
      obtain ⟨WE, hWE⟩ : ∃ WE, w9.setCell ⟨w.heap.size + 1, 4, none⟩ (.slice D9 (k + 1) c9) = WE := ⟨_, rfl⟩
      rw [hWE] at HRE HSE HBE HOE HUE hzE ⊢
      have hsE := HRE.out.lt
      clear hWE HR9 HX9 HS9 HB9 HO9 HUS9 HBU9 hHeld r4 f4 hfd hzE hz9
      go_wp2_with fail
      go_roundw
      case rel =>
        refine ⟨k + 1, D9, c9, Us ++ [U], by omega, by go_num, ⟨HBE.out, HSE.out⟩, HRE.out, by rw [List.map_append]; exact HOE.out, by rw [HTK.out]; exact HUE.out, fun u hu => ?_, by omega⟩
        rcases List.mem_append.1 hu with h | h
        · exact hUs.out u h
        · simp at h; omega
      case measure => simp [intOf]; omega
    · obtain rfl : k = m := by omega
      have hki : ¬ (k : Int) < (k : Int) := by omega
      go_wp2
      go_ret
      exact ⟨_, D', c', Us, rfl, hR.out, HO.out, by have h := hU.out; rw [show L.take k = L by rw [← hm]; exact List.take_length] at h; exact h, fun u hu => by have := hUs.out u hu; omega, by omega, hF.out.1⟩
end Go.Proofs.Ytppkibgemacdbaa
