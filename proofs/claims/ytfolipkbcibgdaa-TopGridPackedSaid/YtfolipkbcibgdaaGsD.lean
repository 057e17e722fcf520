import Derived.Test.YtfolipkbcibgdaaGsC
import Derived.Test.YtfolipkbcibgdaaUpP
import Derived.Lib.LazyBuf
namespace Go.Proofs.Ytfolipkbcibgdaa
open Go.RowKit Go.WideShapes Go.ChangeShapes

/-! carriers: sizes, the reference's error, copies -/
theorem own_other {w w' : World} {b1 e1 s1 n1 b2 e2 s2 n2 : Nat} {v1 v2 : Value} {x1 x2 : List Value} (h1 : w.ownsRow b1 e1 s1 v1 n1 x1) (h2 : w.ownsRow b2 e2 s2 v2 n2 x2) (hne : e2 ≠ e1) (hg : w.grownBy w' v2.ownBlock) : w'.ownsRow b1 e1 s1 v1 n1 x1 := by
  refine h1.kept hg ?_
  cases hv : v1.ownBlock with
  | none => exact .inl rfl
  | some k =>
    right
    intro he
    rcases h1.2 with ⟨rfl, _⟩ | ⟨g, cap, cur, rfl, _, hh, _⟩
    · simp [Value.ownBlock] at hv
    · have hk : g = k := by simpa [Value.ownBlock] using hv
      subst hk
      exact own_blk_ne h2 (g := g) hh hne he.symm
theorem own_cap {w : World} {base n c : Nat} {e : TypeId} {A : Option Addr} {xs : List Value} {size : Nat} (h : w.ownsRow base e size (.slice A n c) n xs) : n ≤ c := by
  rcases h.2 with ⟨h1, h2⟩ | ⟨g, cap, cur, hv, _, _, hc, _⟩
  · injection h1 with _ h1 h2; omega
  · injection hv with _ h1 h2; omega
theorem flat_one {α : Type} {cs : α → List Value} (h : ∀ x, ∀ u ∈ cs x, u.oneCell' = true) (L : List α) : ∀ u ∈ flatC cs L, u.oneCell' = true := fun u hu => by
  obtain ⟨x, _, hx⟩ := List.mem_flatMap.1 hu
  exact h x u hx
theorem prt_one (x : Prt) : ∀ u ∈ Prt.cs x, u.oneCell' = true := by simp [Prt.cs, Value.oneCell']
theorem sig_one (x : Sig) : ∀ u ∈ Sig.cs x, u.oneCell' = true := by simp [Sig.cs, Value.oneCell']
theorem alo_one (x : Alo) : ∀ u ∈ Alo.cs x, u.oneCell' = true := by simp [Alo.cs, Value.oneCell']
theorem prt_info : (Try.prog.info? 56).map (fun i => (i.zero, i.size, i.bytes)) = some (some (.agg #[.int .i64 0, .int .i64 0, .int .i64 0]), 3, 24) := by kernel_rfl
theorem sig_info : (Try.prog.info? 82).map (fun i => (i.zero, i.size, i.bytes)) = some (some (.agg #[.int .i64 0, .int .i64 0, .int .i64 0, .int .i64 0, .int .i64 0, .int .i64 0, .int .i64 0, .int .i64 0, .int .i64 0, .int .i64 0, .int .i64 0]), 11, 88) := by kernel_rfl
theorem alo_info : (Try.prog.info? 34).map (fun i => (i.zero, i.size, i.bytes)) = some (some (.agg #[.int .i64 0, .int .i64 0, .int .i64 0, .int .i64 0, .int .i64 0, .int .i64 0, .int .i64 0]), 7, 56) := by kernel_rfl
/-- at most so many bytes, parts and signals -/
def ShortP (nm : Bs) (pn sn : Nat) : Prop := nm.length ≤ 20 ∧ pn ≤ 6 ∧ sn ≤ 14
def ShortR (nm : Bs) (pn sn : Nat) (w : World) (e : Ending) (w' : World) : Prop := ∃ v : Bool, e = .returned (.bool v) ∧ (v = true → ShortP nm pn sn) ∧ Below w.heap.size w w'
set_option maxRecDepth 100000 in
set_option maxHeartbeats 4000000 in
theorem short_any (nm : Bs) (ce wi : Int) (PA SA : Option Addr) (pn pc sn sc : Nat) (w : World) :
    Calls Try.prog 5 #[.agg #[strV nm, .int .i64 ce, .int .i64 wi, .slice PA pn pc, .slice SA sn sc]] w (ShortR nm pn sn w) := by
  have hlen := fun t W => len_str nm t W
  have HB := hide (show Below w.heap.size w (w.alloc (.cells #[strV nm, .int .i64 ce, .int .i64 wi, .slice PA pn pc, .slice SA sn sc] 25)) from (Below.refl _ _).alloc (Nat.le_refl _) _)
  by_cases h1 : nm.length ≤ 20
  case neg =>
    have g1 : ¬ (nm.length : Int) ≤ 20 := by omega
    have g1' : (20 : Int) < (nm.length : Int) := by omega
    clear h1
    go_enter Try.func5, Try.ntmps5
    go_wp2_with fail
    go_ret
    exact ⟨false, rfl, fun h => absurd h (by decide), HB.out⟩
  have g1 : (nm.length : Int) ≤ 20 := by omega
  have g1' : ¬ (20 : Int) < (nm.length : Int) := by omega
  have H1 := hide h1; clear h1
  by_cases h2 : pn ≤ 6
  case neg =>
    have g2 : ¬ (pn : Int) ≤ 6 := by omega
    have g2' : (6 : Int) < (pn : Int) := by omega
    clear h2
    go_enter Try.func5, Try.ntmps5
    go_wp2_with fail
    go_ret
    exact ⟨false, rfl, fun h => absurd h (by decide), HB.out⟩
  have g2 : (pn : Int) ≤ 6 := by omega
  have g2' : ¬ (6 : Int) < (pn : Int) := by omega
  have H2 := hide h2; clear h2
  by_cases h3 : sn ≤ 14
  case neg =>
    have g3 : ¬ (sn : Int) ≤ 14 := by omega
    have g3' : (14 : Int) < (sn : Int) := by omega
    clear h3
    go_enter Try.func5, Try.ntmps5
    go_wp2_with fail
    go_ret
    exact ⟨false, rfl, fun h => absurd h (by decide), HB.out⟩
  have g3 : (sn : Int) ≤ 14 := by omega
  have g3' : ¬ (14 : Int) < (sn : Int) := by omega
  have H3 := hide h3; clear h3
  go_enter Try.func5, Try.ntmps5
  go_wp2_with fail
  go_ret
  exact ⟨true, rfl, fun _ => ⟨H1.out, H2.out, H3.out⟩, HB.out⟩
set_option maxRecDepth 100000 in
set_option maxHeartbeats 4000000 in
theorem carrierErr_ref (nm : Bs) (ce wi : Int) (PA SA : Option Addr) (pc sc : Nat) (P : List Prt) (S : List Sig) (w : World) (hs : ShortP nm P.length S.length) (hP : Prts w PA P) (hS : Sigs w SA S) :
    Calls Try.prog 6 #[.agg #[strV nm, .int .i64 ce, .int .i64 wi, .slice PA P.length pc, .slice SA S.length sc]] w (ErrV (OkN nm ∧ OkCr ce wi P S) w) := by
  have HC := hide (fun W k k2 => checkCarrier_ref nm ce wi PA SA pc sc P S W (by have := hs.1; omega) (by have := hs.2.1; omega) (by have := hs.2.2; omega) k k2)
  have HT := hide ((((stay_rws hP).and (stay_rws hS)).and (stay_below (Below.refl w.heap.size w))).alloc (.cells #[strV nm, .int .i64 ce, .int .i64 wi, .slice PA P.length pc, .slice SA S.length sc] 25))
  clear hP hS hs
  obtain ⟨pn, hpn⟩ : ∃ x, P.length = x := ⟨_, rfl⟩
  obtain ⟨sn, hsn⟩ : ∃ x, S.length = x := ⟨_, rfl⟩
  rw [hpn, hsn] at HC HT ⊢
  clear hpn hsn
  go_enter Try.func6, Try.ntmps6
  go_wp2_with (go_at_call 15; go_must (refine (HC.out _ HT.out.now.1.1 HT.out.now.1.2).mono ?_; rintro e w2 ⟨m1, m2, v, rfl, hv, hb⟩; have HV := hide hv; replace HT := hide (HT.out.step hb); clear hv hb HC; simp only []))
  go_ret
  exact ⟨v, rfl, HV.out, Below.alloc HT.out.now.2 (by have := HT.out.now.2.size; omega) _⟩
set_option maxRecDepth 100000 in
theorem copyAllocations_ref (L : List Alo) (A : Option Addr) (c m : Nat) (w : World) (hm : L.length = m) (hs : Alos w A L) (hl : m ≤ 1000) :
    Calls Try.prog 10 #[.slice A m c] w fun e w' => ∃ A' c', e = .returned (.slice A' m c') ∧ m ≤ c' ∧ Alos w' A' L ∧ Below w.heap.size w w' := by
  subst hm
  obtain ⟨i0, hi0, hz0, hz1, hz2⟩ := info_parts alo_info
  have hr := Rws.reads alo_n (by omega) (hs.bel ((Below.refl _ w).alloc (Nat.le_refl _) (.cells #[] 34)))
  have ho := World.ownsRow_made (e := 34) (size := 7) w #[] 0 (Nat.le_refl _) (by simp [maxLen]) rfl
  go_enter Try.func10, Try.ntmps10
  go_wp2_with (at_builtin
               refine wpList_append_any _ rfl (.tmp 3) (.tmp 4) _ rfl w.heap.size 34 i0 _ 7 56 Try.underlying32 hi0 hz0 hz1 hz2 rfl (by omega) _ 0 [] rfl
                 ho _ A L.length c (flatC Alo.cs L) rfl hr (flat_one alo_one L) (by simp only [maxLen]; omega) (by omega) (by simp) ?_
               intro v1 w1 hown1 hg1 hat1)
  go_ret
  simp only [Nat.zero_add, List.nil_append] at hown1
  obtain ⟨A', c', rfl⟩ := own_form hown1
  refine ⟨A', c', rfl, own_cap hown1, Rws.of_own alo_n hown1 rfl, ((Below.refl _ w).alloc (Nat.le_refl _) _).grown hg1 (by simp) (fun k hk => ?_)⟩
  cases hk
  exact Nat.le_refl _
/-- a carrier in memory of its own -/
def CopyR (nm : Bs) (ce wi : Int) (P : List Prt) (S : List Sig) (pn sn : Nat) (w : World) (e : Ending) (w' : World) : Prop :=
  ∃ A1 c1 A2 c2, e = .returned (.agg #[strV nm, .int .i64 ce, .int .i64 wi, .slice A1 pn c1, .slice A2 sn c2]) ∧ Prts w' A1 P ∧ Sigs w' A2 S ∧ Below w.heap.size w w'
theorem Rws.row {α : Type} {n : Nat} {cs : α → List Value} {w : World} {A : Option Addr} {L : List α} (h : Rws n cs w A L) {g t : Nat} {zs : Array Value} (hb : Blk w g t zs) {base e size m c : Nat} {xs : List Value} (ho : w.ownsRow base e size (.slice A m c) m xs) (hne : e ≠ t) (us : Array Value) : Rws n cs (w.setRow g us) A L := fun k hk => by
  obtain ⟨b, off, rfl, h1⟩ := h k hk
  refine ⟨b, off, rfl, fun j u hu => ?_⟩
  rw [← h1 j u hu]
  unfold World.cell?
  have hbg : b ≠ g := fun he => own_blk_ne ho hb hne (by rw [← he]; rfl)
  rw [setRow_other w g b us hbg]
set_option maxRecDepth 100000 in
set_option maxHeartbeats 8000000 in
theorem copy_ref (nm : Bs) (ce wi : Int) (PA SA : Option Addr) (pc sc : Nat) (P : List Prt) (S : List Sig) (w : World) (hpl : P.length ≤ 1000) (hsl : S.length ≤ 1000) (hP : Prts w PA P) (hS : Sigs w SA S) :
    Calls Try.prog 9 #[.agg #[strV nm, .int .i64 ce, .int .i64 wi, .slice PA P.length pc, .slice SA S.length sc]] w (CopyR nm ce wi P S P.length S.length w) := by
  obtain ⟨i1, hi0, hz0, hz1, hz2⟩ := info_parts prt_info
  obtain ⟨i2, hj0, hy0, hy1, hy2⟩ := info_parts sig_info
  have HT := hide ((((((stay_blk (Blk.new w 25 #[strV nm, .int .i64 ce, .int .i64 wi, .slice PA P.length pc, .slice SA S.length sc])).alloc (.cells #[.string ⟨#[]⟩, .int .i64 0, .int .i64 0, .slice none 0 0, .slice none 0 0] 25)).and (stay_blk (blk_up w 25 25 #[strV nm, .int .i64 ce, .int .i64 wi, .slice PA P.length pc, .slice SA S.length sc] #[.string ⟨#[]⟩, .int .i64 0, .int .i64 0, .slice none 0 0, .slice none 0 0]))).and (stay_below (((Below.refl _ w).alloc (Nat.le_refl _) (.cells #[strV nm, .int .i64 ce, .int .i64 wi, .slice PA P.length pc, .slice SA S.length sc] 25)).alloc (by simp) (.cells #[.string ⟨#[]⟩, .int .i64 0, .int .i64 0, .slice none 0 0, .slice none 0 0] 25)))).and (((stay_rws hP).alloc (.cells #[strV nm, .int .i64 ce, .int .i64 wi, .slice PA P.length pc, .slice SA S.length sc] 25)).alloc (.cells #[.string ⟨#[]⟩, .int .i64 0, .int .i64 0, .slice none 0 0, .slice none 0 0] 25))).and (((stay_rws hS).alloc (.cells #[strV nm, .int .i64 ce, .int .i64 wi, .slice PA P.length pc, .slice SA S.length sc] 25)).alloc (.cells #[.string ⟨#[]⟩, .int .i64 0, .int .i64 0, .slice none 0 0, .slice none 0 0] 25)))
  clear hP hS
  obtain ⟨W0, hW0⟩ : ∃ W0, (w.alloc (.cells #[strV nm, .int .i64 ce, .int .i64 wi, .slice PA P.length pc, .slice SA S.length sc] 25)).alloc (.cells #[.string ⟨#[]⟩, .int .i64 0, .int .i64 0, .slice none 0 0, .slice none 0 0] 25) = W0 := ⟨_, rfl⟩
  rw [hW0] at HT
  go_enter Try.func9, Try.ntmps9
  go_wp2_with fail
  try rw [hW0]
  clear hW0
  refine UpP.start (S := fun w_ => Below W0.heap.size W0 w_) (Z := [9, 11]) (S' := fun _ => True) (Z' := []) (by kernel_rfl) ?_
  have hHeld : Below W0.heap.size W0 W0.drew := below_drewN (Below.refl W0.heap.size W0) 1
  obtain ⟨v0, hv0⟩ : ∃ v0, W0.drew = v0 := ⟨_, rfl⟩
  replace hHeld : Below W0.heap.size W0 W0.drew := hHeld
  rw [hv0] at hHeld
  first | rw [hv0] | (change UpP _ _ _ _ _ _ _ _ _ _ _ W0.drew; rw [hv0])
  clear hv0
  refine UpP.pure (i := 1) 4 (v := .pointer (some ⟨w.heap.size, 3, none⟩)) rfl rfl (by kernel_rfl) (by kernel_rfl) (by kernel_rfl) (fun _ _ _ h => h) (Or.inl ⟨by rfl, by intro w_ hSw; go_simp⟩) ?_
  try simp only [Act.put, List.setIfInBounds_toArray, List.set_cons_zero, List.set_cons_succ]
  refine UpP.take (i := 2) 5 (v := .slice PA P.length pc) rfl rfl (by kernel_rfl) (by kernel_rfl) (by kernel_rfl) (by kernel_rfl) (fun _ _ _ h => h) hHeld (Or.inl ⟨by rfl, by intro w_ hSw; have c3 : w_.cell? ⟨w.heap.size, 3, none⟩ = some (.slice PA P.length pc) := (HT.out _ hSw).1.1.1.1.cell 3; go_simp⟩) ?_
  try simp only [Act.put, List.setIfInBounds_toArray, List.set_cons_zero, List.set_cons_succ]
  refine UpP.pure (i := 5) 8 (v := .pointer (some ⟨w.heap.size, 4, none⟩)) rfl rfl (by kernel_rfl) (by kernel_rfl) (by kernel_rfl) (fun _ _ _ h => h) (Or.inl ⟨by rfl, by intro w_ hSw; go_simp⟩) ?_
  try simp only [Act.put, List.setIfInBounds_toArray, List.set_cons_zero, List.set_cons_succ]
  refine UpP.take (i := 6) 9 (v := .slice SA S.length sc) rfl rfl (by kernel_rfl) (by kernel_rfl) (by kernel_rfl) (by kernel_rfl) (fun _ _ _ h => h) hHeld (Or.inl ⟨by rfl, by intro w_ hSw; have c4 : w_.cell? ⟨w.heap.size, 4, none⟩ = some (.slice SA S.length sc) := (HT.out _ hSw).1.1.1.1.cell 4; go_simp⟩) ?_
  try simp only [Act.put, List.setIfInBounds_toArray, List.set_cons_zero, List.set_cons_succ]
  refine UpP.next2 (i := 0) (j := 4) (by kernel_rfl) rfl rfl (fun K hK => ?_) (fun K hK => ?_)
  · go_simp
    have hO1 := World.ownsRow_made (base := W0.heap.size) (e := 56) (size := 3) v0 #[] 0 hHeld.size (by simp [maxLen]) rfl
    have hH := hHeld.alloc hHeld.size (.cells #[] 56)
    refine hK.out _ _ ⟨fun _ _ => hH, fun _ _ => trivial⟩ ?_
    clear hK K hHeld
    try simp only [Act.put, List.setIfInBounds_toArray, List.set_cons_zero, List.set_cons_succ]
    obtain ⟨g1, hg1⟩ : ∃ g, v0.heap.size = g := ⟨_, rfl⟩
    obtain ⟨v1, hwn⟩ : ∃ w9, v0.alloc (.cells #[] 56) = w9 := ⟨_, rfl⟩
    rw [hwn] at hH hO1  ⊢
    rw [hg1] at hO1 ⊢
    clear hwn hg1
    have HO1 := hide hO1
    clear hO1
    have hHeld := hH
    clear hH
    refine UpP.next2 (i := 3) (j := 4) (by kernel_rfl) rfl rfl (fun K hK => ?_) (fun K hK => ?_)
    · refine step_append_any _ (by rfl) (.tmp 3) (.tmp 5) 22 (by rfl) W0.heap.size 56 i1 _ 3 24 Try.underlying22 hi0 hz0 hz1 hz2 rfl (by omega) (.slice (some ⟨g1, 0, none⟩) 0 0) 0 [] (by rfl) HO1.out (v1.heap.size) PA P.length pc (flatC Prt.cs P) (by rfl) (Rws.reads prt_n (by omega) (HT.out _ hHeld).1.2) (flat_one prt_one P) (by simp only [maxLen]; omega) (by omega) hHeld.size ?_
      intro vv v2 hown hgrow _
      simp only [Nat.zero_add, List.nil_append] at hown
      obtain ⟨A1, c1, rfl⟩ := own_form hown
      have hH := Below.app' hHeld HO1.out hgrow
      replace HO1 := hide hown
      refine hK.out _ _ ⟨fun _ _ => hH, fun _ _ => trivial⟩ ?_
      clear hK K hHeld hown hgrow
      try simp only [Act.put, List.setIfInBounds_toArray]
      have hHeld := hH
      clear hH
      refine UpP.pure (i := 8) 11 (v := .pointer (some ⟨w.heap.size, 3, none⟩)) rfl rfl (by kernel_rfl) (by kernel_rfl) (by kernel_rfl) (fun _ _ _ h => h) (Or.inl ⟨by rfl, by intro w_ hSw; go_simp⟩) ?_
      try simp only [Act.put]
      refine UpP.next (i := 4) (by kernel_rfl) rfl (fun K hK => ?_)
      go_simp
      have hO2 := World.ownsRow_made (base := W0.heap.size) (e := 82) (size := 11) v2 #[] 0 hHeld.size (by simp [maxLen]) rfl
      replace HO1 := hide (HO1.out.alloc (.cells #[] 82))
      have hH := hHeld.alloc hHeld.size (.cells #[] 82)
      refine hK.out _ _ ⟨fun _ _ => hH, fun _ _ => trivial⟩ ?_
      clear hK K hHeld
      try simp only [Act.put, List.setIfInBounds_toArray, List.set_cons_zero, List.set_cons_succ]
      obtain ⟨g2, hg2⟩ : ∃ g, v2.heap.size = g := ⟨_, rfl⟩
      obtain ⟨v3, hwn⟩ : ∃ w9, v2.alloc (.cells #[] 82) = w9 := ⟨_, rfl⟩
      rw [hwn] at hH hO2 HO1 ⊢
      rw [hg2] at hO2 ⊢
      clear hwn hg2
      have HO2 := hide hO2
      clear hO2
      have hHeld := hH
      clear hH
      refine UpP.next (i := 7) (by kernel_rfl) rfl (fun K hK => ?_)
      refine step_append_any _ (by rfl) (.tmp 7) (.tmp 9) 23 (by rfl) W0.heap.size 82 i2 _ 11 88 Try.underlying23 hj0 hy0 hy1 hy2 rfl (by omega) (.slice (some ⟨g2, 0, none⟩) 0 0) 0 [] (by rfl) HO2.out (v3.heap.size) SA S.length sc (flatC Sig.cs S) (by rfl) (Rws.reads sig_n (by omega) (HT.out _ hHeld).2) (flat_one sig_one S) (by simp only [maxLen]; omega) (by omega) hHeld.size ?_
      intro vv v4 hown hgrow _
      simp only [Nat.zero_add, List.nil_append] at hown
      obtain ⟨A2, c2, rfl⟩ := own_form hown
      replace HO1 := hide (own_other HO1.out HO2.out (by decide) hgrow)
      have hH := Below.app' hHeld HO2.out hgrow
      replace HO2 := hide hown
      refine hK.out _ _ ⟨fun _ _ => hH, fun _ _ => trivial⟩ ?_
      clear hK K hHeld hown hgrow
      try simp only [Act.put, List.setIfInBounds_toArray]
      have hHeld := hH
      clear hH
      have HX := hide (HT.out _ hHeld).1.1.1.1
      have HY := hide (HT.out _ hHeld).1.1.1.2
      have HB := hide (HT.out _ hHeld).1.1.2
      have hf := HX.out.frozen 3
      have hc := HX.out.cell 3
      have hl := HX.out.lt
      refine UpP.next (i := 9) (by kernel_rfl) rfl (fun K hK => ?_)
      go_simp
      refine hK.out _ _ ⟨fun h => (h (by decide)).elim, fun _ _ => trivial⟩ ?_
      clear hK K
      try simp only [Act.put, List.setIfInBounds_toArray, List.set_cons_zero, List.set_cons_succ]
      clear hf hc hl
      replace HO1 := hide (own_far (i := 3) (u := .slice A1 P.length c1) HO1.out HX.out (by decide))
      replace HO2 := hide (own_far (i := 3) (u := .slice A1 P.length c1) HO2.out HX.out (by decide))
      replace HY := hide (HY.out.far (p := ⟨w.heap.size, 3, none⟩) (by show w.heap.size + 1 ≠ w.heap.size; omega) (.slice A1 P.length c1))
      replace HB := hide (HB.out.setCell (p := ⟨w.heap.size, 3, none⟩) (Nat.le_refl _) (.slice A1 P.length c1))
      replace HX := hide (show Blk (v4.setCell ⟨w.heap.size, 3, none⟩ (.slice A1 P.length c1)) w.heap.size 25 #[strV nm, .int .i64 ce, .int .i64 wi, .slice A1 P.length c1, .slice SA S.length sc] from HX.out.set_ 3 (.slice A1 P.length c1))
      obtain ⟨x1, hx1⟩ : ∃ x1, v4.setCell ⟨w.heap.size, 3, none⟩ (.slice A1 P.length c1) = x1 := ⟨_, rfl⟩
      rw [hx1] at HO1 HO2 HX HY HB ⊢
      clear hx1
      refine UpP.pure (i := 10) 12 (v := .pointer (some ⟨w.heap.size, 4, none⟩)) rfl rfl (by kernel_rfl) (by kernel_rfl) (by kernel_rfl) (fun _ _ _ h => h) (Or.inl ⟨by rfl, by intro w_ hSw; go_simp⟩) ?_
      try simp only [Act.put, List.setIfInBounds_toArray, List.set_cons_zero, List.set_cons_succ]
      have hf := HX.out.frozen 4
      have hc := HX.out.cell 4
      have hl := HX.out.lt
      refine UpP.next (i := 11) (by kernel_rfl) rfl (fun K hK => ?_)
      go_simp
      refine hK.out _ _ ⟨fun h => (h (by decide)).elim, fun _ _ => trivial⟩ ?_
      clear hK K
      try simp only [Act.put, List.setIfInBounds_toArray, List.set_cons_zero, List.set_cons_succ]
      clear hf hc hl
      replace HO1 := hide (own_far (i := 4) (u := .slice A2 S.length c2) HO1.out HX.out (by decide))
      replace HO2 := hide (own_far (i := 4) (u := .slice A2 S.length c2) HO2.out HX.out (by decide))
      replace HY := hide (HY.out.far (p := ⟨w.heap.size, 4, none⟩) (by show w.heap.size + 1 ≠ w.heap.size; omega) (.slice A2 S.length c2))
      replace HB := hide (HB.out.setCell (p := ⟨w.heap.size, 4, none⟩) (Nat.le_refl _) (.slice A2 S.length c2))
      replace HX := hide (show Blk (x1.setCell ⟨w.heap.size, 4, none⟩ (.slice A2 S.length c2)) w.heap.size 25 #[strV nm, .int .i64 ce, .int .i64 wi, .slice A1 P.length c1, .slice A2 S.length c2] from HX.out.set_ 4 (.slice A2 S.length c2))
      obtain ⟨x2, hx2⟩ : ∃ x2, x1.setCell ⟨w.heap.size, 4, none⟩ (.slice A2 S.length c2) = x2 := ⟨_, rfl⟩
      rw [hx2] at HO1 HO2 HX HY HB ⊢
      clear hx2
      refine UpP.done (by kernel_rfl) ?_ _
      have y0 := HX.out.cell 0
      have y1 := HX.out.cell 1
      have y2 := HX.out.cell 2
      have y3 := HX.out.cell 3
      have y4 := HX.out.cell 4
      simp at y0 y1 y2 y3 y4
      go_wp2_with (refine wpList_store_row rfl 25 (.tmp 2) (.tmp 13) rfl (w.heap.size + 1) #[strV nm, .int .i64 ce, .int .i64 wi, .slice A1 P.length c1, .slice A2 S.length c2] rfl rfl 25 #[.string ⟨#[]⟩, .int .i64 0, .int .i64 0, .slice none 0 0, .slice none 0 0] HY.out (by kernel_rfl) rfl (by simp [Value.oneCell', strV]) ?_)
      have HS1 := hide (Rws.row (Rws.of_own prt_n HO1.out rfl) HY.out HO1.out (by decide) #[strV nm, .int .i64 ce, .int .i64 wi, .slice A1 P.length c1, .slice A2 S.length c2])
      have HS2 := hide (Rws.row (Rws.of_own sig_n HO2.out rfl) HY.out HO2.out (by decide) #[strV nm, .int .i64 ce, .int .i64 wi, .slice A1 P.length c1, .slice A2 S.length c2])
      exact bodyPost_ret (results_cell_row rfl _ _ (w.heap.size + 1) 25 #[strV nm, .int .i64 ce, .int .i64 wi, .slice A1 P.length c1, .slice A2 S.length c2] (0, 0) _ rfl (HY.out.row _) Try.underlying25 rfl (by kernel_rfl)) rfl ⟨A1, c1, A2, c2, rfl, HS1.out, HS2.out, Below.row HB.out (by omega) _⟩
    · go_simp
      have hO2 := World.ownsRow_made (base := W0.heap.size) (e := 82) (size := 11) v1 #[] 0 hHeld.size (by simp [maxLen]) rfl
      replace HO1 := hide (HO1.out.alloc (.cells #[] 82))
      have hH := hHeld.alloc hHeld.size (.cells #[] 82)
      refine hK.out _ _ ⟨fun _ _ => hH, fun _ _ => trivial⟩ ?_
      clear hK K hHeld
      try simp only [Act.put, List.setIfInBounds_toArray, List.set_cons_zero, List.set_cons_succ]
      obtain ⟨g2, hg2⟩ : ∃ g, v1.heap.size = g := ⟨_, rfl⟩
      obtain ⟨v2, hwn⟩ : ∃ w9, v1.alloc (.cells #[] 82) = w9 := ⟨_, rfl⟩
      rw [hwn] at hH hO2 HO1 ⊢
      rw [hg2] at hO2 ⊢
      clear hwn hg2
      have HO2 := hide hO2
      clear hO2
      have hHeld := hH
      clear hH
      refine UpP.next (i := 3) (by kernel_rfl) rfl (fun K hK => ?_)
      refine step_append_any _ (by rfl) (.tmp 3) (.tmp 5) 22 (by rfl) W0.heap.size 56 i1 _ 3 24 Try.underlying22 hi0 hz0 hz1 hz2 rfl (by omega) (.slice (some ⟨g1, 0, none⟩) 0 0) 0 [] (by rfl) HO1.out (v2.heap.size) PA P.length pc (flatC Prt.cs P) (by rfl) (Rws.reads prt_n (by omega) (HT.out _ hHeld).1.2) (flat_one prt_one P) (by simp only [maxLen]; omega) (by omega) hHeld.size ?_
      intro vv v3 hown hgrow _
      simp only [Nat.zero_add, List.nil_append] at hown
      obtain ⟨A1, c1, rfl⟩ := own_form hown
      replace HO2 := hide (own_other HO2.out HO1.out (by decide) hgrow)
      have hH := Below.app' hHeld HO1.out hgrow
      replace HO1 := hide hown
      refine hK.out _ _ ⟨fun _ _ => hH, fun _ _ => trivial⟩ ?_
      clear hK K hHeld hown hgrow
      try simp only [Act.put, List.setIfInBounds_toArray]
      have hHeld := hH
      clear hH
      refine UpP.pure (i := 8) 11 (v := .pointer (some ⟨w.heap.size, 3, none⟩)) rfl rfl (by kernel_rfl) (by kernel_rfl) (by kernel_rfl) (fun _ _ _ h => h) (Or.inl ⟨by rfl, by intro w_ hSw; go_simp⟩) ?_
      try simp only [Act.put]
      refine UpP.next (i := 7) (by kernel_rfl) rfl (fun K hK => ?_)
      refine step_append_any _ (by rfl) (.tmp 7) (.tmp 9) 23 (by rfl) W0.heap.size 82 i2 _ 11 88 Try.underlying23 hj0 hy0 hy1 hy2 rfl (by omega) (.slice (some ⟨g2, 0, none⟩) 0 0) 0 [] (by rfl) HO2.out (v3.heap.size) SA S.length sc (flatC Sig.cs S) (by rfl) (Rws.reads sig_n (by omega) (HT.out _ hHeld).2) (flat_one sig_one S) (by simp only [maxLen]; omega) (by omega) hHeld.size ?_
      intro vv v4 hown hgrow _
      simp only [Nat.zero_add, List.nil_append] at hown
      obtain ⟨A2, c2, rfl⟩ := own_form hown
      replace HO1 := hide (own_other HO1.out HO2.out (by decide) hgrow)
      have hH := Below.app' hHeld HO2.out hgrow
      replace HO2 := hide hown
      refine hK.out _ _ ⟨fun _ _ => hH, fun _ _ => trivial⟩ ?_
      clear hK K hHeld hown hgrow
      try simp only [Act.put]
      have hHeld := hH
      clear hH
      have HX := hide (HT.out _ hHeld).1.1.1.1
      have HY := hide (HT.out _ hHeld).1.1.1.2
      have HB := hide (HT.out _ hHeld).1.1.2
      have hf := HX.out.frozen 3
      have hc := HX.out.cell 3
      have hl := HX.out.lt
      refine UpP.next (i := 9) (by kernel_rfl) rfl (fun K hK => ?_)
      go_simp
      refine hK.out _ _ ⟨fun h => (h (by decide)).elim, fun _ _ => trivial⟩ ?_
      clear hK K
      try simp only [Act.put, List.setIfInBounds_toArray, List.set_cons_zero, List.set_cons_succ]
      clear hf hc hl
      replace HO1 := hide (own_far (i := 3) (u := .slice A1 P.length c1) HO1.out HX.out (by decide))
      replace HO2 := hide (own_far (i := 3) (u := .slice A1 P.length c1) HO2.out HX.out (by decide))
      replace HY := hide (HY.out.far (p := ⟨w.heap.size, 3, none⟩) (by show w.heap.size + 1 ≠ w.heap.size; omega) (.slice A1 P.length c1))
      replace HB := hide (HB.out.setCell (p := ⟨w.heap.size, 3, none⟩) (Nat.le_refl _) (.slice A1 P.length c1))
      replace HX := hide (show Blk (v4.setCell ⟨w.heap.size, 3, none⟩ (.slice A1 P.length c1)) w.heap.size 25 #[strV nm, .int .i64 ce, .int .i64 wi, .slice A1 P.length c1, .slice SA S.length sc] from HX.out.set_ 3 (.slice A1 P.length c1))
      obtain ⟨x1, hx1⟩ : ∃ x1, v4.setCell ⟨w.heap.size, 3, none⟩ (.slice A1 P.length c1) = x1 := ⟨_, rfl⟩
      rw [hx1] at HO1 HO2 HX HY HB ⊢
      clear hx1
      refine UpP.pure (i := 10) 12 (v := .pointer (some ⟨w.heap.size, 4, none⟩)) rfl rfl (by kernel_rfl) (by kernel_rfl) (by kernel_rfl) (fun _ _ _ h => h) (Or.inl ⟨by rfl, by intro w_ hSw; go_simp⟩) ?_
      try simp only [Act.put, List.setIfInBounds_toArray, List.set_cons_zero, List.set_cons_succ]
      have hf := HX.out.frozen 4
      have hc := HX.out.cell 4
      have hl := HX.out.lt
      refine UpP.next (i := 11) (by kernel_rfl) rfl (fun K hK => ?_)
      go_simp
      refine hK.out _ _ ⟨fun h => (h (by decide)).elim, fun _ _ => trivial⟩ ?_
      clear hK K
      try simp only [Act.put, List.setIfInBounds_toArray, List.set_cons_zero, List.set_cons_succ]
      clear hf hc hl
      replace HO1 := hide (own_far (i := 4) (u := .slice A2 S.length c2) HO1.out HX.out (by decide))
      replace HO2 := hide (own_far (i := 4) (u := .slice A2 S.length c2) HO2.out HX.out (by decide))
      replace HY := hide (HY.out.far (p := ⟨w.heap.size, 4, none⟩) (by show w.heap.size + 1 ≠ w.heap.size; omega) (.slice A2 S.length c2))
      replace HB := hide (HB.out.setCell (p := ⟨w.heap.size, 4, none⟩) (Nat.le_refl _) (.slice A2 S.length c2))
      replace HX := hide (show Blk (x1.setCell ⟨w.heap.size, 4, none⟩ (.slice A2 S.length c2)) w.heap.size 25 #[strV nm, .int .i64 ce, .int .i64 wi, .slice A1 P.length c1, .slice A2 S.length c2] from HX.out.set_ 4 (.slice A2 S.length c2))
      obtain ⟨x2, hx2⟩ : ∃ x2, x1.setCell ⟨w.heap.size, 4, none⟩ (.slice A2 S.length c2) = x2 := ⟨_, rfl⟩
      rw [hx2] at HO1 HO2 HX HY HB ⊢
      clear hx2
      refine UpP.done (by kernel_rfl) ?_ _
      have y0 := HX.out.cell 0
      have y1 := HX.out.cell 1
      have y2 := HX.out.cell 2
      have y3 := HX.out.cell 3
      have y4 := HX.out.cell 4
      simp at y0 y1 y2 y3 y4
      go_wp2_with (refine wpList_store_row rfl 25 (.tmp 2) (.tmp 13) rfl (w.heap.size + 1) #[strV nm, .int .i64 ce, .int .i64 wi, .slice A1 P.length c1, .slice A2 S.length c2] rfl rfl 25 #[.string ⟨#[]⟩, .int .i64 0, .int .i64 0, .slice none 0 0, .slice none 0 0] HY.out (by kernel_rfl) rfl (by simp [Value.oneCell', strV]) ?_)
      have HS1 := hide (Rws.row (Rws.of_own prt_n HO1.out rfl) HY.out HO1.out (by decide) #[strV nm, .int .i64 ce, .int .i64 wi, .slice A1 P.length c1, .slice A2 S.length c2])
      have HS2 := hide (Rws.row (Rws.of_own sig_n HO2.out rfl) HY.out HO2.out (by decide) #[strV nm, .int .i64 ce, .int .i64 wi, .slice A1 P.length c1, .slice A2 S.length c2])
      exact bodyPost_ret (results_cell_row rfl _ _ (w.heap.size + 1) 25 #[strV nm, .int .i64 ce, .int .i64 wi, .slice A1 P.length c1, .slice A2 S.length c2] (0, 0) _ rfl (HY.out.row _) Try.underlying25 rfl (by kernel_rfl)) rfl ⟨A1, c1, A2, c2, rfl, HS1.out, HS2.out, Below.row HB.out (by omega) _⟩
  · go_simp
    have hO2 := World.ownsRow_made (base := W0.heap.size) (e := 82) (size := 11) v0 #[] 0 hHeld.size (by simp [maxLen]) rfl
    have hH := hHeld.alloc hHeld.size (.cells #[] 82)
    refine hK.out _ _ ⟨fun _ _ => hH, fun _ _ => trivial⟩ ?_
    clear hK K hHeld
    try simp only [Act.put, List.setIfInBounds_toArray, List.set_cons_zero, List.set_cons_succ]
    obtain ⟨g2, hg2⟩ : ∃ g, v0.heap.size = g := ⟨_, rfl⟩
    obtain ⟨v1, hwn⟩ : ∃ w9, v0.alloc (.cells #[] 82) = w9 := ⟨_, rfl⟩
    rw [hwn] at hH hO2  ⊢
    rw [hg2] at hO2 ⊢
    clear hwn hg2
    have HO2 := hide hO2
    clear hO2
    have hHeld := hH
    clear hH
    refine UpP.next (i := 0) (by kernel_rfl) rfl (fun K hK => ?_)
    go_simp
    have hO1 := World.ownsRow_made (base := W0.heap.size) (e := 56) (size := 3) v1 #[] 0 hHeld.size (by simp [maxLen]) rfl
    replace HO2 := hide (HO2.out.alloc (.cells #[] 56))
    have hH := hHeld.alloc hHeld.size (.cells #[] 56)
    refine hK.out _ _ ⟨fun _ _ => hH, fun _ _ => trivial⟩ ?_
    clear hK K hHeld
    try simp only [Act.put, List.setIfInBounds_toArray, List.set_cons_zero, List.set_cons_succ]
    obtain ⟨g1, hg1⟩ : ∃ g, v1.heap.size = g := ⟨_, rfl⟩
    obtain ⟨v2, hwn⟩ : ∃ w9, v1.alloc (.cells #[] 56) = w9 := ⟨_, rfl⟩
    rw [hwn] at hH hO1 HO2 ⊢
    rw [hg1] at hO1 ⊢
    clear hwn hg1
    have HO1 := hide hO1
    clear hO1
    have hHeld := hH
    clear hH
    refine UpP.next (i := 3) (by kernel_rfl) rfl (fun K hK => ?_)
    refine step_append_any _ (by rfl) (.tmp 3) (.tmp 5) 22 (by rfl) W0.heap.size 56 i1 _ 3 24 Try.underlying22 hi0 hz0 hz1 hz2 rfl (by omega) (.slice (some ⟨g1, 0, none⟩) 0 0) 0 [] (by rfl) HO1.out (v2.heap.size) PA P.length pc (flatC Prt.cs P) (by rfl) (Rws.reads prt_n (by omega) (HT.out _ hHeld).1.2) (flat_one prt_one P) (by simp only [maxLen]; omega) (by omega) hHeld.size ?_
    intro vv v3 hown hgrow _
    simp only [Nat.zero_add, List.nil_append] at hown
    obtain ⟨A1, c1, rfl⟩ := own_form hown
    replace HO2 := hide (own_other HO2.out HO1.out (by decide) hgrow)
    have hH := Below.app' hHeld HO1.out hgrow
    replace HO1 := hide hown
    refine hK.out _ _ ⟨fun _ _ => hH, fun _ _ => trivial⟩ ?_
    clear hK K hHeld hown hgrow
    try simp only [Act.put, List.setIfInBounds_toArray]
    have hHeld := hH
    clear hH
    refine UpP.pure (i := 8) 11 (v := .pointer (some ⟨w.heap.size, 3, none⟩)) rfl rfl (by kernel_rfl) (by kernel_rfl) (by kernel_rfl) (fun _ _ _ h => h) (Or.inl ⟨by rfl, by intro w_ hSw; go_simp⟩) ?_
    try simp only [Act.put]
    refine UpP.next (i := 7) (by kernel_rfl) rfl (fun K hK => ?_)
    refine step_append_any _ (by rfl) (.tmp 7) (.tmp 9) 23 (by rfl) W0.heap.size 82 i2 _ 11 88 Try.underlying23 hj0 hy0 hy1 hy2 rfl (by omega) (.slice (some ⟨g2, 0, none⟩) 0 0) 0 [] (by rfl) HO2.out (v3.heap.size) SA S.length sc (flatC Sig.cs S) (by rfl) (Rws.reads sig_n (by omega) (HT.out _ hHeld).2) (flat_one sig_one S) (by simp only [maxLen]; omega) (by omega) hHeld.size ?_
    intro vv v4 hown hgrow _
    simp only [Nat.zero_add, List.nil_append] at hown
    obtain ⟨A2, c2, rfl⟩ := own_form hown
    replace HO1 := hide (own_other HO1.out HO2.out (by decide) hgrow)
    have hH := Below.app' hHeld HO2.out hgrow
    replace HO2 := hide hown
    refine hK.out _ _ ⟨fun _ _ => hH, fun _ _ => trivial⟩ ?_
    clear hK K hHeld hown hgrow
    try simp only [Act.put]
    have hHeld := hH
    clear hH
    have HX := hide (HT.out _ hHeld).1.1.1.1
    have HY := hide (HT.out _ hHeld).1.1.1.2
    have HB := hide (HT.out _ hHeld).1.1.2
    have hf := HX.out.frozen 3
    have hc := HX.out.cell 3
    have hl := HX.out.lt
    refine UpP.next (i := 9) (by kernel_rfl) rfl (fun K hK => ?_)
    go_simp
    refine hK.out _ _ ⟨fun h => (h (by decide)).elim, fun _ _ => trivial⟩ ?_
    clear hK K
    try simp only [Act.put, List.setIfInBounds_toArray, List.set_cons_zero, List.set_cons_succ]
    clear hf hc hl
    replace HO1 := hide (own_far (i := 3) (u := .slice A1 P.length c1) HO1.out HX.out (by decide))
    replace HO2 := hide (own_far (i := 3) (u := .slice A1 P.length c1) HO2.out HX.out (by decide))
    replace HY := hide (HY.out.far (p := ⟨w.heap.size, 3, none⟩) (by show w.heap.size + 1 ≠ w.heap.size; omega) (.slice A1 P.length c1))
    replace HB := hide (HB.out.setCell (p := ⟨w.heap.size, 3, none⟩) (Nat.le_refl _) (.slice A1 P.length c1))
    replace HX := hide (show Blk (v4.setCell ⟨w.heap.size, 3, none⟩ (.slice A1 P.length c1)) w.heap.size 25 #[strV nm, .int .i64 ce, .int .i64 wi, .slice A1 P.length c1, .slice SA S.length sc] from HX.out.set_ 3 (.slice A1 P.length c1))
    obtain ⟨x1, hx1⟩ : ∃ x1, v4.setCell ⟨w.heap.size, 3, none⟩ (.slice A1 P.length c1) = x1 := ⟨_, rfl⟩
    rw [hx1] at HO1 HO2 HX HY HB ⊢
    clear hx1
    refine UpP.pure (i := 10) 12 (v := .pointer (some ⟨w.heap.size, 4, none⟩)) rfl rfl (by kernel_rfl) (by kernel_rfl) (by kernel_rfl) (fun _ _ _ h => h) (Or.inl ⟨by rfl, by intro w_ hSw; go_simp⟩) ?_
    try simp only [Act.put, List.setIfInBounds_toArray, List.set_cons_zero, List.set_cons_succ]
    have hf := HX.out.frozen 4
    have hc := HX.out.cell 4
    have hl := HX.out.lt
    refine UpP.next (i := 11) (by kernel_rfl) rfl (fun K hK => ?_)
    go_simp
    refine hK.out _ _ ⟨fun h => (h (by decide)).elim, fun _ _ => trivial⟩ ?_
    clear hK K
    try simp only [Act.put, List.setIfInBounds_toArray, List.set_cons_zero, List.set_cons_succ]
    clear hf hc hl
    replace HO1 := hide (own_far (i := 4) (u := .slice A2 S.length c2) HO1.out HX.out (by decide))
    replace HO2 := hide (own_far (i := 4) (u := .slice A2 S.length c2) HO2.out HX.out (by decide))
    replace HY := hide (HY.out.far (p := ⟨w.heap.size, 4, none⟩) (by show w.heap.size + 1 ≠ w.heap.size; omega) (.slice A2 S.length c2))
    replace HB := hide (HB.out.setCell (p := ⟨w.heap.size, 4, none⟩) (Nat.le_refl _) (.slice A2 S.length c2))
    replace HX := hide (show Blk (x1.setCell ⟨w.heap.size, 4, none⟩ (.slice A2 S.length c2)) w.heap.size 25 #[strV nm, .int .i64 ce, .int .i64 wi, .slice A1 P.length c1, .slice A2 S.length c2] from HX.out.set_ 4 (.slice A2 S.length c2))
    obtain ⟨x2, hx2⟩ : ∃ x2, x1.setCell ⟨w.heap.size, 4, none⟩ (.slice A2 S.length c2) = x2 := ⟨_, rfl⟩
    rw [hx2] at HO1 HO2 HX HY HB ⊢
    clear hx2
    refine UpP.done (by kernel_rfl) ?_ _
    have y0 := HX.out.cell 0
    have y1 := HX.out.cell 1
    have y2 := HX.out.cell 2
    have y3 := HX.out.cell 3
    have y4 := HX.out.cell 4
    simp at y0 y1 y2 y3 y4
    go_wp2_with (refine wpList_store_row rfl 25 (.tmp 2) (.tmp 13) rfl (w.heap.size + 1) #[strV nm, .int .i64 ce, .int .i64 wi, .slice A1 P.length c1, .slice A2 S.length c2] rfl rfl 25 #[.string ⟨#[]⟩, .int .i64 0, .int .i64 0, .slice none 0 0, .slice none 0 0] HY.out (by kernel_rfl) rfl (by simp [Value.oneCell', strV]) ?_)
    have HS1 := hide (Rws.row (Rws.of_own prt_n HO1.out rfl) HY.out HO1.out (by decide) #[strV nm, .int .i64 ce, .int .i64 wi, .slice A1 P.length c1, .slice A2 S.length c2])
    have HS2 := hide (Rws.row (Rws.of_own sig_n HO2.out rfl) HY.out HO2.out (by decide) #[strV nm, .int .i64 ce, .int .i64 wi, .slice A1 P.length c1, .slice A2 S.length c2])
    exact bodyPost_ret (results_cell_row rfl _ _ (w.heap.size + 1) 25 #[strV nm, .int .i64 ce, .int .i64 wi, .slice A1 P.length c1, .slice A2 S.length c2] (0, 0) _ rfl (HY.out.row _) Try.underlying25 rfl (by kernel_rfl)) rfl ⟨A1, c1, A2, c2, rfl, HS1.out, HS2.out, Below.row HB.out (by omega) _⟩
end Go.Proofs.Ytfolipkbcibgdaa
