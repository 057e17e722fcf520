import Derived.Test.YtehcmhblppjalaaSyL
namespace Go.Proofs.Ytehcmhblppjalaa
open Go.RowKit Go.WideShapes Go.ChangeShapes

/-! scrambled bits (program) -/
def xb (b : Int) (o : Nat) : Int := if b = 0 then (o : Int) else 1 - (o : Int)
def scL (l : List Int) (f : Nat → Nat) (k : Nat) : List Int := (List.range l.length).map fun i => if i < k then xb (l[i]?.getD 0) (f i) else l[i]?.getD 0
theorem scL_len (l : List Int) (f : Nat → Nat) (k : Nat) : (scL l f k).length = l.length := by simp [scL]
theorem scL_zero (l : List Int) (f : Nat → Nat) : scL l f 0 = l := by
  refine List.ext_getElem (by simp [scL]) fun i h1 h2 => ?_
  simp [scL, h2]
theorem scL_at (l : List Int) (f : Nat → Nat) (k i : Nat) (hi : i < l.length) : (scL l f k)[i]? = some (if i < k then xb (l[i]?.getD 0) (f i) else l[i]?.getD 0) := by simp [scL, hi]
theorem scL_set (l : List Int) (f : Nat → Nat) (k : Nat) (_ : k < l.length) : (iv (scL l f k)).set k (.int .i64 (xb (l[k]?.getD 0) (f k))) = iv (scL l f (k + 1)) := by
  refine List.ext_getElem (by simp [iv, scL]) fun i h1 h2 => ?_
  have hi : i < l.length := by simpa [iv, scL] using h2
  rw [List.getElem_set]
  by_cases e : k = i
  · subst e; rw [if_pos rfl]; simp [iv, scL]
  · rw [if_neg e]
    simp only [iv, List.getElem_map, scL, List.getElem_range]
    by_cases h : i < k
    · rw [if_pos h, if_pos (by omega)]
    · rw [if_neg h, if_neg (by omega)]
theorem xor_bit {b : Int} {o : Nat} (hb : b = 0 ∨ b = 1) (ho : o < 2) : bits .xor .i64 b (o : Int) = xb b o := by
  have ho' : o = 0 ∨ o = 1 := by omega
  rcases hb with rfl | rfl <;> rcases ho' with rfl | rfl <;> rfl
theorem grownBy_row (w : World) (g : Nat) (cs : Array Value) : w.grownBy (w.setRow g cs) (some g) := ⟨rfl, rfl, rfl, by simp, fun k _ hne => setRow_other w g k cs (fun e => hne (by rw [e]))⟩
set_option maxRecDepth 100000 in
set_option maxHeartbeats 8000000 in
theorem scrambled_sy (top : Nat) (A1 A2 A3 : Option Addr) (m c1 c2 n c3 : Nat) (T B l : List Int) (w : World) (hm : T.length = m) (hs1 : Sl w A1 (iv T)) (hs2 : Sl w A2 (iv B)) (hr : RgOk top T B)
    (hn : l.length = n) (hs3 : Sl w A3 (iv l)) (hb : btE l = 0) :
    Calls Try.prog 7 #[.agg (rgA ((top : Int) + 1) A1 A2 m (top + 1) c1 c2), .slice A3 n c3] w fun e w' => ∃ C q, e = .returned (.tuple #[.slice C n q, .int .i64 0]) ∧
      w'.ownsRow w.heap.size 3 1 (.slice C n q) n (iv (scL l (fun i => itW (tpW T m) top (wdB B (top + 1)) i % 2) n)) ∧ Below w.heap.size w w' := by
  obtain ⟨hl0, hl4, hlb⟩ := btE_ok hb
  have HC := hide (fun W h1 h2 => checkReg_sy top A1 A2 m c1 c2 T B W hm h1 h2 hr)
  have HWO := hide (fun W h1 h2 => wireOf_sy top A1 A2 m c1 c2 T B W hm h1 h2 hr)
  have HBE := hide (fun W h => bitsErr_sy A3 c3 n l W hn h hb)
  have HCL := hide (fun W h => clone_sy A3 c3 n l W hn (by omega) h (by omega))
  have hx := wdB_lt hr (top + 1)
  have htp := tpW_lt hr m (by omega)
  have htop := hr.hi
  have HS1 := hide (stay_sl hs1)
  have HS2 := hide (stay_sl hs2)
  have HS3 := hide (stay_sl hs3)
  obtain ⟨x, hX⟩ : ∃ x, wdB B (top + 1) = x := ⟨_, rfl⟩
  obtain ⟨tp, hTP⟩ : ∃ x, tpW T m = x := ⟨_, rfl⟩
  rw [hX] at hx
  rw [hTP] at htp
  rw [hX, hTP] at HWO
  rw [hX, hTP]
  have hp10 : 2 ^ (top + 1) ≤ 1024 := Nat.pow_le_pow_right (by decide) (show top + 1 ≤ 10 by omega)
  have HST := hide (fun g n W (h : Blk W g 55 (wrA (itW tp top x n) tp top)) => step_sy g (itW tp top x n) tp top W (itW_lt hx n) htp htop h)
  have HIT := hide (show ∀ n, stepW tp top (itW tp top x n) = itW tp top x (n + 1) from fun _ => rfl)
  have HI0 := hide (show itW tp top x 0 = x from rfl)
  obtain ⟨f, hf⟩ : ∃ f : Nat → Nat, (fun i => itW tp top x i % 2) = f := ⟨_, rfl⟩
  have HF := hide (show ∀ i, itW tp top x i % 2 = f i from fun i => by rw [← hf])
  rw [hf]
  have HZ := hide (scL_zero l f)
  have HSET := hide (fun k (hk : k < n) => scL_set l f k (by omega))
  have HAT := hide (fun k (hk : k < n) => show (iv (scL l f k))[k]? = some (.int .i64 (l[k]?.getD 0)) from by simp [iv, scL_at l f k k (by omega)])
  have HBIT := hide (fun k (hk : k < n) => show l[k]?.getD 0 = 0 ∨ l[k]?.getD 0 = 1 from by
    rw [List.all_eq_true] at hlb
    have := hlb l[k] (List.getElem_mem (by omega))
    rw [List.getElem?_eq_getElem (by omega)]
    unfold bitB at this; simpa using this)
  rw [hn] at hl0 hl4
  have HU := hide (fun e W => unless_any true e W)
  unfold rgA
  unfold rgA at HC HWO
  clear hs1 hs2 hs3 hr hm hX hTP hf hlb hb hn
  have HX := hide (show Stay (w.alloc (.cells #[.int .i64 ((top : Int) + 1), .slice A1 m c1, .slice A2 (top + 1) c2] 24)) (fun W => Blk W w.heap.size 24 #[.int .i64 ((top : Int) + 1), .slice A1 m c1, .slice A2 (top + 1) c2] ∧ Below w.heap.size w W) from
    ((stay_new w 24 #[.int .i64 ((top : Int) + 1), .slice A1 m c1, .slice A2 (top + 1) c2]).and (stay_below (show Below w.heap.size w (w.alloc (.cells #[.int .i64 ((top : Int) + 1), .slice A1 m c1, .slice A2 (top + 1) c2] 24)) from by go_grown))))
  go_enter Try.func7, Try.ntmps7
  go_wp2_with (first
    | (refine wpList_load_row rfl 24 (.tmp 2) rfl w.heap.size rfl 24 #[.int .i64 ((top : Int) + 1), .slice A1 m c1, .slice A2 (top + 1) c2] (0, 0) _ HX.out.now.1 Try.underlying24 rfl (by kernel_rfl) ?_)
    | (go_at_call 19; go_must (refine (HC.out _ (HS1.out _ HX.out.now.2) (HS2.out _ HX.out.now.2)).mono ?_; rintro e w1 ⟨rfl, hb⟩; replace HX := hide (HX.out.step hb); clear hb; simp only []))
    | (go_at_call 20; go_must (refine (HBE.out _ (HS3.out _ HX.out.now.2)).mono ?_; rintro e w2 ⟨rfl, hb⟩; replace HX := hide (HX.out.step hb); clear hb; simp only []))
    | (go_at_call 18; go_must (replace HX := hide (HX.out.alloc (.cells #[.int .i64 0, .int .i64 0] 28)); refine (first2z _ _ rfl).mono ?_; rintro e w5 ⟨rfl, rfl⟩; simp only [])))
  obtain ⟨v, hv⟩ : ∃ W, w2.alloc (.cells #[.int .i64 0, .int .i64 0] 28) = W := ⟨_, rfl⟩
  rw [hv] at HX ⊢
  clear hv HU HC HBE
  have HH := hide (show Below v.heap.size v v.drew from below_drewN (Below.refl _ _) 1)
  refine wp_region_held_drew (S := fun w' => Blk w' w.heap.size 24 #[.int .i64 ((top : Int) + 1), .slice A1 m c1, .slice A2 (top + 1) c2]) (by kernel_rfl) (HX.out _ HH.out).1 (fun hHeld => ?_)
  refine take_at (i := 0) 19 (v := .slice A3 n c3) rfl rfl (by kernel_rfl) (by kernel_rfl) (by kernel_rfl) (fun _ _ _ h => h) (Or.inl ⟨by rfl, by intro w hSw; go_simp⟩) (by assumption) ?_
  try simp only [Act.put, List.setIfInBounds_toArray, List.set_cons_zero, List.set_cons_succ]
  refine take_at (i := 2) 21 (v := .agg #[.int .i64 ((top : Int) + 1), .slice A1 m c1, .slice A2 (top + 1) c2]) rfl rfl (by kernel_rfl) (by kernel_rfl) (by kernel_rfl) (fun _ _ _ h => h) (Or.inl ⟨by rfl, by intro w1 hSw; have q0 := hSw.cell 0; have q1 := hSw.cell 1; have q2 := hSw.cell 2; go_simp⟩) (by assumption) ?_
  try simp only [Act.put, List.setIfInBounds_toArray, List.set_cons_zero, List.set_cons_succ]
  obtain ⟨v0, hv0⟩ : ∃ W, v.drew = W := ⟨_, rfl⟩
  rw [hv0] at HH hHeld ⊢
  clear hv0
  refine wpAnyH_ready (rs := [1, 4]) (by kernel_rfl) (by simp) ?_
  refine AllReadyH.cons rfl (fun K hK => ?_) (AllReadyH.cons rfl (fun K hK => ?_) AllReadyH.nil)
  go_simp
  refine (HCL.out _ (HS3.out _ (HX.out _ HH.out).2)).mono ?_
  rintro e u1 ⟨C, q, rfl, ho, hb⟩
  have HO := hide (ho.weaken HH.out.size)
  replace HH := hide (Below.step HH.out hb)
  clear hb ho
  simp only []
  refine hK.out _ _ (HX.out _ HH.out).1 (fun hHeld => ?_)
  clear hK K
  try simp only [Act.put, List.setIfInBounds_toArray, List.set_cons_zero, List.set_cons_succ]
  refine wpAnyH_ready (rs := [3, 4]) (by kernel_rfl) (by simp) ?_
  refine AllReadyH.cons rfl (fun K hK => ?_) (AllReadyH.cons rfl (fun K hK => ?_) AllReadyH.nil)
  go_simp
  refine (HWO.out _ (HS1.out _ (HX.out _ HH.out).2) (HS2.out _ (HX.out _ HH.out).2)).mono ?_
  rintro e u2 ⟨rfl, hb⟩
  replace HO := hide (own_bel HO.out hb)
  replace HH := hide (Below.step HH.out hb)
  clear hb
  simp only []
  refine hK.out _ _ (HX.out _ HH.out).1 (fun hHeld => ?_)
  clear hK K
  try simp only [Act.put, List.setIfInBounds_toArray, List.set_cons_zero, List.set_cons_succ]
  refine wpAnyH_ready (rs := [4]) (by kernel_rfl) (by simp) ?_
  refine AllReadyH.cons rfl (fun K hK => ?_) AllReadyH.nil
  go_simp
  have HGG := hide (show v.heap.size ≤ u2.heap.size from HH.out.size)
  have HA := hide (stay_new u2 55 (wrA 0 0 0))
  replace HO := hide (HO.out.alloc (.cells (wrA 0 0 0) 55))
  replace HH := hide (HH.out.alloc HH.out.size (.cells (wrA 0 0 0) 55))
  refine hK.out _ _ (HX.out _ HH.out).1 (fun hHeld => ?_)
  clear hK K
  try simp only [Act.put, List.setIfInBounds_toArray, List.set_cons_zero, List.set_cons_succ]
  refine take_at (i := 5) 7 (v := .slice C n q) rfl rfl (by kernel_rfl) (by kernel_rfl) (by kernel_rfl) (fun _ _ _ h => h) (Or.inl ⟨by rfl, by intro w hSw; go_simp⟩) (by assumption) ?_
  try simp only [Act.put, List.setIfInBounds_toArray, List.set_cons_zero, List.set_cons_succ]
  refine wpAnyH_ready (rs := [6]) (by kernel_rfl) (by simp) ?_
  refine AllReadyH.cons rfl (fun K hK => ?_) AllReadyH.nil
  refine step_store_rowF rfl 55 (.tmp 8) (.tmp 22) rfl u2.heap.size (wrA x tp top) rfl rfl 55 (wrA 0 0 0) HA.out.now (by kernel_rfl) rfl (by simp [Value.oneCell']) ?_
  replace HO := hide (HO.out.kept (grownBy_row (u2.alloc (.cells (wrA 0 0 0) 55)) u2.heap.size (wrA x tp top)) (.inr (own_blk_ne HO.out HA.out.now (by decide))))
  replace HH := hide (show Below v.heap.size v ((u2.alloc (.cells (wrA 0 0 0) 55)).setRow u2.heap.size (wrA x tp top)) from Below.row HH.out HGG.out _)
  replace HA := hide (stay_blk (HA.out.now.row (wrA x tp top)))
  refine hK.out _ _ (HX.out _ HH.out).1 (fun hHeld => ?_)
  clear hK K
  try simp only [Act.put, List.setIfInBounds_toArray]
  refine wpAnyH_done (by kernel_rfl) ?_ _
  obtain ⟨u3, hu3⟩ : ∃ W, (u2.alloc (.cells (wrA 0 0 0) 55)).setRow u2.heap.size (wrA x tp top) = W := ⟨_, rfl⟩
  rw [hu3] at HO HH HA
  rw [show (u2.alloc (.cells #[.int .u16 0, .int .u16 0, .int .i64 0] 55)).setRow u2.heap.size (wrA x tp top) = u3 from hu3]
  clear hu3
  obtain ⟨gA, hgA⟩ : ∃ g, u2.heap.size = g := ⟨_, rfl⟩
  rw [hgA] at HA HGG ⊢
  clear hgA
  rotate_left
  go_simp
  have HGG := hide (show v.heap.size ≤ u1.heap.size from HH.out.size)
  have HA := hide (stay_new u1 55 (wrA 0 0 0))
  replace HO := hide (HO.out.alloc (.cells (wrA 0 0 0) 55))
  replace HH := hide (HH.out.alloc HH.out.size (.cells (wrA 0 0 0) 55))
  refine hK.out _ _ (HX.out _ HH.out).1 (fun hHeld => ?_)
  clear hK K
  try simp only [Act.put, List.setIfInBounds_toArray, List.set_cons_zero, List.set_cons_succ]
  refine wpAnyH_ready (rs := [3]) (by kernel_rfl) (by simp) ?_
  refine AllReadyH.cons rfl (fun K hK => ?_) AllReadyH.nil
  go_simp
  refine (HWO.out _ (HS1.out _ (HX.out _ HH.out).2) (HS2.out _ (HX.out _ HH.out).2)).mono ?_
  rintro e u2 ⟨rfl, hb⟩
  replace HO := hide (own_bel HO.out hb)
  replace HA := hide (HA.out.step hb)
  replace HH := hide (Below.step HH.out hb)
  clear hb
  simp only []
  refine hK.out _ _ (HX.out _ HH.out).1 (fun hHeld => ?_)
  clear hK K
  try simp only [Act.put, List.setIfInBounds_toArray, List.set_cons_zero, List.set_cons_succ]
  refine take_at (i := 5) 7 (v := .slice C n q) rfl rfl (by kernel_rfl) (by kernel_rfl) (by kernel_rfl) (fun _ _ _ h => h) (Or.inl ⟨by rfl, by intro w hSw; go_simp⟩) (by assumption) ?_
  try simp only [Act.put, List.setIfInBounds_toArray, List.set_cons_zero, List.set_cons_succ]
  refine wpAnyH_ready (rs := [6]) (by kernel_rfl) (by simp) ?_
  refine AllReadyH.cons rfl (fun K hK => ?_) AllReadyH.nil
  refine step_store_rowF rfl 55 (.tmp 8) (.tmp 22) rfl u1.heap.size (wrA x tp top) rfl rfl 55 (wrA 0 0 0) HA.out.now (by kernel_rfl) rfl (by simp [Value.oneCell']) ?_
  replace HO := hide (HO.out.kept (grownBy_row u2 u1.heap.size (wrA x tp top)) (.inr (own_blk_ne HO.out HA.out.now (by decide))))
  replace HH := hide (show Below v.heap.size v (u2.setRow u1.heap.size (wrA x tp top)) from Below.row HH.out HGG.out _)
  replace HA := hide (stay_blk (HA.out.now.row (wrA x tp top)))
  refine hK.out _ _ (HX.out _ HH.out).1 (fun hHeld => ?_)
  clear hK K
  try simp only [Act.put, List.setIfInBounds_toArray]
  refine wpAnyH_done (by kernel_rfl) ?_ _
  obtain ⟨u3, hu3⟩ : ∃ W, u2.setRow u1.heap.size (wrA x tp top) = W := ⟨_, rfl⟩
  rw [hu3] at HO HH HA
  rw [show u2.setRow u1.heap.size (wrA x tp top) = u3 from hu3]
  clear hu3
  obtain ⟨gA, hgA⟩ : ∃ g, u1.heap.size = g := ⟨_, rfl⟩
  rw [hgA] at HA HGG ⊢
  clear hgA
  rotate_left
  go_simp
  have HGG := hide (show v.heap.size ≤ v0.heap.size from HH.out.size)
  have HA := hide (stay_new v0 55 (wrA 0 0 0))
  replace HH := hide (HH.out.alloc HH.out.size (.cells (wrA 0 0 0) 55))
  refine hK.out _ _ (HX.out _ HH.out).1 (fun hHeld => ?_)
  clear hK K
  try simp only [Act.put, List.setIfInBounds_toArray, List.set_cons_zero, List.set_cons_succ]
  refine wpAnyH_ready (rs := [1]) (by kernel_rfl) (by simp) ?_
  refine AllReadyH.cons rfl (fun K hK => ?_) AllReadyH.nil
  go_simp
  refine (HCL.out _ (HS3.out _ (HX.out _ HH.out).2)).mono ?_
  rintro e u1 ⟨C, q, rfl, ho, hb⟩
  have HO := hide (ho.weaken HH.out.size)
  replace HA := hide (HA.out.step hb)
  replace HH := hide (Below.step HH.out hb)
  clear hb ho
  simp only []
  refine hK.out _ _ (HX.out _ HH.out).1 (fun hHeld => ?_)
  clear hK K
  try simp only [Act.put, List.setIfInBounds_toArray, List.set_cons_zero, List.set_cons_succ]
  refine wpAnyH_ready (rs := [3]) (by kernel_rfl) (by simp) ?_
  refine AllReadyH.cons rfl (fun K hK => ?_) AllReadyH.nil
  go_simp
  refine (HWO.out _ (HS1.out _ (HX.out _ HH.out).2) (HS2.out _ (HX.out _ HH.out).2)).mono ?_
  rintro e u2 ⟨rfl, hb⟩
  replace HO := hide (own_bel HO.out hb)
  replace HA := hide (HA.out.step hb)
  replace HH := hide (Below.step HH.out hb)
  clear hb
  simp only []
  refine hK.out _ _ (HX.out _ HH.out).1 (fun hHeld => ?_)
  clear hK K
  try simp only [Act.put, List.setIfInBounds_toArray, List.set_cons_zero, List.set_cons_succ]
  refine take_at (i := 5) 7 (v := .slice C n q) rfl rfl (by kernel_rfl) (by kernel_rfl) (by kernel_rfl) (fun _ _ _ h => h) (Or.inl ⟨by rfl, by intro w hSw; go_simp⟩) (by assumption) ?_
  try simp only [Act.put, List.setIfInBounds_toArray, List.set_cons_zero, List.set_cons_succ]
  refine wpAnyH_ready (rs := [6]) (by kernel_rfl) (by simp) ?_
  refine AllReadyH.cons rfl (fun K hK => ?_) AllReadyH.nil
  refine step_store_rowF rfl 55 (.tmp 8) (.tmp 22) rfl v0.heap.size (wrA x tp top) rfl rfl 55 (wrA 0 0 0) HA.out.now (by kernel_rfl) rfl (by simp [Value.oneCell']) ?_
  replace HO := hide (HO.out.kept (grownBy_row u2 v0.heap.size (wrA x tp top)) (.inr (own_blk_ne HO.out HA.out.now (by decide))))
  replace HH := hide (show Below v.heap.size v (u2.setRow v0.heap.size (wrA x tp top)) from Below.row HH.out HGG.out _)
  replace HA := hide (stay_blk (HA.out.now.row (wrA x tp top)))
  refine hK.out _ _ (HX.out _ HH.out).1 (fun hHeld => ?_)
  clear hK K
  try simp only [Act.put, List.setIfInBounds_toArray]
  refine wpAnyH_done (by kernel_rfl) ?_ _
  obtain ⟨u3, hu3⟩ : ∃ W, u2.setRow v0.heap.size (wrA x tp top) = W := ⟨_, rfl⟩
  rw [hu3] at HO HH HA
  rw [show u2.setRow v0.heap.size (wrA x tp top) = u3 from hu3]
  clear hu3
  obtain ⟨gA, hgA⟩ : ∃ g, v0.heap.size = g := ⟨_, rfl⟩
  rw [hgA] at HA HGG ⊢
  clear hgA
  rotate_left
  all_goals
    obtain ⟨g0, q0, hC⟩ : ∃ g0 q0, (Value.slice C n q) = .slice (some ⟨g0, 0, none⟩) n q0 := by
      obtain ⟨b, cap, hv, _⟩ := HO.out.form hl0
      exact ⟨b, cap, hv⟩
    injection hC with hC _ hq
    subst hC hq
    have HNE := hide (own_blk_ne HO.out HA.out.now (by decide))
    have HG0 := hide ((HO.out.lt g0 rfl).1)
    have HGA := hide (show v.heap.size ≤ gA from HGG.out)
    have HBV := hide (Below.step HX.out.now.2 HH.out)
    have HNG := hide (show gA ≠ g0 from fun e => HNE.out (by rw [e]; rfl))
    clear HBV HNE
    go_wp2
    go_loopw [25] (fun i wr => ∃ k : Nat, k ≤ n ∧ i = .int .i64 k ∧ wr.ownsRow v.heap.size 3 1 (.slice (some ⟨g0, 0, none⟩) n q) n (iv (scL l f k)) ∧ Blk wr gA 55 (wrA (itW tp top x k) tp top) ∧ Below v.heap.size v wr) (fun i _ => n - (intOf i).toNat)
    case atStart => exact ⟨0, Nat.zero_le _, rfl, by rw [HZ.out]; exact HO.out, by rw [HI0.out]; exact HA.out.now, HH.out⟩
    case round =>
      clear HO HA HH
      obtain ⟨k, hk, rfl, ho, hA, hbel⟩ := hrel
      by_cases hlt : k < n
      · have HO := hide ho
        have HA := hide hA
        have HH := hide hbel
        have hcell := ho.cellAt k (by omega)
        rw [HAT.out k hlt] at hcell
        have hbit := HBIT.out k hlt
        have hset := HSET.out k hlt
        have HSTK := hide (fun W (h : Blk W gA 55 (wrA (itW tp top x k) tp top)) => by have := HST.out gA k W h; rw [HIT.out, HF.out] at this; exact this)
        have hfo : f k < 2 := by rw [← HF.out]; exact Nat.mod_lt _ (by decide)
        obtain ⟨b, hbv⟩ : ∃ b, l[k]?.getD 0 = b := ⟨_, rfl⟩
        rw [hbv] at hcell hbit hset
        obtain ⟨o, hov⟩ : ∃ o, f k = o := ⟨_, rfl⟩
        rw [hov] at hfo hset HSTK
        have bx := xor_bit hbit hfo
        obtain ⟨uu, huu⟩ : ∃ u, xb b o = u := ⟨_, rfl⟩
        rw [huu] at bx hset
        have HSETK := hide hset
        have g1 : (0 : Int) ≤ (k : Int) := by omega
        have g2 : (k : Int) < (n : Int) := by omega
        obtain ⟨L, hLL⟩ : ∃ L, iv (scL l f k) = L := ⟨_, rfl⟩
        obtain ⟨L', hLL'⟩ : ∃ L, iv (scL l f (k + 1)) = L := ⟨_, rfl⟩
        have HLL := hide hLL'
        rw [hLL, hLL'] at HSETK
        rw [hLL] at HO
        have HLT2 := hide hlt
        have HCELL := hide hcell
        have HCAT := hide (fun (W : World) (h : W.ownsRow v.heap.size 3 1 (.slice (some ⟨g0, 0, none⟩) n q) n L) => show W.cell? ⟨g0, k, none⟩ = some (.int .i64 b) from by
          have q := h.cellAt k (by omega)
          have p := ho.cellAt k (by omega)
          rw [hLL] at p
          rw [q, ← p]; exact hcell)
        clear ho hA hbel hset hbit hbv hov huu hLL hLL' HAT HBIT HSET HST HIT HZ HI0 HF HWO HCL hfo
        go_wp2
        clear hcell
        have hHeld := (show wr.drew.cell? ⟨g0, k, none⟩ = some (.int .i64 b) from HCELL.out)
        refine UpTo.start (z := 7) (S := fun w' => w'.cell? ⟨g0, k, none⟩ = some (.int .i64 b)) (by kernel_rfl) ?_
        refine UpTo.take (i := 0) 28 (v := .slice (some ⟨g0, 0, none⟩) n q) rfl rfl (by kernel_rfl) (by kernel_rfl) (by kernel_rfl) (by kernel_rfl) (fun _ _ _ h => h) hHeld (Or.inl ⟨by rfl, by intro w hSw; go_simp⟩) ?_
        try simp only [Act.put, List.setIfInBounds_toArray, List.set_cons_zero, List.set_cons_succ]
        refine UpTo.take (i := 1) 29 (v := .int .i64 (k : Int)) rfl rfl (by kernel_rfl) (by kernel_rfl) (by kernel_rfl) (by kernel_rfl) (fun _ _ _ h => h) hHeld (Or.inl ⟨by rfl, by intro w hSw; go_simp⟩) ?_
        try simp only [Act.put, List.setIfInBounds_toArray, List.set_cons_zero, List.set_cons_succ]
        refine UpTo.take (i := 2) 30 (v := .pointer (some ⟨g0, k, none⟩)) rfl rfl (by kernel_rfl) (by kernel_rfl) (by kernel_rfl) (by kernel_rfl) (fun _ _ _ h => h) hHeld (Or.inl ⟨by rfl, by intro w hSw; go_simp⟩) ?_
        try simp only [Act.put, List.setIfInBounds_toArray, List.set_cons_zero, List.set_cons_succ]
        refine UpTo.take (i := 3) 31 (v := .int .i64 b) rfl rfl (by kernel_rfl) (by kernel_rfl) (by kernel_rfl) (by kernel_rfl) (fun _ _ _ h => h) hHeld (Or.inl ⟨by rfl, by intro w1 hSw; have q := hSw; go_simp⟩) ?_
        try simp only [Act.put, List.setIfInBounds_toArray, List.set_cons_zero, List.set_cons_succ]
        obtain ⟨u4, hu4⟩ : ∃ W, wr.drew = W := ⟨_, rfl⟩
        have HO4 := hide (show u4.ownsRow v.heap.size 3 1 (.slice (some ⟨g0, 0, none⟩) n q) n L from hu4 ▸ HO.out.drew)
        have HA4 := hide (show Blk u4 gA 55 (wrA (itW tp top x k) tp top) from hu4 ▸ HA.out)
        have HH4 := hide (show Below v.heap.size v u4 from hu4 ▸ below_drewN HH.out 1)
        rw [hu4] at hHeld ⊢
        clear hu4 HO HA HH
        refine UpTo.next (i := 4) (by kernel_rfl) rfl (fun K hK => ?_)
        go_simp
        refine (HSTK.out _ HA4.out).mono ?_
        rintro e u5 ⟨rfl, ha5, hgr⟩
        have HA5 := hide ha5
        have HO5 := hide (HO4.out.kept hgr (.inr (fun e => by injection e with e; exact HNG.out e.symm)))
        have HH5 := hide (HH4.out.grown hgr HH4.out.size (fun k hk => by injection hk with hk; rw [← hk]; exact HGA.out))
        clear ha5 hgr
        simp only []
        refine hK.out _ _ (fun _ => (HCAT.out _ HO5.out)) ?_
        clear hK K
        try simp only [Act.put, List.setIfInBounds_toArray, List.set_cons_zero, List.set_cons_succ]
        have hHeld2 := HCAT.out _ HO5.out
        refine UpTo.take (i := 5) 33 (v := .int .i64 uu) rfl rfl (by kernel_rfl) (by kernel_rfl) (by kernel_rfl) (by kernel_rfl) (fun _ _ _ h => h) hHeld2 (Or.inl ⟨by rfl, by intro w hSw; go_simp⟩) ?_
        try simp only [Act.put, List.setIfInBounds_toArray, List.set_cons_zero, List.set_cons_succ]
        refine UpTo.next (i := 6) (by kernel_rfl) rfl (fun K hK => ?_)
        go_simp
        refine hK.out _ _ (fun _ => (HCAT.out _ HO5.out)) ?_
        clear hK K
        try simp only [Act.put, List.setIfInBounds_toArray, List.set_cons_zero, List.set_cons_succ]
        have u0 := HCAT.out _ HO5.out
        have f0 := HO5.out.frozenAt k
        refine UpTo.next (i := 7) (by kernel_rfl) rfl (fun K hK => ?_)
        go_simp
        refine hK.out _ _ (fun h => absurd rfl h) ?_
        clear hK K
        refine UpTo.done (by kernel_rfl) ?_ _
        go_wp2
        go_roundw
        case rel => exact ⟨k + 1, HLT2.out, by go_num, by rw [HLL.out, ← HSETK.out]; exact (HO5.out.stored k (.int .i64 uu)).1, HA5.out.far (p := ⟨g0, k, none⟩) HNG.out _, HH5.out.setCell (p := ⟨g0, k, none⟩) HG0.out _⟩
        case measure => have hh := HLT2.out; simp [intOf]; omega
      · obtain rfl : k = n := by omega
        clear HAT HBIT HSET HST HIT HZ HI0 HF HWO HCL
        have HO := hide ho
        have HH := hide hbel
        go_wp2
        go_ret2
        exact ⟨_, q, rfl, HO.out.weaken HX.out.now.2.size, Below.step HX.out.now.2 HH.out⟩
end Go.Proofs.Ytehcmhblppjalaa
