import Derived.Test.YtehcmhblppjalaaSyJ
namespace Go.Proofs.Ytehcmhblppjalaa
open Go.RowKit Go.WideShapes Go.ChangeShapes

/-! the period of a register; jumps (program) -/
set_option maxRecDepth 100000 in
set_option maxHeartbeats 4000000 in
theorem period_sy (x tp top : Nat) (w : World) (hx : x < 2 ^ (top + 1)) (htp : tp < 1024) (hodd : tp % 2 = 1) (htop : top < 10) :
    Calls Try.prog 27 #[.agg (wrA x tp top)] w fun e w' => ∃ n : Nat, e = .returned (.int .i64 (n : Int)) ∧ 1 ≤ n ∧ n ≤ 1024 ∧ itW tp top x n = x ∧ Below w.heap.size w w' := by
  obtain ⟨p, hp1, hp2, hp⟩ := orbit hodd htop hx
  have HP := hide hp
  have HLT := hide (fun n => itW_lt (tp := tp) hx n)
  have HST := hide (fun g n W (h : Blk W g 55 (wrA (itW tp top x n) tp top)) => step_sy g (itW tp top x n) tp top W (itW_lt hx n) htp htop h)
  have HIT := hide (show ∀ n, stepW tp top (itW tp top x n) = itW tp top x (n + 1) from fun _ => rfl)
  have HI0 := hide (show itW tp top x 0 = x from rfl)
  have hx16 : x < 65536 := by have : 2 ^ (top + 1) ≤ 1024 := Nat.pow_le_pow_right (by decide) (show top + 1 ≤ 10 by omega); omega
  have HB0 := hide (Blk.new w 55 (wrA x tp top))
  clear hp hx
  go_enter Try.func27, Try.ntmps27
  go_wp2
  obtain ⟨v, hv⟩ : ∃ W, w.alloc (.cells (wrA x tp top) 55) = W := ⟨_, rfl⟩
  have HVB := hide (show Below w.heap.size w v from hv ▸ (Below.refl _ _).alloc (Nat.le_refl _) _)
  have HVZ := hide (show v.heap.size = w.heap.size + 1 from by rw [← hv]; simp)
  rw [hv] at HB0
  rw [show w.alloc (.cells #[.int .u16 (x : Int), .int .u16 (tp : Int), .int .i64 (top : Int)] 55) = v from hv]
  clear hv
  have HH := hide (show Blk v.drew w.heap.size 55 (wrA x tp top) from HB0.out)
  refine wp_region_held_drew (S := fun w' => Blk w' w.heap.size 55 (wrA x tp top)) (by kernel_rfl) HH.out (fun hHeld => ?_)
  refine take_at (i := 0) 5 (v := .agg #[.int .u16 (x : Int), .int .u16 (tp : Int), .int .i64 (top : Int)]) rfl rfl (by kernel_rfl) (by kernel_rfl) (by kernel_rfl) (fun _ _ _ h => h) (Or.inl ⟨by rfl, by intro w1 hSw; have q0 := hSw.cell 0; have q1 := hSw.cell 1; have q2 := hSw.cell 2; go_simp⟩) (by assumption) ?_
  try simp only [Act.put, List.setIfInBounds_toArray, List.set_cons_zero, List.set_cons_succ]
  obtain ⟨v0, hv0⟩ : ∃ W, v.drew = W := ⟨_, rfl⟩
  have HV0 := hide (show Below w.heap.size w v0 ∧ v0.heap.size = w.heap.size + 1 from hv0 ▸ ⟨below_drewN HVB.out 1, HVZ.out⟩)
  rw [hv0] at HH hHeld ⊢
  clear hv0
  refine wpAnyH_ready (rs := [1]) (by kernel_rfl) (by simp) ?_
  refine AllReadyH.cons rfl (fun K hK => ?_) AllReadyH.nil
  go_simp
  have HA := hide (HH.out.alloc (.cells (wrA 0 0 0) 55))
  refine hK.out _ _ HA.out (fun hHeld => ?_)
  clear hK K
  try simp only [Act.put, List.setIfInBounds_toArray, List.set_cons_zero, List.set_cons_succ]
  refine take_at (i := 2) 3 (v := .int .i64 1) rfl rfl (by kernel_rfl) (by kernel_rfl) (by kernel_rfl) (fun _ _ _ h => h) (Or.inl ⟨by rfl, by intro w hSw; go_simp⟩) (by assumption) ?_
  try simp only [Act.put, List.setIfInBounds_toArray, List.set_cons_zero, List.set_cons_succ]
  refine wpAnyH_ready (rs := [3]) (by kernel_rfl) (by simp) ?_
  refine AllReadyH.cons rfl (fun K hK => ?_) AllReadyH.nil
  refine step_store_rowF rfl 55 (.tmp 4) (.tmp 5) rfl v0.heap.size #[.int .u16 (x : Int), .int .u16 (tp : Int), .int .i64 (top : Int)] rfl rfl 55 (wrA 0 0 0) (Blk.new v0 _ _) (by kernel_rfl) rfl (by simp [Value.oneCell']) ?_
  have HN := hide ((Blk.new v0 55 (wrA 0 0 0)).row (wrA x tp top))
  have HO := hide (HA.out.rowFar (k := v0.heap.size) (by rw [HV0.out.2]; omega) (wrA x tp top))
  have HBV := hide (show Below w.heap.size w ((v0.alloc (.cells (wrA 0 0 0) 55)).setRow v0.heap.size (wrA x tp top)) from Below.row (HV0.out.1.alloc HV0.out.1.size _) HV0.out.1.size _)
  have HGB : Hid (w.heap.size ≤ v0.heap.size ∧ w.heap.size ≠ v0.heap.size) := hide (by rw [HV0.out.2]; omega)
  refine hK.out _ _ HO.out (fun hHeld => ?_)
  clear hK K
  try simp only [Act.put, List.setIfInBounds_toArray]
  refine wpAnyH_done (by kernel_rfl) ?_ _
  obtain ⟨v1, hv1⟩ : ∃ W, (v0.alloc (.cells (wrA 0 0 0) 55)).setRow v0.heap.size (wrA x tp top) = W := ⟨_, rfl⟩
  rw [hv1] at HN HO HBV
  rw [show (v0.alloc (.cells #[.int .u16 0, .int .u16 0, .int .i64 0] 55)).setRow v0.heap.size #[.int .u16 (x : Int), .int .u16 (tp : Int), .int .i64 (top : Int)] = v1 from hv1]
  clear hv1
  obtain ⟨g, hg⟩ : ∃ g, v0.heap.size = g := ⟨_, rfl⟩
  rw [hg] at HN HGB ⊢
  clear hg
  have HS0 := hide (fun W (h : Blk W g 55 (wrA x tp top)) => by have := HST.out g 0 W (by rw [HI0.out]; exact h); rw [HIT.out, HI0.out] at this; exact this)
  go_wp2_with (go_at_call 23; go_must (refine (HS0.out _ HN.out).mono ?_; rintro e v2 ⟨rfl, hn, hgr⟩; have HN2 := hide hn; have HO2 := hide (HO.out.grown hgr (fun e => HGB.out.2 (by injection e))); have HBV2 := hide (HBV.out.grown hgr HBV.out.size (fun k hk => by injection hk with hk; rw [← hk]; exact HGB.out.1)); clear hn hgr; simp only []))
  clear HN HO HBV HS0
  go_loopw [3] (fun i wr => ∃ n : Nat, 1 ≤ n ∧ n ≤ p ∧ i = .int .i64 n ∧ Blk wr g 55 (wrA (itW tp top x n) tp top) ∧ Blk wr w.heap.size 55 (wrA x tp top) ∧ Below w.heap.size w wr) (fun i _ => p - (intOf i).toNat)
  case atStart => exact ⟨1, Nat.le_refl _, hp1, rfl, HN2.out, HO2.out, HBV2.out⟩
  case round =>
    clear HN2 HO2 HBV2
    obtain ⟨n, hn1, hn2, rfl, hN, hO, hbel⟩ := hrel
    have HN := hide hN
    have HO := hide hO
    have HBV := hide hbel
    have c0 := hN.cell 0
    have c1 := hN.cell 1
    have c2 := hN.cell 2
    have d0 := hO.cell 0
    clear hN hO hbel
    have HSN := hide (fun W (h : Blk W g 55 (wrA (itW tp top x n) tp top)) => by have := HST.out g n W h; rw [HIT.out] at this; exact this)
    by_cases hz : itW tp top x n = x
    · have HZ := hide hz
      have q : ((itW tp top x n : Int) != (x : Int)) = false := by rw [hz]; simp
      rw [hz] at c0
      clear hz HSN HST HIT HI0
      go_wp2
      go_ret
      exact ⟨n, rfl, hn1, by omega, HZ.out, HBV.out⟩
    · have hnp : n ≠ p := fun e => hz (by rw [e]; exact HP.out)
      have q : ((itW tp top x n : Int) != (x : Int)) = true := by rw [bne_iff_ne]; omega
      have hlt := HLT.out n
      have hp10 : 2 ^ (top + 1) ≤ 1024 := Nat.pow_le_pow_right (by decide) (show top + 1 ≤ 10 by omega)
      obtain ⟨y, hy⟩ : ∃ y, itW tp top x n = y := ⟨_, rfl⟩
      rw [hy] at c0 q HSN HN
      clear hz hy HST HIT HI0 HLT
      go_wp2_with (go_at_call 23; go_must (refine (HSN.out _ HN.out).mono ?_; rintro e v2 ⟨rfl, hn, hgr⟩; have HN2 := hide hn; have HO2 := hide (HO.out.grown hgr (fun e => HGB.out.2 (by injection e))); have HBV2 := hide (HBV.out.grown hgr HBV.out.size (fun k hk => by injection hk with hk; rw [← hk]; exact HGB.out.1)); clear hn hgr; simp only []))
      go_roundw
      case rel => exact ⟨n + 1, by omega, by omega, by go_num, HN2.out, HO2.out, HBV2.out⟩
      case measure => simp [intOf]; omega
end Go.Proofs.Ytehcmhblppjalaa
