import Derived.Test.YtehcmhblppjalaaSyK
namespace Go.Proofs.Ytehcmhblppjalaa
open Go.RowKit Go.WideShapes Go.ChangeShapes

/-! jumps (program) -/
set_option maxRecDepth 100000 in
set_option maxHeartbeats 4000000 in
theorem jumped_sy (top : Nat) (A1 A2 : Option Addr) (m c1 c2 s : Nat) (T B : List Int) (w : World) (hm : T.length = m) (hs1 : Sl w A1 (iv T)) (hs2 : Sl w A2 (iv B)) (hr : RgOk top T B) (hs : s ≤ 1000) :
    Calls Try.prog 12 #[.agg (rgA ((top : Int) + 1) A1 A2 m (top + 1) c1 c2), .int .i64 (s : Int)] w fun e w' => ∃ A1' A2' c1' c2', e = .returned (.tuple #[.agg (rgA ((top : Int) + 1) A1' A2' m (top + 1) c1' c2'), .int .i64 0]) ∧
      w'.ownsRow w.heap.size 3 1 (.slice A1' m c1') m (iv T) ∧ w'.ownsRow w.heap.size 3 1 (.slice A2' (top + 1) c2') (top + 1) (iv (stL (itW (tpW T m) top (wdB B (top + 1)) s) (top + 1))) ∧ Below w.heap.size w w' := by
  have HC := hide (fun W h1 h2 => checkReg_sy top A1 A2 m c1 c2 T B W hm h1 h2 hr)
  have HWO := hide (fun W h1 h2 => wireOf_sy top A1 A2 m c1 c2 T B W hm h1 h2 hr)
  have hx := wdB_lt hr (top + 1)
  have htp := tpW_lt hr m (by omega)
  have hodd := tpW_odd hr.zero m (by have := hr.nonempty; omega)
  have htop := hr.hi
  have hm0 := hr.nonempty
  have hmf := hr.few
  rw [hm] at hm0 hmf
  have HS1 := hide (stay_sl hs1)
  have HS2 := hide (stay_sl hs2)
  obtain ⟨x, hX⟩ : ∃ x, wdB B (top + 1) = x := ⟨_, rfl⟩
  obtain ⟨tp, hTP⟩ : ∃ x, tpW T m = x := ⟨_, rfl⟩
  rw [hX] at hx
  rw [hTP] at htp hodd
  rw [hX, hTP] at HWO
  rw [hX, hTP]
  have hp10 : 2 ^ (top + 1) ≤ 1024 := Nat.pow_le_pow_right (by decide) (show top + 1 ≤ 10 by omega)
  have HPE := hide (fun W => period_sy x tp top W hx htp hodd htop)
  have HLT := hide (fun n => itW_lt (tp := tp) hx n)
  have HST := hide (fun g n W (h : Blk W g 55 (wrA (itW tp top x n) tp top)) => step_sy g (itW tp top x n) tp top W (itW_lt hx n) htp htop h)
  have HIT := hide (show ∀ n, stepW tp top (itW tp top x n) = itW tp top x (n + 1) from fun _ => rfl)
  have HBH := hide (fun y (hy : y < 65536) W h1 => behind_sy ((top : Int) + 1) A1 A2 m (top + 1) c1 c2 T y tp top W hm h1 rfl hm0 hmf hy htop)
  have HU := hide (fun e W => unless_any true e W)
  have HW1 := hide (fun W => within_sy (s : Int) 0 1000000000 W)
  rw [show withinB (s : Int) 0 1000000000 = true by rw [withinB_iff]; omega] at HW1
  obtain ⟨y, hy⟩ : ∃ y, itW tp top x s = y := ⟨_, rfl⟩
  have HY := hide hy
  rw [hy]
  clear hy
  unfold rgA
  unfold rgA at HC HWO HBH
  clear hs1 hs2 hr hm hX hTP
  have HX := hide (show Stay ((w.alloc (.cells #[.int .i64 ((top : Int) + 1), .slice A1 m c1, .slice A2 (top + 1) c2] 24)).alloc (.cells #[.int .i64 0, .slice none 0 0, .slice none 0 0] 24)) (fun W => (Blk W w.heap.size 24 #[.int .i64 ((top : Int) + 1), .slice A1 m c1, .slice A2 (top + 1) c2] ∧ Blk W (w.heap.size + 1) 24 #[.int .i64 0, .slice none 0 0, .slice none 0 0]) ∧ Below w.heap.size w W) from
    ((((stay_new w 24 #[.int .i64 ((top : Int) + 1), .slice A1 m c1, .slice A2 (top + 1) c2]).alloc _).and (stay_blk (Blk.newN (w.alloc (.cells #[.int .i64 ((top : Int) + 1), .slice A1 m c1, .slice A2 (top + 1) c2] 24)) 24 #[.int .i64 0, .slice none 0 0, .slice none 0 0] (g := w.heap.size + 1) (by simp)))).and (stay_below (show Below w.heap.size w ((w.alloc (.cells #[.int .i64 ((top : Int) + 1), .slice A1 m c1, .slice A2 (top + 1) c2] 24)).alloc (.cells #[.int .i64 0, .slice none 0 0, .slice none 0 0] 24)) from by go_grown))))
  have hxz : (#[.int .i64 ((top : Int) + 1), .slice A1 m c1, .slice A2 (top + 1) c2] : Array Value).size = 3 := rfl
  go_enter Try.func12, Try.ntmps12
  go_wp2_with (first
    | (refine wpList_load_row rfl 24 (.tmp 2) rfl w.heap.size rfl 24 #[.int .i64 ((top : Int) + 1), .slice A1 m c1, .slice A2 (top + 1) c2] (0, 0) _ HX.out.now.1.1 Try.underlying24 rfl (by kernel_rfl) ?_)
    | (go_at_call 19; go_must (refine (HC.out _ (HS1.out _ HX.out.now.2) (HS2.out _ HX.out.now.2)).mono ?_; rintro e w1 ⟨rfl, hb⟩; replace HX := hide (HX.out.step hb); clear hb; simp only []))
    | (go_at_call 25; go_must (refine (HW1.out _).mono ?_; rintro e w5 ⟨rfl, rfl⟩; simp only []))
    | (go_at_call 24; go_must (refine (HU.out _ _).mono ?_; rintro e w5 ⟨rfl, rfl⟩; simp only [unlessE, if_true]))
    | (go_at_call 18; go_must (replace HX := hide (HX.out.alloc (.cells #[.int .i64 0, .int .i64 0] 28)); refine (first2z _ _ rfl).mono ?_; rintro e w5 ⟨rfl, rfl⟩; simp only []))
    | (go_at_call 22; go_must (refine (HWO.out _ (HS1.out _ HX.out.now.2) (HS2.out _ HX.out.now.2)).mono ?_; rintro e w2 ⟨rfl, hb⟩; replace HX := hide (HX.out.step hb); clear hb; have HGW := hide (show w.heap.size + 1 < w2.heap.size from HX.out.now.1.2.lt); have HN := hide (stay_new w2 55 (wrA x tp top)); replace HX := hide (HX.out.alloc (.cells (wrA x tp top) 55)); have k0 := HN.out.now.cell 0; have k1 := HN.out.now.cell 1; have k2 := HN.out.now.cell 2; simp only []))
    | (go_at_call 27; go_must (refine (HPE.out _).mono ?_; rintro e w3 ⟨n, rfl, hn1, hn2, hper, hb⟩; replace HX := hide (HX.out.step hb); replace HN := hide (HN.out.step hb); have HPER := hide hper; have q1 : (s : Int).tmod (n : Int) = ((s % n : Nat) : Int) := (by rw [Int.tmod_eq_emod_of_nonneg (by omega)]; rfl); have q2 : ¬ n = 0 := (by omega); have q3 : ¬ (n : Int) = 0 := (by omega); have hgs : w2.heap.size < w3.heap.size := (by have := HN.out.now.lt; exact this); clear hb hper k0 k1 k2; simp only [])))
  obtain ⟨g, hg⟩ : ∃ g, w2.heap.size = g := ⟨_, rfl⟩
  rw [hg] at HN HGW hgs ⊢
  clear hg
  obtain ⟨r, hr⟩ : ∃ r, s % n = r := ⟨_, rfl⟩
  have HMOD := hide (show itW tp top x r = y from by rw [← hr, itW_mod HPER.out s]; exact HY.out)
  have HR := hide hr
  have hr9 : r < 1025 := by rw [← hr]; have := Nat.mod_lt s (show 0 < n by omega); omega
  have e1 : ((s % n : Nat) : Int) = (s : Int) % (n : Int) := rfl
  have e2 : (s : Int) % (n : Int) = (r : Int) := by rw [← e1, hr]
  rw [e2]
  clear hr e1
  go_loopw [25] (fun i wr => ∃ k : Nat, k ≤ r ∧ i = .int .i64 k ∧ Blk wr g 55 (wrA (itW tp top x k) tp top) ∧ (Blk wr w.heap.size 24 #[.int .i64 ((top : Int) + 1), .slice A1 m c1, .slice A2 (top + 1) c2] ∧ Blk wr (w.heap.size + 1) 24 #[.int .i64 0, .slice none 0 0, .slice none 0 0]) ∧ Below w.heap.size w wr) (fun i _ => r - (intOf i).toNat)
  case atStart => exact ⟨0, Nat.zero_le _, rfl, HN.out.now, HX.out.now.1, HX.out.now.2⟩
  case round =>
    clear HX HN
    obtain ⟨k, hk, rfl, hN, ⟨hX, hZ⟩, hbel⟩ := hrel
    have HN := hide hN
    have HXX := hide hX
    have HZZ := hide hZ
    have HBE := hide hbel
    clear hN hX hZ hbel
    by_cases hlt : k < r
    · have HSN := hide (fun W (h : Blk W g 55 (wrA (itW tp top x k) tp top)) => by have := HST.out g k W h; rw [HIT.out] at this; exact this)
      have g1 : (k : Int) < (r : Int) := by omega
      have HLT2 := hide hlt
      obtain ⟨z, hz⟩ : ∃ y, itW tp top x k = y := ⟨_, rfl⟩
      rw [hz] at HSN HN
      clear hz HST HIT HLT HC HWO HPE HBH HMOD
      go_wp2_with (go_at_call 23; go_must (refine (HSN.out _ HN.out).mono ?_; rintro e v2 ⟨rfl, hn, hgr⟩; have HN2 := hide hn; have HX2 := hide (HXX.out.grown hgr (fun e => by have hh := HGW.out; injection e with e; omega)); have HZ2 := hide (HZZ.out.grown hgr (fun e => by have hh := HGW.out; injection e with e; omega)); have HB2 := hide (HBE.out.grown hgr HBE.out.size (fun k hk => by injection hk with hk; rw [← hk]; have := HGW.out; omega)); clear hn hgr; simp only []))
      go_roundw
      case rel => exact ⟨k + 1, HLT2.out, by go_num, HN2.out, ⟨HX2.out, HZ2.out⟩, HB2.out⟩
      case measure => have hh := HLT2.out; simp [intOf]; omega
    · obtain rfl : k = r := by omega
      have hly := HLT.out k
      rw [HMOD.out] at HN hly
      have k0 := HN.out.cell 0
      have k1 := HN.out.cell 1
      have k2 := HN.out.cell 2
      have HBY := hide (HBH.out y (by omega))
      clear HST HIT HLT HC HWO HPE HBH HMOD HY
      go_wp2_with (first
        | (refine wpList_load_row rfl 24 (.tmp 2) rfl w.heap.size rfl 24 #[.int .i64 ((top : Int) + 1), .slice A1 m c1, .slice A2 (top + 1) c2] (0, 0) _ HXX.out Try.underlying24 rfl (by kernel_rfl) ?_)
        | (go_at_call 28; go_must (refine (HBY.out _ (HS1.out _ HBE.out)).mono ?_; rintro e w4 ⟨A1', A2', c1', c2', rfl, ho1, ho2, hb⟩; have HO1 := hide (ho1.weaken (show w.heap.size + 2 ≤ _ by have := HGW.out; have := HN.out.lt; omega)); have HO2 := hide (ho2.weaken (show w.heap.size + 2 ≤ _ by have := HGW.out; have := HN.out.lt; omega)); have HZ2 := hide (HZZ.out.below hb HZZ.out.lt); replace HBE := hide (Below.step HBE.out hb); clear hb ho1 ho2; simp only []))
        | (refine wpList_store_row rfl 24 (.tmp 4) (.tmp 31) rfl (w.heap.size + 1) #[.int .i64 ((top : Int) + 1), .slice A1' m c1', .slice A2' (top + 1) c2'] rfl rfl 24 #[.int .i64 0, .slice none 0 0, .slice none 0 0] HZ2.out (by kernel_rfl) rfl (by simp [Value.oneCell']) ?_))
      exact bodyPost_ret (results_row_tmp rfl _ _ (w.heap.size + 1) 24 #[.int .i64 ((top : Int) + 1), .slice A1' m c1', .slice A2' (top + 1) c2'] _ (.int .i64 0) rfl rfl (HZ2.out.row _) Try.underlying24 rfl (by kernel_rfl)) rfl ⟨A1', A2', c1', c2', rfl, (own_rowFar HO1.out (by omega) _).weaken (by omega), (own_rowFar HO2.out (by omega) _).weaken (by omega), Below.row HBE.out (by omega) _⟩
end Go.Proofs.Ytehcmhblppjalaa
