import Derived.Test.YtehcmhblppjalaaSyW
import Derived.Test.YtehcmhblppjalaaSyD
import Derived.Test.YtehcmhblppjalaaWvZ
namespace Go.Proofs.Ytehcmhblppjalaa
open Go.RowKit Go.WideShapes Go.ChangeShapes

/-! a step of a register (program) -/
theorem u16_wrap (a : Nat) (h : a < 65536) : IntKind.u16.wrap (a : Int) = (a : Int) := by
  simp [IntKind.wrap, IntKind.bits, IntKind.signed]; omega
theorem and_u16 {a b : Nat} (ha : a < 65536) (hb : b < 65536) : bits .and .u16 (a : Int) (b : Int) = ((a &&& b : Nat) : Int) := by
  show IntKind.u16.wrap (((BitVec.ofInt 16 (a : Int)) &&& (BitVec.ofInt 16 (b : Int))).toNat : Int) = _
  rw [BitVec.ofInt_natCast, BitVec.ofInt_natCast, BitVec.toNat_and, BitVec.toNat_ofNat, BitVec.toNat_ofNat, Nat.mod_eq_of_lt ha, Nat.mod_eq_of_lt hb, u16_wrap _ (Nat.lt_of_le_of_lt Nat.and_le_left ha)]
theorem or_u16 {a b : Nat} (ha : a < 65536) (hb : b < 65536) : bits .or .u16 (a : Int) (b : Int) = ((a ||| b : Nat) : Int) := by
  show IntKind.u16.wrap (((BitVec.ofInt 16 (a : Int)) ||| (BitVec.ofInt 16 (b : Int))).toNat : Int) = _
  rw [BitVec.ofInt_natCast, BitVec.ofInt_natCast, BitVec.toNat_or, BitVec.toNat_ofNat, BitVec.toNat_ofNat, Nat.mod_eq_of_lt ha, Nat.mod_eq_of_lt hb, u16_wrap _ (Nat.or_lt_two_pow (n := 16) ha hb)]
theorem xor_u16 {a b : Nat} (ha : a < 65536) (hb : b < 65536) : bits .xor .u16 (a : Int) (b : Int) = ((a ^^^ b : Nat) : Int) := by
  show IntKind.u16.wrap (((BitVec.ofInt 16 (a : Int)) ^^^ (BitVec.ofInt 16 (b : Int))).toNat : Int) = _
  rw [BitVec.ofInt_natCast, BitVec.ofInt_natCast, BitVec.toNat_xor, BitVec.toNat_ofNat, BitVec.toNat_ofNat, Nat.mod_eq_of_lt ha, Nat.mod_eq_of_lt hb, u16_wrap _ (Nat.xor_lt_two_pow (n := 16) ha hb)]
abbrev wrA (x tp top : Nat) : Array Value := #[.int .u16 (x : Int), .int .u16 (tp : Int), .int .i64 (top : Int)]
set_option maxRecDepth 100000 in
set_option maxHeartbeats 4000000 in
theorem step_sy (g x tp top : Nat) (w : World) (hx : x < 2 ^ (top + 1)) (htp : tp < 1024) (htop : top < 10) (hg : Blk w g 55 (wrA x tp top)) :
    Calls Try.prog 23 #[.pointer (some ⟨g, 0, none⟩)] w fun e w' => e = .returned (.int .i64 ((x % 2 : Nat) : Int)) ∧ Blk w' g 55 (wrA (stepW tp top x) tp top) ∧ w.grownBy w' (some g) := by
  have hp : 2 ^ (top + 1) ≤ 1024 := Nat.pow_le_pow_right (by decide) (show top + 1 ≤ 10 by omega)
  have hp2 : 2 ^ top ≤ 512 := Nat.pow_le_pow_right (by decide) (show top ≤ 9 by omega)
  have c0 := hg.cell 0
  have c1 := hg.cell 1
  have c2 := hg.cell 2
  have HST := hide (stepW_or (tp := tp) hx)
  obtain ⟨o, ho⟩ : ∃ o, x % 2 = o := ⟨_, rfl⟩
  have b1 : bits .and .u16 (x : Int) 1 = (o : Int) := by have := and_u16 (a := x) (b := 1) (by omega) (by omega); rw [Nat.and_one_is_mod, ho] at this; exact this
  have o2 : o < 2 := by omega
  have b1' : wrap64 (o : Int) = (o : Int) := by unfold wrap64; omega
  obtain ⟨r0, hr0⟩ : ∃ r, x &&& tp = r := ⟨_, rfl⟩
  have b2 : bits .and .u16 (x : Int) (tp : Int) = (r0 : Int) := by have := and_u16 (a := x) (b := tp) (by omega) (by omega); rw [hr0] at this; exact this
  have r1 : r0 < 1024 := by rw [← hr0]; exact Nat.lt_of_le_of_lt Nat.and_le_left (by omega)
  rw [hr0] at HST
  rw [ho]
  obtain ⟨N, hN⟩ : ∃ N, stepW tp top x = N := ⟨_, rfl⟩
  rw [hN] at HST
  rw [hN]
  have HG := hide hg
  have hx16 : x < 65536 := by omega
  have HX2 := hide hx
  clear ho hr0 hx hg hN
  go_enter Try.func23, Try.ntmps23
  go_wp2
  have HH0 := hide (show Blk w.drew g 55 (wrA x tp top) from HG.out)
  clear c0 c1 c2
  refine wp_region_held_drew (S := fun w' => Blk w' g 55 (wrA x tp top)) (by kernel_rfl) HH0.out (fun hHeld => ?_)
  refine take_at (i := 0) 12 (v := .pointer (some ⟨g, 0, none⟩)) rfl rfl (by kernel_rfl) (by kernel_rfl) (by kernel_rfl) (fun _ _ _ h => h) (Or.inl ⟨by rfl, by intro w hSw; go_simp⟩) (by assumption) ?_
  try simp only [Act.put, List.setIfInBounds_toArray, List.set_cons_zero, List.set_cons_succ]
  refine take_at (i := 1) 13 (v := .pointer (some ⟨g, 0, none⟩)) rfl rfl (by kernel_rfl) (by kernel_rfl) (by kernel_rfl) (fun _ _ _ h => h) (Or.inl ⟨by rfl, by intro w hSw; go_simp⟩) (by assumption) ?_
  try simp only [Act.put, List.setIfInBounds_toArray, List.set_cons_zero, List.set_cons_succ]
  refine take_at (i := 2) 14 (v := .pointer (some ⟨g, 0, none⟩)) rfl rfl (by kernel_rfl) (by kernel_rfl) (by kernel_rfl) (fun _ _ _ h => h) (Or.inl ⟨by rfl, by intro w hSw; go_simp⟩) (by assumption) ?_
  try simp only [Act.put, List.setIfInBounds_toArray, List.set_cons_zero, List.set_cons_succ]
  refine take_at (i := 3) 15 (v := .int .u16 (x : Int)) rfl rfl (by kernel_rfl) (by kernel_rfl) (by kernel_rfl) (fun _ _ _ h => h) (Or.inl ⟨by rfl, by intro w1 hSw; have q := hSw.cell 0; go_simp⟩) (by assumption) ?_
  try simp only [Act.put, List.setIfInBounds_toArray, List.set_cons_zero, List.set_cons_succ]
  refine take_at (i := 4) 16 (v := .pointer (some ⟨g, 0, none⟩)) rfl rfl (by kernel_rfl) (by kernel_rfl) (by kernel_rfl) (fun _ _ _ h => h) (Or.inl ⟨by rfl, by intro w hSw; go_simp⟩) (by assumption) ?_
  try simp only [Act.put, List.setIfInBounds_toArray, List.set_cons_zero, List.set_cons_succ]
  refine take_at (i := 5) 17 (v := .pointer (some ⟨g, 0, none⟩)) rfl rfl (by kernel_rfl) (by kernel_rfl) (by kernel_rfl) (fun _ _ _ h => h) (Or.inl ⟨by rfl, by intro w hSw; go_simp⟩) (by assumption) ?_
  try simp only [Act.put, List.setIfInBounds_toArray, List.set_cons_zero, List.set_cons_succ]
  refine take_at (i := 6) 18 (v := .pointer (some ⟨g, 1, none⟩)) rfl rfl (by kernel_rfl) (by kernel_rfl) (by kernel_rfl) (fun _ _ _ h => h) (Or.inl ⟨by rfl, by intro w hSw; go_simp⟩) (by assumption) ?_
  try simp only [Act.put, List.setIfInBounds_toArray, List.set_cons_zero, List.set_cons_succ]
  refine take_at (i := 7) 19 (v := .int .u16 (tp : Int)) rfl rfl (by kernel_rfl) (by kernel_rfl) (by kernel_rfl) (fun _ _ _ h => h) (Or.inl ⟨by rfl, by intro w1 hSw; have q := hSw.cell 1; go_simp⟩) (by assumption) ?_
  try simp only [Act.put, List.setIfInBounds_toArray, List.set_cons_zero, List.set_cons_succ]
  refine take_at (i := 8) 20 (v := .int .u16 (r0 : Int)) rfl rfl (by kernel_rfl) (by kernel_rfl) (by kernel_rfl) (fun _ _ _ h => h) (Or.inl ⟨by rfl, by intro w hSw; go_simp⟩) (by assumption) ?_
  try simp only [Act.put, List.setIfInBounds_toArray, List.set_cons_zero, List.set_cons_succ]
  refine take_at (i := 9) 5 (v := .int .u16 (r0 : Int)) rfl rfl (by kernel_rfl) (by kernel_rfl) (by kernel_rfl) (fun _ _ _ h => h) (Or.inl ⟨by rfl, by intro w hSw; go_simp⟩) (by assumption) ?_
  try simp only [Act.put, List.setIfInBounds_toArray, List.set_cons_zero, List.set_cons_succ]
  refine wpAnyH_done (by kernel_rfl) ?_ _
  obtain ⟨v0, hv0⟩ : ∃ W, w.drew = W := ⟨_, rfl⟩
  have HGR := hide (show w.grownBy v0 (some g) from hv0 ▸ ⟨rfl, rfl, rfl, Nat.le_refl _, fun _ _ _ => rfl⟩)
  rw [hv0] at HH0 ⊢
  clear hv0 b2
  go_wp2
  go_loop [4, 5] (fun f r => ∃ a b : Nat, f = .int .u16 (a : Int) ∧ r = .int .u16 (b : Int) ∧ a < 2 ∧ b < 1024 ∧ (a + par b) % 2 = par r0) (fun _ r => (intOf r).toNat)
  case atStart => exact ⟨0, r0, rfl, rfl, by decide, r1, by have := par_le r0; omega⟩
  case round =>
    obtain ⟨a, b, rfl, rfl, ha, hb, he⟩ := hrel
    have c0 := HH0.out.cell 0
    have c1 := HH0.out.cell 1
    have c2 := HH0.out.cell 2
    by_cases hz : b = 0
    · have hpa : par r0 = a := by rw [hz, show par 0 = 0 from rfl] at he; omega
      rw [hpa] at HST
      subst hz
      have s1 : a * 2 ^ top < 65536 := by have : a * 2 ^ top ≤ 1 * 2 ^ top := Nat.mul_le_mul_right _ (by omega); omega
      obtain ⟨P, hP⟩ : ∃ P, a * 2 ^ top = P := ⟨_, rfl⟩
      rw [Nat.mul_comm, hP] at HST
      rw [hP] at s1
      have m1 : min top 16 = top := by omega
      have s2 : IntKind.u16.wrap ((a : Int) * 2 ^ top) = (P : Int) := by rw [← u16_wrap P s1, ← hP]; push_cast; rfl
      have b3 : bits .or .u16 ((x : Int) / 2) (P : Int) = (N : Int) := by have := or_u16 (a := x / 2) (b := P) (by omega) s1; rw [Nat.or_comm, ← HST.out] at this; exact this
      clear he hb hP hpa
      go_wp2
      clear c0 c1 c2
      have HH1 := hide (show Blk v0.drew g 55 (wrA x tp top) from HH0.out)
      have hHeld := HH1.out
      refine UpTo.start (z := 15) (S := fun w' => Blk w' g 55 (wrA x tp top)) (by kernel_rfl) ?_
      refine UpTo.take (i := 0) 29 (v := .pointer (some ⟨g, 0, none⟩)) rfl rfl (by kernel_rfl) (by kernel_rfl) (by kernel_rfl) (by kernel_rfl) (fun _ _ _ h => h) hHeld (Or.inl ⟨by rfl, by intro w hSw; go_simp⟩) ?_
      try simp only [Act.put, List.setIfInBounds_toArray, List.set_cons_zero, List.set_cons_succ]
      refine UpTo.take (i := 1) 30 (v := .pointer (some ⟨g, 0, none⟩)) rfl rfl (by kernel_rfl) (by kernel_rfl) (by kernel_rfl) (by kernel_rfl) (fun _ _ _ h => h) hHeld (Or.inl ⟨by rfl, by intro w hSw; go_simp⟩) ?_
      try simp only [Act.put, List.setIfInBounds_toArray, List.set_cons_zero, List.set_cons_succ]
      refine UpTo.take (i := 2) 31 (v := .pointer (some ⟨g, 0, none⟩)) rfl rfl (by kernel_rfl) (by kernel_rfl) (by kernel_rfl) (by kernel_rfl) (fun _ _ _ h => h) hHeld (Or.inl ⟨by rfl, by intro w hSw; go_simp⟩) ?_
      try simp only [Act.put, List.setIfInBounds_toArray, List.set_cons_zero, List.set_cons_succ]
      refine UpTo.take (i := 3) 32 (v := .pointer (some ⟨g, 0, none⟩)) rfl rfl (by kernel_rfl) (by kernel_rfl) (by kernel_rfl) (by kernel_rfl) (fun _ _ _ h => h) hHeld (Or.inl ⟨by rfl, by intro w hSw; go_simp⟩) ?_
      try simp only [Act.put, List.setIfInBounds_toArray, List.set_cons_zero, List.set_cons_succ]
      refine UpTo.take (i := 4) 33 (v := .int .u16 (x : Int)) rfl rfl (by kernel_rfl) (by kernel_rfl) (by kernel_rfl) (by kernel_rfl) (fun _ _ _ h => h) hHeld (Or.inl ⟨by rfl, by intro w1 hSw; have q := hSw.cell 0; go_simp⟩) ?_
      try simp only [Act.put, List.setIfInBounds_toArray, List.set_cons_zero, List.set_cons_succ]
      refine UpTo.take (i := 5) 34 (v := .int .u16 ((x : Int) / 2)) rfl rfl (by kernel_rfl) (by kernel_rfl) (by kernel_rfl) (by kernel_rfl) (fun _ _ _ h => h) hHeld (Or.inl ⟨by rfl, by intro w hSw; go_simp⟩) ?_
      try simp only [Act.put, List.setIfInBounds_toArray, List.set_cons_zero, List.set_cons_succ]
      refine UpTo.take (i := 6) 35 (v := .int .u16 (a : Int)) rfl rfl (by kernel_rfl) (by kernel_rfl) (by kernel_rfl) (by kernel_rfl) (fun _ _ _ h => h) hHeld (Or.inl ⟨by rfl, by intro w hSw; go_simp⟩) ?_
      try simp only [Act.put, List.setIfInBounds_toArray, List.set_cons_zero, List.set_cons_succ]
      refine UpTo.take (i := 7) 36 (v := .pointer (some ⟨g, 0, none⟩)) rfl rfl (by kernel_rfl) (by kernel_rfl) (by kernel_rfl) (by kernel_rfl) (fun _ _ _ h => h) hHeld (Or.inl ⟨by rfl, by intro w hSw; go_simp⟩) ?_
      try simp only [Act.put, List.setIfInBounds_toArray, List.set_cons_zero, List.set_cons_succ]
      refine UpTo.take (i := 8) 37 (v := .pointer (some ⟨g, 0, none⟩)) rfl rfl (by kernel_rfl) (by kernel_rfl) (by kernel_rfl) (by kernel_rfl) (fun _ _ _ h => h) hHeld (Or.inl ⟨by rfl, by intro w hSw; go_simp⟩) ?_
      try simp only [Act.put, List.setIfInBounds_toArray, List.set_cons_zero, List.set_cons_succ]
      refine UpTo.take (i := 9) 38 (v := .pointer (some ⟨g, 2, none⟩)) rfl rfl (by kernel_rfl) (by kernel_rfl) (by kernel_rfl) (by kernel_rfl) (fun _ _ _ h => h) hHeld (Or.inl ⟨by rfl, by intro w hSw; go_simp⟩) ?_
      try simp only [Act.put, List.setIfInBounds_toArray, List.set_cons_zero, List.set_cons_succ]
      refine UpTo.take (i := 10) 39 (v := .int .i64 (top : Int)) rfl rfl (by kernel_rfl) (by kernel_rfl) (by kernel_rfl) (by kernel_rfl) (fun _ _ _ h => h) hHeld (Or.inl ⟨by rfl, by intro w1 hSw; have q := hSw.cell 2; go_simp⟩) ?_
      try simp only [Act.put, List.setIfInBounds_toArray, List.set_cons_zero, List.set_cons_succ]
      refine UpTo.take (i := 11) 40 (v := .int .u16 (P : Int)) rfl rfl (by kernel_rfl) (by kernel_rfl) (by kernel_rfl) (by kernel_rfl) (fun _ _ _ h => h) hHeld (Or.inl ⟨by rfl, by intro w hSw; go_simp⟩) ?_
      try simp only [Act.put, List.setIfInBounds_toArray, List.set_cons_zero, List.set_cons_succ]
      refine UpTo.take (i := 12) 41 (v := .int .u16 (N : Int)) rfl rfl (by kernel_rfl) (by kernel_rfl) (by kernel_rfl) (by kernel_rfl) (fun _ _ _ h => h) hHeld (Or.inl ⟨by rfl, by intro w hSw; go_simp⟩) ?_
      try simp only [Act.put, List.setIfInBounds_toArray, List.set_cons_zero, List.set_cons_succ]
      obtain ⟨v1, hv1⟩ : ∃ W, v0.drew = W := ⟨_, rfl⟩
      have HG1 := hide (show w.grownBy v1 (some g) from hv1 ▸ ⟨HGR.out.os, HGR.out.tape, HGR.out.output, HGR.out.size, HGR.out.block⟩)
      rw [hv1] at HH1 hHeld ⊢
      clear hv1
      refine UpTo.next (i := 13) (by kernel_rfl) rfl (fun K hK => ?_)
      go_simp
      refine hK.out _ _ (fun _ => HH1.out) ?_
      clear hK K
      try simp only [Act.put, List.setIfInBounds_toArray, List.set_cons_zero, List.set_cons_succ]
      refine UpTo.next (i := 14) (by kernel_rfl) rfl (fun K hK => ?_)
      go_simp
      refine hK.out _ _ (fun _ => HH1.out) ?_
      clear hK K
      try simp only [Act.put, List.setIfInBounds_toArray, List.set_cons_zero, List.set_cons_succ]
      have u0 := HH1.out.cell 0
      have f0 := HH1.out.frozen 0
      refine UpTo.next (i := 15) (by kernel_rfl) rfl (fun K hK => ?_)
      go_simp
      refine hK.out _ _ (fun h => absurd rfl h) ?_
      clear hK K
      refine UpTo.done (by kernel_rfl) ?_ _
      have HGS := only_setCell HG1.out (p := ⟨g, 0, none⟩) (.inl rfl) (.int .u16 (N : Int))
      go_wp2
      go_ret
      exact ⟨rfl, HH1.out.set_ 0 _, HGS⟩
    · have hq : ((b : Int) != 0) = true := by rw [bne_iff_ne]; omega
      obtain ⟨l1, l2⟩ := par_low b hb hz
      obtain ⟨b', hb'⟩ : ∃ c, b &&& (b - 1) = c := ⟨_, rfl⟩
      rw [hb'] at l1 l2
      have b3 : bits .xor .u16 (a : Int) 1 = ((1 - a : Nat) : Int) := by
        have := xor_u16 (a := a) (b := 1) (by omega) (by omega)
        rw [show a ^^^ 1 = 1 - a by rcases (show a = 0 ∨ a = 1 by omega) with rfl | rfl <;> rfl] at this; exact this
      have b4 : bits .and .u16 (b : Int) ((b : Int) - 1) = (b' : Int) := by
        have := and_u16 (a := b) (b := b - 1) (by omega) (by omega)
        rw [hb', show ((b - 1 : Nat) : Int) = (b : Int) - 1 by omega] at this; exact this
      have i1 : IntKind.u16.wrap ((b : Int) - 1) = (b : Int) - 1 := by have := u16_wrap (b - 1) (by omega); rw [show ((b - 1 : Nat) : Int) = (b : Int) - 1 by omega] at this; exact this
      have HFIN := hide (show (1 - a + par b') % 2 = par r0 by rw [← he, l2]; have := par_le b'; omega)
      obtain ⟨a', ha'⟩ : ∃ c, 1 - a = c := ⟨_, rfl⟩
      rw [ha'] at b3 HFIN
      have ha2 : a' < 2 := by omega
      clear hb' l2 he ha' hz
      go_wp2
      go_round
      case rel => exact ⟨a', b', rfl, rfl, ha2, by omega, HFIN.out⟩
      case measure => simp [intOf]; omega
end Go.Proofs.Ytehcmhblppjalaa
