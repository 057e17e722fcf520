import Derived.Test.YtppkibgemacdbaaSek
namespace Go.Proofs.Ytppkibgemacdbaa
open Go.RowKit Go.WideShapes Go.ChangeShapes

/-! the regions of the law that run the slots, each over any rest -/
def opsIn : Code → Nat → Option (Array Oper)
  | .region id ops _, k => if id = k then some ops else none
  | .seq a b, k => match opsIn a k with | some x => some x | none => opsIn b k
  | .loop a, k => opsIn a k
  | .block _ a, k => opsIn a k
  | .cond _ a b, k => match opsIn a k with | some x => some x | none => opsIn b k
  | _, _ => none
def regOps (f : Func) (k : Nat) : Array Oper := match f.body with
  | some c => (opsIn c k).getD #[]
  | none => #[]
set_option maxRecDepth 100000 in
set_option maxHeartbeats 16000000 in
theorem r24 (Q : Exit → Act → World → Prop) (hP : ∀ c a d v w, Q (.panic c) (Act.put a d v) w → Q (.panic c) a w) (NB C P : Int) (A2 : Option Addr) (n c2 : Nat) (T : List Int) (nm : Bs) (kd pr wt pw le bu ra de : Int) (g11 gB G t c' : Nat) (Z : Int) (ar : Nat → Int) (wr : World) (x0 x1 x2 x4 x5 x6 x7 x8 x9 x10 x13 x14 x15 x16 x17 x18 x19 x20 x21 x22 x23 x24 x25 x26 x27 x28 x29 x30 x31 x32 x33 x34 x35 x36 x37 x38 x39 x40 x41 x42 x43 x44 x45 x46 x47 x48 x49 x50 x51 x52 x53 x54 x55 x56 x57 x58 x59 x60 x61 x62 x63 x64 x65 x66 x67 x68 x69 x70 x71 x72 x73 x74 x75 x76 x77 x78 x79 x80 x81 x82 x83 x84 x85 x86 x87 x88 x89 x90 x91 x92 x93 x94 x95 x96 x97 x98 x99 x100 x101 x102 x103 x104 x105 x106 x107 x108 x109 x110 x111 x112 x113 x114 x115 x116 x117 x118 x119 x120 x121 x122 x123 x124 x125 x126 x127 x128 x129 x130 x131 x132 x133 x134 x135 x136 x137 x138 x139 x140 x141 x142 x143 x144 x145 x146 x147 x148 x149 x150 x151 x152 x153 x154 x155 x156 x157 x158 x159 x160 x161 x162 x163 x164 x165 x166 x167 x168 x169 x170 x171 x172 x173 x174 x175 x176 x177 : Value)
    (HU : Stay wr (fun W => (((Blk W g11 24 #[.int .i64 NB, .int .i64 C, .int .i64 P, .slice A2 n c2] ∧ Blk W gB 32 #[strV nm, .int .i64 kd, .int .i64 pr, .int .i64 wt, .int .i64 pw, .int .i64 le, .int .i64 bu, .int .i64 ra, .int .i64 de]) ∧ Sl W A2 (iv T)) ∧ SlotsAt W (some ⟨G, 0, none⟩) t le ar)))
    (HCS : ∀ W, SlotsAt W (some ⟨G, 0, none⟩) t le ar → Calls Try.prog 15 #[.slice (some ⟨G, 0, none⟩) t c'] W (CopySlotsR t le ar W))
    (HRN : ∀ W gb A3 c3, Sl W A2 (iv T) → Blk W gb 32 #[strV nm, .int .i64 kd, .int .i64 pr, .int .i64 wt, .int .i64 pw, .int .i64 le, .int .i64 bu, .int .i64 ra, .int .i64 de] → SlotsAt W A3 t le ar → Calls Try.prog 18 #[.agg #[.int .i64 NB, .int .i64 C, .int .i64 P, .slice A2 n c2], .slice (some ⟨gb, 0, none⟩) 1 1, .slice A3 t c3] W (RunR Z W))
    (hQ : ∀ gz gb A3 c3 A0 a0 c0 A1 a1 c1 lb lc wx, Blk wx gz 58 #[.slice A0 a0 c0, .slice A1 a1 c1, .slice (some ⟨lb, 0, none⟩) 1 lc] → wx.cell? ⟨lb, 0, none⟩ = some (.int .i64 Z) → Below wr.heap.size wr wx → Q .normal ⟨#[x0, x1, x2, .pointer (some ⟨gB, 0, none⟩), x4, x5, x6, x7, x8, x9, x10, .pointer (some ⟨g11, 0, none⟩), .slice (some ⟨G, 0, none⟩) t c', x13, x14, .pointer (some ⟨gz, 0, none⟩), .int .i64 0, x17, x18, x19, x20, x21, x22, x23, x24, x25, x26, x27, x28, x29, x30, x31, x32, x33, x34, x35, x36, x37, x38, x39, x40, x41, x42, x43, x44, x45, x46, x47, x48, x49, x50, x51, x52, x53, x54, x55, x56, x57, x58, x59, x60, x61, x62, x63, x64, x65, x66, x67, x68, x69, x70, x71, x72, x73, x74, x75, x76, x77, x78, x79, x80, x81, x82, x83, x84, x85, x86, x87, x88, x89, x90, x91, x92, x93, x94, x95, x96, x97, x98, x99, x100, x101, x102, x103, x104, x105, x106, x107, x108, x109, x110, x111, x112, x113, x114, x115, x116, x117, x118, x119, x120, x121, x122, .tuple #[.agg #[.slice A0 a0 c0, .slice A1 a1 c1, .slice (some ⟨lb, 0, none⟩) 1 lc], .int .i64 0], .agg #[.int .i64 NB, .int .i64 C, .int .i64 P, .slice A2 n c2], .agg #[strV nm, .int .i64 kd, .int .i64 pr, .int .i64 wt, .int .i64 pw, .int .i64 le, .int .i64 bu, .int .i64 ra, .int .i64 de], .slice (some ⟨gb, 0, none⟩) 1 1, .slice (some ⟨G, 0, none⟩) t c', .slice A3 t c3, .tuple #[.agg #[.slice A0 a0 c0, .slice A1 a1 c1, .slice (some ⟨lb, 0, none⟩) 1 lc], .int .i64 0], .agg #[.slice A0 a0 c0, .slice A1 a1 c1, .slice (some ⟨lb, 0, none⟩) 1 lc], .int .i64 0, x132, x133, x134, x135, x136, x137, x138, x139, x140, x141, x142, x143, x144, x145, x146, x147, x148, x149, x150, x151, x152, x153, x154, x155, x156, x157, x158, x159, x160, x161, x162, x163, x164, x165, x166, x167, x168, x169, x170, x171, x172, x173, x174, x175, x176, x177], []⟩ wx) :
    (Code.region 24 (regOps Try.f4 24) true).wp Try.prog Q ⟨#[x0, x1, x2, .pointer (some ⟨gB, 0, none⟩), x4, x5, x6, x7, x8, x9, x10, .pointer (some ⟨g11, 0, none⟩), .slice (some ⟨G, 0, none⟩) t c', x13, x14, x15, x16, x17, x18, x19, x20, x21, x22, x23, x24, x25, x26, x27, x28, x29, x30, x31, x32, x33, x34, x35, x36, x37, x38, x39, x40, x41, x42, x43, x44, x45, x46, x47, x48, x49, x50, x51, x52, x53, x54, x55, x56, x57, x58, x59, x60, x61, x62, x63, x64, x65, x66, x67, x68, x69, x70, x71, x72, x73, x74, x75, x76, x77, x78, x79, x80, x81, x82, x83, x84, x85, x86, x87, x88, x89, x90, x91, x92, x93, x94, x95, x96, x97, x98, x99, x100, x101, x102, x103, x104, x105, x106, x107, x108, x109, x110, x111, x112, x113, x114, x115, x116, x117, x118, x119, x120, x121, x122, x123, x124, x125, x126, x127, x128, x129, x130, x131, x132, x133, x134, x135, x136, x137, x138, x139, x140, x141, x142, x143, x144, x145, x146, x147, x148, x149, x150, x151, x152, x153, x154, x155, x156, x157, x158, x159, x160, x161, x162, x163, x164, x165, x166, x167, x168, x169, x170, x171, x172, x173, x174, x175, x176, x177], []⟩ wr := by
  obtain ⟨ops, hops⟩ : ∃ ops, ops = regOps Try.f4 24 := ⟨_, rfl⟩
  rw [← hops]
  simp [regOps, Try.f4, opsIn] at hops
  subst hops
  refine wp_region_held_drew (S := fun w_ => Below wr.heap.size wr w_) (by kernel_rfl) (below_drewN (Below.refl wr.heap.size wr) 1) (fun hHeld => ?_)
  obtain ⟨v0, hv0⟩ : ∃ v0, wr.drew = v0 := ⟨_, rfl⟩
  replace hHeld : Below wr.heap.size wr wr.drew := hHeld
  rw [hv0] at hHeld
  first | rw [hv0] | (change wpAnyH _ _ _ _ _ _ _ _ wr.drew; rw [hv0])
  clear hv0
  refine take_at (i := 0) 124 (v := .agg #[.int .i64 NB, .int .i64 C, .int .i64 P, .slice A2 n c2]) rfl rfl (by kernel_rfl) (by kernel_rfl) (by kernel_rfl) (fun _ _ _ h => hP _ _ _ _ _ h) (Or.inl ⟨by rfl, by intro w_ hSw; have d0 : w_.cell? ⟨g11, 0, none⟩ = some (.int .i64 NB) := (HU _ hSw).1.1.1.cell 0; have d1 : w_.cell? ⟨g11, 1, none⟩ = some (.int .i64 C) := (HU _ hSw).1.1.1.cell 1; have d2 : w_.cell? ⟨g11, 2, none⟩ = some (.int .i64 P) := (HU _ hSw).1.1.1.cell 2; have d3 : w_.cell? ⟨g11, 3, none⟩ = some (.slice A2 n c2) := (HU _ hSw).1.1.1.cell 3; go_simp⟩) (by assumption) ?_
  try simp only [Act.put, List.setIfInBounds_toArray, List.set_cons_zero, List.set_cons_succ]
  refine take_at (i := 1) 125 (v := .agg #[strV nm, .int .i64 kd, .int .i64 pr, .int .i64 wt, .int .i64 pw, .int .i64 le, .int .i64 bu, .int .i64 ra, .int .i64 de]) rfl rfl (by kernel_rfl) (by kernel_rfl) (by kernel_rfl) (fun _ _ _ h => hP _ _ _ _ _ h) (Or.inl ⟨by rfl, by intro w_ hSw; have c0 : w_.cell? ⟨gB, 0, none⟩ = some (strV nm) := (HU _ hSw).1.1.2.cell 0; have c1 : w_.cell? ⟨gB, 1, none⟩ = some (.int .i64 kd) := (HU _ hSw).1.1.2.cell 1; have c2 : w_.cell? ⟨gB, 2, none⟩ = some (.int .i64 pr) := (HU _ hSw).1.1.2.cell 2; have c3 : w_.cell? ⟨gB, 3, none⟩ = some (.int .i64 wt) := (HU _ hSw).1.1.2.cell 3; have c4 : w_.cell? ⟨gB, 4, none⟩ = some (.int .i64 pw) := (HU _ hSw).1.1.2.cell 4; have c5 : w_.cell? ⟨gB, 5, none⟩ = some (.int .i64 le) := (HU _ hSw).1.1.2.cell 5; have c6 : w_.cell? ⟨gB, 6, none⟩ = some (.int .i64 bu) := (HU _ hSw).1.1.2.cell 6; have c7 : w_.cell? ⟨gB, 7, none⟩ = some (.int .i64 ra) := (HU _ hSw).1.1.2.cell 7; have c8 : w_.cell? ⟨gB, 8, none⟩ = some (.int .i64 de) := (HU _ hSw).1.1.2.cell 8; go_simp⟩) (by assumption) ?_
  try simp only [Act.put, List.setIfInBounds_toArray, List.set_cons_zero, List.set_cons_succ]
  refine take_at (i := 3) 127 (v := .slice (some ⟨G, 0, none⟩) t c') rfl rfl (by kernel_rfl) (by kernel_rfl) (by kernel_rfl) (fun _ _ _ h => hP _ _ _ _ _ h) (Or.inl ⟨by rfl, by intro w_ hSw; go_simp⟩) (by assumption) ?_
  try simp only [Act.put, List.setIfInBounds_toArray, List.set_cons_zero, List.set_cons_succ]
  obtain ⟨gb, hgb⟩ : ∃ g, v0.heap.size = g := ⟨_, rfl⟩
  obtain ⟨gz, hgz⟩ : ∃ g, v0.heap.size = g := ⟨_, rfl⟩
  refine wpAnyH_ready (rs := [2, 4, 9]) (by kernel_rfl) (by simp) ?_
  refine AllReadyH.cons rfl (fun K hK => ?_) (AllReadyH.cons rfl (fun K hK => ?_) (AllReadyH.cons rfl (fun K hK => ?_) AllReadyH.nil))
  · clear hgz
    go_simp
    have hb := (Below.refl v0.heap.size v0).alloc (Nat.le_refl _) (.cells #[strV nm, .int .i64 kd, .int .i64 pr, .int .i64 wt, .int .i64 pw, .int .i64 le, .int .i64 bu, .int .i64 ra, .int .i64 de] 32)
    have gbge := Nat.le_trans hHeld.size (Nat.le_of_eq hgb)
    replace hHeld := Below.step hHeld hb
    have Hgb := hide (stay_blk (Blk.newN v0 32 #[strV nm, .int .i64 kd, .int .i64 pr, .int .i64 wt, .int .i64 pw, .int .i64 le, .int .i64 bu, .int .i64 ra, .int .i64 de] hgb))
    obtain ⟨v1, hwn⟩ : ∃ w9, v0.alloc (.cells #[strV nm, .int .i64 kd, .int .i64 pr, .int .i64 wt, .int .i64 pw, .int .i64 le, .int .i64 bu, .int .i64 ra, .int .i64 de] 32) = w9 := ⟨_, rfl⟩
    rw [hwn] at hHeld Hgb ⊢
    clear hb hwn hgb
    refine hK.out _ _ hHeld (fun hHeld => ?_)
    clear hK K
    try simp only [Act.put, List.setIfInBounds_toArray, List.set_cons_zero, List.set_cons_succ]
    obtain ⟨gz, hgz⟩ : ∃ g, v1.heap.size = g := ⟨_, rfl⟩
    refine wpAnyH_ready (rs := [4, 9]) (by kernel_rfl) (by simp) ?_
    refine AllReadyH.cons rfl (fun K hK => ?_) (AllReadyH.cons rfl (fun K hK => ?_) AllReadyH.nil)
    · clear hgz
      go_simp
      go_at_call 15
      refine (HCS _ (HU _ hHeld).2).mono ?_
      rintro e v2 ⟨A3, c3, rfl, hss, hb⟩
      replace Hgb := hide (Hgb.out.step hb)
      replace hHeld := Below.step hHeld hb
      have HSS := hide (stay_slots hss)
      clear hss
      clear hb
      simp only []
      refine hK.out _ _ hHeld (fun hHeld => ?_)
      clear hK K
      try simp only [Act.put, List.setIfInBounds_toArray, List.set_cons_zero, List.set_cons_succ]
      obtain ⟨gz, hgz⟩ : ∃ g, v2.heap.size = g := ⟨_, rfl⟩
      refine wpAnyH_ready (rs := [5, 9]) (by kernel_rfl) (by simp) ?_
      refine AllReadyH.cons rfl (fun K hK => ?_) (AllReadyH.cons rfl (fun K hK => ?_) AllReadyH.nil)
      · clear hgz
        go_simp
        go_at_call 18
        refine (HRN _ gb A3 c3 (HU _ hHeld).1.2 Hgb.out.now HSS.out.now).mono ?_
        rintro e v3 ⟨A0, a0, c0, A1, a1, c1, lb, lc, rfl, hlb, hb⟩
        replace Hgb := hide (Hgb.out.step hb)
        replace HSS := hide (HSS.out.step hb)
        replace hHeld := Below.step hHeld hb
        have HLB := hide (stay_at hlb)
        clear hlb
        clear hb
        simp only []
        refine hK.out _ _ hHeld (fun hHeld => ?_)
        clear hK K
        try simp only [Act.put, List.setIfInBounds_toArray, List.set_cons_zero, List.set_cons_succ]
        refine take_at (i := 6) 123 (v := .tuple #[.agg #[.slice A0 a0 c0, .slice A1 a1 c1, .slice (some ⟨lb, 0, none⟩) 1 lc], .int .i64 0]) rfl rfl (by kernel_rfl) (by kernel_rfl) (by kernel_rfl) (fun _ _ _ h => hP _ _ _ _ _ h) (Or.inl ⟨by rfl, by intro w_ hSw; go_simp⟩) (by assumption) ?_
        try simp only [Act.put, List.setIfInBounds_toArray, List.set_cons_zero, List.set_cons_succ]
        refine take_at (i := 7) 130 (v := .agg #[.slice A0 a0 c0, .slice A1 a1 c1, .slice (some ⟨lb, 0, none⟩) 1 lc]) rfl rfl (by kernel_rfl) (by kernel_rfl) (by kernel_rfl) (fun _ _ _ h => hP _ _ _ _ _ h) (Or.inl ⟨by rfl, by intro w_ hSw; go_simp⟩) (by assumption) ?_
        try simp only [Act.put, List.setIfInBounds_toArray, List.set_cons_zero, List.set_cons_succ]
        refine take_at (i := 8) 131 (v := .int .i64 0) rfl rfl (by kernel_rfl) (by kernel_rfl) (by kernel_rfl) (fun _ _ _ h => hP _ _ _ _ _ h) (Or.inl ⟨by rfl, by intro w_ hSw; go_simp⟩) (by assumption) ?_
        try simp only [Act.put, List.setIfInBounds_toArray, List.set_cons_zero, List.set_cons_succ]
        obtain ⟨gz, hgz⟩ : ∃ g, v3.heap.size = g := ⟨_, rfl⟩
        refine wpAnyH_ready (rs := [9]) (by kernel_rfl) (by simp) ?_
        refine AllReadyH.cons rfl (fun K hK => ?_) AllReadyH.nil
        go_simp
        have hb := (Below.refl v3.heap.size v3).alloc (Nat.le_refl _) (.cells #[.slice none 0 0, .slice none 0 0, .slice none 0 0] 58)
        replace Hgb := hide (Hgb.out.step hb)
        replace HSS := hide (HSS.out.step hb)
        replace HLB := hide (HLB.out.step hb)
        have gzge := Nat.le_trans hHeld.size (Nat.le_of_eq hgz)
        replace hHeld := Below.step hHeld hb
        have Hgz := hide (stay_blk (Blk.newN v3 58 #[.slice none 0 0, .slice none 0 0, .slice none 0 0] hgz))
        obtain ⟨v4, hwn⟩ : ∃ w9, v3.alloc (.cells #[.slice none 0 0, .slice none 0 0, .slice none 0 0] 58) = w9 := ⟨_, rfl⟩
        rw [hwn] at hHeld Hgb HSS HLB Hgz ⊢
        clear hb hwn hgz
        refine hK.out _ _ hHeld (fun hHeld => ?_)
        clear hK K
        try simp only [Act.put, List.setIfInBounds_toArray, List.set_cons_zero, List.set_cons_succ]
        refine wpAnyH_ready (rs := [10]) (by kernel_rfl) (by simp) ?_
        refine AllReadyH.cons rfl (fun K hK => ?_) AllReadyH.nil
        refine step_store_rowF rfl 58 _ _ rfl gz #[.slice A0 a0 c0, .slice A1 a1 c1, .slice (some ⟨lb, 0, none⟩) 1 lc] rfl rfl 58 #[.slice none 0 0, .slice none 0 0, .slice none 0 0] Hgz.out.now (by kernel_rfl) rfl (by simp [Value.oneCell']) ?_
        have hne : lb ≠ gz := by intro e; have h1 := HLB.out.now; rw [e, Hgz.out.now.cell 0] at h1; simp at h1
        have HLE := hide (show (v4.setRow gz #[.slice A0 a0 c0, .slice A1 a1 c1, .slice (some ⟨lb, 0, none⟩) 1 lc]).cell? ⟨lb, 0, none⟩ = some (.int .i64 Z) from by rw [← HLB.out.now]; unfold World.cell?; rw [setRow_other v4 gz lb #[.slice A0 a0 c0, .slice A1 a1 c1, .slice (some ⟨lb, 0, none⟩) 1 lc] hne])
        replace hHeld := Below.row (g := gz) hHeld gzge #[.slice A0 a0 c0, .slice A1 a1 c1, .slice (some ⟨lb, 0, none⟩) 1 lc]
        have HSgz := hide (Hgz.out.now.row #[.slice A0 a0 c0, .slice A1 a1 c1, .slice (some ⟨lb, 0, none⟩) 1 lc])
        obtain ⟨v5, hwn⟩ : ∃ w9, v4.setRow gz #[.slice A0 a0 c0, .slice A1 a1 c1, .slice (some ⟨lb, 0, none⟩) 1 lc] = w9 := ⟨_, rfl⟩
        rw [hwn] at hHeld HSgz HLE ⊢
        clear hwn Hgb HSS HLB Hgz
        refine hK.out _ _ hHeld (fun hHeld => ?_)
        clear hK K
        try simp only [Act.put, List.setIfInBounds_toArray]
        refine take_at (i := 11) 16 (v := .int .i64 0) rfl rfl (by kernel_rfl) (by kernel_rfl) (by kernel_rfl) (fun _ _ _ h => hP _ _ _ _ _ h) (Or.inl ⟨by rfl, by intro w_ hSw; go_simp⟩) (by assumption) ?_
        try simp only [Act.put]
        refine wpAnyH_done (by kernel_rfl) ?_ _
        exact hQ gz gb A3 c3 A0 a0 c0 A1 a1 c1 lb lc v5 HSgz.out HLE.out hHeld
      · go_simp
        have hb := (Below.refl v2.heap.size v2).alloc (Nat.le_refl _) (.cells #[.slice none 0 0, .slice none 0 0, .slice none 0 0] 58)
        replace Hgb := hide (Hgb.out.step hb)
        replace HSS := hide (HSS.out.step hb)
        have gzge := Nat.le_trans hHeld.size (Nat.le_of_eq hgz)
        replace hHeld := Below.step hHeld hb
        have Hgz := hide (stay_blk (Blk.newN v2 58 #[.slice none 0 0, .slice none 0 0, .slice none 0 0] hgz))
        obtain ⟨v3, hwn⟩ : ∃ w9, v2.alloc (.cells #[.slice none 0 0, .slice none 0 0, .slice none 0 0] 58) = w9 := ⟨_, rfl⟩
        rw [hwn] at hHeld Hgb HSS Hgz ⊢
        clear hb hwn hgz
        refine hK.out _ _ hHeld (fun hHeld => ?_)
        clear hK K
        try simp only [Act.put, List.setIfInBounds_toArray, List.set_cons_zero, List.set_cons_succ]
        refine wpAnyH_ready (rs := [5]) (by kernel_rfl) (by simp) ?_
        refine AllReadyH.cons rfl (fun K hK => ?_) AllReadyH.nil
        go_simp
        go_at_call 18
        refine (HRN _ gb A3 c3 (HU _ hHeld).1.2 Hgb.out.now HSS.out.now).mono ?_
        rintro e v4 ⟨A0, a0, c0, A1, a1, c1, lb, lc, rfl, hlb, hb⟩
        replace Hgb := hide (Hgb.out.step hb)
        replace HSS := hide (HSS.out.step hb)
        replace Hgz := hide (Hgz.out.step hb)
        replace hHeld := Below.step hHeld hb
        have HLB := hide (stay_at hlb)
        clear hlb
        clear hb
        simp only []
        refine hK.out _ _ hHeld (fun hHeld => ?_)
        clear hK K
        try simp only [Act.put, List.setIfInBounds_toArray, List.set_cons_zero, List.set_cons_succ]
        refine take_at (i := 6) 123 (v := .tuple #[.agg #[.slice A0 a0 c0, .slice A1 a1 c1, .slice (some ⟨lb, 0, none⟩) 1 lc], .int .i64 0]) rfl rfl (by kernel_rfl) (by kernel_rfl) (by kernel_rfl) (fun _ _ _ h => hP _ _ _ _ _ h) (Or.inl ⟨by rfl, by intro w_ hSw; go_simp⟩) (by assumption) ?_
        try simp only [Act.put, List.setIfInBounds_toArray, List.set_cons_zero, List.set_cons_succ]
        refine take_at (i := 7) 130 (v := .agg #[.slice A0 a0 c0, .slice A1 a1 c1, .slice (some ⟨lb, 0, none⟩) 1 lc]) rfl rfl (by kernel_rfl) (by kernel_rfl) (by kernel_rfl) (fun _ _ _ h => hP _ _ _ _ _ h) (Or.inl ⟨by rfl, by intro w_ hSw; go_simp⟩) (by assumption) ?_
        try simp only [Act.put, List.setIfInBounds_toArray, List.set_cons_zero, List.set_cons_succ]
        refine take_at (i := 8) 131 (v := .int .i64 0) rfl rfl (by kernel_rfl) (by kernel_rfl) (by kernel_rfl) (fun _ _ _ h => hP _ _ _ _ _ h) (Or.inl ⟨by rfl, by intro w_ hSw; go_simp⟩) (by assumption) ?_
        try simp only [Act.put, List.setIfInBounds_toArray, List.set_cons_zero, List.set_cons_succ]
        refine wpAnyH_ready (rs := [10]) (by kernel_rfl) (by simp) ?_
        refine AllReadyH.cons rfl (fun K hK => ?_) AllReadyH.nil
        refine step_store_rowF rfl 58 _ _ rfl gz #[.slice A0 a0 c0, .slice A1 a1 c1, .slice (some ⟨lb, 0, none⟩) 1 lc] rfl rfl 58 #[.slice none 0 0, .slice none 0 0, .slice none 0 0] Hgz.out.now (by kernel_rfl) rfl (by simp [Value.oneCell']) ?_
        have hne : lb ≠ gz := by intro e; have h1 := HLB.out.now; rw [e, Hgz.out.now.cell 0] at h1; simp at h1
        have HLE := hide (show (v4.setRow gz #[.slice A0 a0 c0, .slice A1 a1 c1, .slice (some ⟨lb, 0, none⟩) 1 lc]).cell? ⟨lb, 0, none⟩ = some (.int .i64 Z) from by rw [← HLB.out.now]; unfold World.cell?; rw [setRow_other v4 gz lb #[.slice A0 a0 c0, .slice A1 a1 c1, .slice (some ⟨lb, 0, none⟩) 1 lc] hne])
        replace hHeld := Below.row (g := gz) hHeld gzge #[.slice A0 a0 c0, .slice A1 a1 c1, .slice (some ⟨lb, 0, none⟩) 1 lc]
        have HSgz := hide (Hgz.out.now.row #[.slice A0 a0 c0, .slice A1 a1 c1, .slice (some ⟨lb, 0, none⟩) 1 lc])
        obtain ⟨v5, hwn⟩ : ∃ w9, v4.setRow gz #[.slice A0 a0 c0, .slice A1 a1 c1, .slice (some ⟨lb, 0, none⟩) 1 lc] = w9 := ⟨_, rfl⟩
        rw [hwn] at hHeld HSgz HLE ⊢
        clear hwn Hgb HSS Hgz HLB
        refine hK.out _ _ hHeld (fun hHeld => ?_)
        clear hK K
        try simp only [Act.put, List.setIfInBounds_toArray]
        refine take_at (i := 11) 16 (v := .int .i64 0) rfl rfl (by kernel_rfl) (by kernel_rfl) (by kernel_rfl) (fun _ _ _ h => hP _ _ _ _ _ h) (Or.inl ⟨by rfl, by intro w_ hSw; go_simp⟩) (by assumption) ?_
        try simp only [Act.put]
        refine wpAnyH_done (by kernel_rfl) ?_ _
        exact hQ gz gb A3 c3 A0 a0 c0 A1 a1 c1 lb lc v5 HSgz.out HLE.out hHeld
    · go_simp
      have hb := (Below.refl v1.heap.size v1).alloc (Nat.le_refl _) (.cells #[.slice none 0 0, .slice none 0 0, .slice none 0 0] 58)
      replace Hgb := hide (Hgb.out.step hb)
      have gzge := Nat.le_trans hHeld.size (Nat.le_of_eq hgz)
      replace hHeld := Below.step hHeld hb
      have Hgz := hide (stay_blk (Blk.newN v1 58 #[.slice none 0 0, .slice none 0 0, .slice none 0 0] hgz))
      obtain ⟨v2, hwn⟩ : ∃ w9, v1.alloc (.cells #[.slice none 0 0, .slice none 0 0, .slice none 0 0] 58) = w9 := ⟨_, rfl⟩
      rw [hwn] at hHeld Hgb Hgz ⊢
      clear hb hwn hgz
      refine hK.out _ _ hHeld (fun hHeld => ?_)
      clear hK K
      try simp only [Act.put, List.setIfInBounds_toArray, List.set_cons_zero, List.set_cons_succ]
      refine wpAnyH_ready (rs := [4]) (by kernel_rfl) (by simp) ?_
      refine AllReadyH.cons rfl (fun K hK => ?_) AllReadyH.nil
      go_simp
      go_at_call 15
      refine (HCS _ (HU _ hHeld).2).mono ?_
      rintro e v3 ⟨A3, c3, rfl, hss, hb⟩
      replace Hgb := hide (Hgb.out.step hb)
      replace Hgz := hide (Hgz.out.step hb)
      replace hHeld := Below.step hHeld hb
      have HSS := hide (stay_slots hss)
      clear hss
      clear hb
      simp only []
      refine hK.out _ _ hHeld (fun hHeld => ?_)
      clear hK K
      try simp only [Act.put, List.setIfInBounds_toArray, List.set_cons_zero, List.set_cons_succ]
      refine wpAnyH_ready (rs := [5]) (by kernel_rfl) (by simp) ?_
      refine AllReadyH.cons rfl (fun K hK => ?_) AllReadyH.nil
      go_simp
      go_at_call 18
      refine (HRN _ gb A3 c3 (HU _ hHeld).1.2 Hgb.out.now HSS.out.now).mono ?_
      rintro e v4 ⟨A0, a0, c0, A1, a1, c1, lb, lc, rfl, hlb, hb⟩
      replace Hgb := hide (Hgb.out.step hb)
      replace Hgz := hide (Hgz.out.step hb)
      replace HSS := hide (HSS.out.step hb)
      replace hHeld := Below.step hHeld hb
      have HLB := hide (stay_at hlb)
      clear hlb
      clear hb
      simp only []
      refine hK.out _ _ hHeld (fun hHeld => ?_)
      clear hK K
      try simp only [Act.put, List.setIfInBounds_toArray, List.set_cons_zero, List.set_cons_succ]
      refine take_at (i := 6) 123 (v := .tuple #[.agg #[.slice A0 a0 c0, .slice A1 a1 c1, .slice (some ⟨lb, 0, none⟩) 1 lc], .int .i64 0]) rfl rfl (by kernel_rfl) (by kernel_rfl) (by kernel_rfl) (fun _ _ _ h => hP _ _ _ _ _ h) (Or.inl ⟨by rfl, by intro w_ hSw; go_simp⟩) (by assumption) ?_
      try simp only [Act.put, List.setIfInBounds_toArray, List.set_cons_zero, List.set_cons_succ]
      refine take_at (i := 7) 130 (v := .agg #[.slice A0 a0 c0, .slice A1 a1 c1, .slice (some ⟨lb, 0, none⟩) 1 lc]) rfl rfl (by kernel_rfl) (by kernel_rfl) (by kernel_rfl) (fun _ _ _ h => hP _ _ _ _ _ h) (Or.inl ⟨by rfl, by intro w_ hSw; go_simp⟩) (by assumption) ?_
      try simp only [Act.put, List.setIfInBounds_toArray, List.set_cons_zero, List.set_cons_succ]
      refine take_at (i := 8) 131 (v := .int .i64 0) rfl rfl (by kernel_rfl) (by kernel_rfl) (by kernel_rfl) (fun _ _ _ h => hP _ _ _ _ _ h) (Or.inl ⟨by rfl, by intro w_ hSw; go_simp⟩) (by assumption) ?_
      try simp only [Act.put, List.setIfInBounds_toArray, List.set_cons_zero, List.set_cons_succ]
      refine wpAnyH_ready (rs := [10]) (by kernel_rfl) (by simp) ?_
      refine AllReadyH.cons rfl (fun K hK => ?_) AllReadyH.nil
      refine step_store_rowF rfl 58 _ _ rfl gz #[.slice A0 a0 c0, .slice A1 a1 c1, .slice (some ⟨lb, 0, none⟩) 1 lc] rfl rfl 58 #[.slice none 0 0, .slice none 0 0, .slice none 0 0] Hgz.out.now (by kernel_rfl) rfl (by simp [Value.oneCell']) ?_
      have hne : lb ≠ gz := by intro e; have h1 := HLB.out.now; rw [e, Hgz.out.now.cell 0] at h1; simp at h1
      have HLE := hide (show (v4.setRow gz #[.slice A0 a0 c0, .slice A1 a1 c1, .slice (some ⟨lb, 0, none⟩) 1 lc]).cell? ⟨lb, 0, none⟩ = some (.int .i64 Z) from by rw [← HLB.out.now]; unfold World.cell?; rw [setRow_other v4 gz lb #[.slice A0 a0 c0, .slice A1 a1 c1, .slice (some ⟨lb, 0, none⟩) 1 lc] hne])
      replace hHeld := Below.row (g := gz) hHeld gzge #[.slice A0 a0 c0, .slice A1 a1 c1, .slice (some ⟨lb, 0, none⟩) 1 lc]
      have HSgz := hide (Hgz.out.now.row #[.slice A0 a0 c0, .slice A1 a1 c1, .slice (some ⟨lb, 0, none⟩) 1 lc])
      obtain ⟨v5, hwn⟩ : ∃ w9, v4.setRow gz #[.slice A0 a0 c0, .slice A1 a1 c1, .slice (some ⟨lb, 0, none⟩) 1 lc] = w9 := ⟨_, rfl⟩
      rw [hwn] at hHeld HSgz HLE ⊢
      clear hwn Hgb Hgz HSS HLB
      refine hK.out _ _ hHeld (fun hHeld => ?_)
      clear hK K
      try simp only [Act.put, List.setIfInBounds_toArray]
      refine take_at (i := 11) 16 (v := .int .i64 0) rfl rfl (by kernel_rfl) (by kernel_rfl) (by kernel_rfl) (fun _ _ _ h => hP _ _ _ _ _ h) (Or.inl ⟨by rfl, by intro w_ hSw; go_simp⟩) (by assumption) ?_
      try simp only [Act.put]
      refine wpAnyH_done (by kernel_rfl) ?_ _
      exact hQ gz gb A3 c3 A0 a0 c0 A1 a1 c1 lb lc v5 HSgz.out HLE.out hHeld
  · clear hgb
    clear hgz
    go_simp
    go_at_call 15
    refine (HCS _ (HU _ hHeld).2).mono ?_
    rintro e v1 ⟨A3, c3, rfl, hss, hb⟩
    replace hHeld := Below.step hHeld hb
    have HSS := hide (stay_slots hss)
    clear hss
    clear hb
    simp only []
    refine hK.out _ _ hHeld (fun hHeld => ?_)
    clear hK K
    try simp only [Act.put, List.setIfInBounds_toArray, List.set_cons_zero, List.set_cons_succ]
    obtain ⟨gb, hgb⟩ : ∃ g, v1.heap.size = g := ⟨_, rfl⟩
    obtain ⟨gz, hgz⟩ : ∃ g, v1.heap.size = g := ⟨_, rfl⟩
    refine wpAnyH_ready (rs := [2, 9]) (by kernel_rfl) (by simp) ?_
    refine AllReadyH.cons rfl (fun K hK => ?_) (AllReadyH.cons rfl (fun K hK => ?_) AllReadyH.nil)
    · clear hgz
      go_simp
      have hb := (Below.refl v1.heap.size v1).alloc (Nat.le_refl _) (.cells #[strV nm, .int .i64 kd, .int .i64 pr, .int .i64 wt, .int .i64 pw, .int .i64 le, .int .i64 bu, .int .i64 ra, .int .i64 de] 32)
      replace HSS := hide (HSS.out.step hb)
      have gbge := Nat.le_trans hHeld.size (Nat.le_of_eq hgb)
      replace hHeld := Below.step hHeld hb
      have Hgb := hide (stay_blk (Blk.newN v1 32 #[strV nm, .int .i64 kd, .int .i64 pr, .int .i64 wt, .int .i64 pw, .int .i64 le, .int .i64 bu, .int .i64 ra, .int .i64 de] hgb))
      obtain ⟨v2, hwn⟩ : ∃ w9, v1.alloc (.cells #[strV nm, .int .i64 kd, .int .i64 pr, .int .i64 wt, .int .i64 pw, .int .i64 le, .int .i64 bu, .int .i64 ra, .int .i64 de] 32) = w9 := ⟨_, rfl⟩
      rw [hwn] at hHeld HSS Hgb ⊢
      clear hb hwn hgb
      refine hK.out _ _ hHeld (fun hHeld => ?_)
      clear hK K
      try simp only [Act.put, List.setIfInBounds_toArray, List.set_cons_zero, List.set_cons_succ]
      obtain ⟨gz, hgz⟩ : ∃ g, v2.heap.size = g := ⟨_, rfl⟩
      refine wpAnyH_ready (rs := [5, 9]) (by kernel_rfl) (by simp) ?_
      refine AllReadyH.cons rfl (fun K hK => ?_) (AllReadyH.cons rfl (fun K hK => ?_) AllReadyH.nil)
      · clear hgz
        go_simp
        go_at_call 18
        refine (HRN _ gb A3 c3 (HU _ hHeld).1.2 Hgb.out.now HSS.out.now).mono ?_
        rintro e v3 ⟨A0, a0, c0, A1, a1, c1, lb, lc, rfl, hlb, hb⟩
        replace HSS := hide (HSS.out.step hb)
        replace Hgb := hide (Hgb.out.step hb)
        replace hHeld := Below.step hHeld hb
        have HLB := hide (stay_at hlb)
        clear hlb
        clear hb
        simp only []
        refine hK.out _ _ hHeld (fun hHeld => ?_)
        clear hK K
        try simp only [Act.put, List.setIfInBounds_toArray, List.set_cons_zero, List.set_cons_succ]
        refine take_at (i := 6) 123 (v := .tuple #[.agg #[.slice A0 a0 c0, .slice A1 a1 c1, .slice (some ⟨lb, 0, none⟩) 1 lc], .int .i64 0]) rfl rfl (by kernel_rfl) (by kernel_rfl) (by kernel_rfl) (fun _ _ _ h => hP _ _ _ _ _ h) (Or.inl ⟨by rfl, by intro w_ hSw; go_simp⟩) (by assumption) ?_
        try simp only [Act.put, List.setIfInBounds_toArray, List.set_cons_zero, List.set_cons_succ]
        refine take_at (i := 7) 130 (v := .agg #[.slice A0 a0 c0, .slice A1 a1 c1, .slice (some ⟨lb, 0, none⟩) 1 lc]) rfl rfl (by kernel_rfl) (by kernel_rfl) (by kernel_rfl) (fun _ _ _ h => hP _ _ _ _ _ h) (Or.inl ⟨by rfl, by intro w_ hSw; go_simp⟩) (by assumption) ?_
        try simp only [Act.put, List.setIfInBounds_toArray, List.set_cons_zero, List.set_cons_succ]
        refine take_at (i := 8) 131 (v := .int .i64 0) rfl rfl (by kernel_rfl) (by kernel_rfl) (by kernel_rfl) (fun _ _ _ h => hP _ _ _ _ _ h) (Or.inl ⟨by rfl, by intro w_ hSw; go_simp⟩) (by assumption) ?_
        try simp only [Act.put, List.setIfInBounds_toArray, List.set_cons_zero, List.set_cons_succ]
        obtain ⟨gz, hgz⟩ : ∃ g, v3.heap.size = g := ⟨_, rfl⟩
        refine wpAnyH_ready (rs := [9]) (by kernel_rfl) (by simp) ?_
        refine AllReadyH.cons rfl (fun K hK => ?_) AllReadyH.nil
        go_simp
        have hb := (Below.refl v3.heap.size v3).alloc (Nat.le_refl _) (.cells #[.slice none 0 0, .slice none 0 0, .slice none 0 0] 58)
        replace HSS := hide (HSS.out.step hb)
        replace Hgb := hide (Hgb.out.step hb)
        replace HLB := hide (HLB.out.step hb)
        have gzge := Nat.le_trans hHeld.size (Nat.le_of_eq hgz)
        replace hHeld := Below.step hHeld hb
        have Hgz := hide (stay_blk (Blk.newN v3 58 #[.slice none 0 0, .slice none 0 0, .slice none 0 0] hgz))
        obtain ⟨v4, hwn⟩ : ∃ w9, v3.alloc (.cells #[.slice none 0 0, .slice none 0 0, .slice none 0 0] 58) = w9 := ⟨_, rfl⟩
        rw [hwn] at hHeld HSS Hgb HLB Hgz ⊢
        clear hb hwn hgz
        refine hK.out _ _ hHeld (fun hHeld => ?_)
        clear hK K
        try simp only [Act.put, List.setIfInBounds_toArray, List.set_cons_zero, List.set_cons_succ]
        refine wpAnyH_ready (rs := [10]) (by kernel_rfl) (by simp) ?_
        refine AllReadyH.cons rfl (fun K hK => ?_) AllReadyH.nil
        refine step_store_rowF rfl 58 _ _ rfl gz #[.slice A0 a0 c0, .slice A1 a1 c1, .slice (some ⟨lb, 0, none⟩) 1 lc] rfl rfl 58 #[.slice none 0 0, .slice none 0 0, .slice none 0 0] Hgz.out.now (by kernel_rfl) rfl (by simp [Value.oneCell']) ?_
        have hne : lb ≠ gz := by intro e; have h1 := HLB.out.now; rw [e, Hgz.out.now.cell 0] at h1; simp at h1
        have HLE := hide (show (v4.setRow gz #[.slice A0 a0 c0, .slice A1 a1 c1, .slice (some ⟨lb, 0, none⟩) 1 lc]).cell? ⟨lb, 0, none⟩ = some (.int .i64 Z) from by rw [← HLB.out.now]; unfold World.cell?; rw [setRow_other v4 gz lb #[.slice A0 a0 c0, .slice A1 a1 c1, .slice (some ⟨lb, 0, none⟩) 1 lc] hne])
        replace hHeld := Below.row (g := gz) hHeld gzge #[.slice A0 a0 c0, .slice A1 a1 c1, .slice (some ⟨lb, 0, none⟩) 1 lc]
        have HSgz := hide (Hgz.out.now.row #[.slice A0 a0 c0, .slice A1 a1 c1, .slice (some ⟨lb, 0, none⟩) 1 lc])
        obtain ⟨v5, hwn⟩ : ∃ w9, v4.setRow gz #[.slice A0 a0 c0, .slice A1 a1 c1, .slice (some ⟨lb, 0, none⟩) 1 lc] = w9 := ⟨_, rfl⟩
        rw [hwn] at hHeld HSgz HLE ⊢
        clear hwn HSS Hgb HLB Hgz
        refine hK.out _ _ hHeld (fun hHeld => ?_)
        clear hK K
        try simp only [Act.put, List.setIfInBounds_toArray]
        refine take_at (i := 11) 16 (v := .int .i64 0) rfl rfl (by kernel_rfl) (by kernel_rfl) (by kernel_rfl) (fun _ _ _ h => hP _ _ _ _ _ h) (Or.inl ⟨by rfl, by intro w_ hSw; go_simp⟩) (by assumption) ?_
        try simp only [Act.put]
        refine wpAnyH_done (by kernel_rfl) ?_ _
        exact hQ gz gb A3 c3 A0 a0 c0 A1 a1 c1 lb lc v5 HSgz.out HLE.out hHeld
      · go_simp
        have hb := (Below.refl v2.heap.size v2).alloc (Nat.le_refl _) (.cells #[.slice none 0 0, .slice none 0 0, .slice none 0 0] 58)
        replace HSS := hide (HSS.out.step hb)
        replace Hgb := hide (Hgb.out.step hb)
        have gzge := Nat.le_trans hHeld.size (Nat.le_of_eq hgz)
        replace hHeld := Below.step hHeld hb
        have Hgz := hide (stay_blk (Blk.newN v2 58 #[.slice none 0 0, .slice none 0 0, .slice none 0 0] hgz))
        obtain ⟨v3, hwn⟩ : ∃ w9, v2.alloc (.cells #[.slice none 0 0, .slice none 0 0, .slice none 0 0] 58) = w9 := ⟨_, rfl⟩
        rw [hwn] at hHeld HSS Hgb Hgz ⊢
        clear hb hwn hgz
        refine hK.out _ _ hHeld (fun hHeld => ?_)
        clear hK K
        try simp only [Act.put, List.setIfInBounds_toArray, List.set_cons_zero, List.set_cons_succ]
        refine wpAnyH_ready (rs := [5]) (by kernel_rfl) (by simp) ?_
        refine AllReadyH.cons rfl (fun K hK => ?_) AllReadyH.nil
        go_simp
        go_at_call 18
        refine (HRN _ gb A3 c3 (HU _ hHeld).1.2 Hgb.out.now HSS.out.now).mono ?_
        rintro e v4 ⟨A0, a0, c0, A1, a1, c1, lb, lc, rfl, hlb, hb⟩
        replace HSS := hide (HSS.out.step hb)
        replace Hgb := hide (Hgb.out.step hb)
        replace Hgz := hide (Hgz.out.step hb)
        replace hHeld := Below.step hHeld hb
        have HLB := hide (stay_at hlb)
        clear hlb
        clear hb
        simp only []
        refine hK.out _ _ hHeld (fun hHeld => ?_)
        clear hK K
        try simp only [Act.put, List.setIfInBounds_toArray, List.set_cons_zero, List.set_cons_succ]
        refine take_at (i := 6) 123 (v := .tuple #[.agg #[.slice A0 a0 c0, .slice A1 a1 c1, .slice (some ⟨lb, 0, none⟩) 1 lc], .int .i64 0]) rfl rfl (by kernel_rfl) (by kernel_rfl) (by kernel_rfl) (fun _ _ _ h => hP _ _ _ _ _ h) (Or.inl ⟨by rfl, by intro w_ hSw; go_simp⟩) (by assumption) ?_
        try simp only [Act.put, List.setIfInBounds_toArray, List.set_cons_zero, List.set_cons_succ]
        refine take_at (i := 7) 130 (v := .agg #[.slice A0 a0 c0, .slice A1 a1 c1, .slice (some ⟨lb, 0, none⟩) 1 lc]) rfl rfl (by kernel_rfl) (by kernel_rfl) (by kernel_rfl) (fun _ _ _ h => hP _ _ _ _ _ h) (Or.inl ⟨by rfl, by intro w_ hSw; go_simp⟩) (by assumption) ?_
        try simp only [Act.put, List.setIfInBounds_toArray, List.set_cons_zero, List.set_cons_succ]
        refine take_at (i := 8) 131 (v := .int .i64 0) rfl rfl (by kernel_rfl) (by kernel_rfl) (by kernel_rfl) (fun _ _ _ h => hP _ _ _ _ _ h) (Or.inl ⟨by rfl, by intro w_ hSw; go_simp⟩) (by assumption) ?_
        try simp only [Act.put, List.setIfInBounds_toArray, List.set_cons_zero, List.set_cons_succ]
        refine wpAnyH_ready (rs := [10]) (by kernel_rfl) (by simp) ?_
        refine AllReadyH.cons rfl (fun K hK => ?_) AllReadyH.nil
        refine step_store_rowF rfl 58 _ _ rfl gz #[.slice A0 a0 c0, .slice A1 a1 c1, .slice (some ⟨lb, 0, none⟩) 1 lc] rfl rfl 58 #[.slice none 0 0, .slice none 0 0, .slice none 0 0] Hgz.out.now (by kernel_rfl) rfl (by simp [Value.oneCell']) ?_
        have hne : lb ≠ gz := by intro e; have h1 := HLB.out.now; rw [e, Hgz.out.now.cell 0] at h1; simp at h1
        have HLE := hide (show (v4.setRow gz #[.slice A0 a0 c0, .slice A1 a1 c1, .slice (some ⟨lb, 0, none⟩) 1 lc]).cell? ⟨lb, 0, none⟩ = some (.int .i64 Z) from by rw [← HLB.out.now]; unfold World.cell?; rw [setRow_other v4 gz lb #[.slice A0 a0 c0, .slice A1 a1 c1, .slice (some ⟨lb, 0, none⟩) 1 lc] hne])
        replace hHeld := Below.row (g := gz) hHeld gzge #[.slice A0 a0 c0, .slice A1 a1 c1, .slice (some ⟨lb, 0, none⟩) 1 lc]
        have HSgz := hide (Hgz.out.now.row #[.slice A0 a0 c0, .slice A1 a1 c1, .slice (some ⟨lb, 0, none⟩) 1 lc])
        obtain ⟨v5, hwn⟩ : ∃ w9, v4.setRow gz #[.slice A0 a0 c0, .slice A1 a1 c1, .slice (some ⟨lb, 0, none⟩) 1 lc] = w9 := ⟨_, rfl⟩
        rw [hwn] at hHeld HSgz HLE ⊢
        clear hwn HSS Hgb Hgz HLB
        refine hK.out _ _ hHeld (fun hHeld => ?_)
        clear hK K
        try simp only [Act.put, List.setIfInBounds_toArray]
        refine take_at (i := 11) 16 (v := .int .i64 0) rfl rfl (by kernel_rfl) (by kernel_rfl) (by kernel_rfl) (fun _ _ _ h => hP _ _ _ _ _ h) (Or.inl ⟨by rfl, by intro w_ hSw; go_simp⟩) (by assumption) ?_
        try simp only [Act.put]
        refine wpAnyH_done (by kernel_rfl) ?_ _
        exact hQ gz gb A3 c3 A0 a0 c0 A1 a1 c1 lb lc v5 HSgz.out HLE.out hHeld
    · clear hgb
      go_simp
      have hb := (Below.refl v1.heap.size v1).alloc (Nat.le_refl _) (.cells #[.slice none 0 0, .slice none 0 0, .slice none 0 0] 58)
      replace HSS := hide (HSS.out.step hb)
      have gzge := Nat.le_trans hHeld.size (Nat.le_of_eq hgz)
      replace hHeld := Below.step hHeld hb
      have Hgz := hide (stay_blk (Blk.newN v1 58 #[.slice none 0 0, .slice none 0 0, .slice none 0 0] hgz))
      obtain ⟨v2, hwn⟩ : ∃ w9, v1.alloc (.cells #[.slice none 0 0, .slice none 0 0, .slice none 0 0] 58) = w9 := ⟨_, rfl⟩
      rw [hwn] at hHeld HSS Hgz ⊢
      clear hb hwn hgz
      refine hK.out _ _ hHeld (fun hHeld => ?_)
      clear hK K
      try simp only [Act.put, List.setIfInBounds_toArray, List.set_cons_zero, List.set_cons_succ]
      obtain ⟨gb, hgb⟩ : ∃ g, v2.heap.size = g := ⟨_, rfl⟩
      refine wpAnyH_ready (rs := [2]) (by kernel_rfl) (by simp) ?_
      refine AllReadyH.cons rfl (fun K hK => ?_) AllReadyH.nil
      go_simp
      have hb := (Below.refl v2.heap.size v2).alloc (Nat.le_refl _) (.cells #[strV nm, .int .i64 kd, .int .i64 pr, .int .i64 wt, .int .i64 pw, .int .i64 le, .int .i64 bu, .int .i64 ra, .int .i64 de] 32)
      replace HSS := hide (HSS.out.step hb)
      replace Hgz := hide (Hgz.out.step hb)
      have gbge := Nat.le_trans hHeld.size (Nat.le_of_eq hgb)
      replace hHeld := Below.step hHeld hb
      have Hgb := hide (stay_blk (Blk.newN v2 32 #[strV nm, .int .i64 kd, .int .i64 pr, .int .i64 wt, .int .i64 pw, .int .i64 le, .int .i64 bu, .int .i64 ra, .int .i64 de] hgb))
      obtain ⟨v3, hwn⟩ : ∃ w9, v2.alloc (.cells #[strV nm, .int .i64 kd, .int .i64 pr, .int .i64 wt, .int .i64 pw, .int .i64 le, .int .i64 bu, .int .i64 ra, .int .i64 de] 32) = w9 := ⟨_, rfl⟩
      rw [hwn] at hHeld HSS Hgz Hgb ⊢
      clear hb hwn hgb
      refine hK.out _ _ hHeld (fun hHeld => ?_)
      clear hK K
      try simp only [Act.put, List.setIfInBounds_toArray, List.set_cons_zero, List.set_cons_succ]
      refine wpAnyH_ready (rs := [5]) (by kernel_rfl) (by simp) ?_
      refine AllReadyH.cons rfl (fun K hK => ?_) AllReadyH.nil
      go_simp
      go_at_call 18
      refine (HRN _ gb A3 c3 (HU _ hHeld).1.2 Hgb.out.now HSS.out.now).mono ?_
      rintro e v4 ⟨A0, a0, c0, A1, a1, c1, lb, lc, rfl, hlb, hb⟩
      replace HSS := hide (HSS.out.step hb)
      replace Hgz := hide (Hgz.out.step hb)
      replace Hgb := hide (Hgb.out.step hb)
      replace hHeld := Below.step hHeld hb
      have HLB := hide (stay_at hlb)
      clear hlb
      clear hb
      simp only []
      refine hK.out _ _ hHeld (fun hHeld => ?_)
      clear hK K
      try simp only [Act.put, List.setIfInBounds_toArray, List.set_cons_zero, List.set_cons_succ]
      refine take_at (i := 6) 123 (v := .tuple #[.agg #[.slice A0 a0 c0, .slice A1 a1 c1, .slice (some ⟨lb, 0, none⟩) 1 lc], .int .i64 0]) rfl rfl (by kernel_rfl) (by kernel_rfl) (by kernel_rfl) (fun _ _ _ h => hP _ _ _ _ _ h) (Or.inl ⟨by rfl, by intro w_ hSw; go_simp⟩) (by assumption) ?_
      try simp only [Act.put, List.setIfInBounds_toArray, List.set_cons_zero, List.set_cons_succ]
      refine take_at (i := 7) 130 (v := .agg #[.slice A0 a0 c0, .slice A1 a1 c1, .slice (some ⟨lb, 0, none⟩) 1 lc]) rfl rfl (by kernel_rfl) (by kernel_rfl) (by kernel_rfl) (fun _ _ _ h => hP _ _ _ _ _ h) (Or.inl ⟨by rfl, by intro w_ hSw; go_simp⟩) (by assumption) ?_
      try simp only [Act.put, List.setIfInBounds_toArray, List.set_cons_zero, List.set_cons_succ]
      refine take_at (i := 8) 131 (v := .int .i64 0) rfl rfl (by kernel_rfl) (by kernel_rfl) (by kernel_rfl) (fun _ _ _ h => hP _ _ _ _ _ h) (Or.inl ⟨by rfl, by intro w_ hSw; go_simp⟩) (by assumption) ?_
      try simp only [Act.put, List.setIfInBounds_toArray, List.set_cons_zero, List.set_cons_succ]
      refine wpAnyH_ready (rs := [10]) (by kernel_rfl) (by simp) ?_
      refine AllReadyH.cons rfl (fun K hK => ?_) AllReadyH.nil
      refine step_store_rowF rfl 58 _ _ rfl gz #[.slice A0 a0 c0, .slice A1 a1 c1, .slice (some ⟨lb, 0, none⟩) 1 lc] rfl rfl 58 #[.slice none 0 0, .slice none 0 0, .slice none 0 0] Hgz.out.now (by kernel_rfl) rfl (by simp [Value.oneCell']) ?_
      have hne : lb ≠ gz := by intro e; have h1 := HLB.out.now; rw [e, Hgz.out.now.cell 0] at h1; simp at h1
      have HLE := hide (show (v4.setRow gz #[.slice A0 a0 c0, .slice A1 a1 c1, .slice (some ⟨lb, 0, none⟩) 1 lc]).cell? ⟨lb, 0, none⟩ = some (.int .i64 Z) from by rw [← HLB.out.now]; unfold World.cell?; rw [setRow_other v4 gz lb #[.slice A0 a0 c0, .slice A1 a1 c1, .slice (some ⟨lb, 0, none⟩) 1 lc] hne])
      replace hHeld := Below.row (g := gz) hHeld gzge #[.slice A0 a0 c0, .slice A1 a1 c1, .slice (some ⟨lb, 0, none⟩) 1 lc]
      have HSgz := hide (Hgz.out.now.row #[.slice A0 a0 c0, .slice A1 a1 c1, .slice (some ⟨lb, 0, none⟩) 1 lc])
      obtain ⟨v5, hwn⟩ : ∃ w9, v4.setRow gz #[.slice A0 a0 c0, .slice A1 a1 c1, .slice (some ⟨lb, 0, none⟩) 1 lc] = w9 := ⟨_, rfl⟩
      rw [hwn] at hHeld HSgz HLE ⊢
      clear hwn HSS Hgz Hgb HLB
      refine hK.out _ _ hHeld (fun hHeld => ?_)
      clear hK K
      try simp only [Act.put, List.setIfInBounds_toArray]
      refine take_at (i := 11) 16 (v := .int .i64 0) rfl rfl (by kernel_rfl) (by kernel_rfl) (by kernel_rfl) (fun _ _ _ h => hP _ _ _ _ _ h) (Or.inl ⟨by rfl, by intro w_ hSw; go_simp⟩) (by assumption) ?_
      try simp only [Act.put]
      refine wpAnyH_done (by kernel_rfl) ?_ _
      exact hQ gz gb A3 c3 A0 a0 c0 A1 a1 c1 lb lc v5 HSgz.out HLE.out hHeld
  · clear hgb
    go_simp
    have hb := (Below.refl v0.heap.size v0).alloc (Nat.le_refl _) (.cells #[.slice none 0 0, .slice none 0 0, .slice none 0 0] 58)
    have gzge := Nat.le_trans hHeld.size (Nat.le_of_eq hgz)
    replace hHeld := Below.step hHeld hb
    have Hgz := hide (stay_blk (Blk.newN v0 58 #[.slice none 0 0, .slice none 0 0, .slice none 0 0] hgz))
    obtain ⟨v1, hwn⟩ : ∃ w9, v0.alloc (.cells #[.slice none 0 0, .slice none 0 0, .slice none 0 0] 58) = w9 := ⟨_, rfl⟩
    rw [hwn] at hHeld Hgz ⊢
    clear hb hwn hgz
    refine hK.out _ _ hHeld (fun hHeld => ?_)
    clear hK K
    try simp only [Act.put, List.setIfInBounds_toArray, List.set_cons_zero, List.set_cons_succ]
    obtain ⟨gb, hgb⟩ : ∃ g, v1.heap.size = g := ⟨_, rfl⟩
    refine wpAnyH_ready (rs := [2, 4]) (by kernel_rfl) (by simp) ?_
    refine AllReadyH.cons rfl (fun K hK => ?_) (AllReadyH.cons rfl (fun K hK => ?_) AllReadyH.nil)
    · go_simp
      have hb := (Below.refl v1.heap.size v1).alloc (Nat.le_refl _) (.cells #[strV nm, .int .i64 kd, .int .i64 pr, .int .i64 wt, .int .i64 pw, .int .i64 le, .int .i64 bu, .int .i64 ra, .int .i64 de] 32)
      replace Hgz := hide (Hgz.out.step hb)
      have gbge := Nat.le_trans hHeld.size (Nat.le_of_eq hgb)
      replace hHeld := Below.step hHeld hb
      have Hgb := hide (stay_blk (Blk.newN v1 32 #[strV nm, .int .i64 kd, .int .i64 pr, .int .i64 wt, .int .i64 pw, .int .i64 le, .int .i64 bu, .int .i64 ra, .int .i64 de] hgb))
      obtain ⟨v2, hwn⟩ : ∃ w9, v1.alloc (.cells #[strV nm, .int .i64 kd, .int .i64 pr, .int .i64 wt, .int .i64 pw, .int .i64 le, .int .i64 bu, .int .i64 ra, .int .i64 de] 32) = w9 := ⟨_, rfl⟩
      rw [hwn] at hHeld Hgz Hgb ⊢
      clear hb hwn hgb
      refine hK.out _ _ hHeld (fun hHeld => ?_)
      clear hK K
      try simp only [Act.put, List.setIfInBounds_toArray, List.set_cons_zero, List.set_cons_succ]
      refine wpAnyH_ready (rs := [4]) (by kernel_rfl) (by simp) ?_
      refine AllReadyH.cons rfl (fun K hK => ?_) AllReadyH.nil
      go_simp
      go_at_call 15
      refine (HCS _ (HU _ hHeld).2).mono ?_
      rintro e v3 ⟨A3, c3, rfl, hss, hb⟩
      replace Hgz := hide (Hgz.out.step hb)
      replace Hgb := hide (Hgb.out.step hb)
      replace hHeld := Below.step hHeld hb
      have HSS := hide (stay_slots hss)
      clear hss
      clear hb
      simp only []
      refine hK.out _ _ hHeld (fun hHeld => ?_)
      clear hK K
      try simp only [Act.put, List.setIfInBounds_toArray, List.set_cons_zero, List.set_cons_succ]
      refine wpAnyH_ready (rs := [5]) (by kernel_rfl) (by simp) ?_
      refine AllReadyH.cons rfl (fun K hK => ?_) AllReadyH.nil
      go_simp
      go_at_call 18
      refine (HRN _ gb A3 c3 (HU _ hHeld).1.2 Hgb.out.now HSS.out.now).mono ?_
      rintro e v4 ⟨A0, a0, c0, A1, a1, c1, lb, lc, rfl, hlb, hb⟩
      replace Hgz := hide (Hgz.out.step hb)
      replace Hgb := hide (Hgb.out.step hb)
      replace HSS := hide (HSS.out.step hb)
      replace hHeld := Below.step hHeld hb
      have HLB := hide (stay_at hlb)
      clear hlb
      clear hb
      simp only []
      refine hK.out _ _ hHeld (fun hHeld => ?_)
      clear hK K
      try simp only [Act.put, List.setIfInBounds_toArray, List.set_cons_zero, List.set_cons_succ]
      refine take_at (i := 6) 123 (v := .tuple #[.agg #[.slice A0 a0 c0, .slice A1 a1 c1, .slice (some ⟨lb, 0, none⟩) 1 lc], .int .i64 0]) rfl rfl (by kernel_rfl) (by kernel_rfl) (by kernel_rfl) (fun _ _ _ h => hP _ _ _ _ _ h) (Or.inl ⟨by rfl, by intro w_ hSw; go_simp⟩) (by assumption) ?_
      try simp only [Act.put, List.setIfInBounds_toArray, List.set_cons_zero, List.set_cons_succ]
      refine take_at (i := 7) 130 (v := .agg #[.slice A0 a0 c0, .slice A1 a1 c1, .slice (some ⟨lb, 0, none⟩) 1 lc]) rfl rfl (by kernel_rfl) (by kernel_rfl) (by kernel_rfl) (fun _ _ _ h => hP _ _ _ _ _ h) (Or.inl ⟨by rfl, by intro w_ hSw; go_simp⟩) (by assumption) ?_
      try simp only [Act.put, List.setIfInBounds_toArray, List.set_cons_zero, List.set_cons_succ]
      refine take_at (i := 8) 131 (v := .int .i64 0) rfl rfl (by kernel_rfl) (by kernel_rfl) (by kernel_rfl) (fun _ _ _ h => hP _ _ _ _ _ h) (Or.inl ⟨by rfl, by intro w_ hSw; go_simp⟩) (by assumption) ?_
      try simp only [Act.put, List.setIfInBounds_toArray, List.set_cons_zero, List.set_cons_succ]
      refine wpAnyH_ready (rs := [10]) (by kernel_rfl) (by simp) ?_
      refine AllReadyH.cons rfl (fun K hK => ?_) AllReadyH.nil
      refine step_store_rowF rfl 58 _ _ rfl gz #[.slice A0 a0 c0, .slice A1 a1 c1, .slice (some ⟨lb, 0, none⟩) 1 lc] rfl rfl 58 #[.slice none 0 0, .slice none 0 0, .slice none 0 0] Hgz.out.now (by kernel_rfl) rfl (by simp [Value.oneCell']) ?_
      have hne : lb ≠ gz := by intro e; have h1 := HLB.out.now; rw [e, Hgz.out.now.cell 0] at h1; simp at h1
      have HLE := hide (show (v4.setRow gz #[.slice A0 a0 c0, .slice A1 a1 c1, .slice (some ⟨lb, 0, none⟩) 1 lc]).cell? ⟨lb, 0, none⟩ = some (.int .i64 Z) from by rw [← HLB.out.now]; unfold World.cell?; rw [setRow_other v4 gz lb #[.slice A0 a0 c0, .slice A1 a1 c1, .slice (some ⟨lb, 0, none⟩) 1 lc] hne])
      replace hHeld := Below.row (g := gz) hHeld gzge #[.slice A0 a0 c0, .slice A1 a1 c1, .slice (some ⟨lb, 0, none⟩) 1 lc]
      have HSgz := hide (Hgz.out.now.row #[.slice A0 a0 c0, .slice A1 a1 c1, .slice (some ⟨lb, 0, none⟩) 1 lc])
      obtain ⟨v5, hwn⟩ : ∃ w9, v4.setRow gz #[.slice A0 a0 c0, .slice A1 a1 c1, .slice (some ⟨lb, 0, none⟩) 1 lc] = w9 := ⟨_, rfl⟩
      rw [hwn] at hHeld HSgz HLE ⊢
      clear hwn Hgz Hgb HSS HLB
      refine hK.out _ _ hHeld (fun hHeld => ?_)
      clear hK K
      try simp only [Act.put, List.setIfInBounds_toArray]
      refine take_at (i := 11) 16 (v := .int .i64 0) rfl rfl (by kernel_rfl) (by kernel_rfl) (by kernel_rfl) (fun _ _ _ h => hP _ _ _ _ _ h) (Or.inl ⟨by rfl, by intro w_ hSw; go_simp⟩) (by assumption) ?_
      try simp only [Act.put]
      refine wpAnyH_done (by kernel_rfl) ?_ _
      exact hQ gz gb A3 c3 A0 a0 c0 A1 a1 c1 lb lc v5 HSgz.out HLE.out hHeld
    · clear hgb
      go_simp
      go_at_call 15
      refine (HCS _ (HU _ hHeld).2).mono ?_
      rintro e v2 ⟨A3, c3, rfl, hss, hb⟩
      replace Hgz := hide (Hgz.out.step hb)
      replace hHeld := Below.step hHeld hb
      have HSS := hide (stay_slots hss)
      clear hss
      clear hb
      simp only []
      refine hK.out _ _ hHeld (fun hHeld => ?_)
      clear hK K
      try simp only [Act.put, List.setIfInBounds_toArray, List.set_cons_zero, List.set_cons_succ]
      obtain ⟨gb, hgb⟩ : ∃ g, v2.heap.size = g := ⟨_, rfl⟩
      refine wpAnyH_ready (rs := [2]) (by kernel_rfl) (by simp) ?_
      refine AllReadyH.cons rfl (fun K hK => ?_) AllReadyH.nil
      go_simp
      have hb := (Below.refl v2.heap.size v2).alloc (Nat.le_refl _) (.cells #[strV nm, .int .i64 kd, .int .i64 pr, .int .i64 wt, .int .i64 pw, .int .i64 le, .int .i64 bu, .int .i64 ra, .int .i64 de] 32)
      replace Hgz := hide (Hgz.out.step hb)
      replace HSS := hide (HSS.out.step hb)
      have gbge := Nat.le_trans hHeld.size (Nat.le_of_eq hgb)
      replace hHeld := Below.step hHeld hb
      have Hgb := hide (stay_blk (Blk.newN v2 32 #[strV nm, .int .i64 kd, .int .i64 pr, .int .i64 wt, .int .i64 pw, .int .i64 le, .int .i64 bu, .int .i64 ra, .int .i64 de] hgb))
      obtain ⟨v3, hwn⟩ : ∃ w9, v2.alloc (.cells #[strV nm, .int .i64 kd, .int .i64 pr, .int .i64 wt, .int .i64 pw, .int .i64 le, .int .i64 bu, .int .i64 ra, .int .i64 de] 32) = w9 := ⟨_, rfl⟩
      rw [hwn] at hHeld Hgz HSS Hgb ⊢
      clear hb hwn hgb
      refine hK.out _ _ hHeld (fun hHeld => ?_)
      clear hK K
      try simp only [Act.put, List.setIfInBounds_toArray, List.set_cons_zero, List.set_cons_succ]
      refine wpAnyH_ready (rs := [5]) (by kernel_rfl) (by simp) ?_
      refine AllReadyH.cons rfl (fun K hK => ?_) AllReadyH.nil
      go_simp
      go_at_call 18
      refine (HRN _ gb A3 c3 (HU _ hHeld).1.2 Hgb.out.now HSS.out.now).mono ?_
      rintro e v4 ⟨A0, a0, c0, A1, a1, c1, lb, lc, rfl, hlb, hb⟩
      replace Hgz := hide (Hgz.out.step hb)
      replace HSS := hide (HSS.out.step hb)
      replace Hgb := hide (Hgb.out.step hb)
      replace hHeld := Below.step hHeld hb
      have HLB := hide (stay_at hlb)
      clear hlb
      clear hb
      simp only []
      refine hK.out _ _ hHeld (fun hHeld => ?_)
      clear hK K
      try simp only [Act.put, List.setIfInBounds_toArray, List.set_cons_zero, List.set_cons_succ]
      refine take_at (i := 6) 123 (v := .tuple #[.agg #[.slice A0 a0 c0, .slice A1 a1 c1, .slice (some ⟨lb, 0, none⟩) 1 lc], .int .i64 0]) rfl rfl (by kernel_rfl) (by kernel_rfl) (by kernel_rfl) (fun _ _ _ h => hP _ _ _ _ _ h) (Or.inl ⟨by rfl, by intro w_ hSw; go_simp⟩) (by assumption) ?_
      try simp only [Act.put, List.setIfInBounds_toArray, List.set_cons_zero, List.set_cons_succ]
      refine take_at (i := 7) 130 (v := .agg #[.slice A0 a0 c0, .slice A1 a1 c1, .slice (some ⟨lb, 0, none⟩) 1 lc]) rfl rfl (by kernel_rfl) (by kernel_rfl) (by kernel_rfl) (fun _ _ _ h => hP _ _ _ _ _ h) (Or.inl ⟨by rfl, by intro w_ hSw; go_simp⟩) (by assumption) ?_
      try simp only [Act.put, List.setIfInBounds_toArray, List.set_cons_zero, List.set_cons_succ]
      refine take_at (i := 8) 131 (v := .int .i64 0) rfl rfl (by kernel_rfl) (by kernel_rfl) (by kernel_rfl) (fun _ _ _ h => hP _ _ _ _ _ h) (Or.inl ⟨by rfl, by intro w_ hSw; go_simp⟩) (by assumption) ?_
      try simp only [Act.put, List.setIfInBounds_toArray, List.set_cons_zero, List.set_cons_succ]
      refine wpAnyH_ready (rs := [10]) (by kernel_rfl) (by simp) ?_
      refine AllReadyH.cons rfl (fun K hK => ?_) AllReadyH.nil
      refine step_store_rowF rfl 58 _ _ rfl gz #[.slice A0 a0 c0, .slice A1 a1 c1, .slice (some ⟨lb, 0, none⟩) 1 lc] rfl rfl 58 #[.slice none 0 0, .slice none 0 0, .slice none 0 0] Hgz.out.now (by kernel_rfl) rfl (by simp [Value.oneCell']) ?_
      have hne : lb ≠ gz := by intro e; have h1 := HLB.out.now; rw [e, Hgz.out.now.cell 0] at h1; simp at h1
      have HLE := hide (show (v4.setRow gz #[.slice A0 a0 c0, .slice A1 a1 c1, .slice (some ⟨lb, 0, none⟩) 1 lc]).cell? ⟨lb, 0, none⟩ = some (.int .i64 Z) from by rw [← HLB.out.now]; unfold World.cell?; rw [setRow_other v4 gz lb #[.slice A0 a0 c0, .slice A1 a1 c1, .slice (some ⟨lb, 0, none⟩) 1 lc] hne])
      replace hHeld := Below.row (g := gz) hHeld gzge #[.slice A0 a0 c0, .slice A1 a1 c1, .slice (some ⟨lb, 0, none⟩) 1 lc]
      have HSgz := hide (Hgz.out.now.row #[.slice A0 a0 c0, .slice A1 a1 c1, .slice (some ⟨lb, 0, none⟩) 1 lc])
      obtain ⟨v5, hwn⟩ : ∃ w9, v4.setRow gz #[.slice A0 a0 c0, .slice A1 a1 c1, .slice (some ⟨lb, 0, none⟩) 1 lc] = w9 := ⟨_, rfl⟩
      rw [hwn] at hHeld HSgz HLE ⊢
      clear hwn Hgz HSS Hgb HLB
      refine hK.out _ _ hHeld (fun hHeld => ?_)
      clear hK K
      try simp only [Act.put, List.setIfInBounds_toArray]
      refine take_at (i := 11) 16 (v := .int .i64 0) rfl rfl (by kernel_rfl) (by kernel_rfl) (by kernel_rfl) (fun _ _ _ h => hP _ _ _ _ _ h) (Or.inl ⟨by rfl, by intro w_ hSw; go_simp⟩) (by assumption) ?_
      try simp only [Act.put]
      refine wpAnyH_done (by kernel_rfl) ?_ _
      exact hQ gz gb A3 c3 A0 a0 c0 A1 a1 c1 lb lc v5 HSgz.out HLE.out hHeld
set_option maxRecDepth 100000 in
set_option maxHeartbeats 16000000 in
theorem r25 (Q : Exit → Act → World → Prop) (hP : ∀ c a d v w, Q (.panic c) (Act.put a d v) w → Q (.panic c) a w) (NB C P : Int) (A2 : Option Addr) (n c2 : Nat) (T : List Int) (nm : Bs) (kd pr wt pw le bu ra de : Int) (g11 gB G t c' k : Nat) (Z : Int) (ar : Nat → Int) (wr : World) (x0 x1 x2 x4 x5 x6 x7 x8 x10 x13 x14 x15 x16 x17 x18 x19 x20 x21 x22 x23 x24 x25 x26 x27 x28 x29 x30 x31 x32 x33 x34 x35 x36 x37 x38 x39 x40 x41 x42 x43 x44 x45 x46 x47 x48 x49 x50 x51 x52 x53 x54 x55 x56 x57 x58 x59 x60 x61 x62 x63 x64 x65 x66 x67 x68 x69 x70 x71 x72 x73 x74 x75 x76 x77 x78 x79 x80 x81 x82 x83 x84 x85 x86 x87 x88 x89 x90 x91 x92 x93 x94 x95 x96 x97 x98 x99 x100 x101 x102 x103 x104 x105 x106 x107 x108 x109 x110 x111 x112 x113 x114 x115 x116 x117 x118 x119 x120 x121 x122 x123 x124 x125 x126 x127 x128 x129 x130 x131 x132 x133 x134 x135 x136 x137 x138 x139 x140 x141 x142 x143 x144 x145 x146 x147 x148 x149 x150 x151 x152 x153 x154 x155 x156 x157 x158 x159 x160 x161 x162 x163 x164 x165 x166 x167 x168 x169 x170 x171 x172 x173 x174 x175 x176 x177 : Value)
    (HU : Stay wr (fun W => (((Blk W g11 24 #[.int .i64 NB, .int .i64 C, .int .i64 P, .slice A2 n c2] ∧ Blk W gB 32 #[strV nm, .int .i64 kd, .int .i64 pr, .int .i64 wt, .int .i64 pw, .int .i64 le, .int .i64 bu, .int .i64 ra, .int .i64 de]) ∧ Sl W A2 (iv T)) ∧ SlotsAt W (some ⟨G, 0, none⟩) k le ar)))
    (HCS : ∀ W, SlotsAt W (some ⟨G, 0, none⟩) k le ar → Calls Try.prog 15 #[.slice (some ⟨G, 0, none⟩) k c'] W (CopySlotsR k le ar W))
    (HRN : ∀ W gb A3 c3, Sl W A2 (iv T) → Blk W gb 32 #[strV nm, .int .i64 kd, .int .i64 pr, .int .i64 wt, .int .i64 pw, .int .i64 le, .int .i64 bu, .int .i64 ra, .int .i64 de] → SlotsAt W A3 k le ar → Calls Try.prog 18 #[.agg #[.int .i64 NB, .int .i64 C, .int .i64 P, .slice A2 n c2], .slice (some ⟨gb, 0, none⟩) 1 1, .slice A3 k c3] W (RunR Z W))
    (hw1 : Hid (IntKind.i64.wrap ((t : Int) - 1) = (k : Int))) (hsf : Hid (∀ W, (Instr.sliceAt 42 (.slice (some ⟨G, 0, none⟩) t c') none (some (.int .i64 (k : Int))) none).run Try.prog W = .ok (.slice (some ⟨G, 0, none⟩) k c') W))
    (hQ : ∀ gz gb A3 c3 A0 a0 c0 A1 a1 c1 lb lc wx, Blk wx gz 58 #[.slice A0 a0 c0, .slice A1 a1 c1, .slice (some ⟨lb, 0, none⟩) 1 lc] → wx.cell? ⟨lb, 0, none⟩ = some (.int .i64 Z) → Below wr.heap.size wr wx → Q .normal ⟨#[x0, x1, x2, .pointer (some ⟨gB, 0, none⟩), x4, x5, x6, x7, x8, .int .i64 (t : Int), x10, .pointer (some ⟨g11, 0, none⟩), .slice (some ⟨G, 0, none⟩) t c', x13, x14, x15, x16, .pointer (some ⟨gz, 0, none⟩), .int .i64 0, x19, x20, x21, x22, x23, x24, x25, x26, x27, x28, x29, x30, x31, x32, x33, x34, x35, x36, x37, x38, x39, x40, x41, x42, x43, x44, x45, x46, x47, x48, x49, x50, x51, x52, x53, x54, x55, x56, x57, x58, x59, x60, x61, x62, x63, x64, x65, x66, x67, x68, x69, x70, x71, x72, x73, x74, x75, x76, x77, x78, x79, x80, x81, x82, x83, x84, x85, x86, x87, x88, x89, x90, x91, x92, x93, x94, x95, x96, x97, x98, x99, x100, x101, x102, x103, x104, x105, x106, x107, x108, x109, x110, x111, x112, x113, x114, x115, x116, x117, x118, x119, x120, x121, x122, x123, x124, x125, x126, x127, x128, x129, x130, x131, .tuple #[.agg #[.slice A0 a0 c0, .slice A1 a1 c1, .slice (some ⟨lb, 0, none⟩) 1 lc], .int .i64 0], .agg #[.int .i64 NB, .int .i64 C, .int .i64 P, .slice A2 n c2], .agg #[strV nm, .int .i64 kd, .int .i64 pr, .int .i64 wt, .int .i64 pw, .int .i64 le, .int .i64 bu, .int .i64 ra, .int .i64 de], .slice (some ⟨gb, 0, none⟩) 1 1, .slice (some ⟨G, 0, none⟩) t c', .int .i64 (t : Int), .int .i64 (k : Int), .slice (some ⟨G, 0, none⟩) k c', .slice A3 k c3, .tuple #[.agg #[.slice A0 a0 c0, .slice A1 a1 c1, .slice (some ⟨lb, 0, none⟩) 1 lc], .int .i64 0], .agg #[.slice A0 a0 c0, .slice A1 a1 c1, .slice (some ⟨lb, 0, none⟩) 1 lc], .int .i64 0, x144, x145, x146, x147, x148, x149, x150, x151, x152, x153, x154, x155, x156, x157, x158, x159, x160, x161, x162, x163, x164, x165, x166, x167, x168, x169, x170, x171, x172, x173, x174, x175, x176, x177], []⟩ wx) :
    (Code.region 25 (regOps Try.f4 25) true).wp Try.prog Q ⟨#[x0, x1, x2, .pointer (some ⟨gB, 0, none⟩), x4, x5, x6, x7, x8, .int .i64 (t : Int), x10, .pointer (some ⟨g11, 0, none⟩), .slice (some ⟨G, 0, none⟩) t c', x13, x14, x15, x16, x17, x18, x19, x20, x21, x22, x23, x24, x25, x26, x27, x28, x29, x30, x31, x32, x33, x34, x35, x36, x37, x38, x39, x40, x41, x42, x43, x44, x45, x46, x47, x48, x49, x50, x51, x52, x53, x54, x55, x56, x57, x58, x59, x60, x61, x62, x63, x64, x65, x66, x67, x68, x69, x70, x71, x72, x73, x74, x75, x76, x77, x78, x79, x80, x81, x82, x83, x84, x85, x86, x87, x88, x89, x90, x91, x92, x93, x94, x95, x96, x97, x98, x99, x100, x101, x102, x103, x104, x105, x106, x107, x108, x109, x110, x111, x112, x113, x114, x115, x116, x117, x118, x119, x120, x121, x122, x123, x124, x125, x126, x127, x128, x129, x130, x131, x132, x133, x134, x135, x136, x137, x138, x139, x140, x141, x142, x143, x144, x145, x146, x147, x148, x149, x150, x151, x152, x153, x154, x155, x156, x157, x158, x159, x160, x161, x162, x163, x164, x165, x166, x167, x168, x169, x170, x171, x172, x173, x174, x175, x176, x177], []⟩ wr := by
  obtain ⟨ops, hops⟩ : ∃ ops, ops = regOps Try.f4 25 := ⟨_, rfl⟩
  rw [← hops]
  simp [regOps, Try.f4, opsIn] at hops
  subst hops
  refine wp_region_held_drew (S := fun w_ => Below wr.heap.size wr w_) (by kernel_rfl) (below_drewN (Below.refl wr.heap.size wr) 1) (fun hHeld => ?_)
  obtain ⟨v0, hv0⟩ : ∃ v0, wr.drew = v0 := ⟨_, rfl⟩
  replace hHeld : Below wr.heap.size wr wr.drew := hHeld
  rw [hv0] at hHeld
  first | rw [hv0] | (change wpAnyH _ _ _ _ _ _ _ _ wr.drew; rw [hv0])
  clear hv0
  refine take_at (i := 0) 133 (v := .agg #[.int .i64 NB, .int .i64 C, .int .i64 P, .slice A2 n c2]) rfl rfl (by kernel_rfl) (by kernel_rfl) (by kernel_rfl) (fun _ _ _ h => hP _ _ _ _ _ h) (Or.inl ⟨by rfl, by intro w_ hSw; have d0 : w_.cell? ⟨g11, 0, none⟩ = some (.int .i64 NB) := (HU _ hSw).1.1.1.cell 0; have d1 : w_.cell? ⟨g11, 1, none⟩ = some (.int .i64 C) := (HU _ hSw).1.1.1.cell 1; have d2 : w_.cell? ⟨g11, 2, none⟩ = some (.int .i64 P) := (HU _ hSw).1.1.1.cell 2; have d3 : w_.cell? ⟨g11, 3, none⟩ = some (.slice A2 n c2) := (HU _ hSw).1.1.1.cell 3; go_simp⟩) (by assumption) ?_
  try simp only [Act.put, List.setIfInBounds_toArray, List.set_cons_zero, List.set_cons_succ]
  refine take_at (i := 1) 134 (v := .agg #[strV nm, .int .i64 kd, .int .i64 pr, .int .i64 wt, .int .i64 pw, .int .i64 le, .int .i64 bu, .int .i64 ra, .int .i64 de]) rfl rfl (by kernel_rfl) (by kernel_rfl) (by kernel_rfl) (fun _ _ _ h => hP _ _ _ _ _ h) (Or.inl ⟨by rfl, by intro w_ hSw; have c0 : w_.cell? ⟨gB, 0, none⟩ = some (strV nm) := (HU _ hSw).1.1.2.cell 0; have c1 : w_.cell? ⟨gB, 1, none⟩ = some (.int .i64 kd) := (HU _ hSw).1.1.2.cell 1; have c2 : w_.cell? ⟨gB, 2, none⟩ = some (.int .i64 pr) := (HU _ hSw).1.1.2.cell 2; have c3 : w_.cell? ⟨gB, 3, none⟩ = some (.int .i64 wt) := (HU _ hSw).1.1.2.cell 3; have c4 : w_.cell? ⟨gB, 4, none⟩ = some (.int .i64 pw) := (HU _ hSw).1.1.2.cell 4; have c5 : w_.cell? ⟨gB, 5, none⟩ = some (.int .i64 le) := (HU _ hSw).1.1.2.cell 5; have c6 : w_.cell? ⟨gB, 6, none⟩ = some (.int .i64 bu) := (HU _ hSw).1.1.2.cell 6; have c7 : w_.cell? ⟨gB, 7, none⟩ = some (.int .i64 ra) := (HU _ hSw).1.1.2.cell 7; have c8 : w_.cell? ⟨gB, 8, none⟩ = some (.int .i64 de) := (HU _ hSw).1.1.2.cell 8; go_simp⟩) (by assumption) ?_
  try simp only [Act.put, List.setIfInBounds_toArray, List.set_cons_zero, List.set_cons_succ]
  refine take_at (i := 3) 136 (v := .slice (some ⟨G, 0, none⟩) t c') rfl rfl (by kernel_rfl) (by kernel_rfl) (by kernel_rfl) (fun _ _ _ h => hP _ _ _ _ _ h) (Or.inl ⟨by rfl, by intro w_ hSw; go_simp⟩) (by assumption) ?_
  try simp only [Act.put, List.setIfInBounds_toArray, List.set_cons_zero, List.set_cons_succ]
  refine take_at (i := 4) 137 (v := .int .i64 (t : Int)) rfl rfl (by kernel_rfl) (by kernel_rfl) (by kernel_rfl) (fun _ _ _ h => hP _ _ _ _ _ h) (Or.inl ⟨by rfl, by intro w_ hSw; go_simp⟩) (by assumption) ?_
  try simp only [Act.put, List.setIfInBounds_toArray, List.set_cons_zero, List.set_cons_succ]
  refine take_at (i := 5) 138 (v := .int .i64 (k : Int)) rfl rfl (by kernel_rfl) (by kernel_rfl) (by kernel_rfl) (fun _ _ _ h => hP _ _ _ _ _ h) (Or.inl ⟨by rfl, by intro w_ hSw; have hw := hw1.out; go_simp⟩) (by assumption) ?_
  try simp only [Act.put, List.setIfInBounds_toArray, List.set_cons_zero, List.set_cons_succ]
  refine take_at (i := 6) 139 (v := .slice (some ⟨G, 0, none⟩) k c') rfl rfl (by kernel_rfl) (by kernel_rfl) (by kernel_rfl) (fun _ _ _ h => hP _ _ _ _ _ h) (Or.inl ⟨by rfl, by intro w_ hSw; have hw := hsf.out; go_simp⟩) (by assumption) ?_
  try simp only [Act.put, List.setIfInBounds_toArray, List.set_cons_zero, List.set_cons_succ]
  obtain ⟨gb, hgb⟩ : ∃ g, v0.heap.size = g := ⟨_, rfl⟩
  obtain ⟨gz, hgz⟩ : ∃ g, v0.heap.size = g := ⟨_, rfl⟩
  refine wpAnyH_ready (rs := [2, 7, 12]) (by kernel_rfl) (by simp) ?_
  refine AllReadyH.cons rfl (fun K hK => ?_) (AllReadyH.cons rfl (fun K hK => ?_) (AllReadyH.cons rfl (fun K hK => ?_) AllReadyH.nil))
  · clear hgz
    go_simp
    have hb := (Below.refl v0.heap.size v0).alloc (Nat.le_refl _) (.cells #[strV nm, .int .i64 kd, .int .i64 pr, .int .i64 wt, .int .i64 pw, .int .i64 le, .int .i64 bu, .int .i64 ra, .int .i64 de] 32)
    have gbge := Nat.le_trans hHeld.size (Nat.le_of_eq hgb)
    replace hHeld := Below.step hHeld hb
    have Hgb := hide (stay_blk (Blk.newN v0 32 #[strV nm, .int .i64 kd, .int .i64 pr, .int .i64 wt, .int .i64 pw, .int .i64 le, .int .i64 bu, .int .i64 ra, .int .i64 de] hgb))
    obtain ⟨v1, hwn⟩ : ∃ w9, v0.alloc (.cells #[strV nm, .int .i64 kd, .int .i64 pr, .int .i64 wt, .int .i64 pw, .int .i64 le, .int .i64 bu, .int .i64 ra, .int .i64 de] 32) = w9 := ⟨_, rfl⟩
    rw [hwn] at hHeld Hgb ⊢
    clear hb hwn hgb
    refine hK.out _ _ hHeld (fun hHeld => ?_)
    clear hK K
    try simp only [Act.put, List.setIfInBounds_toArray, List.set_cons_zero, List.set_cons_succ]
    obtain ⟨gz, hgz⟩ : ∃ g, v1.heap.size = g := ⟨_, rfl⟩
    refine wpAnyH_ready (rs := [7, 12]) (by kernel_rfl) (by simp) ?_
    refine AllReadyH.cons rfl (fun K hK => ?_) (AllReadyH.cons rfl (fun K hK => ?_) AllReadyH.nil)
    · clear hgz
      go_simp
      go_at_call 15
      refine (HCS _ (HU _ hHeld).2).mono ?_
      rintro e v2 ⟨A3, c3, rfl, hss, hb⟩
      replace Hgb := hide (Hgb.out.step hb)
      replace hHeld := Below.step hHeld hb
      have HSS := hide (stay_slots hss)
      clear hss
      clear hb
      simp only []
      refine hK.out _ _ hHeld (fun hHeld => ?_)
      clear hK K
      try simp only [Act.put, List.setIfInBounds_toArray, List.set_cons_zero, List.set_cons_succ]
      obtain ⟨gz, hgz⟩ : ∃ g, v2.heap.size = g := ⟨_, rfl⟩
      refine wpAnyH_ready (rs := [8, 12]) (by kernel_rfl) (by simp) ?_
      refine AllReadyH.cons rfl (fun K hK => ?_) (AllReadyH.cons rfl (fun K hK => ?_) AllReadyH.nil)
      · clear hgz
        go_simp
        go_at_call 18
        refine (HRN _ gb A3 c3 (HU _ hHeld).1.2 Hgb.out.now HSS.out.now).mono ?_
        rintro e v3 ⟨A0, a0, c0, A1, a1, c1, lb, lc, rfl, hlb, hb⟩
        replace Hgb := hide (Hgb.out.step hb)
        replace HSS := hide (HSS.out.step hb)
        replace hHeld := Below.step hHeld hb
        have HLB := hide (stay_at hlb)
        clear hlb
        clear hb
        simp only []
        refine hK.out _ _ hHeld (fun hHeld => ?_)
        clear hK K
        try simp only [Act.put, List.setIfInBounds_toArray, List.set_cons_zero, List.set_cons_succ]
        refine take_at (i := 9) 132 (v := .tuple #[.agg #[.slice A0 a0 c0, .slice A1 a1 c1, .slice (some ⟨lb, 0, none⟩) 1 lc], .int .i64 0]) rfl rfl (by kernel_rfl) (by kernel_rfl) (by kernel_rfl) (fun _ _ _ h => hP _ _ _ _ _ h) (Or.inl ⟨by rfl, by intro w_ hSw; go_simp⟩) (by assumption) ?_
        try simp only [Act.put, List.setIfInBounds_toArray, List.set_cons_zero, List.set_cons_succ]
        refine take_at (i := 10) 142 (v := .agg #[.slice A0 a0 c0, .slice A1 a1 c1, .slice (some ⟨lb, 0, none⟩) 1 lc]) rfl rfl (by kernel_rfl) (by kernel_rfl) (by kernel_rfl) (fun _ _ _ h => hP _ _ _ _ _ h) (Or.inl ⟨by rfl, by intro w_ hSw; go_simp⟩) (by assumption) ?_
        try simp only [Act.put, List.setIfInBounds_toArray, List.set_cons_zero, List.set_cons_succ]
        refine take_at (i := 11) 143 (v := .int .i64 0) rfl rfl (by kernel_rfl) (by kernel_rfl) (by kernel_rfl) (fun _ _ _ h => hP _ _ _ _ _ h) (Or.inl ⟨by rfl, by intro w_ hSw; go_simp⟩) (by assumption) ?_
        try simp only [Act.put, List.setIfInBounds_toArray, List.set_cons_zero, List.set_cons_succ]
        obtain ⟨gz, hgz⟩ : ∃ g, v3.heap.size = g := ⟨_, rfl⟩
        refine wpAnyH_ready (rs := [12]) (by kernel_rfl) (by simp) ?_
        refine AllReadyH.cons rfl (fun K hK => ?_) AllReadyH.nil
        go_simp
        have hb := (Below.refl v3.heap.size v3).alloc (Nat.le_refl _) (.cells #[.slice none 0 0, .slice none 0 0, .slice none 0 0] 58)
        replace Hgb := hide (Hgb.out.step hb)
        replace HSS := hide (HSS.out.step hb)
        replace HLB := hide (HLB.out.step hb)
        have gzge := Nat.le_trans hHeld.size (Nat.le_of_eq hgz)
        replace hHeld := Below.step hHeld hb
        have Hgz := hide (stay_blk (Blk.newN v3 58 #[.slice none 0 0, .slice none 0 0, .slice none 0 0] hgz))
        obtain ⟨v4, hwn⟩ : ∃ w9, v3.alloc (.cells #[.slice none 0 0, .slice none 0 0, .slice none 0 0] 58) = w9 := ⟨_, rfl⟩
        rw [hwn] at hHeld Hgb HSS HLB Hgz ⊢
        clear hb hwn hgz
        refine hK.out _ _ hHeld (fun hHeld => ?_)
        clear hK K
        try simp only [Act.put, List.setIfInBounds_toArray, List.set_cons_zero, List.set_cons_succ]
        refine wpAnyH_ready (rs := [13]) (by kernel_rfl) (by simp) ?_
        refine AllReadyH.cons rfl (fun K hK => ?_) AllReadyH.nil
        refine step_store_rowF rfl 58 _ _ rfl gz #[.slice A0 a0 c0, .slice A1 a1 c1, .slice (some ⟨lb, 0, none⟩) 1 lc] rfl rfl 58 #[.slice none 0 0, .slice none 0 0, .slice none 0 0] Hgz.out.now (by kernel_rfl) rfl (by simp [Value.oneCell']) ?_
        have hne : lb ≠ gz := by intro e; have h1 := HLB.out.now; rw [e, Hgz.out.now.cell 0] at h1; simp at h1
        have HLE := hide (show (v4.setRow gz #[.slice A0 a0 c0, .slice A1 a1 c1, .slice (some ⟨lb, 0, none⟩) 1 lc]).cell? ⟨lb, 0, none⟩ = some (.int .i64 Z) from by rw [← HLB.out.now]; unfold World.cell?; rw [setRow_other v4 gz lb #[.slice A0 a0 c0, .slice A1 a1 c1, .slice (some ⟨lb, 0, none⟩) 1 lc] hne])
        replace hHeld := Below.row (g := gz) hHeld gzge #[.slice A0 a0 c0, .slice A1 a1 c1, .slice (some ⟨lb, 0, none⟩) 1 lc]
        have HSgz := hide (Hgz.out.now.row #[.slice A0 a0 c0, .slice A1 a1 c1, .slice (some ⟨lb, 0, none⟩) 1 lc])
        obtain ⟨v5, hwn⟩ : ∃ w9, v4.setRow gz #[.slice A0 a0 c0, .slice A1 a1 c1, .slice (some ⟨lb, 0, none⟩) 1 lc] = w9 := ⟨_, rfl⟩
        rw [hwn] at hHeld HSgz HLE ⊢
        clear hwn Hgb HSS HLB Hgz
        refine hK.out _ _ hHeld (fun hHeld => ?_)
        clear hK K
        try simp only [Act.put, List.setIfInBounds_toArray]
        refine take_at (i := 14) 18 (v := .int .i64 0) rfl rfl (by kernel_rfl) (by kernel_rfl) (by kernel_rfl) (fun _ _ _ h => hP _ _ _ _ _ h) (Or.inl ⟨by rfl, by intro w_ hSw; go_simp⟩) (by assumption) ?_
        try simp only [Act.put]
        refine wpAnyH_done (by kernel_rfl) ?_ _
        exact hQ gz gb A3 c3 A0 a0 c0 A1 a1 c1 lb lc v5 HSgz.out HLE.out hHeld
      · go_simp
        have hb := (Below.refl v2.heap.size v2).alloc (Nat.le_refl _) (.cells #[.slice none 0 0, .slice none 0 0, .slice none 0 0] 58)
        replace Hgb := hide (Hgb.out.step hb)
        replace HSS := hide (HSS.out.step hb)
        have gzge := Nat.le_trans hHeld.size (Nat.le_of_eq hgz)
        replace hHeld := Below.step hHeld hb
        have Hgz := hide (stay_blk (Blk.newN v2 58 #[.slice none 0 0, .slice none 0 0, .slice none 0 0] hgz))
        obtain ⟨v3, hwn⟩ : ∃ w9, v2.alloc (.cells #[.slice none 0 0, .slice none 0 0, .slice none 0 0] 58) = w9 := ⟨_, rfl⟩
        rw [hwn] at hHeld Hgb HSS Hgz ⊢
        clear hb hwn hgz
        refine hK.out _ _ hHeld (fun hHeld => ?_)
        clear hK K
        try simp only [Act.put, List.setIfInBounds_toArray, List.set_cons_zero, List.set_cons_succ]
        refine wpAnyH_ready (rs := [8]) (by kernel_rfl) (by simp) ?_
        refine AllReadyH.cons rfl (fun K hK => ?_) AllReadyH.nil
        go_simp
        go_at_call 18
        refine (HRN _ gb A3 c3 (HU _ hHeld).1.2 Hgb.out.now HSS.out.now).mono ?_
        rintro e v4 ⟨A0, a0, c0, A1, a1, c1, lb, lc, rfl, hlb, hb⟩
        replace Hgb := hide (Hgb.out.step hb)
        replace HSS := hide (HSS.out.step hb)
        replace Hgz := hide (Hgz.out.step hb)
        replace hHeld := Below.step hHeld hb
        have HLB := hide (stay_at hlb)
        clear hlb
        clear hb
        simp only []
        refine hK.out _ _ hHeld (fun hHeld => ?_)
        clear hK K
        try simp only [Act.put, List.setIfInBounds_toArray, List.set_cons_zero, List.set_cons_succ]
        refine take_at (i := 9) 132 (v := .tuple #[.agg #[.slice A0 a0 c0, .slice A1 a1 c1, .slice (some ⟨lb, 0, none⟩) 1 lc], .int .i64 0]) rfl rfl (by kernel_rfl) (by kernel_rfl) (by kernel_rfl) (fun _ _ _ h => hP _ _ _ _ _ h) (Or.inl ⟨by rfl, by intro w_ hSw; go_simp⟩) (by assumption) ?_
        try simp only [Act.put, List.setIfInBounds_toArray, List.set_cons_zero, List.set_cons_succ]
        refine take_at (i := 10) 142 (v := .agg #[.slice A0 a0 c0, .slice A1 a1 c1, .slice (some ⟨lb, 0, none⟩) 1 lc]) rfl rfl (by kernel_rfl) (by kernel_rfl) (by kernel_rfl) (fun _ _ _ h => hP _ _ _ _ _ h) (Or.inl ⟨by rfl, by intro w_ hSw; go_simp⟩) (by assumption) ?_
        try simp only [Act.put, List.setIfInBounds_toArray, List.set_cons_zero, List.set_cons_succ]
        refine take_at (i := 11) 143 (v := .int .i64 0) rfl rfl (by kernel_rfl) (by kernel_rfl) (by kernel_rfl) (fun _ _ _ h => hP _ _ _ _ _ h) (Or.inl ⟨by rfl, by intro w_ hSw; go_simp⟩) (by assumption) ?_
        try simp only [Act.put, List.setIfInBounds_toArray, List.set_cons_zero, List.set_cons_succ]
        refine wpAnyH_ready (rs := [13]) (by kernel_rfl) (by simp) ?_
        refine AllReadyH.cons rfl (fun K hK => ?_) AllReadyH.nil
        refine step_store_rowF rfl 58 _ _ rfl gz #[.slice A0 a0 c0, .slice A1 a1 c1, .slice (some ⟨lb, 0, none⟩) 1 lc] rfl rfl 58 #[.slice none 0 0, .slice none 0 0, .slice none 0 0] Hgz.out.now (by kernel_rfl) rfl (by simp [Value.oneCell']) ?_
        have hne : lb ≠ gz := by intro e; have h1 := HLB.out.now; rw [e, Hgz.out.now.cell 0] at h1; simp at h1
        have HLE := hide (show (v4.setRow gz #[.slice A0 a0 c0, .slice A1 a1 c1, .slice (some ⟨lb, 0, none⟩) 1 lc]).cell? ⟨lb, 0, none⟩ = some (.int .i64 Z) from by rw [← HLB.out.now]; unfold World.cell?; rw [setRow_other v4 gz lb #[.slice A0 a0 c0, .slice A1 a1 c1, .slice (some ⟨lb, 0, none⟩) 1 lc] hne])
        replace hHeld := Below.row (g := gz) hHeld gzge #[.slice A0 a0 c0, .slice A1 a1 c1, .slice (some ⟨lb, 0, none⟩) 1 lc]
        have HSgz := hide (Hgz.out.now.row #[.slice A0 a0 c0, .slice A1 a1 c1, .slice (some ⟨lb, 0, none⟩) 1 lc])
        obtain ⟨v5, hwn⟩ : ∃ w9, v4.setRow gz #[.slice A0 a0 c0, .slice A1 a1 c1, .slice (some ⟨lb, 0, none⟩) 1 lc] = w9 := ⟨_, rfl⟩
        rw [hwn] at hHeld HSgz HLE ⊢
        clear hwn Hgb HSS Hgz HLB
        refine hK.out _ _ hHeld (fun hHeld => ?_)
        clear hK K
        try simp only [Act.put, List.setIfInBounds_toArray]
        refine take_at (i := 14) 18 (v := .int .i64 0) rfl rfl (by kernel_rfl) (by kernel_rfl) (by kernel_rfl) (fun _ _ _ h => hP _ _ _ _ _ h) (Or.inl ⟨by rfl, by intro w_ hSw; go_simp⟩) (by assumption) ?_
        try simp only [Act.put]
        refine wpAnyH_done (by kernel_rfl) ?_ _
        exact hQ gz gb A3 c3 A0 a0 c0 A1 a1 c1 lb lc v5 HSgz.out HLE.out hHeld
    · go_simp
      have hb := (Below.refl v1.heap.size v1).alloc (Nat.le_refl _) (.cells #[.slice none 0 0, .slice none 0 0, .slice none 0 0] 58)
      replace Hgb := hide (Hgb.out.step hb)
      have gzge := Nat.le_trans hHeld.size (Nat.le_of_eq hgz)
      replace hHeld := Below.step hHeld hb
      have Hgz := hide (stay_blk (Blk.newN v1 58 #[.slice none 0 0, .slice none 0 0, .slice none 0 0] hgz))
      obtain ⟨v2, hwn⟩ : ∃ w9, v1.alloc (.cells #[.slice none 0 0, .slice none 0 0, .slice none 0 0] 58) = w9 := ⟨_, rfl⟩
      rw [hwn] at hHeld Hgb Hgz ⊢
      clear hb hwn hgz
      refine hK.out _ _ hHeld (fun hHeld => ?_)
      clear hK K
      try simp only [Act.put, List.setIfInBounds_toArray, List.set_cons_zero, List.set_cons_succ]
      refine wpAnyH_ready (rs := [7]) (by kernel_rfl) (by simp) ?_
      refine AllReadyH.cons rfl (fun K hK => ?_) AllReadyH.nil
      go_simp
      go_at_call 15
      refine (HCS _ (HU _ hHeld).2).mono ?_
      rintro e v3 ⟨A3, c3, rfl, hss, hb⟩
      replace Hgb := hide (Hgb.out.step hb)
      replace Hgz := hide (Hgz.out.step hb)
      replace hHeld := Below.step hHeld hb
      have HSS := hide (stay_slots hss)
      clear hss
      clear hb
      simp only []
      refine hK.out _ _ hHeld (fun hHeld => ?_)
      clear hK K
      try simp only [Act.put, List.setIfInBounds_toArray, List.set_cons_zero, List.set_cons_succ]
      refine wpAnyH_ready (rs := [8]) (by kernel_rfl) (by simp) ?_
      refine AllReadyH.cons rfl (fun K hK => ?_) AllReadyH.nil
      go_simp
      go_at_call 18
      refine (HRN _ gb A3 c3 (HU _ hHeld).1.2 Hgb.out.now HSS.out.now).mono ?_
      rintro e v4 ⟨A0, a0, c0, A1, a1, c1, lb, lc, rfl, hlb, hb⟩
      replace Hgb := hide (Hgb.out.step hb)
      replace Hgz := hide (Hgz.out.step hb)
      replace HSS := hide (HSS.out.step hb)
      replace hHeld := Below.step hHeld hb
      have HLB := hide (stay_at hlb)
      clear hlb
      clear hb
      simp only []
      refine hK.out _ _ hHeld (fun hHeld => ?_)
      clear hK K
      try simp only [Act.put, List.setIfInBounds_toArray, List.set_cons_zero, List.set_cons_succ]
      refine take_at (i := 9) 132 (v := .tuple #[.agg #[.slice A0 a0 c0, .slice A1 a1 c1, .slice (some ⟨lb, 0, none⟩) 1 lc], .int .i64 0]) rfl rfl (by kernel_rfl) (by kernel_rfl) (by kernel_rfl) (fun _ _ _ h => hP _ _ _ _ _ h) (Or.inl ⟨by rfl, by intro w_ hSw; go_simp⟩) (by assumption) ?_
      try simp only [Act.put, List.setIfInBounds_toArray, List.set_cons_zero, List.set_cons_succ]
      refine take_at (i := 10) 142 (v := .agg #[.slice A0 a0 c0, .slice A1 a1 c1, .slice (some ⟨lb, 0, none⟩) 1 lc]) rfl rfl (by kernel_rfl) (by kernel_rfl) (by kernel_rfl) (fun _ _ _ h => hP _ _ _ _ _ h) (Or.inl ⟨by rfl, by intro w_ hSw; go_simp⟩) (by assumption) ?_
      try simp only [Act.put, List.setIfInBounds_toArray, List.set_cons_zero, List.set_cons_succ]
      refine take_at (i := 11) 143 (v := .int .i64 0) rfl rfl (by kernel_rfl) (by kernel_rfl) (by kernel_rfl) (fun _ _ _ h => hP _ _ _ _ _ h) (Or.inl ⟨by rfl, by intro w_ hSw; go_simp⟩) (by assumption) ?_
      try simp only [Act.put, List.setIfInBounds_toArray, List.set_cons_zero, List.set_cons_succ]
      refine wpAnyH_ready (rs := [13]) (by kernel_rfl) (by simp) ?_
      refine AllReadyH.cons rfl (fun K hK => ?_) AllReadyH.nil
      refine step_store_rowF rfl 58 _ _ rfl gz #[.slice A0 a0 c0, .slice A1 a1 c1, .slice (some ⟨lb, 0, none⟩) 1 lc] rfl rfl 58 #[.slice none 0 0, .slice none 0 0, .slice none 0 0] Hgz.out.now (by kernel_rfl) rfl (by simp [Value.oneCell']) ?_
      have hne : lb ≠ gz := by intro e; have h1 := HLB.out.now; rw [e, Hgz.out.now.cell 0] at h1; simp at h1
      have HLE := hide (show (v4.setRow gz #[.slice A0 a0 c0, .slice A1 a1 c1, .slice (some ⟨lb, 0, none⟩) 1 lc]).cell? ⟨lb, 0, none⟩ = some (.int .i64 Z) from by rw [← HLB.out.now]; unfold World.cell?; rw [setRow_other v4 gz lb #[.slice A0 a0 c0, .slice A1 a1 c1, .slice (some ⟨lb, 0, none⟩) 1 lc] hne])
      replace hHeld := Below.row (g := gz) hHeld gzge #[.slice A0 a0 c0, .slice A1 a1 c1, .slice (some ⟨lb, 0, none⟩) 1 lc]
      have HSgz := hide (Hgz.out.now.row #[.slice A0 a0 c0, .slice A1 a1 c1, .slice (some ⟨lb, 0, none⟩) 1 lc])
      obtain ⟨v5, hwn⟩ : ∃ w9, v4.setRow gz #[.slice A0 a0 c0, .slice A1 a1 c1, .slice (some ⟨lb, 0, none⟩) 1 lc] = w9 := ⟨_, rfl⟩
      rw [hwn] at hHeld HSgz HLE ⊢
      clear hwn Hgb Hgz HSS HLB
      refine hK.out _ _ hHeld (fun hHeld => ?_)
      clear hK K
      try simp only [Act.put, List.setIfInBounds_toArray]
      refine take_at (i := 14) 18 (v := .int .i64 0) rfl rfl (by kernel_rfl) (by kernel_rfl) (by kernel_rfl) (fun _ _ _ h => hP _ _ _ _ _ h) (Or.inl ⟨by rfl, by intro w_ hSw; go_simp⟩) (by assumption) ?_
      try simp only [Act.put]
      refine wpAnyH_done (by kernel_rfl) ?_ _
      exact hQ gz gb A3 c3 A0 a0 c0 A1 a1 c1 lb lc v5 HSgz.out HLE.out hHeld
  · clear hgb
    clear hgz
    go_simp
    go_at_call 15
    refine (HCS _ (HU _ hHeld).2).mono ?_
    rintro e v1 ⟨A3, c3, rfl, hss, hb⟩
    replace hHeld := Below.step hHeld hb
    have HSS := hide (stay_slots hss)
    clear hss
    clear hb
    simp only []
    refine hK.out _ _ hHeld (fun hHeld => ?_)
    clear hK K
    try simp only [Act.put, List.setIfInBounds_toArray, List.set_cons_zero, List.set_cons_succ]
    obtain ⟨gb, hgb⟩ : ∃ g, v1.heap.size = g := ⟨_, rfl⟩
    obtain ⟨gz, hgz⟩ : ∃ g, v1.heap.size = g := ⟨_, rfl⟩
    refine wpAnyH_ready (rs := [2, 12]) (by kernel_rfl) (by simp) ?_
    refine AllReadyH.cons rfl (fun K hK => ?_) (AllReadyH.cons rfl (fun K hK => ?_) AllReadyH.nil)
    · clear hgz
      go_simp
      have hb := (Below.refl v1.heap.size v1).alloc (Nat.le_refl _) (.cells #[strV nm, .int .i64 kd, .int .i64 pr, .int .i64 wt, .int .i64 pw, .int .i64 le, .int .i64 bu, .int .i64 ra, .int .i64 de] 32)
      replace HSS := hide (HSS.out.step hb)
      have gbge := Nat.le_trans hHeld.size (Nat.le_of_eq hgb)
      replace hHeld := Below.step hHeld hb
      have Hgb := hide (stay_blk (Blk.newN v1 32 #[strV nm, .int .i64 kd, .int .i64 pr, .int .i64 wt, .int .i64 pw, .int .i64 le, .int .i64 bu, .int .i64 ra, .int .i64 de] hgb))
      obtain ⟨v2, hwn⟩ : ∃ w9, v1.alloc (.cells #[strV nm, .int .i64 kd, .int .i64 pr, .int .i64 wt, .int .i64 pw, .int .i64 le, .int .i64 bu, .int .i64 ra, .int .i64 de] 32) = w9 := ⟨_, rfl⟩
      rw [hwn] at hHeld HSS Hgb ⊢
      clear hb hwn hgb
      refine hK.out _ _ hHeld (fun hHeld => ?_)
      clear hK K
      try simp only [Act.put, List.setIfInBounds_toArray, List.set_cons_zero, List.set_cons_succ]
      obtain ⟨gz, hgz⟩ : ∃ g, v2.heap.size = g := ⟨_, rfl⟩
      refine wpAnyH_ready (rs := [8, 12]) (by kernel_rfl) (by simp) ?_
      refine AllReadyH.cons rfl (fun K hK => ?_) (AllReadyH.cons rfl (fun K hK => ?_) AllReadyH.nil)
      · clear hgz
        go_simp
        go_at_call 18
        refine (HRN _ gb A3 c3 (HU _ hHeld).1.2 Hgb.out.now HSS.out.now).mono ?_
        rintro e v3 ⟨A0, a0, c0, A1, a1, c1, lb, lc, rfl, hlb, hb⟩
        replace HSS := hide (HSS.out.step hb)
        replace Hgb := hide (Hgb.out.step hb)
        replace hHeld := Below.step hHeld hb
        have HLB := hide (stay_at hlb)
        clear hlb
        clear hb
        simp only []
        refine hK.out _ _ hHeld (fun hHeld => ?_)
        clear hK K
        try simp only [Act.put, List.setIfInBounds_toArray, List.set_cons_zero, List.set_cons_succ]
        refine take_at (i := 9) 132 (v := .tuple #[.agg #[.slice A0 a0 c0, .slice A1 a1 c1, .slice (some ⟨lb, 0, none⟩) 1 lc], .int .i64 0]) rfl rfl (by kernel_rfl) (by kernel_rfl) (by kernel_rfl) (fun _ _ _ h => hP _ _ _ _ _ h) (Or.inl ⟨by rfl, by intro w_ hSw; go_simp⟩) (by assumption) ?_
        try simp only [Act.put, List.setIfInBounds_toArray, List.set_cons_zero, List.set_cons_succ]
        refine take_at (i := 10) 142 (v := .agg #[.slice A0 a0 c0, .slice A1 a1 c1, .slice (some ⟨lb, 0, none⟩) 1 lc]) rfl rfl (by kernel_rfl) (by kernel_rfl) (by kernel_rfl) (fun _ _ _ h => hP _ _ _ _ _ h) (Or.inl ⟨by rfl, by intro w_ hSw; go_simp⟩) (by assumption) ?_
        try simp only [Act.put, List.setIfInBounds_toArray, List.set_cons_zero, List.set_cons_succ]
        refine take_at (i := 11) 143 (v := .int .i64 0) rfl rfl (by kernel_rfl) (by kernel_rfl) (by kernel_rfl) (fun _ _ _ h => hP _ _ _ _ _ h) (Or.inl ⟨by rfl, by intro w_ hSw; go_simp⟩) (by assumption) ?_
        try simp only [Act.put, List.setIfInBounds_toArray, List.set_cons_zero, List.set_cons_succ]
        obtain ⟨gz, hgz⟩ : ∃ g, v3.heap.size = g := ⟨_, rfl⟩
        refine wpAnyH_ready (rs := [12]) (by kernel_rfl) (by simp) ?_
        refine AllReadyH.cons rfl (fun K hK => ?_) AllReadyH.nil
        go_simp
        have hb := (Below.refl v3.heap.size v3).alloc (Nat.le_refl _) (.cells #[.slice none 0 0, .slice none 0 0, .slice none 0 0] 58)
        replace HSS := hide (HSS.out.step hb)
        replace Hgb := hide (Hgb.out.step hb)
        replace HLB := hide (HLB.out.step hb)
        have gzge := Nat.le_trans hHeld.size (Nat.le_of_eq hgz)
        replace hHeld := Below.step hHeld hb
        have Hgz := hide (stay_blk (Blk.newN v3 58 #[.slice none 0 0, .slice none 0 0, .slice none 0 0] hgz))
        obtain ⟨v4, hwn⟩ : ∃ w9, v3.alloc (.cells #[.slice none 0 0, .slice none 0 0, .slice none 0 0] 58) = w9 := ⟨_, rfl⟩
        rw [hwn] at hHeld HSS Hgb HLB Hgz ⊢
        clear hb hwn hgz
        refine hK.out _ _ hHeld (fun hHeld => ?_)
        clear hK K
        try simp only [Act.put, List.setIfInBounds_toArray, List.set_cons_zero, List.set_cons_succ]
        refine wpAnyH_ready (rs := [13]) (by kernel_rfl) (by simp) ?_
        refine AllReadyH.cons rfl (fun K hK => ?_) AllReadyH.nil
        refine step_store_rowF rfl 58 _ _ rfl gz #[.slice A0 a0 c0, .slice A1 a1 c1, .slice (some ⟨lb, 0, none⟩) 1 lc] rfl rfl 58 #[.slice none 0 0, .slice none 0 0, .slice none 0 0] Hgz.out.now (by kernel_rfl) rfl (by simp [Value.oneCell']) ?_
        have hne : lb ≠ gz := by intro e; have h1 := HLB.out.now; rw [e, Hgz.out.now.cell 0] at h1; simp at h1
        have HLE := hide (show (v4.setRow gz #[.slice A0 a0 c0, .slice A1 a1 c1, .slice (some ⟨lb, 0, none⟩) 1 lc]).cell? ⟨lb, 0, none⟩ = some (.int .i64 Z) from by rw [← HLB.out.now]; unfold World.cell?; rw [setRow_other v4 gz lb #[.slice A0 a0 c0, .slice A1 a1 c1, .slice (some ⟨lb, 0, none⟩) 1 lc] hne])
        replace hHeld := Below.row (g := gz) hHeld gzge #[.slice A0 a0 c0, .slice A1 a1 c1, .slice (some ⟨lb, 0, none⟩) 1 lc]
        have HSgz := hide (Hgz.out.now.row #[.slice A0 a0 c0, .slice A1 a1 c1, .slice (some ⟨lb, 0, none⟩) 1 lc])
        obtain ⟨v5, hwn⟩ : ∃ w9, v4.setRow gz #[.slice A0 a0 c0, .slice A1 a1 c1, .slice (some ⟨lb, 0, none⟩) 1 lc] = w9 := ⟨_, rfl⟩
        rw [hwn] at hHeld HSgz HLE ⊢
        clear hwn HSS Hgb HLB Hgz
        refine hK.out _ _ hHeld (fun hHeld => ?_)
        clear hK K
        try simp only [Act.put, List.setIfInBounds_toArray]
        refine take_at (i := 14) 18 (v := .int .i64 0) rfl rfl (by kernel_rfl) (by kernel_rfl) (by kernel_rfl) (fun _ _ _ h => hP _ _ _ _ _ h) (Or.inl ⟨by rfl, by intro w_ hSw; go_simp⟩) (by assumption) ?_
        try simp only [Act.put]
        refine wpAnyH_done (by kernel_rfl) ?_ _
        exact hQ gz gb A3 c3 A0 a0 c0 A1 a1 c1 lb lc v5 HSgz.out HLE.out hHeld
      · go_simp
        have hb := (Below.refl v2.heap.size v2).alloc (Nat.le_refl _) (.cells #[.slice none 0 0, .slice none 0 0, .slice none 0 0] 58)
        replace HSS := hide (HSS.out.step hb)
        replace Hgb := hide (Hgb.out.step hb)
        have gzge := Nat.le_trans hHeld.size (Nat.le_of_eq hgz)
        replace hHeld := Below.step hHeld hb
        have Hgz := hide (stay_blk (Blk.newN v2 58 #[.slice none 0 0, .slice none 0 0, .slice none 0 0] hgz))
        obtain ⟨v3, hwn⟩ : ∃ w9, v2.alloc (.cells #[.slice none 0 0, .slice none 0 0, .slice none 0 0] 58) = w9 := ⟨_, rfl⟩
        rw [hwn] at hHeld HSS Hgb Hgz ⊢
        clear hb hwn hgz
        refine hK.out _ _ hHeld (fun hHeld => ?_)
        clear hK K
        try simp only [Act.put, List.setIfInBounds_toArray, List.set_cons_zero, List.set_cons_succ]
        refine wpAnyH_ready (rs := [8]) (by kernel_rfl) (by simp) ?_
        refine AllReadyH.cons rfl (fun K hK => ?_) AllReadyH.nil
        go_simp
        go_at_call 18
        refine (HRN _ gb A3 c3 (HU _ hHeld).1.2 Hgb.out.now HSS.out.now).mono ?_
        rintro e v4 ⟨A0, a0, c0, A1, a1, c1, lb, lc, rfl, hlb, hb⟩
        replace HSS := hide (HSS.out.step hb)
        replace Hgb := hide (Hgb.out.step hb)
        replace Hgz := hide (Hgz.out.step hb)
        replace hHeld := Below.step hHeld hb
        have HLB := hide (stay_at hlb)
        clear hlb
        clear hb
        simp only []
        refine hK.out _ _ hHeld (fun hHeld => ?_)
        clear hK K
        try simp only [Act.put, List.setIfInBounds_toArray, List.set_cons_zero, List.set_cons_succ]
        refine take_at (i := 9) 132 (v := .tuple #[.agg #[.slice A0 a0 c0, .slice A1 a1 c1, .slice (some ⟨lb, 0, none⟩) 1 lc], .int .i64 0]) rfl rfl (by kernel_rfl) (by kernel_rfl) (by kernel_rfl) (fun _ _ _ h => hP _ _ _ _ _ h) (Or.inl ⟨by rfl, by intro w_ hSw; go_simp⟩) (by assumption) ?_
        try simp only [Act.put, List.setIfInBounds_toArray, List.set_cons_zero, List.set_cons_succ]
        refine take_at (i := 10) 142 (v := .agg #[.slice A0 a0 c0, .slice A1 a1 c1, .slice (some ⟨lb, 0, none⟩) 1 lc]) rfl rfl (by kernel_rfl) (by kernel_rfl) (by kernel_rfl) (fun _ _ _ h => hP _ _ _ _ _ h) (Or.inl ⟨by rfl, by intro w_ hSw; go_simp⟩) (by assumption) ?_
        try simp only [Act.put, List.setIfInBounds_toArray, List.set_cons_zero, List.set_cons_succ]
        refine take_at (i := 11) 143 (v := .int .i64 0) rfl rfl (by kernel_rfl) (by kernel_rfl) (by kernel_rfl) (fun _ _ _ h => hP _ _ _ _ _ h) (Or.inl ⟨by rfl, by intro w_ hSw; go_simp⟩) (by assumption) ?_
        try simp only [Act.put, List.setIfInBounds_toArray, List.set_cons_zero, List.set_cons_succ]
        refine wpAnyH_ready (rs := [13]) (by kernel_rfl) (by simp) ?_
        refine AllReadyH.cons rfl (fun K hK => ?_) AllReadyH.nil
        refine step_store_rowF rfl 58 _ _ rfl gz #[.slice A0 a0 c0, .slice A1 a1 c1, .slice (some ⟨lb, 0, none⟩) 1 lc] rfl rfl 58 #[.slice none 0 0, .slice none 0 0, .slice none 0 0] Hgz.out.now (by kernel_rfl) rfl (by simp [Value.oneCell']) ?_
        have hne : lb ≠ gz := by intro e; have h1 := HLB.out.now; rw [e, Hgz.out.now.cell 0] at h1; simp at h1
        have HLE := hide (show (v4.setRow gz #[.slice A0 a0 c0, .slice A1 a1 c1, .slice (some ⟨lb, 0, none⟩) 1 lc]).cell? ⟨lb, 0, none⟩ = some (.int .i64 Z) from by rw [← HLB.out.now]; unfold World.cell?; rw [setRow_other v4 gz lb #[.slice A0 a0 c0, .slice A1 a1 c1, .slice (some ⟨lb, 0, none⟩) 1 lc] hne])
        replace hHeld := Below.row (g := gz) hHeld gzge #[.slice A0 a0 c0, .slice A1 a1 c1, .slice (some ⟨lb, 0, none⟩) 1 lc]
        have HSgz := hide (Hgz.out.now.row #[.slice A0 a0 c0, .slice A1 a1 c1, .slice (some ⟨lb, 0, none⟩) 1 lc])
        obtain ⟨v5, hwn⟩ : ∃ w9, v4.setRow gz #[.slice A0 a0 c0, .slice A1 a1 c1, .slice (some ⟨lb, 0, none⟩) 1 lc] = w9 := ⟨_, rfl⟩
        rw [hwn] at hHeld HSgz HLE ⊢
        clear hwn HSS Hgb Hgz HLB
        refine hK.out _ _ hHeld (fun hHeld => ?_)
        clear hK K
        try simp only [Act.put, List.setIfInBounds_toArray]
        refine take_at (i := 14) 18 (v := .int .i64 0) rfl rfl (by kernel_rfl) (by kernel_rfl) (by kernel_rfl) (fun _ _ _ h => hP _ _ _ _ _ h) (Or.inl ⟨by rfl, by intro w_ hSw; go_simp⟩) (by assumption) ?_
        try simp only [Act.put]
        refine wpAnyH_done (by kernel_rfl) ?_ _
        exact hQ gz gb A3 c3 A0 a0 c0 A1 a1 c1 lb lc v5 HSgz.out HLE.out hHeld
    · clear hgb
      go_simp
      have hb := (Below.refl v1.heap.size v1).alloc (Nat.le_refl _) (.cells #[.slice none 0 0, .slice none 0 0, .slice none 0 0] 58)
      replace HSS := hide (HSS.out.step hb)
      have gzge := Nat.le_trans hHeld.size (Nat.le_of_eq hgz)
      replace hHeld := Below.step hHeld hb
      have Hgz := hide (stay_blk (Blk.newN v1 58 #[.slice none 0 0, .slice none 0 0, .slice none 0 0] hgz))
      obtain ⟨v2, hwn⟩ : ∃ w9, v1.alloc (.cells #[.slice none 0 0, .slice none 0 0, .slice none 0 0] 58) = w9 := ⟨_, rfl⟩
      rw [hwn] at hHeld HSS Hgz ⊢
      clear hb hwn hgz
      refine hK.out _ _ hHeld (fun hHeld => ?_)
      clear hK K
      try simp only [Act.put, List.setIfInBounds_toArray, List.set_cons_zero, List.set_cons_succ]
      obtain ⟨gb, hgb⟩ : ∃ g, v2.heap.size = g := ⟨_, rfl⟩
      refine wpAnyH_ready (rs := [2]) (by kernel_rfl) (by simp) ?_
      refine AllReadyH.cons rfl (fun K hK => ?_) AllReadyH.nil
      go_simp
      have hb := (Below.refl v2.heap.size v2).alloc (Nat.le_refl _) (.cells #[strV nm, .int .i64 kd, .int .i64 pr, .int .i64 wt, .int .i64 pw, .int .i64 le, .int .i64 bu, .int .i64 ra, .int .i64 de] 32)
      replace HSS := hide (HSS.out.step hb)
      replace Hgz := hide (Hgz.out.step hb)
      have gbge := Nat.le_trans hHeld.size (Nat.le_of_eq hgb)
      replace hHeld := Below.step hHeld hb
      have Hgb := hide (stay_blk (Blk.newN v2 32 #[strV nm, .int .i64 kd, .int .i64 pr, .int .i64 wt, .int .i64 pw, .int .i64 le, .int .i64 bu, .int .i64 ra, .int .i64 de] hgb))
      obtain ⟨v3, hwn⟩ : ∃ w9, v2.alloc (.cells #[strV nm, .int .i64 kd, .int .i64 pr, .int .i64 wt, .int .i64 pw, .int .i64 le, .int .i64 bu, .int .i64 ra, .int .i64 de] 32) = w9 := ⟨_, rfl⟩
      rw [hwn] at hHeld HSS Hgz Hgb ⊢
      clear hb hwn hgb
      refine hK.out _ _ hHeld (fun hHeld => ?_)
      clear hK K
      try simp only [Act.put, List.setIfInBounds_toArray, List.set_cons_zero, List.set_cons_succ]
      refine wpAnyH_ready (rs := [8]) (by kernel_rfl) (by simp) ?_
      refine AllReadyH.cons rfl (fun K hK => ?_) AllReadyH.nil
      go_simp
      go_at_call 18
      refine (HRN _ gb A3 c3 (HU _ hHeld).1.2 Hgb.out.now HSS.out.now).mono ?_
      rintro e v4 ⟨A0, a0, c0, A1, a1, c1, lb, lc, rfl, hlb, hb⟩
      replace HSS := hide (HSS.out.step hb)
      replace Hgz := hide (Hgz.out.step hb)
      replace Hgb := hide (Hgb.out.step hb)
      replace hHeld := Below.step hHeld hb
      have HLB := hide (stay_at hlb)
      clear hlb
      clear hb
      simp only []
      refine hK.out _ _ hHeld (fun hHeld => ?_)
      clear hK K
      try simp only [Act.put, List.setIfInBounds_toArray, List.set_cons_zero, List.set_cons_succ]
      refine take_at (i := 9) 132 (v := .tuple #[.agg #[.slice A0 a0 c0, .slice A1 a1 c1, .slice (some ⟨lb, 0, none⟩) 1 lc], .int .i64 0]) rfl rfl (by kernel_rfl) (by kernel_rfl) (by kernel_rfl) (fun _ _ _ h => hP _ _ _ _ _ h) (Or.inl ⟨by rfl, by intro w_ hSw; go_simp⟩) (by assumption) ?_
      try simp only [Act.put, List.setIfInBounds_toArray, List.set_cons_zero, List.set_cons_succ]
      refine take_at (i := 10) 142 (v := .agg #[.slice A0 a0 c0, .slice A1 a1 c1, .slice (some ⟨lb, 0, none⟩) 1 lc]) rfl rfl (by kernel_rfl) (by kernel_rfl) (by kernel_rfl) (fun _ _ _ h => hP _ _ _ _ _ h) (Or.inl ⟨by rfl, by intro w_ hSw; go_simp⟩) (by assumption) ?_
      try simp only [Act.put, List.setIfInBounds_toArray, List.set_cons_zero, List.set_cons_succ]
      refine take_at (i := 11) 143 (v := .int .i64 0) rfl rfl (by kernel_rfl) (by kernel_rfl) (by kernel_rfl) (fun _ _ _ h => hP _ _ _ _ _ h) (Or.inl ⟨by rfl, by intro w_ hSw; go_simp⟩) (by assumption) ?_
      try simp only [Act.put, List.setIfInBounds_toArray, List.set_cons_zero, List.set_cons_succ]
      refine wpAnyH_ready (rs := [13]) (by kernel_rfl) (by simp) ?_
      refine AllReadyH.cons rfl (fun K hK => ?_) AllReadyH.nil
      refine step_store_rowF rfl 58 _ _ rfl gz #[.slice A0 a0 c0, .slice A1 a1 c1, .slice (some ⟨lb, 0, none⟩) 1 lc] rfl rfl 58 #[.slice none 0 0, .slice none 0 0, .slice none 0 0] Hgz.out.now (by kernel_rfl) rfl (by simp [Value.oneCell']) ?_
      have hne : lb ≠ gz := by intro e; have h1 := HLB.out.now; rw [e, Hgz.out.now.cell 0] at h1; simp at h1
      have HLE := hide (show (v4.setRow gz #[.slice A0 a0 c0, .slice A1 a1 c1, .slice (some ⟨lb, 0, none⟩) 1 lc]).cell? ⟨lb, 0, none⟩ = some (.int .i64 Z) from by rw [← HLB.out.now]; unfold World.cell?; rw [setRow_other v4 gz lb #[.slice A0 a0 c0, .slice A1 a1 c1, .slice (some ⟨lb, 0, none⟩) 1 lc] hne])
      replace hHeld := Below.row (g := gz) hHeld gzge #[.slice A0 a0 c0, .slice A1 a1 c1, .slice (some ⟨lb, 0, none⟩) 1 lc]
      have HSgz := hide (Hgz.out.now.row #[.slice A0 a0 c0, .slice A1 a1 c1, .slice (some ⟨lb, 0, none⟩) 1 lc])
      obtain ⟨v5, hwn⟩ : ∃ w9, v4.setRow gz #[.slice A0 a0 c0, .slice A1 a1 c1, .slice (some ⟨lb, 0, none⟩) 1 lc] = w9 := ⟨_, rfl⟩
      rw [hwn] at hHeld HSgz HLE ⊢
      clear hwn HSS Hgz Hgb HLB
      refine hK.out _ _ hHeld (fun hHeld => ?_)
      clear hK K
      try simp only [Act.put, List.setIfInBounds_toArray]
      refine take_at (i := 14) 18 (v := .int .i64 0) rfl rfl (by kernel_rfl) (by kernel_rfl) (by kernel_rfl) (fun _ _ _ h => hP _ _ _ _ _ h) (Or.inl ⟨by rfl, by intro w_ hSw; go_simp⟩) (by assumption) ?_
      try simp only [Act.put]
      refine wpAnyH_done (by kernel_rfl) ?_ _
      exact hQ gz gb A3 c3 A0 a0 c0 A1 a1 c1 lb lc v5 HSgz.out HLE.out hHeld
  · clear hgb
    go_simp
    have hb := (Below.refl v0.heap.size v0).alloc (Nat.le_refl _) (.cells #[.slice none 0 0, .slice none 0 0, .slice none 0 0] 58)
    have gzge := Nat.le_trans hHeld.size (Nat.le_of_eq hgz)
    replace hHeld := Below.step hHeld hb
    have Hgz := hide (stay_blk (Blk.newN v0 58 #[.slice none 0 0, .slice none 0 0, .slice none 0 0] hgz))
    obtain ⟨v1, hwn⟩ : ∃ w9, v0.alloc (.cells #[.slice none 0 0, .slice none 0 0, .slice none 0 0] 58) = w9 := ⟨_, rfl⟩
    rw [hwn] at hHeld Hgz ⊢
    clear hb hwn hgz
    refine hK.out _ _ hHeld (fun hHeld => ?_)
    clear hK K
    try simp only [Act.put, List.setIfInBounds_toArray, List.set_cons_zero, List.set_cons_succ]
    obtain ⟨gb, hgb⟩ : ∃ g, v1.heap.size = g := ⟨_, rfl⟩
    refine wpAnyH_ready (rs := [2, 7]) (by kernel_rfl) (by simp) ?_
    refine AllReadyH.cons rfl (fun K hK => ?_) (AllReadyH.cons rfl (fun K hK => ?_) AllReadyH.nil)
    · go_simp
      have hb := (Below.refl v1.heap.size v1).alloc (Nat.le_refl _) (.cells #[strV nm, .int .i64 kd, .int .i64 pr, .int .i64 wt, .int .i64 pw, .int .i64 le, .int .i64 bu, .int .i64 ra, .int .i64 de] 32)
      replace Hgz := hide (Hgz.out.step hb)
      have gbge := Nat.le_trans hHeld.size (Nat.le_of_eq hgb)
      replace hHeld := Below.step hHeld hb
      have Hgb := hide (stay_blk (Blk.newN v1 32 #[strV nm, .int .i64 kd, .int .i64 pr, .int .i64 wt, .int .i64 pw, .int .i64 le, .int .i64 bu, .int .i64 ra, .int .i64 de] hgb))
      obtain ⟨v2, hwn⟩ : ∃ w9, v1.alloc (.cells #[strV nm, .int .i64 kd, .int .i64 pr, .int .i64 wt, .int .i64 pw, .int .i64 le, .int .i64 bu, .int .i64 ra, .int .i64 de] 32) = w9 := ⟨_, rfl⟩
      rw [hwn] at hHeld Hgz Hgb ⊢
      clear hb hwn hgb
      refine hK.out _ _ hHeld (fun hHeld => ?_)
      clear hK K
      try simp only [Act.put, List.setIfInBounds_toArray, List.set_cons_zero, List.set_cons_succ]
      refine wpAnyH_ready (rs := [7]) (by kernel_rfl) (by simp) ?_
      refine AllReadyH.cons rfl (fun K hK => ?_) AllReadyH.nil
      go_simp
      go_at_call 15
      refine (HCS _ (HU _ hHeld).2).mono ?_
      rintro e v3 ⟨A3, c3, rfl, hss, hb⟩
      replace Hgz := hide (Hgz.out.step hb)
      replace Hgb := hide (Hgb.out.step hb)
      replace hHeld := Below.step hHeld hb
      have HSS := hide (stay_slots hss)
      clear hss
      clear hb
      simp only []
      refine hK.out _ _ hHeld (fun hHeld => ?_)
      clear hK K
      try simp only [Act.put, List.setIfInBounds_toArray, List.set_cons_zero, List.set_cons_succ]
      refine wpAnyH_ready (rs := [8]) (by kernel_rfl) (by simp) ?_
      refine AllReadyH.cons rfl (fun K hK => ?_) AllReadyH.nil
      go_simp
      go_at_call 18
      refine (HRN _ gb A3 c3 (HU _ hHeld).1.2 Hgb.out.now HSS.out.now).mono ?_
      rintro e v4 ⟨A0, a0, c0, A1, a1, c1, lb, lc, rfl, hlb, hb⟩
      replace Hgz := hide (Hgz.out.step hb)
      replace Hgb := hide (Hgb.out.step hb)
      replace HSS := hide (HSS.out.step hb)
      replace hHeld := Below.step hHeld hb
      have HLB := hide (stay_at hlb)
      clear hlb
      clear hb
      simp only []
      refine hK.out _ _ hHeld (fun hHeld => ?_)
      clear hK K
      try simp only [Act.put, List.setIfInBounds_toArray, List.set_cons_zero, List.set_cons_succ]
      refine take_at (i := 9) 132 (v := .tuple #[.agg #[.slice A0 a0 c0, .slice A1 a1 c1, .slice (some ⟨lb, 0, none⟩) 1 lc], .int .i64 0]) rfl rfl (by kernel_rfl) (by kernel_rfl) (by kernel_rfl) (fun _ _ _ h => hP _ _ _ _ _ h) (Or.inl ⟨by rfl, by intro w_ hSw; go_simp⟩) (by assumption) ?_
      try simp only [Act.put, List.setIfInBounds_toArray, List.set_cons_zero, List.set_cons_succ]
      refine take_at (i := 10) 142 (v := .agg #[.slice A0 a0 c0, .slice A1 a1 c1, .slice (some ⟨lb, 0, none⟩) 1 lc]) rfl rfl (by kernel_rfl) (by kernel_rfl) (by kernel_rfl) (fun _ _ _ h => hP _ _ _ _ _ h) (Or.inl ⟨by rfl, by intro w_ hSw; go_simp⟩) (by assumption) ?_
      try simp only [Act.put, List.setIfInBounds_toArray, List.set_cons_zero, List.set_cons_succ]
      refine take_at (i := 11) 143 (v := .int .i64 0) rfl rfl (by kernel_rfl) (by kernel_rfl) (by kernel_rfl) (fun _ _ _ h => hP _ _ _ _ _ h) (Or.inl ⟨by rfl, by intro w_ hSw; go_simp⟩) (by assumption) ?_
      try simp only [Act.put, List.setIfInBounds_toArray, List.set_cons_zero, List.set_cons_succ]
      refine wpAnyH_ready (rs := [13]) (by kernel_rfl) (by simp) ?_
      refine AllReadyH.cons rfl (fun K hK => ?_) AllReadyH.nil
      refine step_store_rowF rfl 58 _ _ rfl gz #[.slice A0 a0 c0, .slice A1 a1 c1, .slice (some ⟨lb, 0, none⟩) 1 lc] rfl rfl 58 #[.slice none 0 0, .slice none 0 0, .slice none 0 0] Hgz.out.now (by kernel_rfl) rfl (by simp [Value.oneCell']) ?_
      have hne : lb ≠ gz := by intro e; have h1 := HLB.out.now; rw [e, Hgz.out.now.cell 0] at h1; simp at h1
      have HLE := hide (show (v4.setRow gz #[.slice A0 a0 c0, .slice A1 a1 c1, .slice (some ⟨lb, 0, none⟩) 1 lc]).cell? ⟨lb, 0, none⟩ = some (.int .i64 Z) from by rw [← HLB.out.now]; unfold World.cell?; rw [setRow_other v4 gz lb #[.slice A0 a0 c0, .slice A1 a1 c1, .slice (some ⟨lb, 0, none⟩) 1 lc] hne])
      replace hHeld := Below.row (g := gz) hHeld gzge #[.slice A0 a0 c0, .slice A1 a1 c1, .slice (some ⟨lb, 0, none⟩) 1 lc]
      have HSgz := hide (Hgz.out.now.row #[.slice A0 a0 c0, .slice A1 a1 c1, .slice (some ⟨lb, 0, none⟩) 1 lc])
      obtain ⟨v5, hwn⟩ : ∃ w9, v4.setRow gz #[.slice A0 a0 c0, .slice A1 a1 c1, .slice (some ⟨lb, 0, none⟩) 1 lc] = w9 := ⟨_, rfl⟩
      rw [hwn] at hHeld HSgz HLE ⊢
      clear hwn Hgz Hgb HSS HLB
      refine hK.out _ _ hHeld (fun hHeld => ?_)
      clear hK K
      try simp only [Act.put, List.setIfInBounds_toArray]
      refine take_at (i := 14) 18 (v := .int .i64 0) rfl rfl (by kernel_rfl) (by kernel_rfl) (by kernel_rfl) (fun _ _ _ h => hP _ _ _ _ _ h) (Or.inl ⟨by rfl, by intro w_ hSw; go_simp⟩) (by assumption) ?_
      try simp only [Act.put]
      refine wpAnyH_done (by kernel_rfl) ?_ _
      exact hQ gz gb A3 c3 A0 a0 c0 A1 a1 c1 lb lc v5 HSgz.out HLE.out hHeld
    · clear hgb
      go_simp
      go_at_call 15
      refine (HCS _ (HU _ hHeld).2).mono ?_
      rintro e v2 ⟨A3, c3, rfl, hss, hb⟩
      replace Hgz := hide (Hgz.out.step hb)
      replace hHeld := Below.step hHeld hb
      have HSS := hide (stay_slots hss)
      clear hss
      clear hb
      simp only []
      refine hK.out _ _ hHeld (fun hHeld => ?_)
      clear hK K
      try simp only [Act.put, List.setIfInBounds_toArray, List.set_cons_zero, List.set_cons_succ]
      obtain ⟨gb, hgb⟩ : ∃ g, v2.heap.size = g := ⟨_, rfl⟩
      refine wpAnyH_ready (rs := [2]) (by kernel_rfl) (by simp) ?_
      refine AllReadyH.cons rfl (fun K hK => ?_) AllReadyH.nil
      go_simp
      have hb := (Below.refl v2.heap.size v2).alloc (Nat.le_refl _) (.cells #[strV nm, .int .i64 kd, .int .i64 pr, .int .i64 wt, .int .i64 pw, .int .i64 le, .int .i64 bu, .int .i64 ra, .int .i64 de] 32)
      replace Hgz := hide (Hgz.out.step hb)
      replace HSS := hide (HSS.out.step hb)
      have gbge := Nat.le_trans hHeld.size (Nat.le_of_eq hgb)
      replace hHeld := Below.step hHeld hb
      have Hgb := hide (stay_blk (Blk.newN v2 32 #[strV nm, .int .i64 kd, .int .i64 pr, .int .i64 wt, .int .i64 pw, .int .i64 le, .int .i64 bu, .int .i64 ra, .int .i64 de] hgb))
      obtain ⟨v3, hwn⟩ : ∃ w9, v2.alloc (.cells #[strV nm, .int .i64 kd, .int .i64 pr, .int .i64 wt, .int .i64 pw, .int .i64 le, .int .i64 bu, .int .i64 ra, .int .i64 de] 32) = w9 := ⟨_, rfl⟩
      rw [hwn] at hHeld Hgz HSS Hgb ⊢
      clear hb hwn hgb
      refine hK.out _ _ hHeld (fun hHeld => ?_)
      clear hK K
      try simp only [Act.put, List.setIfInBounds_toArray, List.set_cons_zero, List.set_cons_succ]
      refine wpAnyH_ready (rs := [8]) (by kernel_rfl) (by simp) ?_
      refine AllReadyH.cons rfl (fun K hK => ?_) AllReadyH.nil
      go_simp
      go_at_call 18
      refine (HRN _ gb A3 c3 (HU _ hHeld).1.2 Hgb.out.now HSS.out.now).mono ?_
      rintro e v4 ⟨A0, a0, c0, A1, a1, c1, lb, lc, rfl, hlb, hb⟩
      replace Hgz := hide (Hgz.out.step hb)
      replace HSS := hide (HSS.out.step hb)
      replace Hgb := hide (Hgb.out.step hb)
      replace hHeld := Below.step hHeld hb
      have HLB := hide (stay_at hlb)
      clear hlb
      clear hb
      simp only []
      refine hK.out _ _ hHeld (fun hHeld => ?_)
      clear hK K
      try simp only [Act.put, List.setIfInBounds_toArray, List.set_cons_zero, List.set_cons_succ]
      refine take_at (i := 9) 132 (v := .tuple #[.agg #[.slice A0 a0 c0, .slice A1 a1 c1, .slice (some ⟨lb, 0, none⟩) 1 lc], .int .i64 0]) rfl rfl (by kernel_rfl) (by kernel_rfl) (by kernel_rfl) (fun _ _ _ h => hP _ _ _ _ _ h) (Or.inl ⟨by rfl, by intro w_ hSw; go_simp⟩) (by assumption) ?_
      try simp only [Act.put, List.setIfInBounds_toArray, List.set_cons_zero, List.set_cons_succ]
      refine take_at (i := 10) 142 (v := .agg #[.slice A0 a0 c0, .slice A1 a1 c1, .slice (some ⟨lb, 0, none⟩) 1 lc]) rfl rfl (by kernel_rfl) (by kernel_rfl) (by kernel_rfl) (fun _ _ _ h => hP _ _ _ _ _ h) (Or.inl ⟨by rfl, by intro w_ hSw; go_simp⟩) (by assumption) ?_
      try simp only [Act.put, List.setIfInBounds_toArray, List.set_cons_zero, List.set_cons_succ]
      refine take_at (i := 11) 143 (v := .int .i64 0) rfl rfl (by kernel_rfl) (by kernel_rfl) (by kernel_rfl) (fun _ _ _ h => hP _ _ _ _ _ h) (Or.inl ⟨by rfl, by intro w_ hSw; go_simp⟩) (by assumption) ?_
      try simp only [Act.put, List.setIfInBounds_toArray, List.set_cons_zero, List.set_cons_succ]
      refine wpAnyH_ready (rs := [13]) (by kernel_rfl) (by simp) ?_
      refine AllReadyH.cons rfl (fun K hK => ?_) AllReadyH.nil
      refine step_store_rowF rfl 58 _ _ rfl gz #[.slice A0 a0 c0, .slice A1 a1 c1, .slice (some ⟨lb, 0, none⟩) 1 lc] rfl rfl 58 #[.slice none 0 0, .slice none 0 0, .slice none 0 0] Hgz.out.now (by kernel_rfl) rfl (by simp [Value.oneCell']) ?_
      have hne : lb ≠ gz := by intro e; have h1 := HLB.out.now; rw [e, Hgz.out.now.cell 0] at h1; simp at h1
      have HLE := hide (show (v4.setRow gz #[.slice A0 a0 c0, .slice A1 a1 c1, .slice (some ⟨lb, 0, none⟩) 1 lc]).cell? ⟨lb, 0, none⟩ = some (.int .i64 Z) from by rw [← HLB.out.now]; unfold World.cell?; rw [setRow_other v4 gz lb #[.slice A0 a0 c0, .slice A1 a1 c1, .slice (some ⟨lb, 0, none⟩) 1 lc] hne])
      replace hHeld := Below.row (g := gz) hHeld gzge #[.slice A0 a0 c0, .slice A1 a1 c1, .slice (some ⟨lb, 0, none⟩) 1 lc]
      have HSgz := hide (Hgz.out.now.row #[.slice A0 a0 c0, .slice A1 a1 c1, .slice (some ⟨lb, 0, none⟩) 1 lc])
      obtain ⟨v5, hwn⟩ : ∃ w9, v4.setRow gz #[.slice A0 a0 c0, .slice A1 a1 c1, .slice (some ⟨lb, 0, none⟩) 1 lc] = w9 := ⟨_, rfl⟩
      rw [hwn] at hHeld HSgz HLE ⊢
      clear hwn Hgz HSS Hgb HLB
      refine hK.out _ _ hHeld (fun hHeld => ?_)
      clear hK K
      try simp only [Act.put, List.setIfInBounds_toArray]
      refine take_at (i := 14) 18 (v := .int .i64 0) rfl rfl (by kernel_rfl) (by kernel_rfl) (by kernel_rfl) (fun _ _ _ h => hP _ _ _ _ _ h) (Or.inl ⟨by rfl, by intro w_ hSw; go_simp⟩) (by assumption) ?_
      try simp only [Act.put]
      refine wpAnyH_done (by kernel_rfl) ?_ _
      exact hQ gz gb A3 c3 A0 a0 c0 A1 a1 c1 lb lc v5 HSgz.out HLE.out hHeld
end Go.Proofs.Ytppkibgemacdbaa
