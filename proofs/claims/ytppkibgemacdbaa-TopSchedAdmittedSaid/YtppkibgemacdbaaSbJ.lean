import Derived.Test.YtppkibgemacdbaaSbI
namespace Go.Proofs.Ytppkibgemacdbaa
open Go.RowKit Go.WideShapes Go.ChangeShapes

/-! slot of a run of any users: its drawn regions -/
set_option maxRecDepth 100000 in
set_option maxHeartbeats 16000000 in
theorem sl4 (Q : Exit → Act → World → Prop) (hP : ∀ c a d v w, Q (.panic c) (Act.put a d v) w → Q (.panic c) a w) (B C P : Int) (ab ao n c m c' : Nat) (D : Option Addr) (R U XB : Nat) (rb ro r qb qo q i kk : Nat) (ar tb : Int) (s : Usr) (wr : World) (x1 x2 x4 x7 x8 x9 x10 x11 x12 x13 x14 x15 x16 x17 x18 x19 x20 x21 x22 x23 x24 x25 x26 x27 x28 x29 x30 x31 x32 x33 x34 x35 x36 x37 x38 x39 x40 x41 x42 x43 x44 x45 x46 x47 x48 x49 x50 x51 x52 x53 x54 x55 x56 x57 x58 x59 x60 x61 x62 x63 x64 x65 x66 x67 x68 x69 x70 x71 x72 x73 x74 x75 x76 x77 x78 x79 x80 x81 x82 x83 x84 x85 x86 x87 x88 x89 x90 x91 x92 x93 x94 x95 x96 x97 x98 x99 x100 x101 x102 x103 x104 x105 x106 x107 x108 x109 x110 x111 x112 x113 x114 x115 x116 x117 x118 x119 x120 x121 x122 x123 x124 x125 x126 x127 x128 x129 x130 x131 x132 x133 x134 : Value)
    (HT : But U wr (fun W => (((Blk W R 93 #[.int .i64 B, .int .i64 C, .int .i64 P, .slice (some ⟨ab, ao, none⟩) n c, .slice D m c'] ∧ W.cell? ⟨ab, ao + kk, none⟩ = some (.int .i64 tb)) ∧ W.cell? ⟨rb, ro + i, none⟩ = some (.int .i64 (kk : Int))) ∧ W.cell? ⟨qb, qo + i, none⟩ = some (.int .i64 ar)) ∧ Blk W XB 44 #[.slice (some ⟨rb, ro, none⟩) m r, .slice (some ⟨qb, qo, none⟩) m q]))
    (HU : Blk wr U 97 #[strV s.x.nm, .int .i64 s.x.kd, .int .i64 s.x.pr, .int .i64 s.x.wt, .int .i64 s.x.pw, .int .i64 s.x.le, .int .i64 s.x.bu, .int .i64 s.x.ra, .int .i64 s.x.de, .int .i64 s.ne, .int .i64 s.wa, .int .i64 s.se, .int .i64 s.rt, .int .i64 s.bl]) (hi : (i : Int) < (m : Int)) (hkn : (kk : Int) < (n : Int)) (hY : IntKind.i64.wrap (s.wa + ar) = s.wa + ar)
    (hQ : ∀ y22 y23 y24 y25 y26 y27 y28 y29 y30 y31 y32 y33 y34 y35 y36 y37 y38 y39 y40 y41 y42 y43 y44 y45 y46 y47 y48 y49 y50 y51 y52 y53 wx, Blk wx U 97 #[strV s.x.nm, .int .i64 s.x.kd, .int .i64 s.x.pr, .int .i64 s.x.wt, .int .i64 s.x.pw, .int .i64 s.x.le, .int .i64 s.x.bu, .int .i64 s.x.ra, .int .i64 s.x.de, .int .i64 s.ne, .int .i64 (s.wa + ar), .int .i64 s.se, .int .i64 (tb), .int .i64 (0)] → wr.grownBy wx (some U) → Q .normal ⟨#[.pointer (some ⟨R, 0, none⟩), x1, x2, .pointer (some ⟨XB, 0, none⟩), x4, .int .i64 (i : Int), .pointer (some ⟨U, 0, none⟩), x7, x8, x9, x10, x11, x12, x13, x14, x15, x16, x17, x18, x19, x20, x21, y22, y23, y24, y25, y26, y27, y28, y29, y30, y31, y32, y33, y34, y35, y36, y37, y38, y39, y40, y41, y42, y43, y44, y45, y46, y47, y48, y49, y50, y51, y52, y53, x54, x55, x56, x57, x58, x59, x60, x61, x62, x63, x64, x65, x66, x67, x68, x69, x70, x71, x72, x73, x74, x75, x76, x77, x78, x79, x80, x81, x82, x83, x84, x85, x86, x87, x88, x89, x90, x91, x92, x93, x94, x95, x96, x97, x98, x99, x100, x101, x102, x103, x104, x105, x106, x107, x108, x109, x110, x111, x112, x113, x114, x115, x116, x117, x118, x119, x120, x121, x122, x123, x124, x125, x126, x127, x128, x129, x130, x131, x132, x133, x134], []⟩ wx) :
    (Code.region 4 (regOps Try.f37 4) true).wp Try.prog Q ⟨#[.pointer (some ⟨R, 0, none⟩), x1, x2, .pointer (some ⟨XB, 0, none⟩), x4, .int .i64 (i : Int), .pointer (some ⟨U, 0, none⟩), x7, x8, x9, x10, x11, x12, x13, x14, x15, x16, x17, x18, x19, x20, x21, x22, x23, x24, x25, x26, x27, x28, x29, x30, x31, x32, x33, x34, x35, x36, x37, x38, x39, x40, x41, x42, x43, x44, x45, x46, x47, x48, x49, x50, x51, x52, x53, x54, x55, x56, x57, x58, x59, x60, x61, x62, x63, x64, x65, x66, x67, x68, x69, x70, x71, x72, x73, x74, x75, x76, x77, x78, x79, x80, x81, x82, x83, x84, x85, x86, x87, x88, x89, x90, x91, x92, x93, x94, x95, x96, x97, x98, x99, x100, x101, x102, x103, x104, x105, x106, x107, x108, x109, x110, x111, x112, x113, x114, x115, x116, x117, x118, x119, x120, x121, x122, x123, x124, x125, x126, x127, x128, x129, x130, x131, x132, x133, x134], []⟩ wr := by
  obtain ⟨ops, hops⟩ : ∃ ops, ops = regOps Try.f37 4 := ⟨_, rfl⟩
  rw [← hops]
  simp [regOps, Try.f37, opsIn] at hops
  subst hops
  have f10 := HU.frozen 10
  have f12 := HU.frozen 12
  have f13 := HU.frozen 13
  have u12 : wr.cell? ⟨U, 12, none⟩ = some (.int .i64 s.rt) := HU.cell 12
  have u13 : wr.cell? ⟨U, 13, none⟩ = some (.int .i64 s.bl) := HU.cell 13
  have u10 : wr.cell? ⟨U, 10, none⟩ = some (.int .i64 s.wa) := HU.cell 10
  have HU0 := hide HU
  clear HU
  have hHeld := (⟨only_drew (World.grownBy.refl wr _), u10⟩ : wr.grownBy wr.drew (some U) ∧ wr.drew.cell? ⟨U, 10, none⟩ = some (.int .i64 s.wa))
  refine UpM.start (Z := [34]) (S := fun w' => wr.grownBy w' (some U) ∧ w'.cell? ⟨U, 10, none⟩ = some (.int .i64 s.wa)) (by kernel_rfl) ?_
  refine UpM.pure (i := 0) 22 (v := .pointer (some ⟨U, 0, none⟩)) rfl rfl (by kernel_rfl) (by kernel_rfl) (by kernel_rfl) (fun _ _ _ h => hP _ _ _ _ _ h) (Or.inl ⟨by rfl, by intro w_ hSw; go_simp⟩) ?_
  try simp only [Act.put, List.setIfInBounds_toArray, List.set_cons_zero, List.set_cons_succ]
  refine UpM.pure (i := 1) 23 (v := .pointer (some ⟨U, 0, none⟩)) rfl rfl (by kernel_rfl) (by kernel_rfl) (by kernel_rfl) (fun _ _ _ h => hP _ _ _ _ _ h) (Or.inl ⟨by rfl, by intro w_ hSw; go_simp⟩) ?_
  try simp only [Act.put, List.setIfInBounds_toArray, List.set_cons_zero, List.set_cons_succ]
  refine UpM.pure (i := 2) 24 (v := .pointer (some ⟨U, 0, none⟩)) rfl rfl (by kernel_rfl) (by kernel_rfl) (by kernel_rfl) (fun _ _ _ h => hP _ _ _ _ _ h) (Or.inl ⟨by rfl, by intro w_ hSw; go_simp⟩) ?_
  try simp only [Act.put, List.setIfInBounds_toArray, List.set_cons_zero, List.set_cons_succ]
  refine UpM.pure (i := 3) 25 (v := .pointer (some ⟨R, 0, none⟩)) rfl rfl (by kernel_rfl) (by kernel_rfl) (by kernel_rfl) (fun _ _ _ h => hP _ _ _ _ _ h) (Or.inl ⟨by rfl, by intro w_ hSw; go_simp⟩) ?_
  try simp only [Act.put, List.setIfInBounds_toArray, List.set_cons_zero, List.set_cons_succ]
  refine UpM.pure (i := 4) 26 (v := .pointer (some ⟨R, 0, none⟩)) rfl rfl (by kernel_rfl) (by kernel_rfl) (by kernel_rfl) (fun _ _ _ h => hP _ _ _ _ _ h) (Or.inl ⟨by rfl, by intro w_ hSw; go_simp⟩) ?_
  try simp only [Act.put, List.setIfInBounds_toArray, List.set_cons_zero, List.set_cons_succ]
  refine UpM.pure (i := 5) 27 (v := .pointer (some ⟨R, 0, none⟩)) rfl rfl (by kernel_rfl) (by kernel_rfl) (by kernel_rfl) (fun _ _ _ h => hP _ _ _ _ _ h) (Or.inl ⟨by rfl, by intro w_ hSw; go_simp⟩) ?_
  try simp only [Act.put, List.setIfInBounds_toArray, List.set_cons_zero, List.set_cons_succ]
  refine UpM.pure (i := 6) 28 (v := .pointer (some ⟨R, 0, none⟩)) rfl rfl (by kernel_rfl) (by kernel_rfl) (by kernel_rfl) (fun _ _ _ h => hP _ _ _ _ _ h) (Or.inl ⟨by rfl, by intro w_ hSw; go_simp⟩) ?_
  try simp only [Act.put, List.setIfInBounds_toArray, List.set_cons_zero, List.set_cons_succ]
  refine UpM.pure (i := 7) 29 (v := .pointer (some ⟨R, 3, none⟩)) rfl rfl (by kernel_rfl) (by kernel_rfl) (by kernel_rfl) (fun _ _ _ h => hP _ _ _ _ _ h) (Or.inl ⟨by rfl, by intro w_ hSw; go_simp⟩) ?_
  try simp only [Act.put, List.setIfInBounds_toArray, List.set_cons_zero, List.set_cons_succ]
  refine UpM.take (i := 8) 30 (v := .slice (some ⟨ab, ao, none⟩) n c) rfl rfl (by kernel_rfl) (by kernel_rfl) (by kernel_rfl) (by kernel_rfl) (fun _ _ _ h => hP _ _ _ _ _ h) hHeld (Or.inl ⟨by rfl, by intro w_ hSw; have c0 : w_.cell? ⟨R, 3, none⟩ = some (.slice (some ⟨ab, ao, none⟩) n c) := (HT _ hSw.1).1.1.1.1.cell 3; go_simp⟩) ?_
  try simp only [Act.put, List.setIfInBounds_toArray, List.set_cons_zero, List.set_cons_succ]
  refine UpM.pure (i := 9) 31 (v := .pointer (some ⟨XB, 0, none⟩)) rfl rfl (by kernel_rfl) (by kernel_rfl) (by kernel_rfl) (fun _ _ _ h => hP _ _ _ _ _ h) (Or.inl ⟨by rfl, by intro w_ hSw; go_simp⟩) ?_
  try simp only [Act.put, List.setIfInBounds_toArray, List.set_cons_zero, List.set_cons_succ]
  refine UpM.take (i := 10) 32 (v := .slice (some ⟨rb, ro, none⟩) m r) rfl rfl (by kernel_rfl) (by kernel_rfl) (by kernel_rfl) (by kernel_rfl) (fun _ _ _ h => hP _ _ _ _ _ h) hHeld (Or.inl ⟨by rfl, by intro w_ hSw; have c0 : w_.cell? ⟨XB, 0, none⟩ = some (.slice (some ⟨rb, ro, none⟩) m r) := (HT _ hSw.1).2.cell 0; go_simp⟩) ?_
  try simp only [Act.put, List.setIfInBounds_toArray, List.set_cons_zero, List.set_cons_succ]
  refine UpM.pure (i := 11) 33 (v := .int .i64 (i : Int)) rfl rfl (by kernel_rfl) (by kernel_rfl) (by kernel_rfl) (fun _ _ _ h => hP _ _ _ _ _ h) (Or.inl ⟨by rfl, by intro w_ hSw; go_simp⟩) ?_
  try simp only [Act.put, List.setIfInBounds_toArray, List.set_cons_zero, List.set_cons_succ]
  refine UpM.pure (i := 12) 34 (v := .pointer (some ⟨rb, ro + i, none⟩)) rfl rfl (by kernel_rfl) (by kernel_rfl) (by kernel_rfl) (fun _ _ _ h => hP _ _ _ _ _ h) (Or.inl ⟨by rfl, by intro w_ hSw; go_simp⟩) ?_
  try simp only [Act.put, List.setIfInBounds_toArray, List.set_cons_zero, List.set_cons_succ]
  refine UpM.take (i := 13) 35 (v := .int .i64 (kk : Int)) rfl rfl (by kernel_rfl) (by kernel_rfl) (by kernel_rfl) (by kernel_rfl) (fun _ _ _ h => hP _ _ _ _ _ h) hHeld (Or.inl ⟨by rfl, by intro w_ hSw; have c0 := (HT _ hSw.1).1.1.2; go_simp⟩) ?_
  try simp only [Act.put, List.setIfInBounds_toArray, List.set_cons_zero, List.set_cons_succ]
  refine UpM.pure (i := 14) 36 (v := .pointer (some ⟨ab, ao + kk, none⟩)) rfl rfl (by kernel_rfl) (by kernel_rfl) (by kernel_rfl) (fun _ _ _ h => hP _ _ _ _ _ h) (Or.inl ⟨by rfl, by intro w_ hSw; go_simp⟩) ?_
  try simp only [Act.put, List.setIfInBounds_toArray, List.set_cons_zero, List.set_cons_succ]
  refine UpM.take (i := 15) 37 (v := .int .i64 tb) rfl rfl (by kernel_rfl) (by kernel_rfl) (by kernel_rfl) (by kernel_rfl) (fun _ _ _ h => hP _ _ _ _ _ h) hHeld (Or.inl ⟨by rfl, by intro w_ hSw; have c0 := (HT _ hSw.1).1.1.1.2; go_simp⟩) ?_
  try simp only [Act.put, List.setIfInBounds_toArray, List.set_cons_zero, List.set_cons_succ]
  refine UpM.pure (i := 16) 38 (v := .pointer (some ⟨U, 0, none⟩)) rfl rfl (by kernel_rfl) (by kernel_rfl) (by kernel_rfl) (fun _ _ _ h => hP _ _ _ _ _ h) (Or.inl ⟨by rfl, by intro w_ hSw; go_simp⟩) ?_
  try simp only [Act.put, List.setIfInBounds_toArray, List.set_cons_zero, List.set_cons_succ]
  refine UpM.pure (i := 17) 39 (v := .pointer (some ⟨U, 0, none⟩)) rfl rfl (by kernel_rfl) (by kernel_rfl) (by kernel_rfl) (fun _ _ _ h => hP _ _ _ _ _ h) (Or.inl ⟨by rfl, by intro w_ hSw; go_simp⟩) ?_
  try simp only [Act.put, List.setIfInBounds_toArray, List.set_cons_zero, List.set_cons_succ]
  refine UpM.pure (i := 18) 40 (v := .pointer (some ⟨U, 10, none⟩)) rfl rfl (by kernel_rfl) (by kernel_rfl) (by kernel_rfl) (fun _ _ _ h => hP _ _ _ _ _ h) (Or.inl ⟨by rfl, by intro w_ hSw; go_simp⟩) ?_
  try simp only [Act.put, List.setIfInBounds_toArray, List.set_cons_zero, List.set_cons_succ]
  refine UpM.take (i := 19) 41 (v := .int .i64 s.wa) rfl rfl (by kernel_rfl) (by kernel_rfl) (by kernel_rfl) (by kernel_rfl) (fun _ _ _ h => hP _ _ _ _ _ h) hHeld (Or.inl ⟨by rfl, by intro w_ hSw; have c0 := hSw.2; go_simp⟩) ?_
  try simp only [Act.put, List.setIfInBounds_toArray, List.set_cons_zero, List.set_cons_succ]
  refine UpM.pure (i := 20) 42 (v := .pointer (some ⟨XB, 1, none⟩)) rfl rfl (by kernel_rfl) (by kernel_rfl) (by kernel_rfl) (fun _ _ _ h => hP _ _ _ _ _ h) (Or.inl ⟨by rfl, by intro w_ hSw; go_simp⟩) ?_
  try simp only [Act.put, List.setIfInBounds_toArray, List.set_cons_zero, List.set_cons_succ]
  refine UpM.take (i := 21) 43 (v := .slice (some ⟨qb, qo, none⟩) m q) rfl rfl (by kernel_rfl) (by kernel_rfl) (by kernel_rfl) (by kernel_rfl) (fun _ _ _ h => hP _ _ _ _ _ h) hHeld (Or.inl ⟨by rfl, by intro w_ hSw; have c0 : w_.cell? ⟨XB, 1, none⟩ = some (.slice (some ⟨qb, qo, none⟩) m q) := (HT _ hSw.1).2.cell 1; go_simp⟩) ?_
  try simp only [Act.put, List.setIfInBounds_toArray, List.set_cons_zero, List.set_cons_succ]
  refine UpM.pure (i := 22) 44 (v := .int .i64 (i : Int)) rfl rfl (by kernel_rfl) (by kernel_rfl) (by kernel_rfl) (fun _ _ _ h => hP _ _ _ _ _ h) (Or.inl ⟨by rfl, by intro w_ hSw; go_simp⟩) ?_
  try simp only [Act.put, List.setIfInBounds_toArray, List.set_cons_zero, List.set_cons_succ]
  refine UpM.pure (i := 23) 45 (v := .pointer (some ⟨qb, qo + i, none⟩)) rfl rfl (by kernel_rfl) (by kernel_rfl) (by kernel_rfl) (fun _ _ _ h => hP _ _ _ _ _ h) (Or.inl ⟨by rfl, by intro w_ hSw; go_simp⟩) ?_
  try simp only [Act.put, List.setIfInBounds_toArray, List.set_cons_zero, List.set_cons_succ]
  refine UpM.take (i := 24) 46 (v := .int .i64 ar) rfl rfl (by kernel_rfl) (by kernel_rfl) (by kernel_rfl) (by kernel_rfl) (fun _ _ _ h => hP _ _ _ _ _ h) hHeld (Or.inl ⟨by rfl, by intro w_ hSw; have c0 := (HT _ hSw.1).1.2; go_simp⟩) ?_
  try simp only [Act.put, List.setIfInBounds_toArray, List.set_cons_zero, List.set_cons_succ]
  refine UpM.pure (i := 25) 47 (v := .int .i64 (s.wa + ar)) rfl rfl (by kernel_rfl) (by kernel_rfl) (by kernel_rfl) (fun _ _ _ h => hP _ _ _ _ _ h) (Or.inl ⟨by rfl, by intro w_ hSw; go_simp⟩) ?_
  try simp only [Act.put, List.setIfInBounds_toArray, List.set_cons_zero, List.set_cons_succ]
  refine UpM.pure (i := 26) 48 (v := .pointer (some ⟨U, 0, none⟩)) rfl rfl (by kernel_rfl) (by kernel_rfl) (by kernel_rfl) (fun _ _ _ h => hP _ _ _ _ _ h) (Or.inl ⟨by rfl, by intro w_ hSw; go_simp⟩) ?_
  try simp only [Act.put, List.setIfInBounds_toArray, List.set_cons_zero, List.set_cons_succ]
  refine UpM.pure (i := 27) 49 (v := .pointer (some ⟨U, 12, none⟩)) rfl rfl (by kernel_rfl) (by kernel_rfl) (by kernel_rfl) (fun _ _ _ h => hP _ _ _ _ _ h) (Or.inl ⟨by rfl, by intro w_ hSw; go_simp⟩) ?_
  try simp only [Act.put, List.setIfInBounds_toArray, List.set_cons_zero, List.set_cons_succ]
  refine UpM.next (i := 28) (by kernel_rfl) rfl (fun K hK => ?_)
  go_simp
  refine hK.out _ _ (fun _ _ => ⟨only_drew (grown_set (World.grownBy.refl wr _) _ _), by go_simp⟩) ?_
  clear hK K
  try simp only [Act.put, List.setIfInBounds_toArray, List.set_cons_zero, List.set_cons_succ]
  refine UpM.pure (i := 29) 50 (v := .pointer (some ⟨U, 0, none⟩)) rfl rfl (by kernel_rfl) (by kernel_rfl) (by kernel_rfl) (fun _ _ _ h => hP _ _ _ _ _ h) (Or.inl ⟨by rfl, by intro w_ hSw; go_simp⟩) ?_
  try simp only [Act.put, List.setIfInBounds_toArray, List.set_cons_zero, List.set_cons_succ]
  refine UpM.pure (i := 30) 51 (v := .pointer (some ⟨U, 13, none⟩)) rfl rfl (by kernel_rfl) (by kernel_rfl) (by kernel_rfl) (fun _ _ _ h => hP _ _ _ _ _ h) (Or.inl ⟨by rfl, by intro w_ hSw; go_simp⟩) ?_
  try simp only [Act.put, List.setIfInBounds_toArray, List.set_cons_zero, List.set_cons_succ]
  refine UpM.next (i := 31) (by kernel_rfl) rfl (fun K hK => ?_)
  go_simp
  refine hK.out _ _ (fun _ _ => ⟨only_drew (grown_set (grown_set (World.grownBy.refl wr _) _ _) _ _), by go_simp⟩) ?_
  clear hK K
  try simp only [Act.put, List.setIfInBounds_toArray, List.set_cons_zero, List.set_cons_succ]
  refine UpM.pure (i := 32) 52 (v := .pointer (some ⟨U, 0, none⟩)) rfl rfl (by kernel_rfl) (by kernel_rfl) (by kernel_rfl) (fun _ _ _ h => hP _ _ _ _ _ h) (Or.inl ⟨by rfl, by intro w_ hSw; go_simp⟩) ?_
  try simp only [Act.put, List.setIfInBounds_toArray, List.set_cons_zero, List.set_cons_succ]
  refine UpM.pure (i := 33) 53 (v := .pointer (some ⟨U, 10, none⟩)) rfl rfl (by kernel_rfl) (by kernel_rfl) (by kernel_rfl) (fun _ _ _ h => hP _ _ _ _ _ h) (Or.inl ⟨by rfl, by intro w_ hSw; go_simp⟩) ?_
  try simp only [Act.put, List.setIfInBounds_toArray, List.set_cons_zero, List.set_cons_succ]
  refine UpM.next (i := 34) (by kernel_rfl) rfl (fun K hK => ?_)
  go_simp
  refine hK.out _ _ (fun h => (h (by decide)).elim) ?_
  clear hK K
  try simp only [Act.put, List.setIfInBounds_toArray, List.set_cons_zero, List.set_cons_succ]
  refine UpM.done (by kernel_rfl) ?_ _
  exact hQ _ _ _ _ _ _ _ _ _ _ _ _ _ _ _ _ _ _ _ _ _ _ _ _ _ _ _ _ _ _ _ _ _ (((HU0.out.set_ 12 (.int .i64 tb)).set_ 13 (.int .i64 0)).set_ 10 (.int .i64 (s.wa + ar))).drew (only_drew (grown_set (grown_set (grown_set (World.grownBy.refl wr _) 12 (.int .i64 tb)) 13 (.int .i64 0)) 10 (.int .i64 (s.wa + ar))))
set_option maxRecDepth 100000 in
set_option maxHeartbeats 16000000 in
theorem sl6 (Q : Exit → Act → World → Prop) (hP : ∀ c a d v w, Q (.panic c) (Act.put a d v) w → Q (.panic c) a w) (U : Nat) (X M : Int) (s : Usr) (wr : World) (x0 x1 x2 x3 x4 x5 x7 x8 x9 x10 x11 x12 x13 x14 x15 x16 x17 x18 x19 x20 x21 x22 x23 x24 x25 x26 x27 x28 x29 x30 x31 x32 x33 x34 x35 x36 x37 x38 x39 x40 x41 x42 x43 x44 x45 x46 x47 x48 x49 x50 x51 x52 x53 x54 x55 x56 x57 x58 x59 x60 x61 x62 x63 x64 x65 x66 x67 x68 x69 x70 x71 x72 x73 x74 x75 x76 x77 x78 x79 x80 x81 x82 x83 x84 x85 x86 x87 x88 x89 x90 x91 x92 x93 x94 x95 x96 x97 x98 x99 x100 x101 x102 x103 x104 x105 x106 x107 x108 x109 x110 x111 x112 x113 x114 x115 x116 x117 x118 x119 x120 x121 x122 x123 x124 x125 x126 x127 x128 x129 x130 x131 x132 x133 x134 : Value)
    (HU : Blk wr U 97 #[strV s.x.nm, .int .i64 s.x.kd, .int .i64 s.x.pr, .int .i64 s.x.wt, .int .i64 s.x.pw, .int .i64 s.x.le, .int .i64 s.x.bu, .int .i64 s.x.ra, .int .i64 s.x.de, .int .i64 s.ne, .int .i64 s.wa, .int .i64 s.se, .int .i64 s.rt, .int .i64 s.bl]) (HCE : ∀ W, Calls Try.prog 42 #[.int .i64 s.wa, .int .i64 s.rt] W fun e w' => e = .returned (.int .i64 X) ∧ W = w') (hM : min s.ne X = M)
    (hQ : ∀ y66 y67 y68 y69 y70 y71 y72 y73 y74 y75 y76 y77 y78 y79 y80 y81 y82 wx, Blk wx U 97 #[strV s.x.nm, .int .i64 s.x.kd, .int .i64 s.x.pr, .int .i64 s.x.wt, .int .i64 s.x.pw, .int .i64 s.x.le, .int .i64 s.x.bu, .int .i64 s.x.ra, .int .i64 s.x.de, .int .i64 s.ne, .int .i64 s.wa, .int .i64 s.se, .int .i64 s.rt, .int .i64 (M)] → wr.grownBy wx (some U) → Q .normal ⟨#[x0, x1, x2, x3, x4, x5, .pointer (some ⟨U, 0, none⟩), x7, x8, x9, x10, x11, x12, x13, x14, x15, x16, x17, x18, x19, x20, x21, x22, x23, x24, x25, x26, x27, x28, x29, x30, x31, x32, x33, x34, x35, x36, x37, x38, x39, x40, x41, x42, x43, x44, x45, x46, x47, x48, x49, x50, x51, x52, x53, x54, x55, x56, x57, x58, x59, x60, x61, x62, x63, x64, x65, y66, y67, y68, y69, y70, y71, y72, y73, y74, y75, y76, y77, y78, y79, y80, y81, y82, x83, x84, x85, x86, x87, x88, x89, x90, x91, x92, x93, x94, x95, x96, x97, x98, x99, x100, x101, x102, x103, x104, x105, x106, x107, x108, x109, x110, x111, x112, x113, x114, x115, x116, x117, x118, x119, x120, x121, x122, x123, x124, x125, x126, x127, x128, x129, x130, x131, x132, x133, x134], []⟩ wx) :
    (Code.region 6 (regOps Try.f37 6) true).wp Try.prog Q ⟨#[x0, x1, x2, x3, x4, x5, .pointer (some ⟨U, 0, none⟩), x7, x8, x9, x10, x11, x12, x13, x14, x15, x16, x17, x18, x19, x20, x21, x22, x23, x24, x25, x26, x27, x28, x29, x30, x31, x32, x33, x34, x35, x36, x37, x38, x39, x40, x41, x42, x43, x44, x45, x46, x47, x48, x49, x50, x51, x52, x53, x54, x55, x56, x57, x58, x59, x60, x61, x62, x63, x64, x65, x66, x67, x68, x69, x70, x71, x72, x73, x74, x75, x76, x77, x78, x79, x80, x81, x82, x83, x84, x85, x86, x87, x88, x89, x90, x91, x92, x93, x94, x95, x96, x97, x98, x99, x100, x101, x102, x103, x104, x105, x106, x107, x108, x109, x110, x111, x112, x113, x114, x115, x116, x117, x118, x119, x120, x121, x122, x123, x124, x125, x126, x127, x128, x129, x130, x131, x132, x133, x134], []⟩ wr := by
  obtain ⟨ops, hops⟩ : ∃ ops, ops = regOps Try.f37 6 := ⟨_, rfl⟩
  rw [← hops]
  simp [regOps, Try.f37, opsIn] at hops
  subst hops
  have u9 : wr.cell? ⟨U, 9, none⟩ = some (.int .i64 s.ne) := HU.cell 9
  have u10 : wr.cell? ⟨U, 10, none⟩ = some (.int .i64 s.wa) := HU.cell 10
  have u12 : wr.cell? ⟨U, 12, none⟩ = some (.int .i64 s.rt) := HU.cell 12
  have u13 : wr.cell? ⟨U, 13, none⟩ = some (.int .i64 s.bl) := HU.cell 13
  have f13 := HU.frozen 13
  have HU0 := hide HU
  clear HU
  have hHeld := (rfl : wr.drew = wr.drew)
  refine UpM.start (Z := [17]) (S := fun w' => w' = wr.drew) (by kernel_rfl) ?_
  refine UpM.pure (i := 0) 66 (v := .pointer (some ⟨U, 0, none⟩)) rfl rfl (by kernel_rfl) (by kernel_rfl) (by kernel_rfl) (fun _ _ _ h => hP _ _ _ _ _ h) (Or.inl ⟨by rfl, by intro w_ hSw; go_simp⟩) ?_
  try simp only [Act.put, List.setIfInBounds_toArray, List.set_cons_zero, List.set_cons_succ]
  refine UpM.pure (i := 1) 67 (v := .pointer (some ⟨U, 0, none⟩)) rfl rfl (by kernel_rfl) (by kernel_rfl) (by kernel_rfl) (fun _ _ _ h => hP _ _ _ _ _ h) (Or.inl ⟨by rfl, by intro w_ hSw; go_simp⟩) ?_
  try simp only [Act.put, List.setIfInBounds_toArray, List.set_cons_zero, List.set_cons_succ]
  refine UpM.pure (i := 2) 68 (v := .pointer (some ⟨U, 0, none⟩)) rfl rfl (by kernel_rfl) (by kernel_rfl) (by kernel_rfl) (fun _ _ _ h => hP _ _ _ _ _ h) (Or.inl ⟨by rfl, by intro w_ hSw; go_simp⟩) ?_
  try simp only [Act.put, List.setIfInBounds_toArray, List.set_cons_zero, List.set_cons_succ]
  refine UpM.pure (i := 3) 69 (v := .pointer (some ⟨U, 9, none⟩)) rfl rfl (by kernel_rfl) (by kernel_rfl) (by kernel_rfl) (fun _ _ _ h => hP _ _ _ _ _ h) (Or.inl ⟨by rfl, by intro w_ hSw; go_simp⟩) ?_
  try simp only [Act.put, List.setIfInBounds_toArray, List.set_cons_zero, List.set_cons_succ]
  refine UpM.take (i := 4) 70 (v := .int .i64 s.ne) rfl rfl (by kernel_rfl) (by kernel_rfl) (by kernel_rfl) (by kernel_rfl) (fun _ _ _ h => hP _ _ _ _ _ h) hHeld (Or.inl ⟨by rfl, by intro w_ hSw; rw [hSw]; go_simp⟩) ?_
  try simp only [Act.put, List.setIfInBounds_toArray, List.set_cons_zero, List.set_cons_succ]
  refine UpM.pure (i := 5) 71 (v := .pointer (some ⟨U, 0, none⟩)) rfl rfl (by kernel_rfl) (by kernel_rfl) (by kernel_rfl) (fun _ _ _ h => hP _ _ _ _ _ h) (Or.inl ⟨by rfl, by intro w_ hSw; go_simp⟩) ?_
  try simp only [Act.put, List.setIfInBounds_toArray, List.set_cons_zero, List.set_cons_succ]
  refine UpM.pure (i := 6) 72 (v := .pointer (some ⟨U, 0, none⟩)) rfl rfl (by kernel_rfl) (by kernel_rfl) (by kernel_rfl) (fun _ _ _ h => hP _ _ _ _ _ h) (Or.inl ⟨by rfl, by intro w_ hSw; go_simp⟩) ?_
  try simp only [Act.put, List.setIfInBounds_toArray, List.set_cons_zero, List.set_cons_succ]
  refine UpM.pure (i := 7) 73 (v := .pointer (some ⟨U, 10, none⟩)) rfl rfl (by kernel_rfl) (by kernel_rfl) (by kernel_rfl) (fun _ _ _ h => hP _ _ _ _ _ h) (Or.inl ⟨by rfl, by intro w_ hSw; go_simp⟩) ?_
  try simp only [Act.put, List.setIfInBounds_toArray, List.set_cons_zero, List.set_cons_succ]
  refine UpM.take (i := 8) 74 (v := .int .i64 s.wa) rfl rfl (by kernel_rfl) (by kernel_rfl) (by kernel_rfl) (by kernel_rfl) (fun _ _ _ h => hP _ _ _ _ _ h) hHeld (Or.inl ⟨by rfl, by intro w_ hSw; rw [hSw]; go_simp⟩) ?_
  try simp only [Act.put, List.setIfInBounds_toArray, List.set_cons_zero, List.set_cons_succ]
  refine UpM.pure (i := 9) 75 (v := .pointer (some ⟨U, 0, none⟩)) rfl rfl (by kernel_rfl) (by kernel_rfl) (by kernel_rfl) (fun _ _ _ h => hP _ _ _ _ _ h) (Or.inl ⟨by rfl, by intro w_ hSw; go_simp⟩) ?_
  try simp only [Act.put, List.setIfInBounds_toArray, List.set_cons_zero, List.set_cons_succ]
  refine UpM.pure (i := 10) 76 (v := .pointer (some ⟨U, 0, none⟩)) rfl rfl (by kernel_rfl) (by kernel_rfl) (by kernel_rfl) (fun _ _ _ h => hP _ _ _ _ _ h) (Or.inl ⟨by rfl, by intro w_ hSw; go_simp⟩) ?_
  try simp only [Act.put, List.setIfInBounds_toArray, List.set_cons_zero, List.set_cons_succ]
  refine UpM.pure (i := 11) 77 (v := .pointer (some ⟨U, 12, none⟩)) rfl rfl (by kernel_rfl) (by kernel_rfl) (by kernel_rfl) (fun _ _ _ h => hP _ _ _ _ _ h) (Or.inl ⟨by rfl, by intro w_ hSw; go_simp⟩) ?_
  try simp only [Act.put, List.setIfInBounds_toArray, List.set_cons_zero, List.set_cons_succ]
  refine UpM.take (i := 12) 78 (v := .int .i64 s.rt) rfl rfl (by kernel_rfl) (by kernel_rfl) (by kernel_rfl) (by kernel_rfl) (fun _ _ _ h => hP _ _ _ _ _ h) hHeld (Or.inl ⟨by rfl, by intro w_ hSw; rw [hSw]; go_simp⟩) ?_
  try simp only [Act.put, List.setIfInBounds_toArray, List.set_cons_zero, List.set_cons_succ]
  refine UpM.next (i := 13) (by kernel_rfl) rfl (fun K hK => ?_)
  go_simp
  go_at_call 42
  refine (HCE _).mono ?_
  rintro e w3 ⟨rfl, rfl⟩
  simp only []
  refine hK.out _ _ (fun _ h => h) ?_
  clear hK K
  try simp only [Act.put, List.setIfInBounds_toArray, List.set_cons_zero, List.set_cons_succ]
  refine UpM.pure (i := 14) 80 (v := .int .i64 M) rfl rfl (by kernel_rfl) (by kernel_rfl) (by kernel_rfl) (fun _ _ _ h => hP _ _ _ _ _ h) (Or.inl ⟨by rfl, by intro w_ hSw; go_simp; all_goals omega⟩) ?_
  try simp only [Act.put, List.setIfInBounds_toArray, List.set_cons_zero, List.set_cons_succ]
  refine UpM.pure (i := 15) 81 (v := .pointer (some ⟨U, 0, none⟩)) rfl rfl (by kernel_rfl) (by kernel_rfl) (by kernel_rfl) (fun _ _ _ h => hP _ _ _ _ _ h) (Or.inl ⟨by rfl, by intro w_ hSw; go_simp⟩) ?_
  try simp only [Act.put, List.setIfInBounds_toArray, List.set_cons_zero, List.set_cons_succ]
  refine UpM.pure (i := 16) 82 (v := .pointer (some ⟨U, 13, none⟩)) rfl rfl (by kernel_rfl) (by kernel_rfl) (by kernel_rfl) (fun _ _ _ h => hP _ _ _ _ _ h) (Or.inl ⟨by rfl, by intro w_ hSw; go_simp⟩) ?_
  try simp only [Act.put, List.setIfInBounds_toArray, List.set_cons_zero, List.set_cons_succ]
  refine UpM.next (i := 17) (by kernel_rfl) rfl (fun K hK => ?_)
  go_simp
  refine hK.out _ _ (fun h => (h (by decide)).elim) ?_
  clear hK K
  try simp only [Act.put, List.setIfInBounds_toArray, List.set_cons_zero, List.set_cons_succ]
  refine UpM.done (by kernel_rfl) ?_ _
  exact hQ _ _ _ _ _ _ _ _ _ _ _ _ _ _ _ _ _ _ (HU0.out.set_ 13 (.int .i64 M)).drew (only_drew (grown_set (World.grownBy.refl wr _) 13 (.int .i64 M)))
set_option maxRecDepth 100000 in
set_option maxHeartbeats 16000000 in
theorem sl17 (Q : Exit → Act → World → Prop) (hP : ∀ c a d v w, Q (.panic c) (Act.put a d v) w → Q (.panic c) a w) (U : Nat) (Z : Int) (s : Usr) (wr : World) (x0 x1 x2 x3 x4 x5 x6 x7 x8 x9 x12 x13 x14 x15 x16 x17 x18 x19 x20 x21 x22 x23 x24 x25 x26 x27 x28 x29 x30 x31 x32 x33 x34 x35 x36 x37 x38 x39 x40 x41 x42 x43 x44 x45 x46 x47 x48 x49 x50 x51 x52 x53 x54 x55 x56 x57 x58 x59 x60 x61 x62 x63 x64 x65 x66 x67 x68 x69 x70 x71 x72 x73 x74 x75 x76 x77 x78 x79 x80 x81 x82 x83 x84 x85 x86 x87 x88 x89 x90 x91 x92 x93 x94 x95 x96 x97 x98 x99 x100 x101 x102 x103 x104 x105 x106 x107 x108 x109 x110 x111 x112 x113 x114 x115 x116 x117 x118 x119 x120 x121 x122 x123 x124 x125 x126 x127 x128 x129 x130 x131 x132 x133 x134 : Value)
    (HU : Blk wr U 97 #[strV s.x.nm, .int .i64 s.x.kd, .int .i64 s.x.pr, .int .i64 s.x.wt, .int .i64 s.x.pw, .int .i64 s.x.le, .int .i64 s.x.bu, .int .i64 s.x.ra, .int .i64 s.x.de, .int .i64 s.ne, .int .i64 s.wa, .int .i64 s.se, .int .i64 s.rt, .int .i64 s.bl]) (hA : IntKind.i64.wrap (s.se + Z) = s.se + Z) (hB : IntKind.i64.wrap (s.wa - Z) = s.wa - Z)
    (hQ : ∀ y108 y109 y110 y111 y112 y113 y114 y115 y116 y117 y118 y119 y120 y121 y122 y123 y124 y125 wx, Blk wx U 97 #[strV s.x.nm, .int .i64 s.x.kd, .int .i64 s.x.pr, .int .i64 s.x.wt, .int .i64 s.x.pw, .int .i64 s.x.le, .int .i64 s.x.bu, .int .i64 s.x.ra, .int .i64 s.x.de, .int .i64 s.ne, .int .i64 (s.wa - Z), .int .i64 (s.se + Z), .int .i64 s.rt, .int .i64 s.bl] → wr.grownBy wx (some U) → Q .normal ⟨#[x0, x1, x2, x3, x4, x5, x6, x7, x8, x9, .pointer (some ⟨U, 0, none⟩), .int .i64 Z, x12, x13, x14, x15, x16, x17, x18, x19, x20, x21, x22, x23, x24, x25, x26, x27, x28, x29, x30, x31, x32, x33, x34, x35, x36, x37, x38, x39, x40, x41, x42, x43, x44, x45, x46, x47, x48, x49, x50, x51, x52, x53, x54, x55, x56, x57, x58, x59, x60, x61, x62, x63, x64, x65, x66, x67, x68, x69, x70, x71, x72, x73, x74, x75, x76, x77, x78, x79, x80, x81, x82, x83, x84, x85, x86, x87, x88, x89, x90, x91, x92, x93, x94, x95, x96, x97, x98, x99, x100, x101, x102, x103, x104, x105, x106, x107, y108, y109, y110, y111, y112, y113, y114, y115, y116, y117, y118, y119, y120, y121, y122, y123, y124, y125, x126, x127, x128, x129, x130, x131, x132, x133, x134], []⟩ wx) :
    (Code.region 17 (regOps Try.f37 17) true).wp Try.prog Q ⟨#[x0, x1, x2, x3, x4, x5, x6, x7, x8, x9, .pointer (some ⟨U, 0, none⟩), .int .i64 Z, x12, x13, x14, x15, x16, x17, x18, x19, x20, x21, x22, x23, x24, x25, x26, x27, x28, x29, x30, x31, x32, x33, x34, x35, x36, x37, x38, x39, x40, x41, x42, x43, x44, x45, x46, x47, x48, x49, x50, x51, x52, x53, x54, x55, x56, x57, x58, x59, x60, x61, x62, x63, x64, x65, x66, x67, x68, x69, x70, x71, x72, x73, x74, x75, x76, x77, x78, x79, x80, x81, x82, x83, x84, x85, x86, x87, x88, x89, x90, x91, x92, x93, x94, x95, x96, x97, x98, x99, x100, x101, x102, x103, x104, x105, x106, x107, x108, x109, x110, x111, x112, x113, x114, x115, x116, x117, x118, x119, x120, x121, x122, x123, x124, x125, x126, x127, x128, x129, x130, x131, x132, x133, x134], []⟩ wr := by
  obtain ⟨ops, hops⟩ : ∃ ops, ops = regOps Try.f37 17 := ⟨_, rfl⟩
  rw [← hops]
  simp [regOps, Try.f37, opsIn] at hops
  subst hops
  have u10 : wr.cell? ⟨U, 10, none⟩ = some (.int .i64 s.wa) := HU.cell 10
  have u11 : wr.cell? ⟨U, 11, none⟩ = some (.int .i64 s.se) := HU.cell 11
  have f10 := HU.frozen 10
  have f11 := HU.frozen 11
  have HU0 := hide HU
  clear HU
  have hHeld := (rfl : wr.drew = wr.drew)
  refine UpM.start (Z := [16, 19]) (S := fun w' => w' = wr.drew) (by kernel_rfl) ?_
  refine UpM.pure (i := 0) 108 (v := .pointer (some ⟨U, 0, none⟩)) rfl rfl (by kernel_rfl) (by kernel_rfl) (by kernel_rfl) (fun _ _ _ h => hP _ _ _ _ _ h) (Or.inl ⟨by rfl, by intro w_ hSw; go_simp⟩) ?_
  try simp only [Act.put, List.setIfInBounds_toArray, List.set_cons_zero, List.set_cons_succ]
  refine UpM.pure (i := 1) 109 (v := .pointer (some ⟨U, 0, none⟩)) rfl rfl (by kernel_rfl) (by kernel_rfl) (by kernel_rfl) (fun _ _ _ h => hP _ _ _ _ _ h) (Or.inl ⟨by rfl, by intro w_ hSw; go_simp⟩) ?_
  try simp only [Act.put, List.setIfInBounds_toArray, List.set_cons_zero, List.set_cons_succ]
  refine UpM.pure (i := 2) 110 (v := .pointer (some ⟨U, 0, none⟩)) rfl rfl (by kernel_rfl) (by kernel_rfl) (by kernel_rfl) (fun _ _ _ h => hP _ _ _ _ _ h) (Or.inl ⟨by rfl, by intro w_ hSw; go_simp⟩) ?_
  try simp only [Act.put, List.setIfInBounds_toArray, List.set_cons_zero, List.set_cons_succ]
  refine UpM.pure (i := 3) 111 (v := .pointer (some ⟨U, 0, none⟩)) rfl rfl (by kernel_rfl) (by kernel_rfl) (by kernel_rfl) (fun _ _ _ h => hP _ _ _ _ _ h) (Or.inl ⟨by rfl, by intro w_ hSw; go_simp⟩) ?_
  try simp only [Act.put, List.setIfInBounds_toArray, List.set_cons_zero, List.set_cons_succ]
  refine UpM.pure (i := 4) 112 (v := .pointer (some ⟨U, 11, none⟩)) rfl rfl (by kernel_rfl) (by kernel_rfl) (by kernel_rfl) (fun _ _ _ h => hP _ _ _ _ _ h) (Or.inl ⟨by rfl, by intro w_ hSw; go_simp⟩) ?_
  try simp only [Act.put, List.setIfInBounds_toArray, List.set_cons_zero, List.set_cons_succ]
  refine UpM.take (i := 5) 113 (v := .int .i64 s.se) rfl rfl (by kernel_rfl) (by kernel_rfl) (by kernel_rfl) (by kernel_rfl) (fun _ _ _ h => hP _ _ _ _ _ h) hHeld (Or.inl ⟨by rfl, by intro w_ hSw; rw [hSw]; go_simp⟩) ?_
  try simp only [Act.put, List.setIfInBounds_toArray, List.set_cons_zero, List.set_cons_succ]
  refine UpM.pure (i := 6) 114 (v := .int .i64 Z) rfl rfl (by kernel_rfl) (by kernel_rfl) (by kernel_rfl) (fun _ _ _ h => hP _ _ _ _ _ h) (Or.inl ⟨by rfl, by intro w_ hSw; go_simp⟩) ?_
  try simp only [Act.put, List.setIfInBounds_toArray, List.set_cons_zero, List.set_cons_succ]
  refine UpM.pure (i := 7) 115 (v := .int .i64 (s.se + Z)) rfl rfl (by kernel_rfl) (by kernel_rfl) (by kernel_rfl) (fun _ _ _ h => hP _ _ _ _ _ h) (Or.inl ⟨by rfl, by intro w_ hSw; go_simp⟩) ?_
  try simp only [Act.put, List.setIfInBounds_toArray, List.set_cons_zero, List.set_cons_succ]
  refine UpM.pure (i := 8) 116 (v := .pointer (some ⟨U, 0, none⟩)) rfl rfl (by kernel_rfl) (by kernel_rfl) (by kernel_rfl) (fun _ _ _ h => hP _ _ _ _ _ h) (Or.inl ⟨by rfl, by intro w_ hSw; go_simp⟩) ?_
  try simp only [Act.put, List.setIfInBounds_toArray, List.set_cons_zero, List.set_cons_succ]
  refine UpM.pure (i := 9) 117 (v := .pointer (some ⟨U, 0, none⟩)) rfl rfl (by kernel_rfl) (by kernel_rfl) (by kernel_rfl) (fun _ _ _ h => hP _ _ _ _ _ h) (Or.inl ⟨by rfl, by intro w_ hSw; go_simp⟩) ?_
  try simp only [Act.put, List.setIfInBounds_toArray, List.set_cons_zero, List.set_cons_succ]
  refine UpM.pure (i := 10) 118 (v := .pointer (some ⟨U, 10, none⟩)) rfl rfl (by kernel_rfl) (by kernel_rfl) (by kernel_rfl) (fun _ _ _ h => hP _ _ _ _ _ h) (Or.inl ⟨by rfl, by intro w_ hSw; go_simp⟩) ?_
  try simp only [Act.put, List.setIfInBounds_toArray, List.set_cons_zero, List.set_cons_succ]
  refine UpM.take (i := 11) 119 (v := .int .i64 s.wa) rfl rfl (by kernel_rfl) (by kernel_rfl) (by kernel_rfl) (by kernel_rfl) (fun _ _ _ h => hP _ _ _ _ _ h) hHeld (Or.inl ⟨by rfl, by intro w_ hSw; rw [hSw]; go_simp⟩) ?_
  try simp only [Act.put, List.setIfInBounds_toArray, List.set_cons_zero, List.set_cons_succ]
  refine UpM.pure (i := 12) 120 (v := .int .i64 Z) rfl rfl (by kernel_rfl) (by kernel_rfl) (by kernel_rfl) (fun _ _ _ h => hP _ _ _ _ _ h) (Or.inl ⟨by rfl, by intro w_ hSw; go_simp⟩) ?_
  try simp only [Act.put, List.setIfInBounds_toArray, List.set_cons_zero, List.set_cons_succ]
  refine UpM.pure (i := 13) 121 (v := .int .i64 (s.wa - Z)) rfl rfl (by kernel_rfl) (by kernel_rfl) (by kernel_rfl) (fun _ _ _ h => hP _ _ _ _ _ h) (Or.inl ⟨by rfl, by intro w_ hSw; go_simp⟩) ?_
  try simp only [Act.put, List.setIfInBounds_toArray, List.set_cons_zero, List.set_cons_succ]
  refine UpM.pure (i := 14) 122 (v := .pointer (some ⟨U, 0, none⟩)) rfl rfl (by kernel_rfl) (by kernel_rfl) (by kernel_rfl) (fun _ _ _ h => hP _ _ _ _ _ h) (Or.inl ⟨by rfl, by intro w_ hSw; go_simp⟩) ?_
  try simp only [Act.put, List.setIfInBounds_toArray, List.set_cons_zero, List.set_cons_succ]
  refine UpM.pure (i := 15) 123 (v := .pointer (some ⟨U, 11, none⟩)) rfl rfl (by kernel_rfl) (by kernel_rfl) (by kernel_rfl) (fun _ _ _ h => hP _ _ _ _ _ h) (Or.inl ⟨by rfl, by intro w_ hSw; go_simp⟩) ?_
  try simp only [Act.put, List.setIfInBounds_toArray, List.set_cons_zero, List.set_cons_succ]
  refine UpM.next (i := 16) (by kernel_rfl) rfl (fun K hK => ?_)
  go_simp
  refine hK.out _ _ (fun h => (h (by decide)).elim) ?_
  clear hK K
  try simp only [Act.put, List.setIfInBounds_toArray, List.set_cons_zero, List.set_cons_succ]
  refine UpM.pure (i := 17) 124 (v := .pointer (some ⟨U, 0, none⟩)) rfl rfl (by kernel_rfl) (by kernel_rfl) (by kernel_rfl) (fun _ _ _ h => hP _ _ _ _ _ h) (Or.inl ⟨by rfl, by intro w_ hSw; go_simp⟩) ?_
  try simp only [Act.put, List.setIfInBounds_toArray, List.set_cons_zero, List.set_cons_succ]
  refine UpM.pure (i := 18) 125 (v := .pointer (some ⟨U, 10, none⟩)) rfl rfl (by kernel_rfl) (by kernel_rfl) (by kernel_rfl) (fun _ _ _ h => hP _ _ _ _ _ h) (Or.inl ⟨by rfl, by intro w_ hSw; go_simp⟩) ?_
  try simp only [Act.put, List.setIfInBounds_toArray, List.set_cons_zero, List.set_cons_succ]
  refine UpM.next (i := 19) (by kernel_rfl) rfl (fun K hK => ?_)
  go_simp
  refine hK.out _ _ (fun h => (h (by decide)).elim) ?_
  clear hK K
  try simp only [Act.put, List.setIfInBounds_toArray, List.set_cons_zero, List.set_cons_succ]
  refine UpM.done (by kernel_rfl) ?_ _
  exact hQ _ _ _ _ _ _ _ _ _ _ _ _ _ _ _ _ _ _ _ ((HU0.out.set_ 11 (.int .i64 (s.se + Z))).set_ 10 (.int .i64 (s.wa - Z))).drew (only_drew (grown_set (grown_set (World.grownBy.refl wr _) 11 (.int .i64 (s.se + Z))) 10 (.int .i64 (s.wa - Z))))
end Go.Proofs.Ytppkibgemacdbaa
