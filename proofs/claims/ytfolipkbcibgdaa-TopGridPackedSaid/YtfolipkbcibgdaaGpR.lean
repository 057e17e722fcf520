import Derived.Test.YtfolipkbcibgdaaGpE
import Derived.Test.YtfolipkbcibgdaaUpP
namespace Go.Proofs.Ytfolipkbcibgdaa
open Go.RowKit Go.WideShapes Go.ChangeShapes

/-! the state of Parse at the example's text; its drawn regions over any rest -/
theorem results_rr_tmp {P : Program} {fn : Func} {p p2 q : Tmp} {ty ty2 : TypeId} (h : fn.results = #[.cell p ty, .cell p2 ty2, .tmp q]) (tmps : Array Value) (w : World) (g g2 : Nat) (t t2 : TypeId) (cs cs2 : Array Value) (d d2 : TypeDesc) (v : Value)
    (hp : tmps.getD p undef = .pointer (some ⟨g, 0, none⟩)) (hp2 : tmps.getD p2 undef = .pointer (some ⟨g2, 0, none⟩)) (hq : tmps.getD q undef = v) (hg : Blk w g t cs) (hg2 : Blk w g2 t2 cs2)
    (hu : P.underlying ty = some d) (hd : (match d with | .struct _ | .array _ _ => true | _ => false) = true) (hi : (P.info? ty).map (·.size) = some cs.size)
    (hu2 : P.underlying ty2 = some d2) (hd2 : (match d2 with | .struct _ | .array _ _ => true | _ => false) = true) (hi2 : (P.info? ty2).map (·.size) = some cs2.size) :
    (results fn tmps).run P w = .ok (.tuple #[.agg cs, .agg cs2, v]) w := by
  have hp' : tmps[p]?.getD undef = .pointer (some ⟨g, 0, none⟩) := by simpa using hp
  have hp2' : tmps[p2]?.getD undef = .pointer (some ⟨g2, 0, none⟩) := by simpa using hp2
  have hq' : tmps[q]?.getD undef = v := by simpa using hq
  simp [results, h, hp', hp2', hq', asAddr, run_loadVar_row w g t ty cs (0, 0) d hg hu hd hi, run_loadVar_row w g2 t2 ty2 cs2 (0, 0) d2 hg2 hu2 hd2 hi2]
def bgI (i : Nat) : Int := if i = 0 then 0 else 1
def nmI (i : Nat) : Bs := if i = 0 then [] else [99]
def ceI (i : Nat) : Int := if i = 0 then 0 else 4
def wiI (i : Nat) : Int := if i = 0 then 0 else 48
def pnI (i : Nat) : Nat := if i ≤ 1 then 0 else 1
def snI (i : Nat) : Nat := i - 2
/-- the state ahead of line i -/
structure PSt (g7 : Nat) (W1 : World) (i : Nat) (A3 A4 A9 A10 : Option Addr) (c3 c4 c9 c10 : Nat) (wr : World) : Prop where
  box : Blk wr g7 25 #[strV (nmI i), .int .i64 (ceI i), .int .i64 (wiI i), .slice A3 (pnI i) c3, .slice A4 (snI i) c4]
  o3 : wr.ownsRow W1.heap.size 56 3 (.slice A3 (pnI i) c3) (pnI i) (flatC Prt.cs (exP.take (pnI i)))
  o4 : wr.ownsRow W1.heap.size 82 11 (.slice A4 (snI i) c4) (snI i) (flatC Sig.cs (exS.take (snI i)))
  o9 : i ≤ 1 → A9 = none ∧ c9 = 0
  o3n : i ≤ 1 → A3 = none ∧ c3 = 0
  o10 : ∃ xs, wr.ownsRow W1.heap.size 3 1 (.slice A10 (snI i) c10) (snI i) xs
  gr : W1.grownBy wr (some g7)
  hg : g7 < W1.heap.size
theorem PSt.bel {g7 : Nat} {W1 : World} {i : Nat} {A3 A4 A9 A10 : Option Addr} {c3 c4 c9 c10 : Nat} {wr w' : World} (h : PSt g7 W1 i A3 A4 A9 A10 c3 c4 c9 c10 wr) (hb : Below wr.heap.size wr w') : PSt g7 W1 i A3 A4 A9 A10 c3 c4 c9 c10 w' :=
  ⟨h.box.below hb h.box.lt, own_bel h.o3 hb, own_bel h.o4 hb, h.o9, h.o3n, by obtain ⟨xs, h⟩ := h.o10; exact ⟨xs, own_bel h hb⟩, h.gr.trans (only_of_below hb _), h.hg⟩
theorem stay_pst {g7 : Nat} {W1 : World} {i : Nat} {A3 A4 A9 A10 : Option Addr} {c3 c4 c9 c10 : Nat} {wr : World} (h : PSt g7 W1 i A3 A4 A9 A10 c3 c4 c9 c10 wr) : Stay wr (fun W => PSt g7 W1 i A3 A4 A9 A10 c3 c4 c9 c10 W) := fun _ hW => h.bel hW
theorem own_words {w : World} {base n c : Nat} {A : Option Addr} {ws : List (Bs × Nat)} (h : w.ownsRow base 107 2 (.slice A n c) n (flatC wdc ws)) (hn : ws.length = n) (h0 : 0 < n) : ∃ b o, A = some ⟨b, o, none⟩ ∧ base ≤ b ∧ ∀ k (hk : k < ws.length), w.cell? ⟨b, o + k * 2, none⟩ = some (strV (ws[k]'hk).1) ∧ w.cell? ⟨b, o + k * 2 + 1, none⟩ = some (.int .i64 ((ws[k]'hk).2 : Int)) := by
  have hr := Rws.of_own wdc_n h hn.symm
  obtain ⟨b, o, e, -⟩ := hr 0 (by omega)
  refine ⟨b, o, e, ?_, fun k hk => ?_⟩
  · subst e; exact (h.lt b rfl).1
  · obtain ⟨b', o', e', h1⟩ := hr k hk
    rw [e] at e'
    injection e' with e'
    injection e' with e1 e2
    subst e1 e2
    exact ⟨h1 0 _ rfl, h1 1 _ rfl⟩
theorem own_nums {w : World} {base n c : Nat} {A : Option Addr} {V : List Int} (h : w.ownsRow base 3 1 (.slice A n c) n (iv V)) (hn : V.length = n) (h0 : 0 < n) : ∃ b o, A = some ⟨b, o, none⟩ ∧ base ≤ b ∧ ∀ k (hk : k < V.length), w.cell? ⟨b, o + k, none⟩ = some (.int .i64 (V[k]'hk)) := by
  have hr := Sl.of_ownN h
  obtain ⟨b, o, e, -⟩ := hr.int (show 0 < V.length by omega)
  refine ⟨b, o, e, ?_, fun k hk => ?_⟩
  · subst e; exact (h.lt b rfl).1
  · obtain ⟨b', o', e', h1⟩ := hr.int hk
    rw [e] at e'
    injection e' with e'
    injection e' with e1 e2
    subst e1 e2
    exact h1
theorem cell_far {w : World} {b g o i : Nat} {u v : Value} (h : w.cell? ⟨b, o, none⟩ = some v) (hne : b ≠ g) : (w.setCell ⟨g, i, none⟩ u).cell? ⟨b, o, none⟩ = some v := by
  have hg := grown_one (World.grownBy.refl w (some g)) i u
  rw [← h]
  unfold World.cell?
  rw [hg.block b (lt_of_cell h) (by intro e; injection e with e; exact hne e)]
theorem txts_u : Try.prog.underlying 101 = some (.slice (Try.prog.elem 101)) := by kernel_rfl
theorem size_txt (w : World) : (sizeOf 9).run Try.prog w = .ok 1 w := by kernel_rfl
theorem slice_txt (b off len c k : Nat) (hk : k ≤ c) (hc : 0 < c) (w : World) : (Instr.sliceAt 101 (.slice (some ⟨b, off, none⟩) len c) none (some (.int .i64 (k : Int))) none).run Try.prog w = .ok (.slice (some ⟨b, off, none⟩) k c) w := by
  rw [run_sliceAt_slice w _ _ _ _ _ txts_u, run_slice_h w _ _ _ _ txts_u .i64 (k : Int) (by omega) (by omega), show Try.prog.elem 101 = 9 by kernel_rfl, size_txt]
  simp only [Result.andThen_ok, sliced, if_neg (show ¬ c = 0 by omega), Option.map_some, add_lit, Nat.zero_mul, Nat.add_zero, Nat.sub_zero, Int.toNat_natCast]
theorem below_of_none {w w' : World} (h : w.grownBy w' none) : Below w.heap.size w w' := ⟨h.os, h.tape, h.output, h.size, fun k hk => h.block k hk (by simp)⟩
theorem prts_blk {w : World} {g t : Nat} {u0 u1 u2 : Int} (h : Blk w g t #[.int .i64 u0, .int .i64 u1, .int .i64 u2]) : Prts w (some ⟨g, 0, none⟩) [⟨u0, u1, u2⟩] := fun k hk => by
  obtain rfl : k = 0 := by simpa using hk
  refine ⟨g, 0, rfl, fun j u hu => ?_⟩
  have := h.cell j
  simp only [Nat.zero_mul, Nat.zero_add]
  rw [this]
  simpa [Prt.cs] using hu
theorem reads_blk1 {w : World} {g t : Nat} {a : Value} (h : Blk w g t #[a]) : Reads w w.heap.size 1 (some ⟨g, 0, none⟩) 1 [a] := ⟨rfl, fun _ => ⟨_, rfl, h.lt, fun j u hu => by
  have hj : j = 0 := by have := (List.getElem?_eq_some_iff.1 hu).1; simpa using this
  subst hj
  have := h.cell 0
  rw [add_lit]
  simp only [Nat.zero_add]
  rw [this]
  simpa using hu⟩⟩
def opsIn : Code → Nat → Option (Array Oper)
  | .region id ops _, k => if id = k then some ops else none
  | .seq a b, k => match opsIn a k with | some x => some x | none => opsIn b k
  | .loop a, k => opsIn a k
  | .block _ a, k => opsIn a k
  | .cond _ a b, k => match opsIn a k with | some x => some x | none => opsIn b k
  | _, _ => none
def regOps (f : Func) (k : Nat) : Array Oper := match f.body with
  | some c => (opsIn c k).getD #[]
  | none => #[]
set_option maxRecDepth 100000 in
set_option maxHeartbeats 16000000 in
theorem pr39 (Q : Exit → Act → World → Prop) (hP : ∀ c a d v w, Q (.panic c) (Act.put a d v) w → Q (.panic c) a w) (g7 b12 o12 c12 b16 o16 c16 i : Nat) (sl : Bs) (z0 z1 z2 z3 z4 : Value) (u1 u2 : Int) (wr : World) (x0 x1 x2 x3 x4 x5 x6 x8 x9 x10 x13 x14 x15 x17 x18 x19 x20 x21 x22 x23 x24 x25 x26 x27 x28 x29 x30 x31 x32 x33 x34 x35 x36 x37 x38 x39 x40 x41 x42 x43 x44 x45 x46 x47 x48 x49 x50 x51 x52 x53 x54 x55 x56 x57 x58 x59 x60 x61 x62 x63 x64 x65 x66 x67 x68 x69 x70 x71 x72 x73 x74 x75 x76 x77 x78 x79 x80 x81 x82 x83 x84 x85 x86 x87 x88 x89 x90 x91 x92 x93 x94 x95 x96 x97 x98 x99 x100 x101 x102 x103 x104 x105 x106 x107 x108 x109 x110 x111 x112 x113 x114 x115 x116 x117 x118 x119 x120 x121 x122 x123 x124 x125 x126 x127 x128 x129 x130 x131 x132 x133 x134 x135 x136 x137 x138 x139 x140 x141 x142 x143 x144 x145 x146 x147 x148 x149 x150 x151 x152 x153 x154 x155 x156 x157 x158 x159 x160 x161 x162 x163 x164 x165 x166 x167 x168 x169 x170 x171 x172 x173 x174 x175 x176 x177 x178 x179 x180 x181 x182 x183 x184 x185 x186 x187 x188 x189 x190 x191 x192 x193 x194 x195 x196 x197 x198 x199 x200 x201 x202 x203 x204 x205 x206 x207 x208 x209 x210 x211 x212 x213 x214 x215 x216 x217 x218 x219 x220 x221 x222 x223 x224 x225 x226 x227 x228 x229 x230 x231 x232 x233 x234 x235 x236 x237 x238 x239 x240 x241 x242 x243 x244 x245 x246 x247 x248 x249 x250 x251 x252 x253 x254 x255 x256 x257 x258 x259 x260 x261 x262 x263 x264 x265 x266 x267 x268 x269 x270 x271 x272 x273 x274 x275 x276 x277 x278 x279 x280 x281 x282 x283 x284 x285 x286 x287 x288 x289 x290 x291 x292 x293 x294 x295 x296 : Value)
    (hX : Blk wr g7 25 #[z0, z1, z2, z3, z4]) (r1 : wr.cell? ⟨b12, o12 + 2, none⟩ = some (.string ⟨sl.toArray⟩)) (r2 : wr.cell? ⟨b16, o16 + 1, none⟩ = some (.int .i64 u1)) (r3 : wr.cell? ⟨b16, o16 + 2, none⟩ = some (.int .i64 u2)) (ne12 : b12 ≠ g7) (ne16 : b16 ≠ g7) (w5 : IntKind.i64.wrap ((i : Int) + 1) = (i : Int) + 1)
    (hQ : ∀ (y223 y224 y225 y226 y227 y228 y229 y230 y231 y232 y233 y234 y235 y236 y237 : Value) (wx : World), ((wr.drew.setCell ⟨g7, 0, none⟩ (.string ⟨sl.toArray⟩)).setCell ⟨g7, 1, none⟩ (.int .i64 u1)).setCell ⟨g7, 2, none⟩ (.int .i64 u2) = wx → Q .normal ⟨#[x0, x1, x2, x3, x4, x5, x6, .pointer (some ⟨g7, 0, none⟩), .int .i64 ((i : Int) + 1), x9, x10, .int .i64 (i : Int), .slice (some ⟨b12, o12, none⟩) 4 c12, x13, x14, x15, .slice (some ⟨b16, o16, none⟩) 3 c16, x17, x18, x19, x20, x21, x22, x23, x24, x25, x26, x27, x28, x29, x30, x31, x32, x33, x34, x35, x36, x37, x38, x39, x40, x41, x42, x43, x44, x45, x46, x47, x48, x49, x50, x51, x52, x53, x54, x55, x56, x57, x58, x59, x60, x61, x62, x63, x64, x65, x66, x67, x68, x69, x70, x71, x72, x73, x74, x75, x76, x77, x78, x79, x80, x81, x82, x83, x84, x85, x86, x87, x88, x89, x90, x91, x92, x93, x94, x95, x96, x97, x98, x99, x100, x101, x102, x103, x104, x105, x106, x107, x108, x109, x110, x111, x112, x113, x114, x115, x116, x117, x118, x119, x120, x121, x122, x123, x124, x125, x126, x127, x128, x129, x130, x131, x132, x133, x134, x135, x136, x137, x138, x139, x140, x141, x142, x143, x144, x145, x146, x147, x148, x149, x150, x151, x152, x153, x154, x155, x156, x157, x158, x159, x160, x161, x162, x163, x164, x165, x166, x167, x168, x169, x170, x171, x172, x173, x174, x175, x176, x177, x178, x179, x180, x181, x182, x183, x184, x185, x186, x187, x188, x189, x190, x191, x192, x193, x194, x195, x196, x197, x198, x199, x200, x201, x202, x203, x204, x205, x206, x207, x208, x209, x210, x211, x212, x213, x214, x215, x216, x217, x218, x219, x220, x221, x222, y223, y224, y225, y226, y227, y228, y229, y230, y231, y232, y233, y234, y235, y236, y237, x238, x239, x240, x241, x242, x243, x244, x245, x246, x247, x248, x249, x250, x251, x252, x253, x254, x255, x256, x257, x258, x259, x260, x261, x262, x263, x264, x265, x266, x267, x268, x269, x270, x271, x272, x273, x274, x275, x276, x277, x278, x279, x280, x281, x282, x283, x284, x285, x286, x287, x288, x289, x290, x291, x292, x293, x294, x295, x296], []⟩ wx) :
    (Code.region 39 (regOps Try.f31 39) true).wp Try.prog Q ⟨#[x0, x1, x2, x3, x4, x5, x6, .pointer (some ⟨g7, 0, none⟩), x8, x9, x10, .int .i64 (i : Int), .slice (some ⟨b12, o12, none⟩) 4 c12, x13, x14, x15, .slice (some ⟨b16, o16, none⟩) 3 c16, x17, x18, x19, x20, x21, x22, x23, x24, x25, x26, x27, x28, x29, x30, x31, x32, x33, x34, x35, x36, x37, x38, x39, x40, x41, x42, x43, x44, x45, x46, x47, x48, x49, x50, x51, x52, x53, x54, x55, x56, x57, x58, x59, x60, x61, x62, x63, x64, x65, x66, x67, x68, x69, x70, x71, x72, x73, x74, x75, x76, x77, x78, x79, x80, x81, x82, x83, x84, x85, x86, x87, x88, x89, x90, x91, x92, x93, x94, x95, x96, x97, x98, x99, x100, x101, x102, x103, x104, x105, x106, x107, x108, x109, x110, x111, x112, x113, x114, x115, x116, x117, x118, x119, x120, x121, x122, x123, x124, x125, x126, x127, x128, x129, x130, x131, x132, x133, x134, x135, x136, x137, x138, x139, x140, x141, x142, x143, x144, x145, x146, x147, x148, x149, x150, x151, x152, x153, x154, x155, x156, x157, x158, x159, x160, x161, x162, x163, x164, x165, x166, x167, x168, x169, x170, x171, x172, x173, x174, x175, x176, x177, x178, x179, x180, x181, x182, x183, x184, x185, x186, x187, x188, x189, x190, x191, x192, x193, x194, x195, x196, x197, x198, x199, x200, x201, x202, x203, x204, x205, x206, x207, x208, x209, x210, x211, x212, x213, x214, x215, x216, x217, x218, x219, x220, x221, x222, x223, x224, x225, x226, x227, x228, x229, x230, x231, x232, x233, x234, x235, x236, x237, x238, x239, x240, x241, x242, x243, x244, x245, x246, x247, x248, x249, x250, x251, x252, x253, x254, x255, x256, x257, x258, x259, x260, x261, x262, x263, x264, x265, x266, x267, x268, x269, x270, x271, x272, x273, x274, x275, x276, x277, x278, x279, x280, x281, x282, x283, x284, x285, x286, x287, x288, x289, x290, x291, x292, x293, x294, x295, x296], []⟩ wr := by
  obtain ⟨ops, hops⟩ : ∃ ops, ops = regOps Try.f31 39 := ⟨_, rfl⟩
  rw [← hops]
  simp [regOps, Try.f31, opsIn] at hops
  subst hops
  have HX := hide (hX.drewN 1)
  refine wp_region_held_drew (S := fun w_ => (w_.cell? ⟨b12, o12 + 2, none⟩ = some (.string ⟨sl.toArray⟩) ∧ w_.cell? ⟨b16, o16 + 1, none⟩ = some (.int .i64 u1)) ∧ w_.cell? ⟨b16, o16 + 2, none⟩ = some (.int .i64 u2)) (by kernel_rfl) ⟨⟨r1, r2⟩, r3⟩ (fun hHeld => ?_)
  change Hid (Blk wr.drew _ _ _) at HX
  replace hHeld : (wr.drew.cell? ⟨b12, o12 + 2, none⟩ = some (.string ⟨sl.toArray⟩) ∧ wr.drew.cell? ⟨b16, o16 + 1, none⟩ = some (.int .i64 u1)) ∧ wr.drew.cell? ⟨b16, o16 + 2, none⟩ = some (.int .i64 u2) := hHeld
  clear r1 r2 r3 hX
  refine take_at (i := 0) 223 (v := .slice (some ⟨b12, o12, none⟩) 4 c12) rfl rfl (by kernel_rfl) (by kernel_rfl) (by kernel_rfl) (fun _ _ _ h => hP _ _ _ _ _ h) (Or.inl ⟨by rfl, by intro w_ hSw; go_simp⟩) (by assumption) ?_
  try simp only [Act.put, List.setIfInBounds_toArray, List.set_cons_zero, List.set_cons_succ]
  refine take_at (i := 1) 224 (v := .pointer (some ⟨b12, o12 + 2, none⟩)) rfl rfl (by kernel_rfl) (by kernel_rfl) (by kernel_rfl) (fun _ _ _ h => hP _ _ _ _ _ h) (Or.inl ⟨by rfl, by intro w_ hSw; go_simp⟩) (by assumption) ?_
  try simp only [Act.put, List.setIfInBounds_toArray, List.set_cons_zero, List.set_cons_succ]
  refine take_at (i := 2) 225 (v := .pointer (some ⟨b12, o12 + 2, none⟩)) rfl rfl (by kernel_rfl) (by kernel_rfl) (by kernel_rfl) (fun _ _ _ h => hP _ _ _ _ _ h) (Or.inl ⟨by rfl, by intro w_ hSw; go_simp⟩) (by assumption) ?_
  try simp only [Act.put, List.setIfInBounds_toArray, List.set_cons_zero, List.set_cons_succ]
  refine take_at (i := 3) 226 (v := .string ⟨sl.toArray⟩) rfl rfl (by kernel_rfl) (by kernel_rfl) (by kernel_rfl) (fun _ _ _ h => hP _ _ _ _ _ h) (Or.inl ⟨by rfl, by intro w_ hSw; have q1 := hSw.1.1; have q2 := hSw.1.2; have q3 := hSw.2; go_simp⟩) (by assumption) ?_
  try simp only [Act.put, List.setIfInBounds_toArray, List.set_cons_zero, List.set_cons_succ]
  refine take_at (i := 4) 227 (v := .slice (some ⟨b16, o16, none⟩) 3 c16) rfl rfl (by kernel_rfl) (by kernel_rfl) (by kernel_rfl) (fun _ _ _ h => hP _ _ _ _ _ h) (Or.inl ⟨by rfl, by intro w_ hSw; go_simp⟩) (by assumption) ?_
  try simp only [Act.put, List.setIfInBounds_toArray, List.set_cons_zero, List.set_cons_succ]
  refine take_at (i := 5) 228 (v := .pointer (some ⟨b16, o16 + 1, none⟩)) rfl rfl (by kernel_rfl) (by kernel_rfl) (by kernel_rfl) (fun _ _ _ h => hP _ _ _ _ _ h) (Or.inl ⟨by rfl, by intro w_ hSw; go_simp⟩) (by assumption) ?_
  try simp only [Act.put, List.setIfInBounds_toArray, List.set_cons_zero, List.set_cons_succ]
  refine take_at (i := 6) 229 (v := .int .i64 u1) rfl rfl (by kernel_rfl) (by kernel_rfl) (by kernel_rfl) (fun _ _ _ h => hP _ _ _ _ _ h) (Or.inl ⟨by rfl, by intro w_ hSw; have q1 := hSw.1.1; have q2 := hSw.1.2; have q3 := hSw.2; go_simp⟩) (by assumption) ?_
  try simp only [Act.put, List.setIfInBounds_toArray, List.set_cons_zero, List.set_cons_succ]
  refine take_at (i := 7) 230 (v := .slice (some ⟨b16, o16, none⟩) 3 c16) rfl rfl (by kernel_rfl) (by kernel_rfl) (by kernel_rfl) (fun _ _ _ h => hP _ _ _ _ _ h) (Or.inl ⟨by rfl, by intro w_ hSw; go_simp⟩) (by assumption) ?_
  try simp only [Act.put, List.setIfInBounds_toArray, List.set_cons_zero, List.set_cons_succ]
  refine take_at (i := 8) 231 (v := .pointer (some ⟨b16, o16 + 2, none⟩)) rfl rfl (by kernel_rfl) (by kernel_rfl) (by kernel_rfl) (fun _ _ _ h => hP _ _ _ _ _ h) (Or.inl ⟨by rfl, by intro w_ hSw; go_simp⟩) (by assumption) ?_
  try simp only [Act.put, List.setIfInBounds_toArray, List.set_cons_zero, List.set_cons_succ]
  refine take_at (i := 9) 232 (v := .int .i64 u2) rfl rfl (by kernel_rfl) (by kernel_rfl) (by kernel_rfl) (fun _ _ _ h => hP _ _ _ _ _ h) (Or.inl ⟨by rfl, by intro w_ hSw; have q1 := hSw.1.1; have q2 := hSw.1.2; have q3 := hSw.2; go_simp⟩) (by assumption) ?_
  try simp only [Act.put, List.setIfInBounds_toArray, List.set_cons_zero, List.set_cons_succ]
  refine take_at (i := 10) 233 (v := .int .i64 (i : Int)) rfl rfl (by kernel_rfl) (by kernel_rfl) (by kernel_rfl) (fun _ _ _ h => hP _ _ _ _ _ h) (Or.inl ⟨by rfl, by intro w_ hSw; go_simp⟩) (by assumption) ?_
  try simp only [Act.put, List.setIfInBounds_toArray, List.set_cons_zero, List.set_cons_succ]
  refine take_at (i := 11) 234 (v := .int .i64 ((i : Int) + 1)) rfl rfl (by kernel_rfl) (by kernel_rfl) (by kernel_rfl) (fun _ _ _ h => hP _ _ _ _ _ h) (Or.inl ⟨by rfl, by intro w_ hSw; go_simp⟩) (by assumption) ?_
  try simp only [Act.put, List.setIfInBounds_toArray, List.set_cons_zero, List.set_cons_succ]
  obtain ⟨v0, hv0⟩ : ∃ v0, wr.drew = v0 := ⟨_, rfl⟩
  rw [hv0] at hHeld HX hQ ⊢
  clear hv0
  refine take_at (i := 12) 235 (v := .pointer (some ⟨g7, 0, none⟩)) rfl rfl (by kernel_rfl) (by kernel_rfl) (by kernel_rfl) (fun _ _ _ h => hP _ _ _ _ _ h) (Or.inl ⟨by rfl, by intro w_ hSw; go_simp⟩) (by assumption) ?_
  try simp only [Act.put, List.setIfInBounds_toArray, List.set_cons_zero, List.set_cons_succ]
  have hf := HX.out.frozen 0
  have hc := HX.out.cell 0
  have hl := HX.out.lt
  refine wpAnyH_ready (rs := [13]) (by kernel_rfl) (by simp) ?_
  refine AllReadyH.cons rfl (fun K hK => ?_) AllReadyH.nil
  go_simp
  refine hK.out _ _ ⟨⟨cell_far hHeld.1.1 ne12, cell_far hHeld.1.2 ne16⟩, cell_far hHeld.2 ne16⟩ (fun hHeld => ?_)
  clear hK K
  try simp only [Act.put, List.setIfInBounds_toArray, List.set_cons_zero, List.set_cons_succ]
  clear hf hc hl
  replace HX := hide (show Blk (v0.setCell ⟨g7, 0, none⟩ (.string ⟨sl.toArray⟩)) g7 25 #[.string ⟨sl.toArray⟩, z1, z2, z3, z4] from HX.out.set_ 0 (.string ⟨sl.toArray⟩))
  obtain ⟨v1, hwn⟩ : ∃ w9, v0.setCell ⟨g7, 0, none⟩ (.string ⟨sl.toArray⟩) = w9 := ⟨_, rfl⟩
  rw [hwn] at hHeld HX hQ ⊢
  clear hwn
  refine take_at (i := 14) 236 (v := .pointer (some ⟨g7, 1, none⟩)) rfl rfl (by kernel_rfl) (by kernel_rfl) (by kernel_rfl) (fun _ _ _ h => hP _ _ _ _ _ h) (Or.inl ⟨by rfl, by intro w_ hSw; go_simp⟩) (by assumption) ?_
  try simp only [Act.put, List.setIfInBounds_toArray, List.set_cons_zero, List.set_cons_succ]
  have hf := HX.out.frozen 1
  have hc := HX.out.cell 1
  have hl := HX.out.lt
  refine wpAnyH_ready (rs := [15]) (by kernel_rfl) (by simp) ?_
  refine AllReadyH.cons rfl (fun K hK => ?_) AllReadyH.nil
  go_simp
  refine hK.out _ _ ⟨⟨cell_far hHeld.1.1 ne12, cell_far hHeld.1.2 ne16⟩, cell_far hHeld.2 ne16⟩ (fun hHeld => ?_)
  clear hK K
  try simp only [Act.put, List.setIfInBounds_toArray, List.set_cons_zero, List.set_cons_succ]
  clear hf hc hl
  replace HX := hide (show Blk (v1.setCell ⟨g7, 1, none⟩ (.int .i64 u1)) g7 25 #[.string ⟨sl.toArray⟩, .int .i64 u1, z2, z3, z4] from HX.out.set_ 1 (.int .i64 u1))
  obtain ⟨v2, hwn⟩ : ∃ w9, v1.setCell ⟨g7, 1, none⟩ (.int .i64 u1) = w9 := ⟨_, rfl⟩
  rw [hwn] at hHeld HX hQ ⊢
  clear hwn
  refine take_at (i := 16) 237 (v := .pointer (some ⟨g7, 2, none⟩)) rfl rfl (by kernel_rfl) (by kernel_rfl) (by kernel_rfl) (fun _ _ _ h => hP _ _ _ _ _ h) (Or.inl ⟨by rfl, by intro w_ hSw; go_simp⟩) (by assumption) ?_
  try simp only [Act.put, List.setIfInBounds_toArray, List.set_cons_zero, List.set_cons_succ]
  have hf := HX.out.frozen 2
  have hc := HX.out.cell 2
  have hl := HX.out.lt
  refine wpAnyH_ready (rs := [17]) (by kernel_rfl) (by simp) ?_
  refine AllReadyH.cons rfl (fun K hK => ?_) AllReadyH.nil
  go_simp
  refine hK.out _ _ ⟨⟨cell_far hHeld.1.1 ne12, cell_far hHeld.1.2 ne16⟩, cell_far hHeld.2 ne16⟩ (fun hHeld => ?_)
  clear hK K
  try simp only [Act.put, List.setIfInBounds_toArray, List.set_cons_zero, List.set_cons_succ]
  clear hf hc hl
  replace HX := hide (show Blk (v2.setCell ⟨g7, 2, none⟩ (.int .i64 u2)) g7 25 #[.string ⟨sl.toArray⟩, .int .i64 u1, .int .i64 u2, z3, z4] from HX.out.set_ 2 (.int .i64 u2))
  obtain ⟨v3, hwn⟩ : ∃ w9, v2.setCell ⟨g7, 2, none⟩ (.int .i64 u2) = w9 := ⟨_, rfl⟩
  rw [hwn] at hHeld HX hQ ⊢
  clear hwn
  refine take_at (i := 18) 8 (v := .int .i64 ((i : Int) + 1)) rfl rfl (by kernel_rfl) (by kernel_rfl) (by kernel_rfl) (fun _ _ _ h => hP _ _ _ _ _ h) (Or.inl ⟨by rfl, by intro w_ hSw; go_simp⟩) (by assumption) ?_
  try simp only [Act.put, List.setIfInBounds_toArray, List.set_cons_zero, List.set_cons_succ]
  refine wpAnyH_done (by kernel_rfl) ?_ _
  exact hQ _ _ _ _ _ _ _ _ _ _ _ _ _ _ _ _ rfl
set_option maxRecDepth 100000 in
set_option maxHeartbeats 16000000 in
theorem pr36 (Q : Exit → Act → World → Prop) (hP : ∀ c a d v w, Q (.panic c) (Act.put a d v) w → Q (.panic c) a w) (b16 o16 c16 : Nat) (s : Sig) (wr : World) (x0 x1 x2 x3 x4 x5 x6 x7 x8 x9 x10 x11 x12 x13 x14 x15 x17 x18 x19 x20 x21 x22 x23 x24 x25 x26 x27 x28 x29 x30 x31 x32 x33 x34 x35 x36 x37 x38 x39 x40 x41 x42 x43 x44 x45 x46 x47 x48 x49 x50 x51 x52 x53 x54 x55 x56 x57 x58 x59 x60 x61 x62 x63 x64 x65 x66 x67 x68 x69 x70 x71 x72 x73 x74 x75 x76 x77 x78 x79 x80 x81 x82 x83 x84 x85 x86 x87 x88 x89 x90 x91 x92 x93 x94 x95 x96 x97 x98 x99 x100 x101 x102 x103 x104 x105 x106 x107 x108 x109 x110 x111 x112 x113 x114 x115 x116 x117 x118 x119 x120 x121 x122 x123 x124 x125 x126 x127 x128 x129 x130 x131 x132 x133 x134 x135 x136 x137 x138 x139 x140 x141 x142 x143 x144 x145 x146 x147 x148 x149 x150 x151 x152 x153 x154 x155 x156 x157 x158 x159 x160 x161 x162 x163 x164 x165 x166 x167 x168 x169 x170 x171 x172 x173 x174 x175 x176 x177 x178 x179 x180 x181 x182 x183 x184 x185 x186 x187 x188 x189 x190 x191 x192 x193 x194 x195 x196 x197 x198 x199 x200 x201 x202 x203 x204 x205 x206 x207 x208 x209 x210 x211 x212 x213 x214 x215 x216 x217 x218 x219 x220 x221 x222 x223 x224 x225 x226 x227 x228 x229 x230 x231 x232 x233 x234 x235 x236 x237 x238 x239 x240 x241 x242 x243 x244 x245 x246 x247 x248 x249 x250 x251 x252 x253 x254 x255 x256 x257 x258 x259 x260 x261 x262 x263 x264 x265 x266 x267 x268 x269 x270 x271 x272 x273 x274 x275 x276 x277 x278 x279 x280 x281 x282 x283 x284 x285 x286 x287 x288 x289 x290 x291 x292 x293 x294 x295 x296 : Value)
    (r0 : wr.cell? ⟨b16, o16, none⟩ = some (.int .i64 s.kd)) (r1 : wr.cell? ⟨b16, o16 + 1, none⟩ = some (.int .i64 s.pa)) (r2 : wr.cell? ⟨b16, o16 + 2, none⟩ = some (.int .i64 s.pe)) (r3 : wr.cell? ⟨b16, o16 + 3, none⟩ = some (.int .i64 s.of_)) (r4 : wr.cell? ⟨b16, o16 + 4, none⟩ = some (.int .i64 s.sl)) (r5 : wr.cell? ⟨b16, o16 + 5, none⟩ = some (.int .i64 s.sy)) (r6 : wr.cell? ⟨b16, o16 + 6, none⟩ = some (.int .i64 s.sn)) (r7 : wr.cell? ⟨b16, o16 + 7, none⟩ = some (.int .i64 s.bk)) (r8 : wr.cell? ⟨b16, o16 + 8, none⟩ = some (.int .i64 s.bn)) (r9 : wr.cell? ⟨b16, o16 + 9, none⟩ = some (.int .i64 s.st)) (r10 : wr.cell? ⟨b16, o16 + 10, none⟩ = some (.int .i64 s.sh))
    (hQ : ∀ (y176 y177 y178 y179 y180 y181 y182 y183 y184 y185 y186 y187 y188 y189 y190 y191 y192 y193 y194 y195 y196 y197 y198 y199 y200 y201 y202 y203 y204 y205 y206 y207 y208 y209 : Value) (g21 : Nat) (wx : World), Blk wx g21 82 #[.int .i64 s.kd, .int .i64 s.pa, .int .i64 s.pe, .int .i64 s.of_, .int .i64 s.sl, .int .i64 s.sy, .int .i64 s.sn, .int .i64 s.bk, .int .i64 s.bn, .int .i64 s.st, .int .i64 s.sh] → Below wr.heap.size wr wx → Q .normal ⟨#[x0, x1, x2, x3, x4, x5, x6, x7, x8, x9, x10, x11, x12, x13, x14, x15, .slice (some ⟨b16, o16, none⟩) 11 c16, x17, x18, x19, x20, .pointer (some ⟨g21, 0, none⟩), x22, x23, x24, x25, x26, x27, x28, x29, x30, x31, x32, x33, x34, x35, x36, x37, x38, x39, x40, x41, x42, x43, x44, x45, x46, x47, x48, x49, x50, x51, x52, x53, x54, x55, x56, x57, x58, x59, x60, x61, x62, x63, x64, x65, x66, x67, x68, x69, x70, x71, x72, x73, x74, x75, x76, x77, x78, x79, x80, x81, x82, x83, x84, x85, x86, x87, x88, x89, x90, x91, x92, x93, x94, x95, x96, x97, x98, x99, x100, x101, x102, x103, x104, x105, x106, x107, x108, x109, x110, x111, x112, x113, x114, x115, x116, x117, x118, x119, x120, x121, x122, x123, x124, x125, x126, x127, x128, x129, x130, x131, x132, x133, x134, x135, x136, x137, x138, x139, x140, x141, x142, x143, x144, x145, x146, x147, x148, x149, x150, x151, x152, x153, x154, x155, x156, x157, x158, x159, x160, x161, x162, x163, x164, x165, x166, x167, x168, x169, x170, x171, x172, x173, x174, x175, y176, y177, y178, y179, y180, y181, y182, y183, y184, y185, y186, y187, y188, y189, y190, y191, y192, y193, y194, y195, y196, y197, y198, y199, y200, y201, y202, y203, y204, y205, y206, y207, y208, y209, x210, x211, x212, x213, x214, x215, x216, x217, x218, x219, x220, x221, x222, x223, x224, x225, x226, x227, x228, x229, x230, x231, x232, x233, x234, x235, x236, x237, x238, x239, x240, x241, x242, x243, x244, x245, x246, x247, x248, x249, x250, x251, x252, x253, x254, x255, x256, x257, x258, x259, x260, x261, x262, x263, x264, x265, x266, x267, x268, x269, x270, x271, x272, x273, x274, x275, x276, x277, x278, x279, x280, x281, x282, x283, x284, x285, x286, x287, x288, x289, x290, x291, x292, x293, x294, x295, x296], []⟩ wx) :
    (Code.region 36 (regOps Try.f31 36) true).wp Try.prog Q ⟨#[x0, x1, x2, x3, x4, x5, x6, x7, x8, x9, x10, x11, x12, x13, x14, x15, .slice (some ⟨b16, o16, none⟩) 11 c16, x17, x18, x19, x20, x21, x22, x23, x24, x25, x26, x27, x28, x29, x30, x31, x32, x33, x34, x35, x36, x37, x38, x39, x40, x41, x42, x43, x44, x45, x46, x47, x48, x49, x50, x51, x52, x53, x54, x55, x56, x57, x58, x59, x60, x61, x62, x63, x64, x65, x66, x67, x68, x69, x70, x71, x72, x73, x74, x75, x76, x77, x78, x79, x80, x81, x82, x83, x84, x85, x86, x87, x88, x89, x90, x91, x92, x93, x94, x95, x96, x97, x98, x99, x100, x101, x102, x103, x104, x105, x106, x107, x108, x109, x110, x111, x112, x113, x114, x115, x116, x117, x118, x119, x120, x121, x122, x123, x124, x125, x126, x127, x128, x129, x130, x131, x132, x133, x134, x135, x136, x137, x138, x139, x140, x141, x142, x143, x144, x145, x146, x147, x148, x149, x150, x151, x152, x153, x154, x155, x156, x157, x158, x159, x160, x161, x162, x163, x164, x165, x166, x167, x168, x169, x170, x171, x172, x173, x174, x175, x176, x177, x178, x179, x180, x181, x182, x183, x184, x185, x186, x187, x188, x189, x190, x191, x192, x193, x194, x195, x196, x197, x198, x199, x200, x201, x202, x203, x204, x205, x206, x207, x208, x209, x210, x211, x212, x213, x214, x215, x216, x217, x218, x219, x220, x221, x222, x223, x224, x225, x226, x227, x228, x229, x230, x231, x232, x233, x234, x235, x236, x237, x238, x239, x240, x241, x242, x243, x244, x245, x246, x247, x248, x249, x250, x251, x252, x253, x254, x255, x256, x257, x258, x259, x260, x261, x262, x263, x264, x265, x266, x267, x268, x269, x270, x271, x272, x273, x274, x275, x276, x277, x278, x279, x280, x281, x282, x283, x284, x285, x286, x287, x288, x289, x290, x291, x292, x293, x294, x295, x296], []⟩ wr := by
  obtain ⟨ops, hops⟩ : ∃ ops, ops = regOps Try.f31 36 := ⟨_, rfl⟩
  rw [← hops]
  simp [regOps, Try.f31, opsIn] at hops
  subst hops
  refine wp_region_held_drew (S := fun w_ => Below wr.heap.size wr w_) (by kernel_rfl) (below_drewN (Below.refl wr.heap.size wr) 1) (fun hHeld => ?_)
  obtain ⟨v0, hv0⟩ : ∃ v0, wr.drew = v0 := ⟨_, rfl⟩
  replace hHeld : Below wr.heap.size wr wr.drew := hHeld
  rw [hv0] at hHeld
  first | rw [hv0] | (change wpAnyH _ _ _ _ _ _ _ _ wr.drew; rw [hv0])
  clear hv0
  refine take_at (i := 0) 176 (v := .slice (some ⟨b16, o16, none⟩) 11 c16) rfl rfl (by kernel_rfl) (by kernel_rfl) (by kernel_rfl) (fun _ _ _ h => hP _ _ _ _ _ h) (Or.inl ⟨by rfl, by intro w_ hSw; go_simp⟩) (by assumption) ?_
  try simp only [Act.put, List.setIfInBounds_toArray, List.set_cons_zero, List.set_cons_succ]
  refine take_at (i := 1) 177 (v := .pointer (some ⟨b16, o16, none⟩)) rfl rfl (by kernel_rfl) (by kernel_rfl) (by kernel_rfl) (fun _ _ _ h => hP _ _ _ _ _ h) (Or.inl ⟨by rfl, by intro w_ hSw; go_simp⟩) (by assumption) ?_
  try simp only [Act.put, List.setIfInBounds_toArray, List.set_cons_zero, List.set_cons_succ]
  refine take_at (i := 2) 178 (v := .int .i64 s.kd) rfl rfl (by kernel_rfl) (by kernel_rfl) (by kernel_rfl) (fun _ _ _ h => hP _ _ _ _ _ h) (Or.inl ⟨by rfl, by intro w_ hSw; have e0 := (hSw.cell (lt_of_cell r0)).trans r0; go_simp⟩) (by assumption) ?_
  try simp only [Act.put, List.setIfInBounds_toArray, List.set_cons_zero, List.set_cons_succ]
  refine take_at (i := 3) 179 (v := .slice (some ⟨b16, o16, none⟩) 11 c16) rfl rfl (by kernel_rfl) (by kernel_rfl) (by kernel_rfl) (fun _ _ _ h => hP _ _ _ _ _ h) (Or.inl ⟨by rfl, by intro w_ hSw; go_simp⟩) (by assumption) ?_
  try simp only [Act.put, List.setIfInBounds_toArray, List.set_cons_zero, List.set_cons_succ]
  refine take_at (i := 4) 180 (v := .pointer (some ⟨b16, o16 + 1, none⟩)) rfl rfl (by kernel_rfl) (by kernel_rfl) (by kernel_rfl) (fun _ _ _ h => hP _ _ _ _ _ h) (Or.inl ⟨by rfl, by intro w_ hSw; go_simp⟩) (by assumption) ?_
  try simp only [Act.put, List.setIfInBounds_toArray, List.set_cons_zero, List.set_cons_succ]
  refine take_at (i := 5) 181 (v := .int .i64 s.pa) rfl rfl (by kernel_rfl) (by kernel_rfl) (by kernel_rfl) (fun _ _ _ h => hP _ _ _ _ _ h) (Or.inl ⟨by rfl, by intro w_ hSw; have e0 := (hSw.cell (lt_of_cell r1)).trans r1; go_simp⟩) (by assumption) ?_
  try simp only [Act.put, List.setIfInBounds_toArray, List.set_cons_zero, List.set_cons_succ]
  refine take_at (i := 6) 182 (v := .slice (some ⟨b16, o16, none⟩) 11 c16) rfl rfl (by kernel_rfl) (by kernel_rfl) (by kernel_rfl) (fun _ _ _ h => hP _ _ _ _ _ h) (Or.inl ⟨by rfl, by intro w_ hSw; go_simp⟩) (by assumption) ?_
  try simp only [Act.put, List.setIfInBounds_toArray, List.set_cons_zero, List.set_cons_succ]
  refine take_at (i := 7) 183 (v := .pointer (some ⟨b16, o16 + 2, none⟩)) rfl rfl (by kernel_rfl) (by kernel_rfl) (by kernel_rfl) (fun _ _ _ h => hP _ _ _ _ _ h) (Or.inl ⟨by rfl, by intro w_ hSw; go_simp⟩) (by assumption) ?_
  try simp only [Act.put, List.setIfInBounds_toArray, List.set_cons_zero, List.set_cons_succ]
  refine take_at (i := 8) 184 (v := .int .i64 s.pe) rfl rfl (by kernel_rfl) (by kernel_rfl) (by kernel_rfl) (fun _ _ _ h => hP _ _ _ _ _ h) (Or.inl ⟨by rfl, by intro w_ hSw; have e0 := (hSw.cell (lt_of_cell r2)).trans r2; go_simp⟩) (by assumption) ?_
  try simp only [Act.put, List.setIfInBounds_toArray, List.set_cons_zero, List.set_cons_succ]
  refine take_at (i := 9) 185 (v := .slice (some ⟨b16, o16, none⟩) 11 c16) rfl rfl (by kernel_rfl) (by kernel_rfl) (by kernel_rfl) (fun _ _ _ h => hP _ _ _ _ _ h) (Or.inl ⟨by rfl, by intro w_ hSw; go_simp⟩) (by assumption) ?_
  try simp only [Act.put, List.setIfInBounds_toArray, List.set_cons_zero, List.set_cons_succ]
  refine take_at (i := 10) 186 (v := .pointer (some ⟨b16, o16 + 3, none⟩)) rfl rfl (by kernel_rfl) (by kernel_rfl) (by kernel_rfl) (fun _ _ _ h => hP _ _ _ _ _ h) (Or.inl ⟨by rfl, by intro w_ hSw; go_simp⟩) (by assumption) ?_
  try simp only [Act.put, List.setIfInBounds_toArray, List.set_cons_zero, List.set_cons_succ]
  refine take_at (i := 11) 187 (v := .int .i64 s.of_) rfl rfl (by kernel_rfl) (by kernel_rfl) (by kernel_rfl) (fun _ _ _ h => hP _ _ _ _ _ h) (Or.inl ⟨by rfl, by intro w_ hSw; have e0 := (hSw.cell (lt_of_cell r3)).trans r3; go_simp⟩) (by assumption) ?_
  try simp only [Act.put, List.setIfInBounds_toArray, List.set_cons_zero, List.set_cons_succ]
  refine take_at (i := 12) 188 (v := .slice (some ⟨b16, o16, none⟩) 11 c16) rfl rfl (by kernel_rfl) (by kernel_rfl) (by kernel_rfl) (fun _ _ _ h => hP _ _ _ _ _ h) (Or.inl ⟨by rfl, by intro w_ hSw; go_simp⟩) (by assumption) ?_
  try simp only [Act.put, List.setIfInBounds_toArray, List.set_cons_zero, List.set_cons_succ]
  refine take_at (i := 13) 189 (v := .pointer (some ⟨b16, o16 + 4, none⟩)) rfl rfl (by kernel_rfl) (by kernel_rfl) (by kernel_rfl) (fun _ _ _ h => hP _ _ _ _ _ h) (Or.inl ⟨by rfl, by intro w_ hSw; go_simp⟩) (by assumption) ?_
  try simp only [Act.put, List.setIfInBounds_toArray, List.set_cons_zero, List.set_cons_succ]
  refine take_at (i := 14) 190 (v := .int .i64 s.sl) rfl rfl (by kernel_rfl) (by kernel_rfl) (by kernel_rfl) (fun _ _ _ h => hP _ _ _ _ _ h) (Or.inl ⟨by rfl, by intro w_ hSw; have e0 := (hSw.cell (lt_of_cell r4)).trans r4; go_simp⟩) (by assumption) ?_
  try simp only [Act.put, List.setIfInBounds_toArray, List.set_cons_zero, List.set_cons_succ]
  refine take_at (i := 15) 191 (v := .slice (some ⟨b16, o16, none⟩) 11 c16) rfl rfl (by kernel_rfl) (by kernel_rfl) (by kernel_rfl) (fun _ _ _ h => hP _ _ _ _ _ h) (Or.inl ⟨by rfl, by intro w_ hSw; go_simp⟩) (by assumption) ?_
  try simp only [Act.put, List.setIfInBounds_toArray, List.set_cons_zero, List.set_cons_succ]
  refine take_at (i := 16) 192 (v := .pointer (some ⟨b16, o16 + 5, none⟩)) rfl rfl (by kernel_rfl) (by kernel_rfl) (by kernel_rfl) (fun _ _ _ h => hP _ _ _ _ _ h) (Or.inl ⟨by rfl, by intro w_ hSw; go_simp⟩) (by assumption) ?_
  try simp only [Act.put, List.setIfInBounds_toArray, List.set_cons_zero, List.set_cons_succ]
  refine take_at (i := 17) 193 (v := .int .i64 s.sy) rfl rfl (by kernel_rfl) (by kernel_rfl) (by kernel_rfl) (fun _ _ _ h => hP _ _ _ _ _ h) (Or.inl ⟨by rfl, by intro w_ hSw; have e0 := (hSw.cell (lt_of_cell r5)).trans r5; go_simp⟩) (by assumption) ?_
  try simp only [Act.put, List.setIfInBounds_toArray, List.set_cons_zero, List.set_cons_succ]
  refine take_at (i := 18) 194 (v := .slice (some ⟨b16, o16, none⟩) 11 c16) rfl rfl (by kernel_rfl) (by kernel_rfl) (by kernel_rfl) (fun _ _ _ h => hP _ _ _ _ _ h) (Or.inl ⟨by rfl, by intro w_ hSw; go_simp⟩) (by assumption) ?_
  try simp only [Act.put, List.setIfInBounds_toArray, List.set_cons_zero, List.set_cons_succ]
  refine take_at (i := 19) 195 (v := .pointer (some ⟨b16, o16 + 6, none⟩)) rfl rfl (by kernel_rfl) (by kernel_rfl) (by kernel_rfl) (fun _ _ _ h => hP _ _ _ _ _ h) (Or.inl ⟨by rfl, by intro w_ hSw; go_simp⟩) (by assumption) ?_
  try simp only [Act.put, List.setIfInBounds_toArray, List.set_cons_zero, List.set_cons_succ]
  refine take_at (i := 20) 196 (v := .int .i64 s.sn) rfl rfl (by kernel_rfl) (by kernel_rfl) (by kernel_rfl) (fun _ _ _ h => hP _ _ _ _ _ h) (Or.inl ⟨by rfl, by intro w_ hSw; have e0 := (hSw.cell (lt_of_cell r6)).trans r6; go_simp⟩) (by assumption) ?_
  try simp only [Act.put, List.setIfInBounds_toArray, List.set_cons_zero, List.set_cons_succ]
  refine take_at (i := 21) 197 (v := .slice (some ⟨b16, o16, none⟩) 11 c16) rfl rfl (by kernel_rfl) (by kernel_rfl) (by kernel_rfl) (fun _ _ _ h => hP _ _ _ _ _ h) (Or.inl ⟨by rfl, by intro w_ hSw; go_simp⟩) (by assumption) ?_
  try simp only [Act.put, List.setIfInBounds_toArray, List.set_cons_zero, List.set_cons_succ]
  refine take_at (i := 22) 198 (v := .pointer (some ⟨b16, o16 + 7, none⟩)) rfl rfl (by kernel_rfl) (by kernel_rfl) (by kernel_rfl) (fun _ _ _ h => hP _ _ _ _ _ h) (Or.inl ⟨by rfl, by intro w_ hSw; go_simp⟩) (by assumption) ?_
  try simp only [Act.put, List.setIfInBounds_toArray, List.set_cons_zero, List.set_cons_succ]
  refine take_at (i := 23) 199 (v := .int .i64 s.bk) rfl rfl (by kernel_rfl) (by kernel_rfl) (by kernel_rfl) (fun _ _ _ h => hP _ _ _ _ _ h) (Or.inl ⟨by rfl, by intro w_ hSw; have e0 := (hSw.cell (lt_of_cell r7)).trans r7; go_simp⟩) (by assumption) ?_
  try simp only [Act.put, List.setIfInBounds_toArray, List.set_cons_zero, List.set_cons_succ]
  refine take_at (i := 24) 200 (v := .slice (some ⟨b16, o16, none⟩) 11 c16) rfl rfl (by kernel_rfl) (by kernel_rfl) (by kernel_rfl) (fun _ _ _ h => hP _ _ _ _ _ h) (Or.inl ⟨by rfl, by intro w_ hSw; go_simp⟩) (by assumption) ?_
  try simp only [Act.put, List.setIfInBounds_toArray, List.set_cons_zero, List.set_cons_succ]
  refine take_at (i := 25) 201 (v := .pointer (some ⟨b16, o16 + 8, none⟩)) rfl rfl (by kernel_rfl) (by kernel_rfl) (by kernel_rfl) (fun _ _ _ h => hP _ _ _ _ _ h) (Or.inl ⟨by rfl, by intro w_ hSw; go_simp⟩) (by assumption) ?_
  try simp only [Act.put, List.setIfInBounds_toArray, List.set_cons_zero, List.set_cons_succ]
  refine take_at (i := 26) 202 (v := .int .i64 s.bn) rfl rfl (by kernel_rfl) (by kernel_rfl) (by kernel_rfl) (fun _ _ _ h => hP _ _ _ _ _ h) (Or.inl ⟨by rfl, by intro w_ hSw; have e0 := (hSw.cell (lt_of_cell r8)).trans r8; go_simp⟩) (by assumption) ?_
  try simp only [Act.put, List.setIfInBounds_toArray, List.set_cons_zero, List.set_cons_succ]
  refine take_at (i := 27) 203 (v := .slice (some ⟨b16, o16, none⟩) 11 c16) rfl rfl (by kernel_rfl) (by kernel_rfl) (by kernel_rfl) (fun _ _ _ h => hP _ _ _ _ _ h) (Or.inl ⟨by rfl, by intro w_ hSw; go_simp⟩) (by assumption) ?_
  try simp only [Act.put, List.setIfInBounds_toArray, List.set_cons_zero, List.set_cons_succ]
  refine take_at (i := 28) 204 (v := .pointer (some ⟨b16, o16 + 9, none⟩)) rfl rfl (by kernel_rfl) (by kernel_rfl) (by kernel_rfl) (fun _ _ _ h => hP _ _ _ _ _ h) (Or.inl ⟨by rfl, by intro w_ hSw; go_simp⟩) (by assumption) ?_
  try simp only [Act.put, List.setIfInBounds_toArray, List.set_cons_zero, List.set_cons_succ]
  refine take_at (i := 29) 205 (v := .int .i64 s.st) rfl rfl (by kernel_rfl) (by kernel_rfl) (by kernel_rfl) (fun _ _ _ h => hP _ _ _ _ _ h) (Or.inl ⟨by rfl, by intro w_ hSw; have e0 := (hSw.cell (lt_of_cell r9)).trans r9; go_simp⟩) (by assumption) ?_
  try simp only [Act.put, List.setIfInBounds_toArray, List.set_cons_zero, List.set_cons_succ]
  refine take_at (i := 30) 206 (v := .slice (some ⟨b16, o16, none⟩) 11 c16) rfl rfl (by kernel_rfl) (by kernel_rfl) (by kernel_rfl) (fun _ _ _ h => hP _ _ _ _ _ h) (Or.inl ⟨by rfl, by intro w_ hSw; go_simp⟩) (by assumption) ?_
  try simp only [Act.put, List.setIfInBounds_toArray, List.set_cons_zero, List.set_cons_succ]
  refine take_at (i := 31) 207 (v := .pointer (some ⟨b16, o16 + 10, none⟩)) rfl rfl (by kernel_rfl) (by kernel_rfl) (by kernel_rfl) (fun _ _ _ h => hP _ _ _ _ _ h) (Or.inl ⟨by rfl, by intro w_ hSw; go_simp⟩) (by assumption) ?_
  try simp only [Act.put, List.setIfInBounds_toArray, List.set_cons_zero, List.set_cons_succ]
  refine take_at (i := 32) 208 (v := .int .i64 s.sh) rfl rfl (by kernel_rfl) (by kernel_rfl) (by kernel_rfl) (fun _ _ _ h => hP _ _ _ _ _ h) (Or.inl ⟨by rfl, by intro w_ hSw; have e0 := (hSw.cell (lt_of_cell r10)).trans r10; go_simp⟩) (by assumption) ?_
  try simp only [Act.put, List.setIfInBounds_toArray, List.set_cons_zero, List.set_cons_succ]
  refine take_at (i := 33) 209 (v := .agg #[.int .i64 s.kd, .int .i64 s.pa, .int .i64 s.pe, .int .i64 s.of_, .int .i64 s.sl, .int .i64 s.sy, .int .i64 s.sn, .int .i64 s.bk, .int .i64 s.bn, .int .i64 s.st, .int .i64 s.sh]) rfl rfl (by kernel_rfl) (by kernel_rfl) (by kernel_rfl) (fun _ _ _ h => hP _ _ _ _ _ h) (Or.inl ⟨by rfl, by intro w_ hSw; go_simp⟩) (by assumption) ?_
  try simp only [Act.put, List.setIfInBounds_toArray, List.set_cons_zero, List.set_cons_succ]
  obtain ⟨g21, hg21⟩ : ∃ g, v0.heap.size = g := ⟨_, rfl⟩
  refine wpAnyH_ready (rs := [34]) (by kernel_rfl) (by simp) ?_
  refine AllReadyH.cons rfl (fun K hK => ?_) AllReadyH.nil
  go_simp
  have hb := (Below.refl v0.heap.size v0).alloc (Nat.le_refl _) (.cells #[.int .i64 0, .int .i64 0, .int .i64 0, .int .i64 0, .int .i64 0, .int .i64 0, .int .i64 0, .int .i64 0, .int .i64 0, .int .i64 0, .int .i64 0] 82)
  have g21ge := Nat.le_trans hHeld.size (Nat.le_of_eq hg21)
  replace hHeld := Below.step hHeld hb
  have Hg21 := hide (stay_blk (Blk.newN v0 82 #[.int .i64 0, .int .i64 0, .int .i64 0, .int .i64 0, .int .i64 0, .int .i64 0, .int .i64 0, .int .i64 0, .int .i64 0, .int .i64 0, .int .i64 0] hg21))
  obtain ⟨v1, hwn⟩ : ∃ w9, v0.alloc (.cells #[.int .i64 0, .int .i64 0, .int .i64 0, .int .i64 0, .int .i64 0, .int .i64 0, .int .i64 0, .int .i64 0, .int .i64 0, .int .i64 0, .int .i64 0] 82) = w9 := ⟨_, rfl⟩
  rw [hwn] at hHeld Hg21 ⊢
  clear hb hwn hg21
  refine hK.out _ _ hHeld (fun hHeld => ?_)
  clear hK K
  try simp only [Act.put, List.setIfInBounds_toArray, List.set_cons_zero, List.set_cons_succ]
  refine wpAnyH_ready (rs := [35]) (by kernel_rfl) (by simp) ?_
  refine AllReadyH.cons rfl (fun K hK => ?_) AllReadyH.nil
  refine step_store_rowF rfl 82 _ _ rfl g21 #[.int .i64 s.kd, .int .i64 s.pa, .int .i64 s.pe, .int .i64 s.of_, .int .i64 s.sl, .int .i64 s.sy, .int .i64 s.sn, .int .i64 s.bk, .int .i64 s.bn, .int .i64 s.st, .int .i64 s.sh] rfl rfl 82 #[.int .i64 0, .int .i64 0, .int .i64 0, .int .i64 0, .int .i64 0, .int .i64 0, .int .i64 0, .int .i64 0, .int .i64 0, .int .i64 0, .int .i64 0] Hg21.out.now (by kernel_rfl) rfl (by simp [Value.oneCell']) ?_
  replace hHeld := Below.row (g := g21) hHeld g21ge #[.int .i64 s.kd, .int .i64 s.pa, .int .i64 s.pe, .int .i64 s.of_, .int .i64 s.sl, .int .i64 s.sy, .int .i64 s.sn, .int .i64 s.bk, .int .i64 s.bn, .int .i64 s.st, .int .i64 s.sh]
  have HSg21 := hide (Hg21.out.now.row #[.int .i64 s.kd, .int .i64 s.pa, .int .i64 s.pe, .int .i64 s.of_, .int .i64 s.sl, .int .i64 s.sy, .int .i64 s.sn, .int .i64 s.bk, .int .i64 s.bn, .int .i64 s.st, .int .i64 s.sh])
  obtain ⟨v2, hwn⟩ : ∃ w9, v1.setRow g21 #[.int .i64 s.kd, .int .i64 s.pa, .int .i64 s.pe, .int .i64 s.of_, .int .i64 s.sl, .int .i64 s.sy, .int .i64 s.sn, .int .i64 s.bk, .int .i64 s.bn, .int .i64 s.st, .int .i64 s.sh] = w9 := ⟨_, rfl⟩
  rw [hwn] at hHeld HSg21  ⊢
  clear hwn Hg21
  refine hK.out _ _ hHeld (fun hHeld => ?_)
  clear hK K
  try simp only [Act.put, List.setIfInBounds_toArray]
  refine wpAnyH_done (by kernel_rfl) ?_ _
  exact hQ _ _ _ _ _ _ _ _ _ _ _ _ _ _ _ _ _ _ _ _ _ _ _ _ _ _ _ _ _ _ _ _ _ _ _ _ HSg21.out hHeld
set_option maxRecDepth 100000 in
set_option maxHeartbeats 16000000 in
theorem pr41 (Q : Exit → Act → World → Prop) (hP : ∀ c a d v w, Q (.panic c) (Act.put a d v) w → Q (.panic c) a w) (g7 b16 o16 c16 i : Nat) (u0 u1 u2 : Int) (z0 z1 z2 z4 : Value) (wr : World) (x0 x1 x2 x3 x4 x5 x6 x8 x10 x12 x13 x14 x15 x17 x18 x19 x20 x21 x22 x23 x24 x25 x26 x27 x28 x29 x30 x31 x32 x33 x34 x35 x36 x37 x38 x39 x40 x41 x42 x43 x44 x45 x46 x47 x48 x49 x50 x51 x52 x53 x54 x55 x56 x57 x58 x59 x60 x61 x62 x63 x64 x65 x66 x67 x68 x69 x70 x71 x72 x73 x74 x75 x76 x77 x78 x79 x80 x81 x82 x83 x84 x85 x86 x87 x88 x89 x90 x91 x92 x93 x94 x95 x96 x97 x98 x99 x100 x101 x102 x103 x104 x105 x106 x107 x108 x109 x110 x111 x112 x113 x114 x115 x116 x117 x118 x119 x120 x121 x122 x123 x124 x125 x126 x127 x128 x129 x130 x131 x132 x133 x134 x135 x136 x137 x138 x139 x140 x141 x142 x143 x144 x145 x146 x147 x148 x149 x150 x151 x152 x153 x154 x155 x156 x157 x158 x159 x160 x161 x162 x163 x164 x165 x166 x167 x168 x169 x170 x171 x172 x173 x174 x175 x176 x177 x178 x179 x180 x181 x182 x183 x184 x185 x186 x187 x188 x189 x190 x191 x192 x193 x194 x195 x196 x197 x198 x199 x200 x201 x202 x203 x204 x205 x206 x207 x208 x209 x210 x211 x212 x213 x214 x215 x216 x217 x218 x219 x220 x221 x222 x223 x224 x225 x226 x227 x228 x229 x230 x231 x232 x233 x234 x235 x236 x237 x238 x239 x240 x241 x242 x243 x244 x245 x246 x247 x248 x249 x250 x251 x252 x253 x254 x255 x256 x257 x258 x259 x260 x261 x262 x263 x264 x265 x266 x267 x268 x269 x270 x271 x272 x273 x274 x275 x276 x277 x278 x279 x280 x281 x282 x283 x284 x285 x286 x287 x288 x289 x290 x291 x292 x293 x294 x295 x296 : Value)
    (hX : Blk wr g7 25 #[z0, z1, z2, .slice none 0 0, z4]) (r0 : wr.cell? ⟨b16, o16, none⟩ = some (.int .i64 u0)) (r1 : wr.cell? ⟨b16, o16 + 1, none⟩ = some (.int .i64 u1)) (r2 : wr.cell? ⟨b16, o16 + 2, none⟩ = some (.int .i64 u2)) (w5 : IntKind.i64.wrap ((i : Int) + 1) = (i : Int) + 1)
    (hQ : ∀ (y240 y241 y242 y243 y244 y245 y246 y247 y248 y249 y250 y251 y252 y253 y254 y255 y256 y257 y258 y259 : Value) (wy : World) (A : Option Addr) (c : Nat) (A' : Option Addr) (c' : Nat), Below wr.heap.size wr wy → wy.ownsRow wr.heap.size 56 3 (.slice A 1 c) 1 (flatC Prt.cs [⟨u0, u1, u2⟩]) → Q .normal ⟨#[x0, x1, x2, x3, x4, x5, x6, .pointer (some ⟨g7, 0, none⟩), x8, .slice A' 1 c', x10, .int .i64 (i : Int), x12, x13, x14, x15, .slice (some ⟨b16, o16, none⟩) 3 c16, x17, x18, x19, x20, x21, x22, x23, x24, x25, x26, x27, x28, x29, x30, x31, x32, x33, x34, x35, x36, x37, x38, x39, x40, x41, x42, x43, x44, x45, x46, x47, x48, x49, x50, x51, x52, x53, x54, x55, x56, x57, x58, x59, x60, x61, x62, x63, x64, x65, x66, x67, x68, x69, x70, x71, x72, x73, x74, x75, x76, x77, x78, x79, x80, x81, x82, x83, x84, x85, x86, x87, x88, x89, x90, x91, x92, x93, x94, x95, x96, x97, x98, x99, x100, x101, x102, x103, x104, x105, x106, x107, x108, x109, x110, x111, x112, x113, x114, x115, x116, x117, x118, x119, x120, x121, x122, x123, x124, x125, x126, x127, x128, x129, x130, x131, x132, x133, x134, x135, x136, x137, x138, x139, x140, x141, x142, x143, x144, x145, x146, x147, x148, x149, x150, x151, x152, x153, x154, x155, x156, x157, x158, x159, x160, x161, x162, x163, x164, x165, x166, x167, x168, x169, x170, x171, x172, x173, x174, x175, x176, x177, x178, x179, x180, x181, x182, x183, x184, x185, x186, x187, x188, x189, x190, x191, x192, x193, x194, x195, x196, x197, x198, x199, x200, x201, x202, x203, x204, x205, x206, x207, x208, x209, x210, x211, x212, x213, x214, x215, x216, x217, x218, x219, x220, x221, x222, x223, x224, x225, x226, x227, x228, x229, x230, x231, x232, x233, x234, x235, x236, x237, x238, x239, y240, y241, y242, y243, y244, y245, y246, y247, y248, y249, y250, y251, y252, y253, y254, y255, y256, y257, y258, y259, x260, x261, x262, x263, x264, x265, x266, x267, x268, x269, x270, x271, x272, x273, x274, x275, x276, x277, x278, x279, x280, x281, x282, x283, x284, x285, x286, x287, x288, x289, x290, x291, x292, x293, x294, x295, x296], []⟩ (wy.setCell ⟨g7, 3, none⟩ (.slice A 1 c))) :
    (Code.region 41 (regOps Try.f31 41) true).wp Try.prog Q ⟨#[x0, x1, x2, x3, x4, x5, x6, .pointer (some ⟨g7, 0, none⟩), x8, .slice none 0 0, x10, .int .i64 (i : Int), x12, x13, x14, x15, .slice (some ⟨b16, o16, none⟩) 3 c16, x17, x18, x19, x20, x21, x22, x23, x24, x25, x26, x27, x28, x29, x30, x31, x32, x33, x34, x35, x36, x37, x38, x39, x40, x41, x42, x43, x44, x45, x46, x47, x48, x49, x50, x51, x52, x53, x54, x55, x56, x57, x58, x59, x60, x61, x62, x63, x64, x65, x66, x67, x68, x69, x70, x71, x72, x73, x74, x75, x76, x77, x78, x79, x80, x81, x82, x83, x84, x85, x86, x87, x88, x89, x90, x91, x92, x93, x94, x95, x96, x97, x98, x99, x100, x101, x102, x103, x104, x105, x106, x107, x108, x109, x110, x111, x112, x113, x114, x115, x116, x117, x118, x119, x120, x121, x122, x123, x124, x125, x126, x127, x128, x129, x130, x131, x132, x133, x134, x135, x136, x137, x138, x139, x140, x141, x142, x143, x144, x145, x146, x147, x148, x149, x150, x151, x152, x153, x154, x155, x156, x157, x158, x159, x160, x161, x162, x163, x164, x165, x166, x167, x168, x169, x170, x171, x172, x173, x174, x175, x176, x177, x178, x179, x180, x181, x182, x183, x184, x185, x186, x187, x188, x189, x190, x191, x192, x193, x194, x195, x196, x197, x198, x199, x200, x201, x202, x203, x204, x205, x206, x207, x208, x209, x210, x211, x212, x213, x214, x215, x216, x217, x218, x219, x220, x221, x222, x223, x224, x225, x226, x227, x228, x229, x230, x231, x232, x233, x234, x235, x236, x237, x238, x239, x240, x241, x242, x243, x244, x245, x246, x247, x248, x249, x250, x251, x252, x253, x254, x255, x256, x257, x258, x259, x260, x261, x262, x263, x264, x265, x266, x267, x268, x269, x270, x271, x272, x273, x274, x275, x276, x277, x278, x279, x280, x281, x282, x283, x284, x285, x286, x287, x288, x289, x290, x291, x292, x293, x294, x295, x296], []⟩ wr := by
  obtain ⟨ops, hops⟩ : ∃ ops, ops = regOps Try.f31 41 := ⟨_, rfl⟩
  rw [← hops]
  simp [regOps, Try.f31, opsIn] at hops
  subst hops
  obtain ⟨ia, ha0, ha1, ha2, ha3⟩ := info_parts prt_info
  obtain ⟨ib, hb0, hb1, hb2, hb3⟩ := info_parts int_info
  have hX3 := hX.cell 3
  simp at hX3
  have HX := hide hX
  clear hX
  refine UpP.start (S := fun w_ => Below wr.heap.size wr w_) (Z := [20]) (S' := fun _ => True) (Z' := []) (by kernel_rfl) ?_
  have hHeld : Below wr.heap.size wr wr.drew := below_drewN (Below.refl wr.heap.size wr) 1
  obtain ⟨v0, hv0⟩ : ∃ v0, wr.drew = v0 := ⟨_, rfl⟩
  rw [hv0] at hHeld ⊢
  clear hv0
  refine UpP.pure (i := 0) 240 (v := .pointer (some ⟨g7, 3, none⟩)) rfl rfl (by kernel_rfl) (by kernel_rfl) (by kernel_rfl) (fun _ _ _ h => hP _ _ _ _ _ h) (Or.inl ⟨by rfl, by intro w_ hSw; go_simp⟩) ?_
  try simp only [Act.put, List.setIfInBounds_toArray, List.set_cons_zero, List.set_cons_succ]
  refine UpP.take (i := 1) 241 (v := .slice none 0 0) rfl rfl (by kernel_rfl) (by kernel_rfl) (by kernel_rfl) (by kernel_rfl) (fun _ _ _ h => hP _ _ _ _ _ h) hHeld (Or.inl ⟨by rfl, by intro w_ hSw; have e0 := (hSw.cell (lt_of_cell hX3)).trans hX3; go_simp⟩) ?_
  try simp only [Act.put, List.setIfInBounds_toArray, List.set_cons_zero, List.set_cons_succ]
  refine UpP.pure (i := 2) 242 (v := .slice (some ⟨b16, o16, none⟩) 3 c16) rfl rfl (by kernel_rfl) (by kernel_rfl) (by kernel_rfl) (fun _ _ _ h => hP _ _ _ _ _ h) (Or.inl ⟨by rfl, by intro w_ hSw; go_simp⟩) ?_
  try simp only [Act.put, List.setIfInBounds_toArray, List.set_cons_zero, List.set_cons_succ]
  refine UpP.pure (i := 3) 243 (v := .pointer (some ⟨b16, o16, none⟩)) rfl rfl (by kernel_rfl) (by kernel_rfl) (by kernel_rfl) (fun _ _ _ h => hP _ _ _ _ _ h) (Or.inl ⟨by rfl, by intro w_ hSw; go_simp⟩) ?_
  try simp only [Act.put, List.setIfInBounds_toArray, List.set_cons_zero, List.set_cons_succ]
  refine UpP.take (i := 4) 244 (v := .int .i64 u0) rfl rfl (by kernel_rfl) (by kernel_rfl) (by kernel_rfl) (by kernel_rfl) (fun _ _ _ h => hP _ _ _ _ _ h) hHeld (Or.inl ⟨by rfl, by intro w_ hSw; have e0 := (hSw.cell (lt_of_cell r0)).trans r0; go_simp⟩) ?_
  try simp only [Act.put, List.setIfInBounds_toArray, List.set_cons_zero, List.set_cons_succ]
  refine UpP.pure (i := 5) 245 (v := .slice (some ⟨b16, o16, none⟩) 3 c16) rfl rfl (by kernel_rfl) (by kernel_rfl) (by kernel_rfl) (fun _ _ _ h => hP _ _ _ _ _ h) (Or.inl ⟨by rfl, by intro w_ hSw; go_simp⟩) ?_
  try simp only [Act.put, List.setIfInBounds_toArray, List.set_cons_zero, List.set_cons_succ]
  refine UpP.pure (i := 6) 246 (v := .pointer (some ⟨b16, o16 + 1, none⟩)) rfl rfl (by kernel_rfl) (by kernel_rfl) (by kernel_rfl) (fun _ _ _ h => hP _ _ _ _ _ h) (Or.inl ⟨by rfl, by intro w_ hSw; go_simp⟩) ?_
  try simp only [Act.put, List.setIfInBounds_toArray, List.set_cons_zero, List.set_cons_succ]
  refine UpP.take (i := 7) 247 (v := .int .i64 u1) rfl rfl (by kernel_rfl) (by kernel_rfl) (by kernel_rfl) (by kernel_rfl) (fun _ _ _ h => hP _ _ _ _ _ h) hHeld (Or.inl ⟨by rfl, by intro w_ hSw; have e0 := (hSw.cell (lt_of_cell r1)).trans r1; go_simp⟩) ?_
  try simp only [Act.put, List.setIfInBounds_toArray, List.set_cons_zero, List.set_cons_succ]
  refine UpP.pure (i := 8) 248 (v := .slice (some ⟨b16, o16, none⟩) 3 c16) rfl rfl (by kernel_rfl) (by kernel_rfl) (by kernel_rfl) (fun _ _ _ h => hP _ _ _ _ _ h) (Or.inl ⟨by rfl, by intro w_ hSw; go_simp⟩) ?_
  try simp only [Act.put, List.setIfInBounds_toArray, List.set_cons_zero, List.set_cons_succ]
  refine UpP.pure (i := 9) 249 (v := .pointer (some ⟨b16, o16 + 2, none⟩)) rfl rfl (by kernel_rfl) (by kernel_rfl) (by kernel_rfl) (fun _ _ _ h => hP _ _ _ _ _ h) (Or.inl ⟨by rfl, by intro w_ hSw; go_simp⟩) ?_
  try simp only [Act.put, List.setIfInBounds_toArray, List.set_cons_zero, List.set_cons_succ]
  refine UpP.take (i := 10) 250 (v := .int .i64 u2) rfl rfl (by kernel_rfl) (by kernel_rfl) (by kernel_rfl) (by kernel_rfl) (fun _ _ _ h => hP _ _ _ _ _ h) hHeld (Or.inl ⟨by rfl, by intro w_ hSw; have e0 := (hSw.cell (lt_of_cell r2)).trans r2; go_simp⟩) ?_
  try simp only [Act.put, List.setIfInBounds_toArray, List.set_cons_zero, List.set_cons_succ]
  refine UpP.pure (i := 11) 251 (v := .agg #[.int .i64 u0, .int .i64 u1, .int .i64 u2]) rfl rfl (by kernel_rfl) (by kernel_rfl) (by kernel_rfl) (fun _ _ _ h => hP _ _ _ _ _ h) (Or.inl ⟨by rfl, by intro w_ hSw; go_simp⟩) ?_
  try simp only [Act.put, List.setIfInBounds_toArray, List.set_cons_zero, List.set_cons_succ]
  refine UpP.pure (i := 14) 254 (v := .slice none 0 0) rfl rfl (by kernel_rfl) (by kernel_rfl) (by kernel_rfl) (fun _ _ _ h => hP _ _ _ _ _ h) (Or.inl ⟨by rfl, by intro w_ hSw; go_simp⟩) ?_
  try simp only [Act.put, List.setIfInBounds_toArray, List.set_cons_zero, List.set_cons_succ]
  refine UpP.pure (i := 15) 255 (v := .int .i64 (i : Int)) rfl rfl (by kernel_rfl) (by kernel_rfl) (by kernel_rfl) (fun _ _ _ h => hP _ _ _ _ _ h) (Or.inl ⟨by rfl, by intro w_ hSw; go_simp⟩) ?_
  try simp only [Act.put, List.setIfInBounds_toArray, List.set_cons_zero, List.set_cons_succ]
  refine UpP.pure (i := 16) 256 (v := .int .i64 ((i : Int) + 1)) rfl rfl (by kernel_rfl) (by kernel_rfl) (by kernel_rfl) (fun _ _ _ h => hP _ _ _ _ _ h) (Or.inl ⟨by rfl, by intro w_ hSw; go_simp⟩) ?_
  try simp only [Act.put, List.setIfInBounds_toArray, List.set_cons_zero, List.set_cons_succ]
  refine UpP.next2 (i := 12) (j := 17) (by kernel_rfl) rfl rfl (fun K hK => ?_) (fun K hK => ?_)
  · go_simp
    have hb9 := (Below.refl v0.heap.size v0).alloc (Nat.le_refl _) (.cells #[.int .i64 u0, .int .i64 u1, .int .i64 u2] 56)
    have H12 := hide (stay_blk (Blk.newN v0 56 #[.int .i64 u0, .int .i64 u1, .int .i64 u2] (rfl : v0.heap.size = v0.heap.size)))
    have hH := Below.step hHeld hb9
    refine hK.out _ _ ⟨fun _ _ => hH, fun _ _ => trivial⟩ ?_
    clear hK K hHeld hb9
    try simp only [Act.put, List.setIfInBounds_toArray, List.set_cons_zero, List.set_cons_succ]
    obtain ⟨g12, hg12⟩ : ∃ g, v0.heap.size = g := ⟨_, rfl⟩
    obtain ⟨v1, hwn⟩ : ∃ w9, v0.alloc (.cells #[.int .i64 u0, .int .i64 u1, .int .i64 u2] 56) = w9 := ⟨_, rfl⟩
    rw [hwn] at hH H12  ⊢
    rw [hg12] at H12 ⊢
    clear hwn hg12
    have hHeld := hH
    clear hH
    refine UpP.next2 (i := 13) (j := 17) (by kernel_rfl) rfl rfl (fun K hK => ?_) (fun K hK => ?_)
    · refine step_append_any _ (by rfl) (.tmp 241) (.tmp 252) 22 (by rfl) wr.heap.size 56 ia _ 3 24 Try.underlying22 ha0 ha1 ha2 ha3 rfl (by omega) (.slice none 0 0) 0 [] (by rfl) (World.ownsRow_nil _ _ _ _) (v1.heap.size) (some ⟨g12, 0, none⟩) 1 1 (flatC Prt.cs [⟨u0, u1, u2⟩]) (by rfl) (Rws.reads prt_n (by omega) (prts_blk H12.out.now)) (flat_one prt_one _) (by simp only [maxLen]; omega) (by omega) hHeld.size ?_
      intro vv v2 hown hgrow _
      replace hgrow := below_of_none hgrow
      replace H12 := hide (H12.out.step hgrow)
      simp only [Nat.zero_add, List.nil_append] at hown
      obtain ⟨A13, c13, rfl⟩ := own_form hown
      have HO := hide (stay_own hown)
      have hH := Below.step hHeld hgrow
      refine hK.out _ _ ⟨fun _ _ => hH, fun _ _ => trivial⟩ ?_
      clear hK K hHeld hown hgrow
      try simp only [Act.put, List.setIfInBounds_toArray]
      have hHeld := hH
      clear hH
      refine UpP.pure (i := 19) 259 (v := .pointer (some ⟨g7, 3, none⟩)) rfl rfl (by kernel_rfl) (by kernel_rfl) (by kernel_rfl) (fun _ _ _ h => hP _ _ _ _ _ h) (Or.inl ⟨by rfl, by intro w_ hSw; go_simp⟩) ?_
      try simp only [Act.put]
      refine UpP.next (i := 17) (by kernel_rfl) rfl (fun K hK => ?_)
      go_simp
      have hb9 := (Below.refl v2.heap.size v2).alloc (Nat.le_refl _) (.cells #[.int .i64 ((i : Int) + 1)] 3)
      replace H12 := hide (H12.out.step hb9)
      replace HO := hide (HO.out.step hb9)
      have H17 := hide (stay_blk (Blk.newN v2 3 #[.int .i64 ((i : Int) + 1)] (rfl : v2.heap.size = v2.heap.size)))
      have hH := Below.step hHeld hb9
      refine hK.out _ _ ⟨fun _ _ => hH, fun _ _ => trivial⟩ ?_
      clear hK K hHeld hb9
      try simp only [Act.put, List.setIfInBounds_toArray, List.set_cons_zero, List.set_cons_succ]
      obtain ⟨g17, hg17⟩ : ∃ g, v2.heap.size = g := ⟨_, rfl⟩
      obtain ⟨v3, hwn⟩ : ∃ w9, v2.alloc (.cells #[.int .i64 ((i : Int) + 1)] 3) = w9 := ⟨_, rfl⟩
      rw [hwn] at hH H17 H12 HO ⊢
      rw [hg17] at H17 ⊢
      clear hwn hg17
      have hHeld := hH
      clear hH
      refine UpP.next (i := 18) (by kernel_rfl) rfl (fun K hK => ?_)
      refine step_append_any _ (by rfl) (.tmp 254) (.tmp 257) 103 (by rfl) wr.heap.size 3 ib _ 1 8 Try.underlying103 hb0 hb1 hb2 hb3 rfl (by omega) (.slice none 0 0) 0 [] (by rfl) (World.ownsRow_nil _ _ _ _) (v3.heap.size) (some ⟨g17, 0, none⟩) 1 1 [.int .i64 ((i : Int) + 1)] (by rfl) (reads_blk1 H17.out.now) (by simp [Value.oneCell']) (by simp only [maxLen]; omega) (by omega) hHeld.size ?_
      intro vv v4 hown hgrow _
      replace hgrow := below_of_none hgrow
      replace H12 := hide (H12.out.step hgrow)
      replace HO := hide (HO.out.step hgrow)
      replace H17 := hide (H17.out.step hgrow)
      simp only [Nat.zero_add, List.nil_append] at hown
      obtain ⟨A18, c18, rfl⟩ := own_form hown
      have HI := hide (stay_own hown)
      have hH := Below.step hHeld hgrow
      refine hK.out _ _ ⟨fun _ _ => hH, fun _ _ => trivial⟩ ?_
      clear hK K hHeld hown hgrow
      try simp only [Act.put, List.setIfInBounds_toArray]
      have hHeld := hH
      clear hH
      have hXX := HX.out.below hHeld HX.out.lt
      have hf := hXX.frozen 3
      have hc := hXX.cell 3
      have hl := hXX.lt
      refine UpP.next (i := 20) (by kernel_rfl) rfl (fun K hK => ?_)
      go_simp
      refine hK.out _ _ ⟨fun h => (h (by decide)).elim, fun _ _ => trivial⟩ ?_
      clear hK K
      try simp only [Act.put, List.setIfInBounds_toArray, List.set_cons_zero, List.set_cons_succ]
      clear hf hc hl hXX
      refine UpP.pure (i := 21) 9 (v := .slice A18 1 c18) rfl rfl (by kernel_rfl) (by kernel_rfl) (by kernel_rfl) (fun _ _ _ h => hP _ _ _ _ _ h) (Or.inl ⟨by rfl, by intro w_ hSw; go_simp⟩) ?_
      try simp only [Act.put, List.setIfInBounds_toArray, List.set_cons_zero, List.set_cons_succ]
      refine UpP.done (by kernel_rfl) ?_ _
      exact hQ _ _ _ _ _ _ _ _ _ _ _ _ _ _ _ _ _ _ _ _ _ A13 c13 A18 c18 hHeld HO.out.now
    · go_simp
      have hb9 := (Below.refl v1.heap.size v1).alloc (Nat.le_refl _) (.cells #[.int .i64 ((i : Int) + 1)] 3)
      replace H12 := hide (H12.out.step hb9)
      have H17 := hide (stay_blk (Blk.newN v1 3 #[.int .i64 ((i : Int) + 1)] (rfl : v1.heap.size = v1.heap.size)))
      have hH := Below.step hHeld hb9
      refine hK.out _ _ ⟨fun _ _ => hH, fun _ _ => trivial⟩ ?_
      clear hK K hHeld hb9
      try simp only [Act.put, List.setIfInBounds_toArray, List.set_cons_zero, List.set_cons_succ]
      obtain ⟨g17, hg17⟩ : ∃ g, v1.heap.size = g := ⟨_, rfl⟩
      obtain ⟨v2, hwn⟩ : ∃ w9, v1.alloc (.cells #[.int .i64 ((i : Int) + 1)] 3) = w9 := ⟨_, rfl⟩
      rw [hwn] at hH H17 H12 ⊢
      rw [hg17] at H17 ⊢
      clear hwn hg17
      have hHeld := hH
      clear hH
      refine UpP.next (i := 13) (by kernel_rfl) rfl (fun K hK => ?_)
      refine step_append_any _ (by rfl) (.tmp 241) (.tmp 252) 22 (by rfl) wr.heap.size 56 ia _ 3 24 Try.underlying22 ha0 ha1 ha2 ha3 rfl (by omega) (.slice none 0 0) 0 [] (by rfl) (World.ownsRow_nil _ _ _ _) (v2.heap.size) (some ⟨g12, 0, none⟩) 1 1 (flatC Prt.cs [⟨u0, u1, u2⟩]) (by rfl) (Rws.reads prt_n (by omega) (prts_blk H12.out.now)) (flat_one prt_one _) (by simp only [maxLen]; omega) (by omega) hHeld.size ?_
      intro vv v3 hown hgrow _
      replace hgrow := below_of_none hgrow
      replace H12 := hide (H12.out.step hgrow)
      replace H17 := hide (H17.out.step hgrow)
      simp only [Nat.zero_add, List.nil_append] at hown
      obtain ⟨A13, c13, rfl⟩ := own_form hown
      have HO := hide (stay_own hown)
      have hH := Below.step hHeld hgrow
      refine hK.out _ _ ⟨fun _ _ => hH, fun _ _ => trivial⟩ ?_
      clear hK K hHeld hown hgrow
      try simp only [Act.put, List.setIfInBounds_toArray]
      have hHeld := hH
      clear hH
      refine UpP.pure (i := 19) 259 (v := .pointer (some ⟨g7, 3, none⟩)) rfl rfl (by kernel_rfl) (by kernel_rfl) (by kernel_rfl) (fun _ _ _ h => hP _ _ _ _ _ h) (Or.inl ⟨by rfl, by intro w_ hSw; go_simp⟩) ?_
      try simp only [Act.put]
      refine UpP.next (i := 18) (by kernel_rfl) rfl (fun K hK => ?_)
      refine step_append_any _ (by rfl) (.tmp 254) (.tmp 257) 103 (by rfl) wr.heap.size 3 ib _ 1 8 Try.underlying103 hb0 hb1 hb2 hb3 rfl (by omega) (.slice none 0 0) 0 [] (by rfl) (World.ownsRow_nil _ _ _ _) (v3.heap.size) (some ⟨g17, 0, none⟩) 1 1 [.int .i64 ((i : Int) + 1)] (by rfl) (reads_blk1 H17.out.now) (by simp [Value.oneCell']) (by simp only [maxLen]; omega) (by omega) hHeld.size ?_
      intro vv v4 hown hgrow _
      replace hgrow := below_of_none hgrow
      replace H12 := hide (H12.out.step hgrow)
      replace H17 := hide (H17.out.step hgrow)
      replace HO := hide (HO.out.step hgrow)
      simp only [Nat.zero_add, List.nil_append] at hown
      obtain ⟨A18, c18, rfl⟩ := own_form hown
      have HI := hide (stay_own hown)
      have hH := Below.step hHeld hgrow
      refine hK.out _ _ ⟨fun _ _ => hH, fun _ _ => trivial⟩ ?_
      clear hK K hHeld hown hgrow
      try simp only [Act.put]
      have hHeld := hH
      clear hH
      have hXX := HX.out.below hHeld HX.out.lt
      have hf := hXX.frozen 3
      have hc := hXX.cell 3
      have hl := hXX.lt
      refine UpP.next (i := 20) (by kernel_rfl) rfl (fun K hK => ?_)
      go_simp
      refine hK.out _ _ ⟨fun h => (h (by decide)).elim, fun _ _ => trivial⟩ ?_
      clear hK K
      try simp only [Act.put, List.setIfInBounds_toArray, List.set_cons_zero, List.set_cons_succ]
      clear hf hc hl hXX
      refine UpP.pure (i := 21) 9 (v := .slice A18 1 c18) rfl rfl (by kernel_rfl) (by kernel_rfl) (by kernel_rfl) (fun _ _ _ h => hP _ _ _ _ _ h) (Or.inl ⟨by rfl, by intro w_ hSw; go_simp⟩) ?_
      try simp only [Act.put, List.setIfInBounds_toArray, List.set_cons_zero, List.set_cons_succ]
      refine UpP.done (by kernel_rfl) ?_ _
      exact hQ _ _ _ _ _ _ _ _ _ _ _ _ _ _ _ _ _ _ _ _ _ A13 c13 A18 c18 hHeld HO.out.now
  · go_simp
    have hb9 := (Below.refl v0.heap.size v0).alloc (Nat.le_refl _) (.cells #[.int .i64 ((i : Int) + 1)] 3)
    have H17 := hide (stay_blk (Blk.newN v0 3 #[.int .i64 ((i : Int) + 1)] (rfl : v0.heap.size = v0.heap.size)))
    have hH := Below.step hHeld hb9
    refine hK.out _ _ ⟨fun _ _ => hH, fun _ _ => trivial⟩ ?_
    clear hK K hHeld hb9
    try simp only [Act.put, List.setIfInBounds_toArray, List.set_cons_zero, List.set_cons_succ]
    obtain ⟨g17, hg17⟩ : ∃ g, v0.heap.size = g := ⟨_, rfl⟩
    obtain ⟨v1, hwn⟩ : ∃ w9, v0.alloc (.cells #[.int .i64 ((i : Int) + 1)] 3) = w9 := ⟨_, rfl⟩
    rw [hwn] at hH H17  ⊢
    rw [hg17] at H17 ⊢
    clear hwn hg17
    have hHeld := hH
    clear hH
    refine UpP.next (i := 12) (by kernel_rfl) rfl (fun K hK => ?_)
    go_simp
    have hb9 := (Below.refl v1.heap.size v1).alloc (Nat.le_refl _) (.cells #[.int .i64 u0, .int .i64 u1, .int .i64 u2] 56)
    replace H17 := hide (H17.out.step hb9)
    have H12 := hide (stay_blk (Blk.newN v1 56 #[.int .i64 u0, .int .i64 u1, .int .i64 u2] (rfl : v1.heap.size = v1.heap.size)))
    have hH := Below.step hHeld hb9
    refine hK.out _ _ ⟨fun _ _ => hH, fun _ _ => trivial⟩ ?_
    clear hK K hHeld hb9
    try simp only [Act.put, List.setIfInBounds_toArray, List.set_cons_zero, List.set_cons_succ]
    obtain ⟨g12, hg12⟩ : ∃ g, v1.heap.size = g := ⟨_, rfl⟩
    obtain ⟨v2, hwn⟩ : ∃ w9, v1.alloc (.cells #[.int .i64 u0, .int .i64 u1, .int .i64 u2] 56) = w9 := ⟨_, rfl⟩
    rw [hwn] at hH H12 H17 ⊢
    rw [hg12] at H12 ⊢
    clear hwn hg12
    have hHeld := hH
    clear hH
    refine UpP.next (i := 13) (by kernel_rfl) rfl (fun K hK => ?_)
    refine step_append_any _ (by rfl) (.tmp 241) (.tmp 252) 22 (by rfl) wr.heap.size 56 ia _ 3 24 Try.underlying22 ha0 ha1 ha2 ha3 rfl (by omega) (.slice none 0 0) 0 [] (by rfl) (World.ownsRow_nil _ _ _ _) (v2.heap.size) (some ⟨g12, 0, none⟩) 1 1 (flatC Prt.cs [⟨u0, u1, u2⟩]) (by rfl) (Rws.reads prt_n (by omega) (prts_blk H12.out.now)) (flat_one prt_one _) (by simp only [maxLen]; omega) (by omega) hHeld.size ?_
    intro vv v3 hown hgrow _
    replace hgrow := below_of_none hgrow
    replace H17 := hide (H17.out.step hgrow)
    replace H12 := hide (H12.out.step hgrow)
    simp only [Nat.zero_add, List.nil_append] at hown
    obtain ⟨A13, c13, rfl⟩ := own_form hown
    have HO := hide (stay_own hown)
    have hH := Below.step hHeld hgrow
    refine hK.out _ _ ⟨fun _ _ => hH, fun _ _ => trivial⟩ ?_
    clear hK K hHeld hown hgrow
    try simp only [Act.put, List.setIfInBounds_toArray]
    have hHeld := hH
    clear hH
    refine UpP.pure (i := 19) 259 (v := .pointer (some ⟨g7, 3, none⟩)) rfl rfl (by kernel_rfl) (by kernel_rfl) (by kernel_rfl) (fun _ _ _ h => hP _ _ _ _ _ h) (Or.inl ⟨by rfl, by intro w_ hSw; go_simp⟩) ?_
    try simp only [Act.put]
    refine UpP.next (i := 18) (by kernel_rfl) rfl (fun K hK => ?_)
    refine step_append_any _ (by rfl) (.tmp 254) (.tmp 257) 103 (by rfl) wr.heap.size 3 ib _ 1 8 Try.underlying103 hb0 hb1 hb2 hb3 rfl (by omega) (.slice none 0 0) 0 [] (by rfl) (World.ownsRow_nil _ _ _ _) (v3.heap.size) (some ⟨g17, 0, none⟩) 1 1 [.int .i64 ((i : Int) + 1)] (by rfl) (reads_blk1 H17.out.now) (by simp [Value.oneCell']) (by simp only [maxLen]; omega) (by omega) hHeld.size ?_
    intro vv v4 hown hgrow _
    replace hgrow := below_of_none hgrow
    replace H17 := hide (H17.out.step hgrow)
    replace H12 := hide (H12.out.step hgrow)
    replace HO := hide (HO.out.step hgrow)
    simp only [Nat.zero_add, List.nil_append] at hown
    obtain ⟨A18, c18, rfl⟩ := own_form hown
    have HI := hide (stay_own hown)
    have hH := Below.step hHeld hgrow
    refine hK.out _ _ ⟨fun _ _ => hH, fun _ _ => trivial⟩ ?_
    clear hK K hHeld hown hgrow
    try simp only [Act.put]
    have hHeld := hH
    clear hH
    have hXX := HX.out.below hHeld HX.out.lt
    have hf := hXX.frozen 3
    have hc := hXX.cell 3
    have hl := hXX.lt
    refine UpP.next (i := 20) (by kernel_rfl) rfl (fun K hK => ?_)
    go_simp
    refine hK.out _ _ ⟨fun h => (h (by decide)).elim, fun _ _ => trivial⟩ ?_
    clear hK K
    try simp only [Act.put, List.setIfInBounds_toArray, List.set_cons_zero, List.set_cons_succ]
    clear hf hc hl hXX
    refine UpP.pure (i := 21) 9 (v := .slice A18 1 c18) rfl rfl (by kernel_rfl) (by kernel_rfl) (by kernel_rfl) (fun _ _ _ h => hP _ _ _ _ _ h) (Or.inl ⟨by rfl, by intro w_ hSw; go_simp⟩) ?_
    try simp only [Act.put, List.setIfInBounds_toArray, List.set_cons_zero, List.set_cons_succ]
    refine UpP.done (by kernel_rfl) ?_ _
    exact hQ _ _ _ _ _ _ _ _ _ _ _ _ _ _ _ _ _ _ _ _ _ A13 c13 A18 c18 hHeld HO.out.now
end Go.Proofs.Ytfolipkbcibgdaa
