import Derived.Test.YtfolipkbcibgdaaGpTa
namespace Go.Proofs.Ytfolipkbcibgdaa
open Go.RowKit Go.WideShapes Go.ChangeShapes

set_option maxRecDepth 100000 in
set_option maxHeartbeats 16000000 in
theorem prd_sig (K : Exit → Act → World → Prop) (hP : ∀ c a d v w, K (.panic c) (Act.put a d v) w → K (.panic c) a w) (g7 b6 o6 c6 i m : Nat) (W1 wr : World) (A3 A4 A9 A10 : Option Addr) (c3 c4 c9 c10 : Nat) (x0 x1 x2 x3 x4 x5 x12 x13 x14 x15 x16 x17 x18 x19 x20 x21 x22 x23 x24 x25 x26 x27 x28 x29 x30 x31 x32 x33 x34 x35 x36 x37 x38 x39 x40 x41 x42 x43 x44 x45 x46 x47 x48 x49 x50 x51 x52 x53 x54 x55 x56 x57 x58 x59 x60 x61 x62 x63 x64 x65 x66 x67 x68 x69 x70 x71 x72 x73 x74 x75 x76 x77 x78 x79 x80 x81 x82 x83 x84 x85 x86 x87 x88 x89 x90 x91 x92 x93 x94 x95 x96 x97 x98 x99 x100 x101 x102 x103 x104 x105 x106 x107 x108 x109 x110 x111 x112 x113 x114 x115 x116 x117 x118 x119 x120 x121 x122 x123 x124 x125 x126 x127 x128 x129 x130 x131 x132 x133 x134 x135 x136 x137 x138 x139 x140 x141 x142 x143 x144 x145 x146 x147 x148 x149 x150 x151 x152 x153 x154 x155 x156 x157 x158 x159 x160 x161 x162 x163 x164 x165 x166 x167 x168 x169 x170 x171 x172 x173 x174 x175 x176 x177 x178 x179 x180 x181 x182 x183 x184 x185 x186 x187 x188 x189 x190 x191 x192 x193 x194 x195 x196 x197 x198 x199 x200 x201 x202 x203 x204 x205 x206 x207 x208 x209 x210 x211 x212 x213 x214 x215 x216 x217 x218 x219 x220 x221 x222 x223 x224 x225 x226 x227 x228 x229 x230 x231 x232 x233 x234 x235 x236 x237 x238 x239 x240 x241 x242 x243 x244 x245 x246 x247 x248 x249 x250 x251 x252 x253 x254 x255 x256 x257 x258 x259 x260 x261 x262 x263 x264 x265 x266 x267 x268 x269 x270 x271 x272 x273 x274 x275 x276 x277 x278 x279 x280 x281 x282 x283 x284 x285 x286 x287 x288 x289 x290 x291 x292 x293 x294 x295 x296 : Value) (hi6 : i < 6) (hm4 : m < 4) (hi0 : i = m + 2)
    (hln : wr.cell? ⟨b6, o6 + i, none⟩ = some (strV (exL[i]'hi6))) (hst : PSt g7 W1 i A3 A4 A9 A10 c3 c4 c9 c10 wr)
    (hK : ∀ (y4 y12 y13 y14 y15 y16 y17 y18 y19 y20 y21 y45 y46 y47 y48 y49 y50 y51 y52 y53 y54 y55 y56 y57 y58 y59 y60 y61 y62 y63 y64 y65 y66 y67 y68 y69 y70 y71 y72 y73 y74 y75 y76 y77 y78 y79 y80 y81 y82 y83 y84 y85 y86 y87 y88 y89 y90 y91 y92 y93 y94 y95 y96 y97 y98 y99 y100 y101 y102 y103 y104 y105 y106 y107 y108 y109 y110 y111 y112 y113 y114 y115 y116 y117 y118 y119 y120 y121 y122 y123 y124 y125 y126 y127 y128 y129 y130 y131 y132 y133 y134 y135 y136 y137 y138 y139 y140 y141 y142 y143 y144 y145 y146 y147 y148 y149 y150 y151 y152 y153 y154 y155 y156 y157 y158 y159 y160 y161 y162 y163 y164 y165 y166 y167 y168 y169 y170 y171 y172 y173 y174 y175 y176 y177 y178 y179 y180 y181 y182 y183 y184 y185 y186 y187 y188 y189 y190 y191 y192 y193 y194 y195 y196 y197 y198 y199 y200 y201 y202 y203 y204 y205 y206 y207 y208 y209 y210 y211 y212 y213 y214 y215 y216 y217 y218 y219 y220 y221 y222 y223 y224 y225 y226 y227 y228 y229 y230 y231 y232 y233 y234 y235 y236 y237 y238 y239 y240 y241 y242 y243 y244 y245 y246 y247 y248 y249 y250 y251 y252 y253 y254 y255 y256 y257 y258 y259 s8 s9 s10 s11 : Value) (B3 B4 B9 B10 : Option Addr) (d3 d4 d9 d10 : Nat) (wx : World), s11 = .int .i64 ((i + 1 : Nat) : Int) → s8 = .int .i64 (bgI (i + 1)) → s9 = .slice B9 (pnI (i + 1)) d9 → s10 = .slice B10 (snI (i + 1)) d10 → PSt g7 W1 (i + 1) B3 B4 B9 B10 d3 d4 d9 d10 wx → K .normal ⟨#[x0, x1, x2, x3, y4, x5, .slice (some ⟨b6, o6, none⟩) 6 c6, .pointer (some ⟨g7, 0, none⟩), s8, s9, s10, s11, y12, y13, y14, y15, y16, y17, y18, y19, y20, y21, x22, x23, x24, x25, x26, x27, x28, x29, x30, x31, x32, x33, x34, x35, x36, x37, x38, x39, x40, x41, x42, x43, x44, y45, y46, y47, y48, y49, y50, y51, y52, y53, y54, y55, y56, y57, y58, y59, y60, y61, y62, y63, y64, y65, y66, y67, y68, y69, y70, y71, y72, y73, y74, y75, y76, y77, y78, y79, y80, y81, y82, y83, y84, y85, y86, y87, y88, y89, y90, y91, y92, y93, y94, y95, y96, y97, y98, y99, y100, y101, y102, y103, y104, y105, y106, y107, y108, y109, y110, y111, y112, y113, y114, y115, y116, y117, y118, y119, y120, y121, y122, y123, y124, y125, y126, y127, y128, y129, y130, y131, y132, y133, y134, y135, y136, y137, y138, y139, y140, y141, y142, y143, y144, y145, y146, y147, y148, y149, y150, y151, y152, y153, y154, y155, y156, y157, y158, y159, y160, y161, y162, y163, y164, y165, y166, y167, y168, y169, y170, y171, y172, y173, y174, y175, y176, y177, y178, y179, y180, y181, y182, y183, y184, y185, y186, y187, y188, y189, y190, y191, y192, y193, y194, y195, y196, y197, y198, y199, y200, y201, y202, y203, y204, y205, y206, y207, y208, y209, y210, y211, y212, y213, y214, y215, y216, y217, y218, y219, y220, y221, y222, y223, y224, y225, y226, y227, y228, y229, y230, y231, y232, y233, y234, y235, y236, y237, y238, y239, y240, y241, y242, y243, y244, y245, y246, y247, y248, y249, y250, y251, y252, y253, y254, y255, y256, y257, y258, y259, x260, x261, x262, x263, x264, x265, x266, x267, x268, x269, x270, x271, x272, x273, x274, x275, x276, x277, x278, x279, x280, x281, x282, x283, x284, x285, x286, x287, x288, x289, x290, x291, x292, x293, x294, x295, x296], []⟩ wx) :
    (bodyAt Try.f31 11).wp Try.prog K ⟨#[x0, x1, x2, x3, x4, x5, .slice (some ⟨b6, o6, none⟩) 6 c6, .pointer (some ⟨g7, 0, none⟩), .int .i64 (bgI i), .slice A9 (pnI i) c9, .slice A10 (snI i) c10, .int .i64 (i : Int), x12, x13, x14, x15, x16, x17, x18, x19, x20, x21, x22, x23, x24, x25, x26, x27, x28, x29, x30, x31, x32, x33, x34, x35, x36, x37, x38, x39, x40, x41, x42, x43, x44, x45, x46, x47, x48, x49, x50, x51, x52, x53, x54, x55, x56, x57, x58, x59, x60, x61, x62, x63, x64, x65, x66, x67, x68, x69, x70, x71, x72, x73, x74, x75, x76, x77, x78, x79, x80, x81, x82, x83, x84, x85, x86, x87, x88, x89, x90, x91, x92, x93, x94, x95, x96, x97, x98, x99, x100, x101, x102, x103, x104, x105, x106, x107, x108, x109, x110, x111, x112, x113, x114, x115, x116, x117, x118, x119, x120, x121, x122, x123, x124, x125, x126, x127, x128, x129, x130, x131, x132, x133, x134, x135, x136, x137, x138, x139, x140, x141, x142, x143, x144, x145, x146, x147, x148, x149, x150, x151, x152, x153, x154, x155, x156, x157, x158, x159, x160, x161, x162, x163, x164, x165, x166, x167, x168, x169, x170, x171, x172, x173, x174, x175, x176, x177, x178, x179, x180, x181, x182, x183, x184, x185, x186, x187, x188, x189, x190, x191, x192, x193, x194, x195, x196, x197, x198, x199, x200, x201, x202, x203, x204, x205, x206, x207, x208, x209, x210, x211, x212, x213, x214, x215, x216, x217, x218, x219, x220, x221, x222, x223, x224, x225, x226, x227, x228, x229, x230, x231, x232, x233, x234, x235, x236, x237, x238, x239, x240, x241, x242, x243, x244, x245, x246, x247, x248, x249, x250, x251, x252, x253, x254, x255, x256, x257, x258, x259, x260, x261, x262, x263, x264, x265, x266, x267, x268, x269, x270, x271, x272, x273, x274, x275, x276, x277, x278, x279, x280, x281, x282, x283, x284, x285, x286, x287, x288, x289, x290, x291, x292, x293, x294, x295, x296], []⟩ wr := by
  obtain ⟨cd, hcd⟩ : ∃ cd, cd = bodyAt Try.f31 11 := ⟨_, rfl⟩
  rw [← hcd]
  simp [bodyAt, Try.f31, loopIn, beginsWith] at hcd
  subst hcd
  obtain ⟨i0, hi0', hz0, hz1, hz2⟩ := info_parts int_info
  obtain ⟨i1, hj0, hy0, hy1, hy2⟩ := info_parts prt_info
  obtain ⟨i2, hk0, hx0, hx1, hx2⟩ := info_parts sig_info
  have HK := hide hK
  have HPP := hide hP
  have HP := hide hst
  clear hst hK hP
  have g1 : (i : Int) < 6 := by omega
  have HSPL := hide (exL_spl i hi6)
  have HSP := hide (fun W => split_ref (exL[i]'hi6) W (exL_len i hi6))
  rw [HSPL.out] at HSP
  obtain ⟨SL, hSL⟩ : ∃ S, strV (exL[i]'hi6) = S := ⟨_, rfl⟩
  rw [hSL] at hln HSP
  clear hSL HSPL
  have HLP := hide (show LineP (exW[i]'hi6) sigW sigF 11 (exV[i]'hi6) from by subst hi0; exact ex_sig m hm4)
  have hb8 : bgI i = 1 := by subst hi0; rfl
  rw [hb8]
  have HI := hide hi0
  clear hb8 hi0
  obtain ⟨ws, hws⟩ : ∃ ws, exW[i]'hi6 = ws := ⟨_, rfl⟩
  obtain ⟨V, hV⟩ : ∃ V, exV[i]'hi6 = V := ⟨_, rfl⟩
  have HV := hide hV
  have HWS := hide hws
  rw [hws] at HSP HLP
  rw [hV] at HLP
  clear hws hV
  go_wp2_with fail
  go_at_call 54
  refine (HSP.out _).mono ?_
  rintro e w2 ⟨A12, c12, rfl, ho12, hb⟩
  have HP2 := hide (HP.out.bel hb)
  have hb2 := hb.size
  rw [HLP.out.len] at ho12 ⊢
  obtain ⟨b12, o12, rfl, hb12, hw12⟩ := own_words ho12 HLP.out.len (by omega)
  have HB12 := hide hb12
  have HW12 := hide hw12
  clear hb ho12 hb12 hw12 HSP hln
  have d0 : w2.cell? ⟨b12, o12, none⟩ = some (strV sigW) := by have h := (HW12.out 0 (by rw [HLP.out.len]; omega)).1; rw [HLP.out.fst] at h; simpa using h
  obtain ⟨col, hcol⟩ : ∃ c : Int, ((ws[0]'(by rw [HLP.out.len]; omega)).2 : Int) = c := ⟨_, rfl⟩
  have d1 : w2.cell? ⟨b12, o12 + 1, none⟩ = some (.int .i64 col) := by have h := (HW12.out 0 (by rw [HLP.out.len]; omega)).2; rw [hcol] at h; simpa using h
  clear hcol
  have q_car : ∀ W, (binOp .neq 9 (strV sigW) (.string ⟨#[99, 97, 114, 114, 105, 101, 114]⟩)).run Try.prog W = .ok (.bool true) W := fun W => ne_lit sigW [99, 97, 114, 114, 105, 101, 114] _ rfl W
  have q_par : ∀ W, (binOp .neq 9 (strV sigW) (.string ⟨#[112, 97, 114, 116]⟩)).run Try.prog W = .ok (.bool true) W := fun W => ne_lit sigW [112, 97, 114, 116] _ rfl W
  have q_sig : ∀ W, (binOp .neq 9 (strV sigW) (.string ⟨#[115, 105, 103, 110, 97, 108]⟩)).run Try.prog W = .ok (.bool false) W := fun W => ne_lit sigW [115, 105, 103, 110, 97, 108] _ rfl W
  have p_car : ∀ W, (binOp .eql 9 (strV sigW) (.string ⟨#[99, 97, 114, 114, 105, 101, 114]⟩)).run Try.prog W = .ok (.bool false) W := fun W => eq_lit sigW [99, 97, 114, 114, 105, 101, 114] _ rfl W
  have p_par : ∀ W, (binOp .eql 9 (strV sigW) (.string ⟨#[112, 97, 114, 116]⟩)).run Try.prog W = .ok (.bool false) W := fun W => eq_lit sigW [112, 97, 114, 116] _ rfl W
  have gq := fun op u v z => eqG_str op u v sigW z
  have HFO := hide (fun W => formOf_sig W)
  have fl := fun t W => len_str sigF t W
  rw [HLP.out.fl] at fl
  have HFI : Hid (∀ (k : Nat) (hk : k < 11) W, (Instr.index 9 (strV sigF) (.int .i64 (k : Int))).run Try.prog W = .ok (.int .u8 ((sigF[k]'(by rw [HLP.out.fl]; exact hk)).toNat : Int)) W) := hide (fun k hk W => idx_str sigF k (by rw [HLP.out.fl]; exact hk) W)
  obtain ⟨SW, hSW⟩ : ∃ S, strV sigW = S := ⟨_, rfl⟩
  obtain ⟨SF, hSF⟩ : ∃ S, strV sigF = S := ⟨_, rfl⟩
  rw [hSW] at d0 q_car q_par q_sig p_car p_par gq HFO
  rw [hSF] at HFO fl HFI
  clear hSW hSF
  simp only []
  go_wp2_with fail
  go_at_call 55
  refine (HFO.out _).mono ?_
  rintro e w' ⟨rfl, rfl⟩
  clear HFO d0 d1 q_car q_par q_sig
  simp only []
  go_wp2_with fail
  have HB12w := HB12.out
  have HM1 := hide ((Below.refl w2.heap.size w2).alloc (Nat.le_refl _) (.cells #[.int .i64 ((i : Int) + 1), .int .i64 col] 75))
  obtain ⟨wo, hwo⟩ : ∃ wo, w2.alloc (.cells #[.int .i64 ((i : Int) + 1), .int .i64 col] 75) = wo := ⟨_, rfl⟩
  rw [hwo] at HM1 ⊢
  clear hwo
  have HPO := hide (HP2.out.bel HM1.out)
  have HWO : Hid (∀ k (hk : k < ws.length) W, Below wo.heap.size wo W → W.cell? ⟨b12, o12 + k * 2, none⟩ = some (strV (ws[k]'hk).1)) := hide (fun k hk W hW => by have h := (HW12.out k hk).1; have h2 := (HM1.out.cell (lt_of_cell h)).trans h; exact (hW.cell (lt_of_cell h2)).trans h2)
  have HMS := hide (show w2.heap.size ≤ wo.heap.size from HM1.out.size)
  clear HM1 HW12 HP2
  obtain ⟨wp, hwp⟩ : ∃ wp : World, wp = wr := ⟨_, rfl⟩
  subst hwp
  go_loopw [16, 17] (fun l k wr => ∃ (k' : Nat) (A16 : Option Addr) (c16 : Nat), k' ≤ 11 ∧ k = .int .i64 (k' : Int) ∧ l = .slice A16 k' c16 ∧ wr.ownsRow wo.heap.size 3 1 (.slice A16 k' c16) k' (iv (V.take k')) ∧ Below wo.heap.size wo wr) (fun _ k _ => 11 - (intOf k).toNat)
  case atStart => exact ⟨0, none, 0, Nat.zero_le _, rfl, rfl, World.ownsRow_nil _ _ _ _, Below.refl _ _⟩
  case round =>
    obtain ⟨k, A16, c16, hk, rfl, rfl, hO, hB⟩ := hrel
    have HO := hide hO
    have HBB := hide hB
    clear hO hB
    by_cases hkn : k < 11
    · have g4 : (k : Int) < 11 := by omega
      have g5 : ¬ ((12 : Int) ≤ (k : Int) + 1) := by omega
      obtain ⟨q, hq⟩ : ∃ q : Nat, k + 1 = q := ⟨_, rfl⟩
      have w5 : IntKind.i64.wrap ((k : Int) + 1) = (q : Int) := by rw [IntWalk.i64_in _ (by omega)]; omega
      have g6 : (q : Int) < 12 := by omega
      have g5' : ¬ ((12 : Int) ≤ (q : Int)) := by omega
      have hidx := HFI.out k hkn
      obtain ⟨fx, hfx⟩ : ∃ f, (sigF[k]'(by rw [HLP.out.fl]; exact hkn)) = f := ⟨_, rfl⟩
      have hqw : q < ws.length := by rw [HLP.out.len]; omega
      have hrd := HLP.out.rd k hkn (by rw [HLP.out.len]; omega) (by rw [HLP.out.fl]; exact hkn) (by rw [HLP.out.vl]; exact hkn)
      rw [hfx] at hrd hidx
      have hrd2 : rdO fx (ws[q]'hqw).1 = some (V[k]'(by rw [HLP.out.vl]; exact hkn)) := by subst hq; exact hrd
      have HRD := hide (fun W => read_all fx _ _ W hrd2)
      have hwq := HWO.out q hqw
      have HTK := hide (show iv (V.take k) ++ [.int .i64 (V[k]'(by rw [HLP.out.vl]; exact hkn))] = iv (V.take q) from by subst hq; rw [List.take_succ_eq_append_getElem (by rw [HLP.out.vl]; exact hkn)]; unfold iv; rw [List.map_append]; rfl)
      obtain ⟨v, hv⟩ : ∃ v, (V[k]'(by rw [HLP.out.vl]; exact hkn)) = v := ⟨_, rfl⟩
      obtain ⟨sx, hsx⟩ : ∃ s, (ws[q]'hqw).1 = s := ⟨_, rfl⟩
      rw [hv] at HRD HTK
      rw [hsx] at HRD hwq
      have HWQ := hide hwq
      clear hrd hrd2 hv hsx hfx hwq hqw
      have HQ := hide hq
      clear hq
      go_wp2_with fail
      refine wp_region_held_drew (S := fun w_ => Below wr.heap.size wr w_) (by kernel_rfl) (below_drewN (Below.refl wr.heap.size wr) 1) (fun hHeld => ?_)
      refine take_at (i := 0) 129 (v := SF) rfl rfl (by kernel_rfl) (by kernel_rfl) (by kernel_rfl) (fun _ _ _ h => HPP.out _ _ _ _ _ h) (Or.inl ⟨by rfl, by intro w_ hSw; go_simp⟩) (by assumption) ?_
      try simp only [Act.put, List.setIfInBounds_toArray, List.set_cons_zero, List.set_cons_succ]
      refine take_at (i := 1) 130 (v := .int .i64 (k : Int)) rfl rfl (by kernel_rfl) (by kernel_rfl) (by kernel_rfl) (fun _ _ _ h => HPP.out _ _ _ _ _ h) (Or.inl ⟨by rfl, by intro w_ hSw; go_simp⟩) (by assumption) ?_
      try simp only [Act.put, List.setIfInBounds_toArray, List.set_cons_zero, List.set_cons_succ]
      refine take_at (i := 2) 131 (v := .int .u8 (fx.toNat : Int)) rfl rfl (by kernel_rfl) (by kernel_rfl) (by kernel_rfl) (fun _ _ _ h => HPP.out _ _ _ _ _ h) (Or.inl ⟨by rfl, by intro w_ hSw; go_simp⟩) (by assumption) ?_
      try simp only [Act.put, List.setIfInBounds_toArray, List.set_cons_zero, List.set_cons_succ]
      refine take_at (i := 3) 132 (v := .slice (some ⟨b12, o12, none⟩) 12 c12) rfl rfl (by kernel_rfl) (by kernel_rfl) (by kernel_rfl) (fun _ _ _ h => HPP.out _ _ _ _ _ h) (Or.inl ⟨by rfl, by intro w_ hSw; go_simp⟩) (by assumption) ?_
      try simp only [Act.put, List.setIfInBounds_toArray, List.set_cons_zero, List.set_cons_succ]
      refine take_at (i := 4) 133 (v := .int .i64 (k : Int)) rfl rfl (by kernel_rfl) (by kernel_rfl) (by kernel_rfl) (fun _ _ _ h => HPP.out _ _ _ _ _ h) (Or.inl ⟨by rfl, by intro w_ hSw; go_simp⟩) (by assumption) ?_
      try simp only [Act.put, List.setIfInBounds_toArray, List.set_cons_zero, List.set_cons_succ]
      refine take_at (i := 5) 134 (v := .int .i64 (q : Int)) rfl rfl (by kernel_rfl) (by kernel_rfl) (by kernel_rfl) (fun _ _ _ h => HPP.out _ _ _ _ _ h) (Or.inl ⟨by rfl, by intro w_ hSw; go_simp⟩) (by assumption) ?_
      try simp only [Act.put, List.setIfInBounds_toArray, List.set_cons_zero, List.set_cons_succ]
      refine take_at (i := 6) 135 (v := .pointer (some ⟨b12, o12 + q * 2, none⟩)) rfl rfl (by kernel_rfl) (by kernel_rfl) (by kernel_rfl) (fun _ _ _ h => HPP.out _ _ _ _ _ h) (Or.inl ⟨by rfl, by intro w_ hSw; go_simp⟩) (by assumption) ?_
      try simp only [Act.put, List.setIfInBounds_toArray, List.set_cons_zero, List.set_cons_succ]
      refine take_at (i := 7) 136 (v := .pointer (some ⟨b12, o12 + q * 2, none⟩)) rfl rfl (by kernel_rfl) (by kernel_rfl) (by kernel_rfl) (fun _ _ _ h => HPP.out _ _ _ _ _ h) (Or.inl ⟨by rfl, by intro w_ hSw; go_simp⟩) (by assumption) ?_
      try simp only [Act.put, List.setIfInBounds_toArray, List.set_cons_zero, List.set_cons_succ]
      refine take_at (i := 8) 137 (v := strV sx) rfl rfl (by kernel_rfl) (by kernel_rfl) (by kernel_rfl) (fun _ _ _ h => HPP.out _ _ _ _ _ h) (Or.inl ⟨by rfl, by intro w_ hSw; have hx2 := HWQ.out _ (Below.step HBB.out hSw); go_simp⟩) (by assumption) ?_
      try simp only [Act.put, List.setIfInBounds_toArray, List.set_cons_zero, List.set_cons_succ]
      refine wpAnyH_ready (rs := [9]) (by kernel_rfl) (by simp) ?_
      refine AllReadyH.cons rfl (fun K hK => ?_) AllReadyH.nil
      go_simp
      go_at_call 56
      refine (HRD.out _).mono ?_
      rintro e v9 ⟨rfl, hb⟩
      replace hHeld := Below.step hHeld hb
      clear hb
      try simp only []
      refine hK.out _ _ hHeld (fun hHeld => ?_)
      clear hK K
      try simp only [Act.put, List.setIfInBounds_toArray, List.set_cons_zero, List.set_cons_succ]
      refine take_at (i := 10) 128 (v := .tuple #[.int .i64 v, .int .i64 0]) rfl rfl (by kernel_rfl) (by kernel_rfl) (by kernel_rfl) (fun _ _ _ h => HPP.out _ _ _ _ _ h) (Or.inl ⟨by rfl, by intro w_ hSw; go_simp⟩) (by assumption) ?_
      try simp only [Act.put, List.setIfInBounds_toArray, List.set_cons_zero, List.set_cons_succ]
      refine take_at (i := 11) 139 (v := .int .i64 v) rfl rfl (by kernel_rfl) (by kernel_rfl) (by kernel_rfl) (fun _ _ _ h => HPP.out _ _ _ _ _ h) (Or.inl ⟨by rfl, by intro w_ hSw; go_simp⟩) (by assumption) ?_
      try simp only [Act.put, List.setIfInBounds_toArray, List.set_cons_zero, List.set_cons_succ]
      refine take_at (i := 12) 140 (v := .int .i64 0) rfl rfl (by kernel_rfl) (by kernel_rfl) (by kernel_rfl) (fun _ _ _ h => HPP.out _ _ _ _ _ h) (Or.inl ⟨by rfl, by intro w_ hSw; go_simp⟩) (by assumption) ?_
      try simp only [Act.put, List.setIfInBounds_toArray, List.set_cons_zero, List.set_cons_succ]
      refine take_at (i := 13) 19 (v := .int .i64 v) rfl rfl (by kernel_rfl) (by kernel_rfl) (by kernel_rfl) (fun _ _ _ h => HPP.out _ _ _ _ _ h) (Or.inl ⟨by rfl, by intro w_ hSw; go_simp⟩) (by assumption) ?_
      try simp only [Act.put, List.setIfInBounds_toArray, List.set_cons_zero, List.set_cons_succ]
      refine take_at (i := 14) 20 (v := .int .i64 0) rfl rfl (by kernel_rfl) (by kernel_rfl) (by kernel_rfl) (fun _ _ _ h => HPP.out _ _ _ _ _ h) (Or.inl ⟨by rfl, by intro w_ hSw; go_simp⟩) (by assumption) ?_
      try simp only [Act.put, List.setIfInBounds_toArray, List.set_cons_zero, List.set_cons_succ]
      refine wpAnyH_done (by kernel_rfl) ?_ _
      have HO9 := hide (own_bel HO.out hHeld)
      have HB9 := hide (Below.step HBB.out hHeld)
      have hs9 := HB9.out.size
      clear hHeld HRD HWQ hidx
      go_wp2_with (at_builtin
                   refine wpList_append_any _ rfl (.tmp 154) (.tmp 156) _ rfl wo.heap.size 3 i0 _ 1 8 Try.underlying103 hi0' hz0 hz1 hz2 rfl (by omega) _ k (iv (V.take k)) rfl
                     (HO9.out.alloc _) (v9.heap.size + 1) (some ⟨v9.heap.size, 0, none⟩) 1 1 [.int .i64 v] rfl (reads_one v9 (.int .i64 v) 3) (by simp [Value.oneCell']) (by simp only [maxLen]; omega) (by omega) (by simp; omega) ?_
                   intro v' w10 hown' hgrow _)
      obtain ⟨C2, k2, rfl⟩ := own_form hown'
      rw [HTK.out] at hown'
      have hq := HQ.out
      subst hq
      go_roundw
      case rel => first | exact ⟨k + 1, C2, k2, by omega, rfl, rfl, hown', Below.app HB9.out HO9.out hgrow⟩ | ((repeat apply Exists.intro); exact ⟨⟨k + 1, C2, k2, by omega, rfl, rfl, hown', Below.app HB9.out HO9.out hgrow⟩, rfl⟩)
      case measure => simp [intOf]; omega
    · have hk3 : k = 11 := by omega
      subst hk3
      rw [show ((11 : Nat) : Int) = 11 from rfl]
      have g4 : ¬ ((11 : Int) < 11) := by omega
      have ho16 := HO.out
      rw [List.take_of_length_le (by rw [HLP.out.vl]; omega)] at ho16
      obtain ⟨b16, o16, rfl, hb16, hv16⟩ := own_nums ho16 HLP.out.vl (by omega)
      have HO16 := hide ho16
      have HB16 := hide hb16
      have HV16 := hide hv16
      clear ho16 hb16 hv16
      have HPW := hide (HPO.out.bel HBB.out)
      go_wp2_with fail
      have hm4' := hm4
      obtain ⟨s, hs⟩ : ∃ s, exS[m]'hm4 = s := ⟨_, rfl⟩
      have HS := hide hs
      have hV3 : V = [s.kd, s.pa, s.pe, s.of_, s.sl, s.sy, s.sn, s.bk, s.bn, s.st, s.sh] := by have h := HV.out; have hi0 := HI.out; subst hi0; rw [← h, ← hs]; exact ex_sigS m hm4
      have r0 : wr.cell? ⟨b16, o16, none⟩ = some (.int .i64 s.kd) := by have h := HV16.out 0 (by rw [hV3]; simp); simp only [hV3] at h; exact h
      have r1 : wr.cell? ⟨b16, o16 + 1, none⟩ = some (.int .i64 s.pa) := by have h := HV16.out 1 (by rw [hV3]; simp); simp only [hV3] at h; exact h
      have r2 : wr.cell? ⟨b16, o16 + 2, none⟩ = some (.int .i64 s.pe) := by have h := HV16.out 2 (by rw [hV3]; simp); simp only [hV3] at h; exact h
      have r3 : wr.cell? ⟨b16, o16 + 3, none⟩ = some (.int .i64 s.of_) := by have h := HV16.out 3 (by rw [hV3]; simp); simp only [hV3] at h; exact h
      have r4 : wr.cell? ⟨b16, o16 + 4, none⟩ = some (.int .i64 s.sl) := by have h := HV16.out 4 (by rw [hV3]; simp); simp only [hV3] at h; exact h
      have r5 : wr.cell? ⟨b16, o16 + 5, none⟩ = some (.int .i64 s.sy) := by have h := HV16.out 5 (by rw [hV3]; simp); simp only [hV3] at h; exact h
      have r6 : wr.cell? ⟨b16, o16 + 6, none⟩ = some (.int .i64 s.sn) := by have h := HV16.out 6 (by rw [hV3]; simp); simp only [hV3] at h; exact h
      have r7 : wr.cell? ⟨b16, o16 + 7, none⟩ = some (.int .i64 s.bk) := by have h := HV16.out 7 (by rw [hV3]; simp); simp only [hV3] at h; exact h
      have r8 : wr.cell? ⟨b16, o16 + 8, none⟩ = some (.int .i64 s.bn) := by have h := HV16.out 8 (by rw [hV3]; simp); simp only [hV3] at h; exact h
      have r9 : wr.cell? ⟨b16, o16 + 9, none⟩ = some (.int .i64 s.st) := by have h := HV16.out 9 (by rw [hV3]; simp); simp only [hV3] at h; exact h
      have r10 : wr.cell? ⟨b16, o16 + 10, none⟩ = some (.int .i64 s.sh) := by have h := HV16.out 10 (by rw [hV3]; simp); simp only [hV3] at h; exact h
      have w5 : IntKind.i64.wrap ((i : Int) + 1) = (i : Int) + 1 := IntWalk.i64_in _ (by omega)
      clear hV3 hs hm4'
      refine pr36 _ (fun c a d v w h => by exact HPP.out c a d v w h) b16 o16 c16 s _ _ _ _ _ _ _ _ _ _ _ _ _ _ _ _ _ _ _ _ _ _ _ _ _ _ _ _ _ _ _ _ _ _ _ _ _ _ _ _ _ _ _ _ _ _ _ _ _ _ _ _ _ _ _ _ _ _ _ _ _ _ _ _ _ _ _ _ _ _ _ _ _ _ _ _ _ _ _ _ _ _ _ _ _ _ _ _ _ _ _ _ _ _ _ _ _ _ _ _ _ _ _ _ _ _ _ _ _ _ _ _ _ _ _ _ _ _ _ _ _ _ _ _ _ _ _ _ _ _ _ _ _ _ _ _ _ _ _ _ _ _ _ _ _ _ _ _ _ _ _ _ _ _ _ _ _ _ _ _ _ _ _ _ _ _ _ _ _ _ _ _ _ _ _ _ _ _ _ _ _ _ _ _ _ _ _ _ _ _ _ _ _ _ _ _ _ _ _ _ _ _ _ _ _ _ _ _ _ _ _ _ _ _ _ _ _ _ _ _ _ _ _ _ _ _ _ _ _ _ _ _ _ _ _ _ _ _ _ _ _ _ _ _ _ _ _ _ _ _ _ _ _ _ _ _ _ _ _ _ _ _ _ _ _ _ _ _ _ _ _ _ _ _ _ _ _ _ _ _ _ _ _ _ _ _ _ _ _ _ _ _ _ _ _ _ _ r0 r1 r2 r3 r4 r5 r6 r7 r8 r9 r10 (fun _ _ _ _ _ _ _ _ _ _ _ _ _ _ _ _ _ _ _ _ _ _ _ _ _ _ _ _ _ _ _ _ _ _ g21 wx hB hb => ?_)
      have HPX := hide (show PSt g7 W1 (m + 2) A3 A4 A9 A10 c3 c4 c9 c10 wx from by have h := HPW.out.bel hb; have hi0 := HI.out; subst hi0; exact h)
      clear hb r0 r1 r2 r3 r4 r5 r6 r7 r8 r9 r10
      rw [show snI i = snI (m + 2) from by rw [HI.out]]
      have hsn4 : snI (m + 2) ≤ 4 := by rw [sn_m]; omega
      have HBK := hide hB
      have y0 : wx.cell? ⟨g21, 0, none⟩ = some (.int .i64 s.kd) := hB.cell 0
      have y1 : wx.cell? ⟨g21, 1, none⟩ = some (.int .i64 s.pa) := hB.cell 1
      have y2 : wx.cell? ⟨g21, 2, none⟩ = some (.int .i64 s.pe) := hB.cell 2
      have y3 : wx.cell? ⟨g21, 3, none⟩ = some (.int .i64 s.of_) := hB.cell 3
      have y4 : wx.cell? ⟨g21, 4, none⟩ = some (.int .i64 s.sl) := hB.cell 4
      have y5 : wx.cell? ⟨g21, 5, none⟩ = some (.int .i64 s.sy) := hB.cell 5
      have y6 : wx.cell? ⟨g21, 6, none⟩ = some (.int .i64 s.sn) := hB.cell 6
      have y7 : wx.cell? ⟨g21, 7, none⟩ = some (.int .i64 s.bk) := hB.cell 7
      have y8 : wx.cell? ⟨g21, 8, none⟩ = some (.int .i64 s.bn) := hB.cell 8
      have y9 : wx.cell? ⟨g21, 9, none⟩ = some (.int .i64 s.st) := hB.cell 9
      have y10 : wx.cell? ⟨g21, 10, none⟩ = some (.int .i64 s.sh) := hB.cell 10
      have z4 : wx.cell? ⟨g7, 4, none⟩ = some (.slice A4 (snI (m + 2)) c4) := HPX.out.box.cell 4
      have hszx := HPX.out.gr.size
      clear hB
      go_wp2_with (first
        | (at_builtin; have qq := HG1; (refine wpList_append_any _ rfl (.tmp 215) (.tmp 218) _ rfl W1.heap.size 3 i0 _ 1 8 Try.underlying103 hi0' hz0 hz1 hz2 rfl (by omega) _ (snI (m + 2)) xs rfl (H10.out.alloc _) (w8.heap.size + 1) (some ⟨w8.heap.size, 0, none⟩) 1 1 [.int .i64 ((i : Int) + 1)] rfl (reads_one w8 (.int .i64 ((i : Int) + 1)) 3) (by simp [Value.oneCell']) (by simp only [maxLen]; omega) (by omega) (by simp; omega) ?_); intro v2 w9 hown2 hg2 _; (obtain ⟨A6', c6', rfl⟩ := own_form hown2); have HO10 := hide hown2; have HG2 := hide hg2; (have HBX := hide ((HBX1.out.alloc (.cells #[.int .i64 ((i : Int) + 1)] 3)).grown hg2 (fun e => own_blk_ne (H10.out.alloc (.cells #[.int .i64 ((i : Int) + 1)] 3)) (HBX1.out.alloc (.cells #[.int .i64 ((i : Int) + 1)] 3)) (by decide) e.symm))); clear hown2 hg2 qq; have hf := HBX.out.frozen 4; have hc := HBX.out.cell 4; have hl := HBX.out.lt; simp only [])
        | (at_builtin; refine wpList_append_any _ rfl (.tmp 211) (.tmp 213) _ rfl W1.heap.size 82 i2 _ 11 88 Try.underlying23 hk0 hx0 hx1 hx2 rfl (by omega) _ (snI (m + 2)) (flatC Sig.cs (exS.take (snI (m + 2)))) rfl (HPX.out.o4.alloc _) _ (some ⟨wx.heap.size, 0, none⟩) 1 1 (flatC Sig.cs [s]) rfl (Rws.reads sig_n (by omega) (sigs_blk (Blk.new wx 82 #[.int .i64 s.kd, .int .i64 s.pa, .int .i64 s.pe, .int .i64 s.of_, .int .i64 s.sl, .int .i64 s.sy, .int .i64 s.sn, .int .i64 s.bk, .int .i64 s.bn, .int .i64 s.st, .int .i64 s.sh]))) (flat_one sig_one _) (by simp only [maxLen]; omega) (by omega) (by simp; omega) ?_; intro v1 w8 hown1 hg1 _; obtain ⟨A5', c5', rfl⟩ := own_form hown1; obtain ⟨xs, h10⟩ := o10_keep HPX.out hg1; have H10 := hide h10; have HO4 := hide hown1; have HG1 := hide hg1; have HBX1 := hide ((HPX.out.box.alloc (.cells #[.int .i64 s.kd, .int .i64 s.pa, .int .i64 s.pe, .int .i64 s.of_, .int .i64 s.sl, .int .i64 s.sy, .int .i64 s.sn, .int .i64 s.bk, .int .i64 s.bn, .int .i64 s.st, .int .i64 s.sh] 82)).grown hg1 (fun e => own_blk_ne (HPX.out.o4.alloc (.cells #[.int .i64 s.kd, .int .i64 s.pa, .int .i64 s.pe, .int .i64 s.of_, .int .i64 s.sl, .int .i64 s.sy, .int .i64 s.sn, .int .i64 s.bk, .int .i64 s.bn, .int .i64 s.st, .int .i64 s.sh] 82)) (HPX.out.box.alloc (.cells #[.int .i64 s.kd, .int .i64 s.pa, .int .i64 s.pe, .int .i64 s.of_, .int .i64 s.sl, .int .i64 s.sy, .int .i64 s.sn, .int .i64 s.bk, .int .i64 s.bn, .int .i64 s.st, .int .i64 s.sh] 82)) (by decide) e.symm)); have hsz8 := hg1.size; simp at hsz8; clear hown1 hg1 h10 z4 y0 y1 y2 y3 y4 y5 y6 y7 y8 y9 y10; simp only []))
      have HPY := hide (PSt.sig (A10' := A6') (c10' := c6') hm4 HPX.out HG1.out (by rw [HS.out]; exact HO4.out) HG2.out ⟨_, HO10.out⟩)
      refine HK.out _ _ _ _ _ _ _ _ _ _ _ _ _ _ _ _ _ _ _ _ _ _ _ _ _ _ _ _ _ _ _ _ _ _ _ _ _ _ _ _ _ _ _ _ _ _ _ _ _ _ _ _ _ _ _ _ _ _ _ _ _ _ _ _ _ _ _ _ _ _ _ _ _ _ _ _ _ _ _ _ _ _ _ _ _ _ _ _ _ _ _ _ _ _ _ _ _ _ _ _ _ _ _ _ _ _ _ _ _ _ _ _ _ _ _ _ _ _ _ _ _ _ _ _ _ _ _ _ _ _ _ _ _ _ _ _ _ _ _ _ _ _ _ _ _ _ _ _ _ _ _ _ _ _ _ _ _ _ _ _ _ _ _ _ _ _ _ _ _ _ _ _ _ _ _ _ _ _ _ _ _ _ _ _ _ _ _ _ _ _ _ _ _ _ _ _ _ _ _ _ _ _ _ _ _ _ _ _ _ _ _ _ _ _ _ _ _ _ _ _ _ _ _ _ _ _ _ _ _ _ A3 A5' A9 A6' c3 c5' c9 c6' _ ?_ ?_ ?_ ?_ ?_
      · (first | rfl | (congr 1))
      · have hi0 := HI.out; subst hi0; unfold bgI; rw [if_neg (by omega)]
      · have hi0 := HI.out; subst hi0; rw [pn_sig m, pn_sig2 m]
      · have hi0 := HI.out; subst hi0; rw [sn_succ]
      · have hi0 := HI.out; subst hi0; exact HPY.out
end Go.Proofs.Ytfolipkbcibgdaa
