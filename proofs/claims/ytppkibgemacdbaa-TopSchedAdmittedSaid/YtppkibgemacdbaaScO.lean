import Derived.Test.YtppkibgemacdbaaScN
import Derived.Test.YtppkibgemacdbaaUpP
import Derived.Test.YtppkibgemacdbaaRegOps
namespace Go.Proofs.Ytppkibgemacdbaa
open Go.RowKit Go.WideShapes Go.ChangeShapes

/-! the law TopSchedAdmitted: its region that appends to two rows of a slot -/
/-- a slot's block and its two rows, which lie apart -/
structure Two (b0 g : Nat) (cs : Array Value) (v1 v2 : Value) (n1 n2 : Nat) (x1 x2 : List Value) (w0 w : World) : Prop where
  slot : Blk w g 44 cs
  own1 : w.ownsRow b0 3 1 v1 n1 x1
  own2 : w.ownsRow b0 3 1 v2 n2 x2
  dj : ∀ j, v1.ownBlock = some j → v2.ownBlock ≠ some j
  bel : Below b0 w0 w
  hg : b0 ≤ g
theorem Two.hs {b0 g : Nat} {cs : Array Value} {v1 v2 : Value} {n1 n2 : Nat} {x1 x2 : List Value} {w0 w : World} (h : Two b0 g cs v1 v2 n1 n2 x1 x2 w0 w) : b0 ≤ w.heap.size := by have h1 := h.slot.lt; have h2 := h.hg; omega
theorem Two.step {b0 g : Nat} {cs : Array Value} {v1 v2 : Value} {n1 n2 : Nat} {x1 x2 : List Value} {w0 w w' : World} (h : Two b0 g cs v1 v2 n1 n2 x1 x2 w0 w) (hb : Below w.heap.size w w') : Two b0 g cs v1 v2 n1 n2 x1 x2 w0 w' :=
  ⟨h.slot.below hb h.slot.lt, own_bel h.own1 hb, own_bel h.own2 hb, h.dj, h.bel.trans (hb.mono h.hs), h.hg⟩
theorem Two.app1 {b0 g : Nat} {cs : Array Value} {v1 v2 v1' : Value} {n1 n2 n1' : Nat} {x1 x2 x1' : List Value} {w0 w w' : World} (h : Two b0 g cs v1 v2 n1 n2 x1 x2 w0 w) (hg : w.grownBy w' v1.ownBlock) (ho : w'.ownsRow b0 3 1 v1' n1' x1') (hat : v1'.ownBlock = v1.ownBlock ∨ v1'.ownBlock = some w.heap.size) : Two b0 g cs v1' v2 n1' n2 x1' x2 w0 w' := by
  refine ⟨h.slot.grown hg (fun e => own_blk_ne h.own1 h.slot (by decide) e.symm), ho, h.own2.kept hg ?_, fun j hj e => ?_, h.bel.grown hg h.hs (fun j hj => (h.own1.lt j hj).1), h.hg⟩
  · cases hv : v2.ownBlock with
    | none => exact .inl rfl
    | some j => exact .inr fun e => h.dj j e.symm hv
  · rcases hat with x | x
    · exact h.dj j (x ▸ hj) e
    · rw [x] at hj
      injection hj with hj
      have := (h.own2.lt j e).2
      omega
theorem Two.app2 {b0 g : Nat} {cs : Array Value} {v1 v2 v2' : Value} {n1 n2 n2' : Nat} {x1 x2 x2' : List Value} {w0 w w' : World} (h : Two b0 g cs v1 v2 n1 n2 x1 x2 w0 w) (hg : w.grownBy w' v2.ownBlock) (ho : w'.ownsRow b0 3 1 v2' n2' x2') (hat : v2'.ownBlock = v2.ownBlock ∨ v2'.ownBlock = some w.heap.size) : Two b0 g cs v1 v2' n1 n2' x1 x2' w0 w' := by
  refine ⟨h.slot.grown hg (fun e => own_blk_ne h.own2 h.slot (by decide) e.symm), h.own1.kept hg ?_, ho, fun j hj e => ?_, h.bel.grown hg h.hs (fun j hj => (h.own2.lt j hj).1), h.hg⟩
  · cases hv : v1.ownBlock with
    | none => exact .inl rfl
    | some j => exact .inr fun e => h.dj j hv e.symm
  · rcases hat with x | x
    · exact h.dj j hj (x ▸ e)
    · rw [x] at e
      injection e with e
      have := (h.own1.lt j hj).2
      omega
theorem Two.set_ {b0 g : Nat} {cs : Array Value} {v1 v2 : Value} {n1 n2 : Nat} {x1 x2 : List Value} {w0 w : World} (h : Two b0 g cs v1 v2 n1 n2 x1 x2 w0 w) (i : Nat) (u : Value) : Two b0 g (cs.setIfInBounds i u) v1 v2 n1 n2 x1 x2 w0 (w.setCell ⟨g, i, none⟩ u) := by
  have hgr : w.grownBy (w.setCell ⟨g, i, none⟩ u) (some g) := ⟨rfl, rfl, rfl, by simp [World.setCell], fun k _ hk => Below.heap_setCell w ⟨g, i, none⟩ u k (fun e => hk (by rw [e]))⟩
  exact ⟨h.slot.set_ i u, h.own1.kept hgr (.inr (own_blk_ne h.own1 h.slot (by decide))), h.own2.kept hgr (.inr (own_blk_ne h.own2 h.slot (by decide))), h.dj, h.bel.grown hgr h.hs (fun j hj => by injection hj with hj; have := h.hg; omega), h.hg⟩
set_option maxRecDepth 100000 in
set_option maxHeartbeats 16000000 in
theorem ad31 (Q : Exit → Act → World → Prop) (hP : ∀ c a d v w, Q (.panic c) (Act.put a d v) w → Q (.panic c) a w) (b0 g b o k p d c1 c2 : Nat) (A1 A2 : Option Addr) (la lb : List Value) (le val : Int) (w0 wr : World) (x0 x1 x2 x3 x4 x5 x6 x8 x9 x10 x11 x12 x16 x17 x18 x19 x20 x21 x22 x23 x24 x25 x26 x27 x28 x29 x30 x31 x32 x33 x34 x35 x36 x37 x38 x39 x40 x41 x42 x43 x44 x45 x46 x47 x48 x49 x50 x51 x52 x53 x54 x55 x56 x57 x58 x59 x60 x61 x62 x63 x64 x65 x66 x67 x68 x69 x70 x71 x72 x73 x74 x75 x76 x77 x78 x79 x80 x81 x82 x83 x84 x85 x86 x87 x88 x89 x90 x91 x92 x93 x94 x95 x96 x97 x98 x99 x100 x101 x102 x103 x104 x105 x106 x107 x108 x109 x110 x111 x112 x113 x114 x115 x116 x117 x118 x119 x120 x121 x122 x123 x124 x125 x126 x127 x128 x129 x130 x131 x132 x133 x134 x135 x136 x137 x138 x139 x140 x141 x142 x143 x144 x145 x146 x147 x148 x149 : Value)
    (hT : Two b0 g #[.slice A1 k c1, .slice A2 k c2] (.slice A1 k c1) (.slice A2 k c2) k k la lb w0 wr) (hc : w0.cell? ⟨b, o + k * 9 + 5, none⟩ = some (.int .i64 le)) (hbb : b < b0) (hki : (k : Int) < (p : Int)) (hk8 : k ≤ 8)
    (hQ : ∀ y118 y119 y120 y121 y122 y123 y124 y125 y126 y127 y128 y129 y130 y131 y132 y133 wx A3 c3 A4 c4, Two b0 g #[.slice A3 (k + 1) c3, .slice A4 (k + 1) c4] (.slice A3 (k + 1) c3) (.slice A4 (k + 1) c4) (k + 1) (k + 1) (la ++ [.int .i64 le]) (lb ++ [.int .i64 val]) w0 wx → Q .normal ⟨#[x0, x1, x2, x3, x4, x5, x6, .slice (some ⟨b, o, none⟩) p d, x8, x9, x10, x11, x12, .pointer (some ⟨g, 0, none⟩), .int .i64 (k : Int), .int .i64 val, x16, x17, x18, x19, x20, x21, x22, x23, x24, x25, x26, x27, x28, x29, x30, x31, x32, x33, x34, x35, x36, x37, x38, x39, x40, x41, x42, x43, x44, x45, x46, x47, x48, x49, x50, x51, x52, x53, x54, x55, x56, x57, x58, x59, x60, x61, x62, x63, x64, x65, x66, x67, x68, x69, x70, x71, x72, x73, x74, x75, x76, x77, x78, x79, x80, x81, x82, x83, x84, x85, x86, x87, x88, x89, x90, x91, x92, x93, x94, x95, x96, x97, x98, x99, x100, x101, x102, x103, x104, x105, x106, x107, x108, x109, x110, x111, x112, x113, x114, x115, x116, x117, y118, y119, y120, y121, y122, y123, y124, y125, y126, y127, y128, y129, y130, y131, y132, y133, x134, x135, x136, x137, x138, x139, x140, x141, x142, x143, x144, x145, x146, x147, x148, x149], []⟩ wx) :
    (Code.region 31 (regOps Try.f3 31) true).wp Try.prog Q ⟨#[x0, x1, x2, x3, x4, x5, x6, .slice (some ⟨b, o, none⟩) p d, x8, x9, x10, x11, x12, .pointer (some ⟨g, 0, none⟩), .int .i64 (k : Int), .int .i64 val, x16, x17, x18, x19, x20, x21, x22, x23, x24, x25, x26, x27, x28, x29, x30, x31, x32, x33, x34, x35, x36, x37, x38, x39, x40, x41, x42, x43, x44, x45, x46, x47, x48, x49, x50, x51, x52, x53, x54, x55, x56, x57, x58, x59, x60, x61, x62, x63, x64, x65, x66, x67, x68, x69, x70, x71, x72, x73, x74, x75, x76, x77, x78, x79, x80, x81, x82, x83, x84, x85, x86, x87, x88, x89, x90, x91, x92, x93, x94, x95, x96, x97, x98, x99, x100, x101, x102, x103, x104, x105, x106, x107, x108, x109, x110, x111, x112, x113, x114, x115, x116, x117, x118, x119, x120, x121, x122, x123, x124, x125, x126, x127, x128, x129, x130, x131, x132, x133, x134, x135, x136, x137, x138, x139, x140, x141, x142, x143, x144, x145, x146, x147, x148, x149], []⟩ wr := by
  obtain ⟨i2, hj0, hy0, hy1, hy2⟩ := info_parts int_info
  obtain ⟨ops, hops⟩ : ∃ ops, ops = regOps Try.f3 31 := ⟨_, rfl⟩
  rw [← hops]
  simp [regOps, Try.f3, opsIn] at hops
  subst hops
  have HL1 := hide (fun j (e : Value.ownBlock (.slice A1 k c1) = some j) => (hT.own1.lt j e).2)
  have HT := hide (hT.step (below_drew (Below.refl wr.heap.size wr)))
  have hsz : wr.heap.size ≤ wr.drew.heap.size := Nat.le_refl _
  clear hT
  have hH1 : (wr.drew.cell? ⟨g, 0, none⟩ = some (.slice A1 k c1) ∧ wr.drew.cell? ⟨g, 1, none⟩ = some (.slice A2 k c2)) ∧ wr.drew.cell? ⟨b, o + k * 9 + 5, none⟩ = some (.int .i64 le) := ⟨⟨HT.out.slot.cell 0, HT.out.slot.cell 1⟩, (HT.out.bel.cell hbb).trans hc⟩
  refine UpP.start (Z := [15, 17]) (S := fun w_ => (w_.cell? ⟨g, 0, none⟩ = some (.slice A1 k c1) ∧ w_.cell? ⟨g, 1, none⟩ = some (.slice A2 k c2)) ∧ w_.cell? ⟨b, o + k * 9 + 5, none⟩ = some (.int .i64 le)) (Z' := []) (S' := fun _ => True) (by kernel_rfl) ?_
  refine UpP.pure (i := 0) 118 (v := .pointer (some ⟨g, 0, none⟩)) rfl rfl (by kernel_rfl) (by kernel_rfl) (by kernel_rfl) (fun _ _ _ h => hP _ _ _ _ _ h) (Or.inl ⟨by rfl, by intro w_ hSw; go_simp⟩) ?_
  try simp only [Act.put, List.setIfInBounds_toArray, List.set_cons_zero, List.set_cons_succ]
  refine UpP.take (i := 1) 119 (v := .slice A1 k c1) rfl rfl (by kernel_rfl) (by kernel_rfl) (by kernel_rfl) (by kernel_rfl) (fun _ _ _ h => hP _ _ _ _ _ h) hH1 (Or.inl ⟨by rfl, by intro w_ hSw; have q0 := hSw.1.1; go_simp⟩) ?_
  try simp only [Act.put, List.setIfInBounds_toArray, List.set_cons_zero, List.set_cons_succ]
  refine UpP.pure (i := 2) 120 (v := .slice (some ⟨b, o, none⟩) p d) rfl rfl (by kernel_rfl) (by kernel_rfl) (by kernel_rfl) (fun _ _ _ h => hP _ _ _ _ _ h) (Or.inl ⟨by rfl, by intro w_ hSw; go_simp⟩) ?_
  try simp only [Act.put, List.setIfInBounds_toArray, List.set_cons_zero, List.set_cons_succ]
  refine UpP.pure (i := 3) 121 (v := .int .i64 (k : Int)) rfl rfl (by kernel_rfl) (by kernel_rfl) (by kernel_rfl) (fun _ _ _ h => hP _ _ _ _ _ h) (Or.inl ⟨by rfl, by intro w_ hSw; go_simp⟩) ?_
  try simp only [Act.put, List.setIfInBounds_toArray, List.set_cons_zero, List.set_cons_succ]
  refine UpP.pure (i := 4) 122 (v := .pointer (some ⟨b, o + k * 9, none⟩)) rfl rfl (by kernel_rfl) (by kernel_rfl) (by kernel_rfl) (fun _ _ _ h => hP _ _ _ _ _ h) (Or.inl ⟨by rfl, by intro w_ hSw; go_simp⟩) ?_
  try simp only [Act.put, List.setIfInBounds_toArray, List.set_cons_zero, List.set_cons_succ]
  refine UpP.pure (i := 5) 123 (v := .pointer (some ⟨b, o + k * 9 + 5, none⟩)) rfl rfl (by kernel_rfl) (by kernel_rfl) (by kernel_rfl) (fun _ _ _ h => hP _ _ _ _ _ h) (Or.inl ⟨by rfl, by intro w_ hSw; go_simp⟩) ?_
  try simp only [Act.put, List.setIfInBounds_toArray, List.set_cons_zero, List.set_cons_succ]
  refine UpP.take (i := 6) 124 (v := .int .i64 le) rfl rfl (by kernel_rfl) (by kernel_rfl) (by kernel_rfl) (by kernel_rfl) (fun _ _ _ h => hP _ _ _ _ _ h) hH1 (Or.inl ⟨by rfl, by intro w_ hSw; have q0 := hSw.2; go_simp⟩) ?_
  try simp only [Act.put, List.setIfInBounds_toArray, List.set_cons_zero, List.set_cons_succ]
  refine UpP.pure (i := 9) 127 (v := .pointer (some ⟨g, 1, none⟩)) rfl rfl (by kernel_rfl) (by kernel_rfl) (by kernel_rfl) (fun _ _ _ h => hP _ _ _ _ _ h) (Or.inl ⟨by rfl, by intro w_ hSw; go_simp⟩) ?_
  try simp only [Act.put, List.setIfInBounds_toArray, List.set_cons_zero, List.set_cons_succ]
  refine UpP.take (i := 10) 128 (v := .slice A2 k c2) rfl rfl (by kernel_rfl) (by kernel_rfl) (by kernel_rfl) (by kernel_rfl) (fun _ _ _ h => hP _ _ _ _ _ h) hH1 (Or.inl ⟨by rfl, by intro w_ hSw; have q0 := hSw.1.2; go_simp⟩) ?_
  try simp only [Act.put, List.setIfInBounds_toArray, List.set_cons_zero, List.set_cons_succ]
  refine UpP.pure (i := 11) 129 (v := .int .i64 val) rfl rfl (by kernel_rfl) (by kernel_rfl) (by kernel_rfl) (fun _ _ _ h => hP _ _ _ _ _ h) (Or.inl ⟨by rfl, by intro w_ hSw; go_simp⟩) ?_
  try simp only [Act.put, List.setIfInBounds_toArray, List.set_cons_zero, List.set_cons_succ]
  generalize wr.drew = v0 at hH1 hsz HT ⊢
  obtain ⟨p7, hp7⟩ : ∃ p, v0.heap.size = p := ⟨_, rfl⟩
  have hpg7 : wr.heap.size ≤ p7 := by omega
  obtain ⟨p12, hp12⟩ : ∃ p, v0.heap.size = p := ⟨_, rfl⟩
  have hpg12 : wr.heap.size ≤ p12 := by omega
  refine UpP.next2 (i := 7) (j := 12) (by kernel_rfl) rfl rfl (fun K hK => ?_) (fun K hK => ?_)
  · clear hp12 hpg12
    go_simp
    have hbn := (Below.refl v0.heap.size v0).alloc (Nat.le_refl _) (.cells #[.int .i64 le] 3)
    replace HT := hide (HT.out.step hbn)
    replace hsz := Nat.le_trans hsz hbn.size
    have H7 := hide (stay_at (show (v0.alloc (.cells #[.int .i64 le] 3)).cell? ⟨p7, 0, none⟩ = some (.int .i64 le) from (Blk.newN v0 3 #[.int .i64 le] hp7).cell 0))
    obtain ⟨v1, hwn⟩ : ∃ w9, v0.alloc (.cells #[.int .i64 le] 3) = w9 := ⟨_, rfl⟩
    rw [hwn] at hsz HT H7 ⊢
    clear hbn hwn hp7 hH1
    have hH1 : (v1.cell? ⟨g, 0, none⟩ = some (.slice A1 k c1) ∧ v1.cell? ⟨g, 1, none⟩ = some (.slice A2 k c2)) ∧ v1.cell? ⟨b, o + k * 9 + 5, none⟩ = some (.int .i64 le) := ⟨⟨HT.out.slot.cell 0, HT.out.slot.cell 1⟩, (HT.out.bel.cell hbb).trans hc⟩
    refine hK.out _ _ ⟨fun _ _ => hH1, fun _ _ => trivial⟩ ?_
    clear hK K
    try simp only [Act.put, List.setIfInBounds_toArray, List.set_cons_zero, List.set_cons_succ]
    obtain ⟨p12, hp12⟩ : ∃ p, v1.heap.size = p := ⟨_, rfl⟩
    have hpg12 : wr.heap.size ≤ p12 := by omega
    refine UpP.next2 (i := 8) (j := 12) (by kernel_rfl) rfl rfl (fun K hK => ?_) (fun K hK => ?_)
    · clear hp12 hpg12
      refine step_append_any _ (by rfl) (.tmp 119) (.tmp 125) 22 (by rfl) b0 3 i2 (.int .i64 0) 1 8 Try.underlying22 hj0 hy0 hy1 hy2 rfl (by omega) (.slice A1 k c1) k la (by rfl) HT.out.own1 (p7 + 1) (some ⟨p7, 0, none⟩) 1 1 [.int .i64 le] (by rfl) (reads_cell H7.out.now) (by simp [Value.oneCell']) (by simp only [maxLen]; omega) (by omega) HT.out.hs ?_
      intro v9 v2 hown9 hgrow hat
      replace hgrow : v1.grownBy v2 (Value.ownBlock (.slice A1 k c1)) := hgrow
      replace hat : v9.ownBlock = Value.ownBlock (.slice A1 k c1) ∨ v9.ownBlock = some v1.heap.size := hat
      obtain ⟨A3, c3, rfl⟩ := own_form hown9
      replace HT := hide (HT.out.app1 hgrow hown9 hat)
      replace hsz := Nat.le_trans hsz hgrow.size
      clear hown9 hgrow hat hH1 H7
      change K (Act.put _ (some 126) _) _
      have hH1 : (v2.cell? ⟨g, 0, none⟩ = some (.slice A1 k c1) ∧ v2.cell? ⟨g, 1, none⟩ = some (.slice A2 k c2)) ∧ v2.cell? ⟨b, o + k * 9 + 5, none⟩ = some (.int .i64 le) := ⟨⟨HT.out.slot.cell 0, HT.out.slot.cell 1⟩, (HT.out.bel.cell hbb).trans hc⟩
      refine hK.out _ _ ⟨fun _ _ => hH1, fun _ _ => trivial⟩ ?_
      clear hK K
      try simp only [Act.put, List.setIfInBounds_toArray, List.set_cons_zero, List.set_cons_succ]
      refine UpP.pure (i := 14) 132 (v := .pointer (some ⟨g, 0, none⟩)) rfl rfl (by kernel_rfl) (by kernel_rfl) (by kernel_rfl) (fun _ _ _ h => hP _ _ _ _ _ h) (Or.inl ⟨by rfl, by intro w_ hSw; go_simp⟩) ?_
      try simp only [Act.put, List.setIfInBounds_toArray, List.set_cons_zero, List.set_cons_succ]
      obtain ⟨p12, hp12⟩ : ∃ p, v2.heap.size = p := ⟨_, rfl⟩
      have hpg12 : wr.heap.size ≤ p12 := by omega
      refine UpP.next (i := 12) (by kernel_rfl) rfl (fun K hK => ?_)
      go_simp
      have hbn := (Below.refl v2.heap.size v2).alloc (Nat.le_refl _) (.cells #[.int .i64 val] 3)
      replace HT := hide (HT.out.step hbn)
      replace hsz := Nat.le_trans hsz hbn.size
      have H12 := hide (stay_at (show (v2.alloc (.cells #[.int .i64 val] 3)).cell? ⟨p12, 0, none⟩ = some (.int .i64 val) from (Blk.newN v2 3 #[.int .i64 val] hp12).cell 0))
      obtain ⟨v3, hwn⟩ : ∃ w9, v2.alloc (.cells #[.int .i64 val] 3) = w9 := ⟨_, rfl⟩
      rw [hwn] at hsz HT H12 ⊢
      clear hbn hwn hp12 hH1
      have hH1 : (v3.cell? ⟨g, 0, none⟩ = some (.slice A1 k c1) ∧ v3.cell? ⟨g, 1, none⟩ = some (.slice A2 k c2)) ∧ v3.cell? ⟨b, o + k * 9 + 5, none⟩ = some (.int .i64 le) := ⟨⟨HT.out.slot.cell 0, HT.out.slot.cell 1⟩, (HT.out.bel.cell hbb).trans hc⟩
      refine hK.out _ _ ⟨fun _ _ => hH1, fun _ _ => trivial⟩ ?_
      clear hK K
      try simp only [Act.put, List.setIfInBounds_toArray, List.set_cons_zero, List.set_cons_succ]
      refine UpP.next (i := 13) (by kernel_rfl) rfl (fun K hK => ?_)
      refine step_append_any _ (by rfl) (.tmp 128) (.tmp 130) 22 (by rfl) b0 3 i2 (.int .i64 0) 1 8 Try.underlying22 hj0 hy0 hy1 hy2 rfl (by omega) (.slice A2 k c2) k lb (by rfl) HT.out.own2 (p12 + 1) (some ⟨p12, 0, none⟩) 1 1 [.int .i64 val] (by rfl) (reads_cell H12.out.now) (by simp [Value.oneCell']) (by simp only [maxLen]; omega) (by omega) HT.out.hs ?_
      intro v9 v4 hown9 hgrow hat
      replace hgrow : v3.grownBy v4 (Value.ownBlock (.slice A2 k c2)) := hgrow
      replace hat : v9.ownBlock = Value.ownBlock (.slice A2 k c2) ∨ v9.ownBlock = some v3.heap.size := hat
      obtain ⟨A4, c4, rfl⟩ := own_form hown9
      replace HT := hide (HT.out.app2 hgrow hown9 hat)
      replace hsz := Nat.le_trans hsz hgrow.size
      clear hown9 hgrow hat hH1 H12
      change K (Act.put _ (some 131) _) _
      have hH1 : (v4.cell? ⟨g, 0, none⟩ = some (.slice A1 k c1) ∧ v4.cell? ⟨g, 1, none⟩ = some (.slice A2 k c2)) ∧ v4.cell? ⟨b, o + k * 9 + 5, none⟩ = some (.int .i64 le) := ⟨⟨HT.out.slot.cell 0, HT.out.slot.cell 1⟩, (HT.out.bel.cell hbb).trans hc⟩
      refine hK.out _ _ ⟨fun _ _ => hH1, fun _ _ => trivial⟩ ?_
      clear hK K
      try simp only [Act.put, List.setIfInBounds_toArray, List.set_cons_zero, List.set_cons_succ]
      have o0 : v4.cell? ⟨g, 0, none⟩ = some (.slice A1 k c1) := HT.out.slot.cell 0
      have o1 : v4.cell? ⟨g, 1, none⟩ = some (.slice A2 k c2) := HT.out.slot.cell 1
      have f0 := HT.out.slot.frozen 0
      have f1 := HT.out.slot.frozen 1
      refine UpP.next (i := 15) (by kernel_rfl) rfl (fun K hK => ?_)
      go_simp
      refine hK.out _ _ ⟨fun h => (h (by decide)).elim, fun _ _ => trivial⟩ ?_
      clear hK K
      try simp only [Act.put, List.setIfInBounds_toArray, List.set_cons_zero, List.set_cons_succ]
      refine UpP.pure (i := 16) 133 (v := .pointer (some ⟨g, 1, none⟩)) rfl rfl (by kernel_rfl) (by kernel_rfl) (by kernel_rfl) (fun _ _ _ h => hP _ _ _ _ _ h) (Or.inl ⟨by rfl, by intro w_ hSw; go_simp⟩) ?_
      try simp only [Act.put, List.setIfInBounds_toArray, List.set_cons_zero, List.set_cons_succ]
      refine UpP.next (i := 17) (by kernel_rfl) rfl (fun K hK => ?_)
      go_simp
      refine hK.out _ _ ⟨fun h => (h (by decide)).elim, fun _ _ => trivial⟩ ?_
      clear hK K
      try simp only [Act.put, List.setIfInBounds_toArray, List.set_cons_zero, List.set_cons_succ]
      refine UpP.done (by kernel_rfl) ?_ _
      exact hQ _ _ _ _ _ _ _ _ _ _ _ _ _ _ _ _ _ A3 c3 A4 c4 ((HT.out.set_ 0 (.slice A3 (k + 1) c3)).set_ 1 (.slice A4 (k + 1) c4))
    · go_simp
      have hbn := (Below.refl v1.heap.size v1).alloc (Nat.le_refl _) (.cells #[.int .i64 val] 3)
      replace HT := hide (HT.out.step hbn)
      replace hsz := Nat.le_trans hsz hbn.size
      replace H7 := hide (H7.out.step hbn)
      have H12 := hide (stay_at (show (v1.alloc (.cells #[.int .i64 val] 3)).cell? ⟨p12, 0, none⟩ = some (.int .i64 val) from (Blk.newN v1 3 #[.int .i64 val] hp12).cell 0))
      obtain ⟨v2, hwn⟩ : ∃ w9, v1.alloc (.cells #[.int .i64 val] 3) = w9 := ⟨_, rfl⟩
      rw [hwn] at hsz HT H7 H12 ⊢
      clear hbn hwn hp12 hH1
      have hH1 : (v2.cell? ⟨g, 0, none⟩ = some (.slice A1 k c1) ∧ v2.cell? ⟨g, 1, none⟩ = some (.slice A2 k c2)) ∧ v2.cell? ⟨b, o + k * 9 + 5, none⟩ = some (.int .i64 le) := ⟨⟨HT.out.slot.cell 0, HT.out.slot.cell 1⟩, (HT.out.bel.cell hbb).trans hc⟩
      refine hK.out _ _ ⟨fun _ _ => hH1, fun _ _ => trivial⟩ ?_
      clear hK K
      try simp only [Act.put, List.setIfInBounds_toArray, List.set_cons_zero, List.set_cons_succ]
      refine UpP.next (i := 8) (by kernel_rfl) rfl (fun K hK => ?_)
      refine step_append_any _ (by rfl) (.tmp 119) (.tmp 125) 22 (by rfl) b0 3 i2 (.int .i64 0) 1 8 Try.underlying22 hj0 hy0 hy1 hy2 rfl (by omega) (.slice A1 k c1) k la (by rfl) HT.out.own1 (p7 + 1) (some ⟨p7, 0, none⟩) 1 1 [.int .i64 le] (by rfl) (reads_cell H7.out.now) (by simp [Value.oneCell']) (by simp only [maxLen]; omega) (by omega) HT.out.hs ?_
      intro v9 v3 hown9 hgrow hat
      replace hgrow : v2.grownBy v3 (Value.ownBlock (.slice A1 k c1)) := hgrow
      replace hat : v9.ownBlock = Value.ownBlock (.slice A1 k c1) ∨ v9.ownBlock = some v2.heap.size := hat
      obtain ⟨A3, c3, rfl⟩ := own_form hown9
      replace H12 := hide (stay_at ((hgrow.cell_far ⟨p12, 0, none⟩ (lt_of_cell H12.out.now) (fun e => by have := HL1.out p12 e.symm; omega)).trans H12.out.now))
      replace HT := hide (HT.out.app1 hgrow hown9 hat)
      replace hsz := Nat.le_trans hsz hgrow.size
      clear hown9 hgrow hat hH1 H7
      change K (Act.put _ (some 126) _) _
      have hH1 : (v3.cell? ⟨g, 0, none⟩ = some (.slice A1 k c1) ∧ v3.cell? ⟨g, 1, none⟩ = some (.slice A2 k c2)) ∧ v3.cell? ⟨b, o + k * 9 + 5, none⟩ = some (.int .i64 le) := ⟨⟨HT.out.slot.cell 0, HT.out.slot.cell 1⟩, (HT.out.bel.cell hbb).trans hc⟩
      refine hK.out _ _ ⟨fun _ _ => hH1, fun _ _ => trivial⟩ ?_
      clear hK K
      try simp only [Act.put, List.setIfInBounds_toArray, List.set_cons_zero, List.set_cons_succ]
      refine UpP.pure (i := 14) 132 (v := .pointer (some ⟨g, 0, none⟩)) rfl rfl (by kernel_rfl) (by kernel_rfl) (by kernel_rfl) (fun _ _ _ h => hP _ _ _ _ _ h) (Or.inl ⟨by rfl, by intro w_ hSw; go_simp⟩) ?_
      try simp only [Act.put, List.setIfInBounds_toArray, List.set_cons_zero, List.set_cons_succ]
      refine UpP.next (i := 13) (by kernel_rfl) rfl (fun K hK => ?_)
      refine step_append_any _ (by rfl) (.tmp 128) (.tmp 130) 22 (by rfl) b0 3 i2 (.int .i64 0) 1 8 Try.underlying22 hj0 hy0 hy1 hy2 rfl (by omega) (.slice A2 k c2) k lb (by rfl) HT.out.own2 (p12 + 1) (some ⟨p12, 0, none⟩) 1 1 [.int .i64 val] (by rfl) (reads_cell H12.out.now) (by simp [Value.oneCell']) (by simp only [maxLen]; omega) (by omega) HT.out.hs ?_
      intro v9 v4 hown9 hgrow hat
      replace hgrow : v3.grownBy v4 (Value.ownBlock (.slice A2 k c2)) := hgrow
      replace hat : v9.ownBlock = Value.ownBlock (.slice A2 k c2) ∨ v9.ownBlock = some v3.heap.size := hat
      obtain ⟨A4, c4, rfl⟩ := own_form hown9
      replace HT := hide (HT.out.app2 hgrow hown9 hat)
      replace hsz := Nat.le_trans hsz hgrow.size
      clear hown9 hgrow hat hH1 H12
      change K (Act.put _ (some 131) _) _
      have hH1 : (v4.cell? ⟨g, 0, none⟩ = some (.slice A1 k c1) ∧ v4.cell? ⟨g, 1, none⟩ = some (.slice A2 k c2)) ∧ v4.cell? ⟨b, o + k * 9 + 5, none⟩ = some (.int .i64 le) := ⟨⟨HT.out.slot.cell 0, HT.out.slot.cell 1⟩, (HT.out.bel.cell hbb).trans hc⟩
      refine hK.out _ _ ⟨fun _ _ => hH1, fun _ _ => trivial⟩ ?_
      clear hK K
      try simp only [Act.put, List.setIfInBounds_toArray, List.set_cons_zero, List.set_cons_succ]
      have o0 : v4.cell? ⟨g, 0, none⟩ = some (.slice A1 k c1) := HT.out.slot.cell 0
      have o1 : v4.cell? ⟨g, 1, none⟩ = some (.slice A2 k c2) := HT.out.slot.cell 1
      have f0 := HT.out.slot.frozen 0
      have f1 := HT.out.slot.frozen 1
      refine UpP.next (i := 15) (by kernel_rfl) rfl (fun K hK => ?_)
      go_simp
      refine hK.out _ _ ⟨fun h => (h (by decide)).elim, fun _ _ => trivial⟩ ?_
      clear hK K
      try simp only [Act.put, List.setIfInBounds_toArray, List.set_cons_zero, List.set_cons_succ]
      refine UpP.pure (i := 16) 133 (v := .pointer (some ⟨g, 1, none⟩)) rfl rfl (by kernel_rfl) (by kernel_rfl) (by kernel_rfl) (fun _ _ _ h => hP _ _ _ _ _ h) (Or.inl ⟨by rfl, by intro w_ hSw; go_simp⟩) ?_
      try simp only [Act.put, List.setIfInBounds_toArray, List.set_cons_zero, List.set_cons_succ]
      refine UpP.next (i := 17) (by kernel_rfl) rfl (fun K hK => ?_)
      go_simp
      refine hK.out _ _ ⟨fun h => (h (by decide)).elim, fun _ _ => trivial⟩ ?_
      clear hK K
      try simp only [Act.put, List.setIfInBounds_toArray, List.set_cons_zero, List.set_cons_succ]
      refine UpP.done (by kernel_rfl) ?_ _
      exact hQ _ _ _ _ _ _ _ _ _ _ _ _ _ _ _ _ _ A3 c3 A4 c4 ((HT.out.set_ 0 (.slice A3 (k + 1) c3)).set_ 1 (.slice A4 (k + 1) c4))
  · clear hp7 hpg7
    go_simp
    have hbn := (Below.refl v0.heap.size v0).alloc (Nat.le_refl _) (.cells #[.int .i64 val] 3)
    replace HT := hide (HT.out.step hbn)
    replace hsz := Nat.le_trans hsz hbn.size
    have H12 := hide (stay_at (show (v0.alloc (.cells #[.int .i64 val] 3)).cell? ⟨p12, 0, none⟩ = some (.int .i64 val) from (Blk.newN v0 3 #[.int .i64 val] hp12).cell 0))
    obtain ⟨v1, hwn⟩ : ∃ w9, v0.alloc (.cells #[.int .i64 val] 3) = w9 := ⟨_, rfl⟩
    rw [hwn] at hsz HT H12 ⊢
    clear hbn hwn hp12 hH1
    have hH1 : (v1.cell? ⟨g, 0, none⟩ = some (.slice A1 k c1) ∧ v1.cell? ⟨g, 1, none⟩ = some (.slice A2 k c2)) ∧ v1.cell? ⟨b, o + k * 9 + 5, none⟩ = some (.int .i64 le) := ⟨⟨HT.out.slot.cell 0, HT.out.slot.cell 1⟩, (HT.out.bel.cell hbb).trans hc⟩
    refine hK.out _ _ ⟨fun _ _ => hH1, fun _ _ => trivial⟩ ?_
    clear hK K
    try simp only [Act.put, List.setIfInBounds_toArray, List.set_cons_zero, List.set_cons_succ]
    obtain ⟨p7, hp7⟩ : ∃ p, v1.heap.size = p := ⟨_, rfl⟩
    have hpg7 : wr.heap.size ≤ p7 := by omega
    refine UpP.next (i := 7) (by kernel_rfl) rfl (fun K hK => ?_)
    go_simp
    have hbn := (Below.refl v1.heap.size v1).alloc (Nat.le_refl _) (.cells #[.int .i64 le] 3)
    replace HT := hide (HT.out.step hbn)
    replace hsz := Nat.le_trans hsz hbn.size
    replace H12 := hide (H12.out.step hbn)
    have H7 := hide (stay_at (show (v1.alloc (.cells #[.int .i64 le] 3)).cell? ⟨p7, 0, none⟩ = some (.int .i64 le) from (Blk.newN v1 3 #[.int .i64 le] hp7).cell 0))
    obtain ⟨v2, hwn⟩ : ∃ w9, v1.alloc (.cells #[.int .i64 le] 3) = w9 := ⟨_, rfl⟩
    rw [hwn] at hsz HT H12 H7 ⊢
    clear hbn hwn hp7 hH1
    have hH1 : (v2.cell? ⟨g, 0, none⟩ = some (.slice A1 k c1) ∧ v2.cell? ⟨g, 1, none⟩ = some (.slice A2 k c2)) ∧ v2.cell? ⟨b, o + k * 9 + 5, none⟩ = some (.int .i64 le) := ⟨⟨HT.out.slot.cell 0, HT.out.slot.cell 1⟩, (HT.out.bel.cell hbb).trans hc⟩
    refine hK.out _ _ ⟨fun _ _ => hH1, fun _ _ => trivial⟩ ?_
    clear hK K
    try simp only [Act.put, List.setIfInBounds_toArray, List.set_cons_zero, List.set_cons_succ]
    refine UpP.next (i := 8) (by kernel_rfl) rfl (fun K hK => ?_)
    refine step_append_any _ (by rfl) (.tmp 119) (.tmp 125) 22 (by rfl) b0 3 i2 (.int .i64 0) 1 8 Try.underlying22 hj0 hy0 hy1 hy2 rfl (by omega) (.slice A1 k c1) k la (by rfl) HT.out.own1 (p7 + 1) (some ⟨p7, 0, none⟩) 1 1 [.int .i64 le] (by rfl) (reads_cell H7.out.now) (by simp [Value.oneCell']) (by simp only [maxLen]; omega) (by omega) HT.out.hs ?_
    intro v9 v3 hown9 hgrow hat
    replace hgrow : v2.grownBy v3 (Value.ownBlock (.slice A1 k c1)) := hgrow
    replace hat : v9.ownBlock = Value.ownBlock (.slice A1 k c1) ∨ v9.ownBlock = some v2.heap.size := hat
    obtain ⟨A3, c3, rfl⟩ := own_form hown9
    replace H12 := hide (stay_at ((hgrow.cell_far ⟨p12, 0, none⟩ (lt_of_cell H12.out.now) (fun e => by have := HL1.out p12 e.symm; omega)).trans H12.out.now))
    replace HT := hide (HT.out.app1 hgrow hown9 hat)
    replace hsz := Nat.le_trans hsz hgrow.size
    clear hown9 hgrow hat hH1 H7
    change K (Act.put _ (some 126) _) _
    have hH1 : (v3.cell? ⟨g, 0, none⟩ = some (.slice A1 k c1) ∧ v3.cell? ⟨g, 1, none⟩ = some (.slice A2 k c2)) ∧ v3.cell? ⟨b, o + k * 9 + 5, none⟩ = some (.int .i64 le) := ⟨⟨HT.out.slot.cell 0, HT.out.slot.cell 1⟩, (HT.out.bel.cell hbb).trans hc⟩
    refine hK.out _ _ ⟨fun _ _ => hH1, fun _ _ => trivial⟩ ?_
    clear hK K
    try simp only [Act.put, List.setIfInBounds_toArray, List.set_cons_zero, List.set_cons_succ]
    refine UpP.pure (i := 14) 132 (v := .pointer (some ⟨g, 0, none⟩)) rfl rfl (by kernel_rfl) (by kernel_rfl) (by kernel_rfl) (fun _ _ _ h => hP _ _ _ _ _ h) (Or.inl ⟨by rfl, by intro w_ hSw; go_simp⟩) ?_
    try simp only [Act.put, List.setIfInBounds_toArray, List.set_cons_zero, List.set_cons_succ]
    refine UpP.next (i := 13) (by kernel_rfl) rfl (fun K hK => ?_)
    refine step_append_any _ (by rfl) (.tmp 128) (.tmp 130) 22 (by rfl) b0 3 i2 (.int .i64 0) 1 8 Try.underlying22 hj0 hy0 hy1 hy2 rfl (by omega) (.slice A2 k c2) k lb (by rfl) HT.out.own2 (p12 + 1) (some ⟨p12, 0, none⟩) 1 1 [.int .i64 val] (by rfl) (reads_cell H12.out.now) (by simp [Value.oneCell']) (by simp only [maxLen]; omega) (by omega) HT.out.hs ?_
    intro v9 v4 hown9 hgrow hat
    replace hgrow : v3.grownBy v4 (Value.ownBlock (.slice A2 k c2)) := hgrow
    replace hat : v9.ownBlock = Value.ownBlock (.slice A2 k c2) ∨ v9.ownBlock = some v3.heap.size := hat
    obtain ⟨A4, c4, rfl⟩ := own_form hown9
    replace HT := hide (HT.out.app2 hgrow hown9 hat)
    replace hsz := Nat.le_trans hsz hgrow.size
    clear hown9 hgrow hat hH1 H12
    change K (Act.put _ (some 131) _) _
    have hH1 : (v4.cell? ⟨g, 0, none⟩ = some (.slice A1 k c1) ∧ v4.cell? ⟨g, 1, none⟩ = some (.slice A2 k c2)) ∧ v4.cell? ⟨b, o + k * 9 + 5, none⟩ = some (.int .i64 le) := ⟨⟨HT.out.slot.cell 0, HT.out.slot.cell 1⟩, (HT.out.bel.cell hbb).trans hc⟩
    refine hK.out _ _ ⟨fun _ _ => hH1, fun _ _ => trivial⟩ ?_
    clear hK K
    try simp only [Act.put, List.setIfInBounds_toArray, List.set_cons_zero, List.set_cons_succ]
    have o0 : v4.cell? ⟨g, 0, none⟩ = some (.slice A1 k c1) := HT.out.slot.cell 0
    have o1 : v4.cell? ⟨g, 1, none⟩ = some (.slice A2 k c2) := HT.out.slot.cell 1
    have f0 := HT.out.slot.frozen 0
    have f1 := HT.out.slot.frozen 1
    refine UpP.next (i := 15) (by kernel_rfl) rfl (fun K hK => ?_)
    go_simp
    refine hK.out _ _ ⟨fun h => (h (by decide)).elim, fun _ _ => trivial⟩ ?_
    clear hK K
    try simp only [Act.put, List.setIfInBounds_toArray, List.set_cons_zero, List.set_cons_succ]
    refine UpP.pure (i := 16) 133 (v := .pointer (some ⟨g, 1, none⟩)) rfl rfl (by kernel_rfl) (by kernel_rfl) (by kernel_rfl) (fun _ _ _ h => hP _ _ _ _ _ h) (Or.inl ⟨by rfl, by intro w_ hSw; go_simp⟩) ?_
    try simp only [Act.put, List.setIfInBounds_toArray, List.set_cons_zero, List.set_cons_succ]
    refine UpP.next (i := 17) (by kernel_rfl) rfl (fun K hK => ?_)
    go_simp
    refine hK.out _ _ ⟨fun h => (h (by decide)).elim, fun _ _ => trivial⟩ ?_
    clear hK K
    try simp only [Act.put, List.setIfInBounds_toArray, List.set_cons_zero, List.set_cons_succ]
    refine UpP.done (by kernel_rfl) ?_ _
    exact hQ _ _ _ _ _ _ _ _ _ _ _ _ _ _ _ _ _ A3 c3 A4 c4 ((HT.out.set_ 0 (.slice A3 (k + 1) c3)).set_ 1 (.slice A4 (k + 1) c4))
end Go.Proofs.Ytppkibgemacdbaa
