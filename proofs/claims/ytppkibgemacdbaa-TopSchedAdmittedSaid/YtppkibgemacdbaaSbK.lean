import Derived.Test.YtppkibgemacdbaaSbJ
namespace Go.Proofs.Ytppkibgemacdbaa
open Go.RowKit Go.WideShapes Go.ChangeShapes

/-! slot of a run of any users -/
/-- all is as it was, the users' blocks apart -/
structure GrowU (Us : List Nat) (w w' : World) : Prop where
  os : w'.os = w.os
  tape : w'.tape = w.tape
  output : w'.output = w.output
  size : w.heap.size ≤ w'.heap.size
  block : ∀ b, b < w.heap.size → b ∉ Us → w'.heap[b]? = w.heap[b]?
theorem GrowU.refl (Us : List Nat) (w : World) : GrowU Us w w := ⟨rfl, rfl, rfl, Nat.le_refl _, fun _ _ _ => rfl⟩
theorem GrowU.trans {Us : List Nat} {a b c : World} (h : GrowU Us a b) (k : GrowU Us b c) : GrowU Us a c :=
  ⟨k.os.trans h.os, k.tape.trans h.tape, k.output.trans h.output, Nat.le_trans h.size k.size, fun i hi hn => (k.block i (Nat.lt_of_lt_of_le hi h.size) hn).trans (h.block i hi hn)⟩
theorem GrowU.of {Us : List Nat} {w w' : World} {u : Nat} (h : w.grownBy w' (some u)) (hu : u ∈ Us) : GrowU Us w w' := ⟨h.os, h.tape, h.output, h.size, fun b hb hn => h.block b hb (fun e => by injection e with e; subst e; exact hn hu)⟩
theorem GrowU.bel {Us : List Nat} {w w' : World} (h : Below w.heap.size w w') : GrowU Us w w' := ⟨h.os, h.tape, h.output, h.size, fun b hb _ => h.block b hb⟩
def ButL (Us : List Nat) (w : World) (P : World → Prop) : Prop := ∀ W, GrowU Us w W → P W
theorem ButL.now {Us : List Nat} {w : World} {P : World → Prop} (h : ButL Us w P) : P w := h w (GrowU.refl Us w)
theorem ButL.step {Us : List Nat} {w w' : World} {P : World → Prop} (h : ButL Us w P) (hb : GrowU Us w w') : ButL Us w' P := fun W hW => h W (hb.trans hW)
theorem ButL.and {Us : List Nat} {w : World} {P Q : World → Prop} (h : ButL Us w P) (h' : ButL Us w Q) : ButL Us w (fun W => P W ∧ Q W) := fun W hW => ⟨h W hW, h' W hW⟩
theorem butL_blk {Us : List Nat} {w : World} {g t : Nat} {cs : Array Value} (h : Blk w g t cs) (hn : g ∉ Us) : ButL Us w (fun W => Blk W g t cs) := fun _ hW => (hW.block g h.lt hn).trans h
theorem GrowU.cell {Us : List Nat} {w W : World} (hW : GrowU Us w W) {b o : Nat} {v : Value} (h : w.cell? ⟨b, o, none⟩ = some v) (hn : b ∉ Us) : W.cell? ⟨b, o, none⟩ = some v :=
  (World.cell?_of_block (a := ⟨b, o, none⟩) (hW.block b (lt_of_cell h) hn)).trans h
theorem butL_at {Us : List Nat} {w : World} {b o : Nat} {v : Value} (h : w.cell? ⟨b, o, none⟩ = some v) (hn : b ∉ Us) : ButL Us w (fun W => W.cell? ⟨b, o, none⟩ = some v) := fun _ hW => hW.cell h hn
theorem butL_sl {Us : List Nat} {w : World} {A : Option Addr} {xs : List Value} (h : Sl w A xs) (hn : ∀ b off, A = some ⟨b, off, none⟩ → b ∉ Us) : ButL Us w (fun W => Sl W A xs) := fun _ hW k hk => by
  obtain ⟨b, off, e, hc⟩ := h k hk
  exact ⟨b, off, e, hW.cell hc (hn b off e)⟩
theorem ButL.one {Us : List Nat} {w : World} {P : World → Prop} (h : ButL Us w P) {u : Nat} (hu : u ∈ Us) : But u w P := fun W hW => h W (GrowU.of hW hu)
/-- the reports and arrivals of a slot -/
def RepAt (w : World) (ab ao n : Nat) (RA QA : Option Addr) (m : Nat) (Us : List Nat) (tbs ars : Nat → Int) : Prop := ∀ i, i < m → ∃ rb ro qb qo kk, RA = some ⟨rb, ro, none⟩ ∧ QA = some ⟨qb, qo, none⟩ ∧ kk < n ∧ rb ∉ Us ∧ qb ∉ Us ∧
  w.cell? ⟨rb, ro + i, none⟩ = some (.int .i64 (kk : Int)) ∧ w.cell? ⟨ab, ao + kk, none⟩ = some (.int .i64 (tbs i)) ∧ w.cell? ⟨qb, qo + i, none⟩ = some (.int .i64 (ars i)) ∧ 0 ≤ tbs i ∧ tbs i ≤ 1000 ∧ 0 ≤ ars i ∧ ars i ≤ 1000000
/-- a user behind the first loop -/
def bl1 (s : Usr) (tb W : Int) : Int := if s.x.kd = 0 ∨ tb = 0 then 0 else min s.ne (ceilI W tb)
def usr1 (s : Usr) (tb ar : Int) : Usr := ⟨s.x, s.ne, s.wa + ar, s.se, tb, bl1 s tb (s.wa + ar)⟩
theorem RepAt.keep {w W : World} {ab ao n : Nat} {RA QA : Option Addr} {m : Nat} {Us : List Nat} {tbs ars : Nat → Int} (h : RepAt w ab ao n RA QA m Us tbs ars) (hab : ab ∉ Us) (hW : GrowU Us w W) : RepAt W ab ao n RA QA m Us tbs ars := fun i hi => by
  obtain ⟨rb, ro, qb, qo, kk, e1, e2, h0, n1, n2, h1, h2, h3, h4⟩ := h i hi
  exact ⟨rb, ro, qb, qo, kk, e1, e2, h0, n1, n2, hW.cell h1 n1, hW.cell h2 hab, hW.cell h3 n2, h4⟩
/-- users whose first k are behind the first loop -/
def Mid1 (S S' : List Usr) (tbs ars : Nat → Int) (k : Nat) : Prop := S'.length = S.length ∧ ∀ j (h : j < S.length) (h' : j < S'.length), (j < k → S'[j] = usr1 S[j] (tbs j) (ars j)) ∧ (k ≤ j → S'[j] = S[j])
theorem Mid1.zero (S : List Usr) (tbs ars : Nat → Int) : Mid1 S S tbs ars 0 := ⟨rfl, fun j _ _ => ⟨fun h => absurd h (by omega), fun _ => rfl⟩⟩
theorem Mid1.succ {S S' : List Usr} {tbs ars : Nat → Int} {k : Nat} (h : Mid1 S S' tbs ars k) (hk : k < S.length) : Mid1 S (S'.set k (usr1 S[k] (tbs k) (ars k))) tbs ars (k + 1) := by
  refine ⟨by rw [List.length_set]; exact h.1, fun j h1 h2 => ⟨fun hj => ?_, fun hj => ?_⟩⟩
  · by_cases e : k = j
    · subst e; rw [List.getElem_set_self]
    · rw [List.getElem_set_ne e]
      exact (h.2 j h1 (by rw [h.1]; exact h1)).1 (by omega)
  · rw [List.getElem_set_ne (by omega)]
    exact (h.2 j h1 (by rw [h.1]; exact h1)).2 (by omega)
theorem set_set (S : List Usr) (k : Nat) (a b : Usr) : (S.set k a).set k b = S.set k b := by simp
theorem sum_set : ∀ (l : List Int) (k : Nat) (h : k < l.length) (v : Int), sumI (l.set k v) = sumI l + v - l[k] := by
  intro l
  induction l with
  | nil => intro k h; simp at h
  | cons x l ih =>
    intro k h v
    cases k with
    | zero => simp [sumI]; omega
    | succ k => simp only [List.set_cons_succ, sumI, List.getElem_cons_succ]; rw [ih k (by simpa using h) v]; omega
theorem sum_nn : ∀ (l : List Int), (∀ x ∈ l, 0 ≤ x) → 0 ≤ sumI l := by
  intro l
  induction l with
  | nil => intro _; simp [sumI]
  | cons x l ih => intro h; have := ih (fun y hy => h y (by simp [hy])); have := h x (by simp); simp only [sumI]; omega
theorem le_sum : ∀ (l : List Int), (∀ x ∈ l, 0 ≤ x) → ∀ x ∈ l, x ≤ sumI l := by
  intro l
  induction l with
  | nil => intro _ x hx; simp at hx
  | cons y l ih =>
    intro h x hx
    have h1 := sum_nn l (fun y hy => h y (by simp [hy]))
    have h2 := h y (by simp)
    simp only [sumI]
    rcases List.mem_cons.1 hx with rfl | hx
    · omega
    · have := ih (fun y hy => h y (by simp [hy])) x hx; omega
theorem sum_le : ∀ (a b : List Int), a.length = b.length → (∀ j (h : j < a.length) (h' : j < b.length), a[j] ≤ b[j]) → sumI a ≤ sumI b := by
  intro a
  induction a with
  | nil => intro b h _; have : b = [] := by cases b <;> simp_all
           subst this; simp
  | cons x a ih =>
    intro b h hl
    cases b with
    | nil => simp at h
    | cons y b =>
      have h1 := ih b (by simpa using h) (fun j h1 h2 => by have := hl (j + 1) (by simp; omega) (by simp; omega); simpa using this)
      have h2 := hl 0 (by simp) (by simp)
      simp only [sumI]
      simp at h2
      omega
def blOf : Option Value → Int
  | some (.int _ z) => z
  | _ => 0
def blSum (W : World) (Us : List Nat) : Int := sumI (Us.map fun u => blOf (W.cell? ⟨u, 13, none⟩))
theorem blSum_eq {W : World} {Us : List Nat} {S : List Usr} (h : UsrAt W Us S) : blSum W Us = sumI (S.map (·.bl)) := by
  unfold blSum
  congr 1
  apply List.ext_getElem
  · simpa using h.1
  · intro j h1 h2
    rw [List.length_map] at h1 h2
    have : W.cell? ⟨Us[j], 13, none⟩ = some (.int .i64 S[j].bl) := (h.2.2 j h2 h1).cell 13
    rw [List.getElem_map, List.getElem_map, this]
    rfl
def usr2 (s : Usr) (b : Int) : Usr := ⟨s.x, s.ne, s.wa, s.se, s.rt, b⟩
theorem ok_usr2 {s : Usr} (h : OkU s) {b : Int} (hb : 0 ≤ b ∧ b ≤ 20) : OkU (usr2 s b) := ⟨hb, h.rt, h.pw, h.wt, h.wa, h.se, h.ne⟩
/-- users behind the second loop -/
structure Mid2 (B : Int) (S S' : List Usr) : Prop where
  len : S'.length = S.length
  at_ : ∀ j (h : j < S.length) (h' : j < S'.length), S'[j] = usr2 S[j] S'[j].bl ∧ S[j].bl ≤ S'[j].bl
  ok : ∀ s ∈ S', OkU s
  sum : sumI (S'.map (·.bl)) ≤ B
theorem usr2_usr2 (s : Usr) (a b : Int) : usr2 (usr2 s a) b = usr2 s b := rfl
theorem usr2_self (s : Usr) : usr2 s s.bl = s := rfl
theorem Mid2.zero {B : Int} {S : List Usr} (h : ∀ s ∈ S, OkU s) (hs : sumI (S.map (·.bl)) ≤ B) : Mid2 B S S := ⟨rfl, fun _ _ _ => ⟨(usr2_self _).symm, Int.le_refl _⟩, h, hs⟩
theorem Mid2.bl_le {B : Int} {S S' : List Usr} (h : Mid2 B S S') (j : Nat) (hj : j < S'.length) : S'[j].bl ≤ sumI (S'.map (·.bl)) :=
  le_sum _ (fun x hx => by obtain ⟨s, hs, rfl⟩ := List.mem_map.1 hx; exact (h.ok s hs).bl.1) _ (List.mem_map.2 ⟨_, List.getElem_mem hj, rfl⟩)
theorem Mid2.sum_succ (S' : List Usr) (k : Nat) (hk : k < S'.length) : sumI ((S'.set k (usr2 S'[k] (S'[k].bl + 1))).map (·.bl)) = sumI (S'.map (·.bl)) + 1 := by
  rw [List.map_set, sum_set _ k (by rw [List.length_map]; exact hk), List.getElem_map]
  show sumI _ + (S'[k].bl + 1) - S'[k].bl = _
  omega
theorem Mid2.succ {B : Int} {S S' : List Usr} (h : Mid2 B S S') (hB : B ≤ 20) (k : Nat) (hk : k < S'.length) (hs : sumI (S'.map (·.bl)) < B) : Mid2 B S (S'.set k (usr2 S'[k] (S'[k].bl + 1))) := by
  have h1 := h.bl_le k hk
  have h0 := h.ok _ (List.getElem_mem hk)
  have hn := h0.bl
  refine ⟨by rw [List.length_set]; exact h.len, fun j hj hj' => ?_, fun s hm => ?_, by rw [Mid2.sum_succ S' k hk]; omega⟩
  · rw [List.length_set] at hj'
    have ha := h.at_ j hj hj'
    by_cases e : k = j
    · subst e
      rw [List.getElem_set_self]
      refine ⟨?_, ?_⟩
      · rw [ha.1]; rfl
      · show S[k].bl ≤ S'[k].bl + 1
        have := ha.2; omega
    · rw [List.getElem_set_ne e]; exact ha
  · rcases List.mem_or_eq_of_mem_set hm with hm | rfl
    · exact h.ok s hm
    · exact ok_usr2 h0 (by omega)
def Loop2 (B : Int) (Us : List Nat) (S : List Usr) (w : World) (v : Value) (wr : World) : Prop := ∃ S', GrowU Us w wr ∧ UsrAt wr Us S' ∧ Mid2 B S S' ∧ (v = .pointer none ∨ ∃ j, ∃ h : j < Us.length, v = .pointer (some ⟨Us[j], 0, none⟩) ∧ sumI (S'.map (·.bl)) < B)
theorem ceil_le_nn {n b : Int} (hb : 0 < b) (h : 0 ≤ n) : 0 ≤ ceilI n b := ceil_nn hb h
/-- the users behind the first loop are in order -/
theorem mid1_ok {B : Int} {m : Nat} {S S' : List Usr} {tbs ars : Nat → Int} (h : Mid1 S S' tbs ars m) (hm : S.length = m) (hok : ∀ s ∈ S, OkU s) (hse : ∀ s ∈ S, s.se + s.wa ≤ 90000000) (hsum : sumI (S.map (·.ne)) ≤ B) (hB : B ≤ 20)
    (ht : ∀ i, i < m → 0 ≤ tbs i ∧ tbs i ≤ 1000 ∧ 0 ≤ ars i ∧ ars i ≤ 1000000) : (∀ s ∈ S', OkU s) ∧ sumI (S'.map (·.bl)) ≤ B := by
  have hne : ∀ s ∈ S, s.ne ≤ B := fun s hs => Int.le_trans (le_sum (S.map (·.ne)) (fun x hx => by obtain ⟨s, hs, rfl⟩ := List.mem_map.1 hx; exact (hok s hs).ne.1) _ (List.mem_map.2 ⟨s, hs, rfl⟩)) hsum
  have hbl : ∀ j (h : j < S.length), 0 ≤ bl1 S[j] (tbs j) (S[j].wa + ars j) ∧ bl1 S[j] (tbs j) (S[j].wa + ars j) ≤ S[j].ne := fun j hj => by
    have ho := hok _ (List.getElem_mem hj)
    have h4 := ht j (by omega)
    unfold bl1
    split
    · exact ⟨Int.le_refl _, ho.ne.1⟩
    · rename_i hx
      have : ¬ tbs j = 0 := fun e => hx (Or.inr e)
      have hc := ceil_nn (n := S[j].wa + ars j) (b := tbs j) (by omega) (by have := ho.wa; omega)
      have := ho.ne
      omega
  constructor
  · intro s hs
    obtain ⟨j, hj, rfl⟩ := List.getElem_of_mem hs
    have hj' : j < S.length := by rw [← h.1]; exact hj
    rw [(h.2 j hj' hj).1 (by omega)]
    have ho := hok _ (List.getElem_mem hj')
    have h4 := ht j (by omega)
    have hb := hbl j hj'
    have h5 := hne _ (List.getElem_mem hj')
    have h6 := hse _ (List.getElem_mem hj')
    have h7 := ho.se
    have h8 := ho.wa
    exact ⟨⟨hb.1, by show bl1 _ _ _ ≤ 20; omega⟩, ⟨h4.1, h4.2.1⟩, ho.pw, ho.wt, ⟨by show 0 ≤ S[j].wa + ars j; omega, by show S[j].wa + ars j ≤ 100000000; omega⟩, ho.se, ho.ne⟩
  · refine Int.le_trans (sum_le _ _ (by rw [List.length_map, List.length_map]; exact h.1) (fun j h1 h2 => ?_)) hsum
    rw [List.length_map] at h1 h2
    rw [List.getElem_map, List.getElem_map, (h.2 j h2 h1).1 (by omega)]
    exact (hbl j h2).2
def usr3 (s : Usr) : Usr := ⟨s.x, s.ne, s.wa - tkU s, s.se + tkU s, s.rt, s.bl⟩
/-- users whose first k are behind the third loop -/
def Mid3 (S S' : List Usr) (k : Nat) : Prop := S'.length = S.length ∧ ∀ j (h : j < S.length) (h' : j < S'.length), (j < k → S'[j] = usr3 S[j]) ∧ (k ≤ j → S'[j] = S[j])
theorem Mid3.zero (S : List Usr) : Mid3 S S 0 := ⟨rfl, fun j _ _ => ⟨fun h => absurd h (by omega), fun _ => rfl⟩⟩
theorem Mid3.succ {S S' : List Usr} {k : Nat} (h : Mid3 S S' k) (hk : k < S.length) : Mid3 S (S'.set k (usr3 S[k])) (k + 1) := by
  refine ⟨by rw [List.length_set]; exact h.1, fun j h1 h2 => ⟨fun hj => ?_, fun hj => ?_⟩⟩
  · by_cases e : k = j
    · subst e; rw [List.getElem_set_self]
    · rw [List.getElem_set_ne e]
      exact (h.2 j h1 (by rw [h.1]; exact h1)).1 (by omega)
  · rw [List.getElem_set_ne (by omega)]
    exact (h.2 j h1 (by rw [h.1]; exact h1)).2 (by omega)
def SlotL (Us : List Nat) (S : List Usr) (tbs ars : Nat → Int) (m : Nat) (w : World) (e : Ending) (w' : World) : Prop := ∃ A c S', e = .returned (.slice A m c) ∧ UsrAt w' Us S' ∧ GrowU Us w w' ∧ S'.length = S.length ∧ (∀ s ∈ S', OkU s) ∧ sumI (S'.map (·.bl)) ≤ 20 ∧
  ∀ j (h : j < S.length) (h' : j < S'.length), S'[j].x = S[j].x ∧ S'[j].ne = S[j].ne ∧ S'[j].se + S'[j].wa = S[j].se + S[j].wa + ars j ∧ 0 ≤ S'[j].wa ∧ S[j].se ≤ S'[j].se ∧ (S[j].x.kd ≠ 0 → 0 < tbs j → min (S[j].wa + ars j) (S[j].ne * tbs j) ≤ S'[j].se - S[j].se)
theorem GrowU.own {Us : List Nat} {w0 w w' : World} {e size n : Nat} {v : Value} {xs : List Value} (h : GrowU Us w0 w) (ho : w.ownsRow w0.heap.size e size v n xs) (hg : w.grownBy w' v.ownBlock) : GrowU Us w0 w' :=
  ⟨hg.os.trans h.os, hg.tape.trans h.tape, hg.output.trans h.output, Nat.le_trans h.size hg.size, fun b hb hn => (hg.block b (Nat.lt_of_lt_of_le hb h.size) (fun e => by have := (ho.lt b e.symm).1; omega)).trans (h.block b hb hn)⟩
theorem own_usr {base e size n U : Nat} {w w' : World} {v : Value} {xs : List Value} (ho : w.ownsRow base e size v n xs) (hU : U < base) (hg : w.grownBy w' (some U)) : w'.ownsRow base e size v n xs := by
  refine ho.kept hg ?_
  cases hv : v.ownBlock with
  | none => exact .inl rfl
  | some k =>
    refine .inr fun e => ?_
    have h1 := ho.lt _ hv
    injection e with e
    omega
theorem usr_own {base e size n : Nat} {w w' : World} {v : Value} {xs : List Value} {Us : List Nat} {S : List Usr} (hu : UsrAt w Us S) (ho : w.ownsRow base e size v n xs) (hU : ∀ u ∈ Us, u < base) (hg : w.grownBy w' v.ownBlock) : UsrAt w' Us S :=
  hu.keep fun u h => hg.block u (hu.lt u h) (fun e => by have := (ho.lt u e.symm).1; have := hU u h; omega)
theorem slot_fin {B : Int} {m : Nat} {Us : List Nat} {S S1 S2 S3 : List Usr} {tbs ars : Nat → Int} {w w' : World} {A : Option Addr} {c : Nat} (h1 : Mid1 S S1 tbs ars m) (h2 : Mid2 B S1 S2) (h3 : Mid3 S2 S3 m) (hm : S.length = m) (hB : B ≤ 20) (_ : ∀ s ∈ S, OkU s) (hse : ∀ s ∈ S, s.se + s.wa ≤ 90000000)
    (ht : ∀ i, i < m → 0 ≤ tbs i ∧ tbs i ≤ 1000 ∧ 0 ≤ ars i ∧ ars i ≤ 1000000) (hu : UsrAt w' Us S3) (hg : GrowU Us w w') : SlotL Us S tbs ars m w (.returned (.slice A m c)) w' := by
  have l1 := h1.1
  have l2 := h2.len
  have l3 := h3.1
  have key : ∀ j (h : j < S.length) (h' : j < S3.length), ∃ b, S3[j] = usr3 (usr2 (usr1 S[j] (tbs j) (ars j)) b) ∧ bl1 S[j] (tbs j) (S[j].wa + ars j) ≤ b ∧ OkU (usr2 (usr1 S[j] (tbs j) (ars j)) b) := fun j h h' => by
    have e3 := (h3.2 j (by omega) h').1 (by omega)
    have e2 := h2.at_ j (by omega) (by omega)
    have e1 := (h1.2 j h (by omega)).1 (by omega)
    have ho := h2.ok _ (List.getElem_mem (show j < S2.length by omega))
    rw [e1] at e2
    refine ⟨S2[j].bl, by rw [e3, ← e2.1], e2.2, by rw [← e2.1]; exact ho⟩
  refine ⟨A, c, S3, rfl, hu, hg, by omega, fun s hs => ?_, ?_, fun j h h' => ?_⟩
  · obtain ⟨j, hj, rfl⟩ := List.getElem_of_mem hs
    have hj' : j < S.length := by omega
    obtain ⟨b, e, hb, ho⟩ := key j hj' hj
    rw [e]
    have hw := tkU_bd ho
    have h6 := hse _ (List.getElem_mem hj')
    have h4 := ht j (by omega)
    have h7 := ho.se
    have h8 := ho.wa
    have q1 : (usr2 (usr1 S[j] (tbs j) (ars j)) b).wa = S[j].wa + ars j := rfl
    have q2 : (usr2 (usr1 S[j] (tbs j) (ars j)) b).se = S[j].se := rfl
    rw [q1] at hw h8
    rw [q2] at h7
    exact ⟨ho.bl, ho.rt, ho.pw, ho.wt, ⟨by show 0 ≤ S[j].wa + ars j - tkU _; omega, by show S[j].wa + ars j - tkU _ ≤ _; omega⟩, ⟨by show 0 ≤ S[j].se + tkU _; omega, by show S[j].se + tkU _ ≤ _; omega⟩, ho.ne⟩
  · have : S3.map (·.bl) = S2.map (·.bl) := by
      apply List.ext_getElem
      · simpa using l3
      · intro j h4 h5
        rw [List.length_map] at h4 h5
        rw [List.getElem_map, List.getElem_map, (h3.2 j h5 h4).1 (by omega)]
        rfl
    rw [this]
    exact Int.le_trans h2.sum hB
  · obtain ⟨b, e, hb, ho⟩ := key j h h'
    rw [e]
    have hw := tkU_bd ho
    have q1 : (usr2 (usr1 S[j] (tbs j) (ars j)) b).wa = S[j].wa + ars j := rfl
    have qt : tkU (usr2 (usr1 S[j] (tbs j) (ars j)) b) = min (S[j].wa + ars j) (b * tbs j) := rfl
    rw [q1] at hw
    refine ⟨rfl, rfl, ?_, ?_, ?_, fun hk htb => ?_⟩
    · show S[j].se + tkU _ + (S[j].wa + ars j - tkU _) = _
      omega
    · show 0 ≤ S[j].wa + ars j - tkU _
      omega
    · show S[j].se ≤ S[j].se + tkU _
      omega
    · show _ ≤ S[j].se + tkU (usr2 (usr1 S[j] (tbs j) (ars j)) b) - S[j].se
      rw [qt]
      have hx : bl1 S[j] (tbs j) (S[j].wa + ars j) = min S[j].ne (ceilI (S[j].wa + ars j) (tbs j)) := by
        unfold bl1
        rw [if_neg ?_]
        rintro (e | e)
        · exact hk e
        · omega
      rw [hx] at hb
      have hc := ceil_mul (n := S[j].wa + ars j) htb
      rcases Int.le_total S[j].ne (ceilI (S[j].wa + ars j) (tbs j)) with hle | hle
      · have hb1 : S[j].ne ≤ b := by omega
        have := Int.mul_le_mul_of_nonneg_right hb1 (Int.le_of_lt htb)
        omega
      · have hb1 : ceilI (S[j].wa + ars j) (tbs j) ≤ b := by omega
        have := Int.mul_le_mul_of_nonneg_right hb1 (Int.le_of_lt htb)
        omega
set_option maxRecDepth 100000 in
set_option maxHeartbeats 16000000 in
theorem slot_all (B C P : Int) (ab ao c n : Nat) (R : Nat) (D : Option Addr) (m c' : Nat) (Us : List Nat) (S : List Usr) (RA QA : Option Addr) (r q : Nat) (tbs ars : Nat → Int) (w : World) (hm : S.length = m) (hm8 : m ≤ 8) (hR : Blk w R 93 #[.int .i64 B, .int .i64 C, .int .i64 P, .slice (some ⟨ab, ao, none⟩) n c, .slice D m c']) (hD : Sl w D (Us.map ptrV)) (hU : UsrAt w Us S)
    (hRU : R ∉ Us) (hDU : ∀ b off, D = some ⟨b, off, none⟩ → b ∉ Us) (habU : ab ∉ Us) (hrep : RepAt w ab ao n RA QA m Us tbs ars) (hok : ∀ s ∈ S, OkU s) (hse : ∀ s ∈ S, s.se + s.wa ≤ 90000000) (hsum : sumI (S.map (·.ne)) ≤ B)
    (hB : 0 ≤ B ∧ B ≤ 20) (hC : 0 ≤ C ∧ C ≤ 1000000) (hP : 0 ≤ P ∧ P ≤ 1000000) :
    Calls Try.prog 37 #[.pointer (some ⟨R, 0, none⟩), .agg #[.slice RA m r, .slice QA m q]] w (SlotL Us S tbs ars m w) := by
  have HNX := hide (fun S' W k1 k2 k3 k4 k5 => next_all B C P (some ⟨ab, ao, none⟩) c n R D m c' Us S' W k1 hm8 k2 k3 k4 k5 (by omega) hC hP)
  have HOK := hide hok
  have HUL := hide hU.1
  have hUlt := hide (fun u hu => (hU.lt u hu : u < w.heap.size))
  have hXU : w.heap.size ∉ Us := fun h => by have := hU.lt _ h; omega
  have HT := hide (((butL_blk hR hRU).and (butL_sl hD hDU)).and (show ButL Us w (fun W => RepAt W ab ao n RA QA m Us tbs ars) from fun W hW => hrep.keep habU hW))
  have HG := hide (fun (x : Ber) W => guaranteed_sched x.nm x.kd x.pr x.wt x.pw x.le x.bu x.ra x.de W)
  have HU0 := hide hU
  clear hR hD hU hRU hDU hrep hok hC hP
  go_enter Try.func37, Try.ntmps37
  obtain ⟨W0, hW0⟩ : ∃ W0, w.alloc (.cells #[.slice RA m r, .slice QA m q] 44) = W0 := ⟨_, rfl⟩
  have HG0 : Hid (GrowU Us w W0) := hide (hW0 ▸ GrowU.bel ((Below.refl _ w).alloc (Nat.le_refl _) (.cells #[.slice RA m r, .slice QA m q] 44)))
  have HU1 : Hid (UsrAt W0 Us S) := hide (hW0 ▸ HU0.out.bel ((Below.refl _ w).alloc (Nat.le_refl _) (.cells #[.slice RA m r, .slice QA m q] 44)))
  have HX : Hid (ButL Us W0 (fun W => Blk W w.heap.size 44 #[.slice RA m r, .slice QA m q])) := hide (butL_blk (hW0 ▸ Blk.new w 44 #[.slice RA m r, .slice QA m q]) hXU)
  replace HT := hide (((HT.out.step HG0.out).and HX.out).and (show ButL Us W0 (fun W => GrowU Us w W) from fun W hW => HG0.out.trans hW))
  have r4 : W0.cell? ⟨R, 4, none⟩ = some (.slice D m c') := HT.out.now.1.1.1.1.cell 4
  clear HX HG0 HU0
  go_wp2_with fail
  clear r4 hW0
  go_loopw [17] (fun i wr => ∃ k : Nat, ∃ S' : List Usr, k ≤ m ∧ i = .int .i64 k ∧ GrowU Us W0 wr ∧ UsrAt wr Us S' ∧ Mid1 S S' tbs ars k) (fun i _ => m - (intOf i).toNat)
  case atStart => exact ⟨0, S, Nat.zero_le _, rfl, GrowU.refl _ _, HU1.out, Mid1.zero S tbs ars⟩
  case round =>
    obtain ⟨k, S', hkm, rfl, hg, hu, hmid⟩ := hrel
    clear HU1
    replace hg := hide hg
    replace hu := hide hu
    replace hmid := hide hmid
    by_cases hlt : k < m
    · have hkl : k < S.length := by omega
      have hki : (k : Int) < (m : Int) := by omega
      have hkU : k < Us.length := by rw [HUL.out]; exact hkl
      have hkS : k < S'.length := by rw [hmid.out.1]; exact hkl
      have hT := HT.out.step hg.out
      obtain ⟨V, vo, rfl, v0⟩ := sl_ptr hT.now.1.1.1.2 k hkU
      obtain ⟨rb, ro, qb, qo, kk, rfl, rfl, hkn, hrbU, hqbU, e1, e2, e3, t0, t1, a0, a1⟩ := hT.now.1.1.2 k hlt
      have hsk := (hmid.out.2 k hkl hkS).2 (Nat.le_refl k)
      have hBU := hu.out.2.2 k hkS hkU
      rw [hsk] at hBU
      have hos := HOK.out S[k] (List.getElem_mem hkl)
      have hss := hse S[k] (List.getElem_mem hkl)
      have hmem : Us[k] ∈ Us := List.getElem_mem hkU
      have hstep := hide (fun s W (h1 : wr.grownBy W (some Us[k])) (h2 : Blk W Us[k] 97 (Usr.cs s)) => (hu.out.set_ k hkS hkU s h1 h2 : UsrAt W Us (S'.set k s)))
      have hms := hide (hmid.out.succ hkl)
      have hB4 := hide (((((hT.one hmem : But Us[k] wr _)))))
      have e4 := hide (And.intro (but_at (U := Us[k]) e1 (fun e => hrbU (e ▸ hmem))) (And.intro (but_at (U := Us[k]) e2 (fun e => habU (e ▸ hmem))) (but_at (U := Us[k]) e3 (fun e => hqbU (e ▸ hmem)))))
      obtain ⟨s, hs⟩ : ∃ s, S[k] = s := ⟨_, rfl⟩
      obtain ⟨U, hUk⟩ : ∃ U, Us[k] = U := ⟨_, rfl⟩
      obtain ⟨tb, htb⟩ : ∃ z, tbs k = z := ⟨_, rfl⟩
      obtain ⟨ar, har⟩ : ∃ z, ars k = z := ⟨_, rfl⟩
      rw [hs] at hBU hos hss hms
      rw [hUk] at hBU v0 hstep hmem hB4 e4
      rw [htb] at t0 t1 hms e4
      rw [har] at a0 a1 hms e4
      have hY : IntKind.i64.wrap (s.wa + ar) = s.wa + ar := IntWalk.i64_in _ (by have := hos.wa; omega)
      replace hBU := hide hBU
      clear hs hUk htb har e1 e2 e3 hT hsk
      go_wp2_with fail
      clear v0
      obtain ⟨kb, hkb⟩ : ∃ z, (!(s.x.kd == 0)) = z := ⟨_, rfl⟩
      have HGs := hide (HG.out s.x)
      rw [hkb] at HGs
      clear HNX HT HG
      refine sl4 _ (fun _ _ d _ _ h => by cases d <;> exact h) B C P ab ao n c m c' _ R U w.heap.size rb ro r qb qo q k kk ar tb s wr _ _ _ _ _ _ _ _ _ _ _ _ _ _ _ _ _ _ _ _ _ _ _ _ _ _ _ _ _ _ _ _ _ _ _ _ _ _ _ _ _ _ _ _ _ _ _ _ _ _ _ _ _ _ _ _ _ _ _ _ _ _ _ _ _ _ _ _ _ _ _ _ _ _ _ _ _ _ _ _ _ _ _ _ _ _ _ _ _ _ _ _ _ _ _ _ _ _ _ _ _ _ _ _ _ _ _ _ _ _ _ _ _ _ _ _ _ _ _ _ _ _ _ _ _ _ _ _ _ _ _ (fun W h => ⟨⟨⟨⟨(hB4.out W h).1.1.1.1, e4.out.2.1 W h⟩, e4.out.1 W h⟩, e4.out.2.2 W h⟩, (hB4.out W h).1.2⟩) hBU.out hki (by exact_mod_cast hkn) hY (fun _ _ _ _ _ _ _ _ _ _ _ _ _ _ _ _ _ _ _ _ _ _ _ _ _ _ _ _ _ _ _ _ wx hU1 hgU => ?_)
      clear e4 hB4 hBU hY
      replace hU1 := hide hU1
      replace hgU := hide hgU
      have u0 : wx.cell? ⟨U, 0, none⟩ = some (strV s.x.nm) := hU1.out.cell 0
      have u1 : wx.cell? ⟨U, 1, none⟩ = some (.int .i64 s.x.kd) := hU1.out.cell 1
      have u2 : wx.cell? ⟨U, 2, none⟩ = some (.int .i64 s.x.pr) := hU1.out.cell 2
      have u3 : wx.cell? ⟨U, 3, none⟩ = some (.int .i64 s.x.wt) := hU1.out.cell 3
      have u4 : wx.cell? ⟨U, 4, none⟩ = some (.int .i64 s.x.pw) := hU1.out.cell 4
      have u5 : wx.cell? ⟨U, 5, none⟩ = some (.int .i64 s.x.le) := hU1.out.cell 5
      have u6 : wx.cell? ⟨U, 6, none⟩ = some (.int .i64 s.x.bu) := hU1.out.cell 6
      have u7 : wx.cell? ⟨U, 7, none⟩ = some (.int .i64 s.x.ra) := hU1.out.cell 7
      have u8 : wx.cell? ⟨U, 8, none⟩ = some (.int .i64 s.x.de) := hU1.out.cell 8
      go_wp2_with (go_at_call 38; go_must (refine (HGs.out _).mono ?_; rintro e w2 ⟨rfl, hb⟩; replace hU1 := hide (hU1.out.below hb hU1.out.lt); replace hgU := hide (hgU.out.trans (only_of_below hb _)); clear hb u0 u1 u2 u3 u4 u5 u6 u7 u8; have u12 : w2.cell? ⟨U, 12, none⟩ = some (.int .i64 tb) := hU1.out.cell 12; simp only []))
      rotate_left
      · rename_i hx0
        have hx : bl1 s tb (s.wa + ar) = 0 := by unfold bl1; rw [if_pos (Or.inr (by omega))]
        exact ⟨⟨k + 1, _, by omega, by go_num, hg.out.trans (GrowU.of hgU.out hmem), hstep.out (usr1 s tb ar) w2 hgU.out (by unfold usr1; rw [hx]; exact hU1.out), hms.out⟩, by simp [intOf]; omega⟩
      · rename_i hx0
        have hx : bl1 s tb (s.wa + ar) = 0 := by
          unfold bl1
          rw [if_pos (Or.inl ?_)]
          by_cases e : s.x.kd = 0
          · exact e
          · exact absurd (by rw [← hkb]; simpa using e) hx0
        exact ⟨⟨k + 1, _, by omega, by go_num, hg.out.trans (GrowU.of hgU.out hmem), hstep.out (usr1 s tb ar) w2 hgU.out (by unfold usr1; rw [hx]; exact hU1.out), hms.out⟩, by simp [intOf]; omega⟩
      · rename_i hx1 hx0
        have hx : bl1 s tb (s.wa + ar) = min s.ne (ceilI (s.wa + ar) tb) := by
          unfold bl1
          rw [if_neg ?_]
          rintro (e | e)
          · rw [e] at hkb; simp [hx1] at hkb
          · omega
        clear HGs
        have hw0 := hos.wa
        have hs0 := hos.se
        refine sl6 _ (fun _ _ d _ _ h => by cases d <;> exact h) U (ceilI (s.wa + ar) tb) (min s.ne (ceilI (s.wa + ar) tb)) ⟨s.x, s.ne, s.wa + ar, s.se, tb, 0⟩ w2 _ _ _ _ _ _ _ _ _ _ _ _ _ _ _ _ _ _ _ _ _ _ _ _ _ _ _ _ _ _ _ _ _ _ _ _ _ _ _ _ _ _ _ _ _ _ _ _ _ _ _ _ _ _ _ _ _ _ _ _ _ _ _ _ _ _ _ _ _ _ _ _ _ _ _ _ _ _ _ _ _ _ _ _ _ _ _ _ _ _ _ _ _ _ _ _ _ _ _ _ _ _ _ _ _ _ _ _ _ _ _ _ _ _ _ _ _ _ _ _ _ _ _ _ _ _ _ _ _ _ _ _ _ _ hU1.out (fun W => ceil_sched (s.wa + ar) tb W hx0 (by omega) (by omega) (by omega)) rfl (fun _ _ _ _ _ _ _ _ _ _ _ _ _ _ _ _ _ wy hU2 hgY => ?_)
        clear u12
        replace hgU := hide (hgU.out.trans hgY)
        clear hgY
        go_wp2_with fail
        exact ⟨⟨k + 1, _, by omega, by go_num, hg.out.trans (GrowU.of hgU.out hmem), hstep.out (usr1 s tb ar) wy hgU.out (by unfold usr1; rw [hx]; exact hU2), hms.out⟩, by simp [intOf]; omega⟩
    · obtain rfl : m = k := by omega
      clear HG
      obtain ⟨ho1, hs1⟩ := mid1_ok hmid.out hm HOK.out hse hsum hB.2 (fun i hi => by obtain ⟨_, _, _, _, _, _, _, _, _, _, _, _, _, h⟩ := HT.out.now.1.1.2 i hi; exact h)
      have hlen := hmid.out.1
      go_wp2_with fail
      refine (HNX.out S' _ (by omega) (HT.out.step hg.out).now.1.1.1.1 (HT.out.step hg.out).now.1.1.1.2 hu.out ho1).mono ?_
      rintro e w1 ⟨hn, hb⟩
      obtain ⟨v, rfl, hl⟩ : ∃ v, e = .returned v ∧ Loop2 B Us S' W0 v w1 := by
        have hg1 := hg.out.trans (GrowU.bel (Us := Us) hb)
        have hu1 := hu.out.bel hb
        have hrem : remN B (S'.map (·.bl)) m = B - sumI (S'.map (·.bl)) := by unfold remN; rw [List.take_of_length_le (by rw [List.length_map]; omega)]
        rcases hn with rfl | ⟨j, hj, rfl, hx⟩
        · exact ⟨_, rfl, S', hg1, hu1, Mid2.zero ho1 hs1, .inl rfl⟩
        · exact ⟨_, rfl, S', hg1, hu1, Mid2.zero ho1 hs1, .inr ⟨j, hj, rfl, by omega⟩⟩
      clear hg hu
      simp only []
      go_wp2_with fail
      go_loopw [7] (Loop2 B Us S' W0) (fun _ wr => (B - blSum wr Us).toNat)
      case atStart => exact hl
      case round =>
        clear hl hb
        obtain ⟨S2, hg2, hu2, hm2, rfl | ⟨j, hj, rfl, hlt2⟩⟩ := hrel
        · replace hg2 := hide hg2
          replace hu2 := hide hu2
          replace hm2 := hide hm2
          have r4 : wr.cell? ⟨R, 4, none⟩ = some (.slice D m c') := (HT.out.step hg2.out).now.1.1.1.1.cell 4
          clear HNX
          have hS2 : S2.length = m := by rw [hm2.out.len]; omega
          go_wp2_with fail
          clear r4
          go_loopw [8, 102] (fun o i wx => ∃ (k : Nat) (S3 : List Usr) (A : Option Addr) (c1 : Nat) (xs : List Value), k ≤ m ∧ i = .int .i64 k ∧ o = .slice A k c1 ∧ GrowU Us W0 wx ∧ UsrAt wx Us S3 ∧ Mid3 S2 S3 k ∧ wx.ownsRow W0.heap.size 3 1 (.slice A k c1) k xs) (fun _ i _ => m - (intOf i).toNat)
          case atStart => exact ⟨0, S2, none, 0, [], Nat.zero_le _, rfl, rfl, hg2.out, hu2.out, Mid3.zero S2, ⟨rfl, .inl ⟨rfl, rfl⟩⟩⟩
          case round =>
            obtain ⟨k, S3, A, c1, xs, hkm3, rfl, rfl, hg4, hu4, hm4, hown⟩ := hrel
            clear hg2 hu2
            replace hg4 := hide hg4
            replace hu4 := hide hu4
            replace hm4 := hide hm4
            replace hown := hide hown
            by_cases hlt : k < m
            · have hki : (k : Int) < (m : Int) := by omega
              have hkU : k < Us.length := by rw [HUL.out]; omega
              have hkS : k < S3.length := by rw [hm4.out.1]; omega
              have hkS2 : k < S2.length := by omega
              obtain ⟨V, vo, rfl, v0⟩ := sl_ptr (HT.out.step hg4.out).now.1.1.1.2 k hkU
              have hsk := (hm4.out.2 k hkS2 hkS).2 (Nat.le_refl k)
              have hB4 := hu4.out.2.2 k hkS hkU
              rw [hsk] at hB4
              have hos := hm2.out.ok _ (List.getElem_mem hkS2)
              have htb := tkU_bd hos
              have hmem : Us[k] ∈ Us := List.getElem_mem hkU
              have hUb : Us[k] < W0.heap.size := Nat.lt_of_lt_of_le (hUlt.out _ hmem) HT.out.now.2.size
              have hms := hide (hm4.out.succ hkS2)
              have hstep := hide (fun W (h1 : wr.grownBy W (some Us[k])) (h2 : Blk W Us[k] 97 (Usr.cs (usr3 S2[k]))) => (hu4.out.set_ k hkS hkU _ h1 h2 : UsrAt W Us (S3.set k (usr3 S2[k]))))
              obtain ⟨s, hs⟩ : ∃ s, S2[k] = s := ⟨_, rfl⟩
              obtain ⟨U, hUk⟩ : ∃ U, Us[k] = U := ⟨_, rfl⟩
              rw [hs] at hB4 hos htb hms hstep
              rw [hUk] at hB4 v0 hmem hUb hstep
              replace hB4 := hide hB4
              have hbd1 := hos.wa
              have hbd2 := hos.se
              have wA : IntKind.i64.wrap (s.se + tkU s) = s.se + tkU s := IntWalk.i64_in _ (by omega)
              have wB : IntKind.i64.wrap (s.wa - tkU s) = s.wa - tkU s := IntWalk.i64_in _ (by omega)
              have HTK := hide (fun W h => taken_usr U s W h hos)
              clear hs hUk hsk
              go_wp2_with (go_at_call 57; go_must (refine (HTK.out _ hB4.out).mono ?_; rintro e w5 ⟨rfl, hb⟩; replace hB4 := hide (hB4.out.below hb hB4.out.lt); have hgU := hide (only_of_below hb (some U)); clear hb v0; simp only []))
              refine sl17 _ (fun _ _ d _ _ h => by cases d <;> exact h) U (tkU s) s w5 _ _ _ _ _ _ _ _ _ _ _ _ _ _ _ _ _ _ _ _ _ _ _ _ _ _ _ _ _ _ _ _ _ _ _ _ _ _ _ _ _ _ _ _ _ _ _ _ _ _ _ _ _ _ _ _ _ _ _ _ _ _ _ _ _ _ _ _ _ _ _ _ _ _ _ _ _ _ _ _ _ _ _ _ _ _ _ _ _ _ _ _ _ _ _ _ _ _ _ _ _ _ _ _ _ _ _ _ _ _ _ _ _ _ _ _ _ _ _ _ _ _ _ _ _ _ _ _ _ _ _ _ _ hB4.out wA wB (fun _ _ _ _ _ _ _ _ _ _ _ _ _ _ _ _ _ _ wy hU5 hgY => ?_)
              replace hgU := hide (hgU.out.trans hgY)
              have hu5 := hide (hstep.out _ hgU.out hU5)
              have hown5 := hide ((own_usr hown.out hUb hgU.out).alloc (.cells #[.int .i64 s.bl] 3))
              have hg5 := hide ((hg4.out.trans (GrowU.of hgU.out hmem)).trans (GrowU.bel ((Below.refl _ wy).alloc (Nat.le_refl _) (.cells #[.int .i64 s.bl] 3))))
              replace hu5 := hide (hu5.out.bel ((Below.refl _ wy).alloc (Nat.le_refl _) (.cells #[.int .i64 s.bl] 3)))
              have hsz := hg5.out.size
              have u13 : wy.cell? ⟨U, 13, none⟩ = some (.int .i64 s.bl) := hU5.cell 13
              clear hU5 hgY hstep hB4 HTK hown hu4 hg4 hgU wA wB
              obtain ⟨i0, hi0, hz0, hz1, hz2⟩ := info_parts int_info
              go_wp2_with (at_builtin; refine wpList_append_own _ rfl _ _ 22 rfl W0.heap.size 3 i0 (.int .i64 0) 1 8 Try.underlying22 hi0 hz0 hz1 hz2 rfl (by decide) _ k xs rfl hown5.out ⟨wy.heap.size, 0, none⟩ 1 1 [.int .i64 s.bl] rfl rfl (cell_one_new _ _ _) (by simp [Value.oneCell']) (by simp only [maxLen]; omega) (by omega) hsz ?_; intro v' w7 hown' hgrow _; obtain ⟨A7, c7, rfl⟩ := own_form hown')
              replace hgrow : (wy.alloc (.cells #[.int .i64 s.bl] 3)).grownBy w7 (Value.ownBlock (.slice A k c1)) := hgrow
              have hg7 := hide (hg5.out.own hown5.out hgrow)
              have hu7 := hide (usr_own hu5.out hown5.out (fun u h => Nat.lt_of_lt_of_le (hUlt.out u h) HT.out.now.2.size) hgrow)
              have hown7 := hide hown'
              clear hown' hgrow hown5 hu5 hg5 u13
              go_wp2_with fail
              exact ⟨⟨k + 1, _, A7, c7, _, by omega, by go_num, rfl, hg7.out, hu7.out, hms.out, hown7.out⟩, by simp [intOf]; omega⟩
            · obtain rfl : m = k := by omega
              go_wp2
              go_ret
              exact slot_fin hmid.out hm2.out hm4.out hm hB.2 HOK.out hse (fun i hi => by obtain ⟨_, _, _, _, _, _, _, _, _, _, _, _, _, h⟩ := HT.out.now.1.1.2 i hi; exact h) hu4.out (HT.out.now.2.trans hg4.out)
        · have hjS : j < S2.length := by rw [← hu2.1]; exact hj
          have hB2 := hu2.2.2 j hjS hj
          have ho2 := (hm2.ok _ (List.getElem_mem hjS)).bl
          have w13 : IntKind.i64.wrap (S2[j].bl + 1) = S2[j].bl + 1 := IntWalk.i64_in _ (by omega)
          have hmem : Us[j] ∈ Us := List.getElem_mem hj
          have hm3 := hide (hm2.succ hB.2 j hjS hlt2)
          have hsum3 := hide (Mid2.sum_succ S2 j hjS)
          have hsum2 := hide (blSum_eq hu2)
          have hstep := hide (fun W (h1 : wr.grownBy W (some Us[j])) (h2 : Blk W Us[j] 97 (Usr.cs (usr2 S2[j] (S2[j].bl + 1)))) => (hu2.set_ j hjS hj _ h1 h2 : UsrAt W Us (S2.set j (usr2 S2[j] (S2[j].bl + 1)))))
          obtain ⟨S3, hS3⟩ : ∃ z, S2.set j (usr2 S2[j] (S2[j].bl + 1)) = z := ⟨_, rfl⟩
          rw [hS3] at hm3 hsum3 hstep
          obtain ⟨s, hs⟩ : ∃ s, S2[j] = s := ⟨_, rfl⟩
          obtain ⟨U, hUj⟩ : ∃ U, Us[j] = U := ⟨_, rfl⟩
          rw [hs] at hB2 ho2 w13 hstep
          rw [hUj] at hB2 hmem hstep ⊢
          clear hS3 hs hUj hu2 hm2
          replace hg2 := hide hg2
          replace hB2 := hide hB2
          have u13 : wr.cell? ⟨U, 13, none⟩ = some (.int .i64 s.bl) := hB2.out.cell 13
          have f13 := hB2.out.frozen 13
          go_wp2_with fail
          have hgU := grown_set (World.grownBy.refl wr (some U)) 13 (.int .i64 (s.bl + 1))
          have hu3 := hide (hstep.out _ hgU (hB2.out.set_ 13 (.int .i64 (s.bl + 1))))
          have hg3 := hide (hg2.out.trans (GrowU.of hgU hmem))
          clear u13 f13 hB2 hgU hstep hg2 w13
          refine (HNX.out S3 _ (by rw [hm3.out.len]; omega) (HT.out.step hg3.out).now.1.1.1.1 (HT.out.step hg3.out).now.1.1.1.2 hu3.out hm3.out.ok).mono ?_
          rintro e w4 ⟨hn, hb⟩
          obtain ⟨v, rfl, hl⟩ : ∃ v, e = .returned v ∧ Loop2 B Us S' W0 v w4 ∧ (B - blSum w4 Us).toNat < (B - blSum wr Us).toNat := by
            have hg1 := hg3.out.trans (GrowU.bel (Us := Us) hb)
            have hu1 := hu3.out.bel hb
            have hrem : remN B (S3.map (·.bl)) m = B - sumI (S3.map (·.bl)) := by unfold remN; rw [List.take_of_length_le (by rw [List.length_map, hm3.out.len]; omega)]
            have h1 := blSum_eq hu1
            have h2 := hsum3.out
            have h3 := hsum2.out
            have h4 := hm3.out.sum
            rcases hn with rfl | ⟨j, hj, rfl, hx⟩
            · exact ⟨_, rfl, ⟨S3, hg1, hu1, hm3.out, .inl rfl⟩, by omega⟩
            · exact ⟨_, rfl, ⟨S3, hg1, hu1, hm3.out, .inr ⟨j, hj, rfl, by omega⟩⟩, by omega⟩
          clear hu3 hg3 hb hn hsum3 hsum2 hm3
          simp only []
          go_wp2_with fail
          exact hl
end Go.Proofs.Ytppkibgemacdbaa
