import Derived.Test.YthfmjohbokpceaaWvE
namespace Go.Proofs.Ythfmjohbokpceaa
open Go.RowKit Go.WideShapes Go.ChangeShapes

/-! numbers that are told (program) -/
theorem nu_info : (Try.prog.info? 162).map (fun i => (i.zero, i.size, i.bytes)) = some (some (nv n0), 4, 32) := by kernel_rfl
theorem wn_info : (Try.prog.info? 38).map (fun i => (i.zero, i.size, i.bytes)) = some (some (nv n0), 4, 32) := by kernel_rfl
theorem cells_new (w : World) (l : List Value) (t : TypeId) : ∀ j u, l[j]? = some u → (w.alloc (.cells l.toArray t)).cell? ((⟨w.heap.size, 0, none⟩ : Addr).add j) = some u := by
  intro j u h
  have := (Sl.new w l t w.heap.size rfl).one rfl h
  rw [add_lit]
  exact this
/-- rows of the call's own below a world's size are kept -/
theorem own_bel {w w' : World} {base e size n : Nat} {v : Value} {xs : List Value} (h : w.ownsRow base e size v n xs) (hb : Below w.heap.size w w') : w'.ownsRow base e size v n xs :=
  h.kept (row := none) ⟨hb.os, hb.tape, hb.output, hb.size, fun k hk _ => hb.block k hk⟩ (by cases hv : v.ownBlock <;> simp)
theorem Sl.of_ownN {w : World} {base e size n c : Nat} {A : Option Addr} {xs : List Value} (h : w.ownsRow base e size (.slice A n c) n xs) : Sl w A xs := by
  intro k hk
  have hn : 0 < n := by
    rcases Nat.eq_zero_or_pos n with q | q
    · have := h.1; rw [q] at this; omega
    · exact q
  obtain ⟨b, cap, hv, _, _⟩ := h.form hn
  injection hv with hA
  subst hA
  have hc := h.cells (g := b) rfl k _ (List.getElem?_eq_getElem hk)
  rw [add_lit] at hc
  exact ⟨b, 0, rfl, hc⟩
/-- all numbers small, and told; or the error -/
def Told (l : List Nm) (w : World) (e : Ending) (w' : World) : Prop :=
  (l.all (fitsB 1000000000) = true ∧ (∃ A c, e = .returned (.tuple #[.slice A l.length c, .int .i64 0]) ∧ Sl w' A (nvs l)) ∧ Below w.heap.size w w') ∨
  (l.all (fitsB 1000000000) = false ∧ e = .returned (.tuple #[.slice none 0 0, .int .i64 8]) ∧ Below w.heap.size w w')
theorem all_take {α : Type} (p : α → Bool) (l : List α) (k : Nat) (hk : k < l.length) (h : (l.take k).all p = true) (h1 : p l[k] = true) : (l.take (k + 1)).all p = true := by
  rw [List.take_succ_eq_append_getElem hk, List.all_append, h]; simp [h1]
theorem all_not {α : Type} (p : α → Bool) (l : List α) (k : Nat) (hk : k < l.length) (h1 : p l[k] = false) : l.all p = false := by
  cases h : l.all p
  · rfl
  · rw [List.all_eq_true] at h
    rw [h _ (List.getElem_mem hk)] at h1
    exact absurd h1 (by decide)
set_option maxRecDepth 100000 in
set_option maxHeartbeats 4000000 in
theorem toldIf_wave (A : Option Addr) (c : Nat) (l : List Nm) (w : World) (hs : Sl w A (nvs l)) (hl : l.length ≤ 1000000) :
    Calls Try.prog 113 #[.slice A l.length c] w (Told l w) := by
  obtain ⟨i0, hi0, hz0, hz1, hz2⟩ := info_parts wn_info
  have HS := hide hs; clear hs
  go_enter Try.func113, Try.ntmps113
  go_wp2
  go_loopw [4, 9] (fun o i wr => ∃ (k : Nat) (C : Option Addr) (c1 : Nat), k ≤ l.length ∧ i = .int .i64 k ∧ o = .slice C k c1 ∧ (l.take k).all (fitsB 1000000000) = true ∧ wr.ownsRow w.heap.size 38 4 (.slice C k c1) k (nvs (l.take k)) ∧ Below w.heap.size w wr) (fun _ i _ => l.length - (intOf i).toNat)
  case atStart => exact ⟨0, none, 0, Nat.zero_le _, rfl, rfl, rfl, World.ownsRow_nil _ _ _ _, Below.refl _ _⟩
  case round =>
    obtain ⟨k, C, c1, hk, rfl, rfl, hall, hrow, hbel⟩ := hrel
    have hbz := hbel.size
    by_cases hlt : k < l.length
    · obtain ⟨b, off, rfl, e0, e1, e2, e3⟩ := HS.out.at4 hlt
      have d0 := (hbel.cell (p := ⟨b, off + k * 4, none⟩) (lt_of_cell e0)).trans e0
      have d1 := (hbel.cell (p := ⟨b, off + k * 4 + 1, none⟩) (lt_of_cell e1)).trans e1
      have d2 := (hbel.cell (p := ⟨b, off + k * 4 + 2, none⟩) (lt_of_cell e2)).trans e2
      have d3 := (hbel.cell (p := ⟨b, off + k * 4 + 3, none⟩) (lt_of_cell e3)).trans e3
      have hsucc := hide (show nvs (l.take (k + 1)) = nvs (l.take k) ++ [.int .i64 l[k].1, .int .i64 l[k].2.1, .int .i64 l[k].2.2.1, .int .i64 l[k].2.2.2] by rw [List.take_succ_eq_append_getElem hlt, nvs_append]; rfl)
      have HROW := hide hrow
      clear hrow e0 e1 e2 e3
      cases hf : fitsB 1000000000 l[k]
      · have hno := hide (all_not _ l k hlt hf)
        have HF := hide (fun W => fits_wave l[k] 1000000000 W (by omega) (by omega))
        rw [hf] at HF
        obtain ⟨z, hz⟩ : ∃ z, l[k] = z := ⟨_, rfl⟩
        rw [hz] at d0 d1 d2 d3 HF
        clear hf hall hz hsucc
        go_wp2_with (go_at_call 118; go_must (refine (HF.out _).mono ?_; rintro e w1 ⟨rfl, hb1⟩; have b1 : Below w.heap.size w w1 := Below.step (by go_grown) hb1; clear hb1; simp only []))
        go_ret2
        exact .inr ⟨hno.out, rfl, b1⟩
      · have hyes := hide (all_take _ l k hlt hall hf)
        have HF := hide (fun W => fits_wave l[k] 1000000000 W (by omega) (by omega))
        rw [hf] at HF
        obtain ⟨z, hz⟩ : ∃ z, l[k] = z := ⟨_, rfl⟩
        rw [hz] at d0 d1 d2 d3 HF hsucc
        have HT := hide (fun W => told_wave z W)
        clear hf hall hz
        go_wp2_with (first
          | (at_builtin; go_must (
               refine wpList_append_own _ rfl _ _ 36 rfl w.heap.size 38 i0 _ 4 32 Try.underlying36 hi0 hz0 hz1 hz2 rfl (by decide) (.slice C k c1) k (nvs (l.take k)) rfl (HROW3.out.alloc _) ⟨w2.heap.size, 0, none⟩ 1 1 [.int .i64 z.1, .int .i64 z.2.1, .int .i64 z.2.2.1, .int .i64 z.2.2.2] rfl rfl (cells_new _ _ _) (by simp [Value.oneCell']) (by simp only [maxLen]; omega) (by omega) (by simp; omega) ?_
               intro v' w3 hown' hgrow _
               obtain ⟨C2, k2, rfl⟩ := own_form hown'
               have hbel' := Below.app b2 HROW3.out hgrow))
          | (go_at_call 118; go_must (refine (HF.out _).mono ?_; rintro e w1 ⟨rfl, hb1⟩; have b1 : Below w.heap.size w w1 := Below.step (by go_grown) hb1; have hN := Blk.bel2 hb1 (Blk.newN wr 162 (ncells z) rfl) (by simp); obtain ⟨p0, p1, p2, p3, _, _, _, _⟩ := hN.n4; have HROW2 := hide (own_bel (HROW.out.alloc (.cells (ncells z) 162)) hb1); clear hb1 hN; simp only []))
          | (go_at_call 129; go_must (refine (HT.out _).mono ?_; rintro e w2 ⟨rfl, hb2⟩; have b2 : Below w.heap.size w w2 := Below.step b1 hb2; have HROW3 := hide (own_bel HROW2.out hb2); have z2 := b2.size; clear hb2; simp only [])))
        go_roundw
        case rel => exact ⟨k + 1, C2, k2, by omega, by go_num, rfl, hyes.out, by rw [hsucc.out]; exact hown', hbel'⟩
        case measure => simp [intOf]; omega
    · obtain rfl : k = l.length := by omega
      rw [List.take_length] at hall hrow
      have HALL := hide hall
      clear hall
      go_wp2
      go_ret2
      exact .inl ⟨HALL.out, ⟨C, c1, rfl, Sl.of_ownN hrow⟩, hbel⟩
end Go.Proofs.Ythfmjohbokpceaa
