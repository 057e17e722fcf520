import Derived.Test.YtppkibgemacdbaaSbB
namespace Go.Proofs.Ytppkibgemacdbaa
open Go.RowKit Go.WideShapes Go.ChangeShapes

/-! fit and named of lists -/
theorem remN_all (v : Int) (l : List Int) (m : Nat) (h : l.length = m) : remN v l m = v - sumI l := by
  unfold remN
  rw [← h, List.take_length]
set_option maxRecDepth 100000 in
set_option maxHeartbeats 4000000 in
theorem fit_all (B C P : Int) (A : Option Addr) (c n : Nat) (T : List Int) (L : List Ber) (D : Option Addr) (d m : Nat) (w : World) (hn : T.length = n) (hm : L.length = m) (hs : Sl w A (iv T)) (hs2 : OkS B C P T) (ho : ∀ x ∈ L, OkR T x) (hl : m ≤ 20) (hD : Brs w D L) :
    Calls Try.prog 30 #[.agg #[.int .i64 B, .int .i64 C, .int .i64 P, .slice A n c], .slice D m d] w fun e w' => e = .returned (.bool (fitL B C P T L)) ∧ Below w.heap.size w w' := by
  have HR := hide (fun W k k2 => room_all B C P A c n T L D d m W hn hm k hs2 ho hl k2)
  have e1 := remN_all B (L.map (ndB T)) m (by rw [List.length_map]; exact hm)
  have e2 := remN_all C (L.map ndC) m (by rw [List.length_map]; exact hm)
  have e3 := remN_all P (L.map (ndP T)) m (by rw [List.length_map]; exact hm)
  obtain ⟨X, hX⟩ : ∃ X, remN B (L.map (ndB T)) m = X := ⟨_, rfl⟩
  obtain ⟨Y, hY⟩ : ∃ X, remN C (L.map ndC) m = X := ⟨_, rfl⟩
  obtain ⟨Z, hZ⟩ : ∃ X, remN P (L.map (ndP T)) m = X := ⟨_, rfl⟩
  rw [hX, hY, hZ] at HR
  rw [hX] at e1
  rw [hY] at e2
  rw [hZ] at e3
  have hv : (fitL B C P T L = true ∧ 0 ≤ X ∧ 0 ≤ Y ∧ 0 ≤ Z) ∨ (fitL B C P T L = false ∧ X < 0) ∨ (fitL B C P T L = false ∧ Y < 0) ∨ (fitL B C P T L = false ∧ Z < 0) := by
    unfold fitL
    generalize sumI (L.map (ndB T)) = u at *
    generalize sumI (L.map ndC) = v at *
    generalize sumI (L.map (ndP T)) = t at *
    by_cases h1 : u ≤ B
    · by_cases h2 : v ≤ C
      · by_cases h3 : t ≤ P
        · exact .inl ⟨by simp [h1, h2, h3], by omega, by omega, by omega⟩
        · exact .inr (.inr (.inr ⟨by simp [h3], by omega⟩))
      · exact .inr (.inr (.inl ⟨by simp [h2], by omega⟩))
    · exact .inr (.inl ⟨by simp [h1], by omega⟩)
  have HT := hide (((stay_brs hD).alloc (.cells #[.int .i64 B, .int .i64 C, .int .i64 P, .slice A n c] 74)).and ((stay_sl hs).alloc (.cells #[.int .i64 B, .int .i64 C, .int .i64 P, .slice A n c] 74)) |>.and (stay_below ((Below.refl _ w).alloc (Nat.le_refl _) (.cells #[.int .i64 B, .int .i64 C, .int .i64 P, .slice A n c] 74))))
  obtain ⟨V, hV⟩ : ∃ z, fitL B C P T L = z := ⟨_, rfl⟩
  rw [hV] at hv ⊢
  clear hs hs2 ho hn hD hX hY hZ e1 e2 e3 hm hl hV
  rcases hv with ⟨rfl, h1, h2, h3⟩ | ⟨rfl, h1⟩ | ⟨rfl, h1⟩ | ⟨rfl, h1⟩
  all_goals
    go_enter Try.func30, Try.ntmps30
    go_wp2_with (go_at_call 51; go_must (refine (HR.out _ HT.out.now.1.2 HT.out.now.1.1).mono ?_; rintro e w2 ⟨rfl, hb⟩; replace HT := hide (HT.out.step hb); clear hb; simp only []))
    all_goals first
      | (go_ret
         refine ⟨?_, HT.out.now.2.alloc HT.out.now.2.size _⟩
         first
           | rfl
           | (simp; omega)
           | (simp; (repeat' split) <;> omega)
           | (congr 2; simp; omega))
/-- whether a bearer of a list has a name -/
def nmIn (L : List Ber) (nm : Bs) : Bool := L.any (fun x => x.nm == nm)
set_option maxRecDepth 100000 in
theorem named1 (x : Ber) (nm : Bs) (q : Nat) (w : World) (hq : w.cell? ⟨q, 0, none⟩ = some (strV nm)) :
    Calls Try.prog 50 #[.agg #[strV x.nm, .int .i64 x.kd, .int .i64 x.pr, .int .i64 x.wt, .int .i64 x.pw, .int .i64 x.le, .int .i64 x.bu, .int .i64 x.ra, .int .i64 x.de], .pointer (some ⟨q, 0, none⟩)] w fun e w' => e = .returned (.bool (x.nm == nm)) ∧ Below w.heap.size w w' := by
  have heq := fun W => eq_str x.nm nm W
  have hB := hide ((Below.refl _ w).alloc (Nat.le_refl _) (.cells #[strV x.nm, .int .i64 x.kd, .int .i64 x.pr, .int .i64 x.wt, .int .i64 x.pw, .int .i64 x.le, .int .i64 x.bu, .int .i64 x.ra, .int .i64 x.de] 32))
  have hz : (w.alloc (.cells #[strV x.nm, .int .i64 x.kd, .int .i64 x.pr, .int .i64 x.wt, .int .i64 x.pw, .int .i64 x.le, .int .i64 x.bu, .int .i64 x.ra, .int .i64 x.de] 32)).cell? ⟨q, 0, none⟩ = some (strV nm) := (World.cell?_alloc_lt _ _ _ (lt_of_cell hq)).trans hq
  have hx : (w.alloc (.cells #[strV x.nm, .int .i64 x.kd, .int .i64 x.pr, .int .i64 x.wt, .int .i64 x.pw, .int .i64 x.le, .int .i64 x.bu, .int .i64 x.ra, .int .i64 x.de] 32)).cell? ⟨w.heap.size, 0, none⟩ = some (strV x.nm) := (Blk.new w 32 #[strV x.nm, .int .i64 x.kd, .int .i64 x.pr, .int .i64 x.wt, .int .i64 x.pw, .int .i64 x.le, .int .i64 x.bu, .int .i64 x.ra, .int .i64 x.de]).cell 0
  have hg := fun op a b W => eqG_str op a b x.nm W
  clear hq
  go_enter Try.func50, Try.ntmps50
  go_wp2
  go_ret
  exact ⟨rfl, hB.out⟩
def IdxR (b : Bool) (w : World) (e : Ending) (w' : World) : Prop := ∃ i : Int, e = .returned (.int .i64 i) ∧ decide (0 ≤ i) = b ∧ Below w.heap.size w w'
set_option maxRecDepth 100000 in
set_option maxHeartbeats 4000000 in
theorem idx_named (L : List Ber) (nm : Bs) (D : Option Addr) (d m q : Nat) (w : World) (hm : L.length = m) (hl : m ≤ 1000) (hD : Brs w D L) (hq : w.cell? ⟨q, 0, none⟩ = some (strV nm)) :
    Calls Try.prog 61 #[.slice D m d, .func (.func 50) #[] #[.pointer (some ⟨q, 0, none⟩)]] w (IdxR (nmIn L nm) w) := by
  have HT := hide ((stay_brs hD).and (stay_at hq))
  have HN := hide (fun x W k => named1 x nm q W k)
  clear hD hq
  go_enter Try.func61, Try.ntmps61
  go_wp2_with fail
  go_loopw [5, 8] (fun _ i wr => ∃ k : Nat, k ≤ m ∧ i = .int .i64 k ∧ (∀ j (h : j < L.length), j < k → (L[j].nm == nm) = false) ∧ Below w.heap.size w wr) (fun _ i _ => m - (intOf i).toNat)
  case atStart => exact ⟨0, Nat.zero_le _, rfl, fun j _ h => absurd h (by omega), Below.refl _ _⟩
  case round =>
    obtain ⟨k, hkm, rfl, hno, hbel⟩ := hrel
    replace hno := hide hno
    replace hbel := hide hbel
    by_cases hlt : k < m
    · have hkl : k < L.length := by omega
      have hki : (k : Int) < (m : Int) := by omega
      obtain ⟨b, o, rfl, b0, b1, b2, b3, b4, b5, b6, b7, b8⟩ := (HT.out _ hbel.out).1.at_ k hkl
      have hno2 := hide (fun (h : (L[k].nm == nm) = false) j (hj : j < L.length) (hjk : j < k + 1) => show (L[j].nm == nm) = false from by
        by_cases e : j = k
        · subst e; exact h
        · exact hno.out j hj (by omega))
      have hin := hide (fun (h : (L[k].nm == nm) = true) => show nmIn L nm = true from List.any_eq_true.2 ⟨L[k], List.getElem_mem hkl, h⟩)
      obtain ⟨x, hx⟩ : ∃ x, L[k] = x := ⟨_, rfl⟩
      rw [hx] at b0 b1 b2 b3 b4 b5 b6 b7 b8 hno2 hin
      clear hx hkl
      by_cases hxn : (x.nm == nm) = true
      · have hyes := hide (hin.out hxn)
        have HN1 := hide (fun W k => HN.out x W k)
        rw [hxn] at HN1
        clear hno2 hin hxn
        go_wp2_with (go_at_call 50; go_must (refine (HN1.out _ (HT.out _ hbel.out).2).mono ?_; rintro e w2 ⟨rfl, hb⟩; replace hbel := hide (Below.step hbel.out hb); clear hb b0 b1 b2 b3 b4 b5 b6 b7 b8; simp only []))
        go_ret
        exact ⟨_, rfl, by rw [hyes.out]; simp, hbel.out⟩
      · have hxf : (x.nm == nm) = false := by simpa using hxn
        have hno3 := hide (hno2.out hxf)
        have HN1 := hide (fun W k => HN.out x W k)
        rw [hxf] at HN1
        clear hno2 hin hxn hxf
        go_wp2_with (go_at_call 50; go_must (refine (HN1.out _ (HT.out _ hbel.out).2).mono ?_; rintro e w2 ⟨rfl, hb⟩; replace hbel := hide (Below.step hbel.out hb); clear hb b0 b1 b2 b3 b4 b5 b6 b7 b8; simp only []))
        go_roundw
        case rel => exact ⟨k + 1, by omega, by go_num, hno3.out, hbel.out⟩
        case measure => simp [intOf]; omega
    · obtain rfl : k = m := by omega
      have hki : ¬ (k : Int) < (k : Int) := by omega
      go_wp2
      go_ret
      refine ⟨_, rfl, ?_, hbel.out⟩
      have hf : nmIn L nm = false := by
        unfold nmIn
        rw [List.any_eq_false]
        intro x hx
        obtain ⟨j, hj, rfl⟩ := List.getElem_of_mem hx
        rw [hno.out j hj (by omega)]
        simp
      rw [hf]
      simp
set_option maxRecDepth 100000 in
theorem contains_named (L : List Ber) (nm : Bs) (D : Option Addr) (d m q : Nat) (w : World) (hm : L.length = m) (hl : m ≤ 1000) (hD : Brs w D L) (hq : w.cell? ⟨q, 0, none⟩ = some (strV nm)) :
    Calls Try.prog 49 #[.slice D m d, .func (.func 50) #[] #[.pointer (some ⟨q, 0, none⟩)]] w fun e w' => e = .returned (.bool (nmIn L nm)) ∧ Below w.heap.size w w' := by
  have HI := hide (idx_named L nm D d m q w hm hl hD hq)
  obtain ⟨V, hV⟩ : ∃ V, nmIn L nm = V := ⟨_, rfl⟩
  rw [hV] at HI ⊢
  clear hV hD hq hm hl
  go_enter Try.func49, Try.ntmps49
  go_wp2_with fail
  go_at_call 61
  refine HI.out.mono ?_
  rintro e w1 ⟨i, rfl, hi, hb⟩
  replace hb := hide hb
  replace hi := hide hi
  simp only []
  go_wp2
  go_ret
  exact ⟨by rw [hi.out]; rfl, hb.out⟩
set_option maxRecDepth 100000 in
theorem named_all (L : List Ber) (nm : Bs) (D : Option Addr) (d m : Nat) (w : World) (hm : L.length = m) (hl : m ≤ 1000) (hD : Brs w D L) :
    Calls Try.prog 29 #[.slice D m d, strV nm] w fun e w' => e = .returned (.bool (nmIn L nm)) ∧ Below w.heap.size w w' := by
  have hmf : ∀ (fn : Fn) (first cap : Array Value) (w : World), (Instr.makeFunc fn first cap).run Try.prog w = .ok (.func fn first cap) w := fun _ _ _ _ => rfl
  have HC := hide (fun W q k k2 => contains_named L nm D d m q W hm hl k k2)
  have HT := hide (((stay_brs hD).alloc (.cells #[strV nm] 9)).and (stay_blk (Blk.new w 9 #[strV nm])) |>.and (stay_below ((Below.refl _ w).alloc (Nat.le_refl _) (.cells #[strV nm] 9))))
  obtain ⟨V, hV⟩ : ∃ V, nmIn L nm = V := ⟨_, rfl⟩
  rw [hV] at HC ⊢
  clear hV hD hm hl
  go_enter Try.func29, Try.ntmps29
  go_wp2_with (go_at_call 49; go_must (refine (HC.out _ w.heap.size HT.out.now.1.1 (HT.out.now.1.2.cell 0)).mono ?_; rintro e w1 ⟨rfl, hb⟩; replace HT := hide (HT.out.step hb); clear hb; simp only []))
  go_ret
  exact ⟨rfl, HT.out.now.2⟩
end Go.Proofs.Ytppkibgemacdbaa
