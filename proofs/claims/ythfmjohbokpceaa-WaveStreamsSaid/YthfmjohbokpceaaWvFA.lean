import Derived.Test.YthfmjohbokpceaaArr
import Derived.Test.YthfmjohbokpceaaWvED
import Derived.Test.YthfmjohbokpceaaListG
namespace Go.Proofs.Ythfmjohbokpceaa
open Go.RowKit Go.WideShapes Go.ChangeShapes

/-! lists of symbols (eight whole complex numbers each): cells, copies, errors -/
def svs (l : List (List (Int × Int))) : List Value := gv l.flatten
theorem svs_cons (s : List (Int × Int)) (r : List (List (Int × Int))) : svs (s :: r) = gv s ++ svs r := by simp [svs, gv_append]
theorem svs_len : ∀ (l : List (List (Int × Int))), (∀ s ∈ l, s.length = 8) → (svs l).length = l.length * 16
  | [], _ => rfl
  | s :: r, h => by
    rw [svs_cons, List.length_append, gv_len, h s (by simp), svs_len r fun s hs => h s (by simp [hs]), List.length_cons]; omega
theorem svs_at : ∀ (l : List (List (Int × Int))), (∀ s ∈ l, s.length = 8) → ∀ (k : Nat) (hk : k < l.length) (j : Nat) (u : Value), (gv l[k])[j]? = some u → (svs l)[k * 16 + j]? = some u
  | s :: r, h, 0, _, j, u, hu => by
    have hu' : (gv s)[j]? = some u := hu
    have hj := (List.getElem?_eq_some_iff.1 hu').1
    rw [svs_cons, Nat.zero_mul, Nat.zero_add, List.getElem?_append_left hj]
    exact hu'
  | s :: r, h, k + 1, hk, j, u, hu => by
    have h8 : (gv s).length = 16 := by rw [gv_len, h s (by simp)]
    rw [svs_cons, List.getElem?_append_right (by omega), show (k + 1) * 16 + j - (gv s).length = k * 16 + j by omega]
    exact svs_at r (fun s hs => h s (by simp [hs])) k (by simpa using hk) j u (by simpa using hu)
theorem Sl.at16 {w : World} {A : Option Addr} {l : List (List (Int × Int))} (hs : Sl w A (svs l)) (h8 : ∀ s ∈ l, s.length = 8) {k : Nat} (hk : k < l.length) :
    ∃ b off, A = some ⟨b, off, none⟩ ∧ Sl w (some ⟨b, off + k * 16, none⟩) (gv l[k]) := by
  have hl := svs_len l h8
  obtain ⟨b, off, e, _⟩ := hs (k * 16) (by omega)
  refine ⟨b, off, e, fun j hj => ⟨b, off + k * 16, rfl, ?_⟩⟩
  have := hs.one e (svs_at l h8 k hk j _ (List.getElem?_eq_getElem hj))
  rw [Nat.add_assoc]
  exact this
theorem Sl.reads16 {w : World} {A : Option Addr} {l : List (List (Int × Int))} (h : Sl w A (svs l)) (h8 : ∀ s ∈ l, s.length = 8) : Reads w w.heap.size 16 A l.length (svs l) := by
  have hl := svs_len l h8
  refine ⟨hl, fun hn => ?_⟩
  obtain ⟨b, off, e, hc⟩ := h 0 (by omega)
  refine ⟨⟨b, off, none⟩, e, lt_of_cell hc, fun j u hu => ?_⟩
  rw [add_lit]
  exact h.one e hu
theorem ga8_info : (Try.prog.info? 137).map (fun i => (i.zero, i.size, i.bytes)) = some (some (.agg #[.int .i64 0, .int .i64 0, .int .i64 0, .int .i64 0, .int .i64 0, .int .i64 0, .int .i64 0, .int .i64 0, .int .i64 0, .int .i64 0, .int .i64 0, .int .i64 0, .int .i64 0, .int .i64 0, .int .i64 0, .int .i64 0]), 16, 128) := by kernel_rfl
set_option maxRecDepth 100000 in
theorem copySym (A : Option Addr) (c : Nat) (l : List (List (Int × Int))) (w : World) (h8 : ∀ s ∈ l, s.length = 8) (hs : Sl w A (svs l)) (hl : l.length ≤ 1000000) :
    Calls Try.prog 79 #[.slice A l.length c] w fun e w' => ∃ A' c', e = .returned (.slice A' l.length c') ∧ w'.ownsRow w.heap.size 137 16 (.slice A' l.length c') l.length (svs l) ∧ Below w.heap.size w w' := by
  obtain ⟨i0, hi0, hz0, hz1, hz2⟩ := info_parts ga8_info
  have hr := Sl.reads16 (hs.alloc (.cells #[] 137)) h8
  have ho := World.ownsRow_made (e := 137) (size := 16) w #[] 0 (Nat.le_refl _) (by simp [maxLen]) rfl
  obtain ⟨Z, hZ⟩ : ∃ Z, svs l = Z := ⟨_, rfl⟩
  have hone : Z.all (·.oneCell') = true := by rw [← hZ, List.all_eq_true]; exact gv_one _
  rw [hZ] at hr ⊢
  clear hZ hs h8
  go_enter Try.func79, Try.ntmps79
  go_wp2_with (at_builtin
               refine wpList_append_any _ rfl (.tmp 3) (.tmp 4) _ rfl w.heap.size 137 i0 _ 16 128 Try.underlying120 hi0 hz0 hz1 hz2 rfl (by omega) _ 0 [] rfl
                 ho _ A l.length c Z rfl hr (by simpa using hone) (by simp only [maxLen]; omega) (by omega) (by simp) ?_
               intro v1 w1 hown1 hg1 hat1)
  go_ret
  simp only [Nat.zero_add, List.nil_append] at hown1
  obtain ⟨A', c', rfl⟩ := own_form hown1
  refine ⟨A', c', rfl, hown1, ((Below.refl _ w).alloc (Nat.le_refl _) _).grown hg1 (by simp) (fun k hk => ?_)⟩
  cases hk
  exact Nat.le_refl _
set_option maxRecDepth 100000 in
set_option maxHeartbeats 1000000 in
theorem each_sym (K : FuncId) (f : List (Int × Int) → Int) (A : Option Addr) (c : Nat) (l : List (List (Int × Int))) (w : World) (h8 : ∀ s ∈ l, s.length = 8)
    (hK : ∀ args W, (callFunc K args).run Try.prog W = .ok (.enter K args) W)
    (hp : ∀ (z : List (Int × Int)) W, z.length = 8 → Calls Try.prog K #[.agg (gv z).toArray] W fun e w' => e = .returned (.int .i64 (f z)) ∧ Below W.heap.size W w')
    (hs : Sl w A (svs l)) (hl : l.length ≤ 1000000) :
    Calls Try.prog 155 #[.slice A l.length c, .func (.func K) #[] #[]] w fun x w' => x = .returned (.int .i64 (eachE f l)) ∧ Below w.heap.size w w' := by
  have HP := hide hp
  have HS := hide hs
  have H8 := hide h8
  clear hs hp h8
  go_enter Try.func155, Try.ntmps155
  go_wp2
  go_loopw [10] (fun i wr => ∃ k : Nat, k ≤ l.length ∧ i = .int .i64 k ∧ eachE f l = eachE f (l.drop k) ∧ Below w.heap.size w wr) (fun i _ => l.length - (intOf i).toNat)
  case atStart => exact ⟨0, Nat.zero_le _, rfl, by simp, Below.refl _ _⟩
  case round =>
    obtain ⟨k, hk, rfl, he, hbel⟩ := hrel
    have HE := hide he
    clear he
    by_cases hlt : k < l.length
    · obtain ⟨b, off, rfl, hsl⟩ := (HS.out.bel hbel).at16 H8.out hlt
      have hz8 := H8.out l[k] (List.getElem_mem hlt)
      have HP2 := hide (fun W => HP.out l[k] W hz8)
      have hskip := eachE_skip f l k hlt
      have hhit := eachE_hit f l k hlt
      obtain ⟨v, hv⟩ : ∃ v, f l[k] = v := ⟨_, rfl⟩
      obtain ⟨Z, hZ⟩ : ∃ Z, gv l[k] = Z := ⟨_, rfl⟩
      rw [hv] at HP2 hskip hhit
      rw [hZ] at HP2 hsl
      have HLZ := hide (show Z.length = 16 by rw [← hZ, gv_len, hz8])
      have HON := hide (show Z.toArray.all (·.oneCell') = true by rw [← hZ, ← garr_full _ 8 hz8]; exact garr_one _ _)
      have HC := hide hsl.cells
      have HSK := hide hskip
      have HHI := hide hhit
      clear hZ hv hz8 hsl hskip hhit
      have hbz := hbel.size
      by_cases h0 : v = 0
      all_goals
        first
          | (have hx : (v != 0) = true := by rw [bne_iff_ne]; exact h0
             have HH := hide (HHI.out h0))
          | (subst h0
             have HH := hide (HSK.out rfl))
        clear HSK HHI
        go_wp2_with (first
          | (refine wpList_load_sl 137 (.tmp 12) rfl (by rfl) ⟨b, off + k * 16, none⟩ rfl Z _ HC.out Try.underlying137 rfl (by rw [HLZ.out]; kernel_rfl) ?_)
          | (refine wpList_store_row rfl 137 (.tmp 6) (.tmp 13) rfl wr.heap.size Z.toArray rfl rfl 137 (garr [] 8) (Blk.new wr _ _) (by rw [List.size_toArray, HLZ.out]; kernel_rfl) (by show _ = Z.length; rw [HLZ.out]; rfl) HON.out ?_; have HB := hide ((Blk.new wr 137 (garr [] 8)).row Z.toArray))
          | (refine wpList_load_row rfl 137 (.tmp 6) rfl wr.heap.size rfl 137 Z.toArray (0, 0) _ HB.out Try.underlying137 rfl (by rw [List.size_toArray, HLZ.out]; kernel_rfl) ?_))
        refine (HP2.out _).mono ?_
        rintro e w1 ⟨rfl, hb1⟩
        have b1 : Below w.heap.size w w1 := Below.step (Below.row (hbel.alloc (by omega) _) (by omega) _) hb1
        clear hb1
        simp only []
        go_wp2
        first
          | (go_roundw
             case rel => exact ⟨k + 1, by omega, by go_num, by rw [HE.out, HH.out], b1⟩
             case measure => simp [intOf]; omega)
          | (go_ret
             exact ⟨by rw [HE.out, HH.out]; rfl, b1⟩)
    · go_wp2
      go_ret
      exact ⟨by rw [HE.out, List.drop_eq_nil_of_le (by omega)]; rfl, hbel⟩
end Go.Proofs.Ythfmjohbokpceaa
