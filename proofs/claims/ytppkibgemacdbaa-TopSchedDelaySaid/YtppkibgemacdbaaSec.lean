import Derived.Test.YtppkibgemacdbaaSeb
namespace Go.Proofs.Ytppkibgemacdbaa
open Go.RowKit Go.WideShapes Go.ChangeShapes

/-! a slot of the run of one burst -/
def arrT (bu : Int) (t : Nat) : Int := if t = 0 then bu else 0
def wtT (bu bits : Int) (t : Nat) : Int := if t = 0 then 0 else waitsAt bu bits t
theorem wt_arr {bu bits : Int} (hb : 0 ≤ bu) (t : Nat) : wtT bu bits t + arrT bu t = waitsAt bu bits t := by
  unfold wtT arrT
  by_cases h : t = 0
  · subst h; unfold waitsAt; simp; omega
  · simp [h]
theorem wt_bd {bu bits : Int} (h0 : 0 ≤ bu) (hb : 0 ≤ bits) (t : Nat) : 0 ≤ wtT bu bits t ∧ wtT bu bits t ≤ bu := by
  have h := waits_bd h0 hb t
  unfold wtT
  split <;> omega
theorem arr_bd {bu : Int} (h0 : 0 ≤ bu) (t : Nat) : 0 ≤ arrT bu t ∧ arrT bu t ≤ bu := by
  unfold arrT
  split <;> omega
def TurnR (U : Nat) (nm : Bs) (kd pr wt pw le bu ra de ne wa : Int) (w : World) (e : Ending) (w' : World) : Prop :=
  ∃ A c se rt bl, e = .returned (.slice A 1 c) ∧ Blk w' U 97 #[strV nm, .int .i64 kd, .int .i64 pr, .int .i64 wt, .int .i64 pw, .int .i64 le, .int .i64 bu, .int .i64 ra, .int .i64 de, .int .i64 ne, .int .i64 wa, .int .i64 se, .int .i64 rt, .int .i64 bl] ∧ 0 ≤ se ∧ se + wa ≤ bu ∧ w.grownBy w' (some U)
theorem slot_turn (B C P : Int) (ab ao : Nat) (c n : Nat) (T : List Int) (R U V vc : Nat) (nm : Bs) (kd pr wt pw bu ra de : Int) (rb ro r qb qo q kk t : Nat) (se rt bl : Int) (w : World)
    (hn : T.length = n) (hs2 : OkS B C P T) (ho : OkB T nm kd pr wt pw (kk : Int) bu ra de) (hk : kd ≠ 0) (hBN : B = needB ra bu de (tbO T (kk : Int)))
    (hR : Blk w R 93 #[.int .i64 B, .int .i64 C, .int .i64 P, .slice (some ⟨ab, ao, none⟩) n c, .slice (some ⟨V, 0, none⟩) 1 vc]) (hV : w.cell? ⟨V, 0, none⟩ = some (.pointer (some ⟨U, 0, none⟩))) (hU : Blk w U 97 #[strV nm, .int .i64 kd, .int .i64 pr, .int .i64 wt, .int .i64 pw, .int .i64 (kk : Int), .int .i64 bu, .int .i64 ra, .int .i64 de, .int .i64 (needB ra bu de (tbO T (kk : Int))), .int .i64 (wtT bu (needB ra bu de (tbO T (kk : Int)) * tbO T (kk : Int)) t), .int .i64 se, .int .i64 rt, .int .i64 bl]) (hRU : R ≠ U) (hVU : V ≠ U) (habU : ab ≠ U) (hrbU : rb ≠ U) (hqbU : qb ≠ U)
    (hT : w.cell? ⟨ab, ao + kk, none⟩ = some (.int .i64 (tbO T (kk : Int)))) (hr : w.cell? ⟨rb, ro, none⟩ = some (.int .i64 (kk : Int))) (hq : w.cell? ⟨qb, qo, none⟩ = some (.int .i64 (arrT bu t)))
    (hse : 0 ≤ se) (hsw : se + waitsAt bu (needB ra bu de (tbO T (kk : Int)) * tbO T (kk : Int)) t ≤ bu) :
    Calls Try.prog 37 #[.pointer (some ⟨R, 0, none⟩), .agg #[.slice (some ⟨rb, ro, none⟩) 1 r, .slice (some ⟨qb, qo, none⟩) 1 q]] w (TurnR U nm kd pr wt pw (kk : Int) bu ra de (needB ra bu de (tbO T (kk : Int))) (waitsAt bu (needB ra bu de (tbO T (kk : Int)) * tbO T (kk : Int)) (t + 1)) w) := by
  obtain ⟨t0, t1⟩ := tb_ok hs2 ho hk
  obtain ⟨n0, n1⟩ := need_bd hs2 ho hk
  obtain ⟨hle, hbu, hra, hde, -⟩ := ho.sure hk
  have hpw := ho.pw_
  have hb := hs2.b
  have hc := hs2.c
  have hp := hs2.p
  have hbits : 0 ≤ needB ra bu de (tbO T (kk : Int)) * tbO T (kk : Int) := Int.mul_nonneg (by omega) (by omega)
  have h1 := wt_bd (bu := bu) (by omega) hbits t
  have h2 := arr_bd (bu := bu) (by omega) t
  have h3 := wt_arr (bu := bu) (bits := needB ra bu de (tbO T (kk : Int)) * tbO T (kk : Int)) (by omega) t
  have h4 := waits_bd (bu := bu) (by omega) hbits t
  have h5 := waits_succ (bu := bu) hbits t
  have h6 := sends (w := waitsAt bu (needB ra bu de (tbO T (kk : Int)) * tbO T (kk : Int)) t) t0 h4.1 (show 0 ≤ needB ra bu de (tbO T (kk : Int)) by omega)
  have h7 := ceil_mul (n := waitsAt bu (needB ra bu de (tbO T (kk : Int)) * tbO T (kk : Int)) t) t0
  have hcase : B - blN (needB ra bu de (tbO T (kk : Int))) (wtT bu (needB ra bu de (tbO T (kk : Int)) * tbO T (kk : Int)) t + arrT bu t) (tbO T (kk : Int)) = 0 ∨ B - blN (needB ra bu de (tbO T (kk : Int))) (wtT bu (needB ra bu de (tbO T (kk : Int)) * tbO T (kk : Int)) t + arrT bu t) (tbO T (kk : Int)) ≠ 0 ∧ wtT bu (needB ra bu de (tbO T (kk : Int)) * tbO T (kk : Int)) t + arrT bu t ≤ blN (needB ra bu de (tbO T (kk : Int))) (wtT bu (needB ra bu de (tbO T (kk : Int)) * tbO T (kk : Int)) t + arrT bu t) (tbO T (kk : Int)) * tbO T (kk : Int) := by
    rw [h3]
    unfold blN
    rcases Int.le_total (needB ra bu de (tbO T (kk : Int))) (ceilI (waitsAt bu (needB ra bu de (tbO T (kk : Int)) * tbO T (kk : Int)) t) (tbO T (kk : Int))) with h | h
    · left; omega
    · by_cases h' : B - min (needB ra bu de (tbO T (kk : Int))) (ceilI (waitsAt bu (needB ra bu de (tbO T (kk : Int)) * tbO T (kk : Int)) t) (tbO T (kk : Int))) = 0
      · exact .inl h'
      · refine .inr ⟨h', ?_⟩
        rw [show min (needB ra bu de (tbO T (kk : Int))) (ceilI (waitsAt bu (needB ra bu de (tbO T (kk : Int)) * tbO T (kk : Int)) t) (tbO T (kk : Int))) = ceilI (waitsAt bu (needB ra bu de (tbO T (kk : Int)) * tbO T (kk : Int)) t) (tbO T (kk : Int)) by omega]
        exact h7
  have hmain := slot_one B C P ab ao c n R U V vc nm kd pr wt pw (kk : Int) bu ra de (needB ra bu de (tbO T (kk : Int))) (wtT bu (needB ra bu de (tbO T (kk : Int)) * tbO T (kk : Int)) t) se rt bl rb ro r qb qo q kk (arrT bu t) (tbO T (kk : Int)) w
    hR hV hU hRU hVU habU hrbU hqbU (by omega) hT hr hq hk ⟨t0, t1⟩ (by omega) (by omega) (by omega) (by omega) (by omega) (by omega) (by omega) (by omega) hcase
  rw [h3] at hmain
  refine hmain.mono ?_
  rintro e w' ⟨A', c', rfl, hU', hg⟩
  have h8 : sentN (needB ra bu de (tbO T (kk : Int))) (waitsAt bu (needB ra bu de (tbO T (kk : Int)) * tbO T (kk : Int)) t) (tbO T (kk : Int)) = min (waitsAt bu (needB ra bu de (tbO T (kk : Int)) * tbO T (kk : Int)) t) (needB ra bu de (tbO T (kk : Int)) * tbO T (kk : Int)) := h6
  rw [h8, h5] at hU'
  exact ⟨A', c', _, _, _, rfl, hU', by omega, by omega, hg⟩
end Go.Proofs.Ytppkibgemacdbaa
