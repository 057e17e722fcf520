import Derived.Test.YtppkibgemacdbaaSbE
import Derived.Lib.LazyBuf
namespace Go.Proofs.Ytppkibgemacdbaa
open Go.RowKit Go.WideShapes Go.ChangeShapes

/-! lists of bearers: copies -/
theorem eql_nil (a : Option Addr) (l c : Nat) (w : World) : (binOp .eql 25 (.slice a l c) (.slice none 0 0)).run Try.prog w = .ok (.bool a.isNone) w := run_eql_slice_nil w _ _ a l c Try.underlying25
theorem ber_info : (Try.prog.info? 32).map (fun i => (i.zero, i.size, i.bytes)) = some (some (.agg #[strV [], .int .i64 0, .int .i64 0, .int .i64 0, .int .i64 0, .int .i64 0, .int .i64 0, .int .i64 0, .int .i64 0]), 9, 80) := by kernel_rfl
theorem Brs.reads {w : World} {A : Option Addr} {L : List Ber} (h : Brs w A L) : Reads w w.heap.size 9 A L.length (bvs L) := by
  refine ⟨bvs_length L, fun hn => ?_⟩
  obtain ⟨b, o, e, hc⟩ := h 0 hn
  refine ⟨⟨b, o, none⟩, e, ?_, fun j u hu => ?_⟩
  · exact lt_of_cell (hc 0 _ rfl)
  · rw [add_lit]
    have hj : j < L.length * 9 := by
      obtain ⟨hj, _⟩ := List.getElem?_eq_some_iff.1 hu
      rw [bvs_length] at hj
      exact hj
    have hk : j / 9 < L.length := by omega
    obtain ⟨b', o', e', hc'⟩ := h (j / 9) hk
    rw [e] at e'
    injection e' with e'
    injection e' with e1 e2
    subst e1 e2
    have hu' : (Ber.cs L[j / 9])[j % 9]? = some u := by rw [← bvs_get L (j / 9) (j % 9) hk (by omega), show j / 9 * 9 + j % 9 = j by omega]; exact hu
    have := hc' (j % 9) u hu'
    rw [show o + j / 9 * 9 + j % 9 = o + j by omega] at this
    exact this
/-- returns a list of bearers of its own -/
def RetB (w : World) (L : List Ber) (m : Nat) (e : Ending) (w' : World) : Prop := ∃ A c, e = .returned (.slice A m c) ∧ w'.ownsRow w.heap.size 32 9 (.slice A m c) m (bvs L) ∧ Below w.heap.size w w'
set_option maxRecDepth 100000 in
theorem copyBers (L : List Ber) (A : Option Addr) (c m : Nat) (w : World) (hm : L.length = m) (hs : Brs w A L) (hl : m ≤ 1000) :
    Calls Try.prog 12 #[.slice A m c] w (RetB w L m) := by
  subst hm
  obtain ⟨i0, hi0, hz0, hz1, hz2⟩ := info_parts ber_info
  have hr := Brs.reads (hs.bel ((Below.refl _ w).alloc (Nat.le_refl _) (.cells #[] 32)))
  have ho := World.ownsRow_made (e := 32) (size := 9) w #[] 0 (Nat.le_refl _) (by simp [maxLen]) rfl
  go_enter Try.func12, Try.ntmps12
  go_wp2_with (at_builtin
               refine wpList_append_any _ rfl (.tmp 3) (.tmp 4) _ rfl w.heap.size 32 i0 _ 9 80 Try.underlying25 hi0 hz0 hz1 hz2 rfl (by omega) _ 0 [] rfl
                 ho _ A L.length c (bvs L) rfl hr (bvs_one L) (by simp only [maxLen]; omega) (by omega) (by simp) ?_
               intro v1 w1 hown1 hg1 hat1)
  go_ret
  simp only [Nat.zero_add, List.nil_append] at hown1
  obtain ⟨A', c', rfl⟩ := own_form hown1
  refine ⟨A', c', rfl, hown1, ((Below.refl _ w).alloc (Nat.le_refl _) _).grown hg1 (by simp) (fun k hk => ?_)⟩
  cases hk
  exact Nat.le_refl _
set_option maxRecDepth 100000 in
theorem cloneBers (L : List Ber) (b o c m : Nat) (w : World) (hm : L.length = m) (hs : Brs w (some ⟨b, o, none⟩) L) (hl : m ≤ 1000) :
    Calls Try.prog 31 #[.slice (some ⟨b, o, none⟩) m c] w (RetB w L m) := by
  subst hm
  obtain ⟨i0, hi0, hz0, hz1, hz2⟩ := info_parts ber_info
  have hr := Brs.reads (hs.bel ((Below.refl _ w).alloc (Nat.le_refl _) (.cells #[] 32)))
  have ho := World.ownsRow_made (e := 32) (size := 9) w #[] 0 (Nat.le_refl _) (by simp [maxLen]) rfl
  have hq := eql_nil
  go_enter Try.func31, Try.ntmps31
  go_wp2_with (at_builtin
               refine wpList_append_any _ rfl (.tmp 5) (.tmp 6) _ rfl w.heap.size 32 i0 _ 9 80 Try.underlying25 hi0 hz0 hz1 hz2 rfl (by omega) _ 0 [] rfl
                 ho _ (some ⟨b, o, none⟩) L.length c (bvs L) rfl hr (bvs_one L) (by simp only [maxLen]; omega) (by omega) (by simp) ?_
               intro v1 w1 hown1 hg1 hat1)
  go_ret
  simp only [Nat.zero_add, List.nil_append] at hown1
  obtain ⟨A', c', rfl⟩ := own_form hown1
  refine ⟨A', c', rfl, hown1, ((Below.refl _ w).alloc (Nat.le_refl _) _).grown hg1 (by simp) (fun k hk => ?_)⟩
  cases hk
  exact Nat.le_refl _
theorem cloneNil (w : World) : Calls Try.prog 31 #[.slice none 0 0] w (RetB w [] 0) := by
  have hq := eql_nil
  go_enter Try.func31, Try.ntmps31
  go_wp2_with fail
  go_ret
  exact ⟨none, 0, rfl, ⟨rfl, .inl ⟨rfl, rfl⟩⟩, Below.refl _ _⟩
/-- a clone of a row of one's own -/
theorem clone_own {base e : Nat} (L : List Ber) (A : Option Addr) (c m : Nat) (w : World) (hm : L.length = m) (ho : w.ownsRow base e 9 (.slice A m c) m (bvs L)) (hl : m ≤ 1000) :
    Calls Try.prog 31 #[.slice A m c] w (RetB w L m) := by
  have hB := Brs.of_own ho hm.symm
  rcases ho.2 with ⟨hv, h0⟩ | ⟨g, cap, cur, hv, _⟩
  · injection hv with h1 h2 h3
    subst h1 h2 h3
    obtain rfl : L = [] := List.length_eq_zero_iff.1 hm
    exact cloneNil w
  · injection hv with h1 h2 h3
    subst h1
    exact cloneBers L g 0 c m w hm hB hl
end Go.Proofs.Ytppkibgemacdbaa
