/- (sector.Header).right: its walk. -/
import Derived.Test.YtoakibpgmjebeaaProg
import Derived.WalkKit
import Derived.WalkSpells
import Derived.WalkLawsBesides
import Derived.Lib.Hide
import Derived.Outline
import Derived.Below
namespace Go.Proofs.Ytoakibpgmjebeaa
open Go.RowKit
/-- May a header be? -/
def chk (v g i d s : Int) (n : Nat) : Int :=
  if 0 ≤ v ∧ v ≤ 1099511627776 ∧ 0 ≤ g ∧ g ≤ 1099511627776 ∧ 0 ≤ i ∧ i ≤ 8 ∧ 0 ≤ d ∧ d ≤ 11 ∧ 0 ≤ s ∧ s ≤ 47 then (if n ≤ 64 then 0 else 12) else 1
set_option maxRecDepth 100000 in
theorem in_t (n m : Int) (w : World) (h : 0 ≤ n ∧ n ≤ m) : Calls Try.prog 38 #[.int .i64 n, .int .i64 m] w fun e w' => e = .returned (.bool true) ∧ w = w' := by
  obtain ⟨h0, h1⟩ := h
  go_enter Try.func38, Try.ntmps38
  go_wp2
  go_ret
  exact ⟨rfl, rfl⟩
set_option maxRecDepth 100000 in
theorem in_f (n m : Int) (w : World) (h : n < 0 ∨ m < n) : Calls Try.prog 38 #[.int .i64 n, .int .i64 m] w fun e w' => e = .returned (.bool false) ∧ w = w' := by
  rcases (by omega : n < 0 ∨ 0 ≤ n) with h1 | h1
  · go_enter Try.func38, Try.ntmps38
    go_wp2
    go_ret
    exact ⟨rfl, rfl⟩
  · have h2 : ¬ n ≤ m := by omega
    have h3 : decide (n ≤ m) = false := by simp [h2]
    clear h
    go_enter Try.func38, Try.ntmps38
    go_wp2
    go_ret
    exact ⟨rfl, rfl⟩
theorem ret_i (k : IntKind) {a b : Int} (h : a = b) : Ending.returned (.int k a) = .returned (.int k b) := by rw [h]
set_option maxRecDepth 100000 in
set_option maxHeartbeats 1000000 in
theorem right_calls (v g i d s : Int) (t : ByteArray) (w : World) : Calls Try.prog 20 #[.agg #[.int .i64 v, .int .i64 g, .int .i64 i, .int .i64 d, .int .i64 s, .string t]] w fun e w' => e = .returned (.int .i64 (chk v g i d s t.size)) ∧ Below w.heap.size w w' := by
  have hu25 := Try.underlying30
  have hu23 := Try.underlying23
  have hb : Below w.heap.size w (w.alloc (.cells #[.int .i64 v, .int .i64 g, .int .i64 i, .int .i64 d, .int .i64 s, .string t] 30)) := (Below.refl _ _).alloc (Nat.le_refl _) _
  have HB := Lib.hid hb
  clear hb
  have hcases : (v < 0 ∨ 1099511627776 < v) ∨ ((0 ≤ v ∧ v ≤ 1099511627776) ∧ (g < 0 ∨ 1099511627776 < g)) ∨ ((0 ≤ v ∧ v ≤ 1099511627776) ∧ (0 ≤ g ∧ g ≤ 1099511627776) ∧ (i < 0 ∨ 8 < i)) ∨ ((0 ≤ v ∧ v ≤ 1099511627776) ∧ (0 ≤ g ∧ g ≤ 1099511627776) ∧ (0 ≤ i ∧ i ≤ 8) ∧ (d < 0 ∨ 11 < d)) ∨ ((0 ≤ v ∧ v ≤ 1099511627776) ∧ (0 ≤ g ∧ g ≤ 1099511627776) ∧ (0 ≤ i ∧ i ≤ 8) ∧ (0 ≤ d ∧ d ≤ 11) ∧ (s < 0 ∨ 47 < s)) ∨ ((0 ≤ v ∧ v ≤ 1099511627776) ∧ (0 ≤ g ∧ g ≤ 1099511627776) ∧ (0 ≤ i ∧ i ≤ 8) ∧ (0 ≤ d ∧ d ≤ 11) ∧ (0 ≤ s ∧ s ≤ 47)) := by omega
  rcases hcases with h1 | ⟨h1, h2⟩ | ⟨h1, h2, h3⟩ | ⟨h1, h2, h3, h4⟩ | ⟨h1, h2, h3, h4, h5⟩ | ⟨h1, h2, h3, h4, h5⟩
  · have hc : chk v g i d s t.size = 1 := if_neg (by omega)
    have H1 := Lib.hid h1
    clear h1
    go_enter Try.func20, Try.ntmps20
    go_wp2_with fail
    refine (in_f _ _ _ H1.out).mono ?_
    rintro e w1 ⟨rfl, rfl⟩
    go_wp2_with fail
    go_ret
    exact ⟨ret_i _ hc.symm, HB.out⟩
  · have hc : chk v g i d s t.size = 1 := if_neg (by omega)
    have H1 := Lib.hid h1
    have H2 := Lib.hid h2
    clear h1 h2
    go_enter Try.func20, Try.ntmps20
    go_wp2_with fail
    refine (in_t _ _ _ H1.out).mono ?_
    rintro e w1 ⟨rfl, rfl⟩
    go_wp2_with fail
    refine (in_f _ _ _ H2.out).mono ?_
    rintro e w1 ⟨rfl, rfl⟩
    go_wp2_with fail
    go_ret
    exact ⟨ret_i _ hc.symm, HB.out⟩
  · have hc : chk v g i d s t.size = 1 := if_neg (by omega)
    have H1 := Lib.hid h1
    have H2 := Lib.hid h2
    have H3 := Lib.hid h3
    clear h1 h2 h3
    go_enter Try.func20, Try.ntmps20
    go_wp2_with fail
    refine (in_t _ _ _ H1.out).mono ?_
    rintro e w1 ⟨rfl, rfl⟩
    go_wp2_with fail
    refine (in_t _ _ _ H2.out).mono ?_
    rintro e w1 ⟨rfl, rfl⟩
    go_wp2_with fail
    refine (in_f _ _ _ H3.out).mono ?_
    rintro e w1 ⟨rfl, rfl⟩
    go_wp2_with fail
    go_ret
    exact ⟨ret_i _ hc.symm, HB.out⟩
  · have hc : chk v g i d s t.size = 1 := if_neg (by omega)
    have H1 := Lib.hid h1
    have H2 := Lib.hid h2
    have H3 := Lib.hid h3
    have H4 := Lib.hid h4
    clear h1 h2 h3 h4
    go_enter Try.func20, Try.ntmps20
    go_wp2_with fail
    refine (in_t _ _ _ H1.out).mono ?_
    rintro e w1 ⟨rfl, rfl⟩
    go_wp2_with fail
    refine (in_t _ _ _ H2.out).mono ?_
    rintro e w1 ⟨rfl, rfl⟩
    go_wp2_with fail
    refine (in_t _ _ _ H3.out).mono ?_
    rintro e w1 ⟨rfl, rfl⟩
    go_wp2_with fail
    refine (in_f _ _ _ H4.out).mono ?_
    rintro e w1 ⟨rfl, rfl⟩
    go_wp2_with fail
    go_ret
    exact ⟨ret_i _ hc.symm, HB.out⟩
  · have hc : chk v g i d s t.size = 1 := if_neg (by omega)
    have H1 := Lib.hid h1
    have H2 := Lib.hid h2
    have H3 := Lib.hid h3
    have H4 := Lib.hid h4
    have H5 := Lib.hid h5
    clear h1 h2 h3 h4 h5
    go_enter Try.func20, Try.ntmps20
    go_wp2_with fail
    refine (in_t _ _ _ H1.out).mono ?_
    rintro e w1 ⟨rfl, rfl⟩
    go_wp2_with fail
    refine (in_t _ _ _ H2.out).mono ?_
    rintro e w1 ⟨rfl, rfl⟩
    go_wp2_with fail
    refine (in_t _ _ _ H3.out).mono ?_
    rintro e w1 ⟨rfl, rfl⟩
    go_wp2_with fail
    refine (in_t _ _ _ H4.out).mono ?_
    rintro e w1 ⟨rfl, rfl⟩
    go_wp2_with fail
    refine (in_f _ _ _ H5.out).mono ?_
    rintro e w1 ⟨rfl, rfl⟩
    go_wp2_with fail
    go_ret
    exact ⟨ret_i _ hc.symm, HB.out⟩
  · have hc : chk v g i d s t.size = if t.size ≤ 64 then 0 else 12 := if_pos (by omega)
    have H1 := Lib.hid h1
    have H2 := Lib.hid h2
    have H3 := Lib.hid h3
    have H4 := Lib.hid h4
    have H5 := Lib.hid h5
    clear h1 h2 h3 h4 h5
    by_cases h : t.size ≤ 64
    · rw [if_pos h] at hc
      have hc := Lib.hid hc
      go_enter Try.func20, Try.ntmps20
      go_wp2_with fail
      refine (in_t _ _ _ H1.out).mono ?_
      rintro e w1 ⟨rfl, rfl⟩
      go_wp2_with fail
      refine (in_t _ _ _ H2.out).mono ?_
      rintro e w1 ⟨rfl, rfl⟩
      go_wp2_with fail
      refine (in_t _ _ _ H3.out).mono ?_
      rintro e w1 ⟨rfl, rfl⟩
      go_wp2_with fail
      refine (in_t _ _ _ H4.out).mono ?_
      rintro e w1 ⟨rfl, rfl⟩
      go_wp2_with fail
      refine (in_t _ _ _ H5.out).mono ?_
      rintro e w1 ⟨rfl, rfl⟩
      go_wp2_with fail
      go_ret
      exact ⟨ret_i _ hc.out.symm, HB.out⟩
    · rw [if_neg h] at hc
      have hc := Lib.hid hc
      go_enter Try.func20, Try.ntmps20
      go_wp2_with fail
      refine (in_t _ _ _ H1.out).mono ?_
      rintro e w1 ⟨rfl, rfl⟩
      go_wp2_with fail
      refine (in_t _ _ _ H2.out).mono ?_
      rintro e w1 ⟨rfl, rfl⟩
      go_wp2_with fail
      refine (in_t _ _ _ H3.out).mono ?_
      rintro e w1 ⟨rfl, rfl⟩
      go_wp2_with fail
      refine (in_t _ _ _ H4.out).mono ?_
      rintro e w1 ⟨rfl, rfl⟩
      go_wp2_with fail
      refine (in_t _ _ _ H5.out).mono ?_
      rintro e w1 ⟨rfl, rfl⟩
      go_wp2_with fail
      go_ret
      exact ⟨ret_i _ hc.out.symm, HB.out⟩
/-- right, in the form in which its callers take it. -/
def sector_Header_right.f (a0_0 a0_1 a0_2 a0_3 a0_4 : Int) (a0_5 : ByteArray) : Option Int := some (chk a0_0 a0_1 a0_2 a0_3 a0_4 a0_5.size)
theorem sector_Header_right.calls (a0_0 a0_1 a0_2 a0_3 a0_4 : Int) (a0_5 : ByteArray) (r : Int) (w : World) (h : sector_Header_right.f a0_0 a0_1 a0_2 a0_3 a0_4 a0_5 = some r) :
    Calls Try.prog 20 #[.agg #[.int .i64 a0_0, .int .i64 a0_1, .int .i64 a0_2, .int .i64 a0_3, .int .i64 a0_4, .string a0_5]] w fun e w' => e = .returned (.int .i64 r) ∧ Below w.heap.size w w' := by
  obtain rfl := Option.some.inj h
  exact right_calls _ _ _ _ _ _ w
end Go.Proofs.Ytoakibpgmjebeaa
