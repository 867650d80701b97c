/- The laws of the field, walked over the contracts; what the calls answer is the same. -/
import Derived.Test.YteccjhiafnnnlaaFieldRef
import Derived.Test.YteccjhiafnnnlaaLive01
namespace Go.Proofs.Yteccjhiafnnnlaa
open Go.RowKit Q Go.Proofs.YteccjhiafnnnlaaW.PrintWords Go.Proofs.YteccjhiafnnnlaaW.PrintLast Go.Proofs.YteccjhiafnnnlaaW.PrintMore
theorem bits_xor8 (a b : Nat) (ha : a ≤ 255) (hb : b ≤ 255) : Go.bits .xor .u8 (a : Int) (b : Int) = ((a ^^^ b : Nat) : Int) := by
  have hx : a ^^^ b < 2 ^ 8 := Nat.xor_lt_two_pow (by omega) (by omega)
  show IntKind.u8.wrap ((BitVec.ofInt 8 (a : Int) ^^^ BitVec.ofInt 8 (b : Int)).toNat : Int) = _
  rw [BitVec.ofInt_natCast, BitVec.ofInt_natCast, BitVec.toNat_xor, BitVec.toNat_ofNat, BitVec.toNat_ofNat, Nat.mod_eq_of_lt (a := a) (by omega), Nat.mod_eq_of_lt (a := b) (by omega)]
  simp [IntKind.wrap, IntKind.bits, IntKind.signed]; omega
theorem byte_nat {a : Int} (h : (Lit.int .u8 a).wf = true) : ∃ n : Nat, a = n ∧ n ≤ 255 := by
  simp [Lit.wf, IntKind.min, IntKind.max, IntKind.signed, IntKind.bits] at h
  exact ⟨a.toNat, by omega, by omega⟩
theorem times_is (g a b r : Nat) (w : World) (hI : IsTab w g) (ha : a ≤ 255) (hb : b ≤ 255) (hr : tim a b = r) : Calls Try.prog 13 #[.pointer (some ⟨g, 0, none⟩), .int .u8 (a : Int), .int .u8 (b : Int)] w fun e w' => e = .returned (.int .u8 (r : Int)) ∧ IsTab w' g ∧ Below w.heap.size w w' := by
  refine (times_calls g a b w hI ha hb).mono ?_
  rintro e w' ⟨rfl, hb⟩
  exact ⟨by rw [hr], hI.below hb, hb⟩
theorem over_is (g a b : Nat) (x f : Int) (w : World) (hI : IsTab w g) (ha : a ≤ 255) (hb : b ≤ 255) (hx : (if b = 0 then 0 else (ovr a b : Int)) = x) (hf : (if b = 0 then 1 else 0) = f) : Calls Try.prog 11 #[.pointer (some ⟨g, 0, none⟩), .int .u8 (a : Int), .int .u8 (b : Int)] w fun e w' => e = .returned (.tuple #[.int .u8 x, .int .i64 f]) ∧ IsTab w' g ∧ Below w.heap.size w w' := by
  refine (over_calls g a b w hI ha hb).mono ?_
  rintro e w' ⟨rfl, hb⟩
  exact ⟨by rw [hx, hf], hI.below hb, hb⟩
theorem over_as (a b : Nat) (ha : a ≤ 255) (hb : b ≤ 255) : ∃ x f : Int, (if b = 0 then 0 else (ovr a b : Int)) = x ∧ (if b = 0 then 1 else 0) = f ∧ sluicegateref01_Over.f 300 (a : Int) (b : Int) = some (x, f) := by
  refine ⟨_, _, rfl, rfl, ?_⟩
  rw [rover_f a b 300 ha hb (by omega)]
  by_cases h : b = 0
  · simp [h]
  · simp [h]
theorem which_as (a : Nat) (ha : a ≤ 255) : ∃ x f : Int, (wh a : Int) = x ∧ (if a = 0 then 1 else 0) = f ∧ sluicegateref01_Which.f 600 (a : Int) = some (x, f) := by
  refine ⟨_, _, rfl, rfl, ?_⟩
  rw [rwhich_f a 600 ha (by omega)]
  by_cases h : a = 0
  · simp [h, wh_zero]
  · simp [h]
theorem which_is (g a : Nat) (x f : Int) (w : World) (hI : IsTab w g) (ha : a ≤ 255) (hx : (wh a : Int) = x) (hf : (if a = 0 then 1 else 0) = f) : Calls Try.prog 16 #[.pointer (some ⟨g, 0, none⟩), .int .u8 (a : Int)] w fun e w' => e = .returned (.tuple #[.int .i64 x, .int .i64 f]) ∧ w = w' := by
  refine (which_calls g a w hI ha).mono ?_
  rintro e w' ⟨rfl, rfl⟩
  exact ⟨by rw [hx, hf], rfl⟩
theorem power_is (g : Nat) (n : Int) (r : Nat) (w : World) (hI : IsTab w g) (hr : pw (ix n).toNat = r) : Calls Try.prog 18 #[.pointer (some ⟨g, 0, none⟩), .int .i64 n] w fun e w' => e = .returned (.int .u8 (r : Int)) ∧ w = w' := by
  refine (power_calls g n w hI).mono ?_
  rintro e w' ⟨rfl, rfl⟩
  exact ⟨by rw [hr], rfl⟩
theorem below2 {w w1 w2 : World} (a : Below w.heap.size w w1) (b : Below w1.heap.size w1 w2) : Below w.heap.size w w2 := below_then a a.size b
set_option maxRecDepth 100000 in
set_option maxHeartbeats 400000 in
theorem fieldTimes_walk (a0 : Int) (a1 : Int) (w : World) (hq0 : (Lit.int .u8 a0).wf = true) (hq1 : (Lit.int .u8 a1).wf = true) : Calls Try.prog 3 #[.int .u8 a0, .int .u8 a1] w fun e w' => e = .returned (.bool true) ∧ Below w.heap.size w w' := by
  obtain ⟨a, rfl, ha⟩ := byte_nat hq0
  obtain ⟨b, rfl, hb⟩ := byte_nat hq1
  obtain ⟨x, f, hx, hf, hr⟩ := over_as a b ha hb
  have HX := Lib.hid hx
  have HF := Lib.hid hf
  have HR := Lib.hid hr
  have HA := Lib.hid ha
  have HB := Lib.hid hb
  clear hq0 hq1 hx hf hr ha hb
  go_enter Try.func3, Try.ntmps3
  go_wp2_with fail
  refine (fnew_calls _).mono ?_
  rintro e w1 ⟨g, rfl, I, _, b1⟩
  have I1 := Lib.hid I
  clear I
  go_wp2_with fail
  refine (over_is g a b x f _ I1.out HA.out HB.out HX.out HF.out).mono ?_
  rintro e w2 ⟨rfl, I2, b2⟩
  replace I2 := Lib.hid I2
  go_wp2_with fail
  refine (sluicegateref01_Over.calls 300 _ _ _ _ _ HR.out).mono ?_
  rintro e w3 ⟨rfl, d3⟩
  have b3 := d3.below
  have I3 := Lib.hid (I2.out.below b3)
  clear d3
  go_wp2_with fail
  refine (times_is g a b _ _ I3.out HA.out HB.out rfl).mono ?_
  rintro e w4 ⟨rfl, I4, b4⟩
  go_wp2_with fail
  refine (sluicegateref01_Times.calls 17 _ _ _ _ (rtimes_f a b 17 HA.out HB.out (by omega))).mono ?_
  rintro e w5 ⟨rfl, d5⟩
  have b5 := d5.below
  clear d5
  go_wp2_with fail
  refine (live_calls _).mono ?_
  rintro e w6 ⟨rfl, b6⟩
  go_wp2_with fail
  go_ret
  exact ⟨rfl, below2 (below2 (below2 (below2 (below2 b1 b2) b3) b4) b5) b6⟩
set_option maxRecDepth 100000 in
set_option maxHeartbeats 400000 in
theorem fieldPowers_walk (a0 : Int) (a1 : Int) (w : World) (_hq0 : (Lit.int .i64 a0).wf = true) (hq1 : (Lit.int .u8 a1).wf = true) : Calls Try.prog 4 #[.int .i64 a0, .int .u8 a1] w fun e w' => e = .returned (.bool true) ∧ Below w.heap.size w w' := by
  obtain ⟨a, rfl, ha⟩ := byte_nat hq1
  obtain ⟨x, f, hx, hf, hr⟩ := which_as a ha
  have HX := Lib.hid hx
  have HF := Lib.hid hf
  have HR := Lib.hid hr
  have HA := Lib.hid ha
  clear _hq0 hq1 hx hf hr ha
  go_enter Try.func4, Try.ntmps4
  go_wp2_with fail
  refine (fnew_calls _).mono ?_
  rintro e w1 ⟨g, rfl, I, _, b1⟩
  have I1 := Lib.hid I
  clear I
  go_wp2_with fail
  refine (which_is g a x f _ I1.out HA.out HX.out HF.out).mono ?_
  rintro e w' ⟨rfl, rfl⟩
  go_wp2_with fail
  refine (sluicegateref01_Which.calls 600 _ _ _ _ HR.out).mono ?_
  rintro e w2 ⟨rfl, d2⟩
  have b2 := d2.below
  have I2 := Lib.hid (I1.out.below b2)
  clear d2
  go_wp2_with fail
  refine (power_is g a0 _ _ I2.out rfl).mono ?_
  rintro e w' ⟨rfl, rfl⟩
  go_wp2_with fail
  refine (sluicegateref01_Power.calls 280 _ _ _ (rpower_f a0 280 (by omega))).mono ?_
  rintro e w3 ⟨rfl, d3⟩
  have b3 := d3.below
  have I3 := Lib.hid (I2.out.below b3)
  clear d3
  go_wp2_with fail
  refine (live_calls _).mono ?_
  rintro e w4 ⟨rfl, b4⟩
  go_wp2_with fail
  go_ret
  exact ⟨rfl, below2 (below2 (below2 b1 b2) b3) b4⟩
set_option maxRecDepth 100000 in
set_option maxHeartbeats 400000 in
theorem fieldRules_walk (a0 : Int) (a1 : Int) (a2 : Int) (w : World) (hq0 : (Lit.int .u8 a0).wf = true) (hq1 : (Lit.int .u8 a1).wf = true) (hq2 : (Lit.int .u8 a2).wf = true) : Calls Try.prog 5 #[.int .u8 a0, .int .u8 a1, .int .u8 a2] w fun e w' => e = .returned (.bool true) ∧ Below w.heap.size w w' := by
  obtain ⟨a, rfl, ha⟩ := byte_nat hq0
  obtain ⟨b, rfl, hb⟩ := byte_nat hq1
  obtain ⟨c, rfl, hc⟩ := byte_nat hq2
  have hbc : b ^^^ c ≤ 255 := by
    have : b ^^^ c < 2 ^ 8 := Nat.xor_lt_two_pow (by omega) (by omega)
    omega
  have hx := bits_xor8 b c hb hc
  have hy := bits_xor8 (tim a b) (tim a c) (tim_le _ _) (tim_le _ _)
  rw [← tim_xor a b c ha hb hc] at hy
  have H1 := Lib.hid (tim_comm b a)
  have H2 := Lib.hid (tim_assoc a b c ha hb hc)
  have H3 := Lib.hid (tim_one a ha)
  have HX := Lib.hid hx
  have HY := Lib.hid hy
  have HA := Lib.hid ha
  have HB := Lib.hid hb
  have HC := Lib.hid hc
  have HBC := Lib.hid hbc
  have HL := Lib.hid tim_le
  clear hq0 hq1 hq2 hx ha hb hc hbc
  go_enter Try.func5, Try.ntmps5
  go_wp2_with fail
  refine (fnew_calls _).mono ?_
  rintro e w1 ⟨g, rfl, I, _, b1⟩
  have I1 := Lib.hid I
  clear I
  go_wp2_with fail
  refine (times_is g a b _ _ I1.out HA.out HB.out rfl).mono ?_
  rintro e w2 ⟨rfl, I2, b2⟩
  replace I2 := Lib.hid I2
  go_wp2_with fail
  refine (times_is g b a _ _ I2.out HB.out HA.out H1.out).mono ?_
  rintro e w3 ⟨rfl, I3, b3⟩
  replace I3 := Lib.hid I3
  go_wp2_with fail
  refine (times_is g a b _ _ I3.out HA.out HB.out rfl).mono ?_
  rintro e w4 ⟨rfl, I4, b4⟩
  replace I4 := Lib.hid I4
  go_wp2_with fail
  refine (times_is g (tim a b) c _ _ I4.out (HL.out _ _) HC.out H2.out).mono ?_
  rintro e w5 ⟨rfl, I5, b5⟩
  replace I5 := Lib.hid I5
  go_wp2_with fail
  refine (times_is g b c _ _ I5.out HB.out HC.out rfl).mono ?_
  rintro e w6 ⟨rfl, I6, b6⟩
  replace I6 := Lib.hid I6
  go_wp2_with fail
  refine (times_is g a (tim b c) _ _ I6.out HA.out (HL.out _ _) rfl).mono ?_
  rintro e w7 ⟨rfl, I7, b7⟩
  replace I7 := Lib.hid I7
  go_wp2_with fail
  rw [HX.out]
  refine (times_is g a (b ^^^ c) _ _ I7.out HA.out HBC.out rfl).mono ?_
  rintro e w8 ⟨rfl, I8, b8⟩
  replace I8 := Lib.hid I8
  go_wp2_with fail
  refine (times_is g a b _ _ I8.out HA.out HB.out rfl).mono ?_
  rintro e w9 ⟨rfl, I9, b9⟩
  replace I9 := Lib.hid I9
  go_wp2_with fail
  refine (times_is g a c _ _ I9.out HA.out HC.out rfl).mono ?_
  rintro e w10 ⟨rfl, I10, b10⟩
  replace I10 := Lib.hid I10
  go_wp2_with fail
  refine (times_is g a 1 _ _ I10.out HA.out (by omega) H3.out).mono ?_
  rintro e w11 ⟨rfl, I11, b11⟩
  replace I11 := Lib.hid I11
  go_wp2_with fail
  refine (live_calls _).mono ?_
  rintro e w12 ⟨rfl, b12⟩
  go_wp2_with fail
  go_ret
  exact ⟨rfl, below2 (below2 (below2 (below2 (below2 (below2 (below2 (below2 (below2 (below2 (below2 b1 b2) b3) b4) b5) b6) b7) b8) b9) b10) b11) b12⟩
set_option maxRecDepth 100000 in
set_option maxHeartbeats 400000 in
theorem fieldBack_walk (a0 : Int) (a1 : Int) (w : World) (hq0 : (Lit.int .u8 a0).wf = true) (hq1 : (Lit.int .u8 a1).wf = true) : Calls Try.prog 6 #[.int .u8 a0, .int .u8 a1] w fun e w' => e = .returned (.bool true) ∧ Below w.heap.size w w' := by
  obtain ⟨a, rfl, ha⟩ := byte_nat hq0
  obtain ⟨b, rfl, hb⟩ := byte_nat hq1
  have HA := Lib.hid ha
  have HB := Lib.hid hb
  have HL := Lib.hid tim_le
  by_cases h0 : b = 0
  · subst h0
    clear hq0 hq1 ha hb
    go_enter Try.func6, Try.ntmps6
    go_wp2_with fail
    refine (fnew_calls _).mono ?_
    rintro e w1 ⟨g, rfl, I, _, b1⟩
    have I1 := Lib.hid I
    clear I
    go_wp2_with fail
    refine (times_is g a 0 _ _ I1.out HA.out HB.out rfl).mono ?_
    rintro e w2 ⟨rfl, I2, b2⟩
    replace I2 := Lib.hid I2
    go_wp2_with fail
    refine (over_is g (tim a 0) 0 0 1 _ I2.out (HL.out _ _) HB.out rfl rfl).mono ?_
    rintro e w3 ⟨rfl, I3, b3⟩
    replace I3 := Lib.hid I3
    go_wp2_with fail
    refine (live_calls _).mono ?_
    rintro e w4 ⟨rfl, b4⟩
    go_wp2_with fail
    go_ret
    exact ⟨rfl, below2 (below2 (below2 b1 b2) b3) b4⟩
  · have HO := Lib.hid (show (if b = 0 then 0 else (ovr (tim a b) b : Int)) = (a : Int) by rw [if_neg h0, ovr_tim a b ha (by omega) hb])
    have HF := Lib.hid (show (if b = 0 then (1 : Int) else 0) = 0 by rw [if_neg h0])
    have hb' : ((b : Int) == 0) = false := by rw [beq_eq_false_iff_ne]; omega
    clear hq0 hq1 ha hb h0
    go_enter Try.func6, Try.ntmps6
    go_wp2_with fail
    refine (fnew_calls _).mono ?_
    rintro e w1 ⟨g, rfl, I, _, b1⟩
    have I1 := Lib.hid I
    clear I
    go_wp2_with fail
    refine (times_is g a b _ _ I1.out HA.out HB.out rfl).mono ?_
    rintro e w2 ⟨rfl, I2, b2⟩
    replace I2 := Lib.hid I2
    go_wp2_with fail
    refine (over_is g (tim a b) b _ _ _ I2.out (HL.out _ _) HB.out HO.out HF.out).mono ?_
    rintro e w3 ⟨rfl, I3, b3⟩
    replace I3 := Lib.hid I3
    go_wp2_with fail
    refine (live_calls _).mono ?_
    rintro e w4 ⟨rfl, b4⟩
    go_wp2_with fail
    go_ret
    exact ⟨rfl, below2 (below2 (below2 b1 b2) b3) b4⟩
set_option maxRecDepth 100000 in
set_option maxHeartbeats 400000 in
theorem fieldAdds_walk (a0 : Int) (a1 : Int) (w : World) (hq0 : (Lit.int .u8 a0).wf = true) (hq1 : (Lit.int .u8 a1).wf = true) : Calls Try.prog 7 #[.int .u8 a0, .int .u8 a1] w fun e w' => e = .returned (.bool true) ∧ Below w.heap.size w w' := by
  obtain ⟨a, rfl, ha⟩ := byte_nat hq0
  obtain ⟨b, rfl, hb⟩ := byte_nat hq1
  have HA := Lib.hid ha
  have HB := Lib.hid hb
  by_cases h0 : a = 0
  · subst h0
    have HT := Lib.hid (tim_zero_left b)
    have HW := Lib.hid (show (wh 0 : Int) = 0 by rw [wh_zero]; rfl)
    by_cases h1 : b = 0
    · subst h1
      clear hq0 hq1 ha hb
      go_enter Try.func7, Try.ntmps7
      go_wp2_with fail
      refine (fnew_calls _).mono ?_
      rintro e w1 ⟨g, rfl, I, _, b1⟩
      have I1 := Lib.hid I
      clear I
      go_wp2_with fail
      refine (which_is g 0 _ 1 _ I1.out HA.out HW.out rfl).mono ?_
      rintro e w' ⟨rfl, rfl⟩
      go_wp2_with fail
      refine (which_is g 0 _ 1 _ I1.out HB.out HW.out rfl).mono ?_
      rintro e w' ⟨rfl, rfl⟩
      go_wp2_with fail
      refine (times_is g 0 0 _ _ I1.out HA.out HB.out HT.out).mono ?_
      rintro e w2 ⟨rfl, I2, b2⟩
      replace I2 := Lib.hid I2
      go_wp2_with fail
      refine (live_calls _).mono ?_
      rintro e w3 ⟨rfl, b3⟩
      go_wp2_with fail
      go_ret
      exact ⟨rfl, below2 (below2 b1 b2) b3⟩
    · have hb2 := hb
      have hb' : ((b : Int) == 0) = false := by rw [beq_eq_false_iff_ne]; omega
      have FB := Lib.hid (show (if b = 0 then (1 : Int) else 0) = 0 by rw [if_neg h1])
      clear hq0 hq1 ha hb hb2 h1
      go_enter Try.func7, Try.ntmps7
      go_wp2_with fail
      refine (fnew_calls _).mono ?_
      rintro e w1 ⟨g, rfl, I, _, b1⟩
      have I1 := Lib.hid I
      clear I
      go_wp2_with fail
      refine (which_is g 0 _ 1 _ I1.out HA.out HW.out rfl).mono ?_
      rintro e w' ⟨rfl, rfl⟩
      go_wp2_with fail
      refine (which_is g b _ 0 _ I1.out HB.out rfl FB.out).mono ?_
      rintro e w' ⟨rfl, rfl⟩
      go_wp2_with fail
      refine (times_is g 0 b _ _ I1.out HA.out HB.out HT.out).mono ?_
      rintro e w2 ⟨rfl, I2, b2⟩
      replace I2 := Lib.hid I2
      go_wp2_with fail
      refine (live_calls _).mono ?_
      rintro e w3 ⟨rfl, b3⟩
      go_wp2_with fail
      go_ret
      exact ⟨rfl, below2 (below2 b1 b2) b3⟩
  · have hw := wh_lt (a := a) (by omega) ha
    by_cases h1 : b = 0
    · subst h1
      have HT := Lib.hid (tim_zero_right a)
      have HW := Lib.hid (show (wh 0 : Int) = 0 by rw [wh_zero]; rfl)
      have ha' : ((a : Int) == 0) = false := by rw [beq_eq_false_iff_ne]; omega
      have FA := Lib.hid (show (if a = 0 then (1 : Int) else 0) = 0 by rw [if_neg h0])
      clear hq0 hq1 ha hb h0 hw
      go_enter Try.func7, Try.ntmps7
      go_wp2_with fail
      refine (fnew_calls _).mono ?_
      rintro e w1 ⟨g, rfl, I, _, b1⟩
      have I1 := Lib.hid I
      clear I
      go_wp2_with fail
      refine (which_is g a _ 0 _ I1.out HA.out rfl FA.out).mono ?_
      rintro e w' ⟨rfl, rfl⟩
      go_wp2_with fail
      refine (which_is g 0 _ 1 _ I1.out HB.out HW.out rfl).mono ?_
      rintro e w' ⟨rfl, rfl⟩
      go_wp2_with fail
      refine (times_is g a 0 _ _ I1.out HA.out HB.out HT.out).mono ?_
      rintro e w2 ⟨rfl, I2, b2⟩
      replace I2 := Lib.hid I2
      go_wp2_with fail
      refine (live_calls _).mono ?_
      rintro e w3 ⟨rfl, b3⟩
      go_wp2_with fail
      go_ret
      exact ⟨rfl, below2 (below2 b1 b2) b3⟩
    · have hv := wh_lt (a := b) (by omega) hb
      have HP := Lib.hid (show pw (ix (wh a : Int)).toNat = a by
        have e : (ix (wh a : Int)).toNat = wh a := by unfold ix; omega
        rw [e, pw_wh (by omega) ha])
      have HT := Lib.hid (show tim a b = pw (ix ((wh a : Int) + (wh b : Int))).toNat by
        have e : (ix ((wh a : Int) + (wh b : Int))).toNat = (wh a + wh b) % 255 := by unfold ix; omega
        rw [e]; unfold tim; rw [if_neg (by omega)])
      have i4 : IntKind.i64.wrap ((wh a : Int) + (wh b : Int)) = (wh a : Int) + (wh b : Int) := IntWalk.i64_in _ (by omega)
      have ha' : ((a : Int) == 0) = false := by rw [beq_eq_false_iff_ne]; omega
      have FA := Lib.hid (show (if a = 0 then (1 : Int) else 0) = 0 by rw [if_neg h0])
      have hb' : ((b : Int) == 0) = false := by rw [beq_eq_false_iff_ne]; omega
      have FB := Lib.hid (show (if b = 0 then (1 : Int) else 0) = 0 by rw [if_neg h1])
      clear hq0 hq1 ha hb h0 h1
      go_enter Try.func7, Try.ntmps7
      go_wp2_with fail
      refine (fnew_calls _).mono ?_
      rintro e w1 ⟨g, rfl, I, _, b1⟩
      have I1 := Lib.hid I
      clear I
      go_wp2_with fail
      refine (which_is g a _ _ _ I1.out HA.out rfl FA.out).mono ?_
      rintro e w' ⟨rfl, rfl⟩
      go_wp2_with fail
      refine (which_is g b _ _ _ I1.out HB.out rfl FB.out).mono ?_
      rintro e w' ⟨rfl, rfl⟩
      go_wp2_with fail
      refine (power_is g _ _ _ I1.out HP.out).mono ?_
      rintro e w' ⟨rfl, rfl⟩
      go_wp2_with fail
      refine (power_is g _ _ _ I1.out rfl).mono ?_
      rintro e w' ⟨rfl, rfl⟩
      go_wp2_with fail
      refine (times_is g a b _ _ I1.out HA.out HB.out HT.out).mono ?_
      rintro e w2 ⟨rfl, I2, b2⟩
      replace I2 := Lib.hid I2
      go_wp2_with fail
      refine (live_calls _).mono ?_
      rintro e w3 ⟨rfl, b3⟩
      go_wp2_with fail
      go_ret
      exact ⟨rfl, below2 (below2 b1 b2) b3⟩
set_option maxRecDepth 100000 in
set_option maxHeartbeats 400000 in
theorem fieldNil_walk (a0 : Int) (a1 : Int) (a2 : Int) (w : World) (_hq0 : (Lit.int .u8 a0).wf = true) (_hq1 : (Lit.int .u8 a1).wf = true) (_hq2 : (Lit.int .i64 a2).wf = true) : Calls Try.prog 8 #[.int .u8 a0, .int .u8 a1, .int .i64 a2] w fun e w' => e = .returned (.bool true) ∧ Below w.heap.size w w' := by
  clear _hq0 _hq1 _hq2
  go_enter Try.func8, Try.ntmps8
  go_wp2_with fail
  refine (which_nil a0 _).mono ?_
  rintro e w' ⟨rfl, rfl⟩
  go_wp2_with fail
  refine (over_nil a0 a1 _).mono ?_
  rintro e w' ⟨rfl, rfl⟩
  go_wp2_with fail
  refine (power_nil a2 _).mono ?_
  rintro e w' ⟨rfl, rfl⟩
  go_wp2_with fail
  refine (times_nil a0 a1 _).mono ?_
  rintro e w' ⟨rfl, rfl⟩
  go_wp2_with fail
  refine (live_calls _).mono ?_
  rintro e w1 ⟨rfl, b1⟩
  go_wp2_with fail
  go_ret
  exact ⟨rfl, b1⟩
end Go.Proofs.Yteccjhiafnnnlaa
