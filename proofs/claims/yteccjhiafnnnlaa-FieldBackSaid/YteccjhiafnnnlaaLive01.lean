/- The examples of law 01: the call answers true. -/
import Derived.Test.YteccjhiafnnnlaaFieldNil
namespace Go.Proofs.Yteccjhiafnnnlaa
open Go.RowKit Go.Proofs.YteccjhiafnnnlaaW.PrintWords
section
variable (g : Nat) (w : World) (hI : IsTab w g)
include hI
theorem ex1 : Calls Try.prog 16 #[.pointer (some ⟨g, 0, none⟩), .int .u8 29] w fun e w' => e = .returned (.tuple #[.int .i64 8, .int .i64 0]) ∧ w = w' := which_calls g 29 w hI (by omega)
theorem ex2 : Calls Try.prog 16 #[.pointer (some ⟨g, 0, none⟩), .int .u8 0] w fun e w' => e = .returned (.tuple #[.int .i64 0, .int .i64 1]) ∧ w = w' := which_calls g 0 w hI (by omega)
theorem ex3 : Calls Try.prog 11 #[.pointer (some ⟨g, 0, none⟩), .int .u8 1, .int .u8 2] w fun e w' => e = .returned (.tuple #[.int .u8 142, .int .i64 0]) ∧ Below w.heap.size w w' := over_calls g 1 2 w hI (by omega) (by omega)
theorem ex4 : Calls Try.prog 11 #[.pointer (some ⟨g, 0, none⟩), .int .u8 5, .int .u8 0] w fun e w' => e = .returned (.tuple #[.int .u8 0, .int .i64 1]) ∧ Below w.heap.size w w' := over_calls g 5 0 w hI (by omega) (by omega)
theorem ex5 : Calls Try.prog 13 #[.pointer (some ⟨g, 0, none⟩), .int .u8 16, .int .u8 16] w fun e w' => e = .returned (.int .u8 29) ∧ Below w.heap.size w w' := times_calls g 16 16 w hI (by omega) (by omega)
theorem ex6 : Calls Try.prog 18 #[.pointer (some ⟨g, 0, none⟩), .int .i64 255] w fun e w' => e = .returned (.int .u8 1) ∧ w = w' := power_calls g 255 w hI
theorem ex7 : Calls Try.prog 18 #[.pointer (some ⟨g, 0, none⟩), .int .i64 (-1)] w fun e w' => e = .returned (.int .u8 142) ∧ w = w' := power_calls g (-1) w hI
end
set_option maxRecDepth 100000 in
set_option maxHeartbeats 400000 in
theorem live_calls (w : World) : Calls Try.prog 15 #[] w fun e w' => e = .returned (.bool true) ∧ Below w.heap.size w w' := by
  go_enter Try.func15, Try.ntmps15
  go_wp2_with fail
  refine (fnew_calls _).mono ?_
  rintro e w1 ⟨g, rfl, I, _, b1⟩
  have I1 := Lib.hid I
  clear I
  go_wp2_with fail
  refine (ex1 g _ I1.out).mono ?_
  rintro e w' ⟨rfl, rfl⟩
  go_wp2_with fail
  refine (ex2 g _ I1.out).mono ?_
  rintro e w' ⟨rfl, rfl⟩
  go_wp2_with fail
  refine (ex3 g _ I1.out).mono ?_
  rintro e w2 ⟨rfl, b2⟩
  have I2 := Lib.hid (I1.out.below b2)
  go_wp2_with fail
  refine (ex4 g _ I2.out).mono ?_
  rintro e w3 ⟨rfl, b3⟩
  have I3 := Lib.hid (I2.out.below b3)
  go_wp2_with fail
  refine (ex5 g _ I3.out).mono ?_
  rintro e w4 ⟨rfl, b4⟩
  have I4 := Lib.hid (I3.out.below b4)
  go_wp2_with fail
  refine (ex6 g _ I4.out).mono ?_
  rintro e w' ⟨rfl, rfl⟩
  go_wp2_with fail
  refine (ex7 g _ I4.out).mono ?_
  rintro e w' ⟨rfl, rfl⟩
  go_wp2_with fail
  go_ret
  exact ⟨rfl, below_then (below_then (below_then b1 b1.size b2) (Nat.le_trans b1.size b2.size) b3) (Nat.le_trans b1.size (Nat.le_trans b2.size b3.size)) b4⟩
end Go.Proofs.Yteccjhiafnnnlaa
