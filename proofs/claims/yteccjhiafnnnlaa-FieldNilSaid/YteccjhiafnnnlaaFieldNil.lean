/- The package field where there is no table; the calls that the examples make. -/
import Derived.Test.YteccjhiafnnnlaaField
namespace Go.Proofs.Yteccjhiafnnnlaa
open Go.RowKit Go.Proofs.YteccjhiafnnnlaaW.PrintWords
set_option maxRecDepth 100000 in
theorem power_nil (n : Int) (w : World) : Calls Try.prog 18 #[.pointer none, .int .i64 n] w fun e w' => e = .returned (.int .u8 0) ∧ w = w' := by
  go_enter Try.func18, Try.ntmps18
  go_wp2
  go_ret
  exact ⟨rfl, rfl⟩
set_option maxRecDepth 100000 in
theorem times_nil (a b : Int) (w : World) : Calls Try.prog 13 #[.pointer none, .int .u8 a, .int .u8 b] w fun e w' => e = .returned (.int .u8 0) ∧ w = w' := by
  go_enter Try.func13, Try.ntmps13
  go_wp2
  go_ret
  exact ⟨rfl, rfl⟩
set_option maxRecDepth 100000 in
theorem which_nil (a : Int) (w : World) : Calls Try.prog 16 #[.pointer none, .int .u8 a] w fun e w' => e = .returned (.tuple #[.int .i64 0, .int .i64 1]) ∧ w = w' := by
  go_enter Try.func16, Try.ntmps16
  go_wp2
  go_ret2
  exact ⟨rfl, rfl⟩
set_option maxRecDepth 100000 in
theorem over_nil (a b : Int) (w : World) : Calls Try.prog 11 #[.pointer none, .int .u8 a, .int .u8 b] w fun e w' => e = .returned (.tuple #[.int .u8 0, .int .i64 1]) ∧ w = w' := by
  go_enter Try.func11, Try.ntmps11
  go_wp2
  go_ret2
  exact ⟨rfl, rfl⟩
end Go.Proofs.Yteccjhiafnnnlaa
