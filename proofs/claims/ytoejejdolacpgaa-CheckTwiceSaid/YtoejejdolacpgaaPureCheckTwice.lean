/- CheckTwice, the plain part: what is sealed twice is opened twice; a sealed text's sum is one number. -/
import Derived.Test.YtoejejdolacpgaaQx3
import Derived.Test.YtoejejdolacpgaaLive04
namespace Go.Proofs.Ytoejejdolacpgaa.Pure
open Go.RowKit Go.Proofs.Ytoejejdolacpgaa.Q Go.Proofs.YtoejejdolacpgaaW.PrintWords Go.Proofs.YtoejejdolacpgaaW.PrintLast
theorem CheckTwice : sluicegatelaw04_CheckTwice.Pure := by
  intro s t hs ht
  obtain ⟨l, rfl⟩ := exB s
  obtain ⟨m, rfl⟩ := exB t
  rw [B_size] at hs ht
  refine ⟨0 + 1, ?_⟩
  have key : l.length ≤ 140737488351232 → m.length ≤ 140737488351232 → sluicegatelaw04_CheckTwice.j0 (0 + 1) (B l) (B m) false = some true := by
    intro _ _
    simp only [sluicegatelaw04_CheckTwice.j0]
    rw [if_neg (by decide), seal_f l (by omega)]
    simp only [Option.bind_some]
    rw [seal_f _ (by rw [sealL_len]; omega)]
    simp only [Option.bind_some]
    rw [open_seal _ (by rw [sealL_len]; omega)]
    simp only [Option.bind_some]
    rw [open_seal _ (by omega)]
    simp only [Option.bind_some, if_true]
    rw [of_f _ (by rw [sealL_len]; omega), seal_f m (by omega)]
    simp only [Option.bind_some]
    rw [of_f _ (by rw [sealL_len]; omega), crc_seal, crc_seal]
    simp only [Option.bind_some, if_true]
    exact live_then
  have kt : sluicegatelaw04_CheckTwice.j0 (0 + 1) (B l) (B m) true = some true := by
    simp only [sluicegatelaw04_CheckTwice.j0]
    rw [if_pos trivial]; exact live_then
  unfold sluicegatelaw04_CheckTwice.f
  by_cases h : ((B l).size : Int) > 1000
  · rw [if_pos h]; exact kt
  · rw [if_neg h]
    cases decide (((B m).size : Int) > 1000) with
    | true => exact kt
    | false => exact key hs ht
end Go.Proofs.Ytoejejdolacpgaa.Pure
