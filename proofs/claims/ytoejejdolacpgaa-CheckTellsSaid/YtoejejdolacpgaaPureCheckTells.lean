/- CheckTells, the plain part: the program's sum, seal and text of a sealed one are the document's, of any text up to 2000 bytes. -/
import Derived.Test.YtoejejdolacpgaaQx1
import Derived.Test.YtoejejdolacpgaaLive04
namespace Go.Proofs.Ytoejejdolacpgaa.Pure
open Go.RowKit Go.Proofs.Ytoejejdolacpgaa.Q Go.Proofs.YtoejejdolacpgaaW.PrintWords Go.Proofs.YtoejejdolacpgaaW.PrintLast
theorem CheckTells : sluicegatelaw04_CheckTells.Pure := by
  intro s hs
  obtain ⟨l, rfl⟩ := exB s
  rw [B_size] at hs
  unfold sluicegatelaw04_CheckTells.f
  by_cases h : ((B l).size : Int) > 2000
  · rw [if_pos h]; exact live_then
  · rw [if_neg h, open_f l (by omega), ropen_f l (by omega), of_f l (by omega), rof_f l (by omega), seal_f l (by omega), rseal_f l (by omega)]
    simp only [Option.bind_some, if_true]
    exact live_then
end Go.Proofs.Ytoejejdolacpgaa.Pure
