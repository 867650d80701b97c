/- A text's digest, and its digits, are those of the document. -/
import Derived.Test.YtaobnbmpeplefaaQx6
namespace Go.Proofs.Ytaobnbmpeplefaa.Pure
open Go.RowKit Go.Proofs.Ytaobnbmpeplefaa Go.Proofs.Ytaobnbmpeplefaa.Q Go.Proofs.YtaobnbmpeplefaaW.PrintWords Go.Proofs.YtaobnbmpeplefaaW.PrintLast
theorem DigestSums : sluicegatelaw03_DigestSums.Pure := by
  intro a h0
  unfold sluicegatelaw03_DigestSums.f
  by_cases h : (a.size : Int) > 600
  · rw [if_pos h]
    rfl
  · rw [if_neg h]
    have hs : a.size ≤ 17592186044416 := by omega
    unfold digest_Sum.f sluicegateref03_Sum.f digest_Hex.f sluicegateref03_Hex.f
    simp only [if_pos hs, Option.bind_some, if_true]
    rfl
end Go.Proofs.Ytaobnbmpeplefaa.Pure
