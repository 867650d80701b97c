/- The same text has the same digest, that of the document. -/
import Derived.Test.YtaobnbmpeplefaaQx6
namespace Go.Proofs.Ytaobnbmpeplefaa.Pure
open Go.RowKit Go.Proofs.Ytaobnbmpeplefaa Go.Proofs.Ytaobnbmpeplefaa.Q Go.Proofs.YtaobnbmpeplefaaW.PrintWords Go.Proofs.YtaobnbmpeplefaaW.PrintLast
theorem DigestApart : sluicegatelaw03_DigestApart.Pure := by
  intro a b h0 h1
  refine ⟨1, ?_⟩
  unfold sluicegatelaw03_DigestApart.f
  by_cases h : (a.size : Int) > 2
  · rw [if_pos h]
    rfl
  · rw [if_neg h]
    by_cases h' : (b.size : Int) > 2
    · rw [decide_eq_true h']
      rfl
    · rw [decide_eq_false h']
      have hs : a.size ≤ 17592186044416 := by omega
      have hs' : b.size ≤ 17592186044416 := by omega
      simp only [sluicegatelaw03_DigestApart.j0, digest_Sum.f, sluicegateref03_Sum.f, if_pos hs, if_pos hs', Option.bind_some, if_true]
      rw [if_neg (by decide)]
      by_cases e : a.toList = b.toList
      · have e' := eq_of_toList e
        subst e'
        rw [if_pos rfl, if_pos rfl]
        rfl
      · rw [if_neg e]
        rfl
end Go.Proofs.Ytaobnbmpeplefaa.Pure
