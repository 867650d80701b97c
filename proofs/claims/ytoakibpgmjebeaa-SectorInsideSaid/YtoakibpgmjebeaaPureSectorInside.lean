/- SectorInside, the plain part: a sealed text is read as the document reads it; it has the form or has none. -/
import Derived.Test.YtoakibpgmjebeaaQx13
import Derived.Test.YtoakibpgmjebeaaRefSecRead
namespace Go.Proofs.Ytoakibpgmjebeaa.Pure
open Go.RowKit Go.Proofs.Ytoakibpgmjebeaa.Q Go.Proofs.YtoakibpgmjebeaaW.PrintWords Go.Proofs.YtoakibpgmjebeaaW.PrintLast
theorem SectorInside : sluicegatelaw07_SectorInside.Pure := by
  intro s hs
  obtain ⟨l, rfl⟩ := exB s
  rw [B_size] at hs
  unfold sluicegatelaw07_SectorInside.f
  by_cases h : ((B l).size : Int) > 200
  · rw [if_pos h]; rfl
  · rw [if_neg h, rseal_f l (by omega)]
    rw [B_size] at h
    have hl : (sealL l).length ≤ 140737488355328 := by rw [sealL_len]; omega
    have hE := secR_sealed l
    simp only [Option.bind_some, sread_f _ hl, rsread_f _ hl]
    generalize secR (sealL l) = r at hE ⊢
    unfold sluicegatelaw07_told.f
    simp only [Option.bind_some, beq_self_eq_true, Bool.and_self, if_true]
    rcases hE with h | h
    · rw [if_pos h]; rfl
    · rw [h]; rfl
end Go.Proofs.Ytoakibpgmjebeaa.Pure
