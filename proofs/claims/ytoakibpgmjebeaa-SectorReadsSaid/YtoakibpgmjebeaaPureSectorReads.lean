/- SectorReads, the plain part: both read the same of any text, and both tell the same of whether it is one's own. -/
import Derived.Test.YtoakibpgmjebeaaQx9
import Derived.Test.YtoakibpgmjebeaaSecMine
namespace Go.Proofs.Ytoakibpgmjebeaa.Pure
open Go.RowKit Go.Proofs.Ytoakibpgmjebeaa.Q Go.Proofs.YtoakibpgmjebeaaW.PrintWords Go.Proofs.YtoakibpgmjebeaaW.PrintLast
theorem SectorReads (s : ByteArray) (V G D : Int) (l : List S23) (ix : Int) {P0 P1 P2 P3 P4 P5 : Prop} (_ : P0) (_ : P1) (_ : P2) (_ : P3) (_ : P4) (_ : P5) : ∃ k, sluicegatelaw07_SectorReads.f k s V G D l ix = some true := by
  refine ⟨2, ?_⟩
  obtain ⟨m, rfl⟩ := exB s
  unfold sluicegatelaw07_SectorReads.f
  by_cases h : ((B m).size : Int) > 300
  · rw [if_pos h]; rfl
  · rw [if_neg h]
    by_cases h2 : (l.length : Int) > 20
    · rw [show decide ((l.length : Int) > 20) = true from decide_eq_true h2]; rfl
    · rw [show decide ((l.length : Int) > 20) = false from decide_eq_false h2]
      rw [B_size] at h
      have hl : m.length ≤ 140737488355328 := by omega
      have hm : ∃ q, sector_Mine.f (B m) V G D l ix = some q ∧ sluicegateref07_Mine.f (B m) V G D l ix = some q := by
        unfold sector_Mine.f sluicegateref07_Mine.f
        by_cases hg : (l.length : Int) = 9 ∧ 0 ≤ ix ∧ ix < 9
        · rw [if_pos hg, if_pos (by rw [B_size]; exact hl)]
          exact ⟨_, rfl, rfl⟩
        · rw [if_neg hg]
          exact ⟨_, rfl, rfl⟩
      obtain ⟨q, m1, m2⟩ := hm
      simp only [sluicegatelaw07_SectorReads.j0]
      rw [if_neg (by decide), sread_f _ hl, rsread_f _ hl, m1, m2]
      generalize secR m = r
      unfold sluicegatelaw07_told.f
      simp only [Option.bind_some, beq_self_eq_true, Bool.and_self, if_true]
      rfl
end Go.Proofs.Ytoakibpgmjebeaa.Pure
