/- SectorWrites, the plain part: a header is written as the document writes it. -/
import Derived.Test.YtoakibpgmjebeaaQx10
import Derived.Test.YtoakibpgmjebeaaRefSecRead
namespace Go.Proofs.Ytoakibpgmjebeaa.Pure
open Go.RowKit Go.Proofs.Ytoakibpgmjebeaa.Q Go.Proofs.YtoakibpgmjebeaaW.PrintWords Go.Proofs.YtoakibpgmjebeaaW.PrintLast
theorem SectorWrites (v g i d s : Int) (t : ByteArray) {P0 P1 P2 P3 P4 P5 : Prop} (_ : P0) (_ : P1) (_ : P2) (_ : P3) (_ : P4) (_ : P5) : sluicegatelaw07_SectorWrites.f v g i d s t = some true := by
  unfold sluicegatelaw07_SectorWrites.f
  by_cases h : (t.size : Int) > 200
  · rw [if_pos h]; rfl
  · rw [if_neg h]
    unfold sluicegatelaw07_own.f sector_Write.f sluicegateref07_Write.f
    simp only [Option.bind_some, if_true]
    rfl
end Go.Proofs.Ytoakibpgmjebeaa.Pure
