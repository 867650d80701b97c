/- CheckEnds, the plain part: behind the same begin unlike ends of four bytes have unlike sums. -/
import Derived.Test.YtoejejdolacpgaaQx2
import Derived.Test.YtoejejdolacpgaaLive04
namespace Go.Proofs.Ytoejejdolacpgaa.Pure
open Go.RowKit Go.Proofs.Ytoejejdolacpgaa.Q Go.Proofs.YtoejejdolacpgaaW.PrintWords Go.Proofs.YtoejejdolacpgaaW.PrintLast
theorem wf_u32 {a : Int} (h : (Lit.int .u32 a).wf = true) : 0 ≤ a ∧ a ≤ 4294967295 := by
  simp [Lit.wf, IntKind.min, IntKind.max, IntKind.signed, IntKind.bits] at h
  omega
theorem CheckEnds : sluicegatelaw04_CheckEnds.Pure := by
  intro s a b hs ha hb
  obtain ⟨l, rfl⟩ := exB s
  rw [B_size] at hs
  have ha := wf_u32 ha
  have hb := wf_u32 hb
  unfold sluicegatelaw04_CheckEnds.f
  by_cases h : ((B l).size : Int) > 1000
  · rw [if_pos h]; exact live_then
  · rw [if_neg h]
    simp only [Option.bind_some]
    rw [nums4 a ha.1 ha.2, nums4 b hb.1 hb.2, if_pos (by rw [B_size, B_size, w4_len]; omega), if_pos (by rw [B_size, B_size, w4_len]; omega), B_append, B_append,
      of_f _ (by rw [List.length_append, w4_len]; omega), of_f _ (by rw [List.length_append, w4_len]; omega)]
    simp only [Option.bind_some]
    rw [if_pos]
    · exact live_then
    · rw [beq_iff_eq, Bool.eq_iff_iff, beq_iff_eq, beq_iff_eq]
      constructor
      · intro e
        have e1 : crc (l ++ w4 (BitVec.ofNat 32 a.toNat)) = crc (l ++ w4 (BitVec.ofNat 32 b.toNat)) := BitVec.eq_of_toNat_eq (by omega)
        unfold crc at e1
        have e2 := BitVec.not_inj.mp e1
        rw [reg_append, reg_append, reg_w4, reg_w4] at e2
        have e3 := Sn_inj 32 e2
        have e4 := congrArg (fun z => reg 4294967295#32 l ^^^ z) e3
        simp only [← BitVec.xor_assoc, BitVec.xor_self, BitVec.zero_xor] at e4
        have e5 := congrArg BitVec.toNat e4
        rw [BitVec.toNat_ofNat, BitVec.toNat_ofNat] at e5
        omega
      · rintro rfl; rfl
end Go.Proofs.Ytoejejdolacpgaa.Pure
