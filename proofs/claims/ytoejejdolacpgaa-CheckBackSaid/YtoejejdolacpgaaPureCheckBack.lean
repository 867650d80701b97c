/- CheckBack, the plain part: what is sealed is opened; without its end it is none that has that text. -/
import Derived.Test.YtoejejdolacpgaaQx2
import Derived.Test.YtoejejdolacpgaaLive04
namespace Go.Proofs.Ytoejejdolacpgaa.Pure
open Go.RowKit Go.Proofs.Ytoejejdolacpgaa.Q Go.Proofs.YtoejejdolacpgaaW.PrintWords Go.Proofs.YtoejejdolacpgaaW.PrintLast
theorem CheckBack : sluicegatelaw04_CheckBack.Pure := by
  intro s n hs _
  obtain ⟨l, rfl⟩ := exB s
  rw [B_size] at hs
  refine ⟨0 + 1 + 1, ?_⟩
  unfold sluicegatelaw04_CheckBack.f
  by_cases h : ((B l).size : Int) > 2000
  · rw [if_pos h]; exact live_then
  · rw [if_neg h]
    rw [B_size] at h
    rw [seal_f l (by omega)]
    simp only [Option.bind_some]
    rw [open_seal l (by omega)]
    simp only [Option.bind_some, if_true]
    have e : ((((B (sealL l)).size : Int) != wrap64 (((B l).size : Int) + 4))) = false := by
      rw [B_size, B_size, sealL_len]
      have : wrap64 ((l.length : Int) + 4) = (l.length : Int) + 4 := by unfold wrap64; omega
      rw [this]
      simp
    rw [e]
    simp only [sluicegatelaw04_CheckBack.j0]
    rw [if_neg (by decide)]
    by_cases h0 : n < 0
    · rw [if_pos h0]
      simp only [sluicegatelaw04_CheckBack.j1]
      rw [if_pos trivial]; exact live_then
    · rw [if_neg h0]
      simp only [sluicegatelaw04_CheckBack.j1]
      by_cases h1 : n ≥ ((B (sealL l)).size : Int)
      · rw [if_pos (decide_eq_true h1)]; exact live_then
      · rw [if_neg (by simpa using h1), if_pos (by omega), if_pos (by omega)]
        rw [B_size, sealL_len] at h1
        rw [B_extract, List.drop_zero, Nat.sub_zero]
        have hl : (List.take n.toNat (sealL l)).length = n.toNat := by rw [List.length_take, sealL_len]; omega
        rw [open_f _ (by rw [hl]; omega)]
        simp only [Option.bind_some]
        rcases openL_cases (List.take n.toNat (sealL l)) with ⟨_, e⟩ | ⟨_, _, e⟩ | ⟨u, hu, e⟩
        · rw [e, if_neg (by show ¬ ((3 : Int) = 0); omega)]; exact live_then
        · rw [e, if_neg (by show ¬ ((5 : Int) = 0); omega)]; exact live_then
        · rw [e, if_pos rfl, if_neg]
          · exact live_then
          · show ¬ ((B u).toList = (B l).toList)
            rw [B_toList, B_toList]
            rintro rfl
            have := congrArg List.length hu
            rw [hl, sealL_len] at this
            omega
end Go.Proofs.Ytoejejdolacpgaa.Pure
