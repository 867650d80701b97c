/- PackBack, the plain part: what is written is read, whatever stands behind it. -/
import Derived.Test.YtamjiofhfoedgaaQx5
import Derived.Test.YtamjiofhfoedgaaPackFn
namespace Go.Proofs.Ytamjiofhfoedgaa.Pure
open Go.RowKit Go.Proofs.Ytamjiofhfoedgaa.Q Go.Proofs.YtamjiofhfoedgaaW.PrintWords Go.Proofs.YtamjiofhfoedgaaW.PrintLast
theorem live_then : (sluicegatelaw05_live.f).bind (fun t => some t) = some true := rfl
theorem PackBack : sluicegatelaw05_PackBack.Pure := by
  intro n s m _ hs hm
  obtain ⟨a, rfl⟩ := exB s
  obtain ⟨b, rfl⟩ := exB m
  rw [B_size] at hs hm
  have kt : sluicegatelaw05_PackBack.j0 (30 + 1) n (B a) (B b) true = some true := by
    simp only [sluicegatelaw05_PackBack.j0]
    rw [if_pos trivial]; exact live_then
  refine ⟨30 + 1, ?_⟩
  unfold sluicegatelaw05_PackBack.f
  by_cases h0 : n < 0
  · rw [if_pos h0]; exact kt
  rw [if_neg h0]
  by_cases h1 : n > 72057594037927935
  · rw [if_pos h1]; exact kt
  rw [if_neg h1]
  by_cases h2 : ((B a).size : Int) > 1000
  · rw [if_pos h2]; exact kt
  rw [if_neg h2]
  cases h3 : decide (((B b).size : Int) > 1000) with
  | true => exact kt
  | false =>
    have h3 : ¬ ((B b).size : Int) > 1000 := by simpa using h3
    rw [B_size] at h2 h3
    obtain ⟨n, rfl⟩ := Int.eq_ofNat_of_zero_le (a := n) (by omega)
    have hn : n < 2 ^ 56 := by omega
    have h8 := enc_len8 hn
    have h8' := enc_len8 (m := a.length) (by omega)
    have ht : (txt a).length = (enc a.length).length + a.length := by unfold txt; rw [List.length_append]
    simp only [sluicegatelaw05_PackBack.j0]
    rw [if_neg (by decide), number_f n _ hn (by omega), text_f a _ (by omega) (by omega)]
    simp only [Option.bind_some]
    rw [if_pos (by rw [B_size, B_size]; omega), B_append, if_pos (by rw [B_size, B_size, List.length_append]; omega), B_append]
    simp only [pack_Read.f, Option.bind_some]
    rw [rnum_f _ _ (by rw [List.length_append, List.length_append]; omega) (by omega), List.append_assoc, tk_zero n _ hn]
    simp only [Option.bind_some]
    rw [rtext_f _ _ (by rw [List.length_append]; omega) (by omega), tkT_txt a b (by omega)]
    simp only [Option.bind_some, pack_Reader_Rest.f, pack_Reader_works.f]
    rw [if_pos (by decide)]
    simp only [Option.bind_some]
    rw [if_pos trivial, if_pos trivial, if_pos trivial]
    have e : pack_Reader_End.f (⟨#[]⟩ : ByteArray) 0 = some (0, ⟨#[]⟩, 0) := rd4
    rw [e]
    simp only [Option.bind_some]
    rw [if_pos trivial]; exact live_then
end Go.Proofs.Ytamjiofhfoedgaa.Pure
