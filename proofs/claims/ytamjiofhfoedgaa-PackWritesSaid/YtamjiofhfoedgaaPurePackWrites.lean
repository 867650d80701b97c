/- PackWrites, the plain part: any number's bytes, and any text's up to 1000 bytes, are the document's. -/
import Derived.Test.YtamjiofhfoedgaaQx3
import Derived.Test.YtamjiofhfoedgaaPackFn
namespace Go.Proofs.Ytamjiofhfoedgaa.Pure
open Go.RowKit Go.Proofs.Ytamjiofhfoedgaa.Q Go.Proofs.YtamjiofhfoedgaaW.PrintWords Go.Proofs.YtamjiofhfoedgaaW.PrintLast
theorem rnumber_loop (j : Nat) : ∀ (n k : Nat), n < 2 ^ 56 → n < 128 ^ (j + 1) → 2 * j + 2 ≤ k → sluicegateref05_Number.f k (n : Int) = some (B (enc n)) := by
  induction j with
  | zero =>
    intro n k h56 hn hk
    obtain ⟨k, rfl⟩ : ∃ m, k = m + 1 + 1 := ⟨k - 2, by omega⟩
    simp only [sluicegateref05_Number.f, sluicegateref05_Most.f, Option.bind_some]
    have e : decide ((n : Int) > 72057594037927935) = false := by simp; omega
    rw [if_neg (by omega), e]
    simp only [sluicegateref05_Number.j0]
    rw [if_neg (by decide), if_pos (by omega), enc_lt (by omega), ← nb_one n (by omega), strOfNums_nb]
  | succ j ih =>
    intro n k h56 hn hk
    obtain ⟨k, rfl⟩ : ∃ m, k = m + 1 + 1 := ⟨k - 2, by omega⟩
    simp only [sluicegateref05_Number.f, sluicegateref05_Most.f, Option.bind_some]
    have e : decide ((n : Int) > 72057594037927935) = false := by simp; omega
    rw [if_neg (by omega), e]
    simp only [sluicegateref05_Number.j0]
    rw [if_neg (by decide)]
    by_cases h : n < 128
    · rw [if_pos (by omega), enc_lt (by omega), ← nb_one n (by omega), strOfNums_nb]
    · rw [if_neg (by omega)]
      simp only [Option.bind_some]
      have e1 : wrap64 (Int.tdiv (n : Int) 128) = ((n / 128 : Nat) : Int) := by
        rw [Int.tdiv_eq_ediv_of_nonneg (by omega)]; unfold wrap64; omega
      have e2 : wrap64 (128 + Int.tmod (n : Int) 128) % 256 = ((128 + n % 128 : Nat) : Int) := by
        rw [Int.tmod_eq_emod_of_nonneg (by omega)]; unfold wrap64; omega
      have e3 : strOfNums [((128 + n % 128 : Nat) : Int)] = B [UInt8.ofNat (128 + n % 128)] := by
        rw [← strOfNums_nb]
        simp only [nb, List.map_cons, List.map_nil]
        rw [u8_toNat _ (by omega)]
      have hq : n / 128 < 128 ^ (j + 1) := by
        rw [Nat.pow_succ] at hn
        exact Nat.div_lt_of_lt_mul (by omega)
      have h8 := enc_len8 (m := n / 128) (by omega)
      rw [e1, e2, e3, ih (n / 128) k (by omega) hq (by omega)]
      simp only [Option.bind_some]
      rw [if_pos (by rw [B_size, B_size, List.length_singleton]; omega), B_append, enc_ge (n := n) (by omega), List.singleton_append]
theorem rnumber_f (n k : Nat) (h : n < 2 ^ 56) (hk : 20 ≤ k) : sluicegateref05_Number.f k (n : Int) = some (B (enc n)) := rnumber_loop 7 n k h (by simpa using h) (by omega)
theorem rnumber_bad (n : Int) (k : Nat) (h : n < 0 ∨ 2 ^ 56 ≤ n) (hk : 2 ≤ k) : sluicegateref05_Number.f k n = some (B []) := by
  obtain ⟨k, rfl⟩ : ∃ m, k = m + 1 + 1 := ⟨k - 2, by omega⟩
  simp only [sluicegateref05_Number.f, sluicegateref05_Most.f, Option.bind_some]
  by_cases h0 : n < 0
  · rw [if_pos h0]
    simp only [sluicegateref05_Number.j0]
    rw [if_pos trivial]; rfl
  · have e : decide (n > 72057594037927935) = true := by simp; omega
    rw [if_neg h0, e]
    simp only [sluicegateref05_Number.j0]
    rw [if_pos trivial]; rfl
theorem rtxt_f (s : List UInt8) (k : Nat) (h : s.length ≤ 140737488355328) (hk : 20 ≤ k) : sluicegateref05_Text.f k (B s) = some (B (txt s)) := by
  unfold sluicegateref05_Text.f
  rw [B_size, rnumber_f s.length k (by omega) hk]
  simp only [Option.bind_some]
  have := enc_len8 (m := s.length) (by omega)
  rw [if_pos (by rw [B_size]; omega), B_append]
  rfl
theorem PackWrites : sluicegatelaw05_PackWrites.Pure := by
  intro n s _ hs
  obtain ⟨a, rfl⟩ := exB s
  rw [B_size] at hs
  refine ⟨30, ?_⟩
  unfold sluicegatelaw05_PackWrites.f
  by_cases h : ((B a).size : Int) > 1000
  · rw [if_pos h]; rfl
  rw [if_neg h]
  have hn : ∃ b, pack_Number.f 30 n = some b ∧ sluicegateref05_Number.f 30 n = some b := by
    by_cases h0 : n < 0 ∨ 2 ^ 56 ≤ n
    · exact ⟨_, number_bad n 30 h0 (by omega), rnumber_bad n 30 h0 (by omega)⟩
    · obtain ⟨n, rfl⟩ := Int.eq_ofNat_of_zero_le (a := n) (by omega)
      exact ⟨_, number_f n 30 (by omega) (by omega), rnumber_f n 30 (by omega) (by omega)⟩
  obtain ⟨b, h1, h2⟩ := hn
  rw [h1, h2]
  simp only [Option.bind_some, if_true]
  rw [text_f a _ (by omega) (by omega), rtxt_f a _ (by omega) (by omega)]
  simp only [Option.bind_some, if_true]
  rfl
end Go.Proofs.Ytamjiofhfoedgaa.Pure
