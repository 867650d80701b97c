/- PackApart, the plain part: numbers have bytes of their own, texts too; none is the begin of another one. -/
import Derived.Test.YtamjiofhfoedgaaQx7
import Derived.Test.YtamjiofhfoedgaaPackFn
namespace Go.Proofs.Ytamjiofhfoedgaa.Pure
open Go.RowKit Go.Proofs.Ytamjiofhfoedgaa.Q Go.Proofs.YtamjiofhfoedgaaW.PrintWords Go.Proofs.YtamjiofhfoedgaaW.PrintLast
theorem begins (x y : List UInt8) (p : Bool) (h : (y.take x.length == x) = p) : (((B y).extract 0 (B x).size).toList == (B x).toList) = p := by
  rw [B_size, B_extract, List.drop_zero, Nat.sub_zero, B_toList, B_toList]
  exact h
theorem take_enc (n m : Nat) (hn : n < 2 ^ 56) (hm : m < 2 ^ 56) : ((enc m).take (enc n).length == enc n) = ((n : Int) == (m : Int)) := by
  rw [Bool.eq_iff_iff, beq_iff_eq, beq_iff_eq]
  constructor
  · intro h
    have e : enc n ++ (enc m).drop (enc n).length = enc m ++ [] := by
      conv => lhs; lhs; rw [← h]
      rw [List.take_append_drop, List.append_nil]
    have := (enc_pre hn hm e).1
    omega
  · intro h
    have : n = m := by omega
    subst this
    rw [List.take_length]
theorem take_txt (a b : List UInt8) (ha : a.length < 2 ^ 56) (hb : b.length < 2 ^ 56) : ((txt b).take (txt a).length == txt a) = (a == b) := by
  rw [Bool.eq_iff_iff, beq_iff_eq, beq_iff_eq]
  constructor
  · intro h
    have e : txt a ++ (txt b).drop (txt a).length = txt b ++ [] := by
      conv => lhs; lhs; rw [← h]
      rw [List.take_append_drop, List.append_nil]
    exact (txt_pre ha hb e).1
  · rintro rfl
    rw [List.take_length]
theorem longer {x y : List UInt8} {p : Bool} (h : (y.take x.length == x) = p) (hl : ¬ x.length ≤ y.length) : p = false := by
  rw [← h, beq_eq_false_iff_ne]
  intro e
  have := congrArg List.length e
  rw [List.length_take] at this
  omega
theorem PackApart : ∀ (n m : Int) (a b : ByteArray), (Lit.int .i64 n).wf = true → (Lit.int .i64 m).wf = true → a.size ≤ maxLen → b.size ≤ maxLen → ∃ k, sluicegatelaw05_PackApart.f k n m a b = some true := by
  intro n m s t _ _ _ _
  obtain ⟨a, rfl⟩ := exB s
  obtain ⟨b, rfl⟩ := exB t
  refine ⟨30 + 1, ?_⟩
  have kt : sluicegatelaw05_PackApart.j0 (30 + 1) n m (B a) (B b) true = some true := by
    simp only [sluicegatelaw05_PackApart.j0]
    rw [if_pos trivial]; rfl
  unfold sluicegatelaw05_PackApart.f
  by_cases h0 : n < 0
  · rw [if_pos h0]; exact kt
  rw [if_neg h0]
  by_cases h1 : m < 0
  · rw [if_pos h1]; exact kt
  rw [if_neg h1]
  by_cases h2 : n > 72057594037927935
  · rw [if_pos h2]; exact kt
  rw [if_neg h2]
  by_cases h3 : m > 72057594037927935
  · rw [if_pos h3]; exact kt
  rw [if_neg h3]
  by_cases h4 : ((B a).size : Int) > 1000
  · rw [if_pos h4]; exact kt
  rw [if_neg h4]
  cases h5 : decide (((B b).size : Int) > 1000) with
  | true => exact kt
  | false =>
    have h5 : ¬ ((B b).size : Int) > 1000 := by simpa using h5
    rw [B_size] at h4 h5
    obtain ⟨n, rfl⟩ := Int.eq_ofNat_of_zero_le (a := n) (by omega)
    obtain ⟨m, rfl⟩ := Int.eq_ofNat_of_zero_le (a := m) (by omega)
    have hn : n < 2 ^ 56 := by omega
    have hm : m < 2 ^ 56 := by omega
    simp only [sluicegatelaw05_PackApart.j0]
    rw [if_neg (by decide), number_f n _ hn (by omega), number_f m _ hm (by omega), text_f a _ (by omega) (by omega), text_f b _ (by omega) (by omega)]
    simp only [Option.bind_some]
    have e1 := take_enc n m hn hm
    have e2 := take_txt a b (by omega) (by omega)
    have c1 := begins _ _ _ e1
    have c2 := begins _ _ _ e2
    rw [c1, c2, B_toList, B_toList, B_size, B_size, B_size, B_size]
    by_cases g1 : (enc n).length ≤ (enc m).length
    · rw [if_pos (by omega), if_pos (by omega)]
      by_cases g2 : (txt a).length ≤ (txt b).length
      · rw [if_pos (by omega), if_pos (by omega), if_pos (by simp), if_pos (by simp)]; rfl
      · rw [if_neg (by omega), if_pos (by simp), longer e2 g2, if_pos (by simp)]; rfl
    · rw [if_neg (by omega), longer e1 g1]
      by_cases g2 : (txt a).length ≤ (txt b).length
      · rw [if_pos (by omega), if_pos (by omega), if_pos (by simp), if_pos (by simp)]; rfl
      · rw [if_neg (by omega), longer e2 g2, if_pos (by simp), if_pos (by simp)]; rfl
end Go.Proofs.Ytamjiofhfoedgaa.Pure
