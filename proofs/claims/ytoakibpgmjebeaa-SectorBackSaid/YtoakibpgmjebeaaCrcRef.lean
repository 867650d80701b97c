/- sluicegateref04.Of (the document's answer for the sum) told as a plain function: its walk, and the contract that its callers use. -/
import Derived.Test.YtoakibpgmjebeaaCrc
namespace Go.Proofs.Ytoakibpgmjebeaa
open Go.RowKit
def bitAt (s : ByteArray) (i : Nat) : Int := byteAt s (i / 8) / 2 ^ (i % 8) % 2
def refB (x b : Int) : Int := if Go.bits .xor .u32 (x % 2) b = 1 then Go.bits .xor .u32 (x / 2) 2197175160 else x / 2
def refS (s : ByteArray) : Nat → Int
  | 0 => 4294967295
  | k + 1 => refB (refS s k) (bitAt s k)
theorem refS_rng (s : ByteArray) (k : Nat) : 0 ≤ refS s k ∧ refS s k ≤ 4294967295 := by
  induction k with
  | zero => simp [refS]
  | succ k ih =>
    rw [refS]; unfold refB
    split
    · exact bits_rng_u32 _ _ _
    · omega
theorem byteAt_eq (s : ByteArray) (k : Nat) (h : k < s.size) : byteAt s k = ((s[k]'h).toNat : Int) := by
  have h' : k < s.data.size := h
  have e : s.data.toList.getD k 0 = s[k]'h := by
    rw [List.getD_eq_getElem?_getD, List.getElem?_eq_getElem (by simpa using h')]; rfl
  unfold byteAt
  rw [e]
theorem bit_eq (s : ByteArray) (k : Nat) (h : k / 8 < s.size) : (((s[k / 8]'h).toNat % 4294967296 / 2 ^ (k % 8) : Int)).tmod 2 = bitAt s k := by
  have e := byteAt_eq s (k / 8) h
  unfold bitAt
  rw [e]
  have h1 := (s[k / 8]'h).toNat_lt
  rw [Int.emod_eq_of_lt (by omega) (by omega), Int.tmod_eq_emod_of_nonneg]
  exact Int.ediv_nonneg (by omega) (Int.le_of_lt (Int.pow_pos (by omega)))
set_option maxRecDepth 100000 in
set_option maxHeartbeats 400000 in
theorem rof_calls (s : ByteArray) (hs : s.size ≤ 140737488355328) (w : World) :
    Calls Try.prog 37 #[.string s] w fun e w' => e = .returned (.int .u32 (Go.bits .xor .u32 (refS s (8 * s.size)) 4294967295)) ∧ w' = w := by
  go_enter Try.func37, Try.ntmps37
  go_wp2_with fail
  go_loop [3, 4, 5, 6] (fun x n _ _ => ∃ k : Nat, k ≤ 8 * s.size ∧ n = .int .i64 k ∧ x = .int .u32 (refS s k)) (fun _ n _ _ => 8 * s.size - (intOf n).toNat)
  case atStart => exact ⟨0, by omega, rfl, rfl⟩
  case round =>
    obtain ⟨k, hk, rfl, rfl⟩ := hrel
    have hr := refS_rng s k
    by_cases hlt : k < 8 * s.size
    · have h8 : k / 8 < s.size := by omega
      have hb := Lib.hid (bit_eq s k h8)
      go_wp2
      · have ht : (Go.bits BinOp.xor IntKind.u32 (refS s k % 2) (((s[k / 8]'h8).toNat % 4294967296 / 2 ^ (k % 8) : Int).tmod 2) == 1) = true := by assumption
        rw [hb.out] at ht
        go_round
        case rel => exact ⟨k + 1, by omega, by go_num, by rw [refS, refB, if_pos (by simpa using ht)]⟩
        case measure => simp [intOf]; omega
      · have ht : (Go.bits BinOp.xor IntKind.u32 (refS s k % 2) (((s[k / 8]'h8).toNat % 4294967296 / 2 ^ (k % 8) : Int).tmod 2) == 1) = false := by assumption
        rw [hb.out] at ht
        go_round
        case rel => exact ⟨k + 1, by omega, by go_num, by rw [refS, refB, if_neg (by simpa using ht)]⟩
        case measure => simp [intOf]; omega
    · obtain rfl : k = 8 * s.size := by omega
      go_wp2
      go_ret
      exact ⟨rfl, rfl⟩
/-- sluicegateref04.Of, in the form in which its callers take it. -/
def rofS (s : ByteArray) : Int := Go.bits .xor .u32 (refS s (8 * s.size)) 4294967295
def sluicegateref04_Of.f (a0 : ByteArray) : Option Int := if a0.size ≤ 140737488355328 then some (rofS a0) else none
theorem sluicegateref04_Of.calls (a0 : ByteArray) (r : Int) (w : World) (h : sluicegateref04_Of.f a0 = some r) :
    Calls Try.prog 37 #[.string a0] w fun e w' => e = .returned (.int .u32 r) ∧ Below w.heap.size w w' := by
  unfold sluicegateref04_Of.f at h
  by_cases hs : a0.size ≤ 140737488355328
  · rw [if_pos hs] at h
    obtain rfl := Option.some.inj h
    refine (rof_calls a0 hs w).mono ?_
    rintro e w' ⟨rfl, rfl⟩
    exact ⟨rfl, Below.refl _ _⟩
  · rw [if_neg hs] at h
    cases h
end Go.Proofs.Ytoakibpgmjebeaa
