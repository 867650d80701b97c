/- The program's sum (ofS) and the document's (rofS) are the mathematical one (crc); a number's four bytes. -/
import Derived.Test.YtoakibpgmjebeaaCrcMath
namespace Go.Proofs.Ytoakibpgmjebeaa
open Go.RowKit
theorem ofInt_toNat {n : Nat} (v : BitVec n) : BitVec.ofInt n (v.toNat : Int) = v := by
  rw [BitVec.ofInt_natCast, BitVec.ofNat_toNat, BitVec.setWidth_eq]
theorem wrap_u32_nat (n : Nat) (h : n < 4294967296) : IntKind.u32.wrap (n : Int) = n := by rw [IntKind.wrap_u32]; omega
theorem bits_xor32 (a b : BitVec 32) : Go.bits .xor .u32 (a.toNat : Int) (b.toNat : Int) = ((a ^^^ b).toNat : Int) := by
  show IntKind.u32.wrap ((BitVec.ofInt 32 (a.toNat : Int) ^^^ BitVec.ofInt 32 (b.toNat : Int)).toNat : Int) = _
  rw [ofInt_toNat, ofInt_toNat]
  exact wrap_u32_nat _ (a ^^^ b).isLt
theorem bits_and32 (a b : BitVec 32) : Go.bits .and .u32 (a.toNat : Int) (b.toNat : Int) = ((a &&& b).toNat : Int) := by
  show IntKind.u32.wrap ((BitVec.ofInt 32 (a.toNat : Int) &&& BitVec.ofInt 32 (b.toNat : Int)).toNat : Int) = _
  rw [ofInt_toNat, ofInt_toNat]
  exact wrap_u32_nat _ (a &&& b).isLt
theorem bits_xor8 (a b : BitVec 8) : Go.bits .xor .u8 (a.toNat : Int) (b.toNat : Int) = ((a ^^^ b).toNat : Int) := by
  show IntKind.u8.wrap ((BitVec.ofInt 8 (a.toNat : Int) ^^^ BitVec.ofInt 8 (b.toNat : Int)).toNat : Int) = _
  rw [ofInt_toNat, ofInt_toNat, IntKind.wrap_u8]
  have := (a ^^^ b).isLt
  omega
theorem half_toNat (v : BitVec 32) : (v.toNat : Int) / (2 : Int) = ((v >>> 1).toNat : Int) := by
  rw [BitVec.toNat_ushiftRight, Nat.shiftRight_eq_div_pow]; omega
theorem lsb_toNat (v : BitVec 32) : v.toNat % 2 = if v.getLsbD 0 then 1 else 0 := by
  have : v.getLsbD 0 = decide (v.toNat % 2 = 1) := by
    rw [← BitVec.testBit_toNat, Nat.testBit_zero]
  rw [this]
  by_cases h : v.toNat % 2 = 1
  · simp [h]
  · simp [h]; omega
theorem crcR_eq (v : BitVec 32) : crcR (v.toNat : Int) = ((S v).toNat : Int) := by
  unfold crcR S
  have e1 : Go.bits .and .u32 (v.toNat : Int) 1 = ((v &&& 1#32).toNat : Int) := bits_and32 v 1#32
  have e2 : (v &&& 1#32).toNat = if v.getLsbD 0 then 1 else 0 := by
    rw [BitVec.toNat_and]
    show v.toNat &&& 1 = _
    rw [Nat.and_one_is_mod, lsb_toNat]
  rw [e1, e2, half_toNat]
  cases v.getLsbD 0
  · exact bits_xor32 (v >>> 1) 0#32
  · exact bits_xor32 (v >>> 1) 0x82F63B78#32
theorem crcN_eq (k : Nat) (v : BitVec 32) : crcN k (v.toNat : Int) = ((Sn k v).toNat : Int) := by
  induction k with
  | zero => rfl
  | succ k ih => rw [crcN, ih, crcR_eq]; rfl
theorem shr8_parts (x : BitVec 32) : x = BitVec.ofNat 32 (x.toNat % 256) ^^^ (BitVec.ofNat 32 (x.toNat / 256) <<< 8) := by
  apply BitVec.eq_of_getLsbD_eq
  intro i hi
  simp only [BitVec.getLsbD_xor, BitVec.getLsbD_shiftLeft, BitVec.getLsbD_ofNat]
  have e1 : x.toNat % 256 = x.toNat % 2 ^ 8 := rfl
  have e2 : x.toNat / 256 = x.toNat / 2 ^ 8 := rfl
  rw [e1, e2]
  simp only [Nat.testBit_mod_two_pow, Nat.testBit_div_two_pow]
  rw [← BitVec.testBit_toNat]
  by_cases h1 : i < 8
  · simp [h1, hi]
  · simp [h1, hi, show i - 8 < 32 by omega, show i - 8 + 8 = i by omega]
theorem crcB_eq (x : BitVec 32) (c : UInt8) : crcB (x.toNat : Int) (c.toNat : Int) = ((stepB x c).toNat : Int) := by
  unfold crcB stepB
  have hx := x.isLt
  have hc := c.toNat_lt
  have e1 : Go.bits .xor .u8 ((x.toNat : Int) % 256) (c.toNat : Int) = ((BitVec.ofNat 32 (x.toNat % 256) ^^^ c32 c).toNat : Int) := by
    have h := bits_xor8 (BitVec.ofNat 8 (x.toNat % 256)) (BitVec.ofNat 8 c.toNat)
    simp only [BitVec.toNat_ofNat, BitVec.toNat_xor] at h
    rw [Nat.mod_eq_of_lt (a := x.toNat % 256) (by omega), Nat.mod_eq_of_lt (a := c.toNat) (by omega)] at h
    have e : ((x.toNat % 256 : Nat) : Int) = (x.toNat : Int) % 256 := by omega
    rw [← e, h]
    unfold c32
    simp only [BitVec.toNat_ofNat, BitVec.toNat_xor]
    rw [Nat.mod_eq_of_lt (a := x.toNat % 256) (b := 2 ^ 32) (by omega), Nat.mod_eq_of_lt (a := c.toNat) (b := 2 ^ 32) (by omega)]
  have e2 : (x.toNat : Int) / 256 = ((BitVec.ofNat 32 (x.toNat / 256)).toNat : Int) := by
    rw [BitVec.toNat_ofNat, Nat.mod_eq_of_lt (by omega)]; omega
  rw [e1, e2, crcN_eq, bits_xor32]
  congr 2
  conv => rhs; rw [shr8_parts x]
  have e3 : BitVec.ofNat 32 (x.toNat / 256) = Sn 8 (BitVec.ofNat 32 (x.toNat / 256) <<< 8) := (Sn_shl 8 _ (by rw [BitVec.toNat_ofNat, Nat.mod_eq_of_lt (by omega)]; omega)).symm
  conv => lhs; rw [e3]
  rw [← Sn_xor]
  congr 1
  rw [BitVec.xor_assoc, BitVec.xor_comm (c32 c), BitVec.xor_assoc]
theorem take_succ_getD (l : List UInt8) (k : Nat) (h : k < l.length) : l.take (k + 1) = l.take k ++ [l.getD k 0] := by
  rw [List.take_succ_eq_append_getElem h, List.getD_eq_getElem?_getD, List.getElem?_eq_getElem h]; rfl
theorem toList_len (s : ByteArray) : s.data.toList.length = s.size := Array.length_toList
theorem crcS_eq (s : ByteArray) (k : Nat) (h : k ≤ s.size) : crcS s k = ((reg 0xFFFFFFFF#32 (s.data.toList.take k)).toNat : Int) := by
  induction k with
  | zero => rfl
  | succ k ih =>
    rw [crcS, ih (by omega)]
    unfold byteAt
    rw [crcB_eq, take_succ_getD _ _ (by rw [toList_len]; omega), reg_append]
    rfl
theorem not_toNat (v : BitVec 32) : 0xFFFFFFFF#32 ^^^ v = ~~~ v := by
  rw [show (0xFFFFFFFF#32) = BitVec.allOnes 32 from rfl, BitVec.allOnes_xor]
theorem ofS_eq (s : ByteArray) : ofS s = ((crc s.data.toList).toNat : Int) := by
  unfold ofS crc
  rw [crcS_eq s s.size (Nat.le_refl _), List.take_of_length_le (by rw [toList_len]; exact Nat.le_refl _), ← not_toNat]
  exact bits_xor32 0xFFFFFFFF#32 _
/-- The document's register behind j bits of a byte. -/
theorem refB_eq (x : BitVec 32) (b : Nat) (hb : b < 2) : refB (x.toNat : Int) (b : Int) = ((S (x ^^^ BitVec.ofNat 32 b)).toNat : Int) := by
  unfold refB
  have e1 : Go.bits .xor .u32 ((x.toNat : Int) % 2) (b : Int) = (((BitVec.ofNat 32 (x.toNat % 2)) ^^^ BitVec.ofNat 32 b).toNat : Int) := by
    have h := bits_xor32 (BitVec.ofNat 32 (x.toNat % 2)) (BitVec.ofNat 32 b)
    simp only [BitVec.toNat_ofNat] at h
    rw [Nat.mod_eq_of_lt (a := x.toNat % 2) (by omega), Nat.mod_eq_of_lt (a := b) (by omega)] at h
    have e : ((x.toNat % 2 : Nat) : Int) = (x.toNat : Int) % 2 := by omega
    rw [← e, h]
  rw [e1]
  have hl := lsb_toNat x
  have hS : S (x ^^^ BitVec.ofNat 32 b) = (x >>> 1) ^^^ (if (x.getLsbD 0 ^^ decide (b = 1)) then 0x82F63B78#32 else 0#32) := by
    unfold S
    rw [BitVec.ushiftRight_xor_distrib, BitVec.getLsbD_xor]
    have : b = 0 ∨ b = 1 := by omega
    rcases this with rfl | rfl <;> simp
  rw [hS]
  have : b = 0 ∨ b = 1 := by omega
  rw [half_toNat]
  cases h0 : x.getLsbD 0 <;> rw [h0] at hl <;> rcases this with rfl | rfl <;> simp only [hl] <;> simp
  · simpa using bits_xor32 (x >>> 1) 0x82F63B78#32
  · simpa using bits_xor32 (x >>> 1) 0x82F63B78#32
theorem low_succ (c j : Nat) : BitVec.ofNat 32 (c % 2 ^ (j + 1)) = BitVec.ofNat 32 (c % 2 ^ j) ^^^ (BitVec.ofNat 32 (c / 2 ^ j % 2) <<< j) := by
  apply BitVec.eq_of_getLsbD_eq
  intro i hi
  simp only [BitVec.getLsbD_xor, BitVec.getLsbD_shiftLeft, BitVec.getLsbD_ofNat]
  rw [show c / 2 ^ j % 2 = c / 2 ^ j % 2 ^ 1 from rfl]
  simp only [Nat.testBit_mod_two_pow, Nat.testBit_div_two_pow]
  by_cases h1 : i < j
  · simp [h1, hi, show i < j + 1 by omega]
  · by_cases h2 : i = j
    · subst h2; simp [hi]
    · simp [h1, hi, show ¬ i < j + 1 by omega, show ¬ i - j < 1 by omega]
theorem refS_bits (s : ByteArray) (k : Nat) (x : BitVec 32) (hx : refS s (8 * k) = (x.toNat : Int)) (c : UInt8) (hc : byteAt s k = (c.toNat : Int)) (j : Nat) (hj : j ≤ 8) :
    refS s (8 * k + j) = ((Sn j (x ^^^ BitVec.ofNat 32 (c.toNat % 2 ^ j))).toNat : Int) := by
  induction j with
  | zero => rw [Nat.add_zero, hx]; simp [Sn, Nat.mod_one]
  | succ j ih =>
    rw [← Nat.add_assoc, refS, ih (by omega)]
    have hb : bitAt s (8 * k + j) = ((c.toNat / 2 ^ j % 2 : Nat) : Int) := by
      unfold bitAt
      rw [show (8 * k + j) / 8 = k by omega, show (8 * k + j) % 8 = j by omega, hc]
      simp
    rw [hb, refB_eq _ _ (Nat.mod_lt _ (by omega))]
    have hlt := c.toNat_lt
    have e : BitVec.ofNat 32 (c.toNat / 2 ^ j % 2) = Sn j (BitVec.ofNat 32 (c.toNat / 2 ^ j % 2) <<< j) := by
      refine (Sn_shl j _ ?_).symm
      rw [BitVec.toNat_ofNat]
      have h1 : c.toNat / 2 ^ j % 2 < 2 := Nat.mod_lt _ (by omega)
      have h2 : 2 ^ j ≤ 2 ^ 7 := Nat.pow_le_pow_right (by omega) (by omega)
      rw [Nat.mod_eq_of_lt (by omega)]
      calc c.toNat / 2 ^ j % 2 * 2 ^ j ≤ 1 * 2 ^ 7 := Nat.mul_le_mul (by omega) h2
        _ < 2 ^ 32 := by decide
    rw [e, ← Sn_xor, low_succ, BitVec.xor_assoc]
    rfl
theorem refS_eq (s : ByteArray) (k : Nat) (h : k ≤ s.size) : refS s (8 * k) = ((reg 0xFFFFFFFF#32 (s.data.toList.take k)).toNat : Int) := by
  induction k with
  | zero => rfl
  | succ k ih =>
    have h8 := refS_bits s k _ (ih (by omega)) (s.data.toList.getD k 0) rfl 8 (Nat.le_refl _)
    rw [show 8 * (k + 1) = 8 * k + 8 by omega, h8, take_succ_getD _ _ (by rw [toList_len]; omega), reg_append]
    have hlt := (s.data.toList.getD k 0).toNat_lt
    rw [Nat.mod_eq_of_lt (by omega)]
    rfl
theorem rofS_eq (s : ByteArray) : rofS s = ((crc s.data.toList).toNat : Int) := by
  unfold rofS crc
  rw [refS_eq s s.size (Nat.le_refl _), List.take_of_length_le (by rw [toList_len]; exact Nat.le_refl _), ← not_toNat, BitVec.xor_comm]
  exact bits_xor32 _ 0xFFFFFFFF#32
theorem le4_eq (v : BitVec 32) : strOfNums (le4 (v.toNat : Int)) = ⟨(w4 v).toArray⟩ := by
  unfold strOfNums le4 w4
  congr 1
end Go.Proofs.Ytoakibpgmjebeaa
