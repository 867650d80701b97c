/- The sum of chapter 04 as mathematics: steps of a register of 32 bits; linear, one to one; the program's and the document's sums are the same one. -/
import Derived.Test.YtoakibpgmjebeaaCrcRef
namespace Go.Proofs.Ytoakibpgmjebeaa
open Go.RowKit
/-- One step of the register. -/
def S (v : BitVec 32) : BitVec 32 := (v >>> 1) ^^^ (if v.getLsbD 0 then 0x82F63B78#32 else 0#32)
def Sn : Nat → BitVec 32 → BitVec 32
  | 0, v => v
  | k + 1, v => S (Sn k v)
theorem Sn_add (j : Nat) (v : BitVec 32) : ∀ k, Sn (j + k) v = Sn k (Sn j v)
  | 0 => rfl
  | k + 1 => by rw [← Nat.add_assoc]; show S (Sn (j + k) v) = _; rw [Sn_add j v k]; rfl
theorem Sn_succ' (k : Nat) (v : BitVec 32) : Sn (k + 1) v = Sn k (S v) := by
  rw [Nat.add_comm]; exact Sn_add 1 v k
theorem S_xor (a b : BitVec 32) : S (a ^^^ b) = S a ^^^ S b := by
  unfold S
  rw [BitVec.ushiftRight_xor_distrib, BitVec.getLsbD_xor]
  cases a.getLsbD 0 <;> cases b.getLsbD 0 <;> simp
  · rw [BitVec.xor_assoc]
  · rw [BitVec.xor_assoc, BitVec.xor_assoc, BitVec.xor_comm (b >>> 1)]
  · rw [BitVec.xor_assoc, BitVec.xor_comm _ (b >>> 1 ^^^ _), BitVec.xor_assoc, BitVec.xor_self, BitVec.xor_zero]
theorem S_zero : S 0#32 = 0#32 := by decide
theorem Sn_xor (k : Nat) (a b : BitVec 32) : Sn k (a ^^^ b) = Sn k a ^^^ Sn k b := by
  induction k with
  | zero => rfl
  | succ k ih => simp only [Sn]; rw [ih, S_xor]
theorem Sn_zero (k : Nat) : Sn k 0#32 = 0#32 := by
  induction k with
  | zero => rfl
  | succ k ih => simp only [Sn]; rw [ih, S_zero]
theorem S_inj0 (v : BitVec 32) (h : S v = 0#32) : v = 0#32 := by
  have hm : (S v).getLsbD 31 = v.getLsbD 0 := by
    unfold S
    rw [BitVec.getLsbD_xor, BitVec.getLsbD_ushiftRight]
    have : v.getLsbD (1 + 31) = false := BitVec.getLsbD_of_ge _ _ (by omega)
    rw [this]
    cases v.getLsbD 0 <;> decide
  rw [h] at hm
  have h0 : v.getLsbD 0 = false := by rw [← hm]; decide
  unfold S at h
  rw [h0] at h
  simp at h
  apply BitVec.eq_of_getLsbD_eq
  intro i hi
  cases i with
  | zero => rw [h0]; simp
  | succ i =>
    have h1 : (v >>> 1).getLsbD i = false := by rw [h]; simp
    rw [BitVec.getLsbD_ushiftRight, Nat.add_comm] at h1
    rw [h1]; simp
theorem xor_eq_zero {n : Nat} {a b : BitVec n} (h : a ^^^ b = 0#n) : a = b := by
  have : a ^^^ b ^^^ b = 0#n ^^^ b := by rw [h]
  rwa [BitVec.xor_assoc, BitVec.xor_self, BitVec.xor_zero, BitVec.zero_xor] at this
theorem S_inj {a b : BitVec 32} (h : S a = S b) : a = b := by
  apply xor_eq_zero
  apply S_inj0
  rw [S_xor, h, BitVec.xor_self]
theorem Sn_inj (k : Nat) {a b : BitVec 32} (h : Sn k a = Sn k b) : a = b := by
  induction k with
  | zero => exact h
  | succ k ih => exact ih (S_inj h)
/-- Of a number whose lowest k bits are none, k steps are a shift. -/
theorem Sn_shift (k : Nat) (v : BitVec 32) (h : ∀ i, i < k → v.getLsbD i = false) : Sn k v = v >>> k := by
  induction k with
  | zero => simp [Sn]
  | succ k ih =>
    simp only [Sn]
    rw [ih (fun i hi => h i (by omega))]
    unfold S
    have : (v >>> k).getLsbD 0 = false := by rw [BitVec.getLsbD_ushiftRight]; exact h k (by omega)
    rw [this]
    simp [BitVec.shiftRight_add]
theorem Sn_shl (k : Nat) (v : BitVec 32) (h : v.toNat * 2 ^ k < 2 ^ 32) : Sn k (v <<< k) = v := by
  rw [Sn_shift k _ (fun i hi => by rw [BitVec.getLsbD_shiftLeft]; simp [hi])]
  apply BitVec.eq_of_toNat_eq
  rw [BitVec.toNat_ushiftRight, BitVec.toNat_shiftLeft, Nat.shiftLeft_eq, Nat.mod_eq_of_lt h, Nat.shiftRight_eq_div_pow, Nat.mul_div_cancel _ (Nat.two_pow_pos k)]
/-- A byte, as a register. -/
def c32 (c : UInt8) : BitVec 32 := BitVec.ofNat 32 c.toNat
/-- The register behind one more byte. -/
def stepB (x : BitVec 32) (c : UInt8) : BitVec 32 := Sn 8 (x ^^^ c32 c)
def reg (x : BitVec 32) (l : List UInt8) : BitVec 32 := l.foldl stepB x
def crc (l : List UInt8) : BitVec 32 := ~~~ reg 0xFFFFFFFF#32 l
theorem reg_append (x : BitVec 32) (a b : List UInt8) : reg x (a ++ b) = reg (reg x a) b := by simp [reg]
theorem reg_cons (x : BitVec 32) (c : UInt8) (l : List UInt8) : reg x (c :: l) = reg (stepB x c) l := rfl
theorem stepB_inj {x y : BitVec 32} {c : UInt8} (h : stepB x c = stepB y c) : x = y := by
  have h1 := Sn_inj 8 h
  have : x ^^^ c32 c ^^^ c32 c = y ^^^ c32 c ^^^ c32 c := by rw [h1]
  simpa [BitVec.xor_assoc] using this
theorem reg_inj (l : List UInt8) : ∀ {x y : BitVec 32}, reg x l = reg y l → x = y := by
  induction l with
  | nil => intro x y h; exact h
  | cons c l ih => intro x y h; exact stepB_inj (ih h)
theorem c32_xor (a b : UInt8) : c32 (a ^^^ b) = c32 a ^^^ c32 b := by
  apply BitVec.eq_of_toNat_eq
  unfold c32
  simp only [BitVec.toNat_ofNat, BitVec.toNat_xor, UInt8.toNat_xor]
  have ha := a.toNat_lt
  have hb := b.toNat_lt
  have := Nat.xor_lt_two_pow (n := 8) ha hb
  rw [Nat.mod_eq_of_lt (a := a.toNat) (by omega), Nat.mod_eq_of_lt (a := b.toNat) (by omega), Nat.mod_eq_of_lt (by omega)]
theorem stepB_xor (x y : BitVec 32) (a b : UInt8) : stepB (x ^^^ y) (a ^^^ b) = stepB x a ^^^ stepB y b := by
  unfold stepB
  rw [c32_xor, ← Sn_xor]
  congr 1
  rw [BitVec.xor_assoc, BitVec.xor_assoc, ← BitVec.xor_assoc y, BitVec.xor_comm y, BitVec.xor_assoc]
/-- Texts of one length, xored byte by byte. -/
def zx (a b : List UInt8) : List UInt8 := List.zipWith (· ^^^ ·) a b
theorem reg_xor : ∀ (a b : List UInt8) (x y : BitVec 32), a.length = b.length → reg (x ^^^ y) (zx a b) = reg x a ^^^ reg y b
  | [], [], x, y, _ => rfl
  | a :: l, b :: m, x, y, h => by
    show reg (stepB (x ^^^ y) (a ^^^ b)) (zx l m) = _
    rw [stepB_xor, reg_xor l m _ _ (by simpa using h)]
    rfl
/-- A word's bytes, the lowest one first. -/
def w4 (v : BitVec 32) : List UInt8 := [UInt8.ofNat (v.toNat % 256), UInt8.ofNat (v.toNat / 256 % 256), UInt8.ofNat (v.toNat / 65536 % 256), UInt8.ofNat (v.toNat / 16777216 % 256)]
theorem w4_len (v : BitVec 32) : (w4 v).length = 4 := rfl
theorem c32_ofNat (n : Nat) (h : n < 256) : c32 (UInt8.ofNat n) = BitVec.ofNat 32 n := by
  unfold c32
  rw [UInt8.toNat_ofNat_of_lt' (by simpa using h)]
theorem word_split (v : BitVec 32) : v = BitVec.ofNat 32 (v.toNat % 256) ^^^ (BitVec.ofNat 32 (v.toNat / 256 % 256) <<< 8) ^^^ (BitVec.ofNat 32 (v.toNat / 65536 % 256) <<< 16) ^^^ (BitVec.ofNat 32 (v.toNat / 16777216 % 256) <<< 24) := by
  apply BitVec.eq_of_getLsbD_eq
  intro i hi
  simp only [BitVec.getLsbD_xor, BitVec.getLsbD_shiftLeft, BitVec.getLsbD_ofNat]
  have e1 : v.toNat % 256 = v.toNat % 2 ^ 8 := rfl
  have e2 : v.toNat / 256 % 256 = v.toNat / 2 ^ 8 % 2 ^ 8 := rfl
  have e3 : v.toNat / 65536 % 256 = v.toNat / 2 ^ 16 % 2 ^ 8 := rfl
  have e4 : v.toNat / 16777216 % 256 = v.toNat / 2 ^ 24 % 2 ^ 8 := rfl
  rw [e1, e2, e3, e4]
  simp only [Nat.testBit_mod_two_pow, Nat.testBit_div_two_pow]
  rw [← BitVec.testBit_toNat]
  by_cases h1 : i < 8
  · simp [h1, hi, show i < 16 by omega, show i < 24 by omega]
  · by_cases h2 : i < 16
    · simp [h1, hi, h2, show i < 24 by omega, show i - 8 < 8 by omega, show i - 8 < 32 by omega, show i - 8 + 8 = i by omega]
    · by_cases h3 : i < 24
      · simp [h1, hi, h2, h3, show ¬ i - 8 < 8 by omega, show i - 16 < 8 by omega, show i - 16 < 32 by omega, show i - 16 + 16 = i by omega]
      · simp [h1, hi, h2, h3, show ¬ i - 8 < 8 by omega, show ¬ i - 16 < 8 by omega, show i - 24 < 8 by omega, show i - 24 < 32 by omega, show i - 24 + 24 = i by omega]
theorem reg_w4 (x v : BitVec 32) : reg x (w4 v) = Sn 32 (x ^^^ v) := by
  have b0 : v.toNat % 256 < 256 := Nat.mod_lt _ (by omega)
  have b1 : v.toNat / 256 % 256 < 256 := Nat.mod_lt _ (by omega)
  have b2 : v.toNat / 65536 % 256 < 256 := Nat.mod_lt _ (by omega)
  have b3 : v.toNat / 16777216 % 256 < 256 := Nat.mod_lt _ (by omega)
  have e0 : reg x (w4 v) = stepB (stepB (stepB (stepB x (UInt8.ofNat (v.toNat % 256))) (UInt8.ofNat (v.toNat / 256 % 256))) (UInt8.ofNat (v.toNat / 65536 % 256))) (UInt8.ofNat (v.toNat / 16777216 % 256)) := rfl
  rw [e0]
  unfold stepB
  rw [c32_ofNat _ b0, c32_ofNat _ b1, c32_ofNat _ b2, c32_ofNat _ b3]
  have s1 : BitVec.ofNat 32 (v.toNat / 256 % 256) = Sn 8 (BitVec.ofNat 32 (v.toNat / 256 % 256) <<< 8) := (Sn_shl 8 _ (by rw [BitVec.toNat_ofNat]; omega)).symm
  have s2 : BitVec.ofNat 32 (v.toNat / 65536 % 256) = Sn 16 (BitVec.ofNat 32 (v.toNat / 65536 % 256) <<< 16) := (Sn_shl 16 _ (by rw [BitVec.toNat_ofNat]; omega)).symm
  have s3 : BitVec.ofNat 32 (v.toNat / 16777216 % 256) = Sn 24 (BitVec.ofNat 32 (v.toNat / 16777216 % 256) <<< 24) := (Sn_shl 24 _ (by rw [BitVec.toNat_ofNat]; omega)).symm
  rw [s1, s2, s3, ← Sn_xor, ← Sn_add, ← Sn_xor, ← Sn_add, ← Sn_xor, ← Sn_add]
  show Sn 32 _ = _
  conv => rhs; rw [word_split v]
  simp only [BitVec.xor_assoc]
/-- Zeros turn no register that is one into none. -/
theorem reg_ne (l : List UInt8) (x : BitVec 32) (h : x ≠ 0#32) (hz : ∀ c ∈ l, c = 0) : reg x l ≠ 0#32 := by
  induction l generalizing x with
  | nil => exact h
  | cons c l ih =>
    rw [reg_cons]
    refine ih _ (fun e => h ?_) (fun c hc => hz c (List.mem_cons_of_mem _ hc))
    have hc : c = 0 := hz c (List.mem_cons_self ..)
    subst hc
    unfold stepB at e
    have : x ^^^ c32 0 = 0#32 := Sn_inj 8 (e.trans (Sn_zero 8).symm)
    simpa [c32] using this
theorem reg_zeros (l : List UInt8) (hz : ∀ c ∈ l, c = 0) : reg 0#32 l = 0#32 := by
  induction l with
  | nil => rfl
  | cons c l ih =>
    rw [reg_cons]
    have hc : c = 0 := hz c (List.mem_cons_self ..)
    subst hc
    have : stepB 0#32 0 = 0#32 := by decide
    rw [this]
    exact ih (fun c hc => hz c (List.mem_cons_of_mem _ hc))
end Go.Proofs.Ytoakibpgmjebeaa
