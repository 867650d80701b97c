/- What check.Seal, check.Open (the program's and the document's) answer, said of lists of bytes. -/
import Derived.Test.YtoakibpgmjebeaaCrcEq
import Derived.Test.YtoakibpgmjebeaaBytes
import Derived.Test.YtoakibpgmjebeaaQE
namespace Go.Proofs.Ytoakibpgmjebeaa
open Go.RowKit
/-- A text, sealed. -/
def sealL (l : List UInt8) : List UInt8 := l ++ w4 (crc l)
theorem sealL_len (l : List UInt8) : (sealL l).length = l.length + 4 := by simp [sealL, w4_len]
/-- Is a text sealed? -/
def sealed (l : List UInt8) : Prop := 4 ≤ l.length ∧ l.drop (l.length - 4) = w4 (crc (l.take (l.length - 4)))
theorem sealed_seal (l : List UInt8) : sealed (sealL l) := by
  refine ⟨by rw [sealL_len]; omega, ?_⟩
  rw [sealL_len, Nat.add_sub_cancel]
  unfold sealL
  rw [List.drop_left, List.take_left]
theorem take_seal (l : List UInt8) : (sealL l).take ((sealL l).length - 4) = l := by
  rw [sealL_len, Nat.add_sub_cancel]
  unfold sealL
  rw [List.take_left]
theorem of_sealed {l : List UInt8} (h : sealed l) : sealL (l.take (l.length - 4)) = l := by
  unfold sealL
  rw [← h.2, List.take_append_drop]
/-- What Open answers. -/
def openL (l : List UInt8) : ByteArray × Int := if l.length < 4 then (B [], 3) else if l.drop (l.length - 4) = w4 (crc (l.take (l.length - 4))) then (B (l.take (l.length - 4)), 0) else (B [], 5)
theorem openL_seal (l : List UInt8) : openL (sealL l) = (B l, 0) := by
  unfold openL
  rw [if_neg (by rw [sealL_len]; omega), if_pos (sealed_seal l).2, take_seal]
theorem openL_cases (m : List UInt8) : (m.length < 4 ∧ openL m = (B [], 3)) ∨ (4 ≤ m.length ∧ ¬ sealed m ∧ openL m = (B [], 5)) ∨ ∃ u, m = sealL u ∧ openL m = (B u, 0) := by
  by_cases h4 : m.length < 4
  · exact .inl ⟨h4, by unfold openL; rw [if_pos h4]⟩
  · by_cases h2 : m.drop (m.length - 4) = w4 (crc (m.take (m.length - 4)))
    · refine .inr (.inr ⟨m.take (m.length - 4), (of_sealed ⟨by omega, h2⟩).symm, ?_⟩)
      unfold openL; rw [if_neg h4, if_pos h2]
    · exact .inr (.inl ⟨by omega, fun h => h2 h.2, by unfold openL; rw [if_neg h4, if_neg h2]⟩)
/-- Any four bytes are a word's. -/
theorem w4_of (l : List UInt8) (h : l.length = 4) : ∃ v : BitVec 32, l = w4 v := by
  match l, h with
  | [a, b, c, d], _ =>
    have ha := a.toNat_lt
    have hb := b.toNat_lt
    have hc := c.toNat_lt
    have hd := d.toNat_lt
    refine ⟨BitVec.ofNat 32 (a.toNat + 256 * b.toNat + 65536 * c.toNat + 16777216 * d.toNat), ?_⟩
    unfold w4
    rw [BitVec.toNat_ofNat, Nat.mod_eq_of_lt (a := a.toNat + 256 * b.toNat + 65536 * c.toNat + 16777216 * d.toNat) (b := 2 ^ 32) (by omega)]
    rw [show (a.toNat + 256 * b.toNat + 65536 * c.toNat + 16777216 * d.toNat) % 256 = a.toNat by omega,
      show (a.toNat + 256 * b.toNat + 65536 * c.toNat + 16777216 * d.toNat) / 256 % 256 = b.toNat by omega,
      show (a.toNat + 256 * b.toNat + 65536 * c.toNat + 16777216 * d.toNat) / 65536 % 256 = c.toNat by omega,
      show (a.toNat + 256 * b.toNat + 65536 * c.toNat + 16777216 * d.toNat) / 16777216 % 256 = d.toNat by omega]
    simp
theorem w4_inj {v u : BitVec 32} (h : w4 v = w4 u) : v = u := by
  have h1 : reg 0#32 (w4 v) = reg 0#32 (w4 u) := by rw [h]
  rw [reg_w4, reg_w4] at h1
  have := Sn_inj 32 h1
  simpa using this
/-- A number's bytes as the code spells them. -/
theorem nums4 (a : Int) (h0 : 0 ≤ a) (h1 : a ≤ 4294967295) : strOfNums [a % 256, a / 256 % 256, a / 65536 % 256, a / 16777216 % 256] = B (w4 (BitVec.ofNat 32 a.toNat)) := by
  have e : a = ((BitVec.ofNat 32 a.toNat).toNat : Int) := by rw [BitVec.toNat_ofNat]; omega
  have := le4_eq (BitVec.ofNat 32 a.toNat)
  rw [← e] at this
  exact this
theorem xor_u8 (a b : UInt8) : Go.bits .xor .u8 (a.toNat : Int) (b.toNat : Int) = ((a ^^^ b).toNat : Int) := bits_xor8 a.toBitVec b.toBitVec
theorem strOfNums_bytes (l : List UInt8) : strOfNums (l.map fun c => (c.toNat : Int)) = B l := by
  unfold strOfNums B
  rw [List.map_map]
  congr 2
  have : ((fun n : Int => UInt8.ofNat n.toNat) ∘ fun c : UInt8 => (c.toNat : Int)) = id := by
    funext c; simp
  rw [this, List.map_id]
theorem wrap_sub4 (n : Nat) (h : n ≤ 140737488355328) : wrap64 ((n : Int) - 4) = (n : Int) - 4 := by unfold wrap64; omega
theorem of_f (l : List UInt8) (h : l.length ≤ 140737488355328) : check_Of.f (B l) = some ((crc l).toNat : Int) := by
  unfold check_Of.f
  rw [if_pos (by rw [B_size]; exact h), ofS_eq, B_data]
theorem rof_f (l : List UInt8) (h : l.length ≤ 140737488355328) : sluicegateref04_Of.f (B l) = some ((crc l).toNat : Int) := by
  unfold sluicegateref04_Of.f
  rw [if_pos (by rw [B_size]; exact h), rofS_eq, B_data]
theorem bytes_f (v : BitVec 32) : check_bytes.f (v.toNat : Int) = some (B (w4 v)) := by
  unfold check_bytes.f
  have := v.isLt
  rw [if_pos (by omega), le4_eq]
  rfl
theorem seal_f (l : List UInt8) (h : l.length ≤ 140737488355328) : Q.check_Seal.f (B l) = some (B (sealL l)) := by
  unfold Q.check_Seal.f
  rw [of_f l h]
  simp only [Option.bind_some]
  rw [bytes_f]
  simp only [Option.bind_some]
  rw [if_pos (by rw [B_size, B_size, w4_len]; omega), B_append]
  rfl
theorem open_f (l : List UInt8) (h : l.length ≤ 140737488355328) : Q.check_Open.f (B l) = some (openL l) := by
  unfold openL
  unfold Q.check_Open.f
  rw [B_size, wrap_sub4 _ h]
  by_cases h4 : l.length < 4
  · rw [if_pos (by omega), if_pos h4]; rfl
  · rw [if_neg (by omega), if_pos (by omega), if_pos (by omega), if_neg h4]
    have e : ((l.length : Int) - 4).toNat = l.length - 4 := by omega
    rw [e, B_extract, B_extract, List.drop_zero, Nat.sub_zero, of_f _ (by rw [List.length_take]; omega)]
    simp only [Option.bind_some]
    rw [bytes_f]
    simp only [Option.bind_some]
    rw [B_toList, B_toList, List.take_of_length_le (by rw [List.length_drop]; omega)]
    by_cases h2 : l.drop (l.length - 4) = w4 (crc (l.take (l.length - 4)))
    · rw [if_pos h2, if_pos h2]
    · rw [if_neg h2, if_neg h2]; rfl
theorem rseal_f (l : List UInt8) (h : l.length ≤ 140737488355328) : Q.sluicegateref04_Seal.f (B l) = some (B (sealL l)) := by
  unfold Q.sluicegateref04_Seal.f
  rw [rof_f l h]
  simp only [Option.bind_some]
  have e : strOfNums [((crc l).toNat : Int) % 256, ((crc l).toNat : Int) / 256 % 256, ((crc l).toNat : Int) / 65536 % 256, ((crc l).toNat : Int) / 16777216 % 256] = B (w4 (crc l)) := le4_eq _
  rw [e, if_pos (by rw [B_size, B_size, w4_len]; omega), B_append]
  rfl
theorem ropen_f (l : List UInt8) (h : l.length ≤ 140737488355328) : Q.sluicegateref04_Open.f (B l) = some (openL l) := by
  unfold openL
  unfold Q.sluicegateref04_Open.f
  rw [B_size, wrap_sub4 _ h]
  by_cases h4 : l.length < 4
  · rw [if_pos (by omega), if_pos h4]; rfl
  · rw [if_neg (by omega), if_pos (by omega), if_pos (by omega), if_neg h4]
    have e : ((l.length : Int) - 4).toNat = l.length - 4 := by omega
    rw [e, B_extract, List.drop_zero, Nat.sub_zero, rseal_f _ (by rw [List.length_take]; omega)]
    simp only [Option.bind_some]
    rw [B_toList, B_toList]
    by_cases h2 : l.drop (l.length - 4) = w4 (crc (l.take (l.length - 4)))
    · rw [if_pos h2, if_pos (of_sealed ⟨by omega, h2⟩)]
    · rw [if_neg h2, if_neg]
      · rfl
      · intro hs
        have := sealed_seal (l.take (l.length - 4))
        rw [hs] at this
        exact h2 this.2
theorem open_seal (l : List UInt8) (h : l.length ≤ 140737488355324) : Q.check_Open.f (B (sealL l)) = some (B l, 0) := by
  rw [open_f _ (by rw [sealL_len]; omega), openL_seal]
theorem reg_seal (l : List UInt8) : reg 0xFFFFFFFF#32 (sealL l) = Sn 32 0xFFFFFFFF#32 := by
  unfold sealL crc
  rw [reg_append, reg_w4, ← not_toNat, BitVec.xor_comm, BitVec.xor_assoc, BitVec.xor_self, BitVec.xor_zero]
theorem crc_seal (l : List UInt8) : crc (sealL l) = ~~~ (Sn 32 0xFFFFFFFF#32) := by unfold crc; rw [reg_seal]
/-- A text is sealed just if its register is the one number. -/
theorem sealed_iff (m : List UInt8) (h : 4 ≤ m.length) : sealed m ↔ reg 0xFFFFFFFF#32 m = Sn 32 0xFFFFFFFF#32 := by
  constructor
  · intro hs
    rw [← of_sealed hs, reg_seal]
  · intro hr
    refine ⟨h, ?_⟩
    have hd : (m.drop (m.length - 4)).length = 4 := by rw [List.length_drop]; omega
    obtain ⟨v, hv⟩ : ∃ v : BitVec 32, m.drop (m.length - 4) = w4 v := w4_of _ hd
    have : reg 0xFFFFFFFF#32 (m.take (m.length - 4) ++ m.drop (m.length - 4)) = Sn 32 0xFFFFFFFF#32 := by rw [List.take_append_drop, hr]
    rw [reg_append, hv, reg_w4] at this
    have h1 := Sn_inj 32 this
    rw [hv]
    congr 1
    unfold crc
    have h2 : reg 0xFFFFFFFF#32 (m.take (m.length - 4)) ^^^ (reg 0xFFFFFFFF#32 (m.take (m.length - 4)) ^^^ v) = reg 0xFFFFFFFF#32 (m.take (m.length - 4)) ^^^ 0xFFFFFFFF#32 := by rw [h1]
    rw [← BitVec.xor_assoc, BitVec.xor_self, BitVec.zero_xor] at h2
    rw [h2, BitVec.xor_comm, not_toNat]
end Go.Proofs.Ytoakibpgmjebeaa
