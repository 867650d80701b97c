/- CheckThree, the plain part: of three texts of one length, xored, the sum is theirs, xored. -/
import Derived.Test.YtoejejdolacpgaaQx2
import Derived.Test.YtoejejdolacpgaaLive04
namespace Go.Proofs.Ytoejejdolacpgaa.Pure
open Go.RowKit Go.Proofs.Ytoejejdolacpgaa.Q Go.Proofs.YtoejejdolacpgaaW.PrintWords Go.Proofs.YtoejejdolacpgaaW.PrintLast
theorem bt_B (l : List UInt8) (i : Nat) : bt (B l) (i : Int) = ((l.getD i 0).toNat : Int) := by
  unfold bt
  rw [Int.toNat_natCast]
  split
  · rename_i h
    have h' : i < l.length := by rw [B_size] at h; exact h
    have e : (B l)[i]'h = l[i] := by show (B l).data[i] = _; simp [B]
    rw [e, List.getD_eq_getElem?_getD, List.getElem?_eq_getElem h']; rfl
  · rename_i h
    have h' : l.length ≤ i := by rw [B_size] at h; omega
    rw [List.getD_eq_getElem?_getD, List.getElem?_eq_none h']; rfl
theorem zx_len (a b : List UInt8) (h : a.length = b.length) : (zx a b).length = a.length := by
  unfold zx; rw [List.length_zipWith]; omega
theorem zx_getD (a b : List UInt8) (i : Nat) (ha : i < a.length) (hb : i < b.length) : (zx a b).getD i 0 = a.getD i 0 ^^^ b.getD i 0 := by
  unfold zx
  simp only [List.getD_eq_getElem?_getD]
  rw [List.getElem?_eq_getElem (by rw [List.length_zipWith]; omega), List.getElem?_eq_getElem ha, List.getElem?_eq_getElem hb, List.getElem_zipWith]
  rfl
theorem loop (a b c : List UInt8) (hb : b.length = a.length) (hc : c.length = a.length) (hn : a.length ≤ 1000) (d : Nat) : ∀ (k i : Nat), i ≤ a.length → a.length - i = d → d < k →
    sluicegatelaw04_CheckThree.l0 k (B a) (B b) (B c) (((zx (zx a b) c).take i).map fun c => (c.toNat : Int)) i = some true := by
  have hab : (zx a b).length = a.length := zx_len a b hb.symm
  have habc : (zx (zx a b) c).length = a.length := by rw [zx_len _ _ (by omega), hab]
  induction d with
  | zero =>
    intro k i h1 hd hk
    obtain ⟨k, rfl⟩ : ∃ m, k = m + 1 := ⟨k - 1, by omega⟩
    obtain rfl : i = a.length := by omega
    simp only [sluicegatelaw04_CheckThree.l0]
    rw [if_neg (by rw [B_size]; omega), List.take_of_length_le (by omega), strOfNums_bytes, of_f _ (by omega), of_f a (by omega), of_f b (by omega), of_f c (by omega)]
    simp only [Option.bind_some]
    rw [bits_xor32, bits_xor32, if_pos]
    · exact live_then
    · congr 2
      unfold crc
      have e1 : reg 0xFFFFFFFF#32 (zx (zx a b) c) = reg 0xFFFFFFFF#32 a ^^^ reg 0xFFFFFFFF#32 b ^^^ reg 0xFFFFFFFF#32 c := by
        rw [← reg_xor a b _ _ (by omega), ← reg_xor _ c _ _ (by omega)]
        congr 1
      rw [e1]
      simp only [← not_toNat]
      generalize reg 4294967295#32 a = x
      generalize reg 4294967295#32 b = y
      generalize reg 4294967295#32 c = z
      apply BitVec.eq_of_getLsbD_eq
      intro i hi
      simp only [BitVec.getLsbD_xor]
      generalize (4294967295#32).getLsbD i = o
      cases o <;> cases x.getLsbD i <;> cases y.getLsbD i <;> cases z.getLsbD i <;> rfl
  | succ d ih =>
    intro k i h1 hd hk
    obtain ⟨k, rfl⟩ : ∃ m, k = m + 1 := ⟨k - 1, by omega⟩
    have hi : i < a.length := by omega
    simp only [sluicegatelaw04_CheckThree.l0]
    rw [if_pos (by rw [B_size]; omega), if_pos (by omega), if_pos (by rw [B_size]; omega), if_pos (by rw [B_size]; omega), if_pos (by rw [List.length_map, List.length_take]; omega)]
    have e : wrap64 ((i : Int) + 1) = ((i + 1 : Nat) : Int) := by unfold wrap64; omega
    rw [e, bt_B, bt_B, bt_B, xor_u8, xor_u8]
    have h2 : ((zx (zx a b) c).take i).map (fun c => (c.toNat : Int)) ++ [((a.getD i 0 ^^^ b.getD i 0 ^^^ c.getD i 0).toNat : Int)] = ((zx (zx a b) c).take (i + 1)).map (fun c => (c.toNat : Int)) := by
      rw [take_succ_getD _ _ (by omega), List.map_append, zx_getD _ _ _ (by omega) (by omega), zx_getD _ _ _ (by omega) (by omega)]
      rfl
    rw [h2]
    exact ih k (i + 1) (by omega) (by omega) (by omega)
theorem CheckThree : sluicegatelaw04_CheckThree.Pure := by
  intro s t u hs ht hu
  obtain ⟨a, rfl⟩ := exB s
  obtain ⟨b, rfl⟩ := exB t
  obtain ⟨c, rfl⟩ := exB u
  rw [B_size] at hs ht hu
  refine ⟨a.length + 1 + 1, ?_⟩
  have kt : sluicegatelaw04_CheckThree.j0 (a.length + 1 + 1) (B a) (B b) (B c) true = some true := by
    simp only [sluicegatelaw04_CheckThree.j0]
    rw [if_pos trivial]; exact live_then
  unfold sluicegatelaw04_CheckThree.f
  by_cases h : ((B a).size : Int) > 1000
  · rw [if_pos h]; exact kt
  · rw [if_neg h]
    by_cases h1 : ((B a).size : Int) = ((B b).size : Int)
    · rw [if_pos h1]
      by_cases h2 : ((B a).size : Int) = ((B c).size : Int)
      · have e : (((B a).size : Int) != ((B c).size : Int)) = false := by simp [h2]
        rw [e]
        simp only [sluicegatelaw04_CheckThree.j0]
        rw [if_neg (by decide)]
        rw [B_size, B_size] at h1 h2
        rw [B_size] at h
        exact loop a b c (by omega) (by omega) (by omega) a.length (a.length + 1) 0 (by omega) (by omega) (by omega)
      · have e : (((B a).size : Int) != ((B c).size : Int)) = true := by simpa using h2
        rw [e]; exact kt
    · rw [if_neg h1]; exact kt
end Go.Proofs.Ytoejejdolacpgaa.Pure
