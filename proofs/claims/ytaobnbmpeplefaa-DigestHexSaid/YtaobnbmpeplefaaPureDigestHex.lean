/- Digits of sixteen: two for each byte; they tell the text. -/
import Derived.Test.YtaobnbmpeplefaaQx6
namespace Go.Proofs.Ytaobnbmpeplefaa.Pure
open Go.RowKit Go.Proofs.Ytaobnbmpeplefaa Go.Proofs.Ytaobnbmpeplefaa.Q Go.Proofs.YtaobnbmpeplefaaW.PrintWords Go.Proofs.YtaobnbmpeplefaaW.PrintLast
/-- The digits of a list of bytes. -/
def hx : List UInt8 → List UInt8
  | [] => []
  | c :: l => UInt8.ofNat (dg (c.toNat / 16)) :: UInt8.ofNat (dg (c.toNat % 16)) :: hx l
theorem hx_append (a b : List UInt8) : hx (a ++ b) = hx a ++ hx b := by
  induction a with
  | nil => rfl
  | cons c l ih => simp only [List.cons_append, hx, ih]
theorem hexS_hx (l : List UInt8) : ∀ k, k ≤ l.length → hexS (B l) k = hx (l.take k) := by
  intro k
  induction k with
  | zero => intro _; rfl
  | succ k ih =>
    intro hk
    have hc : byteAt (B l) k = (l[k].toNat : Int) := by
      unfold byteAt
      rw [B_data, List.getD_eq_getElem?_getD, List.getElem?_eq_getElem (by omega)]
      rfl
    rw [hexS, ih (by omega), hc, List.take_succ_eq_append_getElem (by omega), hx_append]
    simp only [hx, List.append_assoc]
    rfl
theorem dg_16 : ∀ a b : Fin 16, dg a.val % 256 = dg b.val % 256 → a = b := by decide +kernel
theorem dg_inj (a b : Nat) (ha : a < 256) (hb : b < 256) (h1 : dg (a / 16) % 256 = dg (b / 16) % 256) (h2 : dg (a % 16) % 256 = dg (b % 16) % 256) : a = b := by
  have e1 := congrArg Fin.val (dg_16 ⟨a / 16, by omega⟩ ⟨b / 16, by omega⟩ h1)
  have e2 := congrArg Fin.val (dg_16 ⟨a % 16, by omega⟩ ⟨b % 16, by omega⟩ h2)
  simp only at e1 e2
  omega
theorem hx_inj : ∀ (a b : List UInt8), hx a = hx b → a = b
  | [], [], _ => rfl
  | [], _ :: _, h => by cases h
  | _ :: _, [], h => by cases h
  | c :: a, d :: b, h => by
    simp only [hx, List.cons.injEq] at h
    obtain ⟨h1, h2, h3⟩ := h
    have e1 := congrArg UInt8.toNat h1
    have e2 := congrArg UInt8.toNat h2
    rw [UInt8.toNat_ofNat', UInt8.toNat_ofNat'] at e1 e2
    have hc := dg_inj c.toNat d.toNat c.toNat_lt d.toNat_lt e1 e2
    have : c = d := UInt8.toNat_inj.1 hc
    rw [this, hx_inj a b h3]
theorem hexS_full (a : ByteArray) : hexS a a.size = hx a.data.toList := by
  have := hexS_hx a.data.toList a.size (by rw [size_data]; exact Nat.le_refl _)
  rw [B_eta, List.take_of_length_le (by rw [size_data]; exact Nat.le_refl _)] at this
  exact this
theorem data_append (a b : ByteArray) : (a ++ b).data.toList = a.data.toList ++ b.data.toList := by
  obtain ⟨l, rfl⟩ := exB a
  obtain ⟨m, rfl⟩ := exB b
  rw [B_append]
  rfl
theorem DigestHex : sluicegatelaw03_DigestHex.Pure := by
  intro a b h0 h1
  refine ⟨1, ?_⟩
  unfold sluicegatelaw03_DigestHex.f
  by_cases h : (a.size : Int) > 1000
  · rw [if_pos h]
    rfl
  · rw [if_neg h]
    by_cases h' : (b.size : Int) > 1000
    · rw [decide_eq_true h']
      rfl
    · rw [decide_eq_false h']
      have hs : a.size ≤ 17592186044416 := by omega
      have hs' : b.size ≤ 17592186044416 := by omega
      have hab : (a ++ b).size ≤ 17592186044416 := by rw [ByteArray.size_append]; omega
      have hl1 : (B (hexS a a.size)).size = 2 * a.size := by rw [B_size, hexS_len]
      have hl2 : (B (hexS b b.size)).size = 2 * b.size := by rw [B_size, hexS_len]
      have hw : wrap64 (2 * (a.size : Int)) = 2 * (a.size : Int) := by unfold wrap64; omega
      have heq : (((B (hexS a a.size)).toList == (B (hexS b b.size)).toList) == (a.toList == b.toList)) = true := by
        rw [B_toList, B_toList, hexS_full, hexS_full, ByteArray.toList_eq, ByteArray.toList_eq]
        by_cases e : a.data.toList = b.data.toList
        · rw [e]; simp only [beq_self_eq_true]
        · have e' : ¬ hx a.data.toList = hx b.data.toList := fun z => e (hx_inj _ _ z)
          rw [beq_eq_false_iff_ne.2 e', beq_eq_false_iff_ne.2 e]
          rfl
      have hcat : (B (hexS (a ++ b) (a ++ b).size)).toList = (B (hexS a a.size) ++ B (hexS b b.size)).toList := by
        rw [B_append, B_toList, B_toList, hexS_full, hexS_full, hexS_full, data_append, hx_append]
      simp only [sluicegatelaw03_DigestHex.j0, digest_Sum.f, digest_Hex.f, if_pos hs, if_pos hs', if_pos hab, Option.bind_some, hl1, hl2, hw, heq, if_true]
      rw [if_neg (by decide), if_pos (by omega), if_pos (by omega), if_pos (by omega), if_pos hcat, if_pos (by rw [B_size, SHA_len]; rfl)]
      rfl
end Go.Proofs.Ytaobnbmpeplefaa.Pure
