/- What sluicegateref05.Take answers, said of lists of bytes. -/
import Derived.Test.YtoakibpgmjebeaaQE
import Derived.Test.YtoakibpgmjebeaaPackFn
namespace Go.Proofs.Ytoakibpgmjebeaa
open Go.RowKit Q Go.Proofs.YtoakibpgmjebeaaW.PrintWords Go.Proofs.YtoakibpgmjebeaaW.PrintLast Go.Proofs.YtoakibpgmjebeaaW.PrintMore
theorem wrapu7 (i : Nat) (hi : i ≤ 7) : IntKind.u64.wrap (wrap64 (7 * (i : Int))) = ((7 * i : Nat) : Int) := by
  have h1 : wrap64 (7 * (i : Int)) = ((7 * i : Nat) : Int) := by unfold wrap64; omega
  rw [h1]
  simp [IntKind.wrap, IntKind.bits, IntKind.signed]
  omega
/-- 'n + int(c)<<7i'. -/
theorem add_shl (n c i : Nat) (hn : n < 2 ^ (7 * i)) (hc : c < 128) (hi : i ≤ 7) : wrap64 ((n : Int) + shl .i64 (c : Int) (IntKind.u64.wrap (wrap64 (7 * (i : Int))))) = ((n + c * 2 ^ (7 * i) : Nat) : Int) := by
  have hp : 2 ^ (7 * i) ≤ 2 ^ 49 := Nat.pow_le_pow_right (by omega) (by omega)
  have hcp : c * 2 ^ (7 * i) ≤ 127 * 2 ^ 49 := Nat.mul_le_mul (by omega) hp
  have h2 : shl .i64 (c : Int) (IntKind.u64.wrap (wrap64 (7 * (i : Int)))) = ((c * 2 ^ (7 * i) : Nat) : Int) := by
    rw [wrapu7 i hi]
    unfold shl
    rw [Int.toNat_natCast, Nat.min_eq_left (by show 7 * i ≤ 64; omega)]
    have e2 : (c : Int) * 2 ^ (7 * i) = ((c * 2 ^ (7 * i) : Nat) : Int) := by simp
    rw [e2]
    exact wraps_i64 _ (by omega) (by omega)
  rw [h2]
  generalize c * 2 ^ (7 * i) = x at hcp ⊢
  generalize 2 ^ (7 * i) = y at hp hn
  unfold wrap64
  omega
theorem take_loop (l : List UInt8) (_hl : l.length ≤ 140737488355328) (d : Nat) : ∀ (k i n : Nat), 8 - i = d → i ≤ 7 → i ≤ l.length → n < 2 ^ (7 * i) → 2 * d < k →
    sluicegateref05_Take.l0 k (B l) (n : Int) (i : Int) = some (((tk (l.drop i) i n).1 : Int), B (tk (l.drop i) i n).2.1, (tk (l.drop i) i n).2.2) := by
  induction d with
  | zero => intro k i n hd hi; omega
  | succ d ih =>
    intro k i n hd hi hil hn hk
    obtain ⟨k, rfl⟩ : ∃ m, k = m + 1 + 1 := ⟨k - 2, by omega⟩
    simp only [sluicegateref05_Take.l0]
    by_cases h1 : i < l.length
    · rw [if_pos (by rw [B_size]; omega)]
      have hc : l.drop i = l.getD i 0 :: l.drop (i + 1) := by
        rw [List.drop_eq_getElem_cons h1, List.getD_eq_getElem?_getD, List.getElem?_eq_getElem h1]; rfl
      have hb := bt_B l i
      rw [hc]
      generalize l.getD i 0 = c at hb ⊢
      have hc8 := c.toNat_lt
      by_cases h7 : i = 7 ∧ 128 ≤ c.toNat
      · rw [if_pos (by omega), if_pos (by omega), hb]
        have e : decide ((c.toNat : Int) ≥ 128) = true := by simp; omega
        rw [e]
        simp only [sluicegateref05_Take.j1]
        rw [if_pos trivial]
        have : tk (c :: l.drop (i + 1)) i n = (0, [], 4) := by rw [tk, if_pos h7.2, if_pos h7.1]
        rw [this]
        rfl
      · have key : sluicegateref05_Take.j1 (k + 1) (B l) (n : Int) (i : Int) false = some (((tk (c :: l.drop (i + 1)) i n).1 : Int), B (tk (c :: l.drop (i + 1)) i n).2.1, (tk (c :: l.drop (i + 1)) i n).2.2) := by
          simp only [sluicegateref05_Take.j1]
          rw [if_neg (by decide), if_pos (by omega), if_pos (by rw [B_size]; omega), if_pos (by rw [wrapu7 i hi]; omega), hb]
          have em : wrap64 (Int.tmod (c.toNat : Int) 128) = ((c.toNat % 128 : Nat) : Int) := by
            rw [Int.tmod_eq_emod_of_nonneg (by omega)]; unfold wrap64; omega
          rw [em, add_shl n (c.toNat % 128) i hn (by omega) hi, wrap_succ i (by omega)]
          by_cases h128 : c.toNat < 128
          · rw [if_pos (by omega), Nat.mod_eq_of_lt h128]
            have hend : (if 0 ≤ ((i + 1 : Nat) : Int) then (if ((i + 1 : Nat) : Int) ≤ ((B l).size : Int) then (some (((n + c.toNat * 2 ^ (7 * i) : Nat) : Int), (B l).extract ((i + 1 : Nat) : Int).toNat (B l).size, (0 : Int))) else none) else none) = some (((n + c.toNat * 2 ^ (7 * i) : Nat) : Int), B (l.drop (i + 1)), (0 : Int)) := by
              rw [if_pos (by omega), if_pos (by rw [B_size]; omega), Int.toNat_natCast, B_size, B_extract, List.take_of_length_le (by rw [List.length_drop]; omega)]
            rw [hend]
            by_cases h0 : c.toNat = 0
            · rw [if_pos (by omega)]
              by_cases hi0 : 0 < i
              · rw [if_pos (by omega)]
                have : tk (c :: l.drop (i + 1)) i n = (0, [], 4) := by rw [tk, if_neg (by omega), if_pos ⟨h0, hi0⟩]
                rw [this]
                rfl
              · rw [if_neg (by omega)]
                have : tk (c :: l.drop (i + 1)) i n = (n + c.toNat * 2 ^ (7 * i), l.drop (i + 1), 0) := by rw [tk, if_neg (by omega), if_neg (by omega)]
                rw [this]
            · rw [if_neg (by omega)]
              have : tk (c :: l.drop (i + 1)) i n = (n + c.toNat * 2 ^ (7 * i), l.drop (i + 1), 0) := by rw [tk, if_neg (by omega), if_neg (by omega)]
              rw [this]
          · rw [if_neg (by omega)]
            have h7' : i ≠ 7 := fun h => h7 ⟨h, by omega⟩
            have e4 : tk (c :: l.drop (i + 1)) i n = tk (l.drop (i + 1)) (i + 1) (n + (c.toNat - 128) * 2 ^ (7 * i)) := by rw [tk, if_pos (by omega), if_neg h7']
            have e5 : c.toNat % 128 = c.toNat - 128 := by omega
            rw [e4, e5]
            refine ih k (i + 1) _ (by omega) (by omega) (by omega) ?_ (by omega)
            rw [pow7 i]
            have : (c.toNat - 128) * 2 ^ (7 * i) ≤ 127 * 2 ^ (7 * i) := Nat.mul_le_mul_right _ (by omega)
            omega
        by_cases h7' : i = 7
        · rw [if_pos (by omega), if_pos (by omega), hb]
          have e : decide ((c.toNat : Int) ≥ 128) = false := by
            have : ¬ 128 ≤ c.toNat := fun h => h7 ⟨h7', h⟩
            simp; omega
          rw [e]
          exact key
        · rw [if_neg (by omega)]
          exact key
    · rw [if_neg (by rw [B_size]; omega), List.drop_eq_nil_of_le (by omega)]
      rfl
theorem take_f (l : List UInt8) (k : Nat) (hl : l.length ≤ 140737488355328) (hk : 20 ≤ k) : sluicegateref05_Take.f k (B l) = some (((tk l 0 0).1 : Int), B (tk l 0 0).2.1, (tk l 0 0).2.2) := by
  unfold sluicegateref05_Take.f
  exact take_loop l hl 8 k 0 0 rfl (by omega) (by omega) (by simp) (by omega)
end Go.Proofs.Ytoakibpgmjebeaa
