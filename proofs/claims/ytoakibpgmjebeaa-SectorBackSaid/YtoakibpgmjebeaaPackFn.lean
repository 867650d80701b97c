/- What the program's pack package answers, said of lists of bytes. -/
import Derived.Test.YtoakibpgmjebeaaPackMath
import Derived.Test.YtoakibpgmjebeaaQE
import Derived.Laws.BitsLemmas
namespace Go.Proofs.Ytoakibpgmjebeaa
open Go.RowKit Q Go.Proofs.YtoakibpgmjebeaaW.PrintWords Go.Proofs.YtoakibpgmjebeaaW.PrintLast Go.Proofs.YtoakibpgmjebeaaW.PrintMore
theorem or128 : ∀ a : Fin 256, Go.bits .or .u8 (a.val : Int) 128 = ((128 + a.val % 128 : Nat) : Int) := by decide +kernel
theorem or128' (n : Nat) : Go.bits .or .u8 ((n : Int) % 256) 128 = ((128 + n % 128 : Nat) : Int) := by
  have h := or128 ⟨n % 256, Nat.mod_lt _ (by omega)⟩
  simp only at h
  rw [show ((n % 256 : Nat) : Int) = (n : Int) % 256 by omega] at h
  rw [h]
  congr 2
  omega
theorem wraps_i64 (n : Int) (h₀ : 0 ≤ n) (h₁ : n < 2 ^ 63) : IntKind.i64.wrap n = n := by rw [IntKind.wrap_i64]; omega
theorem bits_or_comm (a b : Nat) (ha : a < 2 ^ 63) (hb : b < 2 ^ 63) : Go.bits .or .i64 (a : Int) (b : Int) = Go.bits .or .i64 (b : Int) (a : Int) := by
  rw [(bits_nat .i64 63 (by decide) wraps_i64 a b ha hb).2, (bits_nat .i64 63 (by decide) wraps_i64 b a hb ha).2, Nat.or_comm]
/-- 'n | c<<7i' is a sum, where n has fewer than 7i bits. -/
theorem or_add (n c i : Nat) (hn : n < 2 ^ (7 * i)) (hc : c < 128) (hi : i ≤ 7) : Go.bits .or .i64 (n : Int) (shl .i64 (c : Int) (wrap64 (7 * (i : Int)))) = ((n + c * 2 ^ (7 * i) : Nat) : Int) := by
  have e : wrap64 (7 * (i : Int)) = ((7 * i : Nat) : Int) := by unfold wrap64; omega
  have hp : 2 ^ (7 * i) ≤ 2 ^ 49 := Nat.pow_le_pow_right (by omega) (by omega)
  have hcp : c * 2 ^ (7 * i) ≤ 127 * 2 ^ 49 := Nat.mul_le_mul (by omega) hp
  have h2 : shl .i64 (c : Int) (wrap64 (7 * (i : Int))) = ((c * 2 ^ (7 * i) : Nat) : Int) := by
    unfold shl
    rw [e, Int.toNat_natCast, Nat.min_eq_left (by show 7 * i ≤ 64; omega)]
    have e2 : (c : Int) * 2 ^ (7 * i) = ((c * 2 ^ (7 * i) : Nat) : Int) := by simp
    rw [e2]
    exact wraps_i64 _ (by omega) (by omega)
  rw [h2, bits_or_comm _ _ (by omega) (by omega), bits_join .i64 63 (by decide) wraps_i64 (7 * i) _ _ (by omega) ?_ (by omega) (by omega) (by exact_mod_cast hn) (by omega)]
  · omega
  · have : ((c * 2 ^ (7 * i) : Nat) : Int) = (c : Int) * 2 ^ (7 * i) := by simp
    rw [this]
    exact Int.mul_emod_left _ _
theorem bt_B (l : List UInt8) (i : Nat) : bt (B l) (i : Int) = ((l.getD i 0).toNat : Int) := by
  unfold bt
  rw [Int.toNat_natCast]
  split
  · rename_i h
    have h' : i < l.length := by rw [B_size] at h; exact h
    have e : (B l)[i]'h = l[i] := by show (B l).data[i] = _; simp [B]
    rw [e, List.getD_eq_getElem?_getD, List.getElem?_eq_getElem h']; rfl
  · rename_i h
    have h' : l.length ≤ i := by rw [B_size] at h; omega
    rw [List.getD_eq_getElem?_getD, List.getElem?_eq_none h']; rfl
/-- Bytes as numbers. -/
def nb (l : List UInt8) : List Int := l.map fun c => (c.toNat : Int)
theorem nb_append (a b : List UInt8) : nb (a ++ b) = nb a ++ nb b := by simp [nb]
theorem strOfNums_nb (l : List UInt8) : strOfNums (nb l) = B l := by
  unfold strOfNums B nb
  rw [List.map_map]
  congr 2
  have : ((fun n : Int => UInt8.ofNat n.toNat) ∘ fun c : UInt8 => (c.toNat : Int)) = id := by
    funext c; simp
  rw [this, List.map_id]
theorem nb_one (n : Nat) (h : n < 128) : nb [UInt8.ofNat n] = [(n : Int) % 256] := by
  simp only [nb, List.map_cons, List.map_nil]
  rw [u8_toNat n (by omega), Int.emod_eq_of_lt (by omega) (by omega)]
theorem number_loop (j : Nat) : ∀ (n k : Nat) (acc : List UInt8), n < 128 ^ (j + 1) → j < k → acc.length + j ≤ 1000 → pack_Number.l0 k (n : Int) (nb acc) = some (B (acc ++ enc n)) := by
  induction j with
  | zero =>
    intro n k acc hn hk ha
    obtain ⟨k, rfl⟩ : ∃ m, k = m + 1 := ⟨k - 1, by omega⟩
    simp only [pack_Number.l0]
    have hl : (nb acc).length = acc.length := by simp [nb]
    rw [if_neg (by omega), if_pos (by omega), enc_lt (by omega)]
    have e : nb acc ++ [(n : Int) % 256] = nb (acc ++ [UInt8.ofNat n]) := by
      rw [nb_append, nb_one n (by omega)]
    rw [e, strOfNums_nb]
  | succ j ih =>
    intro n k acc hn hk ha
    obtain ⟨k, rfl⟩ : ∃ m, k = m + 1 := ⟨k - 1, by omega⟩
    have hl : (nb acc).length = acc.length := by simp [nb]
    by_cases h : n < 128
    · exact (by
        simp only [pack_Number.l0]
        rw [if_neg (by omega), if_pos (by omega), enc_lt (by omega)]
        have e : nb acc ++ [(n : Int) % 256] = nb (acc ++ [UInt8.ofNat n]) := by
          rw [nb_append, nb_one n (by omega)]
        rw [e, strOfNums_nb])
    · simp only [pack_Number.l0]
      rw [if_pos (by omega), if_pos (by omega), or128']
      have e : nb acc ++ [((128 + n % 128 : Nat) : Int)] = nb (acc ++ [UInt8.ofNat (128 + n % 128)]) := by
        rw [nb_append]
        congr 1
        simp only [nb, List.map_cons, List.map_nil]
        rw [u8_toNat _ (by omega)]
      have e2 : (n : Int) / 128 = ((n / 128 : Nat) : Int) := by omega
      rw [e, e2, ih (n / 128) k _ ?_ (by omega) (by rw [List.length_append, List.length_singleton]; omega), enc_ge (n := n) (by omega), List.append_assoc, List.singleton_append]
      · rw [Nat.pow_succ] at hn
        exact Nat.div_lt_of_lt_mul (by omega)
theorem number_f (n k : Nat) (h : n < 2 ^ 56) (hk : 20 ≤ k) : pack_Number.f k (n : Int) = some (B (enc n)) := by
  unfold pack_Number.f
  obtain ⟨k, rfl⟩ : ∃ m, k = m + 1 := ⟨k - 1, by omega⟩
  have e : decide ((n : Int) > 72057594037927935) = false := by simp; omega
  rw [if_neg (by omega), e]
  simp only [pack_Number.j0]
  rw [if_neg (by decide)]
  exact number_loop 7 n k [] (by simpa using h) (by omega) (by simp)
theorem number_bad (n : Int) (k : Nat) (h : n < 0 ∨ 2 ^ 56 ≤ n) (hk : 1 ≤ k) : pack_Number.f k n = some (B []) := by
  unfold pack_Number.f
  obtain ⟨k, rfl⟩ : ∃ m, k = m + 1 := ⟨k - 1, by omega⟩
  by_cases h0 : n < 0
  · rw [if_pos h0]
    simp only [pack_Number.j0]
    rw [if_pos trivial]; rfl
  · have e : decide (n > 72057594037927935) = true := by simp; omega
    rw [if_neg h0, e]
    simp only [pack_Number.j0]
    rw [if_pos trivial]; rfl
theorem text_f (s : List UInt8) (k : Nat) (h : s.length ≤ 140737488355328) (hk : 20 ≤ k) : pack_Text.f k (B s) = some (B (txt s)) := by
  unfold pack_Text.f
  rw [B_size, number_f s.length k (by omega) hk]
  simp only [Option.bind_some]
  have := enc_len8 (m := s.length) (by omega)
  rw [if_pos (by rw [B_size]; omega), B_append]
  rfl
theorem wrap7 (i : Nat) (hi : i ≤ 7) : wrap64 (7 * (i : Int)) = ((7 * i : Nat) : Int) := by unfold wrap64; omega
theorem wrap_succ (i : Nat) (hi : i ≤ 140737488355328) : wrap64 ((i : Int) + 1) = ((i + 1 : Nat) : Int) := by unfold wrap64; omega
theorem wrap_small (i : Nat) (hi : i ≤ 140737488355328) : wrap64 (i : Int) = (i : Int) := by unfold wrap64; omega
theorem rnum_end (l : List UInt8) (_hl : l.length ≤ 140737488355328) (i n c : Nat) (hi : i ≤ 7) (hil : i < l.length) (hn : n < 2 ^ (7 * i)) (hc : c < 128) :
    (if 0 ≤ wrap64 ((i : Int) + 1) then (if wrap64 ((i : Int) + 1) ≤ ((B l).size : Int) then (if 0 ≤ wrap64 (7 * (i : Int)) then (some (Go.bits .or .i64 (n : Int) (shl .i64 (wrap64 (c : Int)) (wrap64 (7 * (i : Int)))), (B l).extract (wrap64 ((i : Int) + 1)).toNat (B l).size, (0 : Int))) else none) else none) else none) = some (((n + c * 2 ^ (7 * i) : Nat) : Int), B (l.drop (i + 1)), (0 : Int)) := by
  rw [wrap_small c (by omega), or_add n c i hn hc hi, wrap_succ i (by omega), if_pos (by omega), if_pos (by rw [B_size]; omega), if_pos (by rw [wrap7 i hi]; omega), Int.toNat_natCast, B_size, B_extract, List.take_of_length_le (by rw [List.length_drop]; omega)]
theorem rnum_loop (l : List UInt8) (hl : l.length ≤ 140737488355328) (d : Nat) : ∀ (k i n : Nat), 8 - i = d → i ≤ 7 → i ≤ l.length → n < 2 ^ (7 * i) → d < k →
    pack_Reader_Number.l0 k (n : Int) (l.length : Int) (i : Int) (B l) 0 = some (((tk (l.drop i) i n).1 : Int), B (tk (l.drop i) i n).2.1, (tk (l.drop i) i n).2.2) := by
  induction d with
  | zero => intro k i n hd hi; omega
  | succ d ih =>
    intro k i n hd hi hil hn hk
    obtain ⟨k, rfl⟩ : ∃ m, k = m + 1 := ⟨k - 1, by omega⟩
    simp only [pack_Reader_Number.l0]
    by_cases h1 : i < l.length
    · rw [if_pos (by omega), if_pos (by omega), if_pos (by rw [B_size]; omega), bt_B]
      have hc : l.drop i = l.getD i 0 :: l.drop (i + 1) := by
        rw [List.drop_eq_getElem_cons h1, List.getD_eq_getElem?_getD, List.getElem?_eq_getElem h1]; rfl
      rw [hc]
      generalize l.getD i 0 = c
      have hc8 := c.toNat_lt
      have e7 : wrap64 (7 * (i : Int)) = ((7 * i : Nat) : Int) := by unfold wrap64; omega
      have e1 : wrap64 ((i : Int) + 1) = ((i + 1 : Nat) : Int) := by unfold wrap64; omega
      by_cases h128 : 128 ≤ c.toNat
      · rw [if_pos (by omega)]
        by_cases h7 : i = 7
        · rw [if_pos (by omega)]
          have : tk (c :: l.drop (i + 1)) i n = (0, [], 4) := by rw [tk, if_pos h128, if_pos h7]
          rw [this]
          rfl
        · rw [if_neg (by omega), if_pos (by rw [e7]; omega)]
          have e3 : ((c.toNat : Int) - 128) % 256 = ((c.toNat - 128 : Nat) : Int) := by omega
          rw [e3, or_add n (c.toNat - 128) i hn (by omega) hi, e1]
          have e4 : tk (c :: l.drop (i + 1)) i n = tk (l.drop (i + 1)) (i + 1) (n + (c.toNat - 128) * 2 ^ (7 * i)) := by rw [tk, if_pos h128, if_neg h7]
          rw [e4]
          refine ih k (i + 1) _ (by omega) (by omega) (by omega) ?_ (by omega)
          rw [pow7 i]
          have : (c.toNat - 128) * 2 ^ (7 * i) ≤ 127 * 2 ^ (7 * i) := Nat.mul_le_mul_right _ (by omega)
          omega
      · rw [if_neg (by omega)]
        have hsh : pack_Reader_wrong.f (B l) 0 4 = some (⟨#[]⟩, 4) := rfl
        have hend := rnum_end l hl i n c.toNat hi h1 hn (by omega)
        by_cases h0 : c.toNat = 0
        · rw [if_pos (by omega)]
          by_cases hi0 : 0 < i
          · rw [if_pos (by omega)]
            have : tk (c :: l.drop (i + 1)) i n = (0, [], 4) := by rw [tk, if_neg h128, if_pos ⟨h0, hi0⟩]
            rw [this]
            rfl
          · rw [if_neg (by omega), hend]
            have : tk (c :: l.drop (i + 1)) i n = (n + c.toNat * 2 ^ (7 * i), l.drop (i + 1), 0) := by rw [tk, if_neg h128, if_neg (by omega)]
            rw [this]
        · rw [if_neg (by omega), hend]
          have : tk (c :: l.drop (i + 1)) i n = (n + c.toNat * 2 ^ (7 * i), l.drop (i + 1), 0) := by rw [tk, if_neg h128, if_neg (by omega)]
          rw [this]
    · rw [if_neg (by omega), List.drop_eq_nil_of_le (by omega)]
      rfl
/-- A number, by a reader without an error. -/
theorem rnum_f (l : List UInt8) (k : Nat) (hl : l.length ≤ 140737488355328) (hk : 20 ≤ k) : pack_Reader_Number.f k (B l) 0 = some (((tk l 0 0).1 : Int), B (tk l 0 0).2.1, (tk l 0 0).2.2) := by
  unfold pack_Reader_Number.f pack_Reader_works.f
  simp only [Option.bind_some]
  rw [if_pos (by rfl), B_size]
  exact rnum_loop l hl 8 k 0 0 rfl (by omega) (by omega) (by simp) (by omega)
theorem rnum_err (s : ByteArray) (e : Int) (k : Nat) (he : e ≠ 0) : pack_Reader_Number.f k s e = some (0, s, e) := by
  unfold pack_Reader_Number.f pack_Reader_works.f
  simp only [Option.bind_some]
  rw [if_neg (by simpa using he)]
theorem rtext_f (l : List UInt8) (k : Nat) (hl : l.length ≤ 140737488355328) (hk : 21 ≤ k) : pack_Reader_Text.f k (B l) 0 = some (B (tkT l).1, B (tkT l).2.1, (tkT l).2.2) := by
  obtain ⟨k, rfl⟩ : ∃ m, k = m + 1 := ⟨k - 1, by omega⟩
  have hle := tk_le l 0 0
  have herr := tk_err l 0 0
  unfold pack_Reader_Text.f
  rw [rnum_f l _ hl (by omega)]
  unfold tkT
  generalize tk l 0 0 = t at hle herr ⊢
  obtain ⟨n, r, e⟩ := t
  simp only [Option.bind_some, pack_Reader_works.f] at *
  by_cases h0 : e = 0
  · subst h0
    rw [if_pos (by rfl), if_neg (by simp)]
    rw [B_size]
    by_cases h1 : r.length < n
    · have hd : decide ((n : Int) > (r.length : Int)) = true := by simp; omega
      rw [hd, if_pos h1]
      simp only [pack_Reader_Text.j0, pack_Reader_wrong.f, pack_Reader_works.f, Option.bind_some]
      rw [if_pos trivial, if_neg (by decide)]
      rfl
    · have hd : decide ((n : Int) > (r.length : Int)) = false := by simp; omega
      rw [hd, if_neg h1]
      simp only [pack_Reader_Text.j0, pack_Reader_wrong.f, pack_Reader_works.f, Option.bind_some]
      rw [if_neg (by decide), if_pos (by decide), if_pos (by omega), if_pos (by rw [B_size]; omega), Int.toNat_natCast, B_size, B_extract, B_extract, List.drop_zero, Nat.sub_zero, List.take_of_length_le (l := r.drop n) (by rw [List.length_drop]; omega)]
  · rw [if_neg (by simpa using h0), if_pos h0]
    simp only [pack_Reader_Text.j0, pack_Reader_wrong.f, pack_Reader_works.f, Option.bind_some]
    rw [if_neg (by decide), if_neg (by simpa using h0)]
    rcases herr with h | h | h
    · exact absurd h h0
    · simp only [Prod.mk.injEq] at h
      obtain ⟨_, rfl, rfl⟩ := h
      rfl
    · simp only [Prod.mk.injEq] at h
      obtain ⟨_, rfl, rfl⟩ := h
      rfl
theorem rtext_err (s : ByteArray) (e : Int) (k : Nat) (he : e ≠ 0) (hk : 1 ≤ k) : pack_Reader_Text.f k s e = some (⟨#[]⟩, s, e) := by
  obtain ⟨k, rfl⟩ : ∃ m, k = m + 1 := ⟨k - 1, by omega⟩
  unfold pack_Reader_Text.f
  rw [rnum_err s e _ he]
  simp only [Option.bind_some, pack_Reader_works.f]
  rw [if_neg (by simpa using he)]
  simp only [pack_Reader_Text.j0, pack_Reader_wrong.f, pack_Reader_works.f, Option.bind_some]
  rw [if_neg (by decide), if_neg (by simpa using he)]
end Go.Proofs.Ytoakibpgmjebeaa
