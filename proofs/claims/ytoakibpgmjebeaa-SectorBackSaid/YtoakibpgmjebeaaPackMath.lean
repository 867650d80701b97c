/- Numbers and texts as bytes (chapter 05), as mathematics: what is written (enc), what is taken (tk); each undoes the other. -/
import Derived.Test.YtoakibpgmjebeaaBytes
namespace Go.Proofs.Ytoakibpgmjebeaa
/-- A number's bytes. -/
def enc (n : Nat) : List UInt8 := if n < 128 then [UInt8.ofNat n] else UInt8.ofNat (128 + n % 128) :: enc (n / 128)
termination_by n
decreasing_by omega
theorem enc_lt {n : Nat} (h : n < 128) : enc n = [UInt8.ofNat n] := by rw [enc, if_pos h]
theorem enc_ge {n : Nat} (h : 128 ≤ n) : enc n = UInt8.ofNat (128 + n % 128) :: enc (n / 128) := by rw [enc, if_neg (by omega)]
theorem enc_ne (n : Nat) : enc n ≠ [] := by
  by_cases h : n < 128
  · rw [enc_lt h]; simp
  · rw [enc_ge (by omega)]; simp
theorem enc_len (j : Nat) : ∀ n : Nat, n < 128 ^ (j + 1) → (enc n).length ≤ j + 1 := by
  induction j with
  | zero => intro n h; rw [enc_lt (by simpa using h)]; simp
  | succ j ih =>
    intro n h
    by_cases h1 : n < 128
    · rw [enc_lt h1]; simp
    · rw [enc_ge (by omega), List.length_cons]
      have : n / 128 < 128 ^ (j + 1) := by
        rw [Nat.pow_succ] at h
        exact Nat.div_lt_of_lt_mul (by omega)
      have := ih _ this
      omega
theorem u8_toNat (n : Nat) (h : n < 256) : (UInt8.ofNat n).toNat = n := UInt8.toNat_ofNat_of_lt' (by simpa using h)
/-- A number taken from bytes: the index, what was gathered; the number, what is left, the error. -/
def tk : List UInt8 → Nat → Nat → Nat × List UInt8 × Int
  | [], _, _ => (0, [], 3)
  | c :: l, i, n => if 128 ≤ c.toNat then (if i = 7 then (0, [], 4) else tk l (i + 1) (n + (c.toNat - 128) * 2 ^ (7 * i))) else if c.toNat = 0 ∧ 0 < i then (0, [], 4) else (n + c.toNat * 2 ^ (7 * i), l, 0)
theorem pow7 (i : Nat) : 2 ^ (7 * (i + 1)) = 128 * 2 ^ (7 * i) := by
  rw [show 7 * (i + 1) = 7 * i + 7 by omega, Nat.pow_add]; omega
theorem tk_enc (m : Nat) : ∀ (i n : Nat) (r : List UInt8), i ≤ 7 → m < 128 ^ (8 - i) → (0 < i → 0 < m) → tk (enc m ++ r) i n = (n + m * 2 ^ (7 * i), r, 0) := by
  induction m using Nat.strongRecOn with
  | ind m ih =>
    intro i n r hi hm h0
    by_cases h : m < 128
    · rw [enc_lt h]
      show tk (UInt8.ofNat m :: r) i n = _
      rw [tk, u8_toNat m (by omega), if_neg (by omega), if_neg (by omega)]
    · rw [enc_ge (by omega)]
      show tk (UInt8.ofNat (128 + m % 128) :: (enc (m / 128) ++ r)) i n = _
      rw [tk, u8_toNat _ (by omega), if_pos (by omega)]
      have hi6 : i ≠ 7 := by rintro rfl; simp at hm; omega
      rw [if_neg hi6, ih (m / 128) (by omega) (i + 1) _ r (by omega) ?_ (by omega)]
      · congr 1
        rw [pow7 i, Nat.add_sub_cancel_left]
        have e : m = 128 * (m / 128) + m % 128 := by omega
        generalize m / 128 = q at *
        generalize m % 128 = s at *
        subst e
        rw [Nat.add_mul, Nat.mul_comm 128 q, Nat.mul_assoc, Nat.add_assoc]
        congr 1
        rw [Nat.add_comm]
      · have e : 8 - i = (8 - (i + 1)) + 1 := by omega
        rw [e, Nat.pow_succ] at hm
        exact Nat.div_lt_of_lt_mul (by omega)
theorem tk_zero (m : Nat) (r : List UInt8) (h : m < 2 ^ 56) : tk (enc m ++ r) 0 0 = (m, r, 0) := by
  rw [tk_enc m 0 0 r (by omega) (by simpa using h) (by omega)]
  simp
/-- Whatever is taken was written. -/
theorem tk_inv : ∀ (l : List UInt8) (i n v : Nat) (r : List UInt8), i ≤ 7 → tk l i n = (v, r, 0) → ∃ m, l = enc m ++ r ∧ v = n + m * 2 ^ (7 * i) ∧ m < 128 ^ (8 - i) ∧ (0 < i → 0 < m)
  | [], i, n, v, r, hi, h => by simp [tk] at h
  | c :: l, i, n, v, r, hi, h => by
    rw [tk] at h
    have hc := c.toNat_lt
    by_cases h1 : 128 ≤ c.toNat
    · rw [if_pos h1] at h
      by_cases h7 : i = 7
      · rw [if_pos h7] at h; simp at h
      · rw [if_neg h7] at h
        obtain ⟨m, rfl, rfl, hm, h0⟩ := tk_inv l (i + 1) _ v r (by omega) h
        have hp : 0 < m := h0 (by omega)
        refine ⟨128 * m + (c.toNat - 128), ?_, ?_, ?_, fun _ => by omega⟩
        · have e1 : (128 * m + (c.toNat - 128)) / 128 = m := by omega
          have e2 : 128 + (128 * m + (c.toNat - 128)) % 128 = c.toNat := by omega
          have e3 : enc (128 * m + (c.toNat - 128)) = c :: enc m := by
            rw [enc_ge (n := 128 * m + (c.toNat - 128)) (by omega)]
            generalize 128 * m + (c.toNat - 128) = q at e1 e2 ⊢
            rw [e1, e2, UInt8.ofNat_toNat]
          rw [e3, List.cons_append]
        · rw [pow7 i, Nat.add_mul, Nat.add_assoc]
          rw [← Nat.mul_assoc, Nat.mul_comm m 128]
          generalize 128 * m * 2 ^ (7 * i) = x
          generalize (c.toNat - 128) * 2 ^ (7 * i) = y
          omega
        · have e : 8 - i = (8 - (i + 1)) + 1 := by omega
          rw [e, Nat.pow_succ]
          omega
    · rw [if_neg h1] at h
      by_cases h2 : c.toNat = 0 ∧ 0 < i
      · rw [if_pos h2] at h; simp at h
      · rw [if_neg h2] at h
        simp only [Prod.mk.injEq] at h
        obtain ⟨rfl, rfl, _⟩ := h
        refine ⟨c.toNat, by rw [enc_lt (by omega)]; simp, rfl, ?_, fun _ => by omega⟩
        have : 128 ^ 1 ≤ 128 ^ (8 - i) := Nat.pow_le_pow_right (by omega) (by omega)
        omega
theorem tk_inv0 {l : List UInt8} {v : Nat} {r : List UInt8} (h : tk l 0 0 = (v, r, 0)) : l = enc v ++ r ∧ v < 2 ^ 56 := by
  obtain ⟨m, h1, h2, h3, _⟩ := tk_inv l 0 0 v r (by omega) h
  simp at h2 h3
  subst h2
  exact ⟨h1, by omega⟩
/-- Where there is an error, nothing else is told. -/
theorem tk_err : ∀ (l : List UInt8) (i n : Nat), (tk l i n).2.2 = 0 ∨ (tk l i n = (0, [], 3)) ∨ (tk l i n = (0, [], 4))
  | [], i, n => .inr (.inl rfl)
  | c :: l, i, n => by
    rw [tk]
    split
    · split
      · exact .inr (.inr rfl)
      · exact tk_err l _ _
    · split
      · exact .inr (.inr rfl)
      · exact .inl rfl
theorem tk_le : ∀ (l : List UInt8) (i n : Nat), (tk l i n).2.1.length ≤ l.length
  | [], i, n => by simp [tk]
  | c :: l, i, n => by
    rw [tk]
    split
    · split
      · simp
      · have := tk_le l (i + 1) (n + (c.toNat - 128) * 2 ^ (7 * i))
        simp only [List.length_cons]; omega
    · split
      · simp
      · simp
/-- A number's bytes without their end are cut. -/
theorem tk_cut (m : Nat) : ∀ (i n j : Nat), i ≤ 7 → m < 128 ^ (8 - i) → j < (enc m).length → tk ((enc m).take j) i n = (0, [], 3) := by
  induction m using Nat.strongRecOn with
  | ind m ih =>
    intro i n j hi hm hj
    by_cases h : m < 128
    · rw [enc_lt h] at hj ⊢
      have : j = 0 := by simp at hj; omega
      subst this; rfl
    · rw [enc_ge (by omega)] at hj ⊢
      cases j with
      | zero => rfl
      | succ j =>
        have hi6 : i ≠ 7 := by rintro rfl; simp at hm; omega
        rw [List.take_succ_cons, tk, u8_toNat _ (by omega), if_pos (by omega), if_neg hi6]
        refine ih (m / 128) (by omega) (i + 1) _ j (by omega) ?_ (by simpa using hj)
        have e : 8 - i = (8 - (i + 1)) + 1 := by omega
        rw [e, Nat.pow_succ] at hm
        exact Nat.div_lt_of_lt_mul (by omega)
theorem enc_pre {m m' : Nat} {r r' : List UInt8} (h : m < 2 ^ 56) (h' : m' < 2 ^ 56) (e : enc m ++ r = enc m' ++ r') : m = m' ∧ r = r' := by
  have h1 := tk_zero m r h
  rw [e, tk_zero m' r' h'] at h1
  simp only [Prod.mk.injEq] at h1
  exact ⟨h1.1.symm, h1.2.1.symm⟩
theorem enc_len8 {m : Nat} (h : m < 2 ^ 56) : (enc m).length ≤ 8 := enc_len 7 m (by simpa using h)
/-- A text's bytes. -/
def txt (s : List UInt8) : List UInt8 := enc s.length ++ s
/-- A text taken from bytes. -/
def tkT (l : List UInt8) : List UInt8 × List UInt8 × Int :=
  if (tk l 0 0).2.2 ≠ 0 then ([], [], (tk l 0 0).2.2) else if (tk l 0 0).2.1.length < (tk l 0 0).1 then ([], [], 3) else ((tk l 0 0).2.1.take (tk l 0 0).1, (tk l 0 0).2.1.drop (tk l 0 0).1, 0)
theorem tkT_txt (s r : List UInt8) (h : s.length < 2 ^ 56) : tkT (txt s ++ r) = (s, r, 0) := by
  unfold tkT txt
  rw [List.append_assoc, tk_zero _ _ h]
  simp
theorem tkT_inv {l s r : List UInt8} (h : tkT l = (s, r, 0)) : l = txt s ++ r ∧ s.length < 2 ^ 56 := by
  unfold tkT at h
  by_cases h0 : (tk l 0 0).2.2 = 0
  · rw [if_neg (by simpa using h0)] at h
    by_cases h1 : (tk l 0 0).2.1.length < (tk l 0 0).1
    · rw [if_pos h1] at h; simp at h
    · rw [if_neg h1] at h
      simp only [Prod.mk.injEq, and_true] at h
      obtain ⟨hs, hr⟩ := h
      have ht : tk l 0 0 = ((tk l 0 0).1, (tk l 0 0).2.1, 0) := by rw [← h0]
      obtain ⟨hl, hv⟩ := tk_inv0 ht
      have hlen : s.length = (tk l 0 0).1 := by rw [← hs, List.length_take]; omega
      refine ⟨?_, by omega⟩
      unfold txt
      rw [hlen, ← hs, ← hr, List.append_assoc, List.take_append_drop]
      exact hl
  · rw [if_pos (by simpa using h0)] at h
    simp only [Prod.mk.injEq] at h
    exact absurd h.2.2 h0
theorem tkT_err (l : List UInt8) : (tkT l).2.2 = 0 ∨ tkT l = ([], [], 3) ∨ tkT l = ([], [], 4) := by
  unfold tkT
  rcases tk_err l 0 0 with h | h | h
  · rw [if_neg (by simpa using h)]
    split
    · exact .inr (.inl rfl)
    · exact .inl rfl
  · rw [h]; exact .inr (.inl rfl)
  · rw [h]; exact .inr (.inr rfl)
theorem tkT_le (l : List UInt8) : (tkT l).2.1.length ≤ l.length ∧ (tkT l).1.length ≤ l.length := by
  have := tk_le l 0 0
  unfold tkT
  split
  · simp
  · split
    · simp
    · simp only [List.length_take, List.length_drop]; omega
theorem tkT_cut (s : List UInt8) (j : Nat) (h : s.length < 2 ^ 56) (hj : j < (txt s).length) : tkT ((txt s).take j) = ([], [], 3) := by
  unfold txt at hj ⊢
  by_cases h1 : j < (enc s.length).length
  · rw [List.take_append_of_le_length (by omega)]
    unfold tkT
    rw [tk_cut s.length 0 0 j (by omega) (by simpa using h) h1]
    rfl
  · rw [List.take_append, List.take_of_length_le (by omega)]
    unfold tkT
    rw [tk_zero _ _ h]
    simp
    rw [List.length_append] at hj
    omega
theorem txt_pre {a b r r' : List UInt8} (ha : a.length < 2 ^ 56) (hb : b.length < 2 ^ 56) (e : txt a ++ r = txt b ++ r') : a = b ∧ r = r' := by
  have h1 := tkT_txt a r ha
  rw [e, tkT_txt b r' hb] at h1
  simp only [Prod.mk.injEq] at h1
  exact ⟨h1.1.symm, h1.2.1.symm⟩
end Go.Proofs.Ytoakibpgmjebeaa
