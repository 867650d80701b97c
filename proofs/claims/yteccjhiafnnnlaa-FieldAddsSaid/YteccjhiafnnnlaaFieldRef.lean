/- The document's products, powers and quotients (sluicegateref01) are those of the table. -/
import Derived.Test.YteccjhiafnnnlaaFieldTab
import Derived.Test.YteccjhiafnnnlaaQx1
import Derived.Laws.BitsLemmas
namespace Go.Proofs.Yteccjhiafnnnlaa
open Go.RowKit Q Go.Proofs.YteccjhiafnnnlaaW.PrintWords Go.Proofs.YteccjhiafnnnlaaW.PrintLast Go.Proofs.YteccjhiafnnnlaaW.PrintMore
theorem wrap64_nat (n : Nat) (h : n < 2 ^ 63) : wrap64 (n : Int) = n := by unfold wrap64; omega
theorem wrapu_nat (n : Nat) (h : n < 2 ^ 64) : IntKind.u64.wrap (n : Int) = n := by
  simp [IntKind.wrap, IntKind.bits, IntKind.signed]; omega
theorem wraps_i64' (n : Int) (h₀ : 0 ≤ n) (h₁ : n < 2 ^ 63) : IntKind.i64.wrap n = n := by rw [IntKind.wrap_i64]; omega
theorem bits_xor64 (a b : Nat) (ha : a < 2 ^ 63) (hb : b < 2 ^ 63) : Go.bits .xor .i64 (a : Int) (b : Int) = ((a ^^^ b : Nat) : Int) := by
  have hx : a ^^^ b < 2 ^ 63 := Nat.xor_lt_two_pow ha hb
  show IntKind.i64.wrap ((BitVec.ofInt 64 (a : Int) ^^^ BitVec.ofInt 64 (b : Int)).toNat : Int) = _
  rw [BitVec.ofInt_natCast, BitVec.ofInt_natCast, BitVec.toNat_xor, BitVec.toNat_ofNat, BitVec.toNat_ofNat, Nat.mod_eq_of_lt (a := a) (by omega), Nat.mod_eq_of_lt (a := b) (by omega)]
  exact wraps_i64' _ (by omega) (by omega)
theorem shr_nat (x i : Nat) (hi : i ≤ 64) : shr .i64 (x : Int) (i : Int) = ((x / 2 ^ i : Nat) : Int) := by
  unfold shr
  rw [Int.toNat_natCast, Nat.min_eq_left (by exact hi)]
  simp
theorem shl_nat (x i : Nat) (hi : i ≤ 64) (h : x * 2 ^ i < 2 ^ 63) : shl .i64 (x : Int) (i : Int) = ((x * 2 ^ i : Nat) : Int) := by
  unfold shl
  rw [Int.toNat_natCast, Nat.min_eq_left (by exact hi)]
  have e : (x : Int) * 2 ^ i = ((x * 2 ^ i : Nat) : Int) := by simp
  rw [e]
  exact wraps_i64' _ (by omega) (by omega)
theorem tmod2 (x : Nat) : Int.tmod (x : Int) 2 = ((x % 2 : Nat) : Int) := by rw [Int.tmod_eq_emod_of_nonneg (by omega)]; omega
theorem rtimes_l1 (n : Nat) : ∀ (k p : Nat), n ≤ 7 → p < 2 ^ 15 → n < k → sluicegateref01_Times.l1 k (p : Int) ((n + 7 : Nat) : Int) = some ((rdc n p : Nat) : Int) := by
  induction n with
  | zero =>
    intro k p _ hp hk
    obtain ⟨k, rfl⟩ : ∃ m, k = m + 1 := ⟨k - 1, by omega⟩
    simp only [sluicegateref01_Times.l1, rdc]
    rw [if_neg (by omega)]
    congr 1
  | succ n ih =>
    intro k p hn hp hk
    obtain ⟨k, rfl⟩ : ∃ m, k = m + 1 := ⟨k - 1, by omega⟩
    simp only [sluicegateref01_Times.l1, rdc]
    rw [if_pos (by omega), wrapu_nat (n + 1 + 7) (by omega), if_pos (by omega), shr_nat p (n + 1 + 7) (by omega), tmod2]
    have e1 : wrap64 (((n + 1 + 7 : Nat) : Int) - 1) = ((n + 7 : Nat) : Int) := by unfold wrap64; omega
    have e2 : wrap64 (((n + 1 + 7 : Nat) : Int) - 8) = ((n : Nat) : Int) := by unfold wrap64; omega
    rw [e1, e2, wrapu_nat n (by omega), show n + 1 + 7 = n + 8 by omega]
    by_cases h1 : p / 2 ^ (n + 8) % 2 = 1
    · have hp2 : 2 ^ n ≤ 2 ^ 6 := Nat.pow_le_pow_right (by omega) (by omega)
      have e3 := shl_nat 285 n (by omega) (by omega)
      rw [if_pos (by omega), if_pos (by omega), if_pos h1, show ((285 : Int)) = ((285 : Nat) : Int) from rfl, e3, bits_xor64 _ _ (by omega) (by omega)]
      exact ih k _ (by omega) (Nat.xor_lt_two_pow hp (by omega)) (by omega)
    · rw [if_neg (by omega), if_neg h1]
      exact ih k p (by omega) hp (by omega)
theorem rtimes_l0 (a b : Nat) (ha : a ≤ 255) (hb : b ≤ 255) (n : Nat) : ∀ (k p : Nat), n ≤ 8 → p < 2 ^ 15 → n + 8 < k → sluicegateref01_Times.l0 k (a : Int) (b : Int) (p : Int) ((8 - n : Nat) : Int) = some ((rdc 7 (clm a b n p) : Nat) : Int) := by
  induction n with
  | zero =>
    intro k p _ hp hk
    obtain ⟨k, rfl⟩ : ∃ m, k = m + 1 := ⟨k - 1, by omega⟩
    simp only [sluicegateref01_Times.l0, clm]
    rw [if_neg (by omega)]
    exact rtimes_l1 7 k p (by omega) hp (by omega)
  | succ n ih =>
    intro k p hn hp hk
    obtain ⟨k, rfl⟩ : ∃ m, k = m + 1 := ⟨k - 1, by omega⟩
    simp only [sluicegateref01_Times.l0, clm]
    have e0 : 8 - (n + 1) = 7 - n := by omega
    rw [if_pos (by omega), wrapu_nat _ (by omega), if_pos (by omega), wrap64_nat b (by omega), wrap64_nat a (by omega), shr_nat b _ (by omega), tmod2]
    have e1 : wrap64 (((8 - (n + 1) : Nat) : Int) + 1) = ((8 - n : Nat) : Int) := by unfold wrap64; omega
    rw [e1, e0]
    have hp2 : 2 ^ (7 - n) ≤ 2 ^ 7 := Nat.pow_le_pow_right (by omega) (by omega)
    have hm : a * 2 ^ (7 - n) ≤ 255 * 2 ^ 7 := Nat.mul_le_mul ha hp2
    by_cases h1 : b / 2 ^ (7 - n) % 2 = 1
    · rw [if_pos (by omega), if_pos h1, shl_nat a _ (by omega) (by omega), bits_xor64 _ _ (by omega) (by omega)]
      exact ih k _ (by omega) (Nat.xor_lt_two_pow hp (by omega)) (by omega)
    · rw [if_neg (by omega), if_neg h1]
      exact ih k p (by omega) hp (by omega)
theorem rtimes_f (a b k : Nat) (ha : a ≤ 255) (hb : b ≤ 255) (hk : 17 ≤ k) : sluicegateref01_Times.f k (a : Int) (b : Int) = some (tim a b : Int) := by
  unfold sluicegateref01_Times.f
  have := rtimes_l0 a b ha hb 8 k 0 (by omega) (by omega) (by omega)
  rw [← mul_tim ha hb]
  exact this
theorem rpower_l0 (m : Nat) (hm : m < 255) (d : Nat) : ∀ (k i : Nat), i ≤ m → m - i = d → d + 17 < k → sluicegateref01_Power.l0 k (m : Int) (pw i : Int) (i : Int) = some (pw m : Int) := by
  induction d with
  | zero =>
    intro k i hi hd hk
    obtain ⟨k, rfl⟩ : ∃ m, k = m + 1 := ⟨k - 1, by omega⟩
    obtain rfl : i = m := by omega
    simp only [sluicegateref01_Power.l0]
    rw [if_neg (by omega)]
  | succ d ih =>
    intro k i hi hd hk
    obtain ⟨k, rfl⟩ : ∃ m, k = m + 1 := ⟨k - 1, by omega⟩
    simp only [sluicegateref01_Power.l0]
    have h2 := rtimes_f (pw i) 2 k (pw_le (by omega)) (by omega) (by omega)
    rw [if_pos (by omega)]
    have e : tim (pw i) 2 = pw (i + 1) := by
      have h1 := pw_pos (n := i) (by omega)
      have hw : wh 2 = 1 := by decide
      unfold tim
      rw [if_neg (by omega), wh_pw (by omega), hw, Nat.mod_eq_of_lt (by omega)]
    rw [e] at h2
    have h2 : sluicegateref01_Times.f k (pw i : Int) 2 = some (pw (i + 1) : Int) := h2
    rw [h2]
    simp only [Option.bind_some]
    rw [show wrap64 ((i : Int) + 1) = ((i + 1 : Nat) : Int) by unfold wrap64; omega]
    exact ih k (i + 1) (by omega) (by omega) (by omega)
theorem rpower_f (n : Int) (k : Nat) (hk : 280 ≤ k) : sluicegateref01_Power.f k n = some (pw (n % 255).toNat : Int) := by
  have h0 : pw 0 = 1 := by decide
  have key : ∀ m : Nat, m < 255 → sluicegateref01_Power.j0 k (m : Int) = some (pw m : Int) := by
    intro m hm
    obtain ⟨k, rfl⟩ : ∃ m, k = m + 1 := ⟨k - 1, by omega⟩
    simp only [sluicegateref01_Power.j0]
    have := rpower_l0 m hm m k 0 (by omega) (by omega) (by omega)
    rw [h0] at this
    exact this
  obtain ⟨m, hm⟩ := Int.eq_ofNat_of_zero_le (Int.emod_nonneg n (show (255 : Int) ≠ 0 by omega))
  have hm255 : m < 255 := by omega
  unfold sluicegateref01_Power.f
  rw [hm, Int.toNat_natCast]
  have ht : Int.tmod n 255 = if 0 ≤ n then n % 255 else -((-n) % 255) := by
    by_cases hn : 0 ≤ n
    · rw [if_pos hn, Int.tmod_eq_emod_of_nonneg hn]
    · rw [if_neg hn, ← Int.tmod_eq_emod_of_nonneg (show 0 ≤ -n by omega), Int.neg_tmod, Int.neg_neg]
  rw [ht]
  by_cases hn : 0 ≤ n
  · rw [if_pos hn, if_neg (by omega), hm]
    exact key m hm255
  · rw [if_neg hn]
    by_cases h : -((-n) % 255) < 0
    · rw [if_pos h, show wrap64 (-((-n) % 255) + 255) = (m : Int) by unfold wrap64; omega]
      exact key m hm255
    · rw [if_neg h, show -((-n) % 255) = (m : Int) by omega]
      exact key m hm255
theorem rwhich_l0 (a : Nat) (ha : a ≤ 255) (d : Nat) : ∀ (k i : Nat), i ≤ 255 → 255 - i = d → d + 280 < k → (∀ j, j < i → pw j ≠ a) → sluicegateref01_Which.l0 k (a : Int) (i : Int) = some (if a = 0 then (0, 1) else ((wh a : Int), 0)) := by
  induction d with
  | zero =>
    intro k i hi hd hk hno
    obtain ⟨k, rfl⟩ : ∃ m, k = m + 1 := ⟨k - 1, by omega⟩
    obtain rfl : i = 255 := by omega
    simp only [sluicegateref01_Which.l0]
    rw [if_neg (by omega)]
    by_cases h0 : a = 0
    · rw [if_pos h0]
    · exact absurd (pw_wh (a := a) (by omega) ha) (hno _ (wh_lt (by omega) ha))
  | succ d ih =>
    intro k i hi hd hk hno
    obtain ⟨k, rfl⟩ : ∃ m, k = m + 1 := ⟨k - 1, by omega⟩
    simp only [sluicegateref01_Which.l0]
    have hp := rpower_f (i : Int) k (by omega)
    rw [Int.emod_eq_of_lt (by omega) (by omega), Int.toNat_natCast] at hp
    rw [if_pos (by omega), hp]
    simp only [Option.bind_some]
    by_cases h1 : pw i = a
    · have h2 := pw_pos (n := i) (by omega)
      rw [if_pos (by omega), if_neg (by omega), ← h1, wh_pw (by omega)]
    · rw [if_neg (by omega), show wrap64 ((i : Int) + 1) = ((i + 1 : Nat) : Int) by unfold wrap64; omega]
      refine ih k (i + 1) (by omega) (by omega) (by omega) (fun j hj => ?_)
      by_cases h3 : j = i
      · subst h3; exact h1
      · exact hno j (by omega)
theorem rwhich_f (a k : Nat) (ha : a ≤ 255) (hk : 600 ≤ k) : sluicegateref01_Which.f k (a : Int) = some (if a = 0 then (0, 1) else ((wh a : Int), 0)) := by
  unfold sluicegateref01_Which.f
  exact rwhich_l0 a ha 255 k 0 (by omega) (by omega) (by omega) (fun j hj => by omega)
theorem rover_l0 (a b : Nat) (ha : a ≤ 255) (hb0 : 1 ≤ b) (hb : b ≤ 255) (d : Nat) : ∀ (k i : Nat), i ≤ 256 → 256 - i = d → d + 20 < k → (∀ j, j < i → tim j b ≠ a) → sluicegateref01_Over.l0 k (a : Int) (b : Int) (i : Int) = some ((ovr a b : Int), 0) := by
  induction d with
  | zero =>
    intro k i hi hd hk hno
    exact absurd (tim_ovr a b ha hb0 hb) (hno _ (by have := ovr_le a b; omega))
  | succ d ih =>
    intro k i hi hd hk hno
    obtain ⟨k, rfl⟩ : ∃ m, k = m + 1 := ⟨k - 1, by omega⟩
    simp only [sluicegateref01_Over.l0]
    rw [if_pos (by omega), show (i : Int) % 256 = (i : Int) from Int.emod_eq_of_lt (by omega) (by omega), rtimes_f i b k (by omega) hb (by omega)]
    simp only [Option.bind_some]
    by_cases h1 : tim i b = a
    · rw [if_pos (by omega), ← h1, ovr_tim i b (by omega) hb0 hb]
    · rw [if_neg (by omega), show wrap64 ((i : Int) + 1) = ((i + 1 : Nat) : Int) by unfold wrap64; omega]
      refine ih k (i + 1) (by omega) (by omega) (by omega) (fun j hj => ?_)
      by_cases h3 : j = i
      · subst h3; exact h1
      · exact hno j (by omega)
theorem rover_f (a b k : Nat) (ha : a ≤ 255) (hb : b ≤ 255) (hk : 300 ≤ k) : sluicegateref01_Over.f k (a : Int) (b : Int) = some (if b = 0 then (0, 1) else ((ovr a b : Int), 0)) := by
  unfold sluicegateref01_Over.f
  by_cases h0 : b = 0
  · subst h0; rfl
  · rw [if_neg (by omega), if_neg h0]
    exact rover_l0 a b ha (by omega) hb 256 k 0 (by omega) (by omega) (by omega) (fun j hj => by omega)
end Go.Proofs.Yteccjhiafnnnlaa
