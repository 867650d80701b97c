/- The words of a block: sluicegateref03.words answers those of digest's block. -/
import Derived.Test.YtaobnbmpeplefaaQx4
import Derived.Test.YtaobnbmpeplefaaDigBlock
namespace Go.Proofs.Ytaobnbmpeplefaa
open Go.RowKit Q Go.Proofs.YtaobnbmpeplefaaW.PrintWords Go.Proofs.YtaobnbmpeplefaaW.PrintLast Go.Proofs.YtaobnbmpeplefaaW.PrintMore
theorem wraps_u32 (n : Int) (h₀ : 0 ≤ n) (h₁ : n < 2 ^ 32) : IntKind.u32.wrap n = n := by rw [IntKind.wrap_u32]; omega
theorem u32_or8 (x y : Int) (hx0 : 0 ≤ x) (hx : x % 256 = 0) (hx1 : x < 4294967296) (h0 : 0 ≤ y) (h1 : y < 256) : bits .or .u32 x y = x + y :=
  bits_join .u32 32 (by decide) wraps_u32 8 x y hx0 hx hx1 h0 h1 (by omega)
theorem u32_or16 (x y : Int) (hx0 : 0 ≤ x) (hx : x % 65536 = 0) (hx1 : x < 4294967296) (h0 : 0 ≤ y) (h1 : y < 65536) : bits .or .u32 x y = x + y :=
  bits_join .u32 32 (by decide) wraps_u32 16 x y hx0 hx hx1 h0 h1 (by omega)
theorem u32_or24 (x y : Int) (hx0 : 0 ≤ x) (hx : x % 16777216 = 0) (hx1 : x < 4294967296) (h0 : 0 ≤ y) (h1 : y < 16777216) : bits .or .u32 x y = x + y :=
  bits_join .u32 32 (by decide) wraps_u32 24 x y hx0 hx hx1 h0 h1 (by omega)
theorem word_ref (a b c d : Int) (ha : 0 ≤ a ∧ a ≤ 255) (hb : 0 ≤ b ∧ b ≤ 255) (hc : 0 ≤ c ∧ c ≤ 255) (hd : 0 ≤ d ∧ d ≤ 255) :
    Go.bits .or .u32 (Go.bits .or .u32 (Go.bits .or .u32 (((a % 4294967296) * 16777216) % 4294967296) (((b % 4294967296) * 65536) % 4294967296)) (((c % 4294967296) * 256) % 4294967296)) (d % 4294967296) = a * 16777216 + b * 65536 + c * 256 + d := by
  have e1 := u32_or24 (((a % 4294967296) * 16777216) % 4294967296) (((b % 4294967296) * 65536) % 4294967296) (by omega) (by omega) (by omega) (by omega) (by omega)
  have e2 := u32_or16 (((a % 4294967296) * 16777216) % 4294967296 + ((b % 4294967296) * 65536) % 4294967296) (((c % 4294967296) * 256) % 4294967296) (by omega) (by omega) (by omega) (by omega) (by omega)
  have e3 := u32_or8 (((a % 4294967296) * 16777216) % 4294967296 + ((b % 4294967296) * 65536) % 4294967296 + ((c % 4294967296) * 256) % 4294967296) (d % 4294967296) (by omega) (by omega) (by omega) (by omega) (by omega)
  rw [e1, e2, e3]
  omega
theorem acc4 (b : ByteArray) (i : Nat) : acc b i 4 = byteAt b (4 * i) * 16777216 + byteAt b (4 * i + 1) * 65536 + byteAt b (4 * i + 2) * 256 + byteAt b (4 * i + 3) := by
  have h0 := byteAt_rng b (4 * i)
  have h1 := byteAt_rng b (4 * i + 1)
  have h2 := byteAt_rng b (4 * i + 2)
  have h3 := byteAt_rng b (4 * i + 3)
  unfold acc acc acc acc acc
  rw [Nat.add_zero]
  generalize byteAt b (4 * i) = x0 at *
  generalize byteAt b (4 * i + 1) = x1 at *
  generalize byteAt b (4 * i + 2) = x2 at *
  generalize byteAt b (4 * i + 3) = x3 at *
  have e1 := u32_or8 (0 * 256 % 4294967296) x0 (by omega) (by omega) (by omega) (by omega) (by omega)
  have e2 := u32_or8 ((0 * 256 % 4294967296 + x0) * 256 % 4294967296) x1 (by omega) (by omega) (by omega) (by omega) (by omega)
  have e3 := u32_or8 (((0 * 256 % 4294967296 + x0) * 256 % 4294967296 + x1) * 256 % 4294967296) x2 (by omega) (by omega) (by omega) (by omega) (by omega)
  have e4 := u32_or8 ((((0 * 256 % 4294967296 + x0) * 256 % 4294967296 + x1) * 256 % 4294967296 + x2) * 256 % 4294967296) x3 (by omega) (by omega) (by omega) (by omega) (by omega)
  rw [e1, e2, e3, e4]
  omega
theorem wl_stable (b : ByteArray) (i i' j : Nat) (hj : j < i) (hi : i ≤ i') : (wl b i')[j]? = (wl b i)[j]? := by
  induction i' with
  | zero => obtain rfl : i = 0 := by omega
            rfl
  | succ i' ih =>
    rcases Nat.lt_or_ge i (i' + 1) with h | h
    · rw [wl, List.getElem?_set, if_neg (by omega)]
      exact ih (by omega)
    · obtain rfl : i = i' + 1 := by omega
      rfl
theorem wlAll_at (b : ByteArray) (i : Nat) (hi : i < 64) : (wlAll b).getD i 0 = wAt b (wl b i) i := by
  rw [List.getD_eq_getElem?_getD]
  unfold wlAll
  rw [wl_stable b (i + 1) 64 i (by omega) (by omega), wl, List.getElem?_set, if_pos rfl, wl_len, if_pos hi]
  rfl
theorem wl_get (b : ByteArray) (i j : Nat) (hj : j < i) (hi : i ≤ 64) : (wl b i).getD j 0 = (wlAll b).getD j 0 := by
  rw [List.getD_eq_getElem?_getD, List.getD_eq_getElem?_getD]
  unfold wlAll
  rw [wl_stable b i 64 j hj hi]
theorem wlAll_len (b : ByteArray) : (wlAll b).length = 64 := wl_len b 64
theorem take_next (l : List Int) (i : Nat) (h : i < l.length) : l.take (i + 1) = l.take i ++ [l.getD i 0] := by
  rw [List.take_succ_eq_append_getElem h, List.getD_eq_getElem?_getD, List.getElem?_eq_getElem h]
  rfl
theorem rd_take (l : List Int) (i j : Nat) (h : j < i) : rd (l.take i) (j : Int) = l.getD j 0 := by
  unfold rd
  rw [List.getD_eq_getElem?_getD, List.getD_eq_getElem?_getD, List.getElem?_take, if_pos (by omega)]
  rfl
theorem rot_f (x n : Int) (h0 : 0 ≤ n) (h1 : n ≤ 32) : sluicegateref03_rot.f x n = some (rr x n) := by
  unfold sluicegateref03_rot.f rr
  have e : wrap64 (32 - n) = 32 - n := by unfold wrap64; omega
  have e2 : IntKind.u64.wrap (32 - n) = 32 - n := by rw [IntKind.wrap_u64]; omega
  rw [if_pos h0, e, e2, if_pos (by omega)]
theorem words_l1 (W : List Int) (hW : W.length = 64) (hrec : ∀ i, 16 ≤ i → i < 64 → W.getD i 0 = (W.getD (i - 16) 0 + W.getD (i - 7) 0 + sg0 (W.getD (i - 15) 0) + sg1 (W.getD (i - 2) 0)) % 4294967296) (d : Nat) : ∀ (k i : Nat), i + d = 64 → 16 ≤ i → d < k → sluicegateref03_words.l1 k (W.take i) (i : Int) = some W := by
  induction d with
  | zero =>
    intro k i hi h16 hk
    obtain ⟨k, rfl⟩ : ∃ m, k = m + 1 := ⟨k - 1, by omega⟩
    have hi64 : ¬ (i : Int) < 64 := by omega
    simp only [sluicegateref03_words.l1]
    rw [if_neg hi64, List.take_of_length_le (by omega)]
  | succ d ih =>
    intro k i hi h16 hk
    obtain ⟨k, rfl⟩ : ∃ m, k = m + 1 := ⟨k - 1, by omega⟩
    have hl : (W.take i).length = i := by rw [List.length_take]; omega
    have e15 : Hid (wrap64 ((i : Int) - 15) = ((i - 15 : Nat) : Int)) := Lib.hid (by unfold wrap64; omega)
    have e2 : Hid (wrap64 ((i : Int) - 2) = ((i - 2 : Nat) : Int)) := Lib.hid (by unfold wrap64; omega)
    have e16 : Hid (wrap64 ((i : Int) - 16) = ((i - 16 : Nat) : Int)) := Lib.hid (by unfold wrap64; omega)
    have e7 : Hid (wrap64 ((i : Int) - 7) = ((i - 7 : Nat) : Int)) := Lib.hid (by unfold wrap64; omega)
    have e1 : Hid (wrap64 ((i : Int) + 1) = ((i + 1 : Nat) : Int)) := Lib.hid (by unfold wrap64; omega)
    have key := hrec i h16 (by omega)
    have hn := take_next W i (by omega)
    have r15 := rd_take W i (i - 15) (by omega)
    have r16 := rd_take W i (i - 16) (by omega)
    have r7 := rd_take W i (i - 7) (by omega)
    have r2 := rd_take W i (i - 2) (by omega)
    have hih := ih k (i + 1) (by omega) (by omega) (by omega)
    rw [hn, key] at hih
    simp only [sluicegateref03_words.l1]
    rw [e15.out, e2.out, e16.out, e7.out, e1.out, hl, r15, r16, r7, r2]
    clear key hn r15 r16 r7 r2 ih hrec hl
    generalize W.getD (i - 15) 0 = x15 at *
    generalize W.getD (i - 16) 0 = x16 at *
    generalize W.getD (i - 7) 0 = x7 at *
    generalize W.getD (i - 2) 0 = x2 at *
    generalize W.take i = T at *
    rw [if_pos (by omega), if_pos (by omega), if_pos (by omega), rot_f x15 7 (by omega) (by omega)]
    simp only [Option.bind_some]
    rw [rot_f x15 18 (by omega) (by omega)]
    simp only [Option.bind_some]
    rw [if_pos (by omega), if_pos (by omega), rot_f x2 17 (by omega) (by omega)]
    simp only [Option.bind_some]
    rw [rot_f x2 19 (by omega) (by omega)]
    simp only [Option.bind_some]
    rw [if_pos (by omega), if_pos (by omega), if_pos (by omega), if_pos (by omega), if_pos (by omega)]
    unfold sg0 sg1 at hih
    generalize Go.bits .xor .u32 (Go.bits .xor .u32 (rr x15 7) (rr x15 18)) (x15 / 8) = s0 at *
    generalize Go.bits .xor .u32 (Go.bits .xor .u32 (rr x2 17) (rr x2 19)) (x2 / 1024) = s1 at *
    have hw : (((x16 + s0) % 4294967296 + x7) % 4294967296 + s1) % 4294967296 = (x16 + x7 + s0 + s1) % 4294967296 := by omega
    rw [hw]
    exact hih
/-- A list of bytes, as numbers. -/
def numsB (l : List UInt8) : List Int := l.map fun x => (x.toNat : Int)
theorem rd_nums (l : List UInt8) (n : Int) (j : Nat) (hn : n = (j : Int)) (h : j < l.length) : rd (numsB l) n = byteAt ⟨l.toArray⟩ j := by
  subst hn
  unfold rd numsB byteAt
  rw [List.getD_eq_getElem?_getD, List.getD_eq_getElem?_getD, List.getElem?_map, show ((j : Int)).toNat = j by omega, List.getElem?_eq_getElem h]
  rfl
theorem words_l0 (l : List UInt8) (hl : l.length = 64) (W : List Int) (hW : W.length = 64) (hrec : ∀ i, 16 ≤ i → i < 64 → W.getD i 0 = (W.getD (i - 16) 0 + W.getD (i - 7) 0 + sg0 (W.getD (i - 15) 0) + sg1 (W.getD (i - 2) 0)) % 4294967296)
    (hfst : ∀ i, i < 16 → W.getD i 0 = byteAt ⟨l.toArray⟩ (4 * i) * 16777216 + byteAt ⟨l.toArray⟩ (4 * i + 1) * 65536 + byteAt ⟨l.toArray⟩ (4 * i + 2) * 256 + byteAt ⟨l.toArray⟩ (4 * i + 3)) (d : Nat) : ∀ (k i : Nat), i + d = 16 → d + 49 < k → sluicegateref03_words.l0 k (numsB l) (W.take i) (i : Int) = some W := by
  have hnl : (numsB l).length = 64 := by unfold numsB; rw [List.length_map, hl]
  induction d with
  | zero =>
    intro k i hi hk
    obtain ⟨k, rfl⟩ : ∃ m, k = m + 1 := ⟨k - 1, by omega⟩
    have hi16 : ¬ (i : Int) < 16 := by omega
    have h := words_l1 W hW hrec (64 - i) k i (by omega) (by omega) (by omega)
    have hii : (i : Int) = 16 := by omega
    rw [hii] at h
    simp only [sluicegateref03_words.l0]
    rw [if_neg hi16]
    exact h
  | succ d ih =>
    intro k i hi hk
    obtain ⟨k, rfl⟩ : ∃ m, k = m + 1 := ⟨k - 1, by omega⟩
    have hlt : (W.take i).length = i := by rw [List.length_take]; omega
    have e4 : Hid (wrap64 (4 * (i : Int)) = 4 * (i : Int)) := Lib.hid (by unfold wrap64; omega)
    have f1 : Hid (wrap64 (4 * (i : Int) + 1) = 4 * (i : Int) + 1) := Lib.hid (by unfold wrap64; omega)
    have f2 : Hid (wrap64 (4 * (i : Int) + 2) = 4 * (i : Int) + 2) := Lib.hid (by unfold wrap64; omega)
    have f3 : Hid (wrap64 (4 * (i : Int) + 3) = 4 * (i : Int) + 3) := Lib.hid (by unfold wrap64; omega)
    have e1 : Hid (wrap64 ((i : Int) + 1) = ((i + 1 : Nat) : Int)) := Lib.hid (by unfold wrap64; omega)
    have key := hfst i (by omega)
    have hn := take_next W i (by omega)
    have b0 := rd_nums l (4 * (i : Int)) (4 * i) (by omega) (by omega)
    have b1 := rd_nums l (4 * (i : Int) + 1) (4 * i + 1) (by omega) (by omega)
    have b2 := rd_nums l (4 * (i : Int) + 2) (4 * i + 2) (by omega) (by omega)
    have b3 := rd_nums l (4 * (i : Int) + 3) (4 * i + 3) (by omega) (by omega)
    have hw := word_ref _ _ _ _ (byteAt_rng ⟨l.toArray⟩ (4 * i)) (byteAt_rng ⟨l.toArray⟩ (4 * i + 1)) (byteAt_rng ⟨l.toArray⟩ (4 * i + 2)) (byteAt_rng ⟨l.toArray⟩ (4 * i + 3))
    have hih := ih k (i + 1) (by omega) (by omega)
    rw [hn, key, ← hw] at hih
    simp only [sluicegateref03_words.l0]
    rw [e4.out, f1.out, f2.out, f3.out, e1.out, hnl, hlt, b0, b1, b2, b3]
    rw [if_pos (by omega), if_pos (by omega), if_pos (by omega), if_pos (by omega), if_pos (by omega), if_pos (by omega), if_pos (by omega), if_pos (by omega), if_pos (by omega), if_pos (by omega)]
    exact hih
theorem words_f (l : List UInt8) (hl : l.length = 64) : sluicegateref03_words.f 70 (numsB l) = some (wlAll ⟨l.toArray⟩) := by
  have h := words_l0 l hl (wlAll ⟨l.toArray⟩) (wlAll_len _) (fun i h16 hi => by
    have key := wlAll_at ⟨l.toArray⟩ i hi
    unfold wAt at key
    rw [if_neg (by omega), wl_get _ i _ (by omega) (by omega), wl_get _ i _ (by omega) (by omega), wl_get _ i _ (by omega) (by omega), wl_get _ i _ (by omega) (by omega)] at key
    exact key) (fun i hi => by
    have key := wlAll_at ⟨l.toArray⟩ i (by omega)
    unfold wAt at key
    rw [if_pos (by omega), acc4] at key
    exact key) 16 70 0 rfl (by decide)
  rw [List.take_zero] at h
  exact h
end Go.Proofs.Ytaobnbmpeplefaa
