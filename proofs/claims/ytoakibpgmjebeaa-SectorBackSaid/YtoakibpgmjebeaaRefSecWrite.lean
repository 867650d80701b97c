/- The document's bytes of a number and of a text (sluicegateref05). -/
import Derived.Test.YtoakibpgmjebeaaQE
import Derived.Test.YtoakibpgmjebeaaPackFn
import Derived.Test.YtoakibpgmjebeaaSecWrite
import Derived.Test.YtoakibpgmjebeaaQBelow2
namespace Go.Proofs.Ytoakibpgmjebeaa
open Go.RowKit Go.Proofs.Ytoakibpgmjebeaa.Q Go.Proofs.YtoakibpgmjebeaaW.PrintWords Go.Proofs.YtoakibpgmjebeaaW.PrintLast
theorem rnumber_loop (j : Nat) : ∀ (n k : Nat), n < 2 ^ 56 → n < 128 ^ (j + 1) → 2 * j + 2 ≤ k → sluicegateref05_Number.f k (n : Int) = some (B (enc n)) := by
  induction j with
  | zero =>
    intro n k h56 hn hk
    obtain ⟨k, rfl⟩ : ∃ m, k = m + 1 + 1 := ⟨k - 2, by omega⟩
    simp only [sluicegateref05_Number.f, sluicegateref05_Most.f, Option.bind_some]
    have e : decide ((n : Int) > 72057594037927935) = false := by simp; omega
    rw [if_neg (by omega), e]
    simp only [sluicegateref05_Number.j0]
    rw [if_neg (by decide), if_pos (by omega), enc_lt (by omega), ← nb_one n (by omega), strOfNums_nb]
  | succ j ih =>
    intro n k h56 hn hk
    obtain ⟨k, rfl⟩ : ∃ m, k = m + 1 + 1 := ⟨k - 2, by omega⟩
    simp only [sluicegateref05_Number.f, sluicegateref05_Most.f, Option.bind_some]
    have e : decide ((n : Int) > 72057594037927935) = false := by simp; omega
    rw [if_neg (by omega), e]
    simp only [sluicegateref05_Number.j0]
    rw [if_neg (by decide)]
    by_cases h : n < 128
    · rw [if_pos (by omega), enc_lt (by omega), ← nb_one n (by omega), strOfNums_nb]
    · rw [if_neg (by omega)]
      simp only [Option.bind_some]
      have e1 : wrap64 (Int.tdiv (n : Int) 128) = ((n / 128 : Nat) : Int) := by
        rw [Int.tdiv_eq_ediv_of_nonneg (by omega)]; unfold wrap64; omega
      have e2 : wrap64 (128 + Int.tmod (n : Int) 128) % 256 = ((128 + n % 128 : Nat) : Int) := by
        rw [Int.tmod_eq_emod_of_nonneg (by omega)]; unfold wrap64; omega
      have e3 : strOfNums [((128 + n % 128 : Nat) : Int)] = B [UInt8.ofNat (128 + n % 128)] := by
        rw [← strOfNums_nb]
        simp only [nb, List.map_cons, List.map_nil]
        rw [u8_toNat _ (by omega)]
      have hq : n / 128 < 128 ^ (j + 1) := by
        rw [Nat.pow_succ] at hn
        exact Nat.div_lt_of_lt_mul (by omega)
      have h8 := enc_len8 (m := n / 128) (by omega)
      rw [e1, e2, e3, ih (n / 128) k (by omega) hq (by omega)]
      simp only [Option.bind_some]
      rw [if_pos (by rw [B_size, B_size, List.length_singleton]; omega), B_append, enc_ge (n := n) (by omega), List.singleton_append]
theorem rnumber_f (n k : Nat) (h : n < 2 ^ 56) (hk : 20 ≤ k) : sluicegateref05_Number.f k (n : Int) = some (B (enc n)) := rnumber_loop 7 n k h (by simpa using h) (by omega)
theorem rnumber_bad (n : Int) (k : Nat) (h : n < 0 ∨ 2 ^ 56 ≤ n) (hk : 2 ≤ k) : sluicegateref05_Number.f k n = some (B []) := by
  obtain ⟨k, rfl⟩ : ∃ m, k = m + 1 + 1 := ⟨k - 2, by omega⟩
  simp only [sluicegateref05_Number.f, sluicegateref05_Most.f, Option.bind_some]
  by_cases h0 : n < 0
  · rw [if_pos h0]
    simp only [sluicegateref05_Number.j0]
    rw [if_pos trivial]; rfl
  · have e : decide (n > 72057594037927935) = true := by simp; omega
    rw [if_neg h0, e]
    simp only [sluicegateref05_Number.j0]
    rw [if_pos trivial]; rfl
theorem rtxt_f (s : List UInt8) (k : Nat) (h : s.length ≤ 140737488355328) (hk : 20 ≤ k) : sluicegateref05_Text.f k (B s) = some (B (txt s)) := by
  unfold sluicegateref05_Text.f
  rw [B_size, rnumber_f s.length k (by omega) hk]
  simp only [Option.bind_some]
  have := enc_len8 (m := s.length) (by omega)
  rw [if_pos (by rw [B_size]; omega), B_append]
  rfl
end Go.Proofs.Ytoakibpgmjebeaa
/-! sluicegateref07.Write: its walk. -/
namespace Go.Proofs.Ytoakibpgmjebeaa
open Go.RowKit Q Go.Proofs.YtoakibpgmjebeaaW.PrintWords Go.Proofs.YtoakibpgmjebeaaW.PrintLast Go.Proofs.YtoakibpgmjebeaaW.PrintMore
theorem rcheck_f (v g i d s : Int) (t : ByteArray) : sluicegateref07_Check.f 1 v g i d s t = some (chk v g i d s t.size) := by
  have hj : sluicegateref07_Check.j0 1 true v g i d s t = some 1 := rfl
  have hj0 : sluicegateref07_Check.j0 1 false v g i d s t = some (if t.size ≤ 64 then 0 else 12) := by
    simp only [sluicegateref07_Check.j0]
    rw [if_neg (by decide)]
    by_cases h : t.size ≤ 64
    · rw [if_neg (by omega), if_pos h]
    · rw [if_pos (by omega), if_neg h]
  unfold sluicegateref07_Check.f
  by_cases h0 : v < 0
  · rw [if_pos h0, hj, show chk v g i d s t.size = 1 from if_neg (by omega)]
  rw [if_neg h0]
  by_cases h1 : v > 1099511627776
  · rw [if_pos h1, hj, show chk v g i d s t.size = 1 from if_neg (by omega)]
  rw [if_neg h1]
  by_cases h2 : g < 0
  · rw [if_pos h2, hj, show chk v g i d s t.size = 1 from if_neg (by omega)]
  rw [if_neg h2]
  by_cases h3 : g > 1099511627776
  · rw [if_pos h3, hj, show chk v g i d s t.size = 1 from if_neg (by omega)]
  rw [if_neg h3]
  by_cases h4 : i < 0
  · rw [if_pos h4, hj, show chk v g i d s t.size = 1 from if_neg (by omega)]
  rw [if_neg h4]
  by_cases h5 : i > 8
  · rw [if_pos h5, hj, show chk v g i d s t.size = 1 from if_neg (by omega)]
  rw [if_neg h5]
  by_cases h6 : d < 0
  · rw [if_pos h6, hj, show chk v g i d s t.size = 1 from if_neg (by omega)]
  rw [if_neg h6]
  by_cases h7 : d > 11
  · rw [if_pos h7, hj, show chk v g i d s t.size = 1 from if_neg (by omega)]
  rw [if_neg h7]
  by_cases h8 : s < 0
  · rw [if_pos h8, hj, show chk v g i d s t.size = 1 from if_neg (by omega)]
  rw [if_neg h8]
  by_cases h9 : s > 47
  · rw [decide_eq_true h9, hj, show chk v g i d s t.size = 1 from if_neg (by omega)]
  rw [decide_eq_false h9, hj0, show chk v g i d s t.size = _ from if_pos (by omega)]
theorem rnum_q (v : Int) (h0 : 0 ≤ v) {m : Int} (h1 : v ≤ m) (hm : m ≤ 1099511627776 := by decide) : ∃ b : ByteArray, b = B (enc v.toNat) ∧ b.size ≤ 8 ∧ ∀ w : World, Calls Try.prog 25 #[.int .i64 v] w fun e w' => e = .returned (.string b) ∧ Below w.heap.size w w' := by
  have hlt : v.toNat < 2 ^ 56 := by omega
  refine ⟨_, rfl, by rw [B_size]; exact enc_len8 hlt, fun w => ?_⟩
  have := sluicegateref05_Number.calls 20 _ _ w (rnumber_f v.toNat 20 hlt (Nat.le_refl _))
  rw [Int.toNat_of_nonneg h0] at this
  exact this
theorem rtxt_q (t : ByteArray) (h : t.size ≤ 64) : ∃ b : ByteArray, b = B (txt t.data.toList) ∧ b.size ≤ 72 ∧ ∀ w : World, Calls Try.prog 26 #[.string t] w fun e w' => e = .returned (.string b) ∧ Below w.heap.size w w' := by
  refine ⟨_, rfl, by rw [B_size]; exact txt_len _ (by rw [size_data]; exact h), fun w => ?_⟩
  have hf := rtxt_f t.data.toList 20 (by rw [size_data]; omega) (Nat.le_refl _)
  rw [B_eta] at hf
  exact sluicegateref05_Text.calls 20 _ _ w hf
theorem rseal_B (l : List UInt8) (w : World) (h : l.length ≤ 200) : Calls Try.prog 19 #[.string (B l)] w fun e w' => e = .returned (.string (B (sealL l))) ∧ Below w.heap.size w w' :=
  sluicegateref04_Seal.calls _ _ w (rseal_f l (by omega))
set_option maxRecDepth 100000 in
set_option maxHeartbeats 1000000 in
theorem rwrite_calls (v g i d s : Int) (t : ByteArray) (w : World) : Calls Try.prog 13 #[.agg #[.int .i64 v, .int .i64 g, .int .i64 i, .int .i64 d, .int .i64 s, .string t]] w fun e w' => e = .returned (.tuple #[.string (secW v g i d s t).1, .int .i64 (secW v g i d s t).2]) ∧ Below w.heap.size w w' := by
  have hu25 := Try.underlying25
  have hu23 := Try.underlying23
  have HB : Aside0 (Below w.heap.size w (w.alloc (.cells #[.int .i64 v, .int .i64 g, .int .i64 i, .int .i64 d, .int .i64 s, .string t] 25))) := ⟨(Below.refl _ _).alloc (Nat.le_refl _) _⟩
  by_cases hc : chk v g i d s t.size = 0
  · have hW : secW v g i d s t = (B (sealL (secT v.toNat g.toNat i.toNat d.toNat s.toNat t.data.toList)), 0) := if_pos hc
    rw [hW]
    have HCK := Lib.hid hc
    clear hW hc
    go_enter Try.func13, Try.ntmps13
    go_wp2_with fail
    refine Calls.mono (sluicegateref07_Check.calls 1 v g i d s t _ _ (rcheck_f v g i d s t)) ?_
    rintro e w1 ⟨rfl, b1⟩
    rw [HCK.out]
    have hblk : w1.heap[w.heap.size]? = some (.cells #[.int .i64 v, .int .i64 g, .int .i64 i, .int .i64 d, .int .i64 s, .string t] 25 (0, 0)) := (b1.block _ (by simp)).trans (heap_alloc_new w _)
    have hlt : w.heap.size < w1.heap.size := (Array.getElem?_eq_some_iff.1 hblk).1
    have HB := Aside0.mk (below2 HB.out HB.out.size b1)
    obtain ⟨c0, c1, c2, c3, c4, c5⟩ := six hblk
    have hr := chk_ok HCK.out
    have HR := Lib.hid hr.1
    have HT := Lib.hid hr.2
    clear b1 hblk hr
    go_wp2_with fail
    obtain ⟨b1, e1, z1, N1⟩ := rnum_q v HR.out.1 HR.out.2.1
    obtain ⟨b2, e2, z2, N2⟩ := rnum_q g HR.out.2.2.1 HR.out.2.2.2.1
    obtain ⟨b3, e3, z3, N3⟩ := rnum_q i HR.out.2.2.2.2.1 HR.out.2.2.2.2.2.1
    obtain ⟨b4, e4, z4, N4⟩ := rnum_q d HR.out.2.2.2.2.2.2.1 HR.out.2.2.2.2.2.2.2.1
    obtain ⟨b5, e5, z5, N5⟩ := rnum_q s HR.out.2.2.2.2.2.2.2.2.1 HR.out.2.2.2.2.2.2.2.2.2
    obtain ⟨b6, e6, z6, N6⟩ := rtxt_q t HT.out
    have y1 : ¬ 9223372036854775807 < 2 + b1.size := by omega
    have y2 : ¬ 9223372036854775807 < 2 + b1.size + b2.size := by omega
    have y3 : ¬ 9223372036854775807 < 2 + b1.size + b2.size + b3.size := by omega
    have y4 : ¬ 9223372036854775807 < 2 + b1.size + b2.size + b3.size + b4.size := by omega
    have y5 : ¬ 9223372036854775807 < 2 + b1.size + b2.size + b3.size + b4.size + b5.size := by omega
    have y6 : ¬ 9223372036854775807 < 2 + b1.size + b2.size + b3.size + b4.size + b5.size + b6.size := by omega
    have HS : Hid ((⟨#[83, 71]⟩ : ByteArray) ++ b1 ++ b2 ++ b3 ++ b4 ++ b5 ++ b6 = B (secT v.toNat g.toNat i.toNat d.toNat s.toNat t.data.toList)) := Lib.hid (by
      rw [e1, e2, e3, e4, e5, e6]
      have : (⟨#[83, 71]⟩ : ByteArray) = B [83, 71] := rfl
      rw [this]
      simp only [B_append]
      unfold secT
      simp only [List.append_assoc])
    have HLn := Lib.hid (secT_B HR.out HT.out).2
    clear z1 z2 z3 z4 z5 z6 e1 e2 e3 e4 e5 e6
    refine region_below_tail 26 (by kernel_rfl) (by kernel_rfl) ?_
    simp only [List.take_succ_cons, List.take_zero, List.drop_succ_cons, List.drop_zero]
    repeat (first | go_big_quiet_step (fail) | (refine BigFrame.wpQuiet_want (by rfl) (fun K hK => ?_); go_big_quiet_op; refine ⟨_, fun _ _ => rfl, hK _ ?_⟩; clear hK K) | (refine q_ld 3 _ _ _ _ rfl rfl rfl rfl (ld_int _ _) (by assumption) (by assumption) ?_; simp only [Act.put, List.setIfInBounds_toArray, List.set_cons_zero, List.set_cons_succ]) | (refine q_ld 9 _ _ _ _ rfl rfl rfl rfl (ld_str _ _) (by assumption) (by assumption) ?_; simp only [Act.put, List.setIfInBounds_toArray, List.set_cons_zero, List.set_cons_succ]) | (refine q_go (f := 25) Try.func25 (by kernel_rfl) rfl #[.int .i64 v] _ _ rfl rfl rfl (by simp only [List.map_toArray, List.map_cons, List.map_nil]; rfl) (fun w' _ => N1 w') ?_; simp only [Act.put, List.setIfInBounds_toArray, List.set_cons_zero, List.set_cons_succ]) | (refine q_go (f := 25) Try.func25 (by kernel_rfl) rfl #[.int .i64 g] _ _ rfl rfl rfl (by simp only [List.map_toArray, List.map_cons, List.map_nil]; rfl) (fun w' _ => N2 w') ?_; simp only [Act.put, List.setIfInBounds_toArray, List.set_cons_zero, List.set_cons_succ]) | (refine q_go (f := 25) Try.func25 (by kernel_rfl) rfl #[.int .i64 i] _ _ rfl rfl rfl (by simp only [List.map_toArray, List.map_cons, List.map_nil]; rfl) (fun w' _ => N3 w') ?_; simp only [Act.put, List.setIfInBounds_toArray, List.set_cons_zero, List.set_cons_succ]) | (refine q_go (f := 25) Try.func25 (by kernel_rfl) rfl #[.int .i64 d] _ _ rfl rfl rfl (by simp only [List.map_toArray, List.map_cons, List.map_nil]; rfl) (fun w' _ => N4 w') ?_; simp only [Act.put, List.setIfInBounds_toArray, List.set_cons_zero, List.set_cons_succ]) | (refine q_go (f := 25) Try.func25 (by kernel_rfl) rfl #[.int .i64 s] _ _ rfl rfl rfl (by simp only [List.map_toArray, List.map_cons, List.map_nil]; rfl) (fun w' _ => N5 w') ?_; simp only [Act.put, List.setIfInBounds_toArray, List.set_cons_zero, List.set_cons_succ]) | (refine q_go (f := 26) Try.func26 (by kernel_rfl) rfl #[.string t] _ _ rfl rfl rfl (by simp only [List.map_toArray, List.map_cons, List.map_nil]; rfl) (fun w' _ => N6 w') ?_; simp only [Act.put, List.setIfInBounds_toArray, List.set_cons_zero, List.set_cons_succ]))
    refine wpQuiet_nil ?_
    intro wn hw'
    have HB := Aside0.mk (below2 HB.out HB.out.size hw')
    clear hw' c0 c1 c2 c3 c4 c5 y1 y2 y3 y4 y5 y6 N1 N2 N3 N4 N5 N6
    go_wp2_with fail
    rw [HS.out]
    refine Calls.mono (rseal_B _ wn HLn.out) ?_
    rintro e w5 ⟨rfl, b5⟩
    have HB := Aside0.mk (below2 HB.out HB.out.size b5)
    clear b5
    go_wp2_with fail
    go_ret2
    exact ⟨rfl, HB.out⟩
  · have hW : secW v g i d s t = (B [], chk v g i d s t.size) := if_neg hc
    rw [hW]
    generalize hk : chk v g i d s t.size = k at *
    have HK := Lib.hid hk
    have hne : (k == 0) = false := by simpa using hc
    have hne2 : (k != 0) = true := by simp [bne, hne]
    clear hW hk hc
    go_enter Try.func13, Try.ntmps13
    go_wp2_with fail
    refine Calls.mono (sluicegateref07_Check.calls 1 v g i d s t _ _ (rcheck_f v g i d s t)) ?_
    rintro e w1 ⟨rfl, b1⟩
    rw [HK.out]
    have HB := Aside0.mk (below2 HB.out HB.out.size b1)
    clear b1
    go_wp2_with fail
    go_ret2
    exact ⟨rfl, HB.out⟩
/-- sluicegateref07.Write, in the form in which its callers take it. -/
def sluicegateref07_Write.f (a0_0 a0_1 a0_2 a0_3 a0_4 : Int) (a0_5 : ByteArray) : Option (ByteArray × Int) := some (secW a0_0 a0_1 a0_2 a0_3 a0_4 a0_5)
theorem sluicegateref07_Write.calls (a0_0 a0_1 a0_2 a0_3 a0_4 : Int) (a0_5 : ByteArray) (r1 : ByteArray) (r2 : Int) (w : World) (h : sluicegateref07_Write.f a0_0 a0_1 a0_2 a0_3 a0_4 a0_5 = some (r1, r2)) :
    Calls Try.prog 13 #[.agg #[.int .i64 a0_0, .int .i64 a0_1, .int .i64 a0_2, .int .i64 a0_3, .int .i64 a0_4, .string a0_5]] w fun e w' => e = .returned (.tuple #[.string r1, .int .i64 r2]) ∧ Below w.heap.size w w' := by
  have e := Option.some.inj h
  have := rwrite_calls a0_0 a0_1 a0_2 a0_3 a0_4 a0_5 w
  rw [e] at this
  exact this
end Go.Proofs.Ytoakibpgmjebeaa
