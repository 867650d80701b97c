/- Lemmas for the law ReplayChooses, merged out of several texts and cut down to what it names, by a program of this session (some of the first ones are of the words that print.sh wrote for this claim). -/
import Derived.Laws.Rows
import Derived.Laws.Tables
import Derived.Test.YtmfcbfgijimliaaKReplayChooses1
import Derived.Test.YtmfcbfgijimliaaKReplayChooses2
import Derived.Test.YtmfcbfgijimliaaKReplayChooses3
import Derived.Test.YtmfcbfgijimliaaKReplayChooses4
set_option linter.unusedVariables false
set_option linter.unusedSimpArgs false
section
namespace Go.Proofs.Ytmfcbfgijimliaa
open Go.RowKit Q Go.Proofs.YtmfcbfgijimliaaW.PrintWords Go.Proofs.YtmfcbfgijimliaaW.PrintLast Go.Proofs.YtmfcbfgijimliaaW.PrintMore
set_option linter.unusedSimpArgs false
theorem rvolc (V G N : Int) (A : Option Addr) (c : Nat) (l : List S83) (w : World) (hr : Kd.C k83 w A l.length l) (hc : l.length ≤ c) : Calls Try.prog 69 #[.agg #[.int .i64 V, .int .i64 G, .int .i64 N, .slice A l.length c]] w fun e w' => e = .returned (.bool (volP V G N l)) ∧ Below w.heap.size w w' :=
  sluicegateref11_Volume.calls 120 V G N A c l _ w hr hc (rvol_f V G N l 120 (Nat.le_refl _))
theorem keyc (s : ByteArray) (hs : s.size ≤ 140737488355328) (w : World) : Calls Try.prog 70 #[.string s] w fun e w' => e = .returned (.bool (plainK s.data.toList)) ∧ Below w.heap.size w w' := by
  have h := key_f s.data.toList (by rw [size_data]; exact hs) (s.size + 1) (by rw [size_data]; omega)
  rw [B_eta] at h
  refine (sluicegateref08_Key.calls (s.size + 1) s _ w h).mono ?_
  rintro e w' ⟨rfl, hd⟩
  exact ⟨rfl, hd.below⟩
theorem numc (n : Int) (w : World) : Calls Try.prog 71 #[.int .i64 n] w fun e w' => e = .returned (.bool (inB n 1099511627776)) ∧ Below w.heap.size w w' := by
  refine (sluicegateref11_number.calls n _ w (num_f n)).mono ?_
  rintro e w' ⟨rfl, hd⟩
  exact ⟨rfl, hd.below⟩
theorem vol_len {id gen len : Int} {l : List S83} (h : volP id gen len l = true) : 0 ≤ len ∧ len ≤ 384 := by
  unfold volP at h
  simp only [Bool.and_eq_true] at h
  have := h.2.2.2.1
  unfold inB at this
  simp only [Bool.and_eq_true, decide_eq_true_eq] at this
  exact this
theorem rform_0 (q0 q2 q3 q4 : Int) (A : Option Addr) (c : Nat) (l : List S83) (q6 : ByteArray) (q7 q8 q9 : Int) (q10 q11 : ByteArray) (q12 q13 : Int) : chkR (⟨q0, 0, q2, q3, q4, l, q6, q7, q8, q9, q10, q11, q12, q13⟩ : RecP) = (if decide (q0 < 0) = true then 1 else (if decide (63 < q0) = true then 1 else (if volR (⟨q0, 0, q2, q3, q4, l, q6, q7, q8, q9, q10, q11, q12, q13⟩ : RecP) = true then (if plainK q6.data.toList = true then (if (q7 == q2) = true then (if decide (q8 < 0) = true then 1 else (if decide (q9 < 0) = true then 1 else (if decide (384 < q8) = true then 1 else (if decide (384 < q9) = true then 1 else (if decide (q4 < wrap64 (q8 + q9)) = true then 1 else (if ((q10.size : Int) == 32) = true then (finP (⟨q0, 0, q2, q3, q4, l, q6, q7, q8, q9, q10, q11, q12, q13⟩ : RecP)) else 1)))))) else 1) else 11) else 1))) := by
  rw [show chkR (⟨q0, 0, q2, q3, q4, l, q6, q7, q8, q9, q10, q11, q12, q13⟩ : RecP) = if inB q0 63 = true then (if volR (⟨q0, 0, q2, q3, q4, l, q6, q7, q8, q9, q10, q11, q12, q13⟩ : RecP) = true then (if plainK q6.data.toList = true then (if (q7 == q2) = true then (if inB q8 q4 = true then (if inB q9 (wrap64 (q4 - q8)) = true then (if ((q10.size : Int) == 32) = true then finP (⟨q0, 0, q2, q3, q4, l, q6, q7, q8, q9, q10, q11, q12, q13⟩ : RecP) else 1) else 1) else 1) else 1) else 11) else 1) else 1 from rfl]
  generalize finP (⟨q0, 0, q2, q3, q4, l, q6, q7, q8, q9, q10, q11, q12, q13⟩ : RecP) = z
  have hv : volR (⟨q0, 0, q2, q3, q4, l, q6, q7, q8, q9, q10, q11, q12, q13⟩ : RecP) = true → 0 ≤ q4 ∧ q4 ≤ 384 := fun h => vol_len h
  generalize volR (⟨q0, 0, q2, q3, q4, l, q6, q7, q8, q9, q10, q11, q12, q13⟩ : RecP) = v at hv
  generalize plainK q6.data.toList = p
  generalize (q7 == q2) = e1
  generalize ((q10.size : Int) == 32) = e2
  cases v <;> cases p <;> cases e1 <;> cases e2 <;> simp only [inB, wrap64, Bool.and_eq_true, decide_eq_true_eq, Bool.false_eq_true, if_false, if_true, true_implies, forall_const] at * <;> (repeat' split) <;> first | rfl | (exfalso; omega)
set_option maxRecDepth 100000 in
set_option maxHeartbeats 4000000 in
theorem refchk_0 (q0 q2 q3 q4 : Int) (A : Option Addr) (c : Nat) (l : List S83) (q6 : ByteArray) (q7 q8 q9 : Int) (q10 q11 : ByteArray) (q12 q13 : Int) (w : World) (hr : Kd.C k83 w A l.length l) (hl : l.length ≤ 1000) (hc : l.length ≤ c) (hs6 : q6.size ≤ 140737488355328) (hs11 : q11.size ≤ 140737488355328) : Calls Try.prog 47 #[.agg #[.int .i64 q0, .int .i64 0, .int .i64 q2, .int .i64 q3, .int .i64 q4, (.slice A l.length c), .string q6, .int .i64 q7, .int .i64 q8, .int .i64 q9, .string q10, .string q11, .int .i64 q12, .int .i64 q13]] w fun e w' => e = .returned (.int .i64 (chkR (⟨q0, 0, q2, q3, q4, l, q6, q7, q8, q9, q10, q11, q12, q13⟩ : RecP))) ∧ Below w.heap.size w w' := by
  have hu0 := Try.underlying33
  have hu1 := Try.underlying55
  have hu2 := Try.underlying29
  have hu3 := Try.underlying31
  have hu4 := Try.underlying83
  have HF := Lib.hid (rform_0 q0 q2 q3 q4 A c l q6 q7 q8 q9 q10 q11 q12 q13)
  have HC := Lib.hid hr
  have HL := Lib.hid hl
  have HCC := Lib.hid hc
  have HS6 := Lib.hid hs6
  have HS11 := Lib.hid hs11
  clear hr hl hc hs6 hs11
  have HB : Aside0 (Below w.heap.size w (w.alloc (.cells #[.int .i64 q0, .int .i64 0, .int .i64 q2, .int .i64 q3, .int .i64 q4, (.slice A l.length c), .string q6, .int .i64 q7, .int .i64 q8, .int .i64 q9, .string q10, .string q11, .int .i64 q12, .int .i64 q13] 33))) := ⟨below_alloc (Below.refl _ _) _⟩
  have HR : Aside0 (Blk (w.alloc (.cells #[.int .i64 q0, .int .i64 0, .int .i64 q2, .int .i64 q3, .int .i64 q4, (.slice A l.length c), .string q6, .int .i64 q7, .int .i64 q8, .int .i64 q9, .string q10, .string q11, .int .i64 q12, .int .i64 q13] 33)) w.heap.size #[.int .i64 q0, .int .i64 0, .int .i64 q2, .int .i64 q3, .int .i64 q4, (.slice A l.length c), .string q6, .int .i64 q7, .int .i64 q8, .int .i64 q9, .string q10, .string q11, .int .i64 q12, .int .i64 q13] 33) := ⟨Blk.new w _ _⟩
  obtain ⟨d0, d1, d2, d3, d4, d5, d6, d7, d8, d9, d10, d11, d12, d13⟩ := cells14 HR.out
  go_enter Try.func47, Try.ntmps47
  cases h0 : decide (q0 < 0) with
  | true =>
    go_wp2_with fail
    go_ret
    exact ⟨by rw [HF.out, if_pos h0]; rfl, HB.out⟩
  | false =>
    cases h1 : decide (63 < q0) with
    | true =>
      go_wp2_with fail
      go_ret
      exact ⟨by rw [HF.out, if_neg (by rw [h0]; decide), if_pos h1]; rfl, HB.out⟩
    | false =>
      cases h2 : volR (⟨q0, 0, q2, q3, q4, l, q6, q7, q8, q9, q10, q11, q12, q13⟩ : RecP) with
      | false =>
        go_wp2_with fail
        clear d0 d1 d2 d3 d4 d5 d6 d7 d8 d9 d10 d11 d12 d13
        refine (rvolc q2 q3 q4 A c l _ (Kd.C_below HC.out HB.out) HCC.out).mono ?_
        rintro e w1 ⟨rfl, b1⟩
        rw [show volP q2 q3 q4 l = false from h2]
        replace HB := Aside0.mk (below2 HB.out HB.out.size b1)
        replace HR := Aside0.mk (HR.out.keep b1)
        clear b1
        obtain ⟨d0, d1, d2, d3, d4, d5, d6, d7, d8, d9, d10, d11, d12, d13⟩ := cells14 HR.out
        go_wp2_with fail
        go_ret
        exact ⟨by rw [HF.out, if_neg (by rw [h0]; decide), if_neg (by rw [h1]; decide), if_neg (by rw [h2]; decide)]; rfl, HB.out⟩
      | true =>
        go_wp2_with fail
        clear d0 d1 d2 d3 d4 d5 d6 d7 d8 d9 d10 d11 d12 d13
        refine (rvolc q2 q3 q4 A c l _ (Kd.C_below HC.out HB.out) HCC.out).mono ?_
        rintro e w1 ⟨rfl, b1⟩
        rw [show volP q2 q3 q4 l = true from h2]
        replace HB := Aside0.mk (below2 HB.out HB.out.size b1)
        replace HR := Aside0.mk (HR.out.keep b1)
        clear b1
        obtain ⟨d0, d1, d2, d3, d4, d5, d6, d7, d8, d9, d10, d11, d12, d13⟩ := cells14 HR.out
        cases h3 : plainK q6.data.toList with
        | false =>
          go_wp2_with fail
          clear d0 d1 d2 d3 d4 d5 d6 d7 d8 d9 d10 d11 d12 d13
          refine (keyc q6 HS6.out _).mono ?_
          rintro e w1 ⟨rfl, b1⟩
          rw [h3]
          replace HB := Aside0.mk (below2 HB.out HB.out.size b1)
          replace HR := Aside0.mk (HR.out.keep b1)
          clear b1
          obtain ⟨d0, d1, d2, d3, d4, d5, d6, d7, d8, d9, d10, d11, d12, d13⟩ := cells14 HR.out
          go_wp2_with fail
          go_ret
          exact ⟨by rw [HF.out, if_neg (by rw [h0]; decide), if_neg (by rw [h1]; decide), if_pos h2, if_neg (by rw [h3]; decide)]; rfl, HB.out⟩
        | true =>
          go_wp2_with fail
          clear d0 d1 d2 d3 d4 d5 d6 d7 d8 d9 d10 d11 d12 d13
          refine (keyc q6 HS6.out _).mono ?_
          rintro e w1 ⟨rfl, b1⟩
          rw [h3]
          replace HB := Aside0.mk (below2 HB.out HB.out.size b1)
          replace HR := Aside0.mk (HR.out.keep b1)
          clear b1
          obtain ⟨d0, d1, d2, d3, d4, d5, d6, d7, d8, d9, d10, d11, d12, d13⟩ := cells14 HR.out
          cases h4 : (q7 == q2) with
          | false =>
            have h4n : (q7 != q2) = true := by simp [bne, h4]
            go_wp2_with fail
            go_ret
            exact ⟨by rw [HF.out, if_neg (by rw [h0]; decide), if_neg (by rw [h1]; decide), if_pos h2, if_pos h3, if_neg (by rw [h4]; decide)]; rfl, HB.out⟩
          | true =>
            have h4n : (q7 != q2) = false := by simp [bne, h4]
            cases h5 : decide (q8 < 0) with
            | true =>
              go_wp2_with fail
              go_ret
              exact ⟨by rw [HF.out, if_neg (by rw [h0]; decide), if_neg (by rw [h1]; decide), if_pos h2, if_pos h3, if_pos h4, if_pos h5]; rfl, HB.out⟩
            | false =>
              cases h6 : decide (q9 < 0) with
              | true =>
                go_wp2_with fail
                go_ret
                exact ⟨by rw [HF.out, if_neg (by rw [h0]; decide), if_neg (by rw [h1]; decide), if_pos h2, if_pos h3, if_pos h4, if_neg (by rw [h5]; decide), if_pos h6]; rfl, HB.out⟩
              | false =>
                cases h7 : decide (384 < q8) with
                | true =>
                  go_wp2_with fail
                  go_ret
                  exact ⟨by rw [HF.out, if_neg (by rw [h0]; decide), if_neg (by rw [h1]; decide), if_pos h2, if_pos h3, if_pos h4, if_neg (by rw [h5]; decide), if_neg (by rw [h6]; decide), if_pos h7]; rfl, HB.out⟩
                | false =>
                  cases h8 : decide (384 < q9) with
                  | true =>
                    go_wp2_with fail
                    go_ret
                    exact ⟨by rw [HF.out, if_neg (by rw [h0]; decide), if_neg (by rw [h1]; decide), if_pos h2, if_pos h3, if_pos h4, if_neg (by rw [h5]; decide), if_neg (by rw [h6]; decide), if_neg (by rw [h7]; decide), if_pos h8]; rfl, HB.out⟩
                  | false =>
                    cases h9 : decide (q4 < wrap64 (q8 + q9)) with
                    | true =>
                      go_wp2_with fail
                      go_ret
                      exact ⟨by rw [HF.out, if_neg (by rw [h0]; decide), if_neg (by rw [h1]; decide), if_pos h2, if_pos h3, if_pos h4, if_neg (by rw [h5]; decide), if_neg (by rw [h6]; decide), if_neg (by rw [h7]; decide), if_neg (by rw [h8]; decide), if_pos h9]; rfl, HB.out⟩
                    | false =>
                      cases h10 : ((q10.size : Int) == 32) with
                      | false =>
                        have h10n : ((q10.size : Int) != 32) = true := by simp [bne, h10]
                        go_wp2_with fail
                        go_ret
                        exact ⟨by rw [HF.out, if_neg (by rw [h0]; decide), if_neg (by rw [h1]; decide), if_pos h2, if_pos h3, if_pos h4, if_neg (by rw [h5]; decide), if_neg (by rw [h6]; decide), if_neg (by rw [h7]; decide), if_neg (by rw [h8]; decide), if_neg (by rw [h9]; decide), if_neg (by rw [h10]; decide)]; rfl, HB.out⟩
                      | true =>
                        have h10n : ((q10.size : Int) != 32) = false := by simp [bne, h10]
                        go_wp2_with fail
                        obtain ⟨qq, hqq⟩ : ∃ qq, decide ((namedP (⟨q0, 0, q2, q3, q4, l, q6, q7, q8, q9, q10, q11, q12, q13⟩ : RecP)) = (⟨q0, 0, q2, q3, q4, l, q6, q7, q8, q9, q10, q11, q12, q13⟩ : RecP)) = qq := ⟨_, rfl⟩
                        have HQ := Lib.hid hqq
                        clear hqq
                        clear d0 d1 d2 d3 d4 d5 d6 d7 d8 d9 d10 d11 d12 d13
                        refine region_below_tail 4 (by kernel_rfl) (by kernel_rfl) ?_
                        simp only [List.take_succ_cons, List.take_zero, List.drop_succ_cons, List.drop_zero]
                        repeat (first | go_big_quiet_step (fail) | (refine BigFrame.wpQuiet_want (by rfl) (fun K hK => ?_); go_big_quiet_op; refine ⟨_, fun _ _ => rfl, hK _ ?_⟩; clear hK K) | (refine q_rdw 33 _ _ ⟨w.heap.size, 0, none⟩ (.agg #[.int .i64 q0, .int .i64 0, .int .i64 q2, .int .i64 q3, .int .i64 q4, (.slice A l.length c), .string q6, .int .i64 q7, .int .i64 q8, .int .i64 q9, .string q10, .string q11, .int .i64 q12, .int .i64 q13]) rfl rfl (by rfl) rfl (fun w' hw' => run_loadAt_mid w' w.heap.size 0 33 #[.int .i64 q0, .int .i64 0, .int .i64 q2, .int .i64 q3, .int .i64 q4, (.slice A l.length c), .string q6, .int .i64 q7, .int .i64 q8, .int .i64 q9, .string q10, .string q11, .int .i64 q12, .int .i64 q13].toList _ ((HR.out.keep hw').range 0 _ rfl) hu0 rfl (by kernel_rfl)) ?_; simp only [Act.put, List.setIfInBounds_toArray, List.set_cons_zero, List.set_cons_succ]) | (refine q_go (f := 72) Try.func72 (by kernel_rfl) rfl #[.agg #[.int .i64 q0, .int .i64 0, .int .i64 q2, .int .i64 q3, .int .i64 q4, (.slice A l.length c), .string q6, .int .i64 q7, .int .i64 q8, .int .i64 q9, .string q10, .string q11, .int .i64 q12, .int .i64 q13]] (.agg #[.int .i64 q0, .int .i64 0, .int .i64 q2, .int .i64 q3, .int .i64 q4, (.slice A l.length c), .string q6, .int .i64 q7, .int .i64 q8, .int .i64 q9, .string q10, .string ⟨#[]⟩, .int .i64 0, .int .i64 0]) _ rfl rfl rfl (by simp only [List.map_toArray, List.map_cons, List.map_nil]; rfl) (fun w' _ => only_0 q0 0 q2 q3 q4 A l.length c q6 q7 q8 q9 q10 q11 q12 q13 w' rfl) ?_; simp only [Act.put, List.setIfInBounds_toArray, List.set_cons_zero, List.set_cons_succ]) | (refine q_go (f := 27) Try.func27 (by kernel_rfl) rfl #[.agg #[.int .i64 q0, .int .i64 0, .int .i64 q2, .int .i64 q3, .int .i64 q4, (.slice A l.length c), .string q6, .int .i64 q7, .int .i64 q8, .int .i64 q9, .string q10, .string ⟨#[]⟩, .int .i64 0, .int .i64 0], .agg #[.int .i64 q0, .int .i64 0, .int .i64 q2, .int .i64 q3, .int .i64 q4, (.slice A l.length c), .string q6, .int .i64 q7, .int .i64 q8, .int .i64 q9, .string q10, .string q11, .int .i64 q12, .int .i64 q13]] (.bool (decide ((namedP (⟨q0, 0, q2, q3, q4, l, q6, q7, q8, q9, q10, q11, q12, q13⟩ : RecP)) = (⟨q0, 0, q2, q3, q4, l, q6, q7, q8, q9, q10, q11, q12, q13⟩ : RecP)))) _ rfl rfl rfl (by simp only [List.map_toArray, List.map_cons, List.map_nil]; rfl) (fun w' hw' => rsames_calls (namedP (⟨q0, 0, q2, q3, q4, l, q6, q7, q8, q9, q10, q11, q12, q13⟩ : RecP)) (⟨q0, 0, q2, q3, q4, l, q6, q7, q8, q9, q10, q11, q12, q13⟩ : RecP) A A c c w' (Kd.C_below HC.out (below2 HB.out HB.out.size hw')) (Kd.C_below HC.out (below2 HB.out HB.out.size hw')) HCC.out HCC.out HL.out) ?_; rw [HQ.out]; simp only [Act.put, List.setIfInBounds_toArray, List.set_cons_zero, List.set_cons_succ]))
                        refine wpQuiet_nil ?_
                        intro wn hw'
                        replace HB := Aside0.mk (below2 HB.out HB.out.size hw')
                        clear hw'
                        cases qq
                        · go_wp2_with fail
                          go_ret
                          exact ⟨by rw [HF.out, if_neg (by rw [h0]; decide), if_neg (by rw [h1]; decide), if_pos h2, if_pos h3, if_pos h4, if_neg (by rw [h5]; decide), if_neg (by rw [h6]; decide), if_neg (by rw [h7]; decide), if_neg (by rw [h8]; decide), if_neg (by rw [h9]; decide), if_pos h10]; unfold finP; rw [HQ.out]; rfl, HB.out⟩
                        · go_wp2_with fail
                          go_ret
                          exact ⟨by rw [HF.out, if_neg (by rw [h0]; decide), if_neg (by rw [h1]; decide), if_pos h2, if_pos h3, if_pos h4, if_neg (by rw [h5]; decide), if_neg (by rw [h6]; decide), if_neg (by rw [h7]; decide), if_neg (by rw [h8]; decide), if_neg (by rw [h9]; decide), if_pos h10]; unfold finP; rw [HQ.out]; rfl, HB.out⟩
theorem rform_1 (q0 q2 q3 q4 : Int) (A : Option Addr) (c : Nat) (l : List S83) (q6 : ByteArray) (q7 q8 q9 : Int) (q10 q11 : ByteArray) (q12 q13 : Int) : chkR (⟨q0, 1, q2, q3, q4, l, q6, q7, q8, q9, q10, q11, q12, q13⟩ : RecP) = (if decide (q0 < 0) = true then 1 else (if decide (63 < q0) = true then 1 else (if plainK q11.data.toList = true then (finP (⟨q0, 1, q2, q3, q4, l, q6, q7, q8, q9, q10, q11, q12, q13⟩ : RecP)) else 11))) := by
  rw [show chkR (⟨q0, 1, q2, q3, q4, l, q6, q7, q8, q9, q10, q11, q12, q13⟩ : RecP) = if inB q0 63 = true then (if plainK q11.data.toList = true then finP (⟨q0, 1, q2, q3, q4, l, q6, q7, q8, q9, q10, q11, q12, q13⟩ : RecP) else 11) else 1 from rfl]
  generalize finP (⟨q0, 1, q2, q3, q4, l, q6, q7, q8, q9, q10, q11, q12, q13⟩ : RecP) = z
  generalize plainK q11.data.toList = p
  cases p <;> simp only [inB, wrap64, Bool.and_eq_true, decide_eq_true_eq, Bool.false_eq_true, if_false, if_true, true_implies, forall_const] at * <;> (repeat' split) <;> first | rfl | (exfalso; omega)
set_option maxRecDepth 100000 in
set_option maxHeartbeats 4000000 in
theorem refchk_1 (q0 q2 q3 q4 : Int) (A : Option Addr) (c : Nat) (l : List S83) (q6 : ByteArray) (q7 q8 q9 : Int) (q10 q11 : ByteArray) (q12 q13 : Int) (w : World) (hr : Kd.C k83 w A l.length l) (hl : l.length ≤ 1000) (hc : l.length ≤ c) (hs6 : q6.size ≤ 140737488355328) (hs11 : q11.size ≤ 140737488355328) : Calls Try.prog 47 #[.agg #[.int .i64 q0, .int .i64 1, .int .i64 q2, .int .i64 q3, .int .i64 q4, (.slice A l.length c), .string q6, .int .i64 q7, .int .i64 q8, .int .i64 q9, .string q10, .string q11, .int .i64 q12, .int .i64 q13]] w fun e w' => e = .returned (.int .i64 (chkR (⟨q0, 1, q2, q3, q4, l, q6, q7, q8, q9, q10, q11, q12, q13⟩ : RecP))) ∧ Below w.heap.size w w' := by
  have hu0 := Try.underlying33
  have hu1 := Try.underlying55
  have hu2 := Try.underlying29
  have hu3 := Try.underlying31
  have hu4 := Try.underlying83
  have HF := Lib.hid (rform_1 q0 q2 q3 q4 A c l q6 q7 q8 q9 q10 q11 q12 q13)
  have HC := Lib.hid hr
  have HL := Lib.hid hl
  have HCC := Lib.hid hc
  have HS6 := Lib.hid hs6
  have HS11 := Lib.hid hs11
  clear hr hl hc hs6 hs11
  have HB : Aside0 (Below w.heap.size w (w.alloc (.cells #[.int .i64 q0, .int .i64 1, .int .i64 q2, .int .i64 q3, .int .i64 q4, (.slice A l.length c), .string q6, .int .i64 q7, .int .i64 q8, .int .i64 q9, .string q10, .string q11, .int .i64 q12, .int .i64 q13] 33))) := ⟨below_alloc (Below.refl _ _) _⟩
  have HR : Aside0 (Blk (w.alloc (.cells #[.int .i64 q0, .int .i64 1, .int .i64 q2, .int .i64 q3, .int .i64 q4, (.slice A l.length c), .string q6, .int .i64 q7, .int .i64 q8, .int .i64 q9, .string q10, .string q11, .int .i64 q12, .int .i64 q13] 33)) w.heap.size #[.int .i64 q0, .int .i64 1, .int .i64 q2, .int .i64 q3, .int .i64 q4, (.slice A l.length c), .string q6, .int .i64 q7, .int .i64 q8, .int .i64 q9, .string q10, .string q11, .int .i64 q12, .int .i64 q13] 33) := ⟨Blk.new w _ _⟩
  obtain ⟨d0, d1, d2, d3, d4, d5, d6, d7, d8, d9, d10, d11, d12, d13⟩ := cells14 HR.out
  go_enter Try.func47, Try.ntmps47
  cases h0 : decide (q0 < 0) with
  | true =>
    go_wp2_with fail
    go_ret
    exact ⟨by rw [HF.out, if_pos h0]; rfl, HB.out⟩
  | false =>
    cases h1 : decide (63 < q0) with
    | true =>
      go_wp2_with fail
      go_ret
      exact ⟨by rw [HF.out, if_neg (by rw [h0]; decide), if_pos h1]; rfl, HB.out⟩
    | false =>
      cases h2 : plainK q11.data.toList with
      | false =>
        go_wp2_with fail
        clear d0 d1 d2 d3 d4 d5 d6 d7 d8 d9 d10 d11 d12 d13
        refine (keyc q11 HS11.out _).mono ?_
        rintro e w1 ⟨rfl, b1⟩
        rw [h2]
        replace HB := Aside0.mk (below2 HB.out HB.out.size b1)
        replace HR := Aside0.mk (HR.out.keep b1)
        clear b1
        obtain ⟨d0, d1, d2, d3, d4, d5, d6, d7, d8, d9, d10, d11, d12, d13⟩ := cells14 HR.out
        go_wp2_with fail
        go_ret
        exact ⟨by rw [HF.out, if_neg (by rw [h0]; decide), if_neg (by rw [h1]; decide), if_neg (by rw [h2]; decide)]; rfl, HB.out⟩
      | true =>
        go_wp2_with fail
        clear d0 d1 d2 d3 d4 d5 d6 d7 d8 d9 d10 d11 d12 d13
        refine (keyc q11 HS11.out _).mono ?_
        rintro e w1 ⟨rfl, b1⟩
        rw [h2]
        replace HB := Aside0.mk (below2 HB.out HB.out.size b1)
        replace HR := Aside0.mk (HR.out.keep b1)
        clear b1
        obtain ⟨d0, d1, d2, d3, d4, d5, d6, d7, d8, d9, d10, d11, d12, d13⟩ := cells14 HR.out
        go_wp2_with fail
        obtain ⟨qq, hqq⟩ : ∃ qq, decide ((namedP (⟨q0, 1, q2, q3, q4, l, q6, q7, q8, q9, q10, q11, q12, q13⟩ : RecP)) = (⟨q0, 1, q2, q3, q4, l, q6, q7, q8, q9, q10, q11, q12, q13⟩ : RecP)) = qq := ⟨_, rfl⟩
        have HQ := Lib.hid hqq
        clear hqq
        clear d0 d1 d2 d3 d4 d5 d6 d7 d8 d9 d10 d11 d12 d13
        refine region_below_tail 4 (by kernel_rfl) (by kernel_rfl) ?_
        simp only [List.take_succ_cons, List.take_zero, List.drop_succ_cons, List.drop_zero]
        repeat (first | go_big_quiet_step (fail) | (refine BigFrame.wpQuiet_want (by rfl) (fun K hK => ?_); go_big_quiet_op; refine ⟨_, fun _ _ => rfl, hK _ ?_⟩; clear hK K) | (refine q_rdw 33 _ _ ⟨w.heap.size, 0, none⟩ (.agg #[.int .i64 q0, .int .i64 1, .int .i64 q2, .int .i64 q3, .int .i64 q4, (.slice A l.length c), .string q6, .int .i64 q7, .int .i64 q8, .int .i64 q9, .string q10, .string q11, .int .i64 q12, .int .i64 q13]) rfl rfl (by rfl) rfl (fun w' hw' => run_loadAt_mid w' w.heap.size 0 33 #[.int .i64 q0, .int .i64 1, .int .i64 q2, .int .i64 q3, .int .i64 q4, (.slice A l.length c), .string q6, .int .i64 q7, .int .i64 q8, .int .i64 q9, .string q10, .string q11, .int .i64 q12, .int .i64 q13].toList _ ((HR.out.keep hw').range 0 _ rfl) hu0 rfl (by kernel_rfl)) ?_; simp only [Act.put, List.setIfInBounds_toArray, List.set_cons_zero, List.set_cons_succ]) | (refine q_go (f := 72) Try.func72 (by kernel_rfl) rfl #[.agg #[.int .i64 q0, .int .i64 1, .int .i64 q2, .int .i64 q3, .int .i64 q4, (.slice A l.length c), .string q6, .int .i64 q7, .int .i64 q8, .int .i64 q9, .string q10, .string q11, .int .i64 q12, .int .i64 q13]] (.agg #[.int .i64 q0, .int .i64 1, .int .i64 0, .int .i64 0, .int .i64 0, (.slice none 0 0), .string ⟨#[]⟩, .int .i64 0, .int .i64 0, .int .i64 0, .string ⟨#[]⟩, .string q11, .int .i64 0, .int .i64 0]) _ rfl rfl rfl (by simp only [List.map_toArray, List.map_cons, List.map_nil]; rfl) (fun w' _ => only_1 q0 1 q2 q3 q4 A l.length c q6 q7 q8 q9 q10 q11 q12 q13 w' rfl) ?_; simp only [Act.put, List.setIfInBounds_toArray, List.set_cons_zero, List.set_cons_succ]) | (refine q_go (f := 27) Try.func27 (by kernel_rfl) rfl #[.agg #[.int .i64 q0, .int .i64 1, .int .i64 0, .int .i64 0, .int .i64 0, (.slice none 0 0), .string ⟨#[]⟩, .int .i64 0, .int .i64 0, .int .i64 0, .string ⟨#[]⟩, .string q11, .int .i64 0, .int .i64 0], .agg #[.int .i64 q0, .int .i64 1, .int .i64 q2, .int .i64 q3, .int .i64 q4, (.slice A l.length c), .string q6, .int .i64 q7, .int .i64 q8, .int .i64 q9, .string q10, .string q11, .int .i64 q12, .int .i64 q13]] (.bool (decide ((namedP (⟨q0, 1, q2, q3, q4, l, q6, q7, q8, q9, q10, q11, q12, q13⟩ : RecP)) = (⟨q0, 1, q2, q3, q4, l, q6, q7, q8, q9, q10, q11, q12, q13⟩ : RecP)))) _ rfl rfl rfl (by simp only [List.map_toArray, List.map_cons, List.map_nil]; rfl) (fun w' hw' => rsames_calls (namedP (⟨q0, 1, q2, q3, q4, l, q6, q7, q8, q9, q10, q11, q12, q13⟩ : RecP)) (⟨q0, 1, q2, q3, q4, l, q6, q7, q8, q9, q10, q11, q12, q13⟩ : RecP) none A 0 c w' (Kd.C_nil _ w') (Kd.C_below HC.out (below2 HB.out HB.out.size hw')) (Nat.le_refl 0) HCC.out (Nat.zero_le _)) ?_; rw [HQ.out]; simp only [Act.put, List.setIfInBounds_toArray, List.set_cons_zero, List.set_cons_succ]))
        refine wpQuiet_nil ?_
        intro wn hw'
        replace HB := Aside0.mk (below2 HB.out HB.out.size hw')
        clear hw'
        cases qq
        · go_wp2_with fail
          go_ret
          exact ⟨by rw [HF.out, if_neg (by rw [h0]; decide), if_neg (by rw [h1]; decide), if_pos h2]; unfold finP; rw [HQ.out]; rfl, HB.out⟩
        · go_wp2_with fail
          go_ret
          exact ⟨by rw [HF.out, if_neg (by rw [h0]; decide), if_neg (by rw [h1]; decide), if_pos h2]; unfold finP; rw [HQ.out]; rfl, HB.out⟩
theorem rform_2 (q0 q2 q3 q4 : Int) (A : Option Addr) (c : Nat) (l : List S83) (q6 : ByteArray) (q7 q8 q9 : Int) (q10 q11 : ByteArray) (q12 q13 : Int) : chkR (⟨q0, 2, q2, q3, q4, l, q6, q7, q8, q9, q10, q11, q12, q13⟩ : RecP) = (if decide (q0 < 0) = true then 1 else (if decide (63 < q0) = true then 1 else (if volR (⟨q0, 2, q2, q3, q4, l, q6, q7, q8, q9, q10, q11, q12, q13⟩ : RecP) = true then (finP (⟨q0, 2, q2, q3, q4, l, q6, q7, q8, q9, q10, q11, q12, q13⟩ : RecP)) else 1))) := by
  rw [show chkR (⟨q0, 2, q2, q3, q4, l, q6, q7, q8, q9, q10, q11, q12, q13⟩ : RecP) = if inB q0 63 = true then (if volR (⟨q0, 2, q2, q3, q4, l, q6, q7, q8, q9, q10, q11, q12, q13⟩ : RecP) = true then finP (⟨q0, 2, q2, q3, q4, l, q6, q7, q8, q9, q10, q11, q12, q13⟩ : RecP) else 1) else 1 from rfl]
  generalize finP (⟨q0, 2, q2, q3, q4, l, q6, q7, q8, q9, q10, q11, q12, q13⟩ : RecP) = z
  have hv : volR (⟨q0, 2, q2, q3, q4, l, q6, q7, q8, q9, q10, q11, q12, q13⟩ : RecP) = true → 0 ≤ q4 ∧ q4 ≤ 384 := fun h => vol_len h
  generalize volR (⟨q0, 2, q2, q3, q4, l, q6, q7, q8, q9, q10, q11, q12, q13⟩ : RecP) = v at hv
  cases v <;> simp only [inB, wrap64, Bool.and_eq_true, decide_eq_true_eq, Bool.false_eq_true, if_false, if_true, true_implies, forall_const] at * <;> (repeat' split) <;> first | rfl | (exfalso; omega)
set_option maxRecDepth 100000 in
set_option maxHeartbeats 4000000 in
theorem refchk_2 (q0 q2 q3 q4 : Int) (A : Option Addr) (c : Nat) (l : List S83) (q6 : ByteArray) (q7 q8 q9 : Int) (q10 q11 : ByteArray) (q12 q13 : Int) (w : World) (hr : Kd.C k83 w A l.length l) (hl : l.length ≤ 1000) (hc : l.length ≤ c) (hs6 : q6.size ≤ 140737488355328) (hs11 : q11.size ≤ 140737488355328) : Calls Try.prog 47 #[.agg #[.int .i64 q0, .int .i64 2, .int .i64 q2, .int .i64 q3, .int .i64 q4, (.slice A l.length c), .string q6, .int .i64 q7, .int .i64 q8, .int .i64 q9, .string q10, .string q11, .int .i64 q12, .int .i64 q13]] w fun e w' => e = .returned (.int .i64 (chkR (⟨q0, 2, q2, q3, q4, l, q6, q7, q8, q9, q10, q11, q12, q13⟩ : RecP))) ∧ Below w.heap.size w w' := by
  have hu0 := Try.underlying33
  have hu1 := Try.underlying55
  have hu2 := Try.underlying29
  have hu3 := Try.underlying31
  have hu4 := Try.underlying83
  have HF := Lib.hid (rform_2 q0 q2 q3 q4 A c l q6 q7 q8 q9 q10 q11 q12 q13)
  have HC := Lib.hid hr
  have HL := Lib.hid hl
  have HCC := Lib.hid hc
  have HS6 := Lib.hid hs6
  have HS11 := Lib.hid hs11
  clear hr hl hc hs6 hs11
  have HB : Aside0 (Below w.heap.size w (w.alloc (.cells #[.int .i64 q0, .int .i64 2, .int .i64 q2, .int .i64 q3, .int .i64 q4, (.slice A l.length c), .string q6, .int .i64 q7, .int .i64 q8, .int .i64 q9, .string q10, .string q11, .int .i64 q12, .int .i64 q13] 33))) := ⟨below_alloc (Below.refl _ _) _⟩
  have HR : Aside0 (Blk (w.alloc (.cells #[.int .i64 q0, .int .i64 2, .int .i64 q2, .int .i64 q3, .int .i64 q4, (.slice A l.length c), .string q6, .int .i64 q7, .int .i64 q8, .int .i64 q9, .string q10, .string q11, .int .i64 q12, .int .i64 q13] 33)) w.heap.size #[.int .i64 q0, .int .i64 2, .int .i64 q2, .int .i64 q3, .int .i64 q4, (.slice A l.length c), .string q6, .int .i64 q7, .int .i64 q8, .int .i64 q9, .string q10, .string q11, .int .i64 q12, .int .i64 q13] 33) := ⟨Blk.new w _ _⟩
  obtain ⟨d0, d1, d2, d3, d4, d5, d6, d7, d8, d9, d10, d11, d12, d13⟩ := cells14 HR.out
  go_enter Try.func47, Try.ntmps47
  cases h0 : decide (q0 < 0) with
  | true =>
    go_wp2_with fail
    go_ret
    exact ⟨by rw [HF.out, if_pos h0]; rfl, HB.out⟩
  | false =>
    cases h1 : decide (63 < q0) with
    | true =>
      go_wp2_with fail
      go_ret
      exact ⟨by rw [HF.out, if_neg (by rw [h0]; decide), if_pos h1]; rfl, HB.out⟩
    | false =>
      cases h2 : volR (⟨q0, 2, q2, q3, q4, l, q6, q7, q8, q9, q10, q11, q12, q13⟩ : RecP) with
      | false =>
        go_wp2_with fail
        clear d0 d1 d2 d3 d4 d5 d6 d7 d8 d9 d10 d11 d12 d13
        refine (rvolc q2 q3 q4 A c l _ (Kd.C_below HC.out HB.out) HCC.out).mono ?_
        rintro e w1 ⟨rfl, b1⟩
        rw [show volP q2 q3 q4 l = false from h2]
        replace HB := Aside0.mk (below2 HB.out HB.out.size b1)
        replace HR := Aside0.mk (HR.out.keep b1)
        clear b1
        obtain ⟨d0, d1, d2, d3, d4, d5, d6, d7, d8, d9, d10, d11, d12, d13⟩ := cells14 HR.out
        go_wp2_with fail
        go_ret
        exact ⟨by rw [HF.out, if_neg (by rw [h0]; decide), if_neg (by rw [h1]; decide), if_neg (by rw [h2]; decide)]; rfl, HB.out⟩
      | true =>
        go_wp2_with fail
        clear d0 d1 d2 d3 d4 d5 d6 d7 d8 d9 d10 d11 d12 d13
        refine (rvolc q2 q3 q4 A c l _ (Kd.C_below HC.out HB.out) HCC.out).mono ?_
        rintro e w1 ⟨rfl, b1⟩
        rw [show volP q2 q3 q4 l = true from h2]
        replace HB := Aside0.mk (below2 HB.out HB.out.size b1)
        replace HR := Aside0.mk (HR.out.keep b1)
        clear b1
        obtain ⟨d0, d1, d2, d3, d4, d5, d6, d7, d8, d9, d10, d11, d12, d13⟩ := cells14 HR.out
        go_wp2_with fail
        obtain ⟨qq, hqq⟩ : ∃ qq, decide ((namedP (⟨q0, 2, q2, q3, q4, l, q6, q7, q8, q9, q10, q11, q12, q13⟩ : RecP)) = (⟨q0, 2, q2, q3, q4, l, q6, q7, q8, q9, q10, q11, q12, q13⟩ : RecP)) = qq := ⟨_, rfl⟩
        have HQ := Lib.hid hqq
        clear hqq
        clear d0 d1 d2 d3 d4 d5 d6 d7 d8 d9 d10 d11 d12 d13
        refine region_below_tail 4 (by kernel_rfl) (by kernel_rfl) ?_
        simp only [List.take_succ_cons, List.take_zero, List.drop_succ_cons, List.drop_zero]
        repeat (first | go_big_quiet_step (fail) | (refine BigFrame.wpQuiet_want (by rfl) (fun K hK => ?_); go_big_quiet_op; refine ⟨_, fun _ _ => rfl, hK _ ?_⟩; clear hK K) | (refine q_rdw 33 _ _ ⟨w.heap.size, 0, none⟩ (.agg #[.int .i64 q0, .int .i64 2, .int .i64 q2, .int .i64 q3, .int .i64 q4, (.slice A l.length c), .string q6, .int .i64 q7, .int .i64 q8, .int .i64 q9, .string q10, .string q11, .int .i64 q12, .int .i64 q13]) rfl rfl (by rfl) rfl (fun w' hw' => run_loadAt_mid w' w.heap.size 0 33 #[.int .i64 q0, .int .i64 2, .int .i64 q2, .int .i64 q3, .int .i64 q4, (.slice A l.length c), .string q6, .int .i64 q7, .int .i64 q8, .int .i64 q9, .string q10, .string q11, .int .i64 q12, .int .i64 q13].toList _ ((HR.out.keep hw').range 0 _ rfl) hu0 rfl (by kernel_rfl)) ?_; simp only [Act.put, List.setIfInBounds_toArray, List.set_cons_zero, List.set_cons_succ]) | (refine q_go (f := 72) Try.func72 (by kernel_rfl) rfl #[.agg #[.int .i64 q0, .int .i64 2, .int .i64 q2, .int .i64 q3, .int .i64 q4, (.slice A l.length c), .string q6, .int .i64 q7, .int .i64 q8, .int .i64 q9, .string q10, .string q11, .int .i64 q12, .int .i64 q13]] (.agg #[.int .i64 q0, .int .i64 2, .int .i64 q2, .int .i64 q3, .int .i64 q4, (.slice A l.length c), .string ⟨#[]⟩, .int .i64 0, .int .i64 0, .int .i64 0, .string ⟨#[]⟩, .string ⟨#[]⟩, .int .i64 0, .int .i64 0]) _ rfl rfl rfl (by simp only [List.map_toArray, List.map_cons, List.map_nil]; rfl) (fun w' _ => only_x q0 2 q2 q3 q4 A l.length c q6 q7 q8 q9 q10 q11 q12 q13 w' (by decide) (by decide) (by decide)) ?_; simp only [Act.put, List.setIfInBounds_toArray, List.set_cons_zero, List.set_cons_succ]) | (refine q_go (f := 27) Try.func27 (by kernel_rfl) rfl #[.agg #[.int .i64 q0, .int .i64 2, .int .i64 q2, .int .i64 q3, .int .i64 q4, (.slice A l.length c), .string ⟨#[]⟩, .int .i64 0, .int .i64 0, .int .i64 0, .string ⟨#[]⟩, .string ⟨#[]⟩, .int .i64 0, .int .i64 0], .agg #[.int .i64 q0, .int .i64 2, .int .i64 q2, .int .i64 q3, .int .i64 q4, (.slice A l.length c), .string q6, .int .i64 q7, .int .i64 q8, .int .i64 q9, .string q10, .string q11, .int .i64 q12, .int .i64 q13]] (.bool (decide ((namedP (⟨q0, 2, q2, q3, q4, l, q6, q7, q8, q9, q10, q11, q12, q13⟩ : RecP)) = (⟨q0, 2, q2, q3, q4, l, q6, q7, q8, q9, q10, q11, q12, q13⟩ : RecP)))) _ rfl rfl rfl (by simp only [List.map_toArray, List.map_cons, List.map_nil]; rfl) (fun w' hw' => rsames_calls (namedP (⟨q0, 2, q2, q3, q4, l, q6, q7, q8, q9, q10, q11, q12, q13⟩ : RecP)) (⟨q0, 2, q2, q3, q4, l, q6, q7, q8, q9, q10, q11, q12, q13⟩ : RecP) A A c c w' (Kd.C_below HC.out (below2 HB.out HB.out.size hw')) (Kd.C_below HC.out (below2 HB.out HB.out.size hw')) HCC.out HCC.out HL.out) ?_; rw [HQ.out]; simp only [Act.put, List.setIfInBounds_toArray, List.set_cons_zero, List.set_cons_succ]))
        refine wpQuiet_nil ?_
        intro wn hw'
        replace HB := Aside0.mk (below2 HB.out HB.out.size hw')
        clear hw'
        cases qq
        · go_wp2_with fail
          go_ret
          exact ⟨by rw [HF.out, if_neg (by rw [h0]; decide), if_neg (by rw [h1]; decide), if_pos h2]; unfold finP; rw [HQ.out]; rfl, HB.out⟩
        · go_wp2_with fail
          go_ret
          exact ⟨by rw [HF.out, if_neg (by rw [h0]; decide), if_neg (by rw [h1]; decide), if_pos h2]; unfold finP; rw [HQ.out]; rfl, HB.out⟩
theorem rform_3 (q0 q2 q3 q4 : Int) (A : Option Addr) (c : Nat) (l : List S83) (q6 : ByteArray) (q7 q8 q9 : Int) (q10 q11 : ByteArray) (q12 q13 : Int) : chkR (⟨q0, 3, q2, q3, q4, l, q6, q7, q8, q9, q10, q11, q12, q13⟩ : RecP) = (if decide (q0 < 0) = true then 1 else (if decide (63 < q0) = true then 1 else (if volR (⟨q0, 3, q2, q3, q4, l, q6, q7, q8, q9, q10, q11, q12, q13⟩ : RecP) = true then (if inB q12 1099511627776 = true then (if inB q13 1099511627776 = true then (if (q12 == q13) = true then 1 else (finP (⟨q0, 3, q2, q3, q4, l, q6, q7, q8, q9, q10, q11, q12, q13⟩ : RecP))) else 1) else 1) else 1))) := by
  rw [show chkR (⟨q0, 3, q2, q3, q4, l, q6, q7, q8, q9, q10, q11, q12, q13⟩ : RecP) = if inB q0 63 = true then (if volR (⟨q0, 3, q2, q3, q4, l, q6, q7, q8, q9, q10, q11, q12, q13⟩ : RecP) = true then (if inB q12 1099511627776 = true then (if inB q13 1099511627776 = true then (if (q12 == q13) = true then 1 else finP (⟨q0, 3, q2, q3, q4, l, q6, q7, q8, q9, q10, q11, q12, q13⟩ : RecP)) else 1) else 1) else 1) else 1 from rfl]
  generalize finP (⟨q0, 3, q2, q3, q4, l, q6, q7, q8, q9, q10, q11, q12, q13⟩ : RecP) = z
  have hv : volR (⟨q0, 3, q2, q3, q4, l, q6, q7, q8, q9, q10, q11, q12, q13⟩ : RecP) = true → 0 ≤ q4 ∧ q4 ≤ 384 := fun h => vol_len h
  generalize volR (⟨q0, 3, q2, q3, q4, l, q6, q7, q8, q9, q10, q11, q12, q13⟩ : RecP) = v at hv
  generalize (q12 == q13) = e1
  generalize inB q12 1099511627776 = b1
  generalize inB q13 1099511627776 = b2
  cases v <;> cases e1 <;> cases b1 <;> cases b2 <;> simp only [inB, wrap64, Bool.and_eq_true, decide_eq_true_eq, Bool.false_eq_true, if_false, if_true, true_implies, forall_const] at * <;> (repeat' split) <;> first | rfl | (exfalso; omega)
set_option maxRecDepth 100000 in
set_option maxHeartbeats 4000000 in
theorem refchk_3 (q0 q2 q3 q4 : Int) (A : Option Addr) (c : Nat) (l : List S83) (q6 : ByteArray) (q7 q8 q9 : Int) (q10 q11 : ByteArray) (q12 q13 : Int) (w : World) (hr : Kd.C k83 w A l.length l) (hl : l.length ≤ 1000) (hc : l.length ≤ c) (hs6 : q6.size ≤ 140737488355328) (hs11 : q11.size ≤ 140737488355328) : Calls Try.prog 47 #[.agg #[.int .i64 q0, .int .i64 3, .int .i64 q2, .int .i64 q3, .int .i64 q4, (.slice A l.length c), .string q6, .int .i64 q7, .int .i64 q8, .int .i64 q9, .string q10, .string q11, .int .i64 q12, .int .i64 q13]] w fun e w' => e = .returned (.int .i64 (chkR (⟨q0, 3, q2, q3, q4, l, q6, q7, q8, q9, q10, q11, q12, q13⟩ : RecP))) ∧ Below w.heap.size w w' := by
  have hu0 := Try.underlying33
  have hu1 := Try.underlying55
  have hu2 := Try.underlying29
  have hu3 := Try.underlying31
  have hu4 := Try.underlying83
  have HF := Lib.hid (rform_3 q0 q2 q3 q4 A c l q6 q7 q8 q9 q10 q11 q12 q13)
  have HC := Lib.hid hr
  have HL := Lib.hid hl
  have HCC := Lib.hid hc
  have HS6 := Lib.hid hs6
  have HS11 := Lib.hid hs11
  clear hr hl hc hs6 hs11
  have HB : Aside0 (Below w.heap.size w (w.alloc (.cells #[.int .i64 q0, .int .i64 3, .int .i64 q2, .int .i64 q3, .int .i64 q4, (.slice A l.length c), .string q6, .int .i64 q7, .int .i64 q8, .int .i64 q9, .string q10, .string q11, .int .i64 q12, .int .i64 q13] 33))) := ⟨below_alloc (Below.refl _ _) _⟩
  have HR : Aside0 (Blk (w.alloc (.cells #[.int .i64 q0, .int .i64 3, .int .i64 q2, .int .i64 q3, .int .i64 q4, (.slice A l.length c), .string q6, .int .i64 q7, .int .i64 q8, .int .i64 q9, .string q10, .string q11, .int .i64 q12, .int .i64 q13] 33)) w.heap.size #[.int .i64 q0, .int .i64 3, .int .i64 q2, .int .i64 q3, .int .i64 q4, (.slice A l.length c), .string q6, .int .i64 q7, .int .i64 q8, .int .i64 q9, .string q10, .string q11, .int .i64 q12, .int .i64 q13] 33) := ⟨Blk.new w _ _⟩
  obtain ⟨d0, d1, d2, d3, d4, d5, d6, d7, d8, d9, d10, d11, d12, d13⟩ := cells14 HR.out
  go_enter Try.func47, Try.ntmps47
  cases h0 : decide (q0 < 0) with
  | true =>
    go_wp2_with fail
    go_ret
    exact ⟨by rw [HF.out, if_pos h0]; rfl, HB.out⟩
  | false =>
    cases h1 : decide (63 < q0) with
    | true =>
      go_wp2_with fail
      go_ret
      exact ⟨by rw [HF.out, if_neg (by rw [h0]; decide), if_pos h1]; rfl, HB.out⟩
    | false =>
      cases h2 : volR (⟨q0, 3, q2, q3, q4, l, q6, q7, q8, q9, q10, q11, q12, q13⟩ : RecP) with
      | false =>
        go_wp2_with fail
        clear d0 d1 d2 d3 d4 d5 d6 d7 d8 d9 d10 d11 d12 d13
        refine (rvolc q2 q3 q4 A c l _ (Kd.C_below HC.out HB.out) HCC.out).mono ?_
        rintro e w1 ⟨rfl, b1⟩
        rw [show volP q2 q3 q4 l = false from h2]
        replace HB := Aside0.mk (below2 HB.out HB.out.size b1)
        replace HR := Aside0.mk (HR.out.keep b1)
        clear b1
        obtain ⟨d0, d1, d2, d3, d4, d5, d6, d7, d8, d9, d10, d11, d12, d13⟩ := cells14 HR.out
        go_wp2_with fail
        go_ret
        exact ⟨by rw [HF.out, if_neg (by rw [h0]; decide), if_neg (by rw [h1]; decide), if_neg (by rw [h2]; decide)]; rfl, HB.out⟩
      | true =>
        go_wp2_with fail
        clear d0 d1 d2 d3 d4 d5 d6 d7 d8 d9 d10 d11 d12 d13
        refine (rvolc q2 q3 q4 A c l _ (Kd.C_below HC.out HB.out) HCC.out).mono ?_
        rintro e w1 ⟨rfl, b1⟩
        rw [show volP q2 q3 q4 l = true from h2]
        replace HB := Aside0.mk (below2 HB.out HB.out.size b1)
        replace HR := Aside0.mk (HR.out.keep b1)
        clear b1
        obtain ⟨d0, d1, d2, d3, d4, d5, d6, d7, d8, d9, d10, d11, d12, d13⟩ := cells14 HR.out
        cases h3 : inB q12 1099511627776 with
        | false =>
          go_wp2_with fail
          clear d0 d1 d2 d3 d4 d5 d6 d7 d8 d9 d10 d11 d12 d13
          refine (numc _ _).mono ?_
          rintro e w1 ⟨rfl, b1⟩
          rw [h3]
          replace HB := Aside0.mk (below2 HB.out HB.out.size b1)
          replace HR := Aside0.mk (HR.out.keep b1)
          clear b1
          obtain ⟨d0, d1, d2, d3, d4, d5, d6, d7, d8, d9, d10, d11, d12, d13⟩ := cells14 HR.out
          go_wp2_with fail
          go_ret
          exact ⟨by rw [HF.out, if_neg (by rw [h0]; decide), if_neg (by rw [h1]; decide), if_pos h2, if_neg (by rw [h3]; decide)]; rfl, HB.out⟩
        | true =>
          go_wp2_with fail
          clear d0 d1 d2 d3 d4 d5 d6 d7 d8 d9 d10 d11 d12 d13
          refine (numc _ _).mono ?_
          rintro e w1 ⟨rfl, b1⟩
          rw [h3]
          replace HB := Aside0.mk (below2 HB.out HB.out.size b1)
          replace HR := Aside0.mk (HR.out.keep b1)
          clear b1
          obtain ⟨d0, d1, d2, d3, d4, d5, d6, d7, d8, d9, d10, d11, d12, d13⟩ := cells14 HR.out
          cases h4 : inB q13 1099511627776 with
          | false =>
            go_wp2_with fail
            clear d0 d1 d2 d3 d4 d5 d6 d7 d8 d9 d10 d11 d12 d13
            refine (numc _ _).mono ?_
            rintro e w1 ⟨rfl, b1⟩
            rw [h4]
            replace HB := Aside0.mk (below2 HB.out HB.out.size b1)
            replace HR := Aside0.mk (HR.out.keep b1)
            clear b1
            obtain ⟨d0, d1, d2, d3, d4, d5, d6, d7, d8, d9, d10, d11, d12, d13⟩ := cells14 HR.out
            go_wp2_with fail
            go_ret
            exact ⟨by rw [HF.out, if_neg (by rw [h0]; decide), if_neg (by rw [h1]; decide), if_pos h2, if_pos h3, if_neg (by rw [h4]; decide)]; rfl, HB.out⟩
          | true =>
            go_wp2_with fail
            clear d0 d1 d2 d3 d4 d5 d6 d7 d8 d9 d10 d11 d12 d13
            refine (numc _ _).mono ?_
            rintro e w1 ⟨rfl, b1⟩
            rw [h4]
            replace HB := Aside0.mk (below2 HB.out HB.out.size b1)
            replace HR := Aside0.mk (HR.out.keep b1)
            clear b1
            obtain ⟨d0, d1, d2, d3, d4, d5, d6, d7, d8, d9, d10, d11, d12, d13⟩ := cells14 HR.out
            cases h5 : (q12 == q13) with
            | true =>
              have h5n : (q12 != q13) = false := by simp [bne, h5]
              go_wp2_with fail
              go_ret
              exact ⟨by rw [HF.out, if_neg (by rw [h0]; decide), if_neg (by rw [h1]; decide), if_pos h2, if_pos h3, if_pos h4, if_pos h5]; rfl, HB.out⟩
            | false =>
              have h5n : (q12 != q13) = true := by simp [bne, h5]
              go_wp2_with fail
              obtain ⟨qq, hqq⟩ : ∃ qq, decide ((namedP (⟨q0, 3, q2, q3, q4, l, q6, q7, q8, q9, q10, q11, q12, q13⟩ : RecP)) = (⟨q0, 3, q2, q3, q4, l, q6, q7, q8, q9, q10, q11, q12, q13⟩ : RecP)) = qq := ⟨_, rfl⟩
              have HQ := Lib.hid hqq
              clear hqq
              clear d0 d1 d2 d3 d4 d5 d6 d7 d8 d9 d10 d11 d12 d13
              refine region_below_tail 4 (by kernel_rfl) (by kernel_rfl) ?_
              simp only [List.take_succ_cons, List.take_zero, List.drop_succ_cons, List.drop_zero]
              repeat (first | go_big_quiet_step (fail) | (refine BigFrame.wpQuiet_want (by rfl) (fun K hK => ?_); go_big_quiet_op; refine ⟨_, fun _ _ => rfl, hK _ ?_⟩; clear hK K) | (refine q_rdw 33 _ _ ⟨w.heap.size, 0, none⟩ (.agg #[.int .i64 q0, .int .i64 3, .int .i64 q2, .int .i64 q3, .int .i64 q4, (.slice A l.length c), .string q6, .int .i64 q7, .int .i64 q8, .int .i64 q9, .string q10, .string q11, .int .i64 q12, .int .i64 q13]) rfl rfl (by rfl) rfl (fun w' hw' => run_loadAt_mid w' w.heap.size 0 33 #[.int .i64 q0, .int .i64 3, .int .i64 q2, .int .i64 q3, .int .i64 q4, (.slice A l.length c), .string q6, .int .i64 q7, .int .i64 q8, .int .i64 q9, .string q10, .string q11, .int .i64 q12, .int .i64 q13].toList _ ((HR.out.keep hw').range 0 _ rfl) hu0 rfl (by kernel_rfl)) ?_; simp only [Act.put, List.setIfInBounds_toArray, List.set_cons_zero, List.set_cons_succ]) | (refine q_go (f := 72) Try.func72 (by kernel_rfl) rfl #[.agg #[.int .i64 q0, .int .i64 3, .int .i64 q2, .int .i64 q3, .int .i64 q4, (.slice A l.length c), .string q6, .int .i64 q7, .int .i64 q8, .int .i64 q9, .string q10, .string q11, .int .i64 q12, .int .i64 q13]] (.agg #[.int .i64 q0, .int .i64 3, .int .i64 q2, .int .i64 q3, .int .i64 q4, (.slice A l.length c), .string ⟨#[]⟩, .int .i64 0, .int .i64 0, .int .i64 0, .string ⟨#[]⟩, .string ⟨#[]⟩, .int .i64 q12, .int .i64 q13]) _ rfl rfl rfl (by simp only [List.map_toArray, List.map_cons, List.map_nil]; rfl) (fun w' _ => only_3 q0 3 q2 q3 q4 A l.length c q6 q7 q8 q9 q10 q11 q12 q13 w' rfl) ?_; simp only [Act.put, List.setIfInBounds_toArray, List.set_cons_zero, List.set_cons_succ]) | (refine q_go (f := 27) Try.func27 (by kernel_rfl) rfl #[.agg #[.int .i64 q0, .int .i64 3, .int .i64 q2, .int .i64 q3, .int .i64 q4, (.slice A l.length c), .string ⟨#[]⟩, .int .i64 0, .int .i64 0, .int .i64 0, .string ⟨#[]⟩, .string ⟨#[]⟩, .int .i64 q12, .int .i64 q13], .agg #[.int .i64 q0, .int .i64 3, .int .i64 q2, .int .i64 q3, .int .i64 q4, (.slice A l.length c), .string q6, .int .i64 q7, .int .i64 q8, .int .i64 q9, .string q10, .string q11, .int .i64 q12, .int .i64 q13]] (.bool (decide ((namedP (⟨q0, 3, q2, q3, q4, l, q6, q7, q8, q9, q10, q11, q12, q13⟩ : RecP)) = (⟨q0, 3, q2, q3, q4, l, q6, q7, q8, q9, q10, q11, q12, q13⟩ : RecP)))) _ rfl rfl rfl (by simp only [List.map_toArray, List.map_cons, List.map_nil]; rfl) (fun w' hw' => rsames_calls (namedP (⟨q0, 3, q2, q3, q4, l, q6, q7, q8, q9, q10, q11, q12, q13⟩ : RecP)) (⟨q0, 3, q2, q3, q4, l, q6, q7, q8, q9, q10, q11, q12, q13⟩ : RecP) A A c c w' (Kd.C_below HC.out (below2 HB.out HB.out.size hw')) (Kd.C_below HC.out (below2 HB.out HB.out.size hw')) HCC.out HCC.out HL.out) ?_; rw [HQ.out]; simp only [Act.put, List.setIfInBounds_toArray, List.set_cons_zero, List.set_cons_succ]))
              refine wpQuiet_nil ?_
              intro wn hw'
              replace HB := Aside0.mk (below2 HB.out HB.out.size hw')
              clear hw'
              cases qq
              · go_wp2_with fail
                go_ret
                exact ⟨by rw [HF.out, if_neg (by rw [h0]; decide), if_neg (by rw [h1]; decide), if_pos h2, if_pos h3, if_pos h4, if_neg (by rw [h5]; decide)]; unfold finP; rw [HQ.out]; rfl, HB.out⟩
              · go_wp2_with fail
                go_ret
                exact ⟨by rw [HF.out, if_neg (by rw [h0]; decide), if_neg (by rw [h1]; decide), if_pos h2, if_pos h3, if_pos h4, if_neg (by rw [h5]; decide)]; unfold finP; rw [HQ.out]; rfl, HB.out⟩
set_option maxRecDepth 100000 in
set_option maxHeartbeats 4000000 in
theorem refchk_x (q1 : Int) (q0 q2 q3 q4 : Int) (A : Option Addr) (c : Nat) (l : List S83) (q6 : ByteArray) (q7 q8 q9 : Int) (q10 q11 : ByteArray) (q12 q13 : Int) (w : World) (hk : inB q1 3 = false) (hz : chkR (⟨q0, q1, q2, q3, q4, l, q6, q7, q8, q9, q10, q11, q12, q13⟩ : RecP) = 1) : Calls Try.prog 47 #[.agg #[.int .i64 q0, .int .i64 q1, .int .i64 q2, .int .i64 q3, .int .i64 q4, (.slice A l.length c), .string q6, .int .i64 q7, .int .i64 q8, .int .i64 q9, .string q10, .string q11, .int .i64 q12, .int .i64 q13]] w fun e w' => e = .returned (.int .i64 (chkR (⟨q0, q1, q2, q3, q4, l, q6, q7, q8, q9, q10, q11, q12, q13⟩ : RecP))) ∧ Below w.heap.size w w' := by
  have hu0 := Try.underlying33
  have hu1 := Try.underlying55
  have hu2 := Try.underlying29
  have hu3 := Try.underlying31
  have hu4 := Try.underlying83
  have HF := Lib.hid hz
  clear hz
  have HB : Aside0 (Below w.heap.size w (w.alloc (.cells #[.int .i64 q0, .int .i64 q1, .int .i64 q2, .int .i64 q3, .int .i64 q4, (.slice A l.length c), .string q6, .int .i64 q7, .int .i64 q8, .int .i64 q9, .string q10, .string q11, .int .i64 q12, .int .i64 q13] 33))) := ⟨below_alloc (Below.refl _ _) _⟩
  have HR : Aside0 (Blk (w.alloc (.cells #[.int .i64 q0, .int .i64 q1, .int .i64 q2, .int .i64 q3, .int .i64 q4, (.slice A l.length c), .string q6, .int .i64 q7, .int .i64 q8, .int .i64 q9, .string q10, .string q11, .int .i64 q12, .int .i64 q13] 33)) w.heap.size #[.int .i64 q0, .int .i64 q1, .int .i64 q2, .int .i64 q3, .int .i64 q4, (.slice A l.length c), .string q6, .int .i64 q7, .int .i64 q8, .int .i64 q9, .string q10, .string q11, .int .i64 q12, .int .i64 q13] 33) := ⟨Blk.new w _ _⟩
  have hk2 : decide (q1 < 0) = false → decide (3 < q1) = true := by
    intro h
    unfold inB at hk
    rw [Bool.and_eq_false_iff, decide_eq_false_iff_not, decide_eq_false_iff_not] at hk
    rw [decide_eq_false_iff_not] at h
    exact decide_eq_true (by omega)
  clear hk
  obtain ⟨d0, d1, d2, d3, d4, d5, d6, d7, d8, d9, d10, d11, d12, d13⟩ := cells14 HR.out
  go_enter Try.func47, Try.ntmps47
  cases h0 : decide (q0 < 0) with
  | true =>
    clear hk2
    go_wp2_with fail
    go_ret
    exact ⟨by rw [HF.out]; rfl, HB.out⟩
  | false =>
    cases h1 : decide (63 < q0) with
    | true =>
      clear hk2
      go_wp2_with fail
      go_ret
      exact ⟨by rw [HF.out]; rfl, HB.out⟩
    | false =>
      cases h2 : decide (q1 < 0) with
      | true =>
        clear hk2
        go_wp2_with fail
        go_ret
        exact ⟨by rw [HF.out]; rfl, HB.out⟩
      | false =>
        have h3 := hk2 h2
        clear hk2
        go_wp2_with fail
        go_ret
        exact ⟨by rw [HF.out]; rfl, HB.out⟩
theorem refchk_calls (r : RecP) (A : Option Addr) (c : Nat) (w : World) (hr : Kd.C k83 w A r.locs.length r.locs) (hl : r.locs.length ≤ 1000) (hc : r.locs.length ≤ c) (h6 : r.ekey.size ≤ 140737488355328) (h11 : r.key.size ≤ 140737488355328) : Calls Try.prog 47 #[.agg #[.int .i64 r.seq, .int .i64 r.kind, .int .i64 r.id, .int .i64 r.gen, .int .i64 r.len, (.slice A r.locs.length c), .string r.ekey, .int .i64 r.evol, .int .i64 r.eoff, .int .i64 r.elen, .string r.dig, .string r.key, .int .i64 r.frm, .int .i64 r.til]] w fun e w' => e = .returned (.int .i64 (chkR r)) ∧ Below w.heap.size w w' := by
  obtain ⟨q0, q1, q2, q3, q4, l, q6, q7, q8, q9, q10, q11, q12, q13⟩ := r
  by_cases k0 : q1 = 0
  · subst k0; exact refchk_0 q0 q2 q3 q4 A c l q6 q7 q8 q9 q10 q11 q12 q13 w hr hl hc h6 h11
  · by_cases k1 : q1 = 1
    · subst k1; exact refchk_1 q0 q2 q3 q4 A c l q6 q7 q8 q9 q10 q11 q12 q13 w hr hl hc h6 h11
    · by_cases k2 : q1 = 2
      · subst k2; exact refchk_2 q0 q2 q3 q4 A c l q6 q7 q8 q9 q10 q11 q12 q13 w hr hl hc h6 h11
      · by_cases k3 : q1 = 3
        · subst k3; exact refchk_3 q0 q2 q3 q4 A c l q6 q7 q8 q9 q10 q11 q12 q13 w hr hl hc h6 h11
        · refine refchk_x q1 q0 q2 q3 q4 A c l q6 q7 q8 q9 q10 q11 q12 q13 w ?_ ?_
          · unfold inB
            rw [Bool.and_eq_false_iff, decide_eq_false_iff_not, decide_eq_false_iff_not]
            omega
          · unfold chkR
            rw [if_neg (show ¬ q1 = 0 from k0), if_neg (show ¬ q1 = 1 from k1), if_neg (show ¬ q1 = 2 from k2), if_neg (show ¬ q1 = 3 from k3), ite_self]
end Go.Proofs.Ytmfcbfgijimliaa
end
section
namespace Go.Proofs.Ytmfcbfgijimliaa
open Go.RowKit Go.Proofs.Ytmfcbfgijimliaa.Q Go.Proofs.YtmfcbfgijimliaaW.PrintWords Go.Proofs.YtmfcbfgijimliaaW.PrintLast
theorem rnumber_loop (j : Nat) : ∀ (n k : Nat), n < 2 ^ 56 → n < 128 ^ (j + 1) → 2 * j + 2 ≤ k → sluicegateref05_Number.f k (n : Int) = some (B (enc n)) := by
  induction j with
  | zero =>
    intro n k h56 hn hk
    obtain ⟨k, rfl⟩ : ∃ m, k = m + 1 + 1 := ⟨k - 2, by omega⟩
    simp only [sluicegateref05_Number.f, sluicegateref05_Most.f, Option.bind_some]
    have e : decide ((n : Int) > 72057594037927935) = false := by simp; omega
    rw [if_neg (by omega), e]
    simp only [sluicegateref05_Number.j0]
    rw [if_neg (by decide), if_pos (by omega), enc_lt (by omega), ← nb_one n (by omega), strOfNums_nb]
  | succ j ih =>
    intro n k h56 hn hk
    obtain ⟨k, rfl⟩ : ∃ m, k = m + 1 + 1 := ⟨k - 2, by omega⟩
    simp only [sluicegateref05_Number.f, sluicegateref05_Most.f, Option.bind_some]
    have e : decide ((n : Int) > 72057594037927935) = false := by simp; omega
    rw [if_neg (by omega), e]
    simp only [sluicegateref05_Number.j0]
    rw [if_neg (by decide)]
    by_cases h : n < 128
    · rw [if_pos (by omega), enc_lt (by omega), ← nb_one n (by omega), strOfNums_nb]
    · rw [if_neg (by omega)]
      simp only [Option.bind_some]
      have e1 : wrap64 (Int.tdiv (n : Int) 128) = ((n / 128 : Nat) : Int) := by
        rw [Int.tdiv_eq_ediv_of_nonneg (by omega)]; unfold wrap64; omega
      have e2 : wrap64 (128 + Int.tmod (n : Int) 128) % 256 = ((128 + n % 128 : Nat) : Int) := by
        rw [Int.tmod_eq_emod_of_nonneg (by omega)]; unfold wrap64; omega
      have e3 : strOfNums [((128 + n % 128 : Nat) : Int)] = B [UInt8.ofNat (128 + n % 128)] := by
        rw [← strOfNums_nb]
        simp only [nb, List.map_cons, List.map_nil]
        rw [u8_toNat _ (by omega)]
      have hq : n / 128 < 128 ^ (j + 1) := by
        rw [Nat.pow_succ] at hn
        exact Nat.div_lt_of_lt_mul (by omega)
      have h8 := enc_len8 (m := n / 128) (by omega)
      rw [e1, e2, e3, ih (n / 128) k (by omega) hq (by omega)]
      simp only [Option.bind_some]
      rw [if_pos (by rw [B_size, B_size, List.length_singleton]; omega), B_append, enc_ge (n := n) (by omega), List.singleton_append]
theorem rnumber_f (n k : Nat) (h : n < 2 ^ 56) (hk : 20 ≤ k) : sluicegateref05_Number.f k (n : Int) = some (B (enc n)) := rnumber_loop 7 n k h (by simpa using h) (by omega)
theorem rtxt_f (s : List UInt8) (k : Nat) (h : s.length ≤ 140737488355328) (hk : 20 ≤ k) : sluicegateref05_Text.f k (B s) = some (B (txt s)) := by
  unfold sluicegateref05_Text.f
  rw [B_size, rnumber_f s.length k (by omega) hk]
  simp only [Option.bind_some]
  have := enc_len8 (m := s.length) (by omega)
  rw [if_pos (by rw [B_size]; omega), B_append]
  rfl
end Go.Proofs.Ytmfcbfgijimliaa
namespace Go.Proofs.Ytmfcbfgijimliaa
open Go.RowKit Q Go.Proofs.YtmfcbfgijimliaaW.PrintWords Go.Proofs.YtmfcbfgijimliaaW.PrintLast Go.Proofs.YtmfcbfgijimliaaW.PrintMore
theorem rnum_L (n : Nat) (h : n < 2 ^ 56) (w : World) : Calls Try.prog 48 #[.int .i64 (n : Int)] w fun e w' => e = .returned (.string (B (enc n))) ∧ Below w.heap.size w w' :=
  sluicegateref05_Number.calls 20 _ _ w (rnumber_f n 20 h (Nat.le_refl _))
theorem rtxt_L (s : List UInt8) (h : s.length ≤ 140737488355328) (w : World) : Calls Try.prog 50 #[.string (B s)] w fun e w' => e = .returned (.string (B (txt s))) ∧ Below w.heap.size w w' :=
  sluicegateref05_Text.calls 20 _ _ w (rtxt_f s 20 h (Nat.le_refl _))
end Go.Proofs.Ytmfcbfgijimliaa
end
section
namespace Go.Proofs.Ytmfcbfgijimliaa
open Go.RowKit Q Go.Proofs.YtmfcbfgijimliaaW.PrintWords Go.Proofs.YtmfcbfgijimliaaW.PrintLast Go.Proofs.YtmfcbfgijimliaaW.PrintMore
set_option linter.unusedSimpArgs false
theorem rseal_L (x : List UInt8) (w : World) (h : x.length ≤ 1000) : Calls Try.prog 49 #[.string (B x)] w fun e w' => e = .returned (.string (B (sealL x))) ∧ Below w.heap.size w w' :=
  sluicegateref04_Seal.calls _ _ w (rseal_f x (by omega))
section
variable {ops : Array Oper} {W0 : World}
theorem q_cat {o : Oper} {rest : List Oper} {Q : Act → Prop} {a : Act} (x y : Operand) (N : Nat) (u v : List UInt8) (ho : o.op = .binOp .add 9 x y 9) (hN : o.dst = some N) (hg : o.guard = none) (hx : a.eval x = .string (B u)) (hy : a.eval y = .string (B v)) (hl : u.length + v.length ≤ 100000)
    (h : wpQuiet Try.prog ops (Below W0.heap.size W0) Q rest (a.put (some N) (.string (B (u ++ v))))) : wpQuiet Try.prog ops (Below W0.heap.size W0) Q (o :: rest) a := by
  refine q_val (.string (B (u ++ v))) (some N) hN (by unfold Region.wanted; rw [hg]) (fun w' _ => ?_) h
  have hs : ¬ 9223372036854775807 < (B u).size + (B v).size := by rw [B_size, B_size]; omega
  unfold execOp
  simp only [ho, hx, hy]
  have e := B_append u v
  go_simp
end
theorem encK2 (a b : Nat) : encK [a, b] 2 = enc a ++ enc b := by simp [encK]
theorem encK3 (a b c : Nat) : encK [a, b, c] 3 = enc a ++ enc b ++ enc c := by simp [encK]
theorem ld_sl (ad : Addr) (v : Value) (w : World) (h : w.cell? ad = some v) : (Instr.loadAt 27 (.pointer (some ad))).run Try.prog w = .ok v w := by
  go_simp
set_option maxRecDepth 100000 in
set_option maxHeartbeats 4000000 in
theorem rrw_0 (s vi vg vn : Nat) (A : Option Addr) (c : Nat) (l : List S83) (q6 : ByteArray) (q7 : Int) (eo el : Nat) (q10 q11 : ByteArray) (q12 q13 : Int) (w : World) (hr : Kd.C k83 w A l.length l) (hl : l.length ≤ 1000) (hc : l.length ≤ c) (h6 : q6.size ≤ 140737488355328) (h11 : q11.size ≤ 140737488355328) (hz : chkR (⟨(s : Int), 0, (vi : Int), (vg : Int), (vn : Int), l, q6, q7, (eo : Int), (el : Int), q10, q11, q12, q13⟩ : RecP) = 0) (hs : s ≤ 63) (hv : VolOk vi vg vn l) (hk : q6.data.toList.length ≤ 32) (ho : eo ≤ 384) (he : el ≤ 384) (hd : q10.size = 32) : Calls Try.prog 30 #[.agg #[.int .i64 (s : Int), .int .i64 0, .int .i64 (vi : Int), .int .i64 (vg : Int), .int .i64 (vn : Int), (.slice A l.length c), .string q6, .int .i64 q7, .int .i64 (eo : Int), .int .i64 (el : Int), .string q10, .string q11, .int .i64 q12, .int .i64 q13]] w fun e w' => e = .returned (.tuple #[.string (B (sealL (recT (⟨(s : Int), 0, (vi : Int), (vg : Int), (vn : Int), l, q6, q7, (eo : Int), (el : Int), q10, q11, q12, q13⟩ : RecP)))), .int .i64 0]) ∧ Below w.heap.size w w' := by
  have hu0 := Try.underlying33
  have hu1 := Try.underlying55
  have hu2 := Try.underlying29
  have hu3 := Try.underlying31
  have hu4 := Try.underlying83
  obtain ⟨kl, rfl⟩ := exB q6
  obtain ⟨dl, rfl⟩ := exB q10
  obtain ⟨res, hres⟩ : ∃ res, B (sealL (recT (⟨(s : Int), 0, (vi : Int), (vg : Int), (vn : Int), l, (B kl), q7, (eo : Int), (el : Int), (B dl), q11, q12, q13⟩ : RecP))) = res := ⟨_, rfl⟩
  rw [hres]
  have HRES := Lib.hid hres
  clear hres
  have HZ := Lib.hid hz
  have HC := Lib.hid hr
  have HL := Lib.hid hl
  have HCC := Lib.hid hc
  have H6 := Lib.hid h6
  have H11 := Lib.hid h11
  have HV := Lib.hid hv
  have HK := Lib.hid hk
  have HO := Lib.hid ho
  have HE := Lib.hid he
  have HDG := Lib.hid hd
  have hvi := hv.i.2
  have hvg := hv.g.2
  have hvn := hv.n.2
  clear hk ho he hd hv
  clear hz hr hl hc h6 h11
  have HB : Aside0 (Below w.heap.size w (w.alloc (.cells #[.int .i64 (s : Int), .int .i64 0, .int .i64 (vi : Int), .int .i64 (vg : Int), .int .i64 (vn : Int), (.slice A l.length c), .string (B kl), .int .i64 q7, .int .i64 (eo : Int), .int .i64 (el : Int), .string (B dl), .string q11, .int .i64 q12, .int .i64 q13] 33))) := ⟨below_alloc (Below.refl _ _) _⟩
  have HR : Aside0 (Blk (w.alloc (.cells #[.int .i64 (s : Int), .int .i64 0, .int .i64 (vi : Int), .int .i64 (vg : Int), .int .i64 (vn : Int), (.slice A l.length c), .string (B kl), .int .i64 q7, .int .i64 (eo : Int), .int .i64 (el : Int), .string (B dl), .string q11, .int .i64 q12, .int .i64 q13] 33)) w.heap.size #[.int .i64 (s : Int), .int .i64 0, .int .i64 (vi : Int), .int .i64 (vg : Int), .int .i64 (vn : Int), (.slice A l.length c), .string (B kl), .int .i64 q7, .int .i64 (eo : Int), .int .i64 (el : Int), .string (B dl), .string q11, .int .i64 q12, .int .i64 q13] 33) := ⟨Blk.new w _ _⟩
  obtain ⟨d0, d1, d2, d3, d4, d5, d6, d7, d8, d9, d10, d11, d12, d13⟩ := cells14 HR.out
  have hlt0 := HR.out.lt
  go_enter Try.func30, Try.ntmps30
  go_wp2_with fail
  clear d0 d1 d2 d3 d4 d5 d6 d7 d8 d9 d10 d11 d12 d13 hlt0
  have hq0 := refchk_calls (⟨(s : Int), 0, (vi : Int), (vg : Int), (vn : Int), l, (B kl), q7, (eo : Int), (el : Int), (B dl), q11, q12, q13⟩ : RecP) A c (w.alloc (.cells #[.int .i64 (s : Int), .int .i64 0, .int .i64 (vi : Int), .int .i64 (vg : Int), .int .i64 (vn : Int), (.slice A l.length c), .string (B kl), .int .i64 q7, .int .i64 (eo : Int), .int .i64 (el : Int), .string (B dl), .string q11, .int .i64 q12, .int .i64 q13] 33)) (Kd.C_below HC.out HB.out) HL.out HCC.out H6.out H11.out
  rw [HZ.out] at hq0
  refine Calls.mono hq0 ?_
  clear hq0
  rintro e wa ⟨rfl, b1⟩
  replace HB := Aside0.mk (below2 HB.out HB.out.size b1)
  replace HR := Aside0.mk (HR.out.keep b1)
  clear b1
  have l0 := enc_len8 (m := s) (by omega)
  have l1 := enc_len8 (m := 0) (by omega)
  obtain ⟨d0, d1, d2, d3, d4, d5, d6, d7, d8, d9, d10, d11, d12, d13⟩ := cells14 HR.out
  have hlt0 := HR.out.lt
  go_wp2_with fail
  refine region_below_tail 8 (by kernel_rfl) (by kernel_rfl) ?_
  simp only [List.take_succ_cons, List.take_zero, List.drop_succ_cons, List.drop_zero]
  repeat (first | (refine q_cat _ _ _ [83, 74] ?_ rfl rfl rfl ?_ ?_ ?_ ?_; rotate_left 1; (· rfl); (· rfl); (· (try simp only [List.length_append, List.length_cons, List.length_nil]); omega); simp only [Act.put, List.setIfInBounds_toArray, List.set_cons_zero, List.set_cons_succ]) | (refine q_cat _ _ _ ?_ ?_ rfl rfl rfl ?_ ?_ ?_ ?_; rotate_left 2; (· rfl); (· rfl); (· (try simp only [List.length_append, List.length_cons, List.length_nil]); omega); simp only [Act.put, List.setIfInBounds_toArray, List.set_cons_zero, List.set_cons_succ]) | go_big_quiet_step (fail) | (refine BigFrame.wpQuiet_want (by rfl) (fun K hK => ?_); go_big_quiet_op; refine ⟨_, fun _ _ => rfl, hK _ ?_⟩; clear hK K) | (refine q_ld 3 _ _ _ _ rfl rfl rfl rfl (ld_int _ _) (by assumption) (by assumption) ?_; simp only [Act.put, List.setIfInBounds_toArray, List.set_cons_zero, List.set_cons_succ]) | (refine q_ld 9 _ _ _ _ rfl rfl rfl rfl (ld_str _ _) (by assumption) (by assumption) ?_; simp only [Act.put, List.setIfInBounds_toArray, List.set_cons_zero, List.set_cons_succ]) | (refine q_ld 27 _ _ _ _ rfl rfl rfl rfl (ld_sl _ _) (by assumption) (by assumption) ?_; simp only [Act.put, List.setIfInBounds_toArray, List.set_cons_zero, List.set_cons_succ]) | (refine q_go (f := 48) Try.func48 (by kernel_rfl) rfl #[.int .i64 (s : Int)] _ _ rfl rfl rfl (by simp only [List.map_toArray, List.map_cons, List.map_nil]; rfl) (fun w' _ => rnum_L s (by omega) w') ?_; simp only [Act.put, List.setIfInBounds_toArray, List.set_cons_zero, List.set_cons_succ]) | (refine q_go (f := 48) Try.func48 (by kernel_rfl) rfl #[.int .i64 0] _ _ rfl rfl rfl (by simp only [List.map_toArray, List.map_cons, List.map_nil]; rfl) (fun w' _ => rnum_L 0 (by decide) w') ?_; simp only [Act.put, List.setIfInBounds_toArray, List.set_cons_zero, List.set_cons_succ]))
  refine wpQuiet_nil ?_
  intro w2 hw'
  replace HB := Aside0.mk (below2 HB.out HB.out.size hw')
  replace HR := Aside0.mk (HR.out.keep hw')
  clear hw'
  clear d0 d1 d2 d3 d4 d5 d6 d7 d8 d9 d10 d11 d12 d13 hlt0
  generalize hE1 : [83, 74] ++ enc s ++ enc 0 = a1
  have A1 : a1.length ≤ 18 := by rw [← hE1]; simp only [List.length_append, List.length_cons, List.length_nil]; omega
  have HE1 := Lib.hid hE1
  clear hE1 l0 l1
  generalize [83, 74] ++ enc s = z1
  have l0 := enc_len8 (m := vi) (by omega)
  have l1 := enc_len8 (m := vg) (by omega)
  have l2 := enc_len8 (m := vn) (by omega)
  obtain ⟨d0, d1, d2, d3, d4, d5, d6, d7, d8, d9, d10, d11, d12, d13⟩ := cells14 HR.out
  have hlt0 := HR.out.lt
  go_wp2_with fail
  clear d0 d1 d2 d3 d4 d5 d6 d7 d8 d9 d10 d11 d12 d13 hlt0
  have HV6 := Aside0.mk (Blk.new w2 #[.int .i64 (vi : Int), .int .i64 (vg : Int), .int .i64 (vn : Int), .slice A l.length c] 29)
  replace HB := Aside0.mk (below_alloc HB.out (.cells #[.int .i64 (vi : Int), .int .i64 (vg : Int), .int .i64 (vn : Int), .slice A l.length c] 29))
  replace HR := Aside0.mk (HR.out.alloc (.cells #[.int .i64 (vi : Int), .int .i64 (vg : Int), .int .i64 (vn : Int), .slice A l.length c] 29))
  obtain ⟨v0, v1, v2, v3⟩ := cells4 HV6.out
  have hlt6 := HV6.out.lt
  refine region_below_tail 13 (by kernel_rfl) (by kernel_rfl) ?_
  simp only [List.take_succ_cons, List.take_zero, List.drop_succ_cons, List.drop_zero]
  repeat (first | (refine q_cat _ _ _ [83, 74] ?_ rfl rfl rfl ?_ ?_ ?_ ?_; rotate_left 1; (· rfl); (· rfl); (· (try simp only [List.length_append, List.length_cons, List.length_nil]); omega); simp only [Act.put, List.setIfInBounds_toArray, List.set_cons_zero, List.set_cons_succ]) | (refine q_cat _ _ _ ?_ ?_ rfl rfl rfl ?_ ?_ ?_ ?_; rotate_left 2; (· rfl); (· rfl); (· (try simp only [List.length_append, List.length_cons, List.length_nil]); omega); simp only [Act.put, List.setIfInBounds_toArray, List.set_cons_zero, List.set_cons_succ]) | go_big_quiet_step (fail) | (refine BigFrame.wpQuiet_want (by rfl) (fun K hK => ?_); go_big_quiet_op; refine ⟨_, fun _ _ => rfl, hK _ ?_⟩; clear hK K) | (refine q_ld 3 _ _ _ _ rfl rfl rfl rfl (ld_int _ _) (by assumption) (by assumption) ?_; simp only [Act.put, List.setIfInBounds_toArray, List.set_cons_zero, List.set_cons_succ]) | (refine q_ld 9 _ _ _ _ rfl rfl rfl rfl (ld_str _ _) (by assumption) (by assumption) ?_; simp only [Act.put, List.setIfInBounds_toArray, List.set_cons_zero, List.set_cons_succ]) | (refine q_ld 27 _ _ _ _ rfl rfl rfl rfl (ld_sl _ _) (by assumption) (by assumption) ?_; simp only [Act.put, List.setIfInBounds_toArray, List.set_cons_zero, List.set_cons_succ]) | (refine q_go (f := 48) Try.func48 (by kernel_rfl) rfl #[.int .i64 (vi : Int)] _ _ rfl rfl rfl (by simp only [List.map_toArray, List.map_cons, List.map_nil]; rfl) (fun w' _ => rnum_L vi (by omega) w') ?_; simp only [Act.put, List.setIfInBounds_toArray, List.set_cons_zero, List.set_cons_succ]) | (refine q_go (f := 48) Try.func48 (by kernel_rfl) rfl #[.int .i64 (vg : Int)] _ _ rfl rfl rfl (by simp only [List.map_toArray, List.map_cons, List.map_nil]; rfl) (fun w' _ => rnum_L vg (by omega) w') ?_; simp only [Act.put, List.setIfInBounds_toArray, List.set_cons_zero, List.set_cons_succ]) | (refine q_go (f := 48) Try.func48 (by kernel_rfl) rfl #[.int .i64 (vn : Int)] _ _ rfl rfl rfl (by simp only [List.map_toArray, List.map_cons, List.map_nil]; rfl) (fun w' _ => rnum_L vn (by omega) w') ?_; simp only [Act.put, List.setIfInBounds_toArray, List.set_cons_zero, List.set_cons_succ]))
  refine wpQuiet_nil ?_
  intro w3 hw'
  replace HB := Aside0.mk (below2 HB.out HB.out.size hw')
  replace HR := Aside0.mk (HR.out.keep hw')
  replace HV6 := Aside0.mk (HV6.out.keep hw')
  clear hw'
  clear v0 v1 v2 v3 hlt6
  generalize w2.heap.size = g6 at HV6 ⊢
  generalize hE2 : a1 ++ enc vi ++ enc vg ++ enc vn = a2
  have A2 : a2.length ≤ 42 := by rw [← hE2]; simp only [List.length_append]; omega
  have HE2 := Lib.hid hE2
  clear hE2 l0 l1 l2 A1
  generalize a1 ++ enc vi ++ enc vg = z3
  generalize a1 ++ enc vi = z2
  go_wp2_with fail
  go_loopw [5, 7] (fun sv i wr => ∃ k : Nat, k ≤ 9 ∧ i = .int .i64 k ∧ sv = .string (B (a2 ++ locsT l k)) ∧ Aside0 (Below w.heap.size w wr) ∧ Aside0 (Blk wr w.heap.size #[.int .i64 (s : Int), .int .i64 0, .int .i64 (vi : Int), .int .i64 (vg : Int), .int .i64 (vn : Int), (.slice A l.length c), .string (B kl), .int .i64 q7, .int .i64 (eo : Int), .int .i64 (el : Int), .string (B dl), .string q11, .int .i64 q12, .int .i64 q13] 33) ∧ Aside0 (Blk wr g6 #[.int .i64 (vi : Int), .int .i64 (vg : Int), .int .i64 (vn : Int), .slice A l.length c] 29)) (fun _ i _ => 9 - (intOf i).toNat)
  case atStart => exact ⟨0, Nat.zero_le _, rfl, by rw [locsT, List.append_nil], HB, HR, HV6⟩
  case round =>
    clear HB HR HV6
    obtain ⟨k, hk, rfl, rfl, HB, HR, HV6⟩ := hrel
    by_cases hlt : k < 9
    · have hkl : k < l.length := by have := HV.out.nine; omega
      obtain ⟨ad, hA, k0, k1⟩ := at_T83 HC.out k (by omega) (by omega)
      rw [Int.toNat_natCast] at k0 k1
      have hKB := Nat.lt_of_lt_of_le (lt_cell k0) HB.out.size
      have hKB1 := Nat.lt_of_lt_of_le (lt_cell k1) HB.out.size
      have e0 := (HB.out.cell (lt_cell k0)).trans k0
      have e1 := (HB.out.cell (lt_cell k1)).trans k1
      clear k0 k1
      subst hA
      have hv9 := HV.out.locs k hlt
      have hz0 := Int.toNat_of_nonneg hv9.1.1
      have hz1 := Int.toNat_of_nonneg hv9.2.1
      have hb0 : (rd_T83 l k).f0.toNat ≤ 11 := by omega
      have hb1 : (rd_T83 l k).f1.toNat ≤ 47 := by omega
      have HLT := Lib.hid (show locsT l (k + 1) = locsT l k ++ encK [(rd_T83 l k).f0.toNat, (rd_T83 l k).f1.toNat] 2 from rfl)
      have hll := locsT_len HV.out k (by omega)
      rw [← hz0] at e0
      rw [← hz1] at e1
      generalize (rd_T83 l k).f0.toNat = x0 at *
      generalize (rd_T83 l k).f1.toNat = x1 at *
      clear hv9 hz0 hz1
      have l0 := enc_len8 (m := x0) (by omega)
      have l1 := enc_len8 (m := x1) (by omega)
      obtain ⟨v0, v1, v2, v3⟩ := cells4 HV6.out
      have hlt6 := HV6.out.lt
      go_wp2_with fail
      refine region_below_tail 17 (by kernel_rfl) (by kernel_rfl) ?_
      simp only [List.take_succ_cons, List.take_zero, List.drop_succ_cons, List.drop_zero]
      repeat (first | (refine q_cat _ _ _ [83, 74] ?_ rfl rfl rfl ?_ ?_ ?_ ?_; rotate_left 1; (· rfl); (· rfl); (· (try simp only [List.length_append, List.length_cons, List.length_nil]); omega); simp only [Act.put, List.setIfInBounds_toArray, List.set_cons_zero, List.set_cons_succ]) | (refine q_cat _ _ _ ?_ ?_ rfl rfl rfl ?_ ?_ ?_ ?_; rotate_left 2; (· rfl); (· rfl); (· (try simp only [List.length_append, List.length_cons, List.length_nil]); omega); simp only [Act.put, List.setIfInBounds_toArray, List.set_cons_zero, List.set_cons_succ]) | go_big_quiet_step (fail) | (refine BigFrame.wpQuiet_want (by rfl) (fun K hK => ?_); go_big_quiet_op; refine ⟨_, fun _ _ => rfl, hK _ ?_⟩; clear hK K) | (refine q_ld 3 _ _ _ _ rfl rfl rfl rfl (ld_int _ _) (by assumption) (by assumption) ?_; simp only [Act.put, List.setIfInBounds_toArray, List.set_cons_zero, List.set_cons_succ]) | (refine q_ld 9 _ _ _ _ rfl rfl rfl rfl (ld_str _ _) (by assumption) (by assumption) ?_; simp only [Act.put, List.setIfInBounds_toArray, List.set_cons_zero, List.set_cons_succ]) | (refine q_ld 27 _ _ _ _ rfl rfl rfl rfl (ld_sl _ _) (by assumption) (by assumption) ?_; simp only [Act.put, List.setIfInBounds_toArray, List.set_cons_zero, List.set_cons_succ]) | (refine q_go (f := 48) Try.func48 (by kernel_rfl) rfl #[.int .i64 (x0 : Int)] _ _ rfl rfl rfl (by simp only [List.map_toArray, List.map_cons, List.map_nil]; rfl) (fun w' _ => rnum_L x0 (by omega) w') ?_; simp only [Act.put, List.setIfInBounds_toArray, List.set_cons_zero, List.set_cons_succ]) | (refine q_go (f := 48) Try.func48 (by kernel_rfl) rfl #[.int .i64 (x1 : Int)] _ _ rfl rfl rfl (by simp only [List.map_toArray, List.map_cons, List.map_nil]; rfl) (fun w' _ => rnum_L x1 (by omega) w') ?_; simp only [Act.put, List.setIfInBounds_toArray, List.set_cons_zero, List.set_cons_succ]))
      refine wpQuiet_nil ?_
      intro w4 hw'
      replace HB := Aside0.mk (below2 HB.out HB.out.size hw')
      replace HR := Aside0.mk (HR.out.keep hw')
      replace HV6 := Aside0.mk (HV6.out.keep hw')
      clear hw'
      clear v0 v1 v2 v3 hlt6 e0 e1 hKB hKB1
      go_wp2_with fail
      go_roundw
      case rel => exact ⟨k + 1, by omega, by go_num, by rw [HLT.out, encK2]; simp [List.append_assoc], HB, HR, HV6⟩
      case measure => simp [intOf]; omega
    · obtain rfl : k = 9 := by omega
      obtain ⟨w3, rfl⟩ : ∃ x, x = wr := ⟨wr, rfl⟩
      have hll := locsT_len HV.out 9 (by decide)
      generalize hE3 : a2 ++ locsT l 9 = a3
      have A3 : a3.length ≤ 186 := by rw [← hE3, List.length_append]; omega
      have HE3 := Lib.hid hE3
      clear hE3 hll A2 hlt hk HV6
      have l0 := txt_le kl (by have := HK.out; rw [B_data] at this; omega)
      have hk := HK.out
      rw [B_data] at hk
      have l1 := enc_len8 (m := eo) (by have := HO.out; omega)
      have l2 := enc_len8 (m := el) (by have := HE.out; omega)
      have hdl := HDG.out
      rw [B_size] at hdl
      obtain ⟨d0, d1, d2, d3, d4, d5, d6, d7, d8, d9, d10, d11, d12, d13⟩ := cells14 HR.out
      have hlt0 := HR.out.lt
      go_wp2_with fail
      refine region_below_tail 20 (by kernel_rfl) (by kernel_rfl) ?_
      simp only [List.take_succ_cons, List.take_zero, List.drop_succ_cons, List.drop_zero]
      repeat (first | (refine q_cat _ _ _ [83, 74] ?_ rfl rfl rfl ?_ ?_ ?_ ?_; rotate_left 1; (· rfl); (· rfl); (· (try simp only [List.length_append, List.length_cons, List.length_nil]); omega); simp only [Act.put, List.setIfInBounds_toArray, List.set_cons_zero, List.set_cons_succ]) | (refine q_cat _ _ _ ?_ ?_ rfl rfl rfl ?_ ?_ ?_ ?_; rotate_left 2; (· rfl); (· rfl); (· (try simp only [List.length_append, List.length_cons, List.length_nil]); omega); simp only [Act.put, List.setIfInBounds_toArray, List.set_cons_zero, List.set_cons_succ]) | go_big_quiet_step (fail) | (refine BigFrame.wpQuiet_want (by rfl) (fun K hK => ?_); go_big_quiet_op; refine ⟨_, fun _ _ => rfl, hK _ ?_⟩; clear hK K) | (refine q_ld 3 _ _ _ _ rfl rfl rfl rfl (ld_int _ _) (by assumption) (by assumption) ?_; simp only [Act.put, List.setIfInBounds_toArray, List.set_cons_zero, List.set_cons_succ]) | (refine q_ld 9 _ _ _ _ rfl rfl rfl rfl (ld_str _ _) (by assumption) (by assumption) ?_; simp only [Act.put, List.setIfInBounds_toArray, List.set_cons_zero, List.set_cons_succ]) | (refine q_ld 27 _ _ _ _ rfl rfl rfl rfl (ld_sl _ _) (by assumption) (by assumption) ?_; simp only [Act.put, List.setIfInBounds_toArray, List.set_cons_zero, List.set_cons_succ]) | (refine q_go (f := 48) Try.func48 (by kernel_rfl) rfl #[.int .i64 (eo : Int)] _ _ rfl rfl rfl (by simp only [List.map_toArray, List.map_cons, List.map_nil]; rfl) (fun w' _ => rnum_L eo (by have := HO.out; omega) w') ?_; simp only [Act.put, List.setIfInBounds_toArray, List.set_cons_zero, List.set_cons_succ]) | (refine q_go (f := 48) Try.func48 (by kernel_rfl) rfl #[.int .i64 (el : Int)] _ _ rfl rfl rfl (by simp only [List.map_toArray, List.map_cons, List.map_nil]; rfl) (fun w' _ => rnum_L el (by have := HE.out; omega) w') ?_; simp only [Act.put, List.setIfInBounds_toArray, List.set_cons_zero, List.set_cons_succ]) | (refine q_go (f := 50) Try.func50 (by kernel_rfl) rfl #[.string (B kl)] _ _ rfl rfl rfl (by simp only [List.map_toArray, List.map_cons, List.map_nil]; rfl) (fun w' _ => rtxt_L kl (by omega) w') ?_; simp only [Act.put, List.setIfInBounds_toArray, List.set_cons_zero, List.set_cons_succ]))
      refine wpQuiet_nil ?_
      intro w5 hw'
      replace HB := Aside0.mk (below2 HB.out HB.out.size hw')
      replace HR := Aside0.mk (HR.out.keep hw')
      clear hw'
      clear d0 d1 d2 d3 d4 d5 d6 d7 d8 d9 d10 d11 d12 d13 hlt0
      generalize hE4 : a3 ++ txt kl ++ enc eo ++ enc el ++ dl = a4
      have A4 : a4.length ≤ 274 := by rw [← hE4]; simp only [List.length_append]; omega
      have HE4 := Lib.hid hE4
      clear hE4 l0 l1 l2 hk hdl A3
      obtain ⟨d0, d1, d2, d3, d4, d5, d6, d7, d8, d9, d10, d11, d12, d13⟩ := cells14 HR.out
      have hlt0 := HR.out.lt
      go_wp2_with fail
      clear d0 d1 d2 d3 d4 d5 d6 d7 d8 d9 d10 d11 d12 d13 hlt0
      refine Calls.mono (rseal_L a4 w5 (by omega)) ?_
      rintro e wz ⟨rfl, b1⟩
      replace HB := Aside0.mk (below2 HB.out HB.out.size b1)
      clear b1
      go_wp2_with fail
      go_ret2
      refine ⟨?_, HB.out⟩
      have hnine := HV.out.nine
      rw [← HRES.out, ← HE4.out, ← HE3.out, ← HE2.out, ← HE1.out]
      simp [recT, headT, volT, encK2, encK3, hnine, B_data]
set_option maxRecDepth 100000 in
set_option maxHeartbeats 4000000 in
theorem rrw_1 (s : Nat) (q2 q3 q4 : Int) (A : Option Addr) (c : Nat) (l : List S83) (q6 : ByteArray) (q7 q8 q9 : Int) (q10 q11 : ByteArray) (q12 q13 : Int) (w : World) (hr : Kd.C k83 w A l.length l) (hl : l.length ≤ 1000) (hc : l.length ≤ c) (h6 : q6.size ≤ 140737488355328) (h11 : q11.size ≤ 140737488355328) (hz : chkR (⟨(s : Int), 1, q2, q3, q4, l, q6, q7, q8, q9, q10, q11, q12, q13⟩ : RecP) = 0) (hs : s ≤ 63) (hk : q11.data.toList.length ≤ 32) : Calls Try.prog 30 #[.agg #[.int .i64 (s : Int), .int .i64 1, .int .i64 q2, .int .i64 q3, .int .i64 q4, (.slice A l.length c), .string q6, .int .i64 q7, .int .i64 q8, .int .i64 q9, .string q10, .string q11, .int .i64 q12, .int .i64 q13]] w fun e w' => e = .returned (.tuple #[.string (B (sealL (recT (⟨(s : Int), 1, q2, q3, q4, l, q6, q7, q8, q9, q10, q11, q12, q13⟩ : RecP)))), .int .i64 0]) ∧ Below w.heap.size w w' := by
  have hu0 := Try.underlying33
  have hu1 := Try.underlying55
  have hu2 := Try.underlying29
  have hu3 := Try.underlying31
  have hu4 := Try.underlying83
  obtain ⟨res, hres⟩ : ∃ res, B (sealL (recT (⟨(s : Int), 1, q2, q3, q4, l, q6, q7, q8, q9, q10, q11, q12, q13⟩ : RecP))) = res := ⟨_, rfl⟩
  rw [hres]
  have HRES := Lib.hid hres
  clear hres
  have HZ := Lib.hid hz
  have HC := Lib.hid hr
  have HL := Lib.hid hl
  have HCC := Lib.hid hc
  have H6 := Lib.hid h6
  have H11 := Lib.hid h11
  have HK := Lib.hid hk
  clear hk
  clear hz hr hl hc h6 h11
  have HB : Aside0 (Below w.heap.size w (w.alloc (.cells #[.int .i64 (s : Int), .int .i64 1, .int .i64 q2, .int .i64 q3, .int .i64 q4, (.slice A l.length c), .string q6, .int .i64 q7, .int .i64 q8, .int .i64 q9, .string q10, .string q11, .int .i64 q12, .int .i64 q13] 33))) := ⟨below_alloc (Below.refl _ _) _⟩
  have HR : Aside0 (Blk (w.alloc (.cells #[.int .i64 (s : Int), .int .i64 1, .int .i64 q2, .int .i64 q3, .int .i64 q4, (.slice A l.length c), .string q6, .int .i64 q7, .int .i64 q8, .int .i64 q9, .string q10, .string q11, .int .i64 q12, .int .i64 q13] 33)) w.heap.size #[.int .i64 (s : Int), .int .i64 1, .int .i64 q2, .int .i64 q3, .int .i64 q4, (.slice A l.length c), .string q6, .int .i64 q7, .int .i64 q8, .int .i64 q9, .string q10, .string q11, .int .i64 q12, .int .i64 q13] 33) := ⟨Blk.new w _ _⟩
  obtain ⟨d0, d1, d2, d3, d4, d5, d6, d7, d8, d9, d10, d11, d12, d13⟩ := cells14 HR.out
  have hlt0 := HR.out.lt
  go_enter Try.func30, Try.ntmps30
  go_wp2_with fail
  clear d0 d1 d2 d3 d4 d5 d6 d7 d8 d9 d10 d11 d12 d13 hlt0
  have hq0 := refchk_calls (⟨(s : Int), 1, q2, q3, q4, l, q6, q7, q8, q9, q10, q11, q12, q13⟩ : RecP) A c (w.alloc (.cells #[.int .i64 (s : Int), .int .i64 1, .int .i64 q2, .int .i64 q3, .int .i64 q4, (.slice A l.length c), .string q6, .int .i64 q7, .int .i64 q8, .int .i64 q9, .string q10, .string q11, .int .i64 q12, .int .i64 q13] 33)) (Kd.C_below HC.out HB.out) HL.out HCC.out H6.out H11.out
  rw [HZ.out] at hq0
  refine Calls.mono hq0 ?_
  clear hq0
  rintro e wa ⟨rfl, b1⟩
  replace HB := Aside0.mk (below2 HB.out HB.out.size b1)
  replace HR := Aside0.mk (HR.out.keep b1)
  clear b1
  have l0 := enc_len8 (m := s) (by omega)
  have l1 := enc_len8 (m := 1) (by omega)
  obtain ⟨d0, d1, d2, d3, d4, d5, d6, d7, d8, d9, d10, d11, d12, d13⟩ := cells14 HR.out
  have hlt0 := HR.out.lt
  go_wp2_with fail
  refine region_below_tail 8 (by kernel_rfl) (by kernel_rfl) ?_
  simp only [List.take_succ_cons, List.take_zero, List.drop_succ_cons, List.drop_zero]
  repeat (first | (refine q_cat _ _ _ [83, 74] ?_ rfl rfl rfl ?_ ?_ ?_ ?_; rotate_left 1; (· rfl); (· rfl); (· (try simp only [List.length_append, List.length_cons, List.length_nil]); omega); simp only [Act.put, List.setIfInBounds_toArray, List.set_cons_zero, List.set_cons_succ]) | (refine q_cat _ _ _ ?_ ?_ rfl rfl rfl ?_ ?_ ?_ ?_; rotate_left 2; (· rfl); (· rfl); (· (try simp only [List.length_append, List.length_cons, List.length_nil]); omega); simp only [Act.put, List.setIfInBounds_toArray, List.set_cons_zero, List.set_cons_succ]) | go_big_quiet_step (fail) | (refine BigFrame.wpQuiet_want (by rfl) (fun K hK => ?_); go_big_quiet_op; refine ⟨_, fun _ _ => rfl, hK _ ?_⟩; clear hK K) | (refine q_ld 3 _ _ _ _ rfl rfl rfl rfl (ld_int _ _) (by assumption) (by assumption) ?_; simp only [Act.put, List.setIfInBounds_toArray, List.set_cons_zero, List.set_cons_succ]) | (refine q_ld 9 _ _ _ _ rfl rfl rfl rfl (ld_str _ _) (by assumption) (by assumption) ?_; simp only [Act.put, List.setIfInBounds_toArray, List.set_cons_zero, List.set_cons_succ]) | (refine q_ld 27 _ _ _ _ rfl rfl rfl rfl (ld_sl _ _) (by assumption) (by assumption) ?_; simp only [Act.put, List.setIfInBounds_toArray, List.set_cons_zero, List.set_cons_succ]) | (refine q_go (f := 48) Try.func48 (by kernel_rfl) rfl #[.int .i64 (s : Int)] _ _ rfl rfl rfl (by simp only [List.map_toArray, List.map_cons, List.map_nil]; rfl) (fun w' _ => rnum_L s (by omega) w') ?_; simp only [Act.put, List.setIfInBounds_toArray, List.set_cons_zero, List.set_cons_succ]) | (refine q_go (f := 48) Try.func48 (by kernel_rfl) rfl #[.int .i64 1] _ _ rfl rfl rfl (by simp only [List.map_toArray, List.map_cons, List.map_nil]; rfl) (fun w' _ => rnum_L 1 (by decide) w') ?_; simp only [Act.put, List.setIfInBounds_toArray, List.set_cons_zero, List.set_cons_succ]))
  refine wpQuiet_nil ?_
  intro w2 hw'
  replace HB := Aside0.mk (below2 HB.out HB.out.size hw')
  replace HR := Aside0.mk (HR.out.keep hw')
  clear hw'
  clear d0 d1 d2 d3 d4 d5 d6 d7 d8 d9 d10 d11 d12 d13 hlt0
  generalize hE1 : [83, 74] ++ enc s ++ enc 1 = a1
  have A1 : a1.length ≤ 18 := by rw [← hE1]; simp only [List.length_append, List.length_cons, List.length_nil]; omega
  have HE1 := Lib.hid hE1
  clear hE1 l0 l1
  generalize [83, 74] ++ enc s = z1
  have ht := txt_le q11.data.toList (by have := HK.out; omega)
  have hk := HK.out
  have hs : ¬ 9223372036854775807 < (B a1).size + (B (txt q11.data.toList)).size := by rw [B_size, B_size]; omega
  have hcat := B_append a1 (txt q11.data.toList)
  obtain ⟨d0, d1, d2, d3, d4, d5, d6, d7, d8, d9, d10, d11, d12, d13⟩ := cells14 HR.out
  have hlt0 := HR.out.lt
  go_wp2_with fail
  clear d0 d1 d2 d3 d4 d5 d6 d7 d8 d9 d10 d11 d12 d13 hlt0
  have hx := rtxt_L q11.data.toList (by omega) w2
  rw [B_eta] at hx
  refine Calls.mono hx ?_
  clear hx
  rintro e w3 ⟨rfl, b1⟩
  replace HB := Aside0.mk (below2 HB.out HB.out.size b1)
  clear b1
  go_wp2_with fail
  refine Calls.mono (rseal_L (a1 ++ txt q11.data.toList) w3 (by rw [List.length_append]; omega)) ?_
  rintro e wz ⟨rfl, b1⟩
  replace HB := Aside0.mk (below2 HB.out HB.out.size b1)
  clear b1
  go_wp2_with fail
  go_ret2
  refine ⟨?_, HB.out⟩
  rw [← HRES.out, ← HE1.out]
  show _ = _
  simp [recT, headT, encK2]
set_option maxRecDepth 100000 in
set_option maxHeartbeats 4000000 in
theorem rrw_2 (s vi vg vn : Nat) (A : Option Addr) (c : Nat) (l : List S83) (q6 : ByteArray) (q7 q8 q9 : Int) (q10 q11 : ByteArray) (q12 q13 : Int) (w : World) (hr : Kd.C k83 w A l.length l) (hl : l.length ≤ 1000) (hc : l.length ≤ c) (h6 : q6.size ≤ 140737488355328) (h11 : q11.size ≤ 140737488355328) (hz : chkR (⟨(s : Int), 2, (vi : Int), (vg : Int), (vn : Int), l, q6, q7, q8, q9, q10, q11, q12, q13⟩ : RecP) = 0) (hs : s ≤ 63) (hv : VolOk vi vg vn l) : Calls Try.prog 30 #[.agg #[.int .i64 (s : Int), .int .i64 2, .int .i64 (vi : Int), .int .i64 (vg : Int), .int .i64 (vn : Int), (.slice A l.length c), .string q6, .int .i64 q7, .int .i64 q8, .int .i64 q9, .string q10, .string q11, .int .i64 q12, .int .i64 q13]] w fun e w' => e = .returned (.tuple #[.string (B (sealL (recT (⟨(s : Int), 2, (vi : Int), (vg : Int), (vn : Int), l, q6, q7, q8, q9, q10, q11, q12, q13⟩ : RecP)))), .int .i64 0]) ∧ Below w.heap.size w w' := by
  have hu0 := Try.underlying33
  have hu1 := Try.underlying55
  have hu2 := Try.underlying29
  have hu3 := Try.underlying31
  have hu4 := Try.underlying83
  obtain ⟨res, hres⟩ : ∃ res, B (sealL (recT (⟨(s : Int), 2, (vi : Int), (vg : Int), (vn : Int), l, q6, q7, q8, q9, q10, q11, q12, q13⟩ : RecP))) = res := ⟨_, rfl⟩
  rw [hres]
  have HRES := Lib.hid hres
  clear hres
  have HZ := Lib.hid hz
  have HC := Lib.hid hr
  have HL := Lib.hid hl
  have HCC := Lib.hid hc
  have H6 := Lib.hid h6
  have H11 := Lib.hid h11
  have HV := Lib.hid hv
  have hvi := hv.i.2
  have hvg := hv.g.2
  have hvn := hv.n.2
  clear hv
  clear hz hr hl hc h6 h11
  have HB : Aside0 (Below w.heap.size w (w.alloc (.cells #[.int .i64 (s : Int), .int .i64 2, .int .i64 (vi : Int), .int .i64 (vg : Int), .int .i64 (vn : Int), (.slice A l.length c), .string q6, .int .i64 q7, .int .i64 q8, .int .i64 q9, .string q10, .string q11, .int .i64 q12, .int .i64 q13] 33))) := ⟨below_alloc (Below.refl _ _) _⟩
  have HR : Aside0 (Blk (w.alloc (.cells #[.int .i64 (s : Int), .int .i64 2, .int .i64 (vi : Int), .int .i64 (vg : Int), .int .i64 (vn : Int), (.slice A l.length c), .string q6, .int .i64 q7, .int .i64 q8, .int .i64 q9, .string q10, .string q11, .int .i64 q12, .int .i64 q13] 33)) w.heap.size #[.int .i64 (s : Int), .int .i64 2, .int .i64 (vi : Int), .int .i64 (vg : Int), .int .i64 (vn : Int), (.slice A l.length c), .string q6, .int .i64 q7, .int .i64 q8, .int .i64 q9, .string q10, .string q11, .int .i64 q12, .int .i64 q13] 33) := ⟨Blk.new w _ _⟩
  obtain ⟨d0, d1, d2, d3, d4, d5, d6, d7, d8, d9, d10, d11, d12, d13⟩ := cells14 HR.out
  have hlt0 := HR.out.lt
  go_enter Try.func30, Try.ntmps30
  go_wp2_with fail
  clear d0 d1 d2 d3 d4 d5 d6 d7 d8 d9 d10 d11 d12 d13 hlt0
  have hq0 := refchk_calls (⟨(s : Int), 2, (vi : Int), (vg : Int), (vn : Int), l, q6, q7, q8, q9, q10, q11, q12, q13⟩ : RecP) A c (w.alloc (.cells #[.int .i64 (s : Int), .int .i64 2, .int .i64 (vi : Int), .int .i64 (vg : Int), .int .i64 (vn : Int), (.slice A l.length c), .string q6, .int .i64 q7, .int .i64 q8, .int .i64 q9, .string q10, .string q11, .int .i64 q12, .int .i64 q13] 33)) (Kd.C_below HC.out HB.out) HL.out HCC.out H6.out H11.out
  rw [HZ.out] at hq0
  refine Calls.mono hq0 ?_
  clear hq0
  rintro e wa ⟨rfl, b1⟩
  replace HB := Aside0.mk (below2 HB.out HB.out.size b1)
  replace HR := Aside0.mk (HR.out.keep b1)
  clear b1
  have l0 := enc_len8 (m := s) (by omega)
  have l1 := enc_len8 (m := 2) (by omega)
  obtain ⟨d0, d1, d2, d3, d4, d5, d6, d7, d8, d9, d10, d11, d12, d13⟩ := cells14 HR.out
  have hlt0 := HR.out.lt
  go_wp2_with fail
  refine region_below_tail 8 (by kernel_rfl) (by kernel_rfl) ?_
  simp only [List.take_succ_cons, List.take_zero, List.drop_succ_cons, List.drop_zero]
  repeat (first | (refine q_cat _ _ _ [83, 74] ?_ rfl rfl rfl ?_ ?_ ?_ ?_; rotate_left 1; (· rfl); (· rfl); (· (try simp only [List.length_append, List.length_cons, List.length_nil]); omega); simp only [Act.put, List.setIfInBounds_toArray, List.set_cons_zero, List.set_cons_succ]) | (refine q_cat _ _ _ ?_ ?_ rfl rfl rfl ?_ ?_ ?_ ?_; rotate_left 2; (· rfl); (· rfl); (· (try simp only [List.length_append, List.length_cons, List.length_nil]); omega); simp only [Act.put, List.setIfInBounds_toArray, List.set_cons_zero, List.set_cons_succ]) | go_big_quiet_step (fail) | (refine BigFrame.wpQuiet_want (by rfl) (fun K hK => ?_); go_big_quiet_op; refine ⟨_, fun _ _ => rfl, hK _ ?_⟩; clear hK K) | (refine q_ld 3 _ _ _ _ rfl rfl rfl rfl (ld_int _ _) (by assumption) (by assumption) ?_; simp only [Act.put, List.setIfInBounds_toArray, List.set_cons_zero, List.set_cons_succ]) | (refine q_ld 9 _ _ _ _ rfl rfl rfl rfl (ld_str _ _) (by assumption) (by assumption) ?_; simp only [Act.put, List.setIfInBounds_toArray, List.set_cons_zero, List.set_cons_succ]) | (refine q_ld 27 _ _ _ _ rfl rfl rfl rfl (ld_sl _ _) (by assumption) (by assumption) ?_; simp only [Act.put, List.setIfInBounds_toArray, List.set_cons_zero, List.set_cons_succ]) | (refine q_go (f := 48) Try.func48 (by kernel_rfl) rfl #[.int .i64 (s : Int)] _ _ rfl rfl rfl (by simp only [List.map_toArray, List.map_cons, List.map_nil]; rfl) (fun w' _ => rnum_L s (by omega) w') ?_; simp only [Act.put, List.setIfInBounds_toArray, List.set_cons_zero, List.set_cons_succ]) | (refine q_go (f := 48) Try.func48 (by kernel_rfl) rfl #[.int .i64 2] _ _ rfl rfl rfl (by simp only [List.map_toArray, List.map_cons, List.map_nil]; rfl) (fun w' _ => rnum_L 2 (by decide) w') ?_; simp only [Act.put, List.setIfInBounds_toArray, List.set_cons_zero, List.set_cons_succ]))
  refine wpQuiet_nil ?_
  intro w2 hw'
  replace HB := Aside0.mk (below2 HB.out HB.out.size hw')
  replace HR := Aside0.mk (HR.out.keep hw')
  clear hw'
  clear d0 d1 d2 d3 d4 d5 d6 d7 d8 d9 d10 d11 d12 d13 hlt0
  generalize hE1 : [83, 74] ++ enc s ++ enc 2 = a1
  have A1 : a1.length ≤ 18 := by rw [← hE1]; simp only [List.length_append, List.length_cons, List.length_nil]; omega
  have HE1 := Lib.hid hE1
  clear hE1 l0 l1
  generalize [83, 74] ++ enc s = z1
  have l0 := enc_len8 (m := vi) (by omega)
  have l1 := enc_len8 (m := vg) (by omega)
  have l2 := enc_len8 (m := vn) (by omega)
  obtain ⟨d0, d1, d2, d3, d4, d5, d6, d7, d8, d9, d10, d11, d12, d13⟩ := cells14 HR.out
  have hlt0 := HR.out.lt
  go_wp2_with fail
  clear d0 d1 d2 d3 d4 d5 d6 d7 d8 d9 d10 d11 d12 d13 hlt0
  have HV6 := Aside0.mk (Blk.new w2 #[.int .i64 (vi : Int), .int .i64 (vg : Int), .int .i64 (vn : Int), .slice A l.length c] 29)
  replace HB := Aside0.mk (below_alloc HB.out (.cells #[.int .i64 (vi : Int), .int .i64 (vg : Int), .int .i64 (vn : Int), .slice A l.length c] 29))
  replace HR := Aside0.mk (HR.out.alloc (.cells #[.int .i64 (vi : Int), .int .i64 (vg : Int), .int .i64 (vn : Int), .slice A l.length c] 29))
  obtain ⟨v0, v1, v2, v3⟩ := cells4 HV6.out
  have hlt6 := HV6.out.lt
  refine region_below_tail 13 (by kernel_rfl) (by kernel_rfl) ?_
  simp only [List.take_succ_cons, List.take_zero, List.drop_succ_cons, List.drop_zero]
  repeat (first | (refine q_cat _ _ _ [83, 74] ?_ rfl rfl rfl ?_ ?_ ?_ ?_; rotate_left 1; (· rfl); (· rfl); (· (try simp only [List.length_append, List.length_cons, List.length_nil]); omega); simp only [Act.put, List.setIfInBounds_toArray, List.set_cons_zero, List.set_cons_succ]) | (refine q_cat _ _ _ ?_ ?_ rfl rfl rfl ?_ ?_ ?_ ?_; rotate_left 2; (· rfl); (· rfl); (· (try simp only [List.length_append, List.length_cons, List.length_nil]); omega); simp only [Act.put, List.setIfInBounds_toArray, List.set_cons_zero, List.set_cons_succ]) | go_big_quiet_step (fail) | (refine BigFrame.wpQuiet_want (by rfl) (fun K hK => ?_); go_big_quiet_op; refine ⟨_, fun _ _ => rfl, hK _ ?_⟩; clear hK K) | (refine q_ld 3 _ _ _ _ rfl rfl rfl rfl (ld_int _ _) (by assumption) (by assumption) ?_; simp only [Act.put, List.setIfInBounds_toArray, List.set_cons_zero, List.set_cons_succ]) | (refine q_ld 9 _ _ _ _ rfl rfl rfl rfl (ld_str _ _) (by assumption) (by assumption) ?_; simp only [Act.put, List.setIfInBounds_toArray, List.set_cons_zero, List.set_cons_succ]) | (refine q_ld 27 _ _ _ _ rfl rfl rfl rfl (ld_sl _ _) (by assumption) (by assumption) ?_; simp only [Act.put, List.setIfInBounds_toArray, List.set_cons_zero, List.set_cons_succ]) | (refine q_go (f := 48) Try.func48 (by kernel_rfl) rfl #[.int .i64 (vi : Int)] _ _ rfl rfl rfl (by simp only [List.map_toArray, List.map_cons, List.map_nil]; rfl) (fun w' _ => rnum_L vi (by omega) w') ?_; simp only [Act.put, List.setIfInBounds_toArray, List.set_cons_zero, List.set_cons_succ]) | (refine q_go (f := 48) Try.func48 (by kernel_rfl) rfl #[.int .i64 (vg : Int)] _ _ rfl rfl rfl (by simp only [List.map_toArray, List.map_cons, List.map_nil]; rfl) (fun w' _ => rnum_L vg (by omega) w') ?_; simp only [Act.put, List.setIfInBounds_toArray, List.set_cons_zero, List.set_cons_succ]) | (refine q_go (f := 48) Try.func48 (by kernel_rfl) rfl #[.int .i64 (vn : Int)] _ _ rfl rfl rfl (by simp only [List.map_toArray, List.map_cons, List.map_nil]; rfl) (fun w' _ => rnum_L vn (by omega) w') ?_; simp only [Act.put, List.setIfInBounds_toArray, List.set_cons_zero, List.set_cons_succ]))
  refine wpQuiet_nil ?_
  intro w3 hw'
  replace HB := Aside0.mk (below2 HB.out HB.out.size hw')
  replace HR := Aside0.mk (HR.out.keep hw')
  replace HV6 := Aside0.mk (HV6.out.keep hw')
  clear hw'
  clear v0 v1 v2 v3 hlt6
  generalize w2.heap.size = g6 at HV6 ⊢
  generalize hE2 : a1 ++ enc vi ++ enc vg ++ enc vn = a2
  have A2 : a2.length ≤ 42 := by rw [← hE2]; simp only [List.length_append]; omega
  have HE2 := Lib.hid hE2
  clear hE2 l0 l1 l2 A1
  generalize a1 ++ enc vi ++ enc vg = z3
  generalize a1 ++ enc vi = z2
  go_wp2_with fail
  go_loopw [5, 7] (fun sv i wr => ∃ k : Nat, k ≤ 9 ∧ i = .int .i64 k ∧ sv = .string (B (a2 ++ locsT l k)) ∧ Aside0 (Below w.heap.size w wr) ∧ Aside0 (Blk wr w.heap.size #[.int .i64 (s : Int), .int .i64 2, .int .i64 (vi : Int), .int .i64 (vg : Int), .int .i64 (vn : Int), (.slice A l.length c), .string q6, .int .i64 q7, .int .i64 q8, .int .i64 q9, .string q10, .string q11, .int .i64 q12, .int .i64 q13] 33) ∧ Aside0 (Blk wr g6 #[.int .i64 (vi : Int), .int .i64 (vg : Int), .int .i64 (vn : Int), .slice A l.length c] 29)) (fun _ i _ => 9 - (intOf i).toNat)
  case atStart => exact ⟨0, Nat.zero_le _, rfl, by rw [locsT, List.append_nil], HB, HR, HV6⟩
  case round =>
    clear HB HR HV6
    obtain ⟨k, hk, rfl, rfl, HB, HR, HV6⟩ := hrel
    by_cases hlt : k < 9
    · have hkl : k < l.length := by have := HV.out.nine; omega
      obtain ⟨ad, hA, k0, k1⟩ := at_T83 HC.out k (by omega) (by omega)
      rw [Int.toNat_natCast] at k0 k1
      have hKB := Nat.lt_of_lt_of_le (lt_cell k0) HB.out.size
      have hKB1 := Nat.lt_of_lt_of_le (lt_cell k1) HB.out.size
      have e0 := (HB.out.cell (lt_cell k0)).trans k0
      have e1 := (HB.out.cell (lt_cell k1)).trans k1
      clear k0 k1
      subst hA
      have hv9 := HV.out.locs k hlt
      have hz0 := Int.toNat_of_nonneg hv9.1.1
      have hz1 := Int.toNat_of_nonneg hv9.2.1
      have hb0 : (rd_T83 l k).f0.toNat ≤ 11 := by omega
      have hb1 : (rd_T83 l k).f1.toNat ≤ 47 := by omega
      have HLT := Lib.hid (show locsT l (k + 1) = locsT l k ++ encK [(rd_T83 l k).f0.toNat, (rd_T83 l k).f1.toNat] 2 from rfl)
      have hll := locsT_len HV.out k (by omega)
      rw [← hz0] at e0
      rw [← hz1] at e1
      generalize (rd_T83 l k).f0.toNat = x0 at *
      generalize (rd_T83 l k).f1.toNat = x1 at *
      clear hv9 hz0 hz1
      have l0 := enc_len8 (m := x0) (by omega)
      have l1 := enc_len8 (m := x1) (by omega)
      obtain ⟨v0, v1, v2, v3⟩ := cells4 HV6.out
      have hlt6 := HV6.out.lt
      go_wp2_with fail
      refine region_below_tail 17 (by kernel_rfl) (by kernel_rfl) ?_
      simp only [List.take_succ_cons, List.take_zero, List.drop_succ_cons, List.drop_zero]
      repeat (first | (refine q_cat _ _ _ [83, 74] ?_ rfl rfl rfl ?_ ?_ ?_ ?_; rotate_left 1; (· rfl); (· rfl); (· (try simp only [List.length_append, List.length_cons, List.length_nil]); omega); simp only [Act.put, List.setIfInBounds_toArray, List.set_cons_zero, List.set_cons_succ]) | (refine q_cat _ _ _ ?_ ?_ rfl rfl rfl ?_ ?_ ?_ ?_; rotate_left 2; (· rfl); (· rfl); (· (try simp only [List.length_append, List.length_cons, List.length_nil]); omega); simp only [Act.put, List.setIfInBounds_toArray, List.set_cons_zero, List.set_cons_succ]) | go_big_quiet_step (fail) | (refine BigFrame.wpQuiet_want (by rfl) (fun K hK => ?_); go_big_quiet_op; refine ⟨_, fun _ _ => rfl, hK _ ?_⟩; clear hK K) | (refine q_ld 3 _ _ _ _ rfl rfl rfl rfl (ld_int _ _) (by assumption) (by assumption) ?_; simp only [Act.put, List.setIfInBounds_toArray, List.set_cons_zero, List.set_cons_succ]) | (refine q_ld 9 _ _ _ _ rfl rfl rfl rfl (ld_str _ _) (by assumption) (by assumption) ?_; simp only [Act.put, List.setIfInBounds_toArray, List.set_cons_zero, List.set_cons_succ]) | (refine q_ld 27 _ _ _ _ rfl rfl rfl rfl (ld_sl _ _) (by assumption) (by assumption) ?_; simp only [Act.put, List.setIfInBounds_toArray, List.set_cons_zero, List.set_cons_succ]) | (refine q_go (f := 48) Try.func48 (by kernel_rfl) rfl #[.int .i64 (x0 : Int)] _ _ rfl rfl rfl (by simp only [List.map_toArray, List.map_cons, List.map_nil]; rfl) (fun w' _ => rnum_L x0 (by omega) w') ?_; simp only [Act.put, List.setIfInBounds_toArray, List.set_cons_zero, List.set_cons_succ]) | (refine q_go (f := 48) Try.func48 (by kernel_rfl) rfl #[.int .i64 (x1 : Int)] _ _ rfl rfl rfl (by simp only [List.map_toArray, List.map_cons, List.map_nil]; rfl) (fun w' _ => rnum_L x1 (by omega) w') ?_; simp only [Act.put, List.setIfInBounds_toArray, List.set_cons_zero, List.set_cons_succ]))
      refine wpQuiet_nil ?_
      intro w4 hw'
      replace HB := Aside0.mk (below2 HB.out HB.out.size hw')
      replace HR := Aside0.mk (HR.out.keep hw')
      replace HV6 := Aside0.mk (HV6.out.keep hw')
      clear hw'
      clear v0 v1 v2 v3 hlt6 e0 e1 hKB hKB1
      go_wp2_with fail
      go_roundw
      case rel => exact ⟨k + 1, by omega, by go_num, by rw [HLT.out, encK2]; simp [List.append_assoc], HB, HR, HV6⟩
      case measure => simp [intOf]; omega
    · obtain rfl : k = 9 := by omega
      obtain ⟨w3, rfl⟩ : ∃ x, x = wr := ⟨wr, rfl⟩
      have hll := locsT_len HV.out 9 (by decide)
      generalize hE3 : a2 ++ locsT l 9 = a3
      have A3 : a3.length ≤ 186 := by rw [← hE3, List.length_append]; omega
      have HE3 := Lib.hid hE3
      clear hE3 hll A2 hlt hk HV6
      obtain ⟨d0, d1, d2, d3, d4, d5, d6, d7, d8, d9, d10, d11, d12, d13⟩ := cells14 HR.out
      have hlt0 := HR.out.lt
      go_wp2_with fail
      clear d0 d1 d2 d3 d4 d5 d6 d7 d8 d9 d10 d11 d12 d13 hlt0
      refine Calls.mono (rseal_L a3 w3 (by omega)) ?_
      rintro e wz ⟨rfl, b1⟩
      replace HB := Aside0.mk (below2 HB.out HB.out.size b1)
      clear b1
      go_wp2_with fail
      go_ret2
      refine ⟨?_, HB.out⟩
      have hnine := HV.out.nine
      rw [← HRES.out, ← HE3.out, ← HE2.out, ← HE1.out]
      simp [recT, headT, volT, encK2, encK3, hnine, B_data]
set_option maxRecDepth 100000 in
set_option maxHeartbeats 4000000 in
theorem rrw_3 (s vi vg vn : Nat) (A : Option Addr) (c : Nat) (l : List S83) (q6 : ByteArray) (q7 q8 q9 : Int) (q10 q11 : ByteArray) (fr ti : Nat) (w : World) (hr : Kd.C k83 w A l.length l) (hl : l.length ≤ 1000) (hc : l.length ≤ c) (h6 : q6.size ≤ 140737488355328) (h11 : q11.size ≤ 140737488355328) (hz : chkR (⟨(s : Int), 3, (vi : Int), (vg : Int), (vn : Int), l, q6, q7, q8, q9, q10, q11, (fr : Int), (ti : Int)⟩ : RecP) = 0) (hs : s ≤ 63) (hv : VolOk vi vg vn l) (hf : fr ≤ 1099511627776) (ht : ti ≤ 1099511627776) : Calls Try.prog 30 #[.agg #[.int .i64 (s : Int), .int .i64 3, .int .i64 (vi : Int), .int .i64 (vg : Int), .int .i64 (vn : Int), (.slice A l.length c), .string q6, .int .i64 q7, .int .i64 q8, .int .i64 q9, .string q10, .string q11, .int .i64 (fr : Int), .int .i64 (ti : Int)]] w fun e w' => e = .returned (.tuple #[.string (B (sealL (recT (⟨(s : Int), 3, (vi : Int), (vg : Int), (vn : Int), l, q6, q7, q8, q9, q10, q11, (fr : Int), (ti : Int)⟩ : RecP)))), .int .i64 0]) ∧ Below w.heap.size w w' := by
  have hu0 := Try.underlying33
  have hu1 := Try.underlying55
  have hu2 := Try.underlying29
  have hu3 := Try.underlying31
  have hu4 := Try.underlying83
  obtain ⟨res, hres⟩ : ∃ res, B (sealL (recT (⟨(s : Int), 3, (vi : Int), (vg : Int), (vn : Int), l, q6, q7, q8, q9, q10, q11, (fr : Int), (ti : Int)⟩ : RecP))) = res := ⟨_, rfl⟩
  rw [hres]
  have HRES := Lib.hid hres
  clear hres
  have HZ := Lib.hid hz
  have HC := Lib.hid hr
  have HL := Lib.hid hl
  have HCC := Lib.hid hc
  have H6 := Lib.hid h6
  have H11 := Lib.hid h11
  have HV := Lib.hid hv
  have HFR := Lib.hid hf
  have HTI := Lib.hid ht
  have hvi := hv.i.2
  have hvg := hv.g.2
  have hvn := hv.n.2
  clear hf ht hv
  clear hz hr hl hc h6 h11
  have HB : Aside0 (Below w.heap.size w (w.alloc (.cells #[.int .i64 (s : Int), .int .i64 3, .int .i64 (vi : Int), .int .i64 (vg : Int), .int .i64 (vn : Int), (.slice A l.length c), .string q6, .int .i64 q7, .int .i64 q8, .int .i64 q9, .string q10, .string q11, .int .i64 (fr : Int), .int .i64 (ti : Int)] 33))) := ⟨below_alloc (Below.refl _ _) _⟩
  have HR : Aside0 (Blk (w.alloc (.cells #[.int .i64 (s : Int), .int .i64 3, .int .i64 (vi : Int), .int .i64 (vg : Int), .int .i64 (vn : Int), (.slice A l.length c), .string q6, .int .i64 q7, .int .i64 q8, .int .i64 q9, .string q10, .string q11, .int .i64 (fr : Int), .int .i64 (ti : Int)] 33)) w.heap.size #[.int .i64 (s : Int), .int .i64 3, .int .i64 (vi : Int), .int .i64 (vg : Int), .int .i64 (vn : Int), (.slice A l.length c), .string q6, .int .i64 q7, .int .i64 q8, .int .i64 q9, .string q10, .string q11, .int .i64 (fr : Int), .int .i64 (ti : Int)] 33) := ⟨Blk.new w _ _⟩
  obtain ⟨d0, d1, d2, d3, d4, d5, d6, d7, d8, d9, d10, d11, d12, d13⟩ := cells14 HR.out
  have hlt0 := HR.out.lt
  go_enter Try.func30, Try.ntmps30
  go_wp2_with fail
  clear d0 d1 d2 d3 d4 d5 d6 d7 d8 d9 d10 d11 d12 d13 hlt0
  have hq0 := refchk_calls (⟨(s : Int), 3, (vi : Int), (vg : Int), (vn : Int), l, q6, q7, q8, q9, q10, q11, (fr : Int), (ti : Int)⟩ : RecP) A c (w.alloc (.cells #[.int .i64 (s : Int), .int .i64 3, .int .i64 (vi : Int), .int .i64 (vg : Int), .int .i64 (vn : Int), (.slice A l.length c), .string q6, .int .i64 q7, .int .i64 q8, .int .i64 q9, .string q10, .string q11, .int .i64 (fr : Int), .int .i64 (ti : Int)] 33)) (Kd.C_below HC.out HB.out) HL.out HCC.out H6.out H11.out
  rw [HZ.out] at hq0
  refine Calls.mono hq0 ?_
  clear hq0
  rintro e wa ⟨rfl, b1⟩
  replace HB := Aside0.mk (below2 HB.out HB.out.size b1)
  replace HR := Aside0.mk (HR.out.keep b1)
  clear b1
  have l0 := enc_len8 (m := s) (by omega)
  have l1 := enc_len8 (m := 3) (by omega)
  obtain ⟨d0, d1, d2, d3, d4, d5, d6, d7, d8, d9, d10, d11, d12, d13⟩ := cells14 HR.out
  have hlt0 := HR.out.lt
  go_wp2_with fail
  refine region_below_tail 8 (by kernel_rfl) (by kernel_rfl) ?_
  simp only [List.take_succ_cons, List.take_zero, List.drop_succ_cons, List.drop_zero]
  repeat (first | (refine q_cat _ _ _ [83, 74] ?_ rfl rfl rfl ?_ ?_ ?_ ?_; rotate_left 1; (· rfl); (· rfl); (· (try simp only [List.length_append, List.length_cons, List.length_nil]); omega); simp only [Act.put, List.setIfInBounds_toArray, List.set_cons_zero, List.set_cons_succ]) | (refine q_cat _ _ _ ?_ ?_ rfl rfl rfl ?_ ?_ ?_ ?_; rotate_left 2; (· rfl); (· rfl); (· (try simp only [List.length_append, List.length_cons, List.length_nil]); omega); simp only [Act.put, List.setIfInBounds_toArray, List.set_cons_zero, List.set_cons_succ]) | go_big_quiet_step (fail) | (refine BigFrame.wpQuiet_want (by rfl) (fun K hK => ?_); go_big_quiet_op; refine ⟨_, fun _ _ => rfl, hK _ ?_⟩; clear hK K) | (refine q_ld 3 _ _ _ _ rfl rfl rfl rfl (ld_int _ _) (by assumption) (by assumption) ?_; simp only [Act.put, List.setIfInBounds_toArray, List.set_cons_zero, List.set_cons_succ]) | (refine q_ld 9 _ _ _ _ rfl rfl rfl rfl (ld_str _ _) (by assumption) (by assumption) ?_; simp only [Act.put, List.setIfInBounds_toArray, List.set_cons_zero, List.set_cons_succ]) | (refine q_ld 27 _ _ _ _ rfl rfl rfl rfl (ld_sl _ _) (by assumption) (by assumption) ?_; simp only [Act.put, List.setIfInBounds_toArray, List.set_cons_zero, List.set_cons_succ]) | (refine q_go (f := 48) Try.func48 (by kernel_rfl) rfl #[.int .i64 (s : Int)] _ _ rfl rfl rfl (by simp only [List.map_toArray, List.map_cons, List.map_nil]; rfl) (fun w' _ => rnum_L s (by omega) w') ?_; simp only [Act.put, List.setIfInBounds_toArray, List.set_cons_zero, List.set_cons_succ]) | (refine q_go (f := 48) Try.func48 (by kernel_rfl) rfl #[.int .i64 3] _ _ rfl rfl rfl (by simp only [List.map_toArray, List.map_cons, List.map_nil]; rfl) (fun w' _ => rnum_L 3 (by decide) w') ?_; simp only [Act.put, List.setIfInBounds_toArray, List.set_cons_zero, List.set_cons_succ]))
  refine wpQuiet_nil ?_
  intro w2 hw'
  replace HB := Aside0.mk (below2 HB.out HB.out.size hw')
  replace HR := Aside0.mk (HR.out.keep hw')
  clear hw'
  clear d0 d1 d2 d3 d4 d5 d6 d7 d8 d9 d10 d11 d12 d13 hlt0
  generalize hE1 : [83, 74] ++ enc s ++ enc 3 = a1
  have A1 : a1.length ≤ 18 := by rw [← hE1]; simp only [List.length_append, List.length_cons, List.length_nil]; omega
  have HE1 := Lib.hid hE1
  clear hE1 l0 l1
  generalize [83, 74] ++ enc s = z1
  have l0 := enc_len8 (m := vi) (by omega)
  have l1 := enc_len8 (m := vg) (by omega)
  have l2 := enc_len8 (m := vn) (by omega)
  obtain ⟨d0, d1, d2, d3, d4, d5, d6, d7, d8, d9, d10, d11, d12, d13⟩ := cells14 HR.out
  have hlt0 := HR.out.lt
  go_wp2_with fail
  clear d0 d1 d2 d3 d4 d5 d6 d7 d8 d9 d10 d11 d12 d13 hlt0
  have HV6 := Aside0.mk (Blk.new w2 #[.int .i64 (vi : Int), .int .i64 (vg : Int), .int .i64 (vn : Int), .slice A l.length c] 29)
  replace HB := Aside0.mk (below_alloc HB.out (.cells #[.int .i64 (vi : Int), .int .i64 (vg : Int), .int .i64 (vn : Int), .slice A l.length c] 29))
  replace HR := Aside0.mk (HR.out.alloc (.cells #[.int .i64 (vi : Int), .int .i64 (vg : Int), .int .i64 (vn : Int), .slice A l.length c] 29))
  obtain ⟨v0, v1, v2, v3⟩ := cells4 HV6.out
  have hlt6 := HV6.out.lt
  refine region_below_tail 13 (by kernel_rfl) (by kernel_rfl) ?_
  simp only [List.take_succ_cons, List.take_zero, List.drop_succ_cons, List.drop_zero]
  repeat (first | (refine q_cat _ _ _ [83, 74] ?_ rfl rfl rfl ?_ ?_ ?_ ?_; rotate_left 1; (· rfl); (· rfl); (· (try simp only [List.length_append, List.length_cons, List.length_nil]); omega); simp only [Act.put, List.setIfInBounds_toArray, List.set_cons_zero, List.set_cons_succ]) | (refine q_cat _ _ _ ?_ ?_ rfl rfl rfl ?_ ?_ ?_ ?_; rotate_left 2; (· rfl); (· rfl); (· (try simp only [List.length_append, List.length_cons, List.length_nil]); omega); simp only [Act.put, List.setIfInBounds_toArray, List.set_cons_zero, List.set_cons_succ]) | go_big_quiet_step (fail) | (refine BigFrame.wpQuiet_want (by rfl) (fun K hK => ?_); go_big_quiet_op; refine ⟨_, fun _ _ => rfl, hK _ ?_⟩; clear hK K) | (refine q_ld 3 _ _ _ _ rfl rfl rfl rfl (ld_int _ _) (by assumption) (by assumption) ?_; simp only [Act.put, List.setIfInBounds_toArray, List.set_cons_zero, List.set_cons_succ]) | (refine q_ld 9 _ _ _ _ rfl rfl rfl rfl (ld_str _ _) (by assumption) (by assumption) ?_; simp only [Act.put, List.setIfInBounds_toArray, List.set_cons_zero, List.set_cons_succ]) | (refine q_ld 27 _ _ _ _ rfl rfl rfl rfl (ld_sl _ _) (by assumption) (by assumption) ?_; simp only [Act.put, List.setIfInBounds_toArray, List.set_cons_zero, List.set_cons_succ]) | (refine q_go (f := 48) Try.func48 (by kernel_rfl) rfl #[.int .i64 (vi : Int)] _ _ rfl rfl rfl (by simp only [List.map_toArray, List.map_cons, List.map_nil]; rfl) (fun w' _ => rnum_L vi (by omega) w') ?_; simp only [Act.put, List.setIfInBounds_toArray, List.set_cons_zero, List.set_cons_succ]) | (refine q_go (f := 48) Try.func48 (by kernel_rfl) rfl #[.int .i64 (vg : Int)] _ _ rfl rfl rfl (by simp only [List.map_toArray, List.map_cons, List.map_nil]; rfl) (fun w' _ => rnum_L vg (by omega) w') ?_; simp only [Act.put, List.setIfInBounds_toArray, List.set_cons_zero, List.set_cons_succ]) | (refine q_go (f := 48) Try.func48 (by kernel_rfl) rfl #[.int .i64 (vn : Int)] _ _ rfl rfl rfl (by simp only [List.map_toArray, List.map_cons, List.map_nil]; rfl) (fun w' _ => rnum_L vn (by omega) w') ?_; simp only [Act.put, List.setIfInBounds_toArray, List.set_cons_zero, List.set_cons_succ]))
  refine wpQuiet_nil ?_
  intro w3 hw'
  replace HB := Aside0.mk (below2 HB.out HB.out.size hw')
  replace HR := Aside0.mk (HR.out.keep hw')
  replace HV6 := Aside0.mk (HV6.out.keep hw')
  clear hw'
  clear v0 v1 v2 v3 hlt6
  generalize w2.heap.size = g6 at HV6 ⊢
  generalize hE2 : a1 ++ enc vi ++ enc vg ++ enc vn = a2
  have A2 : a2.length ≤ 42 := by rw [← hE2]; simp only [List.length_append]; omega
  have HE2 := Lib.hid hE2
  clear hE2 l0 l1 l2 A1
  generalize a1 ++ enc vi ++ enc vg = z3
  generalize a1 ++ enc vi = z2
  go_wp2_with fail
  go_loopw [5, 7] (fun sv i wr => ∃ k : Nat, k ≤ 9 ∧ i = .int .i64 k ∧ sv = .string (B (a2 ++ locsT l k)) ∧ Aside0 (Below w.heap.size w wr) ∧ Aside0 (Blk wr w.heap.size #[.int .i64 (s : Int), .int .i64 3, .int .i64 (vi : Int), .int .i64 (vg : Int), .int .i64 (vn : Int), (.slice A l.length c), .string q6, .int .i64 q7, .int .i64 q8, .int .i64 q9, .string q10, .string q11, .int .i64 (fr : Int), .int .i64 (ti : Int)] 33) ∧ Aside0 (Blk wr g6 #[.int .i64 (vi : Int), .int .i64 (vg : Int), .int .i64 (vn : Int), .slice A l.length c] 29)) (fun _ i _ => 9 - (intOf i).toNat)
  case atStart => exact ⟨0, Nat.zero_le _, rfl, by rw [locsT, List.append_nil], HB, HR, HV6⟩
  case round =>
    clear HB HR HV6
    obtain ⟨k, hk, rfl, rfl, HB, HR, HV6⟩ := hrel
    by_cases hlt : k < 9
    · have hkl : k < l.length := by have := HV.out.nine; omega
      obtain ⟨ad, hA, k0, k1⟩ := at_T83 HC.out k (by omega) (by omega)
      rw [Int.toNat_natCast] at k0 k1
      have hKB := Nat.lt_of_lt_of_le (lt_cell k0) HB.out.size
      have hKB1 := Nat.lt_of_lt_of_le (lt_cell k1) HB.out.size
      have e0 := (HB.out.cell (lt_cell k0)).trans k0
      have e1 := (HB.out.cell (lt_cell k1)).trans k1
      clear k0 k1
      subst hA
      have hv9 := HV.out.locs k hlt
      have hz0 := Int.toNat_of_nonneg hv9.1.1
      have hz1 := Int.toNat_of_nonneg hv9.2.1
      have hb0 : (rd_T83 l k).f0.toNat ≤ 11 := by omega
      have hb1 : (rd_T83 l k).f1.toNat ≤ 47 := by omega
      have HLT := Lib.hid (show locsT l (k + 1) = locsT l k ++ encK [(rd_T83 l k).f0.toNat, (rd_T83 l k).f1.toNat] 2 from rfl)
      have hll := locsT_len HV.out k (by omega)
      rw [← hz0] at e0
      rw [← hz1] at e1
      generalize (rd_T83 l k).f0.toNat = x0 at *
      generalize (rd_T83 l k).f1.toNat = x1 at *
      clear hv9 hz0 hz1
      have l0 := enc_len8 (m := x0) (by omega)
      have l1 := enc_len8 (m := x1) (by omega)
      obtain ⟨v0, v1, v2, v3⟩ := cells4 HV6.out
      have hlt6 := HV6.out.lt
      go_wp2_with fail
      refine region_below_tail 17 (by kernel_rfl) (by kernel_rfl) ?_
      simp only [List.take_succ_cons, List.take_zero, List.drop_succ_cons, List.drop_zero]
      repeat (first | (refine q_cat _ _ _ [83, 74] ?_ rfl rfl rfl ?_ ?_ ?_ ?_; rotate_left 1; (· rfl); (· rfl); (· (try simp only [List.length_append, List.length_cons, List.length_nil]); omega); simp only [Act.put, List.setIfInBounds_toArray, List.set_cons_zero, List.set_cons_succ]) | (refine q_cat _ _ _ ?_ ?_ rfl rfl rfl ?_ ?_ ?_ ?_; rotate_left 2; (· rfl); (· rfl); (· (try simp only [List.length_append, List.length_cons, List.length_nil]); omega); simp only [Act.put, List.setIfInBounds_toArray, List.set_cons_zero, List.set_cons_succ]) | go_big_quiet_step (fail) | (refine BigFrame.wpQuiet_want (by rfl) (fun K hK => ?_); go_big_quiet_op; refine ⟨_, fun _ _ => rfl, hK _ ?_⟩; clear hK K) | (refine q_ld 3 _ _ _ _ rfl rfl rfl rfl (ld_int _ _) (by assumption) (by assumption) ?_; simp only [Act.put, List.setIfInBounds_toArray, List.set_cons_zero, List.set_cons_succ]) | (refine q_ld 9 _ _ _ _ rfl rfl rfl rfl (ld_str _ _) (by assumption) (by assumption) ?_; simp only [Act.put, List.setIfInBounds_toArray, List.set_cons_zero, List.set_cons_succ]) | (refine q_ld 27 _ _ _ _ rfl rfl rfl rfl (ld_sl _ _) (by assumption) (by assumption) ?_; simp only [Act.put, List.setIfInBounds_toArray, List.set_cons_zero, List.set_cons_succ]) | (refine q_go (f := 48) Try.func48 (by kernel_rfl) rfl #[.int .i64 (x0 : Int)] _ _ rfl rfl rfl (by simp only [List.map_toArray, List.map_cons, List.map_nil]; rfl) (fun w' _ => rnum_L x0 (by omega) w') ?_; simp only [Act.put, List.setIfInBounds_toArray, List.set_cons_zero, List.set_cons_succ]) | (refine q_go (f := 48) Try.func48 (by kernel_rfl) rfl #[.int .i64 (x1 : Int)] _ _ rfl rfl rfl (by simp only [List.map_toArray, List.map_cons, List.map_nil]; rfl) (fun w' _ => rnum_L x1 (by omega) w') ?_; simp only [Act.put, List.setIfInBounds_toArray, List.set_cons_zero, List.set_cons_succ]))
      refine wpQuiet_nil ?_
      intro w4 hw'
      replace HB := Aside0.mk (below2 HB.out HB.out.size hw')
      replace HR := Aside0.mk (HR.out.keep hw')
      replace HV6 := Aside0.mk (HV6.out.keep hw')
      clear hw'
      clear v0 v1 v2 v3 hlt6 e0 e1 hKB hKB1
      go_wp2_with fail
      go_roundw
      case rel => exact ⟨k + 1, by omega, by go_num, by rw [HLT.out, encK2]; simp [List.append_assoc], HB, HR, HV6⟩
      case measure => simp [intOf]; omega
    · obtain rfl : k = 9 := by omega
      obtain ⟨w3, rfl⟩ : ∃ x, x = wr := ⟨wr, rfl⟩
      have hll := locsT_len HV.out 9 (by decide)
      generalize hE3 : a2 ++ locsT l 9 = a3
      have A3 : a3.length ≤ 186 := by rw [← hE3, List.length_append]; omega
      have HE3 := Lib.hid hE3
      clear hE3 hll A2 hlt hk HV6
      have l0 := enc_len8 (m := fr) (by have := HFR.out; omega)
      have l1 := enc_len8 (m := ti) (by have := HTI.out; omega)
      obtain ⟨d0, d1, d2, d3, d4, d5, d6, d7, d8, d9, d10, d11, d12, d13⟩ := cells14 HR.out
      have hlt0 := HR.out.lt
      go_wp2_with fail
      refine region_below_tail 9 (by kernel_rfl) (by kernel_rfl) ?_
      simp only [List.take_succ_cons, List.take_zero, List.drop_succ_cons, List.drop_zero]
      repeat (first | (refine q_cat _ _ _ [83, 74] ?_ rfl rfl rfl ?_ ?_ ?_ ?_; rotate_left 1; (· rfl); (· rfl); (· (try simp only [List.length_append, List.length_cons, List.length_nil]); omega); simp only [Act.put, List.setIfInBounds_toArray, List.set_cons_zero, List.set_cons_succ]) | (refine q_cat _ _ _ ?_ ?_ rfl rfl rfl ?_ ?_ ?_ ?_; rotate_left 2; (· rfl); (· rfl); (· (try simp only [List.length_append, List.length_cons, List.length_nil]); omega); simp only [Act.put, List.setIfInBounds_toArray, List.set_cons_zero, List.set_cons_succ]) | go_big_quiet_step (fail) | (refine BigFrame.wpQuiet_want (by rfl) (fun K hK => ?_); go_big_quiet_op; refine ⟨_, fun _ _ => rfl, hK _ ?_⟩; clear hK K) | (refine q_ld 3 _ _ _ _ rfl rfl rfl rfl (ld_int _ _) (by assumption) (by assumption) ?_; simp only [Act.put, List.setIfInBounds_toArray, List.set_cons_zero, List.set_cons_succ]) | (refine q_ld 9 _ _ _ _ rfl rfl rfl rfl (ld_str _ _) (by assumption) (by assumption) ?_; simp only [Act.put, List.setIfInBounds_toArray, List.set_cons_zero, List.set_cons_succ]) | (refine q_ld 27 _ _ _ _ rfl rfl rfl rfl (ld_sl _ _) (by assumption) (by assumption) ?_; simp only [Act.put, List.setIfInBounds_toArray, List.set_cons_zero, List.set_cons_succ]) | (refine q_go (f := 48) Try.func48 (by kernel_rfl) rfl #[.int .i64 (fr : Int)] _ _ rfl rfl rfl (by simp only [List.map_toArray, List.map_cons, List.map_nil]; rfl) (fun w' _ => rnum_L fr (by have := HFR.out; omega) w') ?_; simp only [Act.put, List.setIfInBounds_toArray, List.set_cons_zero, List.set_cons_succ]) | (refine q_go (f := 48) Try.func48 (by kernel_rfl) rfl #[.int .i64 (ti : Int)] _ _ rfl rfl rfl (by simp only [List.map_toArray, List.map_cons, List.map_nil]; rfl) (fun w' _ => rnum_L ti (by have := HTI.out; omega) w') ?_; simp only [Act.put, List.setIfInBounds_toArray, List.set_cons_zero, List.set_cons_succ]))
      refine wpQuiet_nil ?_
      intro w5 hw'
      replace HB := Aside0.mk (below2 HB.out HB.out.size hw')
      replace HR := Aside0.mk (HR.out.keep hw')
      clear hw'
      clear d0 d1 d2 d3 d4 d5 d6 d7 d8 d9 d10 d11 d12 d13 hlt0
      generalize hE4 : a3 ++ enc fr ++ enc ti = a4
      have A4 : a4.length ≤ 202 := by rw [← hE4]; simp only [List.length_append]; omega
      have HE4 := Lib.hid hE4
      clear hE4 l0 l1 A3
      obtain ⟨d0, d1, d2, d3, d4, d5, d6, d7, d8, d9, d10, d11, d12, d13⟩ := cells14 HR.out
      have hlt0 := HR.out.lt
      go_wp2_with fail
      clear d0 d1 d2 d3 d4 d5 d6 d7 d8 d9 d10 d11 d12 d13 hlt0
      refine Calls.mono (rseal_L a4 w5 (by omega)) ?_
      rintro e wz ⟨rfl, b1⟩
      replace HB := Aside0.mk (below2 HB.out HB.out.size b1)
      clear b1
      go_wp2_with fail
      go_ret2
      refine ⟨?_, HB.out⟩
      have hnine := HV.out.nine
      rw [← HRES.out, ← HE4.out, ← HE3.out, ← HE2.out, ← HE1.out]
      simp [recT, headT, volT, encK2, encK3, hnine, B_data]
set_option maxRecDepth 100000 in
set_option maxHeartbeats 4000000 in
theorem rrw_bad (q0 q1 q2 q3 q4 : Int) (A : Option Addr) (c : Nat) (l : List S83) (q6 : ByteArray) (q7 q8 q9 : Int) (q10 q11 : ByteArray) (q12 q13 : Int) (w : World) (hr : Kd.C k83 w A l.length l) (hl : l.length ≤ 1000) (hc : l.length ≤ c) (h6 : q6.size ≤ 140737488355328) (h11 : q11.size ≤ 140737488355328) (z : Int) (hz : chkR (⟨q0, q1, q2, q3, q4, l, q6, q7, q8, q9, q10, q11, q12, q13⟩ : RecP) = z) (hz0 : z ≠ 0) : Calls Try.prog 30 #[.agg #[.int .i64 q0, .int .i64 q1, .int .i64 q2, .int .i64 q3, .int .i64 q4, (.slice A l.length c), .string q6, .int .i64 q7, .int .i64 q8, .int .i64 q9, .string q10, .string q11, .int .i64 q12, .int .i64 q13]] w fun e w' => e = .returned (.tuple #[.string (B []), .int .i64 z]) ∧ Below w.heap.size w w' := by
  have hu0 := Try.underlying33
  have hu1 := Try.underlying33
  have hu2 := Try.underlying29
  have hu3 := Try.underlying31
  have hu4 := Try.underlying83
  have HZ := Lib.hid hz
  have HC := Lib.hid hr
  have HL := Lib.hid hl
  have HCC := Lib.hid hc
  have z1 : (z == 0) = false := by simpa using hz0
  have z2 : (z != 0) = true := by simp [bne, z1]
  clear hz hr hl hc hz0
  have HB : Aside0 (Below w.heap.size w (w.alloc (.cells #[.int .i64 q0, .int .i64 q1, .int .i64 q2, .int .i64 q3, .int .i64 q4, (.slice A l.length c), .string q6, .int .i64 q7, .int .i64 q8, .int .i64 q9, .string q10, .string q11, .int .i64 q12, .int .i64 q13] 33))) := ⟨below_alloc (Below.refl _ _) _⟩
  have HR : Aside0 (Blk (w.alloc (.cells #[.int .i64 q0, .int .i64 q1, .int .i64 q2, .int .i64 q3, .int .i64 q4, (.slice A l.length c), .string q6, .int .i64 q7, .int .i64 q8, .int .i64 q9, .string q10, .string q11, .int .i64 q12, .int .i64 q13] 33)) w.heap.size #[.int .i64 q0, .int .i64 q1, .int .i64 q2, .int .i64 q3, .int .i64 q4, (.slice A l.length c), .string q6, .int .i64 q7, .int .i64 q8, .int .i64 q9, .string q10, .string q11, .int .i64 q12, .int .i64 q13] 33) := ⟨Blk.new w _ _⟩
  obtain ⟨d0, d1, d2, d3, d4, d5, d6, d7, d8, d9, d10, d11, d12, d13⟩ := cells14 HR.out
  go_enter Try.func30, Try.ntmps30
  go_wp2_with fail
  clear d0 d1 d2 d3 d4 d5 d6 d7 d8 d9 d10 d11 d12 d13
  have hq0 := refchk_calls (⟨q0, q1, q2, q3, q4, l, q6, q7, q8, q9, q10, q11, q12, q13⟩ : RecP) A c (w.alloc (.cells #[.int .i64 q0, .int .i64 q1, .int .i64 q2, .int .i64 q3, .int .i64 q4, (.slice A l.length c), .string q6, .int .i64 q7, .int .i64 q8, .int .i64 q9, .string q10, .string q11, .int .i64 q12, .int .i64 q13] 33)) (Kd.C_below HC.out HB.out) HL.out HCC.out h6 h11
  rw [HZ.out] at hq0
  refine Calls.mono hq0 ?_
  clear hq0
  rintro e wa ⟨rfl, b1⟩
  replace HB := Aside0.mk (below2 HB.out HB.out.size b1)
  clear b1
  go_wp2_with fail
  go_ret2
  exact ⟨rfl, HB.out⟩
theorem refwrite_calls (r : RecP) (A : Option Addr) (c : Nat) (w : World) (hr : Kd.C k83 w A r.locs.length r.locs) (hl : r.locs.length ≤ 1000) (hc : r.locs.length ≤ c) (h6 : r.ekey.size ≤ 140737488355328) (h11 : r.key.size ≤ 140737488355328) : Calls Try.prog 30 #[.agg #[.int .i64 r.seq, .int .i64 r.kind, .int .i64 r.id, .int .i64 r.gen, .int .i64 r.len, (.slice A r.locs.length c), .string r.ekey, .int .i64 r.evol, .int .i64 r.eoff, .int .i64 r.elen, .string r.dig, .string r.key, .int .i64 r.frm, .int .i64 r.til]] w fun e w' => e = .returned (.tuple #[.string (recW r).1, .int .i64 (recW r).2]) ∧ Below w.heap.size w w' := by
  by_cases hz : chkR r = 0
  · have hw : recW r = (B (sealL (recT r)), 0) := if_pos hz
    rw [hw]
    obtain ⟨q0, q1, q2, q3, q4, l, q6, q7, q8, q9, q10, q11, q12, q13⟩ := r
    rcases kind_chk _ hz with h | h | h | h
    · change q1 = 0 at h
      subst h
      obtain ⟨h0, hv, hk, _, h8, h9, h10, _⟩ := chk0_0 q0 q2 q3 q4 l q6 q7 q8 q9 q10 q11 q12 q13 hz
      have hn := hv.n
      obtain ⟨s, rfl⟩ := Int.eq_ofNat_of_zero_le h0.1
      obtain ⟨vi, rfl⟩ := Int.eq_ofNat_of_zero_le hv.i.1
      obtain ⟨vg, rfl⟩ := Int.eq_ofNat_of_zero_le hv.g.1
      obtain ⟨vn, rfl⟩ := Int.eq_ofNat_of_zero_le hv.n.1
      obtain ⟨eo, rfl⟩ := Int.eq_ofNat_of_zero_le h8.1
      obtain ⟨el, rfl⟩ := Int.eq_ofNat_of_zero_le h9.1
      exact rrw_0 s vi vg vn A c l q6 q7 eo el q10 q11 q12 q13 w hr hl hc h6 h11 hz (by omega) hv (key_ok hk).1 (by omega) (by omega) h10
    · change q1 = 1 at h
      subst h
      obtain ⟨h0, hk, _⟩ := chk0_1 q0 q2 q3 q4 l q6 q7 q8 q9 q10 q11 q12 q13 hz
      obtain ⟨s, rfl⟩ := Int.eq_ofNat_of_zero_le h0.1
      exact rrw_1 s q2 q3 q4 A c l q6 q7 q8 q9 q10 q11 q12 q13 w hr hl hc h6 h11 hz (by omega) (key_ok hk).1
    · change q1 = 2 at h
      subst h
      obtain ⟨h0, hv, _⟩ := chk0_2 q0 q2 q3 q4 l q6 q7 q8 q9 q10 q11 q12 q13 hz
      obtain ⟨s, rfl⟩ := Int.eq_ofNat_of_zero_le h0.1
      obtain ⟨vi, rfl⟩ := Int.eq_ofNat_of_zero_le hv.i.1
      obtain ⟨vg, rfl⟩ := Int.eq_ofNat_of_zero_le hv.g.1
      obtain ⟨vn, rfl⟩ := Int.eq_ofNat_of_zero_le hv.n.1
      exact rrw_2 s vi vg vn A c l q6 q7 q8 q9 q10 q11 q12 q13 w hr hl hc h6 h11 hz (by omega) hv
    · change q1 = 3 at h
      subst h
      obtain ⟨h0, hv, hf, ht, _, _⟩ := chk0_3 q0 q2 q3 q4 l q6 q7 q8 q9 q10 q11 q12 q13 hz
      obtain ⟨s, rfl⟩ := Int.eq_ofNat_of_zero_le h0.1
      obtain ⟨vi, rfl⟩ := Int.eq_ofNat_of_zero_le hv.i.1
      obtain ⟨vg, rfl⟩ := Int.eq_ofNat_of_zero_le hv.g.1
      obtain ⟨vn, rfl⟩ := Int.eq_ofNat_of_zero_le hv.n.1
      obtain ⟨fr, rfl⟩ := Int.eq_ofNat_of_zero_le hf.1
      obtain ⟨ti, rfl⟩ := Int.eq_ofNat_of_zero_le ht.1
      exact rrw_3 s vi vg vn A c l q6 q7 q8 q9 q10 q11 fr ti w hr hl hc h6 h11 hz (by omega) hv (by omega) (by omega)
  · have hw : recW r = (B [], chkR r) := if_neg hz
    rw [hw]
    obtain ⟨q0, q1, q2, q3, q4, l, q6, q7, q8, q9, q10, q11, q12, q13⟩ := r
    exact rrw_bad q0 q1 q2 q3 q4 A c l q6 q7 q8 q9 q10 q11 q12 q13 w hr hl hc h6 h11 _ rfl hz
end Go.Proofs.Ytmfcbfgijimliaa
end
section
namespace Go.Proofs.Ytmfcbfgijimliaa
open Go.RowKit Q Go.Proofs.YtmfcbfgijimliaaW.PrintWords Go.Proofs.YtmfcbfgijimliaaW.PrintLast Go.Proofs.YtmfcbfgijimliaaW.PrintMore
def rv (r : RecP) (A : Option Addr) (c : Nat) : Array Value := #[.int .i64 r.seq, .int .i64 r.kind, .int .i64 r.id, .int .i64 r.gen, .int .i64 r.len, (.slice A r.locs.length c), .string r.ekey, .int .i64 r.evol, .int .i64 r.eoff, .int .i64 r.elen, .string r.dig, .string r.key, .int .i64 r.frm, .int .i64 r.til]
def RV (w : World) (r : RecP) (A : Option Addr) (c : Nat) : Prop := Kd.C k83 w A r.locs.length r.locs ∧ r.locs.length ≤ c
theorem RV.below {w w' : World} {r : RecP} {A : Option Addr} {c : Nat} (h : RV w r A c) (b : Below w.heap.size w w') : RV w' r A c := ⟨Kd.C_below h.1 b, h.2⟩
theorem rv_one (r : RecP) (A : Option Addr) (c : Nat) : (rv r A c).all (·.oneCell') = true := by simp [rv, Value.oneCell']
theorem put_new (w : World) (z x : Array Value) (T : TypeId) : Blk ((w.alloc (.cells z T)).setRow w.heap.size x) w.heap.size x T ∧ Below w.heap.size w ((w.alloc (.cells z T)).setRow w.heap.size x) :=
  ⟨setRow_heap _ _ _ _ _ _ (Blk.new w z T), below_setRow' (below_alloc (Below.refl _ _) _) (Nat.le_refl _) _⟩
section
variable {P : Program}
theorem results_row_tmp {fn : Func} {p q : Tmp} {ty : TypeId} (h : fn.results = #[.cell p ty, .tmp q]) (tmps : Array Value) (w : World) (g : Nat) (t : TypeId) (cs : Array Value) (fr : Nat × Nat) (d : TypeDesc)
    (hp : tmps.getD p undef = .pointer (some ⟨g, 0, none⟩)) (hg : w.heap[g]? = some (.cells cs t fr))
    (hu : P.underlying ty = some d) (hd : (match d with | .struct _ | .array _ _ => true | _ => false) = true) (hi : (P.info? ty).map (·.size) = some cs.size) :
    (results fn tmps).run P w = .ok (.tuple #[.agg cs, tmps.getD q undef]) w := by
  have hp' : tmps[p]?.getD undef = .pointer (some ⟨g, 0, none⟩) := by simpa using hp
  simp [results, h, hp', asAddr, run_loadVar_row w g t ty cs fr d hg hu hd hi]
end
theorem setCells_heap (g k : Nat) (hk : k ≠ g) : ∀ (vs : List Value) (o : Nat) (W : World), (W.setCells g o vs).heap[k]? = W.heap[k]?
  | [], _, _ => rfl
  | v :: r, o, W => (setCells_heap g k hk r (o + 1) (W.setCell ⟨g, o, none⟩ v)).trans (Below.heap_setCell _ _ _ _ hk)
end Go.Proofs.Ytmfcbfgijimliaa
end
section
namespace Go.Proofs.Ytmfcbfgijimliaa
open Go.RowKit Q Go.Proofs.YtmfcbfgijimliaaW.PrintWords Go.Proofs.YtmfcbfgijimliaaW.PrintLast Go.Proofs.YtmfcbfgijimliaaW.PrintMore
theorem num_st (s : List UInt8 × Int) (h : s.1.length ≤ 140737488355328) {n : Nat} {t : List UInt8 × Int} (e : nx s = (n, t)) : pack_Reader_Number.f 20 (B s.1) s.2 = some ((n : Int), B t.1, t.2) := by
  have := rnx_f s h
  rw [e] at this
  exact this
theorem txt_st (s : List UInt8 × Int) (h : s.1.length ≤ 140737488355328) {n : List UInt8} {t : List UInt8 × Int} (e : tx s = (n, t)) : pack_Reader_Text.f 21 (B s.1) s.2 = some (B n, B t.1, t.2) := by
  have := rtx_f s h
  rw [e] at this
  exact this
theorem rst_st (s : List UInt8 × Int) {n : List UInt8} {t : List UInt8 × Int} (e : rst s = (n, t)) : pack_Reader_Rest.f (B s.1) s.2 = some (B n, B t.1, t.2) := by
  have := rst_f s
  rw [e] at this
  exact this
theorem nx_st1 {s : List UInt8 × Int} (h : s.1.length ≤ 140737488355328) {n : Nat} {t : List UInt8 × Int} (e : nx s = (n, t)) : t.1.length ≤ 140737488355328 := by
  have := nx_le s
  rw [e] at this
  exact Nat.le_trans this h
theorem tx_st1 {s : List UInt8 × Int} (h : s.1.length ≤ 140737488355328) {n : List UInt8} {t : List UInt8 × Int} (e : tx s = (n, t)) : t.1.length ≤ 140737488355328 := by
  have := tx_le s
  rw [e] at this
  exact Nat.le_trans this h
theorem vol_st1 {s : List UInt8 × Int} (h : s.1.length ≤ 140737488355328) {x : Int × Int × Int × List S83} {t : List UInt8 × Int} (e : volS s = (x, t)) : t.1.length ≤ 140737488355328 := by
  have := volS_le s
  rw [e] at this
  exact Nat.le_trans this h
theorem vol_nine {s : List UInt8 × Int} {vi vg vn : Int} {vl : List S83} {t : List UInt8 × Int} (e : volS s = ((vi, vg, vn, vl), t)) : vl.length = 9 := by
  have : (volS s).1.2.2.2.length = 9 := locsN_len 9 _
  rw [e] at this
  exact this
theorem vol_calls_st (g : Nat) (s : List UInt8 × Int) (w0 w : World) (hs : s.1.length ≤ 140737488355328) (hI : IsS127 w0 w g (B s.1) s.2) (hB : Below w0.heap.size w0 w) {vi vg vn : Int} {vl : List S83} {t : List UInt8 × Int} (e : volS s = ((vi, vg, vn, vl), t)) : Calls Try.prog 64 #[.pointer (some ⟨g, 0, none⟩)] w fun e w' => ∃ (A : Option Addr) (c : Nat), e = .returned (.agg #[.int .i64 vi, .int .i64 vg, .int .i64 vn, .slice A vl.length c]) ∧ Kd.R k83 83 w' w.heap.size (fun k => w.heap.size ≤ k) (.slice A vl.length c) vl ∧ IsS127 w0 w' g (B t.1) t.2 ∧ Below w0.heap.size w0 w' ∧ KeepBut w w' g none := by
  have h := volS_f s 40 (Nat.le_refl _) hs
  rw [e] at h
  refine (record_volume.calls 40 g _ _ _ _ _ _ _ _ w0 w hI hB h).mono ?_
  rintro e w' ⟨x, rfl, hR, hI', hB', hK⟩
  obtain ⟨A, c, rfl⟩ := Kd.R_slice hR
  exact ⟨A, c, rfl, Kd.R_mono (Kd.R_bound hR) (fun k hk => hk.2.1), hI', hB', hK⟩
set_option maxRecDepth 100000 in
set_option maxHeartbeats 4000000 in
theorem recread_own (m : List UInt8) (hm : m.length ≤ 140737488355328) (w : World) : Calls Try.prog 38 #[.string (B m)] w fun e w' => ∃ (A : Option Addr) (c : Nat), e = .returned (.tuple #[.agg (rv (recR m).1 A c), .int .i64 (recR m).2]) ∧ Kd.R k83 83 w' w.heap.size (fun k => w.heap.size ≤ k) (.slice A (recR m).1.locs.length c) (recR m).1.locs ∧ Below w.heap.size w w' := by
  have hu0 := Try.underlying33
  have hu1 := Try.underlying55
  have hu2 := Try.underlying29
  have hu3 := Try.underlying31
  have hu4 := Try.underlying83
  have HO0 := Lib.hid (open_f m hm)
  have HR : Aside0 (Blk (w.alloc (.cells #[.int .i64 0, .int .i64 0, .int .i64 0, .int .i64 0, .int .i64 0, .slice none 0 0, .string ⟨#[]⟩, .int .i64 0, .int .i64 0, .int .i64 0, .string ⟨#[]⟩, .string ⟨#[]⟩, .int .i64 0, .int .i64 0] 55)) w.heap.size #[.int .i64 0, .int .i64 0, .int .i64 0, .int .i64 0, .int .i64 0, .slice none 0 0, .string ⟨#[]⟩, .int .i64 0, .int .i64 0, .int .i64 0, .string ⟨#[]⟩, .string ⟨#[]⟩, .int .i64 0, .int .i64 0] 55) := ⟨Blk.new w _ _⟩
  have HBv : Aside0 (Below w.heap.size w (w.alloc (.cells #[.int .i64 0, .int .i64 0, .int .i64 0, .int .i64 0, .int .i64 0, .slice none 0 0, .string ⟨#[]⟩, .int .i64 0, .int .i64 0, .int .i64 0, .string ⟨#[]⟩, .string ⟨#[]⟩, .int .i64 0, .int .i64 0] 55))) := ⟨below_alloc (Below.refl _ _) _⟩
  go_enter Try.func38, Try.ntmps38
  go_wp2_with fail
  refine Calls.mono (check_Open.calls _ (openL m).1 (openL m).2 _ HO0.out) ?_
  rintro e w1 ⟨rfl, b1⟩
  replace HR := Aside0.mk (HR.out.keep b1)
  replace HBv := Aside0.mk (below2 HBv.out HBv.out.size b1)
  clear b1 HO0
  obtain ⟨o1, e1, ho⟩ : ∃ o1 e1, openL m = (o1, e1) := ⟨_, _, rfl⟩
  rw [ho]
  by_cases he : e1 = 0
  case neg =>
    have HRES : Hid (recR m = (zeroR, e1)) := Lib.hid (by unfold recR; rw [ho, if_neg he])
    have he2 : (e1 != 0) = true := bne_iff_ne.mpr he
    clear he ho
    go_wp2_with (first | (refine gate_ (.store 55 (.tmp 2) (.tmp 16)) rfl ?_; refine wpList_store_row rfl 55 (.tmp 2) (.tmp 16) rfl w.heap.size (rv zeroR none 0) rfl rfl 55 _ HR.out (by kernel_rfl) rfl (rv_one _ _ _) ?_; simp only [Act.put, List.setIfInBounds_toArray, List.set_cons_zero, List.set_cons_succ]))
    refine bodyPost_ret (results_row_tmp rfl _ _ w.heap.size 55 (rv zeroR none 0) (0, 0) _ rfl (setRow_heap _ _ _ _ _ _ HR.out) Try.underlying55 rfl (by kernel_rfl)) rfl ?_
    rw [HRES.out]
    exact ⟨none, 0, rfl, Kd.R_nil _ _ _ _ _, below_setRow' HBv.out (Nat.le_refl _) _⟩
  subst he
  obtain ⟨u, rfl⟩ := exB o1
  have hul : u.length ≤ m.length := by
    rcases openL_cases m with ⟨_, h⟩ | ⟨_, _, h⟩ | ⟨u', h1, h2⟩
    · rw [ho] at h; cases h
    · rw [ho] at h; cases h
    · rw [ho] at h2
      have : u = u' := B_inj (congrArg Prod.fst h2)
      rw [h1, sealL_len, this]
      exact Nat.le_add_right _ _
  have HRES : Hid (recR m = if (cutJ u).2 = true ∧ endE (recS (cutJ u).1).2 = 0 ∧ chkR (recS (cutJ u).1).1 = 0 then ((recS (cutJ u).1).1, 0) else (zeroR, 4)) := Lib.hid (by
    unfold recR
    rw [if_pos (show (openL m).2 = 0 by rw [ho]), ho]
    rfl)
  have hcl : (cutJ u).1.length ≤ 140737488355328 := by
    unfold cutJ
    split
    · rw [List.length_drop]; omega
    · exact Nat.le_trans hul hm
  have HC := Lib.hid (cutJ_f u)
  clear ho hul hm
  obtain ⟨⟨l, isb⟩, hcu⟩ : ∃ p, cutJ u = p := ⟨_, rfl⟩
  rw [hcu] at HRES hcl HC
  simp only at HRES hcl
  clear hcu
  go_wp2_with fail
  refine Calls.mono (strings_CutPrefix.calls _ _ _ _ w1 HC.out) ?_
  rintro e w2 ⟨rfl, hd⟩
  replace HR := Aside0.mk (HR.out.keep hd.below)
  replace HBv := Aside0.mk (below2 HBv.out HBv.out.size hd.below)
  clear hd HC
  go_wp2_with fail
  have hgv : w.heap.size < w2.heap.size := HR.out.lt
  refine Calls.mono (pack_Read.calls (B l) (B l) 0 w2 w2 (Below.refl _ _) rfl) ?_
  rintro e wr ⟨g, rfl, hI, hB, _⟩
  have HI : Aside0 (IsS127 w2 wr g (B (l, (0 : Int)).1) (l, (0 : Int)).2) := ⟨hI⟩
  have HB := Aside0.mk hB
  have hgg : w2.heap.size ≤ g := hI.2
  clear hI hB
  generalize w2 = v at *
  obtain ⟨⟨q, s1⟩, e1⟩ : ∃ p, nx (l, 0) = p := ⟨_, rfl⟩
  obtain ⟨⟨d, s2⟩, e2⟩ : ∃ p, nx s1 = p := ⟨_, rfl⟩
  have hs1 := nx_st1 (s := (l, 0)) hcl e1
  have hs2 := nx_st1 hs1 e2
  have HN1 := Lib.hid (num_st (l, 0) hcl e1)
  have HN2 := Lib.hid (num_st s1 hs1 e2)
  unfold recS at HRES
  rw [e1] at HRES
  simp only at HRES
  rw [e2] at HRES
  simp only at HRES
  clear e1 e2 hcl hs1
  go_wp2_with fail
  refine Calls.mono (pack_Reader_Number.calls 20 g _ _ _ _ _ v _ HI.out HB.out HN1.out) ?_
  rintro e w4 ⟨rfl, hI4, hB4, hK4⟩
  replace HI := Aside0.mk hI4
  replace HB := Aside0.mk hB4
  clear hI4 hB4 hK4
  clear HN1
  go_wp2_with fail
  refine Calls.mono (pack_Reader_Number.calls 20 g _ _ _ _ _ v _ HI.out HB.out HN2.out) ?_
  rintro e w4 ⟨rfl, hI4, hB4, hK4⟩
  replace HI := Aside0.mk hI4
  replace HB := Aside0.mk hB4
  clear hI4 hB4 hK4
  clear HN2
  have hgx : g < w4.heap.size := HI.out.lt
  by_cases hd1 : d = 1
  case pos =>
    have hd0 : ¬ d = 0 := by omega
    obtain ⟨⟨kt, s3⟩, e3⟩ : ∃ p, tx s2 = p := ⟨_, rfl⟩
    have HN3 := Lib.hid (txt_st s2 hs2 e3)
    have hK : recK q d s2 = ((⟨(q : Int), (d : Int), 0, 0, 0, [], ⟨#[]⟩, 0, 0, 0, ⟨#[]⟩, B kt, 0, 0⟩ : RecP), s3) := by unfold recK; rw [if_pos hd1]; simp only [e3]
    rw [hK] at HRES
    simp only at HRES
    clear hK
    have HL9 : Hid ((⟨(q : Int), (d : Int), 0, 0, 0, [], ⟨#[]⟩, 0, 0, 0, ⟨#[]⟩, B kt, 0, 0⟩ : RecP).locs.length ≤ 1000) := Lib.hid (by exact Nat.zero_le _)
    have f1 : ((d : Int) == 1) = true := beq_iff_eq.mpr (by omega)
    have f0 : ((d : Int) == 0) = false := beq_eq_false_iff_ne.mpr (by omega)
    have f2 : ((d : Int) == 2) = false := beq_eq_false_iff_ne.mpr (by omega)
    have f3 : ((d : Int) == 3) = false := beq_eq_false_iff_ne.mpr (by omega)
    clear e3 hd0 hd1 hs2
    go_wp2_with (first | (refine gate_ (.store 55 (.tmp 8) (.tmp 29)) rfl ?_; refine wpList_store_row rfl 55 (.tmp 8) (.tmp 29) rfl w4.heap.size #[.int .i64 (q : Int), .int .i64 (d : Int), .int .i64 0, .int .i64 0, .int .i64 0, .slice none 0 0, .string ⟨#[]⟩, .int .i64 0, .int .i64 0, .int .i64 0, .string ⟨#[]⟩, .string ⟨#[]⟩, .int .i64 0, .int .i64 0] rfl rfl 55 _ (Blk.new _ _ _) (by kernel_rfl) rfl (by simp [Value.oneCell']) ?_; simp only [Act.put, List.setIfInBounds_toArray, List.set_cons_zero, List.set_cons_succ]; have hp := put_new w4 #[.int .i64 0, .int .i64 0, .int .i64 0, .int .i64 0, .int .i64 0, .slice none 0 0, .string ⟨#[]⟩, .int .i64 0, .int .i64 0, .int .i64 0, .string ⟨#[]⟩, .string ⟨#[]⟩, .int .i64 0, .int .i64 0] #[.int .i64 (q : Int), .int .i64 (d : Int), .int .i64 0, .int .i64 0, .int .i64 0, .slice none 0 0, .string ⟨#[]⟩, .int .i64 0, .int .i64 0, .int .i64 0, .string ⟨#[]⟩, .string ⟨#[]⟩, .int .i64 0, .int .i64 0] 55; have HB2 := Aside0.mk (HB.out.trans (hp.2.mono HB.out.size)); have HI2 := Aside0.mk (HI.out.below hp.2); generalize (w4.alloc (.cells #[.int .i64 0, .int .i64 0, .int .i64 0, .int .i64 0, .int .i64 0, .slice none 0 0, .string ⟨#[]⟩, .int .i64 0, .int .i64 0, .int .i64 0, .string ⟨#[]⟩, .string ⟨#[]⟩, .int .i64 0, .int .i64 0] 55)).setRow w4.heap.size #[.int .i64 (q : Int), .int .i64 (d : Int), .int .i64 0, .int .i64 0, .int .i64 0, .slice none 0 0, .string ⟨#[]⟩, .int .i64 0, .int .i64 0, .int .i64 0, .string ⟨#[]⟩, .string ⟨#[]⟩, .int .i64 0, .int .i64 0] = wr at hp HB2 HI2 ⊢; clear HB HI; have HB := HB2; have HI := HI2; clear HB2 HI2; have HH := Aside0.mk hp.1; clear hp; generalize w4.heap.size = gx at HH hgx ⊢; have c1 := HH.out.cell (i := 1) (v := .int .i64 (d : Int)) rfl))
    refine Calls.mono (pack_Reader_Text.calls 21 g _ _ _ _ _ v _ HI.out HB.out HN3.out) ?_
    rintro e w4 ⟨rfl, hI4, hB4, hK4⟩
    replace HI := Aside0.mk hI4
    replace HB := Aside0.mk hB4
    replace HH := Aside0.mk (HH.out.but hK4 (by omega))
    clear hI4 hB4 hK4
    clear HN3
    cases hib : isb with
    | false =>
      replace HRES := Lib.hid (HRES.out.trans (if_neg (fun h => by rw [hib] at h; cases h.1)))
      have hc := HH.out.cell (i := 11) (v := .string ⟨#[]⟩) rfl
      have hf := HH.out.free 11
      replace HB : Aside0 (Below v.heap.size v (w4.setCell ⟨gx, 11, none⟩ (.string (B kt)))) := ⟨HB.out.setCell (p := ⟨gx, 11, none⟩) (by show v.heap.size ≤ gx; omega) (.string (B kt))⟩
      replace HR := Aside0.mk (HR.out.keep HB.out)
      go_wp2_with (first | (refine gate_ (.store 55 (.tmp 2) (.tmp 83)) rfl ?_; refine wpList_store_row rfl 55 (.tmp 2) (.tmp 83) rfl w.heap.size (rv zeroR none 0) rfl rfl 55 _ HR.out (by kernel_rfl) rfl (rv_one _ _ _) ?_; simp only [Act.put, List.setIfInBounds_toArray, List.set_cons_zero, List.set_cons_succ]))
      refine bodyPost_ret (results_row_tmp rfl _ _ w.heap.size 55 (rv zeroR none 0) (0, 0) _ rfl (setRow_heap _ _ _ _ _ _ HR.out) Try.underlying55 rfl (by kernel_rfl)) rfl ?_
      rw [HRES.out]
      exact ⟨none, 0, rfl, Kd.R_nil _ _ _ _ _, below_setRow' (HBv.out.trans (HB.out.mono HBv.out.size)) (Nat.le_refl _) _⟩
    | true =>
      have hc := HH.out.cell (i := 11) (v := .string ⟨#[]⟩) rfl
      have hf := HH.out.free 11
      go_wp2_with fail
      clear hc hf
      have HH2 : Aside0 (Blk (w4.setCell ⟨gx, 11, none⟩ (.string (B kt))) gx #[.int .i64 (q : Int), .int .i64 (d : Int), .int .i64 0, .int .i64 0, .int .i64 0, .slice none 0 0, .string ⟨#[]⟩, .int .i64 0, .int .i64 0, .int .i64 0, .string ⟨#[]⟩, .string (B kt), .int .i64 0, .int .i64 0] 55) := ⟨HH.out.set 11 (.string (B kt))⟩
      have HI2 : Aside0 (IsS127 v (w4.setCell ⟨gx, 11, none⟩ (.string (B kt))) g (B s3.1) s3.2) := ⟨HI.out.far (p := ⟨gx, 11, none⟩) (by show g ≠ gx; omega) (.string (B kt))⟩
      have HB2 : Aside0 (Below v.heap.size v (w4.setCell ⟨gx, 11, none⟩ (.string (B kt)))) := ⟨HB.out.setCell (p := ⟨gx, 11, none⟩) (by show v.heap.size ≤ gx; omega) (.string (B kt))⟩
      generalize w4.setCell ⟨gx, 11, none⟩ (.string (B kt)) = wr at HH2 HI2 HB2 ⊢
      clear HH HI HB
      have HH := HH2
      have HI := HI2
      have HB := HB2
      clear HH2 HI2 HB2
      obtain ⟨r2, HE⟩ : ∃ r2, pack_Reader_End.f (B s3.1) s3.2 = some (endE s3, r2, endE s3) := by rcases rend_f s3 with h | h <;> exact ⟨_, h⟩
      refine Calls.mono (pack_Reader_End.calls g _ _ _ _ _ v _ HI.out HB.out HE) ?_
      clear HE
      rintro e w4 ⟨rfl, hI4, hB4, hK4⟩
      replace HB := Aside0.mk hB4
      have HX : Aside0 (Blk w4 gx (rv (⟨(q : Int), (d : Int), 0, 0, 0, [], ⟨#[]⟩, 0, 0, 0, ⟨#[]⟩, B kt, 0, 0⟩ : RecP) none 0) 55) := ⟨HH.out.but hK4 (by omega)⟩
      clear hI4 hB4 hK4 HI HH
      generalize endE s3 = en at HRES ⊢
      by_cases h1 : en = 0
      case neg =>
        replace HRES := Lib.hid (HRES.out.trans (if_neg (fun h => h1 h.2.1)))
        have h4 : (en != 0) = true := bne_iff_ne.mpr h1
        replace HR := Aside0.mk (HR.out.keep HB.out)
        go_wp2_with (first | (refine gate_ (.store 55 (.tmp 2) (.tmp 83)) rfl ?_; refine wpList_store_row rfl 55 (.tmp 2) (.tmp 83) rfl w.heap.size (rv zeroR none 0) rfl rfl 55 _ HR.out (by kernel_rfl) rfl (rv_one _ _ _) ?_; simp only [Act.put, List.setIfInBounds_toArray, List.set_cons_zero, List.set_cons_succ]))
        refine bodyPost_ret (results_row_tmp rfl _ _ w.heap.size 55 (rv zeroR none 0) (0, 0) _ rfl (setRow_heap _ _ _ _ _ _ HR.out) Try.underlying55 rfl (by kernel_rfl)) rfl ?_
        rw [HRES.out]
        exact ⟨none, 0, rfl, Kd.R_nil _ _ _ _ _, below_setRow' (HBv.out.trans (HB.out.mono HBv.out.size)) (Nat.le_refl _) _⟩
      subst h1
      go_wp2_with (first | (refine gate_ (.load 55 (.tmp 8)) rfl ?_; refine gate_guard (by rfl) ?_; refine wpList_load_row rfl 55 (.tmp 8) rfl gx rfl _ (rv (⟨(q : Int), (d : Int), 0, 0, 0, [], ⟨#[]⟩, 0, 0, 0, ⟨#[]⟩, B kt, 0, 0⟩ : RecP) none 0) (0, 0) _ HX.out Try.underlying55 rfl (by kernel_rfl) ?_; simp only [Act.put, List.setIfInBounds_toArray, List.set_cons_zero, List.set_cons_succ]) | (refine gate_ (.load 55 (.tmp 8)) rfl ?_; refine wpList_load_row rfl 55 (.tmp 8) rfl gx rfl _ (rv (⟨(q : Int), (d : Int), 0, 0, 0, [], ⟨#[]⟩, 0, 0, 0, ⟨#[]⟩, B kt, 0, 0⟩ : RecP) none 0) (0, 0) _ HX.out Try.underlying55 rfl (by kernel_rfl) ?_; simp only [Act.put, List.setIfInBounds_toArray, List.set_cons_zero, List.set_cons_succ]))
      refine (rchk_calls (⟨(q : Int), (d : Int), 0, 0, 0, [], ⟨#[]⟩, 0, 0, 0, ⟨#[]⟩, B kt, 0, 0⟩ : RecP) none 0 w4 (Kd.C_nil _ _) HL9.out (Nat.zero_le _)).mono ?_
      rintro e w5 ⟨rfl, b1⟩
      replace HX := Aside0.mk (HX.out.keep b1)
      replace HB := Aside0.mk (below2 HB.out HB.out.size b1)
      clear b1
      replace HR := Aside0.mk (HR.out.keep HB.out)
      obtain ⟨ck, hck⟩ : ∃ z, chkR (⟨(q : Int), (d : Int), 0, 0, 0, [], ⟨#[]⟩, 0, 0, 0, ⟨#[]⟩, B kt, 0, 0⟩ : RecP) = z := ⟨_, rfl⟩
      rw [hck] at HRES ⊢
      clear hck
      by_cases h2 : ck = 0
      case neg =>
        replace HRES := Lib.hid (HRES.out.trans (if_neg (fun h => h2 h.2.2)))
        have h4 : (ck != 0) = true := bne_iff_ne.mpr h2
        go_wp2_with (first | (refine gate_ (.store 55 (.tmp 2) (.tmp 83)) rfl ?_; refine wpList_store_row rfl 55 (.tmp 2) (.tmp 83) rfl w.heap.size (rv zeroR none 0) rfl rfl 55 _ HR.out (by kernel_rfl) rfl (rv_one _ _ _) ?_; simp only [Act.put, List.setIfInBounds_toArray, List.set_cons_zero, List.set_cons_succ]))
        refine bodyPost_ret (results_row_tmp rfl _ _ w.heap.size 55 (rv zeroR none 0) (0, 0) _ rfl (setRow_heap _ _ _ _ _ _ HR.out) Try.underlying55 rfl (by kernel_rfl)) rfl ?_
        rw [HRES.out]
        exact ⟨none, 0, rfl, Kd.R_nil _ _ _ _ _, below_setRow' (HBv.out.trans (HB.out.mono HBv.out.size)) (Nat.le_refl _) _⟩
      subst h2
      replace HRES := Lib.hid (HRES.out.trans (if_pos (by simp [hib])))
      go_wp2_with (first | (refine gate_ (.load 55 (.tmp 8)) rfl ?_; refine wpList_load_row rfl 55 (.tmp 8) rfl gx rfl _ (rv (⟨(q : Int), (d : Int), 0, 0, 0, [], ⟨#[]⟩, 0, 0, 0, ⟨#[]⟩, B kt, 0, 0⟩ : RecP) none 0) (0, 0) _ HX.out Try.underlying55 rfl (by kernel_rfl) ?_; simp only [Act.put, List.setIfInBounds_toArray, List.set_cons_zero, List.set_cons_succ]) | (refine gate_ (.store 55 (.tmp 2) (.tmp 84)) rfl ?_; refine wpList_store_row rfl 55 (.tmp 2) (.tmp 84) rfl w.heap.size (rv (⟨(q : Int), (d : Int), 0, 0, 0, [], ⟨#[]⟩, 0, 0, 0, ⟨#[]⟩, B kt, 0, 0⟩ : RecP) none 0) rfl rfl 55 _ HR.out (by kernel_rfl) rfl (rv_one _ _ _) ?_; simp only [Act.put, List.setIfInBounds_toArray, List.set_cons_zero, List.set_cons_succ]))
      refine bodyPost_ret (results_row_tmp rfl _ _ w.heap.size 55 (rv (⟨(q : Int), (d : Int), 0, 0, 0, [], ⟨#[]⟩, 0, 0, 0, ⟨#[]⟩, B kt, 0, 0⟩ : RecP) none 0) (0, 0) _ rfl (setRow_heap _ _ _ _ _ _ HR.out) Try.underlying55 rfl (by kernel_rfl)) rfl ?_
      rw [HRES.out]
      exact ⟨none, 0, rfl, Kd.R_nil _ _ _ _ _, below_setRow' (HBv.out.trans (HB.out.mono HBv.out.size)) (Nat.le_refl _) _⟩
  by_cases hdd : ¬ d = 0 ∧ ¬ d = 2 ∧ ¬ d = 3
  case pos =>
    have hK : recK q d s2 = ((⟨(q : Int), (d : Int), 0, 0, 0, [], ⟨#[]⟩, 0, 0, 0, ⟨#[]⟩, ⟨#[]⟩, 0, 0⟩ : RecP), s2) := by unfold recK; rw [if_neg hd1, if_neg hdd.1, if_neg hdd.2.1, if_neg hdd.2.2]
    rw [hK] at HRES
    simp only at HRES
    clear hK
    have HL9 : Hid ((⟨(q : Int), (d : Int), 0, 0, 0, [], ⟨#[]⟩, 0, 0, 0, ⟨#[]⟩, ⟨#[]⟩, 0, 0⟩ : RecP).locs.length ≤ 1000) := Lib.hid (by exact Nat.zero_le _)
    have f1 : ((d : Int) == 1) = false := beq_eq_false_iff_ne.mpr (by omega)
    have f0 : ((d : Int) == 0) = false := beq_eq_false_iff_ne.mpr (by omega)
    have f2 : ((d : Int) == 2) = false := beq_eq_false_iff_ne.mpr (by omega)
    have f3 : ((d : Int) == 3) = false := beq_eq_false_iff_ne.mpr (by omega)
    clear hdd hd1 hs2
    cases hib : isb with
    | false =>
      replace HRES := Lib.hid (HRES.out.trans (if_neg (fun h => by rw [hib] at h; cases h.1)))
      go_wp2_with (first | (refine gate_ (.store 55 (.tmp 8) (.tmp 29)) rfl ?_; refine wpList_store_row rfl 55 (.tmp 8) (.tmp 29) rfl w4.heap.size #[.int .i64 (q : Int), .int .i64 (d : Int), .int .i64 0, .int .i64 0, .int .i64 0, .slice none 0 0, .string ⟨#[]⟩, .int .i64 0, .int .i64 0, .int .i64 0, .string ⟨#[]⟩, .string ⟨#[]⟩, .int .i64 0, .int .i64 0] rfl rfl 55 _ (Blk.new _ _ _) (by kernel_rfl) rfl (by simp [Value.oneCell']) ?_; simp only [Act.put, List.setIfInBounds_toArray, List.set_cons_zero, List.set_cons_succ]; have hp := put_new w4 #[.int .i64 0, .int .i64 0, .int .i64 0, .int .i64 0, .int .i64 0, .slice none 0 0, .string ⟨#[]⟩, .int .i64 0, .int .i64 0, .int .i64 0, .string ⟨#[]⟩, .string ⟨#[]⟩, .int .i64 0, .int .i64 0] #[.int .i64 (q : Int), .int .i64 (d : Int), .int .i64 0, .int .i64 0, .int .i64 0, .slice none 0 0, .string ⟨#[]⟩, .int .i64 0, .int .i64 0, .int .i64 0, .string ⟨#[]⟩, .string ⟨#[]⟩, .int .i64 0, .int .i64 0] 55; have HB2 := Aside0.mk (HB.out.trans (hp.2.mono HB.out.size)); have HI2 := Aside0.mk (HI.out.below hp.2); generalize (w4.alloc (.cells #[.int .i64 0, .int .i64 0, .int .i64 0, .int .i64 0, .int .i64 0, .slice none 0 0, .string ⟨#[]⟩, .int .i64 0, .int .i64 0, .int .i64 0, .string ⟨#[]⟩, .string ⟨#[]⟩, .int .i64 0, .int .i64 0] 55)).setRow w4.heap.size #[.int .i64 (q : Int), .int .i64 (d : Int), .int .i64 0, .int .i64 0, .int .i64 0, .slice none 0 0, .string ⟨#[]⟩, .int .i64 0, .int .i64 0, .int .i64 0, .string ⟨#[]⟩, .string ⟨#[]⟩, .int .i64 0, .int .i64 0] = wr at hp HB2 HI2 ⊢; clear HB HI; have HB := HB2; have HI := HI2; clear HB2 HI2; have HH := Aside0.mk hp.1; clear hp; generalize w4.heap.size = gx at HH hgx ⊢; have c1 := HH.out.cell (i := 1) (v := .int .i64 (d : Int)) rfl; replace HR := Aside0.mk (HR.out.keep HB.out)) | (refine gate_ (.store 55 (.tmp 2) (.tmp 83)) rfl ?_; refine wpList_store_row rfl 55 (.tmp 2) (.tmp 83) rfl w.heap.size (rv zeroR none 0) rfl rfl 55 _ HR.out (by kernel_rfl) rfl (rv_one _ _ _) ?_; simp only [Act.put, List.setIfInBounds_toArray, List.set_cons_zero, List.set_cons_succ]))
      refine bodyPost_ret (results_row_tmp rfl _ _ w.heap.size 55 (rv zeroR none 0) (0, 0) _ rfl (setRow_heap _ _ _ _ _ _ HR.out) Try.underlying55 rfl (by kernel_rfl)) rfl ?_
      rw [HRES.out]
      exact ⟨none, 0, rfl, Kd.R_nil _ _ _ _ _, below_setRow' (HBv.out.trans (HB.out.mono HBv.out.size)) (Nat.le_refl _) _⟩
    | true =>
      go_wp2_with (first | (refine gate_ (.store 55 (.tmp 8) (.tmp 29)) rfl ?_; refine wpList_store_row rfl 55 (.tmp 8) (.tmp 29) rfl w4.heap.size #[.int .i64 (q : Int), .int .i64 (d : Int), .int .i64 0, .int .i64 0, .int .i64 0, .slice none 0 0, .string ⟨#[]⟩, .int .i64 0, .int .i64 0, .int .i64 0, .string ⟨#[]⟩, .string ⟨#[]⟩, .int .i64 0, .int .i64 0] rfl rfl 55 _ (Blk.new _ _ _) (by kernel_rfl) rfl (by simp [Value.oneCell']) ?_; simp only [Act.put, List.setIfInBounds_toArray, List.set_cons_zero, List.set_cons_succ]; have hp := put_new w4 #[.int .i64 0, .int .i64 0, .int .i64 0, .int .i64 0, .int .i64 0, .slice none 0 0, .string ⟨#[]⟩, .int .i64 0, .int .i64 0, .int .i64 0, .string ⟨#[]⟩, .string ⟨#[]⟩, .int .i64 0, .int .i64 0] #[.int .i64 (q : Int), .int .i64 (d : Int), .int .i64 0, .int .i64 0, .int .i64 0, .slice none 0 0, .string ⟨#[]⟩, .int .i64 0, .int .i64 0, .int .i64 0, .string ⟨#[]⟩, .string ⟨#[]⟩, .int .i64 0, .int .i64 0] 55; have HB2 := Aside0.mk (HB.out.trans (hp.2.mono HB.out.size)); have HI2 := Aside0.mk (HI.out.below hp.2); generalize (w4.alloc (.cells #[.int .i64 0, .int .i64 0, .int .i64 0, .int .i64 0, .int .i64 0, .slice none 0 0, .string ⟨#[]⟩, .int .i64 0, .int .i64 0, .int .i64 0, .string ⟨#[]⟩, .string ⟨#[]⟩, .int .i64 0, .int .i64 0] 55)).setRow w4.heap.size #[.int .i64 (q : Int), .int .i64 (d : Int), .int .i64 0, .int .i64 0, .int .i64 0, .slice none 0 0, .string ⟨#[]⟩, .int .i64 0, .int .i64 0, .int .i64 0, .string ⟨#[]⟩, .string ⟨#[]⟩, .int .i64 0, .int .i64 0] = wr at hp HB2 HI2 ⊢; clear HB HI; have HB := HB2; have HI := HI2; clear HB2 HI2; have HH := Aside0.mk hp.1; clear hp; generalize w4.heap.size = gx at HH hgx ⊢; have c1 := HH.out.cell (i := 1) (v := .int .i64 (d : Int)) rfl))
      obtain ⟨r2, HE⟩ : ∃ r2, pack_Reader_End.f (B s2.1) s2.2 = some (endE s2, r2, endE s2) := by rcases rend_f s2 with h | h <;> exact ⟨_, h⟩
      refine Calls.mono (pack_Reader_End.calls g _ _ _ _ _ v _ HI.out HB.out HE) ?_
      clear HE
      rintro e w4 ⟨rfl, hI4, hB4, hK4⟩
      replace HB := Aside0.mk hB4
      have HX : Aside0 (Blk w4 gx (rv (⟨(q : Int), (d : Int), 0, 0, 0, [], ⟨#[]⟩, 0, 0, 0, ⟨#[]⟩, ⟨#[]⟩, 0, 0⟩ : RecP) none 0) 55) := ⟨HH.out.but hK4 (by omega)⟩
      clear hI4 hB4 hK4 HI HH
      generalize endE s2 = en at HRES ⊢
      by_cases h1 : en = 0
      case neg =>
        replace HRES := Lib.hid (HRES.out.trans (if_neg (fun h => h1 h.2.1)))
        have h4 : (en != 0) = true := bne_iff_ne.mpr h1
        replace HR := Aside0.mk (HR.out.keep HB.out)
        go_wp2_with (first | (refine gate_ (.store 55 (.tmp 2) (.tmp 83)) rfl ?_; refine wpList_store_row rfl 55 (.tmp 2) (.tmp 83) rfl w.heap.size (rv zeroR none 0) rfl rfl 55 _ HR.out (by kernel_rfl) rfl (rv_one _ _ _) ?_; simp only [Act.put, List.setIfInBounds_toArray, List.set_cons_zero, List.set_cons_succ]))
        refine bodyPost_ret (results_row_tmp rfl _ _ w.heap.size 55 (rv zeroR none 0) (0, 0) _ rfl (setRow_heap _ _ _ _ _ _ HR.out) Try.underlying55 rfl (by kernel_rfl)) rfl ?_
        rw [HRES.out]
        exact ⟨none, 0, rfl, Kd.R_nil _ _ _ _ _, below_setRow' (HBv.out.trans (HB.out.mono HBv.out.size)) (Nat.le_refl _) _⟩
      subst h1
      go_wp2_with (first | (refine gate_ (.load 55 (.tmp 8)) rfl ?_; refine gate_guard (by rfl) ?_; refine wpList_load_row rfl 55 (.tmp 8) rfl gx rfl _ (rv (⟨(q : Int), (d : Int), 0, 0, 0, [], ⟨#[]⟩, 0, 0, 0, ⟨#[]⟩, ⟨#[]⟩, 0, 0⟩ : RecP) none 0) (0, 0) _ HX.out Try.underlying55 rfl (by kernel_rfl) ?_; simp only [Act.put, List.setIfInBounds_toArray, List.set_cons_zero, List.set_cons_succ]) | (refine gate_ (.load 55 (.tmp 8)) rfl ?_; refine wpList_load_row rfl 55 (.tmp 8) rfl gx rfl _ (rv (⟨(q : Int), (d : Int), 0, 0, 0, [], ⟨#[]⟩, 0, 0, 0, ⟨#[]⟩, ⟨#[]⟩, 0, 0⟩ : RecP) none 0) (0, 0) _ HX.out Try.underlying55 rfl (by kernel_rfl) ?_; simp only [Act.put, List.setIfInBounds_toArray, List.set_cons_zero, List.set_cons_succ]))
      refine (rchk_calls (⟨(q : Int), (d : Int), 0, 0, 0, [], ⟨#[]⟩, 0, 0, 0, ⟨#[]⟩, ⟨#[]⟩, 0, 0⟩ : RecP) none 0 w4 (Kd.C_nil _ _) HL9.out (Nat.zero_le _)).mono ?_
      rintro e w5 ⟨rfl, b1⟩
      replace HX := Aside0.mk (HX.out.keep b1)
      replace HB := Aside0.mk (below2 HB.out HB.out.size b1)
      clear b1
      replace HR := Aside0.mk (HR.out.keep HB.out)
      obtain ⟨ck, hck⟩ : ∃ z, chkR (⟨(q : Int), (d : Int), 0, 0, 0, [], ⟨#[]⟩, 0, 0, 0, ⟨#[]⟩, ⟨#[]⟩, 0, 0⟩ : RecP) = z := ⟨_, rfl⟩
      rw [hck] at HRES ⊢
      clear hck
      by_cases h2 : ck = 0
      case neg =>
        replace HRES := Lib.hid (HRES.out.trans (if_neg (fun h => h2 h.2.2)))
        have h4 : (ck != 0) = true := bne_iff_ne.mpr h2
        go_wp2_with (first | (refine gate_ (.store 55 (.tmp 2) (.tmp 83)) rfl ?_; refine wpList_store_row rfl 55 (.tmp 2) (.tmp 83) rfl w.heap.size (rv zeroR none 0) rfl rfl 55 _ HR.out (by kernel_rfl) rfl (rv_one _ _ _) ?_; simp only [Act.put, List.setIfInBounds_toArray, List.set_cons_zero, List.set_cons_succ]))
        refine bodyPost_ret (results_row_tmp rfl _ _ w.heap.size 55 (rv zeroR none 0) (0, 0) _ rfl (setRow_heap _ _ _ _ _ _ HR.out) Try.underlying55 rfl (by kernel_rfl)) rfl ?_
        rw [HRES.out]
        exact ⟨none, 0, rfl, Kd.R_nil _ _ _ _ _, below_setRow' (HBv.out.trans (HB.out.mono HBv.out.size)) (Nat.le_refl _) _⟩
      subst h2
      replace HRES := Lib.hid (HRES.out.trans (if_pos (by simp [hib])))
      go_wp2_with (first | (refine gate_ (.load 55 (.tmp 8)) rfl ?_; refine wpList_load_row rfl 55 (.tmp 8) rfl gx rfl _ (rv (⟨(q : Int), (d : Int), 0, 0, 0, [], ⟨#[]⟩, 0, 0, 0, ⟨#[]⟩, ⟨#[]⟩, 0, 0⟩ : RecP) none 0) (0, 0) _ HX.out Try.underlying55 rfl (by kernel_rfl) ?_; simp only [Act.put, List.setIfInBounds_toArray, List.set_cons_zero, List.set_cons_succ]) | (refine gate_ (.store 55 (.tmp 2) (.tmp 84)) rfl ?_; refine wpList_store_row rfl 55 (.tmp 2) (.tmp 84) rfl w.heap.size (rv (⟨(q : Int), (d : Int), 0, 0, 0, [], ⟨#[]⟩, 0, 0, 0, ⟨#[]⟩, ⟨#[]⟩, 0, 0⟩ : RecP) none 0) rfl rfl 55 _ HR.out (by kernel_rfl) rfl (rv_one _ _ _) ?_; simp only [Act.put, List.setIfInBounds_toArray, List.set_cons_zero, List.set_cons_succ]))
      refine bodyPost_ret (results_row_tmp rfl _ _ w.heap.size 55 (rv (⟨(q : Int), (d : Int), 0, 0, 0, [], ⟨#[]⟩, 0, 0, 0, ⟨#[]⟩, ⟨#[]⟩, 0, 0⟩ : RecP) none 0) (0, 0) _ rfl (setRow_heap _ _ _ _ _ _ HR.out) Try.underlying55 rfl (by kernel_rfl)) rfl ?_
      rw [HRES.out]
      exact ⟨none, 0, rfl, Kd.R_nil _ _ _ _ _, below_setRow' (HBv.out.trans (HB.out.mono HBv.out.size)) (Nat.le_refl _) _⟩
  obtain ⟨⟨⟨vi, vg, vn, vl⟩, s3⟩, ev⟩ : ∃ p, volS s2 = p := ⟨_, rfl⟩
  have h9 := vol_nine ev
  have hs3 := vol_st1 hs2 ev
  have HEV := Lib.hid ev
  by_cases hd2 : d = 2
  case pos =>
    have hK : recK q d s2 = ((⟨(q : Int), (d : Int), vi, vg, vn, vl, ⟨#[]⟩, 0, 0, 0, ⟨#[]⟩, ⟨#[]⟩, 0, 0⟩ : RecP), s3) := by unfold recK; rw [if_neg hd1, if_neg (by omega), if_pos hd2]; simp only [ev]
    rw [hK] at HRES
    simp only at HRES
    clear hK
    have HL9 : Hid ((⟨(q : Int), (d : Int), vi, vg, vn, vl, ⟨#[]⟩, 0, 0, 0, ⟨#[]⟩, ⟨#[]⟩, 0, 0⟩ : RecP).locs.length ≤ 1000) := Lib.hid (by show vl.length ≤ 1000; rw [h9]; decide)
    have f1 : ((d : Int) == 1) = false := beq_eq_false_iff_ne.mpr (by omega)
    have f0 : ((d : Int) == 0) = false := beq_eq_false_iff_ne.mpr (by omega)
    have f2 : ((d : Int) == 2) = true := beq_iff_eq.mpr (by omega)
    have f3 : ((d : Int) == 3) = false := beq_eq_false_iff_ne.mpr (by omega)
    clear ev h9 hs3 hd1 hd2 hdd
    go_wp2_with (first | (refine gate_ (.store 55 (.tmp 8) (.tmp 29)) rfl ?_; refine wpList_store_row rfl 55 (.tmp 8) (.tmp 29) rfl w4.heap.size #[.int .i64 (q : Int), .int .i64 (d : Int), .int .i64 0, .int .i64 0, .int .i64 0, .slice none 0 0, .string ⟨#[]⟩, .int .i64 0, .int .i64 0, .int .i64 0, .string ⟨#[]⟩, .string ⟨#[]⟩, .int .i64 0, .int .i64 0] rfl rfl 55 _ (Blk.new _ _ _) (by kernel_rfl) rfl (by simp [Value.oneCell']) ?_; simp only [Act.put, List.setIfInBounds_toArray, List.set_cons_zero, List.set_cons_succ]; have hp := put_new w4 #[.int .i64 0, .int .i64 0, .int .i64 0, .int .i64 0, .int .i64 0, .slice none 0 0, .string ⟨#[]⟩, .int .i64 0, .int .i64 0, .int .i64 0, .string ⟨#[]⟩, .string ⟨#[]⟩, .int .i64 0, .int .i64 0] #[.int .i64 (q : Int), .int .i64 (d : Int), .int .i64 0, .int .i64 0, .int .i64 0, .slice none 0 0, .string ⟨#[]⟩, .int .i64 0, .int .i64 0, .int .i64 0, .string ⟨#[]⟩, .string ⟨#[]⟩, .int .i64 0, .int .i64 0] 55; have HB2 := Aside0.mk (HB.out.trans (hp.2.mono HB.out.size)); have HI2 := Aside0.mk (HI.out.below hp.2); generalize (w4.alloc (.cells #[.int .i64 0, .int .i64 0, .int .i64 0, .int .i64 0, .int .i64 0, .slice none 0 0, .string ⟨#[]⟩, .int .i64 0, .int .i64 0, .int .i64 0, .string ⟨#[]⟩, .string ⟨#[]⟩, .int .i64 0, .int .i64 0] 55)).setRow w4.heap.size #[.int .i64 (q : Int), .int .i64 (d : Int), .int .i64 0, .int .i64 0, .int .i64 0, .slice none 0 0, .string ⟨#[]⟩, .int .i64 0, .int .i64 0, .int .i64 0, .string ⟨#[]⟩, .string ⟨#[]⟩, .int .i64 0, .int .i64 0] = wr at hp HB2 HI2 ⊢; clear HB HI; have HB := HB2; have HI := HI2; clear HB2 HI2; have HH := Aside0.mk hp.1; clear hp; generalize w4.heap.size = gx at HH hgx ⊢; have c1 := HH.out.cell (i := 1) (v := .int .i64 (d : Int)) rfl))
    have hgz : gx < wr.heap.size := HH.out.lt
    refine Calls.mono (vol_calls_st g s2 v _ hs2 HI.out HB.out HEV.out) ?_
    rintro e w4 ⟨A, c, rfl, hO, hI4, hB4, hK4⟩
    have HO := Aside0.mk hO
    clear hO HEV
    generalize wr.heap.size = bz at HO hgz
    replace HI := Aside0.mk hI4
    replace HB := Aside0.mk hB4
    replace HH := Aside0.mk (HH.out.but hK4 (by omega))
    clear hI4 hB4 hK4
    cases hib : isb with
    | false =>
      replace HRES := Lib.hid (HRES.out.trans (if_neg (fun h => by rw [hib] at h; cases h.1)))
      go_wp2_with (first | (refine gate_ (.store 29 (.tmp 59) (.tmp 58)) rfl ?_; refine wpList_store_mid rfl 29 (.tmp 59) (.tmp 58) rfl gx 2 #[.int .i64 vi, .int .i64 vg, .int .i64 vn, .slice A vl.length c] rfl rfl (HH.out.there 2 4 (show 6 ≤ 14 by decide)) (by kernel_rfl) (by simp [Value.oneCell']) ?_; simp only [Act.put, List.setIfInBounds_toArray, List.set_cons_zero, List.set_cons_succ]; have HH2 : Aside0 (Blk (w4.setCells gx 2 (Array.toList #[.int .i64 vi, .int .i64 vg, .int .i64 vn, .slice A vl.length c])) gx #[.int .i64 (q : Int), .int .i64 (d : Int), .int .i64 vi, .int .i64 vg, .int .i64 vn, .slice A vl.length c, .string ⟨#[]⟩, .int .i64 0, .int .i64 0, .int .i64 0, .string ⟨#[]⟩, .string ⟨#[]⟩, .int .i64 0, .int .i64 0] 55) := ⟨HH.out.setCells _ 2⟩; have HI2 : Aside0 (IsS127 v (w4.setCells gx 2 (Array.toList #[.int .i64 vi, .int .i64 vg, .int .i64 vn, .slice A vl.length c])) g (B s3.1) s3.2) := ⟨⟨Blk.setCells_other (by omega) _ 2 HI.out.1, HI.out.2⟩⟩; have HB2 : Aside0 (Below v.heap.size v (w4.setCells gx 2 (Array.toList #[.int .i64 vi, .int .i64 vg, .int .i64 vn, .slice A vl.length c]))) := ⟨below_setCells (by omega) _ 2 HB.out⟩; have HO2 : Aside0 (Kd.R k83 83 (w4.setCells gx 2 (Array.toList #[.int .i64 vi, .int .i64 vg, .int .i64 vn, .slice A vl.length c])) bz (fun k => bz ≤ k) (.slice A vl.length c) vl) := ⟨Kd.R_step HO.out (fun k hk _ => setCells_heap gx k (by omega) _ _ _)⟩; generalize w4.setCells gx 2 (Array.toList #[.int .i64 vi, .int .i64 vg, .int .i64 vn, .slice A vl.length c]) = wr at HH2 HI2 HB2 HO2 ⊢; clear HH HI HB HO; have HH := HH2; have HI := HI2; have HB := HB2; have HO := HO2; clear HH2 HI2 HB2 HO2; replace HR := Aside0.mk (HR.out.keep HB.out)) | (refine gate_ (.store 55 (.tmp 2) (.tmp 83)) rfl ?_; refine wpList_store_row rfl 55 (.tmp 2) (.tmp 83) rfl w.heap.size (rv zeroR none 0) rfl rfl 55 _ HR.out (by kernel_rfl) rfl (rv_one _ _ _) ?_; simp only [Act.put, List.setIfInBounds_toArray, List.set_cons_zero, List.set_cons_succ]))
      refine bodyPost_ret (results_row_tmp rfl _ _ w.heap.size 55 (rv zeroR none 0) (0, 0) _ rfl (setRow_heap _ _ _ _ _ _ HR.out) Try.underlying55 rfl (by kernel_rfl)) rfl ?_
      rw [HRES.out]
      exact ⟨none, 0, rfl, Kd.R_nil _ _ _ _ _, below_setRow' (HBv.out.trans (HB.out.mono HBv.out.size)) (Nat.le_refl _) _⟩
    | true =>
      go_wp2_with (first | (refine gate_ (.store 29 (.tmp 59) (.tmp 58)) rfl ?_; refine wpList_store_mid rfl 29 (.tmp 59) (.tmp 58) rfl gx 2 #[.int .i64 vi, .int .i64 vg, .int .i64 vn, .slice A vl.length c] rfl rfl (HH.out.there 2 4 (show 6 ≤ 14 by decide)) (by kernel_rfl) (by simp [Value.oneCell']) ?_; simp only [Act.put, List.setIfInBounds_toArray, List.set_cons_zero, List.set_cons_succ]; have HH2 : Aside0 (Blk (w4.setCells gx 2 (Array.toList #[.int .i64 vi, .int .i64 vg, .int .i64 vn, .slice A vl.length c])) gx #[.int .i64 (q : Int), .int .i64 (d : Int), .int .i64 vi, .int .i64 vg, .int .i64 vn, .slice A vl.length c, .string ⟨#[]⟩, .int .i64 0, .int .i64 0, .int .i64 0, .string ⟨#[]⟩, .string ⟨#[]⟩, .int .i64 0, .int .i64 0] 55) := ⟨HH.out.setCells _ 2⟩; have HI2 : Aside0 (IsS127 v (w4.setCells gx 2 (Array.toList #[.int .i64 vi, .int .i64 vg, .int .i64 vn, .slice A vl.length c])) g (B s3.1) s3.2) := ⟨⟨Blk.setCells_other (by omega) _ 2 HI.out.1, HI.out.2⟩⟩; have HB2 : Aside0 (Below v.heap.size v (w4.setCells gx 2 (Array.toList #[.int .i64 vi, .int .i64 vg, .int .i64 vn, .slice A vl.length c]))) := ⟨below_setCells (by omega) _ 2 HB.out⟩; have HO2 : Aside0 (Kd.R k83 83 (w4.setCells gx 2 (Array.toList #[.int .i64 vi, .int .i64 vg, .int .i64 vn, .slice A vl.length c])) bz (fun k => bz ≤ k) (.slice A vl.length c) vl) := ⟨Kd.R_step HO.out (fun k hk _ => setCells_heap gx k (by omega) _ _ _)⟩; generalize w4.setCells gx 2 (Array.toList #[.int .i64 vi, .int .i64 vg, .int .i64 vn, .slice A vl.length c]) = wr at HH2 HI2 HB2 HO2 ⊢; clear HH HI HB HO; have HH := HH2; have HI := HI2; have HB := HB2; have HO := HO2; clear HH2 HI2 HB2 HO2))
      obtain ⟨r2, HE⟩ : ∃ r2, pack_Reader_End.f (B s3.1) s3.2 = some (endE s3, r2, endE s3) := by rcases rend_f s3 with h | h <;> exact ⟨_, h⟩
      refine Calls.mono (pack_Reader_End.calls g _ _ _ _ _ v _ HI.out HB.out HE) ?_
      clear HE
      rintro e w4 ⟨rfl, hI4, hB4, hK4⟩
      replace HB := Aside0.mk hB4
      have HX : Aside0 (Blk w4 gx (rv (⟨(q : Int), (d : Int), vi, vg, vn, vl, ⟨#[]⟩, 0, 0, 0, ⟨#[]⟩, ⟨#[]⟩, 0, 0⟩ : RecP) A c) 55) := ⟨HH.out.but hK4 (by omega)⟩
      replace HO := Aside0.mk (Kd.R_keep HO.out hK4 (fun k hk => by omega))
      clear hI4 hB4 hK4 HI HH
      generalize endE s3 = en at HRES ⊢
      by_cases h1 : en = 0
      case neg =>
        replace HRES := Lib.hid (HRES.out.trans (if_neg (fun h => h1 h.2.1)))
        have h4 : (en != 0) = true := bne_iff_ne.mpr h1
        replace HR := Aside0.mk (HR.out.keep HB.out)
        go_wp2_with (first | (refine gate_ (.store 55 (.tmp 2) (.tmp 83)) rfl ?_; refine wpList_store_row rfl 55 (.tmp 2) (.tmp 83) rfl w.heap.size (rv zeroR none 0) rfl rfl 55 _ HR.out (by kernel_rfl) rfl (rv_one _ _ _) ?_; simp only [Act.put, List.setIfInBounds_toArray, List.set_cons_zero, List.set_cons_succ]))
        refine bodyPost_ret (results_row_tmp rfl _ _ w.heap.size 55 (rv zeroR none 0) (0, 0) _ rfl (setRow_heap _ _ _ _ _ _ HR.out) Try.underlying55 rfl (by kernel_rfl)) rfl ?_
        rw [HRES.out]
        exact ⟨none, 0, rfl, Kd.R_nil _ _ _ _ _, below_setRow' (HBv.out.trans (HB.out.mono HBv.out.size)) (Nat.le_refl _) _⟩
      subst h1
      go_wp2_with (first | (refine gate_ (.load 55 (.tmp 8)) rfl ?_; refine gate_guard (by rfl) ?_; refine wpList_load_row rfl 55 (.tmp 8) rfl gx rfl _ (rv (⟨(q : Int), (d : Int), vi, vg, vn, vl, ⟨#[]⟩, 0, 0, 0, ⟨#[]⟩, ⟨#[]⟩, 0, 0⟩ : RecP) A c) (0, 0) _ HX.out Try.underlying55 rfl (by kernel_rfl) ?_; simp only [Act.put, List.setIfInBounds_toArray, List.set_cons_zero, List.set_cons_succ]) | (refine gate_ (.load 55 (.tmp 8)) rfl ?_; refine wpList_load_row rfl 55 (.tmp 8) rfl gx rfl _ (rv (⟨(q : Int), (d : Int), vi, vg, vn, vl, ⟨#[]⟩, 0, 0, 0, ⟨#[]⟩, ⟨#[]⟩, 0, 0⟩ : RecP) A c) (0, 0) _ HX.out Try.underlying55 rfl (by kernel_rfl) ?_; simp only [Act.put, List.setIfInBounds_toArray, List.set_cons_zero, List.set_cons_succ]))
      refine (rchk_calls (⟨(q : Int), (d : Int), vi, vg, vn, vl, ⟨#[]⟩, 0, 0, 0, ⟨#[]⟩, ⟨#[]⟩, 0, 0⟩ : RecP) A c w4 (Kd.R_reads' HO.out).2.2 HL9.out (Kd.R_reads' HO.out).2.1).mono ?_
      rintro e w5 ⟨rfl, b1⟩
      replace HX := Aside0.mk (HX.out.keep b1)
      replace HB := Aside0.mk (below2 HB.out HB.out.size b1)
      replace HO := Aside0.mk (Kd.R_below HO.out b1)
      clear b1
      replace HR := Aside0.mk (HR.out.keep HB.out)
      obtain ⟨ck, hck⟩ : ∃ z, chkR (⟨(q : Int), (d : Int), vi, vg, vn, vl, ⟨#[]⟩, 0, 0, 0, ⟨#[]⟩, ⟨#[]⟩, 0, 0⟩ : RecP) = z := ⟨_, rfl⟩
      rw [hck] at HRES ⊢
      clear hck
      by_cases h2 : ck = 0
      case neg =>
        replace HRES := Lib.hid (HRES.out.trans (if_neg (fun h => h2 h.2.2)))
        have h4 : (ck != 0) = true := bne_iff_ne.mpr h2
        go_wp2_with (first | (refine gate_ (.store 55 (.tmp 2) (.tmp 83)) rfl ?_; refine wpList_store_row rfl 55 (.tmp 2) (.tmp 83) rfl w.heap.size (rv zeroR none 0) rfl rfl 55 _ HR.out (by kernel_rfl) rfl (rv_one _ _ _) ?_; simp only [Act.put, List.setIfInBounds_toArray, List.set_cons_zero, List.set_cons_succ]))
        refine bodyPost_ret (results_row_tmp rfl _ _ w.heap.size 55 (rv zeroR none 0) (0, 0) _ rfl (setRow_heap _ _ _ _ _ _ HR.out) Try.underlying55 rfl (by kernel_rfl)) rfl ?_
        rw [HRES.out]
        exact ⟨none, 0, rfl, Kd.R_nil _ _ _ _ _, below_setRow' (HBv.out.trans (HB.out.mono HBv.out.size)) (Nat.le_refl _) _⟩
      subst h2
      replace HRES := Lib.hid (HRES.out.trans (if_pos (by simp [hib])))
      go_wp2_with (first | (refine gate_ (.load 55 (.tmp 8)) rfl ?_; refine wpList_load_row rfl 55 (.tmp 8) rfl gx rfl _ (rv (⟨(q : Int), (d : Int), vi, vg, vn, vl, ⟨#[]⟩, 0, 0, 0, ⟨#[]⟩, ⟨#[]⟩, 0, 0⟩ : RecP) A c) (0, 0) _ HX.out Try.underlying55 rfl (by kernel_rfl) ?_; simp only [Act.put, List.setIfInBounds_toArray, List.set_cons_zero, List.set_cons_succ]) | (refine gate_ (.store 55 (.tmp 2) (.tmp 84)) rfl ?_; refine wpList_store_row rfl 55 (.tmp 2) (.tmp 84) rfl w.heap.size (rv (⟨(q : Int), (d : Int), vi, vg, vn, vl, ⟨#[]⟩, 0, 0, 0, ⟨#[]⟩, ⟨#[]⟩, 0, 0⟩ : RecP) A c) rfl rfl 55 _ HR.out (by kernel_rfl) rfl (rv_one _ _ _) ?_; simp only [Act.put, List.setIfInBounds_toArray, List.set_cons_zero, List.set_cons_succ]))
      refine bodyPost_ret (results_row_tmp rfl _ _ w.heap.size 55 (rv (⟨(q : Int), (d : Int), vi, vg, vn, vl, ⟨#[]⟩, 0, 0, 0, ⟨#[]⟩, ⟨#[]⟩, 0, 0⟩ : RecP) A c) (0, 0) _ rfl (setRow_heap _ _ _ _ _ _ HR.out) Try.underlying55 rfl (by kernel_rfl)) rfl ?_
      rw [HRES.out]
      have hO : Kd.R k83 83 (w5.setRow w.heap.size (rv (⟨(q : Int), (d : Int), vi, vg, vn, vl, ⟨#[]⟩, 0, 0, 0, ⟨#[]⟩, ⟨#[]⟩, 0, 0⟩ : RecP) A c)) bz (fun k => bz ≤ k) (.slice A vl.length c) vl := Kd.R_step HO.out (fun k hk _ => setRow_other w5 w.heap.size k _ (by omega))
      exact ⟨A, c, rfl, Kd.R_mono (Kd.R_lower hO (by omega)) (fun k hk => by omega), below_setRow' (HBv.out.trans (HB.out.mono HBv.out.size)) (Nat.le_refl _) _⟩
  by_cases hd3 : d = 3
  case pos =>
    obtain ⟨⟨fr, s4⟩, e3⟩ : ∃ p, nx s3 = p := ⟨_, rfl⟩
    obtain ⟨⟨tl, s5⟩, e4⟩ : ∃ p, nx s4 = p := ⟨_, rfl⟩
    have hs4 := nx_st1 hs3 e3
    have HN3 := Lib.hid (num_st s3 hs3 e3)
    have HN4 := Lib.hid (num_st s4 hs4 e4)
    have hK : recK q d s2 = ((⟨(q : Int), (d : Int), vi, vg, vn, vl, ⟨#[]⟩, 0, 0, 0, ⟨#[]⟩, ⟨#[]⟩, (fr : Int), (tl : Int)⟩ : RecP), s5) := by unfold recK; rw [if_neg hd1, if_neg (by omega), if_neg (by omega), if_pos hd3]; simp only [ev, e3, e4]
    rw [hK] at HRES
    simp only at HRES
    clear hK
    have HL9 : Hid ((⟨(q : Int), (d : Int), vi, vg, vn, vl, ⟨#[]⟩, 0, 0, 0, ⟨#[]⟩, ⟨#[]⟩, (fr : Int), (tl : Int)⟩ : RecP).locs.length ≤ 1000) := Lib.hid (by show vl.length ≤ 1000; rw [h9]; decide)
    have f1 : ((d : Int) == 1) = false := beq_eq_false_iff_ne.mpr (by omega)
    have f0 : ((d : Int) == 0) = false := beq_eq_false_iff_ne.mpr (by omega)
    have f2 : ((d : Int) == 2) = false := beq_eq_false_iff_ne.mpr (by omega)
    have f3 : ((d : Int) == 3) = true := beq_iff_eq.mpr (by omega)
    clear ev e3 e4 h9 hs3 hs4 hd1 hd2 hd3 hdd
    go_wp2_with (first | (refine gate_ (.store 55 (.tmp 8) (.tmp 29)) rfl ?_; refine wpList_store_row rfl 55 (.tmp 8) (.tmp 29) rfl w4.heap.size #[.int .i64 (q : Int), .int .i64 (d : Int), .int .i64 0, .int .i64 0, .int .i64 0, .slice none 0 0, .string ⟨#[]⟩, .int .i64 0, .int .i64 0, .int .i64 0, .string ⟨#[]⟩, .string ⟨#[]⟩, .int .i64 0, .int .i64 0] rfl rfl 55 _ (Blk.new _ _ _) (by kernel_rfl) rfl (by simp [Value.oneCell']) ?_; simp only [Act.put, List.setIfInBounds_toArray, List.set_cons_zero, List.set_cons_succ]; have hp := put_new w4 #[.int .i64 0, .int .i64 0, .int .i64 0, .int .i64 0, .int .i64 0, .slice none 0 0, .string ⟨#[]⟩, .int .i64 0, .int .i64 0, .int .i64 0, .string ⟨#[]⟩, .string ⟨#[]⟩, .int .i64 0, .int .i64 0] #[.int .i64 (q : Int), .int .i64 (d : Int), .int .i64 0, .int .i64 0, .int .i64 0, .slice none 0 0, .string ⟨#[]⟩, .int .i64 0, .int .i64 0, .int .i64 0, .string ⟨#[]⟩, .string ⟨#[]⟩, .int .i64 0, .int .i64 0] 55; have HB2 := Aside0.mk (HB.out.trans (hp.2.mono HB.out.size)); have HI2 := Aside0.mk (HI.out.below hp.2); generalize (w4.alloc (.cells #[.int .i64 0, .int .i64 0, .int .i64 0, .int .i64 0, .int .i64 0, .slice none 0 0, .string ⟨#[]⟩, .int .i64 0, .int .i64 0, .int .i64 0, .string ⟨#[]⟩, .string ⟨#[]⟩, .int .i64 0, .int .i64 0] 55)).setRow w4.heap.size #[.int .i64 (q : Int), .int .i64 (d : Int), .int .i64 0, .int .i64 0, .int .i64 0, .slice none 0 0, .string ⟨#[]⟩, .int .i64 0, .int .i64 0, .int .i64 0, .string ⟨#[]⟩, .string ⟨#[]⟩, .int .i64 0, .int .i64 0] = wr at hp HB2 HI2 ⊢; clear HB HI; have HB := HB2; have HI := HI2; clear HB2 HI2; have HH := Aside0.mk hp.1; clear hp; generalize w4.heap.size = gx at HH hgx ⊢; have c1 := HH.out.cell (i := 1) (v := .int .i64 (d : Int)) rfl))
    have hgz : gx < wr.heap.size := HH.out.lt
    refine Calls.mono (vol_calls_st g s2 v _ hs2 HI.out HB.out HEV.out) ?_
    rintro e w4 ⟨A, c, rfl, hO, hI4, hB4, hK4⟩
    have HO := Aside0.mk hO
    clear hO HEV
    generalize wr.heap.size = bz at HO hgz
    replace HI := Aside0.mk hI4
    replace HB := Aside0.mk hB4
    replace HH := Aside0.mk (HH.out.but hK4 (by omega))
    clear hI4 hB4 hK4
    go_wp2_with fail
    refine Calls.mono (pack_Reader_Number.calls 20 g _ _ _ _ _ v _ HI.out HB.out HN3.out) ?_
    rintro e w4 ⟨rfl, hI4, hB4, hK4⟩
    replace HI := Aside0.mk hI4
    replace HB := Aside0.mk hB4
    replace HH := Aside0.mk (HH.out.but hK4 (by omega))
    replace HO := Aside0.mk (Kd.R_keep HO.out hK4 (fun k hk => by omega))
    clear hI4 hB4 hK4
    clear HN3
    go_wp2_with fail
    refine Calls.mono (pack_Reader_Number.calls 20 g _ _ _ _ _ v _ HI.out HB.out HN4.out) ?_
    rintro e w4 ⟨rfl, hI4, hB4, hK4⟩
    replace HI := Aside0.mk hI4
    replace HB := Aside0.mk hB4
    replace HH := Aside0.mk (HH.out.but hK4 (by omega))
    replace HO := Aside0.mk (Kd.R_keep HO.out hK4 (fun k hk => by omega))
    clear hI4 hB4 hK4
    clear HN4
    cases hib : isb with
    | false =>
      replace HRES := Lib.hid (HRES.out.trans (if_neg (fun h => by rw [hib] at h; cases h.1)))
      go_wp2_with (first | (refine gate_ (.store 29 (.tmp 68) (.tmp 63)) rfl ?_; refine wpList_store_mid rfl 29 (.tmp 68) (.tmp 63) rfl gx 2 #[.int .i64 vi, .int .i64 vg, .int .i64 vn, .slice A vl.length c] rfl rfl (HH.out.there 2 4 (show 6 ≤ 14 by decide)) (by kernel_rfl) (by simp [Value.oneCell']) ?_; simp only [Act.put, List.setIfInBounds_toArray, List.set_cons_zero, List.set_cons_succ]; have HH2 : Aside0 (Blk (w4.setCells gx 2 (Array.toList #[.int .i64 vi, .int .i64 vg, .int .i64 vn, .slice A vl.length c])) gx #[.int .i64 (q : Int), .int .i64 (d : Int), .int .i64 vi, .int .i64 vg, .int .i64 vn, .slice A vl.length c, .string ⟨#[]⟩, .int .i64 0, .int .i64 0, .int .i64 0, .string ⟨#[]⟩, .string ⟨#[]⟩, .int .i64 0, .int .i64 0] 55) := ⟨HH.out.setCells _ 2⟩; have HI2 : Aside0 (IsS127 v (w4.setCells gx 2 (Array.toList #[.int .i64 vi, .int .i64 vg, .int .i64 vn, .slice A vl.length c])) g (B s5.1) s5.2) := ⟨⟨Blk.setCells_other (by omega) _ 2 HI.out.1, HI.out.2⟩⟩; have HB2 : Aside0 (Below v.heap.size v (w4.setCells gx 2 (Array.toList #[.int .i64 vi, .int .i64 vg, .int .i64 vn, .slice A vl.length c]))) := ⟨below_setCells (by omega) _ 2 HB.out⟩; have HO2 : Aside0 (Kd.R k83 83 (w4.setCells gx 2 (Array.toList #[.int .i64 vi, .int .i64 vg, .int .i64 vn, .slice A vl.length c])) bz (fun k => bz ≤ k) (.slice A vl.length c) vl) := ⟨Kd.R_step HO.out (fun k hk _ => setCells_heap gx k (by omega) _ _ _)⟩; generalize w4.setCells gx 2 (Array.toList #[.int .i64 vi, .int .i64 vg, .int .i64 vn, .slice A vl.length c]) = wr at HH2 HI2 HB2 HO2 ⊢; clear HH HI HB HO; have HH := HH2; have HI := HI2; have HB := HB2; have HO := HO2; clear HH2 HI2 HB2 HO2; have c12 := HH.out.cell (i := 12) (v := .int .i64 0) rfl; have u12 := HH.out.free 12; have c13 := HH.out.cell (i := 13) (v := .int .i64 0) rfl; have u13 := HH.out.free 13; have HB2 : Aside0 (Below v.heap.size v ((wr.setCell ⟨gx, 12, none⟩ (.int .i64 (fr : Int))).setCell ⟨gx, 13, none⟩ (.int .i64 (tl : Int)))) := ⟨(HB.out.setCell (p := ⟨gx, 12, none⟩) (by show v.heap.size ≤ gx; omega) _).setCell (p := ⟨gx, 13, none⟩) (by show v.heap.size ≤ gx; omega) _⟩; clear HB; have HB := HB2; clear HB2; replace HR := Aside0.mk (HR.out.keep HB.out)) | (refine gate_ (.store 55 (.tmp 2) (.tmp 83)) rfl ?_; refine wpList_store_row rfl 55 (.tmp 2) (.tmp 83) rfl w.heap.size (rv zeroR none 0) rfl rfl 55 _ HR.out (by kernel_rfl) rfl (rv_one _ _ _) ?_; simp only [Act.put, List.setIfInBounds_toArray, List.set_cons_zero, List.set_cons_succ]))
      refine bodyPost_ret (results_row_tmp rfl _ _ w.heap.size 55 (rv zeroR none 0) (0, 0) _ rfl (setRow_heap _ _ _ _ _ _ HR.out) Try.underlying55 rfl (by kernel_rfl)) rfl ?_
      rw [HRES.out]
      exact ⟨none, 0, rfl, Kd.R_nil _ _ _ _ _, below_setRow' (HBv.out.trans (HB.out.mono HBv.out.size)) (Nat.le_refl _) _⟩
    | true =>
      go_wp2_with (first | (refine gate_ (.store 29 (.tmp 68) (.tmp 63)) rfl ?_; refine wpList_store_mid rfl 29 (.tmp 68) (.tmp 63) rfl gx 2 #[.int .i64 vi, .int .i64 vg, .int .i64 vn, .slice A vl.length c] rfl rfl (HH.out.there 2 4 (show 6 ≤ 14 by decide)) (by kernel_rfl) (by simp [Value.oneCell']) ?_; simp only [Act.put, List.setIfInBounds_toArray, List.set_cons_zero, List.set_cons_succ]; have HH2 : Aside0 (Blk (w4.setCells gx 2 (Array.toList #[.int .i64 vi, .int .i64 vg, .int .i64 vn, .slice A vl.length c])) gx #[.int .i64 (q : Int), .int .i64 (d : Int), .int .i64 vi, .int .i64 vg, .int .i64 vn, .slice A vl.length c, .string ⟨#[]⟩, .int .i64 0, .int .i64 0, .int .i64 0, .string ⟨#[]⟩, .string ⟨#[]⟩, .int .i64 0, .int .i64 0] 55) := ⟨HH.out.setCells _ 2⟩; have HI2 : Aside0 (IsS127 v (w4.setCells gx 2 (Array.toList #[.int .i64 vi, .int .i64 vg, .int .i64 vn, .slice A vl.length c])) g (B s5.1) s5.2) := ⟨⟨Blk.setCells_other (by omega) _ 2 HI.out.1, HI.out.2⟩⟩; have HB2 : Aside0 (Below v.heap.size v (w4.setCells gx 2 (Array.toList #[.int .i64 vi, .int .i64 vg, .int .i64 vn, .slice A vl.length c]))) := ⟨below_setCells (by omega) _ 2 HB.out⟩; have HO2 : Aside0 (Kd.R k83 83 (w4.setCells gx 2 (Array.toList #[.int .i64 vi, .int .i64 vg, .int .i64 vn, .slice A vl.length c])) bz (fun k => bz ≤ k) (.slice A vl.length c) vl) := ⟨Kd.R_step HO.out (fun k hk _ => setCells_heap gx k (by omega) _ _ _)⟩; generalize w4.setCells gx 2 (Array.toList #[.int .i64 vi, .int .i64 vg, .int .i64 vn, .slice A vl.length c]) = wr at HH2 HI2 HB2 HO2 ⊢; clear HH HI HB HO; have HH := HH2; have HI := HI2; have HB := HB2; have HO := HO2; clear HH2 HI2 HB2 HO2; have c12 := HH.out.cell (i := 12) (v := .int .i64 0) rfl; have u12 := HH.out.free 12; have c13 := HH.out.cell (i := 13) (v := .int .i64 0) rfl; have u13 := HH.out.free 13))
      have HH2 : Aside0 (Blk ((wr.setCell ⟨gx, 12, none⟩ (.int .i64 (fr : Int))).setCell ⟨gx, 13, none⟩ (.int .i64 (tl : Int))) gx #[.int .i64 (q : Int), .int .i64 (d : Int), .int .i64 vi, .int .i64 vg, .int .i64 vn, .slice A vl.length c, .string ⟨#[]⟩, .int .i64 0, .int .i64 0, .int .i64 0, .string ⟨#[]⟩, .string ⟨#[]⟩, .int .i64 (fr : Int), .int .i64 (tl : Int)] 55) := ⟨(HH.out.set 12 (.int .i64 (fr : Int))).set 13 (.int .i64 (tl : Int))⟩
      have HI2 : Aside0 (IsS127 v ((wr.setCell ⟨gx, 12, none⟩ (.int .i64 (fr : Int))).setCell ⟨gx, 13, none⟩ (.int .i64 (tl : Int))) g (B s5.1) s5.2) := ⟨(HI.out.far (p := ⟨gx, 12, none⟩) (by show g ≠ gx; omega) _).far (p := ⟨gx, 13, none⟩) (by show g ≠ gx; omega) _⟩
      have HB2 : Aside0 (Below v.heap.size v ((wr.setCell ⟨gx, 12, none⟩ (.int .i64 (fr : Int))).setCell ⟨gx, 13, none⟩ (.int .i64 (tl : Int)))) := ⟨(HB.out.setCell (p := ⟨gx, 12, none⟩) (by show v.heap.size ≤ gx; omega) _).setCell (p := ⟨gx, 13, none⟩) (by show v.heap.size ≤ gx; omega) _⟩
      have HO2 : Aside0 (Kd.R k83 83 ((wr.setCell ⟨gx, 12, none⟩ (.int .i64 (fr : Int))).setCell ⟨gx, 13, none⟩ (.int .i64 (tl : Int))) bz (fun k => bz ≤ k) (.slice A vl.length c) vl) := ⟨Kd.R_far (Kd.R_far HO.out (p := ⟨gx, 12, none⟩) (fun k hk => by show k ≠ gx; omega) _) (p := ⟨gx, 13, none⟩) (fun k hk => by show k ≠ gx; omega) _⟩
      generalize (wr.setCell ⟨gx, 12, none⟩ (.int .i64 (fr : Int))).setCell ⟨gx, 13, none⟩ (.int .i64 (tl : Int)) = wr at HH2 HI2 HB2 HO2 ⊢
      clear HH HI HB HO
      have HH := HH2
      have HI := HI2
      have HB := HB2
      have HO := HO2
      clear HH2 HI2 HB2 HO2
      obtain ⟨r2, HE⟩ : ∃ r2, pack_Reader_End.f (B s5.1) s5.2 = some (endE s5, r2, endE s5) := by rcases rend_f s5 with h | h <;> exact ⟨_, h⟩
      refine Calls.mono (pack_Reader_End.calls g _ _ _ _ _ v _ HI.out HB.out HE) ?_
      clear HE
      rintro e w4 ⟨rfl, hI4, hB4, hK4⟩
      replace HB := Aside0.mk hB4
      have HX : Aside0 (Blk w4 gx (rv (⟨(q : Int), (d : Int), vi, vg, vn, vl, ⟨#[]⟩, 0, 0, 0, ⟨#[]⟩, ⟨#[]⟩, (fr : Int), (tl : Int)⟩ : RecP) A c) 55) := ⟨HH.out.but hK4 (by omega)⟩
      replace HO := Aside0.mk (Kd.R_keep HO.out hK4 (fun k hk => by omega))
      clear hI4 hB4 hK4 HI HH
      generalize endE s5 = en at HRES ⊢
      by_cases h1 : en = 0
      case neg =>
        replace HRES := Lib.hid (HRES.out.trans (if_neg (fun h => h1 h.2.1)))
        have h4 : (en != 0) = true := bne_iff_ne.mpr h1
        replace HR := Aside0.mk (HR.out.keep HB.out)
        go_wp2_with (first | (refine gate_ (.store 55 (.tmp 2) (.tmp 83)) rfl ?_; refine wpList_store_row rfl 55 (.tmp 2) (.tmp 83) rfl w.heap.size (rv zeroR none 0) rfl rfl 55 _ HR.out (by kernel_rfl) rfl (rv_one _ _ _) ?_; simp only [Act.put, List.setIfInBounds_toArray, List.set_cons_zero, List.set_cons_succ]))
        refine bodyPost_ret (results_row_tmp rfl _ _ w.heap.size 55 (rv zeroR none 0) (0, 0) _ rfl (setRow_heap _ _ _ _ _ _ HR.out) Try.underlying55 rfl (by kernel_rfl)) rfl ?_
        rw [HRES.out]
        exact ⟨none, 0, rfl, Kd.R_nil _ _ _ _ _, below_setRow' (HBv.out.trans (HB.out.mono HBv.out.size)) (Nat.le_refl _) _⟩
      subst h1
      go_wp2_with (first | (refine gate_ (.load 55 (.tmp 8)) rfl ?_; refine gate_guard (by rfl) ?_; refine wpList_load_row rfl 55 (.tmp 8) rfl gx rfl _ (rv (⟨(q : Int), (d : Int), vi, vg, vn, vl, ⟨#[]⟩, 0, 0, 0, ⟨#[]⟩, ⟨#[]⟩, (fr : Int), (tl : Int)⟩ : RecP) A c) (0, 0) _ HX.out Try.underlying55 rfl (by kernel_rfl) ?_; simp only [Act.put, List.setIfInBounds_toArray, List.set_cons_zero, List.set_cons_succ]) | (refine gate_ (.load 55 (.tmp 8)) rfl ?_; refine wpList_load_row rfl 55 (.tmp 8) rfl gx rfl _ (rv (⟨(q : Int), (d : Int), vi, vg, vn, vl, ⟨#[]⟩, 0, 0, 0, ⟨#[]⟩, ⟨#[]⟩, (fr : Int), (tl : Int)⟩ : RecP) A c) (0, 0) _ HX.out Try.underlying55 rfl (by kernel_rfl) ?_; simp only [Act.put, List.setIfInBounds_toArray, List.set_cons_zero, List.set_cons_succ]))
      refine (rchk_calls (⟨(q : Int), (d : Int), vi, vg, vn, vl, ⟨#[]⟩, 0, 0, 0, ⟨#[]⟩, ⟨#[]⟩, (fr : Int), (tl : Int)⟩ : RecP) A c w4 (Kd.R_reads' HO.out).2.2 HL9.out (Kd.R_reads' HO.out).2.1).mono ?_
      rintro e w5 ⟨rfl, b1⟩
      replace HX := Aside0.mk (HX.out.keep b1)
      replace HB := Aside0.mk (below2 HB.out HB.out.size b1)
      replace HO := Aside0.mk (Kd.R_below HO.out b1)
      clear b1
      replace HR := Aside0.mk (HR.out.keep HB.out)
      obtain ⟨ck, hck⟩ : ∃ z, chkR (⟨(q : Int), (d : Int), vi, vg, vn, vl, ⟨#[]⟩, 0, 0, 0, ⟨#[]⟩, ⟨#[]⟩, (fr : Int), (tl : Int)⟩ : RecP) = z := ⟨_, rfl⟩
      rw [hck] at HRES ⊢
      clear hck
      by_cases h2 : ck = 0
      case neg =>
        replace HRES := Lib.hid (HRES.out.trans (if_neg (fun h => h2 h.2.2)))
        have h4 : (ck != 0) = true := bne_iff_ne.mpr h2
        go_wp2_with (first | (refine gate_ (.store 55 (.tmp 2) (.tmp 83)) rfl ?_; refine wpList_store_row rfl 55 (.tmp 2) (.tmp 83) rfl w.heap.size (rv zeroR none 0) rfl rfl 55 _ HR.out (by kernel_rfl) rfl (rv_one _ _ _) ?_; simp only [Act.put, List.setIfInBounds_toArray, List.set_cons_zero, List.set_cons_succ]))
        refine bodyPost_ret (results_row_tmp rfl _ _ w.heap.size 55 (rv zeroR none 0) (0, 0) _ rfl (setRow_heap _ _ _ _ _ _ HR.out) Try.underlying55 rfl (by kernel_rfl)) rfl ?_
        rw [HRES.out]
        exact ⟨none, 0, rfl, Kd.R_nil _ _ _ _ _, below_setRow' (HBv.out.trans (HB.out.mono HBv.out.size)) (Nat.le_refl _) _⟩
      subst h2
      replace HRES := Lib.hid (HRES.out.trans (if_pos (by simp [hib])))
      go_wp2_with (first | (refine gate_ (.load 55 (.tmp 8)) rfl ?_; refine wpList_load_row rfl 55 (.tmp 8) rfl gx rfl _ (rv (⟨(q : Int), (d : Int), vi, vg, vn, vl, ⟨#[]⟩, 0, 0, 0, ⟨#[]⟩, ⟨#[]⟩, (fr : Int), (tl : Int)⟩ : RecP) A c) (0, 0) _ HX.out Try.underlying55 rfl (by kernel_rfl) ?_; simp only [Act.put, List.setIfInBounds_toArray, List.set_cons_zero, List.set_cons_succ]) | (refine gate_ (.store 55 (.tmp 2) (.tmp 84)) rfl ?_; refine wpList_store_row rfl 55 (.tmp 2) (.tmp 84) rfl w.heap.size (rv (⟨(q : Int), (d : Int), vi, vg, vn, vl, ⟨#[]⟩, 0, 0, 0, ⟨#[]⟩, ⟨#[]⟩, (fr : Int), (tl : Int)⟩ : RecP) A c) rfl rfl 55 _ HR.out (by kernel_rfl) rfl (rv_one _ _ _) ?_; simp only [Act.put, List.setIfInBounds_toArray, List.set_cons_zero, List.set_cons_succ]))
      refine bodyPost_ret (results_row_tmp rfl _ _ w.heap.size 55 (rv (⟨(q : Int), (d : Int), vi, vg, vn, vl, ⟨#[]⟩, 0, 0, 0, ⟨#[]⟩, ⟨#[]⟩, (fr : Int), (tl : Int)⟩ : RecP) A c) (0, 0) _ rfl (setRow_heap _ _ _ _ _ _ HR.out) Try.underlying55 rfl (by kernel_rfl)) rfl ?_
      rw [HRES.out]
      have hO : Kd.R k83 83 (w5.setRow w.heap.size (rv (⟨(q : Int), (d : Int), vi, vg, vn, vl, ⟨#[]⟩, 0, 0, 0, ⟨#[]⟩, ⟨#[]⟩, (fr : Int), (tl : Int)⟩ : RecP) A c)) bz (fun k => bz ≤ k) (.slice A vl.length c) vl := Kd.R_step HO.out (fun k hk _ => setRow_other w5 w.heap.size k _ (by omega))
      exact ⟨A, c, rfl, Kd.R_mono (Kd.R_lower hO (by omega)) (fun k hk => by omega), below_setRow' (HBv.out.trans (HB.out.mono HBv.out.size)) (Nat.le_refl _) _⟩
  have hd0 : d = 0 := by omega
  obtain ⟨⟨kt, s4⟩, e3⟩ : ∃ p, tx s3 = p := ⟨_, rfl⟩
  obtain ⟨⟨o, s5⟩, e4⟩ : ∃ p, nx s4 = p := ⟨_, rfl⟩
  obtain ⟨⟨ln, s6⟩, e5⟩ : ∃ p, nx s5 = p := ⟨_, rfl⟩
  obtain ⟨⟨dg, s7⟩, e6⟩ : ∃ p, rst s6 = p := ⟨_, rfl⟩
  have hs4 := tx_st1 hs3 e3
  have hs5 := nx_st1 hs4 e4
  have HN3 := Lib.hid (txt_st s3 hs3 e3)
  have HN4 := Lib.hid (num_st s4 hs4 e4)
  have HN5 := Lib.hid (num_st s5 hs5 e5)
  have HN6 := Lib.hid (rst_st s6 e6)
  have hK : recK q d s2 = ((⟨(q : Int), (d : Int), vi, vg, vn, vl, B kt, vi, (o : Int), (ln : Int), B dg, ⟨#[]⟩, 0, 0⟩ : RecP), s7) := by unfold recK; rw [if_neg hd1, if_pos hd0]; simp only [ev, e3, e4, e5, e6]
  rw [hK] at HRES
  simp only at HRES
  clear hK
  have HL9 : Hid ((⟨(q : Int), (d : Int), vi, vg, vn, vl, B kt, vi, (o : Int), (ln : Int), B dg, ⟨#[]⟩, 0, 0⟩ : RecP).locs.length ≤ 1000) := Lib.hid (by show vl.length ≤ 1000; rw [h9]; decide)
  have f1 : ((d : Int) == 1) = false := beq_eq_false_iff_ne.mpr (by omega)
  have f0 : ((d : Int) == 0) = true := beq_iff_eq.mpr (by omega)
  have f2 : ((d : Int) == 2) = false := beq_eq_false_iff_ne.mpr (by omega)
  have f3 : ((d : Int) == 3) = false := beq_eq_false_iff_ne.mpr (by omega)
  clear ev e3 e4 e5 e6 h9 hs3 hs4 hs5 hd1 hd2 hd3 hdd hd0
  go_wp2_with (first | (refine gate_ (.store 55 (.tmp 8) (.tmp 29)) rfl ?_; refine wpList_store_row rfl 55 (.tmp 8) (.tmp 29) rfl w4.heap.size #[.int .i64 (q : Int), .int .i64 (d : Int), .int .i64 0, .int .i64 0, .int .i64 0, .slice none 0 0, .string ⟨#[]⟩, .int .i64 0, .int .i64 0, .int .i64 0, .string ⟨#[]⟩, .string ⟨#[]⟩, .int .i64 0, .int .i64 0] rfl rfl 55 _ (Blk.new _ _ _) (by kernel_rfl) rfl (by simp [Value.oneCell']) ?_; simp only [Act.put, List.setIfInBounds_toArray, List.set_cons_zero, List.set_cons_succ]; have hp := put_new w4 #[.int .i64 0, .int .i64 0, .int .i64 0, .int .i64 0, .int .i64 0, .slice none 0 0, .string ⟨#[]⟩, .int .i64 0, .int .i64 0, .int .i64 0, .string ⟨#[]⟩, .string ⟨#[]⟩, .int .i64 0, .int .i64 0] #[.int .i64 (q : Int), .int .i64 (d : Int), .int .i64 0, .int .i64 0, .int .i64 0, .slice none 0 0, .string ⟨#[]⟩, .int .i64 0, .int .i64 0, .int .i64 0, .string ⟨#[]⟩, .string ⟨#[]⟩, .int .i64 0, .int .i64 0] 55; have HB2 := Aside0.mk (HB.out.trans (hp.2.mono HB.out.size)); have HI2 := Aside0.mk (HI.out.below hp.2); generalize (w4.alloc (.cells #[.int .i64 0, .int .i64 0, .int .i64 0, .int .i64 0, .int .i64 0, .slice none 0 0, .string ⟨#[]⟩, .int .i64 0, .int .i64 0, .int .i64 0, .string ⟨#[]⟩, .string ⟨#[]⟩, .int .i64 0, .int .i64 0] 55)).setRow w4.heap.size #[.int .i64 (q : Int), .int .i64 (d : Int), .int .i64 0, .int .i64 0, .int .i64 0, .slice none 0 0, .string ⟨#[]⟩, .int .i64 0, .int .i64 0, .int .i64 0, .string ⟨#[]⟩, .string ⟨#[]⟩, .int .i64 0, .int .i64 0] = wr at hp HB2 HI2 ⊢; clear HB HI; have HB := HB2; have HI := HI2; clear HB2 HI2; have HH := Aside0.mk hp.1; clear hp; generalize w4.heap.size = gx at HH hgx ⊢; have c1 := HH.out.cell (i := 1) (v := .int .i64 (d : Int)) rfl))
  have hgz : gx < wr.heap.size := HH.out.lt
  refine Calls.mono (vol_calls_st g s2 v _ hs2 HI.out HB.out HEV.out) ?_
  rintro e w4 ⟨A, c, rfl, hO, hI4, hB4, hK4⟩
  have HO := Aside0.mk hO
  clear hO HEV
  generalize wr.heap.size = bz at HO hgz
  replace HI := Aside0.mk hI4
  replace HB := Aside0.mk hB4
  replace HH := Aside0.mk (HH.out.but hK4 (by omega))
  clear hI4 hB4 hK4
  go_wp2_with (first | (refine gate_ (.store 29 (.tmp 41) (.tmp 40)) rfl ?_; refine wpList_store_mid rfl 29 (.tmp 41) (.tmp 40) rfl gx 2 #[.int .i64 vi, .int .i64 vg, .int .i64 vn, .slice A vl.length c] rfl rfl (HH.out.there 2 4 (show 6 ≤ 14 by decide)) (by kernel_rfl) (by simp [Value.oneCell']) ?_; simp only [Act.put, List.setIfInBounds_toArray, List.set_cons_zero, List.set_cons_succ]; have HH2 : Aside0 (Blk (w4.setCells gx 2 (Array.toList #[.int .i64 vi, .int .i64 vg, .int .i64 vn, .slice A vl.length c])) gx #[.int .i64 (q : Int), .int .i64 (d : Int), .int .i64 vi, .int .i64 vg, .int .i64 vn, .slice A vl.length c, .string ⟨#[]⟩, .int .i64 0, .int .i64 0, .int .i64 0, .string ⟨#[]⟩, .string ⟨#[]⟩, .int .i64 0, .int .i64 0] 55) := ⟨HH.out.setCells _ 2⟩; have HI2 : Aside0 (IsS127 v (w4.setCells gx 2 (Array.toList #[.int .i64 vi, .int .i64 vg, .int .i64 vn, .slice A vl.length c])) g (B s3.1) s3.2) := ⟨⟨Blk.setCells_other (by omega) _ 2 HI.out.1, HI.out.2⟩⟩; have HB2 : Aside0 (Below v.heap.size v (w4.setCells gx 2 (Array.toList #[.int .i64 vi, .int .i64 vg, .int .i64 vn, .slice A vl.length c]))) := ⟨below_setCells (by omega) _ 2 HB.out⟩; have HO2 : Aside0 (Kd.R k83 83 (w4.setCells gx 2 (Array.toList #[.int .i64 vi, .int .i64 vg, .int .i64 vn, .slice A vl.length c])) bz (fun k => bz ≤ k) (.slice A vl.length c) vl) := ⟨Kd.R_step HO.out (fun k hk _ => setCells_heap gx k (by omega) _ _ _)⟩; generalize w4.setCells gx 2 (Array.toList #[.int .i64 vi, .int .i64 vg, .int .i64 vn, .slice A vl.length c]) = wr at HH2 HI2 HB2 HO2 ⊢; clear HH HI HB HO; have HH := HH2; have HI := HI2; have HB := HB2; have HO := HO2; clear HH2 HI2 HB2 HO2))
  have HB2 : Aside0 (Below v.heap.size v wr.drew) := ⟨HB.out.drew⟩
  have HI2 : Aside0 (IsS127 v wr.drew g (B s3.1) s3.2) := ⟨HI.out⟩
  have HH2 : Aside0 (Blk wr.drew gx #[.int .i64 (q : Int), .int .i64 (d : Int), .int .i64 vi, .int .i64 vg, .int .i64 vn, .slice A vl.length c, .string ⟨#[]⟩, .int .i64 0, .int .i64 0, .int .i64 0, .string ⟨#[]⟩, .string ⟨#[]⟩, .int .i64 0, .int .i64 0] 55) := ⟨HH.out⟩
  have HO2 : Aside0 (Kd.R k83 83 wr.drew bz (fun k => bz ≤ k) (.slice A vl.length c) vl) := ⟨Kd.R_drew HO.out⟩
  clear HB HI HH HO
  have HB := HB2
  have HI := HI2
  have HH := HH2
  have HO := HO2
  clear HB2 HI2 HH2 HO2
  refine start_ (n := 14) (S := fun w' => w'.cell? ⟨gx, 2, none⟩ = some (.int .i64 vi)) (ds := [13]) #[false, false, false, false, false, false, false, false, false, false, false, false, false, false] (by kernel_rfl) rfl rfl ((HH.out.cell (i := 2) (v := .int .i64 vi) rfl)) (fun hHeld => ?_)
  refine pure_ (i := 0) (N := some 42) (v := ?_) (a' := ?_) #[true, false, false, false, false, false, false, false, false, false, false, false, false, false] rfl rfl (by kernel_rfl) (fun _ _ _ h => h) (Or.inl ⟨by rfl, ?_⟩) ?_ ?_
  rotate_left
  · intro w'
    go_simp
    with_reducible rfl
  rotate_left
  · simp only [Act.put, List.setIfInBounds_toArray, List.set_cons_zero, List.set_cons_succ]
    rfl
  refine pure_ (i := 2) (N := some 44) (v := ?_) (a' := ?_) #[true, false, true, false, false, false, false, false, false, false, false, false, false, false] rfl rfl (by kernel_rfl) (fun _ _ _ h => h) (Or.inl ⟨by rfl, ?_⟩) ?_ ?_
  rotate_left
  · intro w'
    go_simp
    with_reducible rfl
  rotate_left
  · simp only [Act.put, List.setIfInBounds_toArray, List.set_cons_zero, List.set_cons_succ]
    rfl
  refine pure_ (i := 3) (N := some 45) (v := ?_) (a' := ?_) #[true, false, true, true, false, false, false, false, false, false, false, false, false, false] rfl rfl (by kernel_rfl) (fun _ _ _ h => h) (Or.inl ⟨by rfl, ?_⟩) ?_ ?_
  rotate_left
  · intro w'
    go_simp
    with_reducible rfl
  rotate_left
  · simp only [Act.put, List.setIfInBounds_toArray, List.set_cons_zero, List.set_cons_succ]
    rfl
  refine pure_ (i := 5) (N := some 47) (v := ?_) (a' := ?_) #[true, false, true, true, false, true, false, false, false, false, false, false, false, false] rfl rfl (by kernel_rfl) (fun _ _ _ h => h) (Or.inl ⟨by rfl, ?_⟩) ?_ ?_
  rotate_left
  · intro w'
    go_simp
    with_reducible rfl
  rotate_left
  · simp only [Act.put, List.setIfInBounds_toArray, List.set_cons_zero, List.set_cons_succ]
    rfl
  refine pure_ (i := 7) (N := some 49) (v := ?_) (a' := ?_) #[true, false, true, true, false, true, false, true, false, false, false, false, false, false] rfl rfl (by kernel_rfl) (fun _ _ _ h => h) (Or.inl ⟨by rfl, ?_⟩) ?_ ?_
  rotate_left
  · intro w'
    go_simp
    with_reducible rfl
  rotate_left
  · simp only [Act.put, List.setIfInBounds_toArray, List.set_cons_zero, List.set_cons_succ]
    rfl
  refine pure_ (i := 9) (N := some 51) (v := ?_) (a' := ?_) #[true, false, true, true, false, true, false, true, false, true, false, false, false, false] rfl rfl (by kernel_rfl) (fun _ _ _ h => h) (Or.inl ⟨by rfl, ?_⟩) ?_ ?_
  rotate_left
  · intro w'
    go_simp
    with_reducible rfl
  rotate_left
  · simp only [Act.put, List.setIfInBounds_toArray, List.set_cons_zero, List.set_cons_succ]
    rfl
  refine take_ (i := 4) (N := some 46) (v := ?_) (a' := ?_) #[true, false, true, true, true, true, false, true, false, true, false, false, false, false] rfl rfl (by kernel_rfl) (fun _ _ _ h => h) (Or.inl ⟨by rfl, ?_⟩) hHeld ?_ ?_
  rotate_left
  · intro w' s0
    go_simp
    with_reducible rfl
  rotate_left
  · simp only [Act.put, List.setIfInBounds_toArray, List.set_cons_zero, List.set_cons_succ]
    rfl
  refine one_ (i := 1) (N := some 43) #[true, true, true, true, true, true, false, true, false, true, false, false, false, false] rfl rfl (by kernel_rfl) (by decide) (fun K hK => ?_)
  refine goes_ Try.func63 (by kernel_rfl) rfl #[.pointer (some ⟨g, 0, none⟩)] (by rfl) rfl rfl (by simp only [List.map_toArray, List.map_cons, List.map_nil]; rfl) ?_
  with_reducible refine (pack_Reader_Text.calls 21 g _ _ _ _ _ v _ HI.out HB.out HN3.out).mono ?_
  rintro e w4 ⟨rfl, hI4, hB4, hK4⟩
  refine ⟨_, rfl, ?_⟩
  replace HI := Aside0.mk hI4
  replace HB := Aside0.mk hB4
  replace HH := Aside0.mk (HH.out.but hK4 (by omega))
  replace HO := Aside0.mk (Kd.R_keep HO.out hK4 (fun k hk => by omega))
  clear hI4 hB4 hK4
  refine hK.out _ _ ((HH.out.cell (i := 2) (v := .int .i64 vi) rfl)) (fun hHeld => ?_)
  clear hK K
  refine norm_ (a' := ?_) ?_ ?_
  rotate_left
  · show Act.put _ (some 43) _ = _
    simp only [Act.put, List.setIfInBounds_toArray, List.set_cons_zero, List.set_cons_succ]
    rfl
  refine one_ (i := 6) (N := some 48) #[true, true, true, true, true, true, true, true, false, true, false, false, false, false] rfl rfl (by kernel_rfl) (by decide) (fun K hK => ?_)
  refine goes_ Try.func62 (by kernel_rfl) rfl #[.pointer (some ⟨g, 0, none⟩)] (by rfl) rfl rfl (by simp only [List.map_toArray, List.map_cons, List.map_nil]; rfl) ?_
  with_reducible refine (pack_Reader_Number.calls 20 g _ _ _ _ _ v _ HI.out HB.out HN4.out).mono ?_
  rintro e w4 ⟨rfl, hI4, hB4, hK4⟩
  refine ⟨_, rfl, ?_⟩
  replace HI := Aside0.mk hI4
  replace HB := Aside0.mk hB4
  replace HH := Aside0.mk (HH.out.but hK4 (by omega))
  replace HO := Aside0.mk (Kd.R_keep HO.out hK4 (fun k hk => by omega))
  clear hI4 hB4 hK4
  refine hK.out _ _ ((HH.out.cell (i := 2) (v := .int .i64 vi) rfl)) (fun hHeld => ?_)
  clear hK K
  refine norm_ (a' := ?_) ?_ ?_
  rotate_left
  · show Act.put _ (some 48) _ = _
    simp only [Act.put, List.setIfInBounds_toArray, List.set_cons_zero, List.set_cons_succ]
    rfl
  refine one_ (i := 8) (N := some 50) #[true, true, true, true, true, true, true, true, true, true, false, false, false, false] rfl rfl (by kernel_rfl) (by decide) (fun K hK => ?_)
  refine goes_ Try.func62 (by kernel_rfl) rfl #[.pointer (some ⟨g, 0, none⟩)] (by rfl) rfl rfl (by simp only [List.map_toArray, List.map_cons, List.map_nil]; rfl) ?_
  with_reducible refine (pack_Reader_Number.calls 20 g _ _ _ _ _ v _ HI.out HB.out HN5.out).mono ?_
  rintro e w4 ⟨rfl, hI4, hB4, hK4⟩
  refine ⟨_, rfl, ?_⟩
  replace HI := Aside0.mk hI4
  replace HB := Aside0.mk hB4
  replace HH := Aside0.mk (HH.out.but hK4 (by omega))
  replace HO := Aside0.mk (Kd.R_keep HO.out hK4 (fun k hk => by omega))
  clear hI4 hB4 hK4
  refine hK.out _ _ ((HH.out.cell (i := 2) (v := .int .i64 vi) rfl)) (fun hHeld => ?_)
  clear hK K
  refine norm_ (a' := ?_) ?_ ?_
  rotate_left
  · show Act.put _ (some 50) _ = _
    simp only [Act.put, List.setIfInBounds_toArray, List.set_cons_zero, List.set_cons_succ]
    rfl
  refine one_ (i := 10) (N := some 52) #[true, true, true, true, true, true, true, true, true, true, true, false, false, false] rfl rfl (by kernel_rfl) (by decide) (fun K hK => ?_)
  refine goes_ Try.func65 (by kernel_rfl) rfl #[.pointer (some ⟨g, 0, none⟩)] (by rfl) rfl rfl (by simp only [List.map_toArray, List.map_cons, List.map_nil]; rfl) ?_
  with_reducible refine (pack_Reader_Rest.calls g _ _ _ _ _ v _ HI.out HB.out HN6.out).mono ?_
  rintro e w4 ⟨rfl, hI4, hB4, hK4⟩
  refine ⟨_, rfl, ?_⟩
  replace HI := Aside0.mk hI4
  replace HB := Aside0.mk hB4
  replace HH := Aside0.mk (HH.out.but hK4 (by omega))
  replace HO := Aside0.mk (Kd.R_keep HO.out hK4 (fun k hk => by omega))
  clear hI4 hB4 hK4
  refine hK.out _ _ ((HH.out.cell (i := 2) (v := .int .i64 vi) rfl)) (fun hHeld => ?_)
  clear hK K
  refine norm_ (a' := ?_) ?_ ?_
  rotate_left
  · show Act.put _ (some 52) _ = _
    simp only [Act.put, List.setIfInBounds_toArray, List.set_cons_zero, List.set_cons_succ]
    rfl
  refine pure_ (i := 11) (N := some 53) (v := ?_) (a' := ?_) #[true, true, true, true, true, true, true, true, true, true, true, true, false, false] rfl rfl (by kernel_rfl) (fun _ _ _ h => h) (Or.inl ⟨by rfl, ?_⟩) ?_ ?_
  rotate_left
  · intro w'
    go_simp
    with_reducible rfl
  rotate_left
  · simp only [Act.put, List.setIfInBounds_toArray, List.set_cons_zero, List.set_cons_succ]
    rfl
  refine pure_ (i := 12) (N := some 54) (v := ?_) (a' := ?_) #[true, true, true, true, true, true, true, true, true, true, true, true, true, false] rfl rfl (by kernel_rfl) (fun _ _ _ h => h) (Or.inl ⟨by rfl, ?_⟩) ?_ ?_
  rotate_left
  · intro w'
    go_simp
    with_reducible rfl
  rotate_left
  · simp only [Act.put, List.setIfInBounds_toArray, List.set_cons_zero, List.set_cons_succ]
    rfl
  refine last_ (i := 13) (N := none) #[true, true, true, true, true, true, true, true, true, true, true, true, true, true] rfl rfl (by kernel_rfl) (by decide) (fun K hK => ?_)
  refine skip_ (by rfl) rfl (st_run _ 31 (.tmp 54) (.tmp 53) HH.out 6 #[.string (B kt), .int .i64 vi, .int .i64 (o : Int), .int .i64 (ln : Int), .string (B dg)] (show 11 ≤ 14 by decide) rfl rfl (by kernel_rfl) (by simp [Value.oneCell']) rfl) ?_
  refine hK.out _ _ ?_
  clear hK K
  refine done_ (by kernel_rfl) ?_
  clear hHeld
  cases hib : isb with
  | false =>
    replace HRES := Lib.hid (HRES.out.trans (if_neg (fun h => by rw [hib] at h; cases h.1)))
    have HB2 : Aside0 (Below v.heap.size v (w4.setCells gx 6 (Array.toList #[.string (B kt), .int .i64 vi, .int .i64 (o : Int), .int .i64 (ln : Int), .string (B dg)]))) := ⟨below_setCells (by omega) _ 6 HB.out⟩
    clear HB
    have HB := HB2
    clear HB2
    replace HR := Aside0.mk (HR.out.keep HB.out)
    go_wp2_with (first | (refine gate_ (.store 55 (.tmp 2) (.tmp 83)) rfl ?_; refine wpList_store_row rfl 55 (.tmp 2) (.tmp 83) rfl w.heap.size (rv zeroR none 0) rfl rfl 55 _ HR.out (by kernel_rfl) rfl (rv_one _ _ _) ?_; simp only [Act.put, List.setIfInBounds_toArray, List.set_cons_zero, List.set_cons_succ]))
    refine bodyPost_ret (results_row_tmp rfl _ _ w.heap.size 55 (rv zeroR none 0) (0, 0) _ rfl (setRow_heap _ _ _ _ _ _ HR.out) Try.underlying55 rfl (by kernel_rfl)) rfl ?_
    rw [HRES.out]
    exact ⟨none, 0, rfl, Kd.R_nil _ _ _ _ _, below_setRow' (HBv.out.trans (HB.out.mono HBv.out.size)) (Nat.le_refl _) _⟩
  | true =>
    have HH2 : Aside0 (Blk (w4.setCells gx 6 (Array.toList #[.string (B kt), .int .i64 vi, .int .i64 (o : Int), .int .i64 (ln : Int), .string (B dg)])) gx #[.int .i64 (q : Int), .int .i64 (d : Int), .int .i64 vi, .int .i64 vg, .int .i64 vn, .slice A vl.length c, .string (B kt), .int .i64 vi, .int .i64 (o : Int), .int .i64 (ln : Int), .string (B dg), .string ⟨#[]⟩, .int .i64 0, .int .i64 0] 55) := ⟨HH.out.setCells _ 6⟩
    have HI2 : Aside0 (IsS127 v (w4.setCells gx 6 (Array.toList #[.string (B kt), .int .i64 vi, .int .i64 (o : Int), .int .i64 (ln : Int), .string (B dg)])) g (B s7.1) s7.2) := ⟨⟨Blk.setCells_other (by omega) _ 6 HI.out.1, HI.out.2⟩⟩
    have HB2 : Aside0 (Below v.heap.size v (w4.setCells gx 6 (Array.toList #[.string (B kt), .int .i64 vi, .int .i64 (o : Int), .int .i64 (ln : Int), .string (B dg)]))) := ⟨below_setCells (by omega) _ 6 HB.out⟩
    have HO2 : Aside0 (Kd.R k83 83 (w4.setCells gx 6 (Array.toList #[.string (B kt), .int .i64 vi, .int .i64 (o : Int), .int .i64 (ln : Int), .string (B dg)])) bz (fun k => bz ≤ k) (.slice A vl.length c) vl) := ⟨Kd.R_step HO.out (fun k hk _ => setCells_heap gx k (by omega) _ _ _)⟩
    generalize w4.setCells gx 6 (Array.toList #[.string (B kt), .int .i64 vi, .int .i64 (o : Int), .int .i64 (ln : Int), .string (B dg)]) = wr at HH2 HI2 HB2 HO2 ⊢
    clear HH HI HB HO
    have HH := HH2
    have HI := HI2
    have HB := HB2
    have HO := HO2
    clear HH2 HI2 HB2 HO2
    go_wp2_with fail
    obtain ⟨r2, HE⟩ : ∃ r2, pack_Reader_End.f (B s7.1) s7.2 = some (endE s7, r2, endE s7) := by rcases rend_f s7 with h | h <;> exact ⟨_, h⟩
    refine Calls.mono (pack_Reader_End.calls g _ _ _ _ _ v _ HI.out HB.out HE) ?_
    clear HE
    rintro e w4 ⟨rfl, hI4, hB4, hK4⟩
    replace HB := Aside0.mk hB4
    have HX : Aside0 (Blk w4 gx (rv (⟨(q : Int), (d : Int), vi, vg, vn, vl, B kt, vi, (o : Int), (ln : Int), B dg, ⟨#[]⟩, 0, 0⟩ : RecP) A c) 55) := ⟨HH.out.but hK4 (by omega)⟩
    replace HO := Aside0.mk (Kd.R_keep HO.out hK4 (fun k hk => by omega))
    clear hI4 hB4 hK4 HI HH
    generalize endE s7 = en at HRES ⊢
    by_cases h1 : en = 0
    case neg =>
      replace HRES := Lib.hid (HRES.out.trans (if_neg (fun h => h1 h.2.1)))
      have h4 : (en != 0) = true := bne_iff_ne.mpr h1
      replace HR := Aside0.mk (HR.out.keep HB.out)
      go_wp2_with (first | (refine gate_ (.store 55 (.tmp 2) (.tmp 83)) rfl ?_; refine wpList_store_row rfl 55 (.tmp 2) (.tmp 83) rfl w.heap.size (rv zeroR none 0) rfl rfl 55 _ HR.out (by kernel_rfl) rfl (rv_one _ _ _) ?_; simp only [Act.put, List.setIfInBounds_toArray, List.set_cons_zero, List.set_cons_succ]))
      refine bodyPost_ret (results_row_tmp rfl _ _ w.heap.size 55 (rv zeroR none 0) (0, 0) _ rfl (setRow_heap _ _ _ _ _ _ HR.out) Try.underlying55 rfl (by kernel_rfl)) rfl ?_
      rw [HRES.out]
      exact ⟨none, 0, rfl, Kd.R_nil _ _ _ _ _, below_setRow' (HBv.out.trans (HB.out.mono HBv.out.size)) (Nat.le_refl _) _⟩
    subst h1
    go_wp2_with (first | (refine gate_ (.load 55 (.tmp 8)) rfl ?_; refine gate_guard (by rfl) ?_; refine wpList_load_row rfl 55 (.tmp 8) rfl gx rfl _ (rv (⟨(q : Int), (d : Int), vi, vg, vn, vl, B kt, vi, (o : Int), (ln : Int), B dg, ⟨#[]⟩, 0, 0⟩ : RecP) A c) (0, 0) _ HX.out Try.underlying55 rfl (by kernel_rfl) ?_; simp only [Act.put, List.setIfInBounds_toArray, List.set_cons_zero, List.set_cons_succ]) | (refine gate_ (.load 55 (.tmp 8)) rfl ?_; refine wpList_load_row rfl 55 (.tmp 8) rfl gx rfl _ (rv (⟨(q : Int), (d : Int), vi, vg, vn, vl, B kt, vi, (o : Int), (ln : Int), B dg, ⟨#[]⟩, 0, 0⟩ : RecP) A c) (0, 0) _ HX.out Try.underlying55 rfl (by kernel_rfl) ?_; simp only [Act.put, List.setIfInBounds_toArray, List.set_cons_zero, List.set_cons_succ]))
    refine (rchk_calls (⟨(q : Int), (d : Int), vi, vg, vn, vl, B kt, vi, (o : Int), (ln : Int), B dg, ⟨#[]⟩, 0, 0⟩ : RecP) A c w4 (Kd.R_reads' HO.out).2.2 HL9.out (Kd.R_reads' HO.out).2.1).mono ?_
    rintro e w5 ⟨rfl, b1⟩
    replace HX := Aside0.mk (HX.out.keep b1)
    replace HB := Aside0.mk (below2 HB.out HB.out.size b1)
    replace HO := Aside0.mk (Kd.R_below HO.out b1)
    clear b1
    replace HR := Aside0.mk (HR.out.keep HB.out)
    obtain ⟨ck, hck⟩ : ∃ z, chkR (⟨(q : Int), (d : Int), vi, vg, vn, vl, B kt, vi, (o : Int), (ln : Int), B dg, ⟨#[]⟩, 0, 0⟩ : RecP) = z := ⟨_, rfl⟩
    rw [hck] at HRES ⊢
    clear hck
    by_cases h2 : ck = 0
    case neg =>
      replace HRES := Lib.hid (HRES.out.trans (if_neg (fun h => h2 h.2.2)))
      have h4 : (ck != 0) = true := bne_iff_ne.mpr h2
      go_wp2_with (first | (refine gate_ (.store 55 (.tmp 2) (.tmp 83)) rfl ?_; refine wpList_store_row rfl 55 (.tmp 2) (.tmp 83) rfl w.heap.size (rv zeroR none 0) rfl rfl 55 _ HR.out (by kernel_rfl) rfl (rv_one _ _ _) ?_; simp only [Act.put, List.setIfInBounds_toArray, List.set_cons_zero, List.set_cons_succ]))
      refine bodyPost_ret (results_row_tmp rfl _ _ w.heap.size 55 (rv zeroR none 0) (0, 0) _ rfl (setRow_heap _ _ _ _ _ _ HR.out) Try.underlying55 rfl (by kernel_rfl)) rfl ?_
      rw [HRES.out]
      exact ⟨none, 0, rfl, Kd.R_nil _ _ _ _ _, below_setRow' (HBv.out.trans (HB.out.mono HBv.out.size)) (Nat.le_refl _) _⟩
    subst h2
    replace HRES := Lib.hid (HRES.out.trans (if_pos (by simp [hib])))
    go_wp2_with (first | (refine gate_ (.load 55 (.tmp 8)) rfl ?_; refine wpList_load_row rfl 55 (.tmp 8) rfl gx rfl _ (rv (⟨(q : Int), (d : Int), vi, vg, vn, vl, B kt, vi, (o : Int), (ln : Int), B dg, ⟨#[]⟩, 0, 0⟩ : RecP) A c) (0, 0) _ HX.out Try.underlying55 rfl (by kernel_rfl) ?_; simp only [Act.put, List.setIfInBounds_toArray, List.set_cons_zero, List.set_cons_succ]) | (refine gate_ (.store 55 (.tmp 2) (.tmp 84)) rfl ?_; refine wpList_store_row rfl 55 (.tmp 2) (.tmp 84) rfl w.heap.size (rv (⟨(q : Int), (d : Int), vi, vg, vn, vl, B kt, vi, (o : Int), (ln : Int), B dg, ⟨#[]⟩, 0, 0⟩ : RecP) A c) rfl rfl 55 _ HR.out (by kernel_rfl) rfl (rv_one _ _ _) ?_; simp only [Act.put, List.setIfInBounds_toArray, List.set_cons_zero, List.set_cons_succ]))
    refine bodyPost_ret (results_row_tmp rfl _ _ w.heap.size 55 (rv (⟨(q : Int), (d : Int), vi, vg, vn, vl, B kt, vi, (o : Int), (ln : Int), B dg, ⟨#[]⟩, 0, 0⟩ : RecP) A c) (0, 0) _ rfl (setRow_heap _ _ _ _ _ _ HR.out) Try.underlying55 rfl (by kernel_rfl)) rfl ?_
    rw [HRES.out]
    have hO : Kd.R k83 83 (w5.setRow w.heap.size (rv (⟨(q : Int), (d : Int), vi, vg, vn, vl, B kt, vi, (o : Int), (ln : Int), B dg, ⟨#[]⟩, 0, 0⟩ : RecP) A c)) bz (fun k => bz ≤ k) (.slice A vl.length c) vl := Kd.R_step HO.out (fun k hk _ => setRow_other w5 w.heap.size k _ (by omega))
    exact ⟨A, c, rfl, Kd.R_mono (Kd.R_lower hO (by omega)) (fun k hk => by omega), below_setRow' (HBv.out.trans (HB.out.mono HBv.out.size)) (Nat.le_refl _) _⟩
end Go.Proofs.Ytmfcbfgijimliaa
end
section
namespace Go.Proofs.Ytmfcbfgijimliaa
open Go.RowKit Q Go.Proofs.YtmfcbfgijimliaaW.PrintWords Go.Proofs.YtmfcbfgijimliaaW.PrintLast
set_option linter.unusedSimpArgs false
theorem enc2K (a b : Nat) : encK [a, b] 2 = enc a ++ enc b := by simp [encK]
theorem enc3K (a b c : Nat) : encK [a, b, c] 3 = enc a ++ enc b ++ enc c := by simp [encK]
def locsC : List S83 → List UInt8
  | [] => []
  | x :: r => enc x.f0.toNat ++ (enc x.f1.toNat ++ locsC r)
theorem locsC_append : ∀ a b : List S83, locsC (a ++ b) = locsC a ++ locsC b
  | [], _ => rfl
  | x :: r, b => by
    show enc x.f0.toNat ++ (enc x.f1.toNat ++ locsC (r ++ b)) = _
    rw [locsC_append r b]
    simp [locsC]
theorem locsT_C (l : List S83) : ∀ k : Nat, k ≤ l.length → locsT l k = locsC (l.take k)
  | 0, _ => rfl
  | k + 1, h => by
    have hk : k < l.length := h
    rw [locsT, locsT_C l k (by omega), List.take_add_one, List.getElem?_eq_getElem hk, locsC_append, enc2K]
    have : rd_T83 l k = l[k] := by
      unfold rd_T83
      simp [List.getD, List.getElem?_eq_getElem hk]
    rw [this]
    simp [locsC]
theorem locsT_all (l : List S83) : locsT l l.length = locsC l := by rw [locsT_C l _ (Nat.le_refl _), List.take_of_length_le (Nat.le_refl _)]
theorem locsN_back (r : List UInt8) : ∀ l : List S83, (∀ x ∈ l, (0 ≤ x.f0 ∧ x.f0 ≤ 11) ∧ (0 ≤ x.f1 ∧ x.f1 ≤ 47)) → locsN l.length (locsC l ++ r, 0) = (l, r, 0)
  | [], _ => rfl
  | x :: t, h => by
    have hx := h x (List.mem_cons_self ..)
    have ih := locsN_back r t (fun y hy => h y (List.mem_cons_of_mem _ hy))
    have e1 := nx_enc x.f0.toNat (enc x.f1.toNat ++ (locsC t ++ r)) (by omega)
    have e2 := nx_enc x.f1.toNat (locsC t ++ r) (by omega)
    have e0 : locsC (x :: t) ++ r = enc x.f0.toNat ++ (enc x.f1.toNat ++ (locsC t ++ r)) := by simp [locsC]
    show (⟨((nx (locsC (x :: t) ++ r, 0)).1 : Int), ((nx (nx (locsC (x :: t) ++ r, 0)).2).1 : Int)⟩ :: (locsN t.length (nx (nx (locsC (x :: t) ++ r, 0)).2).2).1, (locsN t.length (nx (nx (locsC (x :: t) ++ r, 0)).2).2).2) = _
    rw [e0, e1]
    simp only
    rw [e2]
    simp only
    rw [ih]
    simp only
    rw [Int.toNat_of_nonneg hx.1.1, Int.toNat_of_nonneg hx.2.1]
theorem locsN_inv : ∀ (n : Nat) (s : List UInt8 × Int), (locsN n s).2.2 = 0 → s.2 = 0 ∧ s.1 = locsC (locsN n s).1 ++ (locsN n s).2.1
  | 0, s, h => ⟨h, rfl⟩
  | n + 1, s, h => by
    obtain ⟨h1, e1⟩ := locsN_inv n (nx (nx s).2).2 h
    obtain ⟨h2, e2⟩ := nx_inv (nx s).2 h1
    obtain ⟨h3, e3⟩ := nx_inv s h2
    refine ⟨h3, ?_⟩
    rw [e3, e2, e1]
    show _ = locsC (⟨((nx s).1 : Int), ((nx (nx s).2).1 : Int)⟩ :: (locsN n (nx (nx s).2).2).1) ++ (locsN n (nx (nx s).2).2).2.1
    simp [locsC]
theorem tx_txt (s r : List UInt8) (h : s.length < 2 ^ 56) : tx (txt s ++ r, 0) = (s, r, 0) := by
  unfold tx
  simp only [if_true]
  exact tkT_txt s r h
theorem tx_inv2 (s : List UInt8 × Int) (h : (tx s).2.2 = 0) : s.2 = 0 ∧ s.1 = txt (tx s).1 ++ (tx s).2.1 := by
  unfold tx at h ⊢
  by_cases hs : s.2 = 0
  · rw [if_pos hs] at h ⊢
    exact ⟨hs, (tkT_inv (l := s.1) (s := (tkT s.1).1) (r := (tkT s.1).2.1) (by rw [← h])).1⟩
  · rw [if_neg hs] at h
    exact absurd h hs
theorem volS_back {i g n : Int} {l : List S83} (h : VolOk i g n l) (r : List UInt8) : volS (enc i.toNat ++ (enc g.toNat ++ (enc n.toNat ++ (locsC l ++ r))), 0) = ((i, g, n, l), r, 0) := by
  have hi := h.i
  have hg := h.g
  have hn := h.n
  have e1 := nx_enc i.toNat (enc g.toNat ++ (enc n.toNat ++ (locsC l ++ r))) (by omega)
  have e2 := nx_enc g.toNat (enc n.toNat ++ (locsC l ++ r)) (by omega)
  have e3 := nx_enc n.toNat (locsC l ++ r) (by omega)
  have e4 := locsN_back r l (by
    intro x hx
    obtain ⟨k, hk, rfl⟩ := List.getElem_of_mem hx
    have := h.locs k (by have := h.nine; omega)
    have hr : rd_T83 l k = l[k] := by
      unfold rd_T83
      simp [List.getD, List.getElem?_eq_getElem hk]
    rw [hr] at this
    exact this)
  rw [h.nine] at e4
  unfold volS
  rw [e1]
  simp only
  rw [e2]
  simp only
  rw [e3]
  simp only
  rw [e4]
  simp only
  rw [Int.toNat_of_nonneg hi.1, Int.toNat_of_nonneg hg.1, Int.toNat_of_nonneg hn.1]
theorem volS_inv (s : List UInt8 × Int) (h : (volS s).2.2 = 0) : s.2 = 0 ∧ s.1 = enc (volS s).1.1.toNat ++ (enc (volS s).1.2.1.toNat ++ (enc (volS s).1.2.2.1.toNat ++ (locsC (volS s).1.2.2.2 ++ (volS s).2.1))) := by
  obtain ⟨h1, e1⟩ := locsN_inv 9 (nx (nx (nx s).2).2).2 h
  obtain ⟨h2, e2⟩ := nx_inv _ h1
  obtain ⟨h3, e3⟩ := nx_inv _ h2
  obtain ⟨h4, e4⟩ := nx_inv _ h3
  refine ⟨h4, ?_⟩
  rw [e4, e3, e2, e1]
  rfl
theorem end_inv {s : List UInt8 × Int} (h : endE s = 0) : s.1 = [] ∧ s.2 = 0 := by
  unfold endE at h
  by_cases hs : s.1 = []
  · rw [if_pos hs] at h
    exact ⟨hs, h⟩
  · rw [if_neg hs] at h
    cases h
theorem rst_inv (s : List UInt8 × Int) (h : (rst s).2.2 = 0) : s.2 = 0 ∧ s.1 = (rst s).1 := by
  unfold rst at h ⊢
  by_cases hs : s.2 = 0
  · rw [if_pos hs]
    exact ⟨hs, rfl⟩
  · rw [if_neg hs] at h
    exact absurd h hs
theorem back_0 (q0 q2 q3 q4 : Int) (l : List S83) (q6 : ByteArray) (q7 q8 q9 : Int) (q10 q11 : ByteArray) (q12 q13 : Int) (h : chkR (⟨q0, 0, q2, q3, q4, l, q6, q7, q8, q9, q10, q11, q12, q13⟩ : RecP) = 0) : recT (⟨q0, 0, q2, q3, q4, l, q6, q7, q8, q9, q10, q11, q12, q13⟩ : RecP) = [83, 74] ++ (enc q0.toNat ++ (enc 0 ++ (enc q2.toNat ++ (enc q3.toNat ++ (enc q4.toNat ++ (locsC l ++ (txt q6.data.toList ++ (enc q8.toNat ++ (enc q9.toNat ++ q10.data.toList))))))))) ∧ recS (enc q0.toNat ++ (enc 0 ++ (enc q2.toNat ++ (enc q3.toNat ++ (enc q4.toNat ++ (locsC l ++ (txt q6.data.toList ++ (enc q8.toNat ++ (enc q9.toNat ++ q10.data.toList))))))))) = ((⟨q0, 0, q2, q3, q4, l, q6, q7, q8, q9, q10, q11, q12, q13⟩ : RecP), [], 0) := by
  obtain ⟨h0, hv, hk, h7, h8, h9, h10, hn⟩ := chk0_0 q0 q2 q3 q4 l q6 q7 q8 q9 q10 q11 q12 q13 h
  refine ⟨?_, ?_⟩
  · simp [recT, headT, volT, enc2K, enc3K, locsT_all]
  unfold recS
  rw [nx_enc _ _ (by omega)]
  simp only
  rw [nx_enc _ _ (by decide)]
  simp only
  unfold recK
  rw [if_neg (by decide), if_pos rfl]
  rw [volS_back hv]
  simp only
  rw [tx_txt _ _ (by have := (key_ok hk).1; omega)]
  simp only
  have hvn := hv.n
  rw [nx_enc _ _ (by omega)]
  simp only
  rw [nx_enc _ _ (by omega)]
  simp only [rst, if_true]
  rw [← hn]
  simp [namedP, B_eta, Int.toNat_of_nonneg h0.1, Int.toNat_of_nonneg h8.1, Int.toNat_of_nonneg h9.1, h7]
theorem back_1 (q0 q2 q3 q4 : Int) (l : List S83) (q6 : ByteArray) (q7 q8 q9 : Int) (q10 q11 : ByteArray) (q12 q13 : Int) (h : chkR (⟨q0, 1, q2, q3, q4, l, q6, q7, q8, q9, q10, q11, q12, q13⟩ : RecP) = 0) : recT (⟨q0, 1, q2, q3, q4, l, q6, q7, q8, q9, q10, q11, q12, q13⟩ : RecP) = [83, 74] ++ (enc q0.toNat ++ (enc 1 ++ (txt q11.data.toList ++ []))) ∧ recS (enc q0.toNat ++ (enc 1 ++ (txt q11.data.toList ++ []))) = ((⟨q0, 1, q2, q3, q4, l, q6, q7, q8, q9, q10, q11, q12, q13⟩ : RecP), [], 0) := by
  obtain ⟨h0, hk, hn⟩ := chk0_1 q0 q2 q3 q4 l q6 q7 q8 q9 q10 q11 q12 q13 h
  refine ⟨?_, ?_⟩
  · simp [recT, headT, volT, enc2K, enc3K, locsT_all]
  unfold recS
  rw [nx_enc _ _ (by omega)]
  simp only
  rw [nx_enc _ _ (by decide)]
  simp only
  unfold recK
  rw [if_pos rfl]
  rw [tx_txt _ _ (by have := (key_ok hk).1; omega)]
  simp only
  rw [← hn]
  simp [namedP, B_eta, Int.toNat_of_nonneg h0.1]
theorem back_2 (q0 q2 q3 q4 : Int) (l : List S83) (q6 : ByteArray) (q7 q8 q9 : Int) (q10 q11 : ByteArray) (q12 q13 : Int) (h : chkR (⟨q0, 2, q2, q3, q4, l, q6, q7, q8, q9, q10, q11, q12, q13⟩ : RecP) = 0) : recT (⟨q0, 2, q2, q3, q4, l, q6, q7, q8, q9, q10, q11, q12, q13⟩ : RecP) = [83, 74] ++ (enc q0.toNat ++ (enc 2 ++ (enc q2.toNat ++ (enc q3.toNat ++ (enc q4.toNat ++ (locsC l ++ ([]))))))) ∧ recS (enc q0.toNat ++ (enc 2 ++ (enc q2.toNat ++ (enc q3.toNat ++ (enc q4.toNat ++ (locsC l ++ ([]))))))) = ((⟨q0, 2, q2, q3, q4, l, q6, q7, q8, q9, q10, q11, q12, q13⟩ : RecP), [], 0) := by
  obtain ⟨h0, hv, hn⟩ := chk0_2 q0 q2 q3 q4 l q6 q7 q8 q9 q10 q11 q12 q13 h
  refine ⟨?_, ?_⟩
  · simp [recT, headT, volT, enc2K, enc3K, locsT_all]
  unfold recS
  rw [nx_enc _ _ (by omega)]
  simp only
  rw [nx_enc _ _ (by decide)]
  simp only
  unfold recK
  rw [if_neg (by decide), if_neg (by decide), if_pos rfl]
  rw [volS_back hv]
  rw [← hn]
  simp [namedP, Int.toNat_of_nonneg h0.1]
theorem back_3 (q0 q2 q3 q4 : Int) (l : List S83) (q6 : ByteArray) (q7 q8 q9 : Int) (q10 q11 : ByteArray) (q12 q13 : Int) (h : chkR (⟨q0, 3, q2, q3, q4, l, q6, q7, q8, q9, q10, q11, q12, q13⟩ : RecP) = 0) : recT (⟨q0, 3, q2, q3, q4, l, q6, q7, q8, q9, q10, q11, q12, q13⟩ : RecP) = [83, 74] ++ (enc q0.toNat ++ (enc 3 ++ (enc q2.toNat ++ (enc q3.toNat ++ (enc q4.toNat ++ (locsC l ++ (enc q12.toNat ++ (enc q13.toNat ++ [])))))))) ∧ recS (enc q0.toNat ++ (enc 3 ++ (enc q2.toNat ++ (enc q3.toNat ++ (enc q4.toNat ++ (locsC l ++ (enc q12.toNat ++ (enc q13.toNat ++ [])))))))) = ((⟨q0, 3, q2, q3, q4, l, q6, q7, q8, q9, q10, q11, q12, q13⟩ : RecP), [], 0) := by
  obtain ⟨h0, hv, hf, ht, _, hn⟩ := chk0_3 q0 q2 q3 q4 l q6 q7 q8 q9 q10 q11 q12 q13 h
  refine ⟨?_, ?_⟩
  · simp [recT, headT, volT, enc2K, enc3K, locsT_all]
  unfold recS
  rw [nx_enc _ _ (by omega)]
  simp only
  rw [nx_enc _ _ (by decide)]
  simp only
  unfold recK
  rw [if_neg (by decide), if_neg (by decide), if_neg (by decide), if_pos rfl]
  rw [volS_back hv]
  simp only
  rw [nx_enc _ _ (by omega)]
  simp only
  rw [nx_enc _ _ (by omega)]
  rw [← hn]
  simp [namedP, Int.toNat_of_nonneg h0.1, Int.toNat_of_nonneg hf.1, Int.toNat_of_nonneg ht.1]
theorem recS_back (r : RecP) (h : chkR r = 0) : ∃ p, recT r = [83, 74] ++ p ∧ recS p = (r, [], 0) := by
  have hk := kind_chk r h
  obtain ⟨q0, q1, q2, q3, q4, l, q6, q7, q8, q9, q10, q11, q12, q13⟩ := r
  rcases hk with e | e | e | e
  · change q1 = 0 at e; subst e; exact ⟨_, back_0 q0 q2 q3 q4 l q6 q7 q8 q9 q10 q11 q12 q13 h⟩
  · change q1 = 1 at e; subst e; exact ⟨_, back_1 q0 q2 q3 q4 l q6 q7 q8 q9 q10 q11 q12 q13 h⟩
  · change q1 = 2 at e; subst e; exact ⟨_, back_2 q0 q2 q3 q4 l q6 q7 q8 q9 q10 q11 q12 q13 h⟩
  · change q1 = 3 at e; subst e; exact ⟨_, back_3 q0 q2 q3 q4 l q6 q7 q8 q9 q10 q11 q12 q13 h⟩
theorem cutJ_SJ (p : List UInt8) : cutJ ([83, 74] ++ p) = (p, true) := by
  unfold cutJ
  rw [if_pos (by simp)]
  rfl
theorem recR_back (r : RecP) (h : chkR r = 0) : recR (sealL (recT r)) = (r, 0) := by
  obtain ⟨p, hp, hs⟩ := recS_back r h
  have hu : openL (sealL (recT r)) = (B (recT r), 0) := openL_seal _
  have hc : cutJ (openL (sealL (recT r))).1.data.toList = (p, true) := by
    rw [hu]
    show cutJ (recT r) = _
    rw [hp, cutJ_SJ]
  unfold recR
  rw [if_pos (show (openL (sealL (recT r))).2 = 0 by rw [hu])]
  rw [if_pos (show _ ∧ _ ∧ _ from ⟨by rw [hc], by rw [hc]; simp only; rw [hs]; rfl, by rw [hc]; simp only; rw [hs]; exact h⟩), hc]
  simp only
  rw [hs]
def recK0 (q : Nat) (s : List UInt8 × Int) : RecP × List UInt8 × Int := (⟨q, (0 : Nat), (volS s).1.1, (volS s).1.2.1, (volS s).1.2.2.1, (volS s).1.2.2.2, B (tx (volS s).2).1, (volS s).1.1, (nx (tx (volS s).2).2).1, (nx (nx (tx (volS s).2).2).2).1, B (rst (nx (nx (tx (volS s).2).2).2).2).1, ⟨#[]⟩, 0, 0⟩, (rst (nx (nx (tx (volS s).2).2).2).2).2)
theorem recK_0 (q : Nat) (s : List UInt8 × Int) : recK q 0 s = recK0 q s := by
  unfold recK
  rw [if_neg (by decide), if_pos rfl]
  rfl
theorem recK_1 (q : Nat) (s : List UInt8 × Int) : recK q 1 s = (⟨q, (1 : Nat), 0, 0, 0, [], ⟨#[]⟩, 0, 0, 0, ⟨#[]⟩, B (tx s).1, 0, 0⟩, (tx s).2) := by
  unfold recK
  rw [if_pos rfl]
theorem recK_2 (q : Nat) (s : List UInt8 × Int) : recK q 2 s = (⟨q, (2 : Nat), (volS s).1.1, (volS s).1.2.1, (volS s).1.2.2.1, (volS s).1.2.2.2, ⟨#[]⟩, 0, 0, 0, ⟨#[]⟩, ⟨#[]⟩, 0, 0⟩, (volS s).2) := by
  unfold recK
  rw [if_neg (by decide), if_neg (by decide), if_pos rfl]
theorem recK_3 (q : Nat) (s : List UInt8 × Int) : recK q 3 s = (⟨q, (3 : Nat), (volS s).1.1, (volS s).1.2.1, (volS s).1.2.2.1, (volS s).1.2.2.2, ⟨#[]⟩, 0, 0, 0, ⟨#[]⟩, ⟨#[]⟩, (nx (volS s).2).1, (nx (nx (volS s).2).2).1⟩, (nx (nx (volS s).2).2).2) := by
  unfold recK
  rw [if_neg (by decide), if_neg (by decide), if_neg (by decide), if_pos rfl]
theorem recK_inv (q d : Nat) (s : List UInt8 × Int) (he : endE (recK q d s).2 = 0) (hd : (recK q d s).1.kind = d) (hc : chkR (recK q d s).1 = 0) : s.2 = 0 ∧ recT (recK q d s).1 = [83, 74] ++ (enc q ++ (enc d ++ s.1)) := by
  have hk := kind_chk _ hc
  rw [hd] at hk
  obtain ⟨e1, e2⟩ := end_inv he
  clear hd
  have hz : d = 0 ∨ d = 1 ∨ d = 2 ∨ d = 3 := by omega
  clear hk
  clear he hc
  rcases hz with rfl | rfl | rfl | rfl
  · rw [recK_0] at e1 e2 ⊢
    obtain ⟨a5, b5⟩ := rst_inv (nx (nx (tx (volS s).2).2).2).2 e2
    obtain ⟨a4, b4⟩ := nx_inv (nx (tx (volS s).2).2).2 a5
    obtain ⟨a3, b3⟩ := nx_inv (tx (volS s).2).2 a4
    obtain ⟨a2, b2⟩ := tx_inv2 (volS s).2 a3
    obtain ⟨a1, b1⟩ := volS_inv s a2
    refine ⟨a1, ?_⟩
    rw [b1, b2, b3, b4, b5]
    clear a1 a2 a3 a4 a5 b1 b2 b3 b4 b5 e1 e2
    unfold recK0
    simp only [recT, headT, volT, enc2K, enc3K, locsT_all, B_data, Int.toNat_natCast]
    rw [if_neg (by decide), if_pos (by decide)]
    simp only [List.append_assoc]
  · rw [recK_1] at e1 e2 ⊢
    obtain ⟨a2, b2⟩ := tx_inv2 s e2
    refine ⟨a2, ?_⟩
    simp only at e1
    rw [b2, e1]
    simp only [recT, headT, volT, enc2K, enc3K, locsT_all, B_data, Int.toNat_natCast]
    rw [if_pos (by decide)]
    simp only [List.append_assoc, List.append_nil]
  · rw [recK_2] at e1 e2 ⊢
    obtain ⟨a1, b1⟩ := volS_inv s e2
    refine ⟨a1, ?_⟩
    simp only at e1
    rw [b1, e1]
    simp only [recT, headT, volT, enc2K, enc3K, locsT_all, B_data, Int.toNat_natCast]
    rw [if_neg (by decide), if_neg (by decide), if_neg (by decide)]
    simp only [List.append_assoc, List.append_nil]
  · rw [recK_3] at e1 e2 ⊢
    obtain ⟨a4, b4⟩ := nx_inv (nx (volS s).2).2 e2
    obtain ⟨a3, b3⟩ := nx_inv (volS s).2 a4
    obtain ⟨a1, b1⟩ := volS_inv s a3
    refine ⟨a1, ?_⟩
    simp only at e1
    rw [b1, b3, b4, e1]
    simp only [recT, headT, volT, enc2K, enc3K, locsT_all, B_data, Int.toNat_natCast]
    rw [if_neg (by decide), if_neg (by decide), if_pos (by decide)]
    simp only [List.append_assoc, List.append_nil]
theorem recS_inv (l : List UInt8) (he : endE (recS l).2 = 0) (hc : chkR (recS l).1 = 0) : recT (recS l).1 = [83, 74] ++ l := by
  have hd : (recS l).1.kind = ((nx (nx (l, 0)).2).1 : Int) := by
    unfold recS recK
    split
    · rfl
    · split
      · rfl
      · split
        · rfl
        · split <;> rfl
  obtain ⟨h1, e1⟩ := recK_inv _ _ _ he hd hc
  obtain ⟨h2, e2⟩ := nx_inv (nx (l, 0)).2 h1
  obtain ⟨_, e3⟩ := nx_inv (l, 0) h2
  have e3' : l = enc (nx (l, 0)).1 ++ (nx (l, 0)).2.1 := e3
  show recT (recK _ _ _).1 = _
  rw [e1, ← e2, ← e3']
theorem recR_inv (m : List UInt8) (h : (recR m).2 = 0) : recR m = ((recR m).1, 0) ∧ m = sealL (recT (recR m).1) ∧ chkR (recR m).1 = 0 := by
  unfold recR at h ⊢
  by_cases ho : (openL m).2 = 0
  · rw [if_pos ho] at h ⊢
    by_cases hc : (cutJ (openL m).1.data.toList).2 = true ∧ endE (recS (cutJ (openL m).1.data.toList).1).2 = 0 ∧ chkR (recS (cutJ (openL m).1.data.toList).1).1 = 0
    · rw [if_pos hc]
      refine ⟨rfl, ?_, hc.2.2⟩
      have hi := recS_inv _ hc.2.1 hc.2.2
      simp only
      rw [hi]
      rcases openL_cases m with ⟨_, e⟩ | ⟨_, _, e⟩ | ⟨u, hu, e⟩
      · rw [e] at ho; cases ho
      · rw [e] at ho; cases ho
      · have hc1 := hc.1
        rw [e] at hc1 ⊢
        simp only [B_data] at hc1 ⊢
        rw [hu]
        congr 1
        unfold cutJ at hc1 ⊢
        by_cases h2 : u.take 2 = [83, 74]
        · rw [if_pos h2]
          simp only
          rw [← h2, List.take_append_drop]
        · rw [if_neg h2] at hc1
          cases hc1
    · rw [if_neg hc] at h
      cases h
  · rw [if_neg ho] at h
    exact absurd h ho
end Go.Proofs.Ytmfcbfgijimliaa
end
section
namespace Go.Proofs.Ytmfcbfgijimliaa
open Go.RowKit Q Go.Proofs.YtmfcbfgijimliaaW.PrintWords Go.Proofs.YtmfcbfgijimliaaW.PrintLast Go.Proofs.YtmfcbfgijimliaaW.PrintMore
theorem write_rv (r : RecP) (A : Option Addr) (c : Nat) (w : World) (h : RV w r A c) (hl : r.locs.length ≤ 1000) : Calls Try.prog 24 #[.agg (rv r A c)] w fun e w' => e = .returned (.tuple #[.string (recW r).1, .int .i64 (recW r).2]) ∧ Below w.heap.size w w' := recwrite_calls r A c w h.1 hl h.2
theorem same_rv (a b : RecP) (A D : Option Addr) (c d : Nat) (w : World) (ha : RV w a A c) (hb : RV w b D d) (h1 : a.locs.length ≤ 1000) : Calls Try.prog 29 #[.agg (rv a A c), .agg (rv b D d)] w fun e w' => e = .returned (.bool (decide (a = b))) ∧ Below w.heap.size w w' := sames_calls a b A D c d w ha.1 hb.1 ha.2 hb.2 h1
theorem rsame_rv (a b : RecP) (A D : Option Addr) (c d : Nat) (w : World) (ha : RV w a A c) (hb : RV w b D d) (h1 : a.locs.length ≤ 1000) : Calls Try.prog 27 #[.agg (rv a A c), .agg (rv b D d)] w fun e w' => e = .returned (.bool (decide (a = b))) ∧ Below w.heap.size w w' := rsames_calls a b A D c d w ha.1 hb.1 ha.2 hb.2 h1
theorem recR_locs (m : List UInt8) : (recR m).1.locs.length ≤ 9 := by
  unfold recR
  split
  · split
    · exact recS_locs _
    · exact Nat.zero_le _
  · exact Nat.zero_le _
theorem recW_ok {r : RecP} (h : (recW r).2 = 0) : chkR r = 0 ∧ recW r = (B (sealL (recT r)), 0) := by
  unfold recW at h ⊢
  by_cases hc : chkR r = 0
  · exact ⟨hc, if_pos hc⟩
  · rw [if_neg hc] at h
    exact absurd h hc
theorem vol_mem {i g n : Int} {l : List S83} (h : VolOk i g n l) : ∀ x ∈ l, (0 ≤ x.f0 ∧ x.f0 ≤ 11) ∧ (0 ≤ x.f1 ∧ x.f1 ≤ 47) := by
  intro x hx
  obtain ⟨k, hk, rfl⟩ := List.getElem_of_mem hx
  have := h.locs k (by have := h.nine; omega)
  have hr : rd_T83 l k = l[k] := by
    unfold rd_T83
    simp [List.getD, List.getElem?_eq_getElem hk]
  rwa [hr] at this
theorem locsC_len : ∀ l : List S83, (∀ x ∈ l, (0 ≤ x.f0 ∧ x.f0 ≤ 11) ∧ (0 ≤ x.f1 ∧ x.f1 ≤ 47)) → (locsC l).length = 2 * l.length
  | [], _ => rfl
  | x :: r, h => by
    have hx := h x (List.mem_cons_self ..)
    have ih := locsC_len r (fun y hy => h y (List.mem_cons_of_mem _ hy))
    show (enc x.f0.toNat ++ (enc x.f1.toNat ++ locsC r)).length = _
    rw [enc_lt (by omega), enc_lt (by omega), List.length_append, List.length_append, ih]
    simp only [List.length_cons, List.length_nil]
    omega
theorem lenT_0 (q0 q2 q3 q4 : Int) (l : List S83) (q6 : ByteArray) (q7 q8 q9 : Int) (q10 q11 : ByteArray) (q12 q13 : Int) (h : chkR (⟨q0, 0, q2, q3, q4, l, q6, q7, q8, q9, q10, q11, q12, q13⟩ : RecP) = 0) : (recT (⟨q0, 0, q2, q3, q4, l, q6, q7, q8, q9, q10, q11, q12, q13⟩ : RecP)).length ≤ 148 := by
  rw [(back_0 q0 q2 q3 q4 l q6 q7 q8 q9 q10 q11 q12 q13 h).1]
  obtain ⟨h0, hv, hk, h7, h8, h9, h10, _⟩ := chk0_0 q0 q2 q3 q4 l q6 q7 q8 q9 q10 q11 q12 q13 h
  have ev := locsC_len l (vol_mem hv)
  rw [hv.nine] at ev
  have hi := hv.i
  have hg := hv.g
  have hn := hv.n
  have e0 := enc_len8 (m := q0.toNat) (by omega)
  have e1 := enc_len8 (m := 0) (by omega)
  have e2 := enc_len8 (m := q2.toNat) (by omega)
  have e3 := enc_len8 (m := q3.toNat) (by omega)
  have e4 := enc_len8 (m := q4.toNat) (by omega)
  have e5 := enc_len8 (m := q8.toNat) (by omega)
  have e6 := enc_len8 (m := q9.toNat) (by omega)
  have hk2 := (key_ok hk).1
  have ht := txt_le q6.data.toList (by omega)
  have hd : q10.data.toList.length = q10.size := size_data _
  simp only [List.length_append, List.length_cons, List.length_nil, ev]
  omega
theorem lenT_1 (q0 q2 q3 q4 : Int) (l : List S83) (q6 : ByteArray) (q7 q8 q9 : Int) (q10 q11 : ByteArray) (q12 q13 : Int) (h : chkR (⟨q0, 1, q2, q3, q4, l, q6, q7, q8, q9, q10, q11, q12, q13⟩ : RecP) = 0) : (recT (⟨q0, 1, q2, q3, q4, l, q6, q7, q8, q9, q10, q11, q12, q13⟩ : RecP)).length ≤ 148 := by
  rw [(back_1 q0 q2 q3 q4 l q6 q7 q8 q9 q10 q11 q12 q13 h).1]
  obtain ⟨h0, hk, _⟩ := chk0_1 q0 q2 q3 q4 l q6 q7 q8 q9 q10 q11 q12 q13 h
  have e0 := enc_len8 (m := q0.toNat) (by omega)
  have e1 := enc_len8 (m := 1) (by omega)
  have hk2 := (key_ok hk).1
  have ht := txt_le q11.data.toList (by omega)
  simp only [List.length_append, List.length_cons, List.length_nil]
  omega
theorem lenT_2 (q0 q2 q3 q4 : Int) (l : List S83) (q6 : ByteArray) (q7 q8 q9 : Int) (q10 q11 : ByteArray) (q12 q13 : Int) (h : chkR (⟨q0, 2, q2, q3, q4, l, q6, q7, q8, q9, q10, q11, q12, q13⟩ : RecP) = 0) : (recT (⟨q0, 2, q2, q3, q4, l, q6, q7, q8, q9, q10, q11, q12, q13⟩ : RecP)).length ≤ 148 := by
  rw [(back_2 q0 q2 q3 q4 l q6 q7 q8 q9 q10 q11 q12 q13 h).1]
  obtain ⟨h0, hv, _⟩ := chk0_2 q0 q2 q3 q4 l q6 q7 q8 q9 q10 q11 q12 q13 h
  have ev := locsC_len l (vol_mem hv)
  rw [hv.nine] at ev
  have hi := hv.i
  have hg := hv.g
  have hn := hv.n
  have e0 := enc_len8 (m := q0.toNat) (by omega)
  have e1 := enc_len8 (m := 2) (by omega)
  have e2 := enc_len8 (m := q2.toNat) (by omega)
  have e3 := enc_len8 (m := q3.toNat) (by omega)
  have e4 := enc_len8 (m := q4.toNat) (by omega)
  simp only [List.length_append, List.length_cons, List.length_nil, ev]
  omega
theorem lenT_3 (q0 q2 q3 q4 : Int) (l : List S83) (q6 : ByteArray) (q7 q8 q9 : Int) (q10 q11 : ByteArray) (q12 q13 : Int) (h : chkR (⟨q0, 3, q2, q3, q4, l, q6, q7, q8, q9, q10, q11, q12, q13⟩ : RecP) = 0) : (recT (⟨q0, 3, q2, q3, q4, l, q6, q7, q8, q9, q10, q11, q12, q13⟩ : RecP)).length ≤ 148 := by
  rw [(back_3 q0 q2 q3 q4 l q6 q7 q8 q9 q10 q11 q12 q13 h).1]
  obtain ⟨h0, hv, hf, ht, _, _⟩ := chk0_3 q0 q2 q3 q4 l q6 q7 q8 q9 q10 q11 q12 q13 h
  have ev := locsC_len l (vol_mem hv)
  rw [hv.nine] at ev
  have hi := hv.i
  have hg := hv.g
  have hn := hv.n
  have e0 := enc_len8 (m := q0.toNat) (by omega)
  have e1 := enc_len8 (m := 3) (by omega)
  have e2 := enc_len8 (m := q2.toNat) (by omega)
  have e3 := enc_len8 (m := q3.toNat) (by omega)
  have e4 := enc_len8 (m := q4.toNat) (by omega)
  have e5 := enc_len8 (m := q12.toNat) (by omega)
  have e6 := enc_len8 (m := q13.toNat) (by omega)
  simp only [List.length_append, List.length_cons, List.length_nil, ev]
  omega
theorem lenT (r : RecP) (h : chkR r = 0) : (recT r).length ≤ 148 := by
  have hk := kind_chk r h
  obtain ⟨q0, q1, q2, q3, q4, l, q6, q7, q8, q9, q10, q11, q12, q13⟩ := r
  rcases hk with e | e | e | e
  · change q1 = 0 at e; subst e; exact lenT_0 q0 q2 q3 q4 l q6 q7 q8 q9 q10 q11 q12 q13 h
  · change q1 = 1 at e; subst e; exact lenT_1 q0 q2 q3 q4 l q6 q7 q8 q9 q10 q11 q12 q13 h
  · change q1 = 2 at e; subst e; exact lenT_2 q0 q2 q3 q4 l q6 q7 q8 q9 q10 q11 q12 q13 h
  · change q1 = 3 at e; subst e; exact lenT_3 q0 q2 q3 q4 l q6 q7 q8 q9 q10 q11 q12 q13 h
theorem recW_len (r : RecP) : (recW r).1.size ≤ 152 := by
  unfold recW
  split
  · rename_i h
    have := lenT r h
    rw [B_size, sealL_len]
    omega
  · rw [B_size]
    exact Nat.zero_le _
end Go.Proofs.Ytmfcbfgijimliaa
end
