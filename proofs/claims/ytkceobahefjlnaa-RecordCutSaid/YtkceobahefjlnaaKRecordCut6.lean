/- Lemmas for the law RecordCut, merged out of several texts and cut down to what it names, by a program of this session (some of the first ones are of the words that print.sh wrote for this claim). -/
import Derived.Test.YtkceobahefjlnaaKRecordCut1
import Derived.Test.YtkceobahefjlnaaKRecordCut2
import Derived.Test.YtkceobahefjlnaaKRecordCut3
import Derived.Test.YtkceobahefjlnaaKRecordCut4
import Derived.Test.YtkceobahefjlnaaKRecordCut5
set_option linter.unusedVariables false
set_option linter.unusedSimpArgs false
section
/- sluicegateref11.Check: its walk, kind by kind. -/
namespace Go.Proofs.Ytkceobahefjlnaa
open Go.RowKit Q Go.Proofs.YtkceobahefjlnaaW.PrintWords Go.Proofs.YtkceobahefjlnaaW.PrintLast Go.Proofs.YtkceobahefjlnaaW.PrintMore
set_option linter.unusedSimpArgs false
theorem rvolc (V G N : Int) (A : Option Addr) (c : Nat) (l : List S67) (w : World) (hr : Kd.C k67 w A l.length l) (hc : l.length ≤ c) : Calls Try.prog 17 #[.agg #[.int .i64 V, .int .i64 G, .int .i64 N, .slice A l.length c]] w fun e w' => e = .returned (.bool (volP V G N l)) ∧ Below w.heap.size w w' :=
  sluicegateref11_Volume.calls 120 V G N A c l _ w hr hc (rvol_f V G N l 120 (Nat.le_refl _))
theorem keyc (s : ByteArray) (hs : s.size ≤ 140737488355328) (w : World) : Calls Try.prog 34 #[.string s] w fun e w' => e = .returned (.bool (plainK s.data.toList)) ∧ Below w.heap.size w w' := by
  have h := key_f s.data.toList (by rw [size_data]; exact hs) (s.size + 1) (by rw [size_data]; omega)
  rw [B_eta] at h
  refine (sluicegateref08_Key.calls (s.size + 1) s _ w h).mono ?_
  rintro e w' ⟨rfl, hd⟩
  exact ⟨rfl, hd.below⟩
theorem numc (n : Int) (w : World) : Calls Try.prog 35 #[.int .i64 n] w fun e w' => e = .returned (.bool (inB n 1099511627776)) ∧ Below w.heap.size w w' := by
  refine (sluicegateref11_number.calls n _ w (num_f n)).mono ?_
  rintro e w' ⟨rfl, hd⟩
  exact ⟨rfl, hd.below⟩
theorem vol_len {id gen len : Int} {l : List S67} (h : volP id gen len l = true) : 0 ≤ len ∧ len ≤ 384 := by
  unfold volP at h
  simp only [Bool.and_eq_true] at h
  have := h.2.2.2.1
  unfold inB at this
  simp only [Bool.and_eq_true, decide_eq_true_eq] at this
  exact this
theorem rform_0 (q0 q2 q3 q4 : Int) (A : Option Addr) (c : Nat) (l : List S67) (q6 : ByteArray) (q7 q8 q9 : Int) (q10 q11 : ByteArray) (q12 q13 : Int) : chkR (⟨q0, 0, q2, q3, q4, l, q6, q7, q8, q9, q10, q11, q12, q13⟩ : RecP) = (if decide (q0 < 0) = true then 1 else (if decide (63 < q0) = true then 1 else (if volR (⟨q0, 0, q2, q3, q4, l, q6, q7, q8, q9, q10, q11, q12, q13⟩ : RecP) = true then (if plainK q6.data.toList = true then (if (q7 == q2) = true then (if decide (q8 < 0) = true then 1 else (if decide (q9 < 0) = true then 1 else (if decide (384 < q8) = true then 1 else (if decide (384 < q9) = true then 1 else (if decide (q4 < wrap64 (q8 + q9)) = true then 1 else (if ((q10.size : Int) == 32) = true then (finP (⟨q0, 0, q2, q3, q4, l, q6, q7, q8, q9, q10, q11, q12, q13⟩ : RecP)) else 1)))))) else 1) else 11) else 1))) := by
  rw [show chkR (⟨q0, 0, q2, q3, q4, l, q6, q7, q8, q9, q10, q11, q12, q13⟩ : RecP) = if inB q0 63 = true then (if volR (⟨q0, 0, q2, q3, q4, l, q6, q7, q8, q9, q10, q11, q12, q13⟩ : RecP) = true then (if plainK q6.data.toList = true then (if (q7 == q2) = true then (if inB q8 q4 = true then (if inB q9 (wrap64 (q4 - q8)) = true then (if ((q10.size : Int) == 32) = true then finP (⟨q0, 0, q2, q3, q4, l, q6, q7, q8, q9, q10, q11, q12, q13⟩ : RecP) else 1) else 1) else 1) else 1) else 11) else 1) else 1 from rfl]
  generalize finP (⟨q0, 0, q2, q3, q4, l, q6, q7, q8, q9, q10, q11, q12, q13⟩ : RecP) = z
  have hv : volR (⟨q0, 0, q2, q3, q4, l, q6, q7, q8, q9, q10, q11, q12, q13⟩ : RecP) = true → 0 ≤ q4 ∧ q4 ≤ 384 := fun h => vol_len h
  generalize volR (⟨q0, 0, q2, q3, q4, l, q6, q7, q8, q9, q10, q11, q12, q13⟩ : RecP) = v at hv
  generalize plainK q6.data.toList = p
  generalize (q7 == q2) = e1
  generalize ((q10.size : Int) == 32) = e2
  cases v <;> cases p <;> cases e1 <;> cases e2 <;> simp only [inB, wrap64, Bool.and_eq_true, decide_eq_true_eq, Bool.false_eq_true, if_false, if_true, true_implies, forall_const] at * <;> (repeat' split) <;> first | rfl | (exfalso; omega)
set_option maxRecDepth 100000 in
set_option maxHeartbeats 4000000 in
theorem refchk_0 (q0 q2 q3 q4 : Int) (A : Option Addr) (c : Nat) (l : List S67) (q6 : ByteArray) (q7 q8 q9 : Int) (q10 q11 : ByteArray) (q12 q13 : Int) (w : World) (hr : Kd.C k67 w A l.length l) (hl : l.length ≤ 1000) (hc : l.length ≤ c) (hs6 : q6.size ≤ 140737488355328) (hs11 : q11.size ≤ 140737488355328) : Calls Try.prog 15 #[.agg #[.int .i64 q0, .int .i64 0, .int .i64 q2, .int .i64 q3, .int .i64 q4, (.slice A l.length c), .string q6, .int .i64 q7, .int .i64 q8, .int .i64 q9, .string q10, .string q11, .int .i64 q12, .int .i64 q13]] w fun e w' => e = .returned (.int .i64 (chkR (⟨q0, 0, q2, q3, q4, l, q6, q7, q8, q9, q10, q11, q12, q13⟩ : RecP))) ∧ Below w.heap.size w w' := by
  have hu0 := Try.underlying28
  have hu1 := Try.underlying34
  have hu2 := Try.underlying24
  have hu3 := Try.underlying26
  have hu4 := Try.underlying67
  have HF := Lib.hid (rform_0 q0 q2 q3 q4 A c l q6 q7 q8 q9 q10 q11 q12 q13)
  have HC := Lib.hid hr
  have HL := Lib.hid hl
  have HCC := Lib.hid hc
  have HS6 := Lib.hid hs6
  have HS11 := Lib.hid hs11
  clear hr hl hc hs6 hs11
  have HB : Aside0 (Below w.heap.size w (w.alloc (.cells #[.int .i64 q0, .int .i64 0, .int .i64 q2, .int .i64 q3, .int .i64 q4, (.slice A l.length c), .string q6, .int .i64 q7, .int .i64 q8, .int .i64 q9, .string q10, .string q11, .int .i64 q12, .int .i64 q13] 28))) := ⟨below_alloc (Below.refl _ _) _⟩
  have HR : Aside0 (Blk (w.alloc (.cells #[.int .i64 q0, .int .i64 0, .int .i64 q2, .int .i64 q3, .int .i64 q4, (.slice A l.length c), .string q6, .int .i64 q7, .int .i64 q8, .int .i64 q9, .string q10, .string q11, .int .i64 q12, .int .i64 q13] 28)) w.heap.size #[.int .i64 q0, .int .i64 0, .int .i64 q2, .int .i64 q3, .int .i64 q4, (.slice A l.length c), .string q6, .int .i64 q7, .int .i64 q8, .int .i64 q9, .string q10, .string q11, .int .i64 q12, .int .i64 q13] 28) := ⟨Blk.new w _ _⟩
  obtain ⟨d0, d1, d2, d3, d4, d5, d6, d7, d8, d9, d10, d11, d12, d13⟩ := cells14 HR.out
  go_enter Try.func15, Try.ntmps15
  cases h0 : decide (q0 < 0) with
  | true =>
    go_wp2_with fail
    go_ret
    exact ⟨by rw [HF.out, if_pos h0]; rfl, HB.out⟩
  | false =>
    cases h1 : decide (63 < q0) with
    | true =>
      go_wp2_with fail
      go_ret
      exact ⟨by rw [HF.out, if_neg (by rw [h0]; decide), if_pos h1]; rfl, HB.out⟩
    | false =>
      cases h2 : volR (⟨q0, 0, q2, q3, q4, l, q6, q7, q8, q9, q10, q11, q12, q13⟩ : RecP) with
      | false =>
        go_wp2_with fail
        clear d0 d1 d2 d3 d4 d5 d6 d7 d8 d9 d10 d11 d12 d13
        refine (rvolc q2 q3 q4 A c l _ (Kd.C_below HC.out HB.out) HCC.out).mono ?_
        rintro e w1 ⟨rfl, b1⟩
        rw [show volP q2 q3 q4 l = false from h2]
        replace HB := Aside0.mk (below2 HB.out HB.out.size b1)
        replace HR := Aside0.mk (HR.out.keep b1)
        clear b1
        obtain ⟨d0, d1, d2, d3, d4, d5, d6, d7, d8, d9, d10, d11, d12, d13⟩ := cells14 HR.out
        go_wp2_with fail
        go_ret
        exact ⟨by rw [HF.out, if_neg (by rw [h0]; decide), if_neg (by rw [h1]; decide), if_neg (by rw [h2]; decide)]; rfl, HB.out⟩
      | true =>
        go_wp2_with fail
        clear d0 d1 d2 d3 d4 d5 d6 d7 d8 d9 d10 d11 d12 d13
        refine (rvolc q2 q3 q4 A c l _ (Kd.C_below HC.out HB.out) HCC.out).mono ?_
        rintro e w1 ⟨rfl, b1⟩
        rw [show volP q2 q3 q4 l = true from h2]
        replace HB := Aside0.mk (below2 HB.out HB.out.size b1)
        replace HR := Aside0.mk (HR.out.keep b1)
        clear b1
        obtain ⟨d0, d1, d2, d3, d4, d5, d6, d7, d8, d9, d10, d11, d12, d13⟩ := cells14 HR.out
        cases h3 : plainK q6.data.toList with
        | false =>
          go_wp2_with fail
          clear d0 d1 d2 d3 d4 d5 d6 d7 d8 d9 d10 d11 d12 d13
          refine (keyc q6 HS6.out _).mono ?_
          rintro e w1 ⟨rfl, b1⟩
          rw [h3]
          replace HB := Aside0.mk (below2 HB.out HB.out.size b1)
          replace HR := Aside0.mk (HR.out.keep b1)
          clear b1
          obtain ⟨d0, d1, d2, d3, d4, d5, d6, d7, d8, d9, d10, d11, d12, d13⟩ := cells14 HR.out
          go_wp2_with fail
          go_ret
          exact ⟨by rw [HF.out, if_neg (by rw [h0]; decide), if_neg (by rw [h1]; decide), if_pos h2, if_neg (by rw [h3]; decide)]; rfl, HB.out⟩
        | true =>
          go_wp2_with fail
          clear d0 d1 d2 d3 d4 d5 d6 d7 d8 d9 d10 d11 d12 d13
          refine (keyc q6 HS6.out _).mono ?_
          rintro e w1 ⟨rfl, b1⟩
          rw [h3]
          replace HB := Aside0.mk (below2 HB.out HB.out.size b1)
          replace HR := Aside0.mk (HR.out.keep b1)
          clear b1
          obtain ⟨d0, d1, d2, d3, d4, d5, d6, d7, d8, d9, d10, d11, d12, d13⟩ := cells14 HR.out
          cases h4 : (q7 == q2) with
          | false =>
            have h4n : (q7 != q2) = true := by simp [bne, h4]
            go_wp2_with fail
            go_ret
            exact ⟨by rw [HF.out, if_neg (by rw [h0]; decide), if_neg (by rw [h1]; decide), if_pos h2, if_pos h3, if_neg (by rw [h4]; decide)]; rfl, HB.out⟩
          | true =>
            have h4n : (q7 != q2) = false := by simp [bne, h4]
            cases h5 : decide (q8 < 0) with
            | true =>
              go_wp2_with fail
              go_ret
              exact ⟨by rw [HF.out, if_neg (by rw [h0]; decide), if_neg (by rw [h1]; decide), if_pos h2, if_pos h3, if_pos h4, if_pos h5]; rfl, HB.out⟩
            | false =>
              cases h6 : decide (q9 < 0) with
              | true =>
                go_wp2_with fail
                go_ret
                exact ⟨by rw [HF.out, if_neg (by rw [h0]; decide), if_neg (by rw [h1]; decide), if_pos h2, if_pos h3, if_pos h4, if_neg (by rw [h5]; decide), if_pos h6]; rfl, HB.out⟩
              | false =>
                cases h7 : decide (384 < q8) with
                | true =>
                  go_wp2_with fail
                  go_ret
                  exact ⟨by rw [HF.out, if_neg (by rw [h0]; decide), if_neg (by rw [h1]; decide), if_pos h2, if_pos h3, if_pos h4, if_neg (by rw [h5]; decide), if_neg (by rw [h6]; decide), if_pos h7]; rfl, HB.out⟩
                | false =>
                  cases h8 : decide (384 < q9) with
                  | true =>
                    go_wp2_with fail
                    go_ret
                    exact ⟨by rw [HF.out, if_neg (by rw [h0]; decide), if_neg (by rw [h1]; decide), if_pos h2, if_pos h3, if_pos h4, if_neg (by rw [h5]; decide), if_neg (by rw [h6]; decide), if_neg (by rw [h7]; decide), if_pos h8]; rfl, HB.out⟩
                  | false =>
                    cases h9 : decide (q4 < wrap64 (q8 + q9)) with
                    | true =>
                      go_wp2_with fail
                      go_ret
                      exact ⟨by rw [HF.out, if_neg (by rw [h0]; decide), if_neg (by rw [h1]; decide), if_pos h2, if_pos h3, if_pos h4, if_neg (by rw [h5]; decide), if_neg (by rw [h6]; decide), if_neg (by rw [h7]; decide), if_neg (by rw [h8]; decide), if_pos h9]; rfl, HB.out⟩
                    | false =>
                      cases h10 : ((q10.size : Int) == 32) with
                      | false =>
                        have h10n : ((q10.size : Int) != 32) = true := by simp [bne, h10]
                        go_wp2_with fail
                        go_ret
                        exact ⟨by rw [HF.out, if_neg (by rw [h0]; decide), if_neg (by rw [h1]; decide), if_pos h2, if_pos h3, if_pos h4, if_neg (by rw [h5]; decide), if_neg (by rw [h6]; decide), if_neg (by rw [h7]; decide), if_neg (by rw [h8]; decide), if_neg (by rw [h9]; decide), if_neg (by rw [h10]; decide)]; rfl, HB.out⟩
                      | true =>
                        have h10n : ((q10.size : Int) != 32) = false := by simp [bne, h10]
                        go_wp2_with fail
                        obtain ⟨qq, hqq⟩ : ∃ qq, decide ((namedP (⟨q0, 0, q2, q3, q4, l, q6, q7, q8, q9, q10, q11, q12, q13⟩ : RecP)) = (⟨q0, 0, q2, q3, q4, l, q6, q7, q8, q9, q10, q11, q12, q13⟩ : RecP)) = qq := ⟨_, rfl⟩
                        have HQ := Lib.hid hqq
                        clear hqq
                        clear d0 d1 d2 d3 d4 d5 d6 d7 d8 d9 d10 d11 d12 d13
                        refine region_below_tail 4 (by kernel_rfl) (by kernel_rfl) ?_
                        simp only [List.take_succ_cons, List.take_zero, List.drop_succ_cons, List.drop_zero]
                        repeat (first | go_big_quiet_step (fail) | (refine BigFrame.wpQuiet_want (by rfl) (fun K hK => ?_); go_big_quiet_op; refine ⟨_, fun _ _ => rfl, hK _ ?_⟩; clear hK K) | (refine q_rdw 28 _ _ ⟨w.heap.size, 0, none⟩ (.agg #[.int .i64 q0, .int .i64 0, .int .i64 q2, .int .i64 q3, .int .i64 q4, (.slice A l.length c), .string q6, .int .i64 q7, .int .i64 q8, .int .i64 q9, .string q10, .string q11, .int .i64 q12, .int .i64 q13]) rfl rfl (by rfl) rfl (fun w' hw' => run_loadAt_mid w' w.heap.size 0 28 #[.int .i64 q0, .int .i64 0, .int .i64 q2, .int .i64 q3, .int .i64 q4, (.slice A l.length c), .string q6, .int .i64 q7, .int .i64 q8, .int .i64 q9, .string q10, .string q11, .int .i64 q12, .int .i64 q13].toList _ ((HR.out.keep hw').range 0 _ rfl) hu0 rfl (by kernel_rfl)) ?_; simp only [Act.put, List.setIfInBounds_toArray, List.set_cons_zero, List.set_cons_succ]) | (refine q_go (f := 36) Try.func36 (by kernel_rfl) rfl #[.agg #[.int .i64 q0, .int .i64 0, .int .i64 q2, .int .i64 q3, .int .i64 q4, (.slice A l.length c), .string q6, .int .i64 q7, .int .i64 q8, .int .i64 q9, .string q10, .string q11, .int .i64 q12, .int .i64 q13]] (.agg #[.int .i64 q0, .int .i64 0, .int .i64 q2, .int .i64 q3, .int .i64 q4, (.slice A l.length c), .string q6, .int .i64 q7, .int .i64 q8, .int .i64 q9, .string q10, .string ⟨#[]⟩, .int .i64 0, .int .i64 0]) _ rfl rfl rfl (by simp only [List.map_toArray, List.map_cons, List.map_nil]; rfl) (fun w' _ => only_0 q0 0 q2 q3 q4 A l.length c q6 q7 q8 q9 q10 q11 q12 q13 w' rfl) ?_; simp only [Act.put, List.setIfInBounds_toArray, List.set_cons_zero, List.set_cons_succ]) | (refine q_go (f := 21) Try.func21 (by kernel_rfl) rfl #[.agg #[.int .i64 q0, .int .i64 0, .int .i64 q2, .int .i64 q3, .int .i64 q4, (.slice A l.length c), .string q6, .int .i64 q7, .int .i64 q8, .int .i64 q9, .string q10, .string ⟨#[]⟩, .int .i64 0, .int .i64 0], .agg #[.int .i64 q0, .int .i64 0, .int .i64 q2, .int .i64 q3, .int .i64 q4, (.slice A l.length c), .string q6, .int .i64 q7, .int .i64 q8, .int .i64 q9, .string q10, .string q11, .int .i64 q12, .int .i64 q13]] (.bool (decide ((namedP (⟨q0, 0, q2, q3, q4, l, q6, q7, q8, q9, q10, q11, q12, q13⟩ : RecP)) = (⟨q0, 0, q2, q3, q4, l, q6, q7, q8, q9, q10, q11, q12, q13⟩ : RecP)))) _ rfl rfl rfl (by simp only [List.map_toArray, List.map_cons, List.map_nil]; rfl) (fun w' hw' => rsames_calls (namedP (⟨q0, 0, q2, q3, q4, l, q6, q7, q8, q9, q10, q11, q12, q13⟩ : RecP)) (⟨q0, 0, q2, q3, q4, l, q6, q7, q8, q9, q10, q11, q12, q13⟩ : RecP) A A c c w' (Kd.C_below HC.out (below2 HB.out HB.out.size hw')) (Kd.C_below HC.out (below2 HB.out HB.out.size hw')) HCC.out HCC.out HL.out) ?_; rw [HQ.out]; simp only [Act.put, List.setIfInBounds_toArray, List.set_cons_zero, List.set_cons_succ]))
                        refine wpQuiet_nil ?_
                        intro wn hw'
                        replace HB := Aside0.mk (below2 HB.out HB.out.size hw')
                        clear hw'
                        cases qq
                        · go_wp2_with fail
                          go_ret
                          exact ⟨by rw [HF.out, if_neg (by rw [h0]; decide), if_neg (by rw [h1]; decide), if_pos h2, if_pos h3, if_pos h4, if_neg (by rw [h5]; decide), if_neg (by rw [h6]; decide), if_neg (by rw [h7]; decide), if_neg (by rw [h8]; decide), if_neg (by rw [h9]; decide), if_pos h10]; unfold finP; rw [HQ.out]; rfl, HB.out⟩
                        · go_wp2_with fail
                          go_ret
                          exact ⟨by rw [HF.out, if_neg (by rw [h0]; decide), if_neg (by rw [h1]; decide), if_pos h2, if_pos h3, if_pos h4, if_neg (by rw [h5]; decide), if_neg (by rw [h6]; decide), if_neg (by rw [h7]; decide), if_neg (by rw [h8]; decide), if_neg (by rw [h9]; decide), if_pos h10]; unfold finP; rw [HQ.out]; rfl, HB.out⟩
theorem rform_1 (q0 q2 q3 q4 : Int) (A : Option Addr) (c : Nat) (l : List S67) (q6 : ByteArray) (q7 q8 q9 : Int) (q10 q11 : ByteArray) (q12 q13 : Int) : chkR (⟨q0, 1, q2, q3, q4, l, q6, q7, q8, q9, q10, q11, q12, q13⟩ : RecP) = (if decide (q0 < 0) = true then 1 else (if decide (63 < q0) = true then 1 else (if plainK q11.data.toList = true then (finP (⟨q0, 1, q2, q3, q4, l, q6, q7, q8, q9, q10, q11, q12, q13⟩ : RecP)) else 11))) := by
  rw [show chkR (⟨q0, 1, q2, q3, q4, l, q6, q7, q8, q9, q10, q11, q12, q13⟩ : RecP) = if inB q0 63 = true then (if plainK q11.data.toList = true then finP (⟨q0, 1, q2, q3, q4, l, q6, q7, q8, q9, q10, q11, q12, q13⟩ : RecP) else 11) else 1 from rfl]
  generalize finP (⟨q0, 1, q2, q3, q4, l, q6, q7, q8, q9, q10, q11, q12, q13⟩ : RecP) = z
  generalize plainK q11.data.toList = p
  cases p <;> simp only [inB, wrap64, Bool.and_eq_true, decide_eq_true_eq, Bool.false_eq_true, if_false, if_true, true_implies, forall_const] at * <;> (repeat' split) <;> first | rfl | (exfalso; omega)
set_option maxRecDepth 100000 in
set_option maxHeartbeats 4000000 in
theorem refchk_1 (q0 q2 q3 q4 : Int) (A : Option Addr) (c : Nat) (l : List S67) (q6 : ByteArray) (q7 q8 q9 : Int) (q10 q11 : ByteArray) (q12 q13 : Int) (w : World) (hr : Kd.C k67 w A l.length l) (hl : l.length ≤ 1000) (hc : l.length ≤ c) (hs6 : q6.size ≤ 140737488355328) (hs11 : q11.size ≤ 140737488355328) : Calls Try.prog 15 #[.agg #[.int .i64 q0, .int .i64 1, .int .i64 q2, .int .i64 q3, .int .i64 q4, (.slice A l.length c), .string q6, .int .i64 q7, .int .i64 q8, .int .i64 q9, .string q10, .string q11, .int .i64 q12, .int .i64 q13]] w fun e w' => e = .returned (.int .i64 (chkR (⟨q0, 1, q2, q3, q4, l, q6, q7, q8, q9, q10, q11, q12, q13⟩ : RecP))) ∧ Below w.heap.size w w' := by
  have hu0 := Try.underlying28
  have hu1 := Try.underlying34
  have hu2 := Try.underlying24
  have hu3 := Try.underlying26
  have hu4 := Try.underlying67
  have HF := Lib.hid (rform_1 q0 q2 q3 q4 A c l q6 q7 q8 q9 q10 q11 q12 q13)
  have HC := Lib.hid hr
  have HL := Lib.hid hl
  have HCC := Lib.hid hc
  have HS6 := Lib.hid hs6
  have HS11 := Lib.hid hs11
  clear hr hl hc hs6 hs11
  have HB : Aside0 (Below w.heap.size w (w.alloc (.cells #[.int .i64 q0, .int .i64 1, .int .i64 q2, .int .i64 q3, .int .i64 q4, (.slice A l.length c), .string q6, .int .i64 q7, .int .i64 q8, .int .i64 q9, .string q10, .string q11, .int .i64 q12, .int .i64 q13] 28))) := ⟨below_alloc (Below.refl _ _) _⟩
  have HR : Aside0 (Blk (w.alloc (.cells #[.int .i64 q0, .int .i64 1, .int .i64 q2, .int .i64 q3, .int .i64 q4, (.slice A l.length c), .string q6, .int .i64 q7, .int .i64 q8, .int .i64 q9, .string q10, .string q11, .int .i64 q12, .int .i64 q13] 28)) w.heap.size #[.int .i64 q0, .int .i64 1, .int .i64 q2, .int .i64 q3, .int .i64 q4, (.slice A l.length c), .string q6, .int .i64 q7, .int .i64 q8, .int .i64 q9, .string q10, .string q11, .int .i64 q12, .int .i64 q13] 28) := ⟨Blk.new w _ _⟩
  obtain ⟨d0, d1, d2, d3, d4, d5, d6, d7, d8, d9, d10, d11, d12, d13⟩ := cells14 HR.out
  go_enter Try.func15, Try.ntmps15
  cases h0 : decide (q0 < 0) with
  | true =>
    go_wp2_with fail
    go_ret
    exact ⟨by rw [HF.out, if_pos h0]; rfl, HB.out⟩
  | false =>
    cases h1 : decide (63 < q0) with
    | true =>
      go_wp2_with fail
      go_ret
      exact ⟨by rw [HF.out, if_neg (by rw [h0]; decide), if_pos h1]; rfl, HB.out⟩
    | false =>
      cases h2 : plainK q11.data.toList with
      | false =>
        go_wp2_with fail
        clear d0 d1 d2 d3 d4 d5 d6 d7 d8 d9 d10 d11 d12 d13
        refine (keyc q11 HS11.out _).mono ?_
        rintro e w1 ⟨rfl, b1⟩
        rw [h2]
        replace HB := Aside0.mk (below2 HB.out HB.out.size b1)
        replace HR := Aside0.mk (HR.out.keep b1)
        clear b1
        obtain ⟨d0, d1, d2, d3, d4, d5, d6, d7, d8, d9, d10, d11, d12, d13⟩ := cells14 HR.out
        go_wp2_with fail
        go_ret
        exact ⟨by rw [HF.out, if_neg (by rw [h0]; decide), if_neg (by rw [h1]; decide), if_neg (by rw [h2]; decide)]; rfl, HB.out⟩
      | true =>
        go_wp2_with fail
        clear d0 d1 d2 d3 d4 d5 d6 d7 d8 d9 d10 d11 d12 d13
        refine (keyc q11 HS11.out _).mono ?_
        rintro e w1 ⟨rfl, b1⟩
        rw [h2]
        replace HB := Aside0.mk (below2 HB.out HB.out.size b1)
        replace HR := Aside0.mk (HR.out.keep b1)
        clear b1
        obtain ⟨d0, d1, d2, d3, d4, d5, d6, d7, d8, d9, d10, d11, d12, d13⟩ := cells14 HR.out
        go_wp2_with fail
        obtain ⟨qq, hqq⟩ : ∃ qq, decide ((namedP (⟨q0, 1, q2, q3, q4, l, q6, q7, q8, q9, q10, q11, q12, q13⟩ : RecP)) = (⟨q0, 1, q2, q3, q4, l, q6, q7, q8, q9, q10, q11, q12, q13⟩ : RecP)) = qq := ⟨_, rfl⟩
        have HQ := Lib.hid hqq
        clear hqq
        clear d0 d1 d2 d3 d4 d5 d6 d7 d8 d9 d10 d11 d12 d13
        refine region_below_tail 4 (by kernel_rfl) (by kernel_rfl) ?_
        simp only [List.take_succ_cons, List.take_zero, List.drop_succ_cons, List.drop_zero]
        repeat (first | go_big_quiet_step (fail) | (refine BigFrame.wpQuiet_want (by rfl) (fun K hK => ?_); go_big_quiet_op; refine ⟨_, fun _ _ => rfl, hK _ ?_⟩; clear hK K) | (refine q_rdw 28 _ _ ⟨w.heap.size, 0, none⟩ (.agg #[.int .i64 q0, .int .i64 1, .int .i64 q2, .int .i64 q3, .int .i64 q4, (.slice A l.length c), .string q6, .int .i64 q7, .int .i64 q8, .int .i64 q9, .string q10, .string q11, .int .i64 q12, .int .i64 q13]) rfl rfl (by rfl) rfl (fun w' hw' => run_loadAt_mid w' w.heap.size 0 28 #[.int .i64 q0, .int .i64 1, .int .i64 q2, .int .i64 q3, .int .i64 q4, (.slice A l.length c), .string q6, .int .i64 q7, .int .i64 q8, .int .i64 q9, .string q10, .string q11, .int .i64 q12, .int .i64 q13].toList _ ((HR.out.keep hw').range 0 _ rfl) hu0 rfl (by kernel_rfl)) ?_; simp only [Act.put, List.setIfInBounds_toArray, List.set_cons_zero, List.set_cons_succ]) | (refine q_go (f := 36) Try.func36 (by kernel_rfl) rfl #[.agg #[.int .i64 q0, .int .i64 1, .int .i64 q2, .int .i64 q3, .int .i64 q4, (.slice A l.length c), .string q6, .int .i64 q7, .int .i64 q8, .int .i64 q9, .string q10, .string q11, .int .i64 q12, .int .i64 q13]] (.agg #[.int .i64 q0, .int .i64 1, .int .i64 0, .int .i64 0, .int .i64 0, (.slice none 0 0), .string ⟨#[]⟩, .int .i64 0, .int .i64 0, .int .i64 0, .string ⟨#[]⟩, .string q11, .int .i64 0, .int .i64 0]) _ rfl rfl rfl (by simp only [List.map_toArray, List.map_cons, List.map_nil]; rfl) (fun w' _ => only_1 q0 1 q2 q3 q4 A l.length c q6 q7 q8 q9 q10 q11 q12 q13 w' rfl) ?_; simp only [Act.put, List.setIfInBounds_toArray, List.set_cons_zero, List.set_cons_succ]) | (refine q_go (f := 21) Try.func21 (by kernel_rfl) rfl #[.agg #[.int .i64 q0, .int .i64 1, .int .i64 0, .int .i64 0, .int .i64 0, (.slice none 0 0), .string ⟨#[]⟩, .int .i64 0, .int .i64 0, .int .i64 0, .string ⟨#[]⟩, .string q11, .int .i64 0, .int .i64 0], .agg #[.int .i64 q0, .int .i64 1, .int .i64 q2, .int .i64 q3, .int .i64 q4, (.slice A l.length c), .string q6, .int .i64 q7, .int .i64 q8, .int .i64 q9, .string q10, .string q11, .int .i64 q12, .int .i64 q13]] (.bool (decide ((namedP (⟨q0, 1, q2, q3, q4, l, q6, q7, q8, q9, q10, q11, q12, q13⟩ : RecP)) = (⟨q0, 1, q2, q3, q4, l, q6, q7, q8, q9, q10, q11, q12, q13⟩ : RecP)))) _ rfl rfl rfl (by simp only [List.map_toArray, List.map_cons, List.map_nil]; rfl) (fun w' hw' => rsames_calls (namedP (⟨q0, 1, q2, q3, q4, l, q6, q7, q8, q9, q10, q11, q12, q13⟩ : RecP)) (⟨q0, 1, q2, q3, q4, l, q6, q7, q8, q9, q10, q11, q12, q13⟩ : RecP) none A 0 c w' (Kd.C_nil _ w') (Kd.C_below HC.out (below2 HB.out HB.out.size hw')) (Nat.le_refl 0) HCC.out (Nat.zero_le _)) ?_; rw [HQ.out]; simp only [Act.put, List.setIfInBounds_toArray, List.set_cons_zero, List.set_cons_succ]))
        refine wpQuiet_nil ?_
        intro wn hw'
        replace HB := Aside0.mk (below2 HB.out HB.out.size hw')
        clear hw'
        cases qq
        · go_wp2_with fail
          go_ret
          exact ⟨by rw [HF.out, if_neg (by rw [h0]; decide), if_neg (by rw [h1]; decide), if_pos h2]; unfold finP; rw [HQ.out]; rfl, HB.out⟩
        · go_wp2_with fail
          go_ret
          exact ⟨by rw [HF.out, if_neg (by rw [h0]; decide), if_neg (by rw [h1]; decide), if_pos h2]; unfold finP; rw [HQ.out]; rfl, HB.out⟩
theorem rform_2 (q0 q2 q3 q4 : Int) (A : Option Addr) (c : Nat) (l : List S67) (q6 : ByteArray) (q7 q8 q9 : Int) (q10 q11 : ByteArray) (q12 q13 : Int) : chkR (⟨q0, 2, q2, q3, q4, l, q6, q7, q8, q9, q10, q11, q12, q13⟩ : RecP) = (if decide (q0 < 0) = true then 1 else (if decide (63 < q0) = true then 1 else (if volR (⟨q0, 2, q2, q3, q4, l, q6, q7, q8, q9, q10, q11, q12, q13⟩ : RecP) = true then (finP (⟨q0, 2, q2, q3, q4, l, q6, q7, q8, q9, q10, q11, q12, q13⟩ : RecP)) else 1))) := by
  rw [show chkR (⟨q0, 2, q2, q3, q4, l, q6, q7, q8, q9, q10, q11, q12, q13⟩ : RecP) = if inB q0 63 = true then (if volR (⟨q0, 2, q2, q3, q4, l, q6, q7, q8, q9, q10, q11, q12, q13⟩ : RecP) = true then finP (⟨q0, 2, q2, q3, q4, l, q6, q7, q8, q9, q10, q11, q12, q13⟩ : RecP) else 1) else 1 from rfl]
  generalize finP (⟨q0, 2, q2, q3, q4, l, q6, q7, q8, q9, q10, q11, q12, q13⟩ : RecP) = z
  have hv : volR (⟨q0, 2, q2, q3, q4, l, q6, q7, q8, q9, q10, q11, q12, q13⟩ : RecP) = true → 0 ≤ q4 ∧ q4 ≤ 384 := fun h => vol_len h
  generalize volR (⟨q0, 2, q2, q3, q4, l, q6, q7, q8, q9, q10, q11, q12, q13⟩ : RecP) = v at hv
  cases v <;> simp only [inB, wrap64, Bool.and_eq_true, decide_eq_true_eq, Bool.false_eq_true, if_false, if_true, true_implies, forall_const] at * <;> (repeat' split) <;> first | rfl | (exfalso; omega)
set_option maxRecDepth 100000 in
set_option maxHeartbeats 4000000 in
theorem refchk_2 (q0 q2 q3 q4 : Int) (A : Option Addr) (c : Nat) (l : List S67) (q6 : ByteArray) (q7 q8 q9 : Int) (q10 q11 : ByteArray) (q12 q13 : Int) (w : World) (hr : Kd.C k67 w A l.length l) (hl : l.length ≤ 1000) (hc : l.length ≤ c) (hs6 : q6.size ≤ 140737488355328) (hs11 : q11.size ≤ 140737488355328) : Calls Try.prog 15 #[.agg #[.int .i64 q0, .int .i64 2, .int .i64 q2, .int .i64 q3, .int .i64 q4, (.slice A l.length c), .string q6, .int .i64 q7, .int .i64 q8, .int .i64 q9, .string q10, .string q11, .int .i64 q12, .int .i64 q13]] w fun e w' => e = .returned (.int .i64 (chkR (⟨q0, 2, q2, q3, q4, l, q6, q7, q8, q9, q10, q11, q12, q13⟩ : RecP))) ∧ Below w.heap.size w w' := by
  have hu0 := Try.underlying28
  have hu1 := Try.underlying34
  have hu2 := Try.underlying24
  have hu3 := Try.underlying26
  have hu4 := Try.underlying67
  have HF := Lib.hid (rform_2 q0 q2 q3 q4 A c l q6 q7 q8 q9 q10 q11 q12 q13)
  have HC := Lib.hid hr
  have HL := Lib.hid hl
  have HCC := Lib.hid hc
  have HS6 := Lib.hid hs6
  have HS11 := Lib.hid hs11
  clear hr hl hc hs6 hs11
  have HB : Aside0 (Below w.heap.size w (w.alloc (.cells #[.int .i64 q0, .int .i64 2, .int .i64 q2, .int .i64 q3, .int .i64 q4, (.slice A l.length c), .string q6, .int .i64 q7, .int .i64 q8, .int .i64 q9, .string q10, .string q11, .int .i64 q12, .int .i64 q13] 28))) := ⟨below_alloc (Below.refl _ _) _⟩
  have HR : Aside0 (Blk (w.alloc (.cells #[.int .i64 q0, .int .i64 2, .int .i64 q2, .int .i64 q3, .int .i64 q4, (.slice A l.length c), .string q6, .int .i64 q7, .int .i64 q8, .int .i64 q9, .string q10, .string q11, .int .i64 q12, .int .i64 q13] 28)) w.heap.size #[.int .i64 q0, .int .i64 2, .int .i64 q2, .int .i64 q3, .int .i64 q4, (.slice A l.length c), .string q6, .int .i64 q7, .int .i64 q8, .int .i64 q9, .string q10, .string q11, .int .i64 q12, .int .i64 q13] 28) := ⟨Blk.new w _ _⟩
  obtain ⟨d0, d1, d2, d3, d4, d5, d6, d7, d8, d9, d10, d11, d12, d13⟩ := cells14 HR.out
  go_enter Try.func15, Try.ntmps15
  cases h0 : decide (q0 < 0) with
  | true =>
    go_wp2_with fail
    go_ret
    exact ⟨by rw [HF.out, if_pos h0]; rfl, HB.out⟩
  | false =>
    cases h1 : decide (63 < q0) with
    | true =>
      go_wp2_with fail
      go_ret
      exact ⟨by rw [HF.out, if_neg (by rw [h0]; decide), if_pos h1]; rfl, HB.out⟩
    | false =>
      cases h2 : volR (⟨q0, 2, q2, q3, q4, l, q6, q7, q8, q9, q10, q11, q12, q13⟩ : RecP) with
      | false =>
        go_wp2_with fail
        clear d0 d1 d2 d3 d4 d5 d6 d7 d8 d9 d10 d11 d12 d13
        refine (rvolc q2 q3 q4 A c l _ (Kd.C_below HC.out HB.out) HCC.out).mono ?_
        rintro e w1 ⟨rfl, b1⟩
        rw [show volP q2 q3 q4 l = false from h2]
        replace HB := Aside0.mk (below2 HB.out HB.out.size b1)
        replace HR := Aside0.mk (HR.out.keep b1)
        clear b1
        obtain ⟨d0, d1, d2, d3, d4, d5, d6, d7, d8, d9, d10, d11, d12, d13⟩ := cells14 HR.out
        go_wp2_with fail
        go_ret
        exact ⟨by rw [HF.out, if_neg (by rw [h0]; decide), if_neg (by rw [h1]; decide), if_neg (by rw [h2]; decide)]; rfl, HB.out⟩
      | true =>
        go_wp2_with fail
        clear d0 d1 d2 d3 d4 d5 d6 d7 d8 d9 d10 d11 d12 d13
        refine (rvolc q2 q3 q4 A c l _ (Kd.C_below HC.out HB.out) HCC.out).mono ?_
        rintro e w1 ⟨rfl, b1⟩
        rw [show volP q2 q3 q4 l = true from h2]
        replace HB := Aside0.mk (below2 HB.out HB.out.size b1)
        replace HR := Aside0.mk (HR.out.keep b1)
        clear b1
        obtain ⟨d0, d1, d2, d3, d4, d5, d6, d7, d8, d9, d10, d11, d12, d13⟩ := cells14 HR.out
        go_wp2_with fail
        obtain ⟨qq, hqq⟩ : ∃ qq, decide ((namedP (⟨q0, 2, q2, q3, q4, l, q6, q7, q8, q9, q10, q11, q12, q13⟩ : RecP)) = (⟨q0, 2, q2, q3, q4, l, q6, q7, q8, q9, q10, q11, q12, q13⟩ : RecP)) = qq := ⟨_, rfl⟩
        have HQ := Lib.hid hqq
        clear hqq
        clear d0 d1 d2 d3 d4 d5 d6 d7 d8 d9 d10 d11 d12 d13
        refine region_below_tail 4 (by kernel_rfl) (by kernel_rfl) ?_
        simp only [List.take_succ_cons, List.take_zero, List.drop_succ_cons, List.drop_zero]
        repeat (first | go_big_quiet_step (fail) | (refine BigFrame.wpQuiet_want (by rfl) (fun K hK => ?_); go_big_quiet_op; refine ⟨_, fun _ _ => rfl, hK _ ?_⟩; clear hK K) | (refine q_rdw 28 _ _ ⟨w.heap.size, 0, none⟩ (.agg #[.int .i64 q0, .int .i64 2, .int .i64 q2, .int .i64 q3, .int .i64 q4, (.slice A l.length c), .string q6, .int .i64 q7, .int .i64 q8, .int .i64 q9, .string q10, .string q11, .int .i64 q12, .int .i64 q13]) rfl rfl (by rfl) rfl (fun w' hw' => run_loadAt_mid w' w.heap.size 0 28 #[.int .i64 q0, .int .i64 2, .int .i64 q2, .int .i64 q3, .int .i64 q4, (.slice A l.length c), .string q6, .int .i64 q7, .int .i64 q8, .int .i64 q9, .string q10, .string q11, .int .i64 q12, .int .i64 q13].toList _ ((HR.out.keep hw').range 0 _ rfl) hu0 rfl (by kernel_rfl)) ?_; simp only [Act.put, List.setIfInBounds_toArray, List.set_cons_zero, List.set_cons_succ]) | (refine q_go (f := 36) Try.func36 (by kernel_rfl) rfl #[.agg #[.int .i64 q0, .int .i64 2, .int .i64 q2, .int .i64 q3, .int .i64 q4, (.slice A l.length c), .string q6, .int .i64 q7, .int .i64 q8, .int .i64 q9, .string q10, .string q11, .int .i64 q12, .int .i64 q13]] (.agg #[.int .i64 q0, .int .i64 2, .int .i64 q2, .int .i64 q3, .int .i64 q4, (.slice A l.length c), .string ⟨#[]⟩, .int .i64 0, .int .i64 0, .int .i64 0, .string ⟨#[]⟩, .string ⟨#[]⟩, .int .i64 0, .int .i64 0]) _ rfl rfl rfl (by simp only [List.map_toArray, List.map_cons, List.map_nil]; rfl) (fun w' _ => only_x q0 2 q2 q3 q4 A l.length c q6 q7 q8 q9 q10 q11 q12 q13 w' (by decide) (by decide) (by decide)) ?_; simp only [Act.put, List.setIfInBounds_toArray, List.set_cons_zero, List.set_cons_succ]) | (refine q_go (f := 21) Try.func21 (by kernel_rfl) rfl #[.agg #[.int .i64 q0, .int .i64 2, .int .i64 q2, .int .i64 q3, .int .i64 q4, (.slice A l.length c), .string ⟨#[]⟩, .int .i64 0, .int .i64 0, .int .i64 0, .string ⟨#[]⟩, .string ⟨#[]⟩, .int .i64 0, .int .i64 0], .agg #[.int .i64 q0, .int .i64 2, .int .i64 q2, .int .i64 q3, .int .i64 q4, (.slice A l.length c), .string q6, .int .i64 q7, .int .i64 q8, .int .i64 q9, .string q10, .string q11, .int .i64 q12, .int .i64 q13]] (.bool (decide ((namedP (⟨q0, 2, q2, q3, q4, l, q6, q7, q8, q9, q10, q11, q12, q13⟩ : RecP)) = (⟨q0, 2, q2, q3, q4, l, q6, q7, q8, q9, q10, q11, q12, q13⟩ : RecP)))) _ rfl rfl rfl (by simp only [List.map_toArray, List.map_cons, List.map_nil]; rfl) (fun w' hw' => rsames_calls (namedP (⟨q0, 2, q2, q3, q4, l, q6, q7, q8, q9, q10, q11, q12, q13⟩ : RecP)) (⟨q0, 2, q2, q3, q4, l, q6, q7, q8, q9, q10, q11, q12, q13⟩ : RecP) A A c c w' (Kd.C_below HC.out (below2 HB.out HB.out.size hw')) (Kd.C_below HC.out (below2 HB.out HB.out.size hw')) HCC.out HCC.out HL.out) ?_; rw [HQ.out]; simp only [Act.put, List.setIfInBounds_toArray, List.set_cons_zero, List.set_cons_succ]))
        refine wpQuiet_nil ?_
        intro wn hw'
        replace HB := Aside0.mk (below2 HB.out HB.out.size hw')
        clear hw'
        cases qq
        · go_wp2_with fail
          go_ret
          exact ⟨by rw [HF.out, if_neg (by rw [h0]; decide), if_neg (by rw [h1]; decide), if_pos h2]; unfold finP; rw [HQ.out]; rfl, HB.out⟩
        · go_wp2_with fail
          go_ret
          exact ⟨by rw [HF.out, if_neg (by rw [h0]; decide), if_neg (by rw [h1]; decide), if_pos h2]; unfold finP; rw [HQ.out]; rfl, HB.out⟩
theorem rform_3 (q0 q2 q3 q4 : Int) (A : Option Addr) (c : Nat) (l : List S67) (q6 : ByteArray) (q7 q8 q9 : Int) (q10 q11 : ByteArray) (q12 q13 : Int) : chkR (⟨q0, 3, q2, q3, q4, l, q6, q7, q8, q9, q10, q11, q12, q13⟩ : RecP) = (if decide (q0 < 0) = true then 1 else (if decide (63 < q0) = true then 1 else (if volR (⟨q0, 3, q2, q3, q4, l, q6, q7, q8, q9, q10, q11, q12, q13⟩ : RecP) = true then (if inB q12 1099511627776 = true then (if inB q13 1099511627776 = true then (if (q12 == q13) = true then 1 else (finP (⟨q0, 3, q2, q3, q4, l, q6, q7, q8, q9, q10, q11, q12, q13⟩ : RecP))) else 1) else 1) else 1))) := by
  rw [show chkR (⟨q0, 3, q2, q3, q4, l, q6, q7, q8, q9, q10, q11, q12, q13⟩ : RecP) = if inB q0 63 = true then (if volR (⟨q0, 3, q2, q3, q4, l, q6, q7, q8, q9, q10, q11, q12, q13⟩ : RecP) = true then (if inB q12 1099511627776 = true then (if inB q13 1099511627776 = true then (if (q12 == q13) = true then 1 else finP (⟨q0, 3, q2, q3, q4, l, q6, q7, q8, q9, q10, q11, q12, q13⟩ : RecP)) else 1) else 1) else 1) else 1 from rfl]
  generalize finP (⟨q0, 3, q2, q3, q4, l, q6, q7, q8, q9, q10, q11, q12, q13⟩ : RecP) = z
  have hv : volR (⟨q0, 3, q2, q3, q4, l, q6, q7, q8, q9, q10, q11, q12, q13⟩ : RecP) = true → 0 ≤ q4 ∧ q4 ≤ 384 := fun h => vol_len h
  generalize volR (⟨q0, 3, q2, q3, q4, l, q6, q7, q8, q9, q10, q11, q12, q13⟩ : RecP) = v at hv
  generalize (q12 == q13) = e1
  generalize inB q12 1099511627776 = b1
  generalize inB q13 1099511627776 = b2
  cases v <;> cases e1 <;> cases b1 <;> cases b2 <;> simp only [inB, wrap64, Bool.and_eq_true, decide_eq_true_eq, Bool.false_eq_true, if_false, if_true, true_implies, forall_const] at * <;> (repeat' split) <;> first | rfl | (exfalso; omega)
set_option maxRecDepth 100000 in
set_option maxHeartbeats 4000000 in
theorem refchk_3 (q0 q2 q3 q4 : Int) (A : Option Addr) (c : Nat) (l : List S67) (q6 : ByteArray) (q7 q8 q9 : Int) (q10 q11 : ByteArray) (q12 q13 : Int) (w : World) (hr : Kd.C k67 w A l.length l) (hl : l.length ≤ 1000) (hc : l.length ≤ c) (hs6 : q6.size ≤ 140737488355328) (hs11 : q11.size ≤ 140737488355328) : Calls Try.prog 15 #[.agg #[.int .i64 q0, .int .i64 3, .int .i64 q2, .int .i64 q3, .int .i64 q4, (.slice A l.length c), .string q6, .int .i64 q7, .int .i64 q8, .int .i64 q9, .string q10, .string q11, .int .i64 q12, .int .i64 q13]] w fun e w' => e = .returned (.int .i64 (chkR (⟨q0, 3, q2, q3, q4, l, q6, q7, q8, q9, q10, q11, q12, q13⟩ : RecP))) ∧ Below w.heap.size w w' := by
  have hu0 := Try.underlying28
  have hu1 := Try.underlying34
  have hu2 := Try.underlying24
  have hu3 := Try.underlying26
  have hu4 := Try.underlying67
  have HF := Lib.hid (rform_3 q0 q2 q3 q4 A c l q6 q7 q8 q9 q10 q11 q12 q13)
  have HC := Lib.hid hr
  have HL := Lib.hid hl
  have HCC := Lib.hid hc
  have HS6 := Lib.hid hs6
  have HS11 := Lib.hid hs11
  clear hr hl hc hs6 hs11
  have HB : Aside0 (Below w.heap.size w (w.alloc (.cells #[.int .i64 q0, .int .i64 3, .int .i64 q2, .int .i64 q3, .int .i64 q4, (.slice A l.length c), .string q6, .int .i64 q7, .int .i64 q8, .int .i64 q9, .string q10, .string q11, .int .i64 q12, .int .i64 q13] 28))) := ⟨below_alloc (Below.refl _ _) _⟩
  have HR : Aside0 (Blk (w.alloc (.cells #[.int .i64 q0, .int .i64 3, .int .i64 q2, .int .i64 q3, .int .i64 q4, (.slice A l.length c), .string q6, .int .i64 q7, .int .i64 q8, .int .i64 q9, .string q10, .string q11, .int .i64 q12, .int .i64 q13] 28)) w.heap.size #[.int .i64 q0, .int .i64 3, .int .i64 q2, .int .i64 q3, .int .i64 q4, (.slice A l.length c), .string q6, .int .i64 q7, .int .i64 q8, .int .i64 q9, .string q10, .string q11, .int .i64 q12, .int .i64 q13] 28) := ⟨Blk.new w _ _⟩
  obtain ⟨d0, d1, d2, d3, d4, d5, d6, d7, d8, d9, d10, d11, d12, d13⟩ := cells14 HR.out
  go_enter Try.func15, Try.ntmps15
  cases h0 : decide (q0 < 0) with
  | true =>
    go_wp2_with fail
    go_ret
    exact ⟨by rw [HF.out, if_pos h0]; rfl, HB.out⟩
  | false =>
    cases h1 : decide (63 < q0) with
    | true =>
      go_wp2_with fail
      go_ret
      exact ⟨by rw [HF.out, if_neg (by rw [h0]; decide), if_pos h1]; rfl, HB.out⟩
    | false =>
      cases h2 : volR (⟨q0, 3, q2, q3, q4, l, q6, q7, q8, q9, q10, q11, q12, q13⟩ : RecP) with
      | false =>
        go_wp2_with fail
        clear d0 d1 d2 d3 d4 d5 d6 d7 d8 d9 d10 d11 d12 d13
        refine (rvolc q2 q3 q4 A c l _ (Kd.C_below HC.out HB.out) HCC.out).mono ?_
        rintro e w1 ⟨rfl, b1⟩
        rw [show volP q2 q3 q4 l = false from h2]
        replace HB := Aside0.mk (below2 HB.out HB.out.size b1)
        replace HR := Aside0.mk (HR.out.keep b1)
        clear b1
        obtain ⟨d0, d1, d2, d3, d4, d5, d6, d7, d8, d9, d10, d11, d12, d13⟩ := cells14 HR.out
        go_wp2_with fail
        go_ret
        exact ⟨by rw [HF.out, if_neg (by rw [h0]; decide), if_neg (by rw [h1]; decide), if_neg (by rw [h2]; decide)]; rfl, HB.out⟩
      | true =>
        go_wp2_with fail
        clear d0 d1 d2 d3 d4 d5 d6 d7 d8 d9 d10 d11 d12 d13
        refine (rvolc q2 q3 q4 A c l _ (Kd.C_below HC.out HB.out) HCC.out).mono ?_
        rintro e w1 ⟨rfl, b1⟩
        rw [show volP q2 q3 q4 l = true from h2]
        replace HB := Aside0.mk (below2 HB.out HB.out.size b1)
        replace HR := Aside0.mk (HR.out.keep b1)
        clear b1
        obtain ⟨d0, d1, d2, d3, d4, d5, d6, d7, d8, d9, d10, d11, d12, d13⟩ := cells14 HR.out
        cases h3 : inB q12 1099511627776 with
        | false =>
          go_wp2_with fail
          clear d0 d1 d2 d3 d4 d5 d6 d7 d8 d9 d10 d11 d12 d13
          refine (numc _ _).mono ?_
          rintro e w1 ⟨rfl, b1⟩
          rw [h3]
          replace HB := Aside0.mk (below2 HB.out HB.out.size b1)
          replace HR := Aside0.mk (HR.out.keep b1)
          clear b1
          obtain ⟨d0, d1, d2, d3, d4, d5, d6, d7, d8, d9, d10, d11, d12, d13⟩ := cells14 HR.out
          go_wp2_with fail
          go_ret
          exact ⟨by rw [HF.out, if_neg (by rw [h0]; decide), if_neg (by rw [h1]; decide), if_pos h2, if_neg (by rw [h3]; decide)]; rfl, HB.out⟩
        | true =>
          go_wp2_with fail
          clear d0 d1 d2 d3 d4 d5 d6 d7 d8 d9 d10 d11 d12 d13
          refine (numc _ _).mono ?_
          rintro e w1 ⟨rfl, b1⟩
          rw [h3]
          replace HB := Aside0.mk (below2 HB.out HB.out.size b1)
          replace HR := Aside0.mk (HR.out.keep b1)
          clear b1
          obtain ⟨d0, d1, d2, d3, d4, d5, d6, d7, d8, d9, d10, d11, d12, d13⟩ := cells14 HR.out
          cases h4 : inB q13 1099511627776 with
          | false =>
            go_wp2_with fail
            clear d0 d1 d2 d3 d4 d5 d6 d7 d8 d9 d10 d11 d12 d13
            refine (numc _ _).mono ?_
            rintro e w1 ⟨rfl, b1⟩
            rw [h4]
            replace HB := Aside0.mk (below2 HB.out HB.out.size b1)
            replace HR := Aside0.mk (HR.out.keep b1)
            clear b1
            obtain ⟨d0, d1, d2, d3, d4, d5, d6, d7, d8, d9, d10, d11, d12, d13⟩ := cells14 HR.out
            go_wp2_with fail
            go_ret
            exact ⟨by rw [HF.out, if_neg (by rw [h0]; decide), if_neg (by rw [h1]; decide), if_pos h2, if_pos h3, if_neg (by rw [h4]; decide)]; rfl, HB.out⟩
          | true =>
            go_wp2_with fail
            clear d0 d1 d2 d3 d4 d5 d6 d7 d8 d9 d10 d11 d12 d13
            refine (numc _ _).mono ?_
            rintro e w1 ⟨rfl, b1⟩
            rw [h4]
            replace HB := Aside0.mk (below2 HB.out HB.out.size b1)
            replace HR := Aside0.mk (HR.out.keep b1)
            clear b1
            obtain ⟨d0, d1, d2, d3, d4, d5, d6, d7, d8, d9, d10, d11, d12, d13⟩ := cells14 HR.out
            cases h5 : (q12 == q13) with
            | true =>
              have h5n : (q12 != q13) = false := by simp [bne, h5]
              go_wp2_with fail
              go_ret
              exact ⟨by rw [HF.out, if_neg (by rw [h0]; decide), if_neg (by rw [h1]; decide), if_pos h2, if_pos h3, if_pos h4, if_pos h5]; rfl, HB.out⟩
            | false =>
              have h5n : (q12 != q13) = true := by simp [bne, h5]
              go_wp2_with fail
              obtain ⟨qq, hqq⟩ : ∃ qq, decide ((namedP (⟨q0, 3, q2, q3, q4, l, q6, q7, q8, q9, q10, q11, q12, q13⟩ : RecP)) = (⟨q0, 3, q2, q3, q4, l, q6, q7, q8, q9, q10, q11, q12, q13⟩ : RecP)) = qq := ⟨_, rfl⟩
              have HQ := Lib.hid hqq
              clear hqq
              clear d0 d1 d2 d3 d4 d5 d6 d7 d8 d9 d10 d11 d12 d13
              refine region_below_tail 4 (by kernel_rfl) (by kernel_rfl) ?_
              simp only [List.take_succ_cons, List.take_zero, List.drop_succ_cons, List.drop_zero]
              repeat (first | go_big_quiet_step (fail) | (refine BigFrame.wpQuiet_want (by rfl) (fun K hK => ?_); go_big_quiet_op; refine ⟨_, fun _ _ => rfl, hK _ ?_⟩; clear hK K) | (refine q_rdw 28 _ _ ⟨w.heap.size, 0, none⟩ (.agg #[.int .i64 q0, .int .i64 3, .int .i64 q2, .int .i64 q3, .int .i64 q4, (.slice A l.length c), .string q6, .int .i64 q7, .int .i64 q8, .int .i64 q9, .string q10, .string q11, .int .i64 q12, .int .i64 q13]) rfl rfl (by rfl) rfl (fun w' hw' => run_loadAt_mid w' w.heap.size 0 28 #[.int .i64 q0, .int .i64 3, .int .i64 q2, .int .i64 q3, .int .i64 q4, (.slice A l.length c), .string q6, .int .i64 q7, .int .i64 q8, .int .i64 q9, .string q10, .string q11, .int .i64 q12, .int .i64 q13].toList _ ((HR.out.keep hw').range 0 _ rfl) hu0 rfl (by kernel_rfl)) ?_; simp only [Act.put, List.setIfInBounds_toArray, List.set_cons_zero, List.set_cons_succ]) | (refine q_go (f := 36) Try.func36 (by kernel_rfl) rfl #[.agg #[.int .i64 q0, .int .i64 3, .int .i64 q2, .int .i64 q3, .int .i64 q4, (.slice A l.length c), .string q6, .int .i64 q7, .int .i64 q8, .int .i64 q9, .string q10, .string q11, .int .i64 q12, .int .i64 q13]] (.agg #[.int .i64 q0, .int .i64 3, .int .i64 q2, .int .i64 q3, .int .i64 q4, (.slice A l.length c), .string ⟨#[]⟩, .int .i64 0, .int .i64 0, .int .i64 0, .string ⟨#[]⟩, .string ⟨#[]⟩, .int .i64 q12, .int .i64 q13]) _ rfl rfl rfl (by simp only [List.map_toArray, List.map_cons, List.map_nil]; rfl) (fun w' _ => only_3 q0 3 q2 q3 q4 A l.length c q6 q7 q8 q9 q10 q11 q12 q13 w' rfl) ?_; simp only [Act.put, List.setIfInBounds_toArray, List.set_cons_zero, List.set_cons_succ]) | (refine q_go (f := 21) Try.func21 (by kernel_rfl) rfl #[.agg #[.int .i64 q0, .int .i64 3, .int .i64 q2, .int .i64 q3, .int .i64 q4, (.slice A l.length c), .string ⟨#[]⟩, .int .i64 0, .int .i64 0, .int .i64 0, .string ⟨#[]⟩, .string ⟨#[]⟩, .int .i64 q12, .int .i64 q13], .agg #[.int .i64 q0, .int .i64 3, .int .i64 q2, .int .i64 q3, .int .i64 q4, (.slice A l.length c), .string q6, .int .i64 q7, .int .i64 q8, .int .i64 q9, .string q10, .string q11, .int .i64 q12, .int .i64 q13]] (.bool (decide ((namedP (⟨q0, 3, q2, q3, q4, l, q6, q7, q8, q9, q10, q11, q12, q13⟩ : RecP)) = (⟨q0, 3, q2, q3, q4, l, q6, q7, q8, q9, q10, q11, q12, q13⟩ : RecP)))) _ rfl rfl rfl (by simp only [List.map_toArray, List.map_cons, List.map_nil]; rfl) (fun w' hw' => rsames_calls (namedP (⟨q0, 3, q2, q3, q4, l, q6, q7, q8, q9, q10, q11, q12, q13⟩ : RecP)) (⟨q0, 3, q2, q3, q4, l, q6, q7, q8, q9, q10, q11, q12, q13⟩ : RecP) A A c c w' (Kd.C_below HC.out (below2 HB.out HB.out.size hw')) (Kd.C_below HC.out (below2 HB.out HB.out.size hw')) HCC.out HCC.out HL.out) ?_; rw [HQ.out]; simp only [Act.put, List.setIfInBounds_toArray, List.set_cons_zero, List.set_cons_succ]))
              refine wpQuiet_nil ?_
              intro wn hw'
              replace HB := Aside0.mk (below2 HB.out HB.out.size hw')
              clear hw'
              cases qq
              · go_wp2_with fail
                go_ret
                exact ⟨by rw [HF.out, if_neg (by rw [h0]; decide), if_neg (by rw [h1]; decide), if_pos h2, if_pos h3, if_pos h4, if_neg (by rw [h5]; decide)]; unfold finP; rw [HQ.out]; rfl, HB.out⟩
              · go_wp2_with fail
                go_ret
                exact ⟨by rw [HF.out, if_neg (by rw [h0]; decide), if_neg (by rw [h1]; decide), if_pos h2, if_pos h3, if_pos h4, if_neg (by rw [h5]; decide)]; unfold finP; rw [HQ.out]; rfl, HB.out⟩
set_option maxRecDepth 100000 in
set_option maxHeartbeats 4000000 in
theorem refchk_x (q1 : Int) (q0 q2 q3 q4 : Int) (A : Option Addr) (c : Nat) (l : List S67) (q6 : ByteArray) (q7 q8 q9 : Int) (q10 q11 : ByteArray) (q12 q13 : Int) (w : World) (hk : inB q1 3 = false) (hz : chkR (⟨q0, q1, q2, q3, q4, l, q6, q7, q8, q9, q10, q11, q12, q13⟩ : RecP) = 1) : Calls Try.prog 15 #[.agg #[.int .i64 q0, .int .i64 q1, .int .i64 q2, .int .i64 q3, .int .i64 q4, (.slice A l.length c), .string q6, .int .i64 q7, .int .i64 q8, .int .i64 q9, .string q10, .string q11, .int .i64 q12, .int .i64 q13]] w fun e w' => e = .returned (.int .i64 (chkR (⟨q0, q1, q2, q3, q4, l, q6, q7, q8, q9, q10, q11, q12, q13⟩ : RecP))) ∧ Below w.heap.size w w' := by
  have hu0 := Try.underlying28
  have hu1 := Try.underlying34
  have hu2 := Try.underlying24
  have hu3 := Try.underlying26
  have hu4 := Try.underlying67
  have HF := Lib.hid hz
  clear hz
  have HB : Aside0 (Below w.heap.size w (w.alloc (.cells #[.int .i64 q0, .int .i64 q1, .int .i64 q2, .int .i64 q3, .int .i64 q4, (.slice A l.length c), .string q6, .int .i64 q7, .int .i64 q8, .int .i64 q9, .string q10, .string q11, .int .i64 q12, .int .i64 q13] 28))) := ⟨below_alloc (Below.refl _ _) _⟩
  have HR : Aside0 (Blk (w.alloc (.cells #[.int .i64 q0, .int .i64 q1, .int .i64 q2, .int .i64 q3, .int .i64 q4, (.slice A l.length c), .string q6, .int .i64 q7, .int .i64 q8, .int .i64 q9, .string q10, .string q11, .int .i64 q12, .int .i64 q13] 28)) w.heap.size #[.int .i64 q0, .int .i64 q1, .int .i64 q2, .int .i64 q3, .int .i64 q4, (.slice A l.length c), .string q6, .int .i64 q7, .int .i64 q8, .int .i64 q9, .string q10, .string q11, .int .i64 q12, .int .i64 q13] 28) := ⟨Blk.new w _ _⟩
  have hk2 : decide (q1 < 0) = false → decide (3 < q1) = true := by
    intro h
    unfold inB at hk
    rw [Bool.and_eq_false_iff, decide_eq_false_iff_not, decide_eq_false_iff_not] at hk
    rw [decide_eq_false_iff_not] at h
    exact decide_eq_true (by omega)
  clear hk
  obtain ⟨d0, d1, d2, d3, d4, d5, d6, d7, d8, d9, d10, d11, d12, d13⟩ := cells14 HR.out
  go_enter Try.func15, Try.ntmps15
  cases h0 : decide (q0 < 0) with
  | true =>
    clear hk2
    go_wp2_with fail
    go_ret
    exact ⟨by rw [HF.out]; rfl, HB.out⟩
  | false =>
    cases h1 : decide (63 < q0) with
    | true =>
      clear hk2
      go_wp2_with fail
      go_ret
      exact ⟨by rw [HF.out]; rfl, HB.out⟩
    | false =>
      cases h2 : decide (q1 < 0) with
      | true =>
        clear hk2
        go_wp2_with fail
        go_ret
        exact ⟨by rw [HF.out]; rfl, HB.out⟩
      | false =>
        have h3 := hk2 h2
        clear hk2
        go_wp2_with fail
        go_ret
        exact ⟨by rw [HF.out]; rfl, HB.out⟩
theorem refchk_calls (r : RecP) (A : Option Addr) (c : Nat) (w : World) (hr : Kd.C k67 w A r.locs.length r.locs) (hl : r.locs.length ≤ 1000) (hc : r.locs.length ≤ c) (h6 : r.ekey.size ≤ 140737488355328) (h11 : r.key.size ≤ 140737488355328) : Calls Try.prog 15 #[.agg #[.int .i64 r.seq, .int .i64 r.kind, .int .i64 r.id, .int .i64 r.gen, .int .i64 r.len, (.slice A r.locs.length c), .string r.ekey, .int .i64 r.evol, .int .i64 r.eoff, .int .i64 r.elen, .string r.dig, .string r.key, .int .i64 r.frm, .int .i64 r.til]] w fun e w' => e = .returned (.int .i64 (chkR r)) ∧ Below w.heap.size w w' := by
  obtain ⟨q0, q1, q2, q3, q4, l, q6, q7, q8, q9, q10, q11, q12, q13⟩ := r
  by_cases k0 : q1 = 0
  · subst k0; exact refchk_0 q0 q2 q3 q4 A c l q6 q7 q8 q9 q10 q11 q12 q13 w hr hl hc h6 h11
  · by_cases k1 : q1 = 1
    · subst k1; exact refchk_1 q0 q2 q3 q4 A c l q6 q7 q8 q9 q10 q11 q12 q13 w hr hl hc h6 h11
    · by_cases k2 : q1 = 2
      · subst k2; exact refchk_2 q0 q2 q3 q4 A c l q6 q7 q8 q9 q10 q11 q12 q13 w hr hl hc h6 h11
      · by_cases k3 : q1 = 3
        · subst k3; exact refchk_3 q0 q2 q3 q4 A c l q6 q7 q8 q9 q10 q11 q12 q13 w hr hl hc h6 h11
        · refine refchk_x q1 q0 q2 q3 q4 A c l q6 q7 q8 q9 q10 q11 q12 q13 w ?_ ?_
          · unfold inB
            rw [Bool.and_eq_false_iff, decide_eq_false_iff_not, decide_eq_false_iff_not]
            omega
          · unfold chkR
            rw [if_neg (show ¬ q1 = 0 from k0), if_neg (show ¬ q1 = 1 from k1), if_neg (show ¬ q1 = 2 from k2), if_neg (show ¬ q1 = 3 from k3), ite_self]
/-- The reference's Check, in the form in which its callers take it. -/
def sluicegateref11_Check.f (a0_0 : Int) (a0_1 : Int) (a0_2 : Int) (a0_3 : Int) (a0_4 : Int) (l0_5 : List S67) (a0_6 : ByteArray) (a0_7 : Int) (a0_8 : Int) (a0_9 : Int) (a0_10 : ByteArray) (a0_11 : ByteArray) (a0_12 : Int) (a0_13 : Int) : Option Int := if l0_5.length ≤ 1000 ∧ a0_6.size ≤ 140737488355328 ∧ a0_11.size ≤ 140737488355328 then some (chkR ⟨a0_0, a0_1, a0_2, a0_3, a0_4, l0_5, a0_6, a0_7, a0_8, a0_9, a0_10, a0_11, a0_12, a0_13⟩) else none
theorem sluicegateref11_Check.calls (a0_0 : Int) (a0_1 : Int) (a0_2 : Int) (a0_3 : Int) (a0_4 : Int) (A0_5 : Option Addr) (c0_5 : Nat) (l0_5 : List S67) (a0_6 : ByteArray) (a0_7 : Int) (a0_8 : Int) (a0_9 : Int) (a0_10 : ByteArray) (a0_11 : ByteArray) (a0_12 : Int) (a0_13 : Int) (r : Int) (w : World) (hr0_5 : Kd.C k67 w A0_5 l0_5.length l0_5) (hc0_5 : l0_5.length ≤ c0_5) (h : sluicegateref11_Check.f a0_0 a0_1 a0_2 a0_3 a0_4 l0_5 a0_6 a0_7 a0_8 a0_9 a0_10 a0_11 a0_12 a0_13 = some r) :
    Calls Try.prog 15 #[.agg #[.int .i64 a0_0, .int .i64 a0_1, .int .i64 a0_2, .int .i64 a0_3, .int .i64 a0_4, (.slice A0_5 l0_5.length c0_5), .string a0_6, .int .i64 a0_7, .int .i64 a0_8, .int .i64 a0_9, .string a0_10, .string a0_11, .int .i64 a0_12, .int .i64 a0_13]] w fun e w' => e = .returned (.int .i64 r) ∧ Below w.heap.size w w' := by
  unfold sluicegateref11_Check.f at h
  split at h
  · rename_i hb
    have := refchk_calls ⟨a0_0, a0_1, a0_2, a0_3, a0_4, l0_5, a0_6, a0_7, a0_8, a0_9, a0_10, a0_11, a0_12, a0_13⟩ A0_5 c0_5 w hr0_5 hb.1 hc0_5 hb.2.1 hb.2.2
    rw [Option.some.inj h] at this
    exact this
  · cases h
end Go.Proofs.Ytkceobahefjlnaa
end
section
/- The reference's numbers and texts, told as plain functions. -/
namespace Go.Proofs.Ytkceobahefjlnaa
open Go.RowKit Go.Proofs.Ytkceobahefjlnaa.Q Go.Proofs.YtkceobahefjlnaaW.PrintWords Go.Proofs.YtkceobahefjlnaaW.PrintLast
theorem rnumber_loop (j : Nat) : ∀ (n k : Nat), n < 2 ^ 56 → n < 128 ^ (j + 1) → 2 * j + 2 ≤ k → sluicegateref05_Number.f k (n : Int) = some (B (enc n)) := by
  induction j with
  | zero =>
    intro n k h56 hn hk
    obtain ⟨k, rfl⟩ : ∃ m, k = m + 1 + 1 := ⟨k - 2, by omega⟩
    simp only [sluicegateref05_Number.f, sluicegateref05_Most.f, Option.bind_some]
    have e : decide ((n : Int) > 72057594037927935) = false := by simp; omega
    rw [if_neg (by omega), e]
    simp only [sluicegateref05_Number.j0]
    rw [if_neg (by decide), if_pos (by omega), enc_lt (by omega), ← nb_one n (by omega), strOfNums_nb]
  | succ j ih =>
    intro n k h56 hn hk
    obtain ⟨k, rfl⟩ : ∃ m, k = m + 1 + 1 := ⟨k - 2, by omega⟩
    simp only [sluicegateref05_Number.f, sluicegateref05_Most.f, Option.bind_some]
    have e : decide ((n : Int) > 72057594037927935) = false := by simp; omega
    rw [if_neg (by omega), e]
    simp only [sluicegateref05_Number.j0]
    rw [if_neg (by decide)]
    by_cases h : n < 128
    · rw [if_pos (by omega), enc_lt (by omega), ← nb_one n (by omega), strOfNums_nb]
    · rw [if_neg (by omega)]
      simp only [Option.bind_some]
      have e1 : wrap64 (Int.tdiv (n : Int) 128) = ((n / 128 : Nat) : Int) := by
        rw [Int.tdiv_eq_ediv_of_nonneg (by omega)]; unfold wrap64; omega
      have e2 : wrap64 (128 + Int.tmod (n : Int) 128) % 256 = ((128 + n % 128 : Nat) : Int) := by
        rw [Int.tmod_eq_emod_of_nonneg (by omega)]; unfold wrap64; omega
      have e3 : strOfNums [((128 + n % 128 : Nat) : Int)] = B [UInt8.ofNat (128 + n % 128)] := by
        rw [← strOfNums_nb]
        simp only [nb, List.map_cons, List.map_nil]
        rw [u8_toNat _ (by omega)]
      have hq : n / 128 < 128 ^ (j + 1) := by
        rw [Nat.pow_succ] at hn
        exact Nat.div_lt_of_lt_mul (by omega)
      have h8 := enc_len8 (m := n / 128) (by omega)
      rw [e1, e2, e3, ih (n / 128) k (by omega) hq (by omega)]
      simp only [Option.bind_some]
      rw [if_pos (by rw [B_size, B_size, List.length_singleton]; omega), B_append, enc_ge (n := n) (by omega), List.singleton_append]
theorem rnumber_f (n k : Nat) (h : n < 2 ^ 56) (hk : 20 ≤ k) : sluicegateref05_Number.f k (n : Int) = some (B (enc n)) := rnumber_loop 7 n k h (by simpa using h) (by omega)
theorem rtxt_f (s : List UInt8) (k : Nat) (h : s.length ≤ 140737488355328) (hk : 20 ≤ k) : sluicegateref05_Text.f k (B s) = some (B (txt s)) := by
  unfold sluicegateref05_Text.f
  rw [B_size, rnumber_f s.length k (by omega) hk]
  simp only [Option.bind_some]
  have := enc_len8 (m := s.length) (by omega)
  rw [if_pos (by rw [B_size]; omega), B_append]
  rfl
end Go.Proofs.Ytkceobahefjlnaa
/-! sluicegateref07.Write: its walk. -/
namespace Go.Proofs.Ytkceobahefjlnaa
open Go.RowKit Q Go.Proofs.YtkceobahefjlnaaW.PrintWords Go.Proofs.YtkceobahefjlnaaW.PrintLast Go.Proofs.YtkceobahefjlnaaW.PrintMore
theorem rnum_L (n : Nat) (h : n < 2 ^ 56) (w : World) : Calls Try.prog 29 #[.int .i64 (n : Int)] w fun e w' => e = .returned (.string (B (enc n))) ∧ Below w.heap.size w w' :=
  sluicegateref05_Number.calls 20 _ _ w (rnumber_f n 20 h (Nat.le_refl _))
theorem rtxt_L (s : List UInt8) (h : s.length ≤ 140737488355328) (w : World) : Calls Try.prog 30 #[.string (B s)] w fun e w' => e = .returned (.string (B (txt s))) ∧ Below w.heap.size w w' :=
  sluicegateref05_Text.calls 20 _ _ w (rtxt_f s 20 h (Nat.le_refl _))
end Go.Proofs.Ytkceobahefjlnaa
end
section
/- sluicegateref11.Write: its walk. -/
namespace Go.Proofs.Ytkceobahefjlnaa
open Go.RowKit Q Go.Proofs.YtkceobahefjlnaaW.PrintWords Go.Proofs.YtkceobahefjlnaaW.PrintLast Go.Proofs.YtkceobahefjlnaaW.PrintMore
set_option linter.unusedSimpArgs false
theorem rseal_L (x : List UInt8) (w : World) (h : x.length ≤ 1000) : Calls Try.prog 18 #[.string (B x)] w fun e w' => e = .returned (.string (B (sealL x))) ∧ Below w.heap.size w w' :=
  sluicegateref04_Seal.calls _ _ w (rseal_f x (by omega))
section
variable {ops : Array Oper} {W0 : World}
theorem q_cat {o : Oper} {rest : List Oper} {Q : Act → Prop} {a : Act} (x y : Operand) (N : Nat) (u v : List UInt8) (ho : o.op = .binOp .add 9 x y 9) (hN : o.dst = some N) (hg : o.guard = none) (hx : a.eval x = .string (B u)) (hy : a.eval y = .string (B v)) (hl : u.length + v.length ≤ 100000)
    (h : wpQuiet Try.prog ops (Below W0.heap.size W0) Q rest (a.put (some N) (.string (B (u ++ v))))) : wpQuiet Try.prog ops (Below W0.heap.size W0) Q (o :: rest) a := by
  refine q_val (.string (B (u ++ v))) (some N) hN (by unfold Region.wanted; rw [hg]) (fun w' _ => ?_) h
  have hs : ¬ 9223372036854775807 < (B u).size + (B v).size := by rw [B_size, B_size]; omega
  unfold execOp
  simp only [ho, hx, hy]
  have e := B_append u v
  go_simp
end
theorem encK2 (a b : Nat) : encK [a, b] 2 = enc a ++ enc b := by simp [encK]
theorem encK3 (a b c : Nat) : encK [a, b, c] 3 = enc a ++ enc b ++ enc c := by simp [encK]
theorem ld_sl (ad : Addr) (v : Value) (w : World) (h : w.cell? ad = some v) : (Instr.loadAt 22 (.pointer (some ad))).run Try.prog w = .ok v w := by
  go_simp
set_option maxRecDepth 100000 in
set_option maxHeartbeats 4000000 in
theorem rrw_0 (s vi vg vn : Nat) (A : Option Addr) (c : Nat) (l : List S67) (q6 : ByteArray) (q7 : Int) (eo el : Nat) (q10 q11 : ByteArray) (q12 q13 : Int) (w : World) (hr : Kd.C k67 w A l.length l) (hl : l.length ≤ 1000) (hc : l.length ≤ c) (h6 : q6.size ≤ 140737488355328) (h11 : q11.size ≤ 140737488355328) (hz : chkR (⟨(s : Int), 0, (vi : Int), (vg : Int), (vn : Int), l, q6, q7, (eo : Int), (el : Int), q10, q11, q12, q13⟩ : RecP) = 0) (hs : s ≤ 63) (hv : VolOk vi vg vn l) (hk : q6.data.toList.length ≤ 32) (ho : eo ≤ 384) (he : el ≤ 384) (hd : q10.size = 32) : Calls Try.prog 13 #[.agg #[.int .i64 (s : Int), .int .i64 0, .int .i64 (vi : Int), .int .i64 (vg : Int), .int .i64 (vn : Int), (.slice A l.length c), .string q6, .int .i64 q7, .int .i64 (eo : Int), .int .i64 (el : Int), .string q10, .string q11, .int .i64 q12, .int .i64 q13]] w fun e w' => e = .returned (.tuple #[.string (B (sealL (recT (⟨(s : Int), 0, (vi : Int), (vg : Int), (vn : Int), l, q6, q7, (eo : Int), (el : Int), q10, q11, q12, q13⟩ : RecP)))), .int .i64 0]) ∧ Below w.heap.size w w' := by
  have hu0 := Try.underlying28
  have hu1 := Try.underlying34
  have hu2 := Try.underlying24
  have hu3 := Try.underlying26
  have hu4 := Try.underlying67
  obtain ⟨kl, rfl⟩ := exB q6
  obtain ⟨dl, rfl⟩ := exB q10
  obtain ⟨res, hres⟩ : ∃ res, B (sealL (recT (⟨(s : Int), 0, (vi : Int), (vg : Int), (vn : Int), l, (B kl), q7, (eo : Int), (el : Int), (B dl), q11, q12, q13⟩ : RecP))) = res := ⟨_, rfl⟩
  rw [hres]
  have HRES := Lib.hid hres
  clear hres
  have HZ := Lib.hid hz
  have HC := Lib.hid hr
  have HL := Lib.hid hl
  have HCC := Lib.hid hc
  have H6 := Lib.hid h6
  have H11 := Lib.hid h11
  have HV := Lib.hid hv
  have HK := Lib.hid hk
  have HO := Lib.hid ho
  have HE := Lib.hid he
  have HDG := Lib.hid hd
  have hvi := hv.i.2
  have hvg := hv.g.2
  have hvn := hv.n.2
  clear hk ho he hd hv
  clear hz hr hl hc h6 h11
  have HB : Aside0 (Below w.heap.size w (w.alloc (.cells #[.int .i64 (s : Int), .int .i64 0, .int .i64 (vi : Int), .int .i64 (vg : Int), .int .i64 (vn : Int), (.slice A l.length c), .string (B kl), .int .i64 q7, .int .i64 (eo : Int), .int .i64 (el : Int), .string (B dl), .string q11, .int .i64 q12, .int .i64 q13] 28))) := ⟨below_alloc (Below.refl _ _) _⟩
  have HR : Aside0 (Blk (w.alloc (.cells #[.int .i64 (s : Int), .int .i64 0, .int .i64 (vi : Int), .int .i64 (vg : Int), .int .i64 (vn : Int), (.slice A l.length c), .string (B kl), .int .i64 q7, .int .i64 (eo : Int), .int .i64 (el : Int), .string (B dl), .string q11, .int .i64 q12, .int .i64 q13] 28)) w.heap.size #[.int .i64 (s : Int), .int .i64 0, .int .i64 (vi : Int), .int .i64 (vg : Int), .int .i64 (vn : Int), (.slice A l.length c), .string (B kl), .int .i64 q7, .int .i64 (eo : Int), .int .i64 (el : Int), .string (B dl), .string q11, .int .i64 q12, .int .i64 q13] 28) := ⟨Blk.new w _ _⟩
  obtain ⟨d0, d1, d2, d3, d4, d5, d6, d7, d8, d9, d10, d11, d12, d13⟩ := cells14 HR.out
  have hlt0 := HR.out.lt
  go_enter Try.func13, Try.ntmps13
  go_wp2_with fail
  clear d0 d1 d2 d3 d4 d5 d6 d7 d8 d9 d10 d11 d12 d13 hlt0
  have hq0 := refchk_calls (⟨(s : Int), 0, (vi : Int), (vg : Int), (vn : Int), l, (B kl), q7, (eo : Int), (el : Int), (B dl), q11, q12, q13⟩ : RecP) A c (w.alloc (.cells #[.int .i64 (s : Int), .int .i64 0, .int .i64 (vi : Int), .int .i64 (vg : Int), .int .i64 (vn : Int), (.slice A l.length c), .string (B kl), .int .i64 q7, .int .i64 (eo : Int), .int .i64 (el : Int), .string (B dl), .string q11, .int .i64 q12, .int .i64 q13] 28)) (Kd.C_below HC.out HB.out) HL.out HCC.out H6.out H11.out
  rw [HZ.out] at hq0
  refine Calls.mono hq0 ?_
  clear hq0
  rintro e wa ⟨rfl, b1⟩
  replace HB := Aside0.mk (below2 HB.out HB.out.size b1)
  replace HR := Aside0.mk (HR.out.keep b1)
  clear b1
  have l0 := enc_len8 (m := s) (by omega)
  have l1 := enc_len8 (m := 0) (by omega)
  obtain ⟨d0, d1, d2, d3, d4, d5, d6, d7, d8, d9, d10, d11, d12, d13⟩ := cells14 HR.out
  have hlt0 := HR.out.lt
  go_wp2_with fail
  refine region_below_tail 8 (by kernel_rfl) (by kernel_rfl) ?_
  simp only [List.take_succ_cons, List.take_zero, List.drop_succ_cons, List.drop_zero]
  repeat (first | (refine q_cat _ _ _ [83, 74] ?_ rfl rfl rfl ?_ ?_ ?_ ?_; rotate_left 1; (· rfl); (· rfl); (· (try simp only [List.length_append, List.length_cons, List.length_nil]); omega); simp only [Act.put, List.setIfInBounds_toArray, List.set_cons_zero, List.set_cons_succ]) | (refine q_cat _ _ _ ?_ ?_ rfl rfl rfl ?_ ?_ ?_ ?_; rotate_left 2; (· rfl); (· rfl); (· (try simp only [List.length_append, List.length_cons, List.length_nil]); omega); simp only [Act.put, List.setIfInBounds_toArray, List.set_cons_zero, List.set_cons_succ]) | go_big_quiet_step (fail) | (refine BigFrame.wpQuiet_want (by rfl) (fun K hK => ?_); go_big_quiet_op; refine ⟨_, fun _ _ => rfl, hK _ ?_⟩; clear hK K) | (refine q_ld 3 _ _ _ _ rfl rfl rfl rfl (ld_int _ _) (by assumption) (by assumption) ?_; simp only [Act.put, List.setIfInBounds_toArray, List.set_cons_zero, List.set_cons_succ]) | (refine q_ld 9 _ _ _ _ rfl rfl rfl rfl (ld_str _ _) (by assumption) (by assumption) ?_; simp only [Act.put, List.setIfInBounds_toArray, List.set_cons_zero, List.set_cons_succ]) | (refine q_ld 22 _ _ _ _ rfl rfl rfl rfl (ld_sl _ _) (by assumption) (by assumption) ?_; simp only [Act.put, List.setIfInBounds_toArray, List.set_cons_zero, List.set_cons_succ]) | (refine q_go (f := 29) Try.func29 (by kernel_rfl) rfl #[.int .i64 (s : Int)] _ _ rfl rfl rfl (by simp only [List.map_toArray, List.map_cons, List.map_nil]; rfl) (fun w' _ => rnum_L s (by omega) w') ?_; simp only [Act.put, List.setIfInBounds_toArray, List.set_cons_zero, List.set_cons_succ]) | (refine q_go (f := 29) Try.func29 (by kernel_rfl) rfl #[.int .i64 0] _ _ rfl rfl rfl (by simp only [List.map_toArray, List.map_cons, List.map_nil]; rfl) (fun w' _ => rnum_L 0 (by decide) w') ?_; simp only [Act.put, List.setIfInBounds_toArray, List.set_cons_zero, List.set_cons_succ]))
  refine wpQuiet_nil ?_
  intro w2 hw'
  replace HB := Aside0.mk (below2 HB.out HB.out.size hw')
  replace HR := Aside0.mk (HR.out.keep hw')
  clear hw'
  clear d0 d1 d2 d3 d4 d5 d6 d7 d8 d9 d10 d11 d12 d13 hlt0
  generalize hE1 : [83, 74] ++ enc s ++ enc 0 = a1
  have A1 : a1.length ≤ 18 := by rw [← hE1]; simp only [List.length_append, List.length_cons, List.length_nil]; omega
  have HE1 := Lib.hid hE1
  clear hE1 l0 l1
  generalize [83, 74] ++ enc s = z1
  have l0 := enc_len8 (m := vi) (by omega)
  have l1 := enc_len8 (m := vg) (by omega)
  have l2 := enc_len8 (m := vn) (by omega)
  obtain ⟨d0, d1, d2, d3, d4, d5, d6, d7, d8, d9, d10, d11, d12, d13⟩ := cells14 HR.out
  have hlt0 := HR.out.lt
  go_wp2_with fail
  clear d0 d1 d2 d3 d4 d5 d6 d7 d8 d9 d10 d11 d12 d13 hlt0
  have HV6 := Aside0.mk (Blk.new w2 #[.int .i64 (vi : Int), .int .i64 (vg : Int), .int .i64 (vn : Int), .slice A l.length c] 24)
  replace HB := Aside0.mk (below_alloc HB.out (.cells #[.int .i64 (vi : Int), .int .i64 (vg : Int), .int .i64 (vn : Int), .slice A l.length c] 24))
  replace HR := Aside0.mk (HR.out.alloc (.cells #[.int .i64 (vi : Int), .int .i64 (vg : Int), .int .i64 (vn : Int), .slice A l.length c] 24))
  obtain ⟨v0, v1, v2, v3⟩ := cells4 HV6.out
  have hlt6 := HV6.out.lt
  refine region_below_tail 13 (by kernel_rfl) (by kernel_rfl) ?_
  simp only [List.take_succ_cons, List.take_zero, List.drop_succ_cons, List.drop_zero]
  repeat (first | (refine q_cat _ _ _ [83, 74] ?_ rfl rfl rfl ?_ ?_ ?_ ?_; rotate_left 1; (· rfl); (· rfl); (· (try simp only [List.length_append, List.length_cons, List.length_nil]); omega); simp only [Act.put, List.setIfInBounds_toArray, List.set_cons_zero, List.set_cons_succ]) | (refine q_cat _ _ _ ?_ ?_ rfl rfl rfl ?_ ?_ ?_ ?_; rotate_left 2; (· rfl); (· rfl); (· (try simp only [List.length_append, List.length_cons, List.length_nil]); omega); simp only [Act.put, List.setIfInBounds_toArray, List.set_cons_zero, List.set_cons_succ]) | go_big_quiet_step (fail) | (refine BigFrame.wpQuiet_want (by rfl) (fun K hK => ?_); go_big_quiet_op; refine ⟨_, fun _ _ => rfl, hK _ ?_⟩; clear hK K) | (refine q_ld 3 _ _ _ _ rfl rfl rfl rfl (ld_int _ _) (by assumption) (by assumption) ?_; simp only [Act.put, List.setIfInBounds_toArray, List.set_cons_zero, List.set_cons_succ]) | (refine q_ld 9 _ _ _ _ rfl rfl rfl rfl (ld_str _ _) (by assumption) (by assumption) ?_; simp only [Act.put, List.setIfInBounds_toArray, List.set_cons_zero, List.set_cons_succ]) | (refine q_ld 22 _ _ _ _ rfl rfl rfl rfl (ld_sl _ _) (by assumption) (by assumption) ?_; simp only [Act.put, List.setIfInBounds_toArray, List.set_cons_zero, List.set_cons_succ]) | (refine q_go (f := 29) Try.func29 (by kernel_rfl) rfl #[.int .i64 (vi : Int)] _ _ rfl rfl rfl (by simp only [List.map_toArray, List.map_cons, List.map_nil]; rfl) (fun w' _ => rnum_L vi (by omega) w') ?_; simp only [Act.put, List.setIfInBounds_toArray, List.set_cons_zero, List.set_cons_succ]) | (refine q_go (f := 29) Try.func29 (by kernel_rfl) rfl #[.int .i64 (vg : Int)] _ _ rfl rfl rfl (by simp only [List.map_toArray, List.map_cons, List.map_nil]; rfl) (fun w' _ => rnum_L vg (by omega) w') ?_; simp only [Act.put, List.setIfInBounds_toArray, List.set_cons_zero, List.set_cons_succ]) | (refine q_go (f := 29) Try.func29 (by kernel_rfl) rfl #[.int .i64 (vn : Int)] _ _ rfl rfl rfl (by simp only [List.map_toArray, List.map_cons, List.map_nil]; rfl) (fun w' _ => rnum_L vn (by omega) w') ?_; simp only [Act.put, List.setIfInBounds_toArray, List.set_cons_zero, List.set_cons_succ]))
  refine wpQuiet_nil ?_
  intro w3 hw'
  replace HB := Aside0.mk (below2 HB.out HB.out.size hw')
  replace HR := Aside0.mk (HR.out.keep hw')
  replace HV6 := Aside0.mk (HV6.out.keep hw')
  clear hw'
  clear v0 v1 v2 v3 hlt6
  generalize w2.heap.size = g6 at HV6 ⊢
  generalize hE2 : a1 ++ enc vi ++ enc vg ++ enc vn = a2
  have A2 : a2.length ≤ 42 := by rw [← hE2]; simp only [List.length_append]; omega
  have HE2 := Lib.hid hE2
  clear hE2 l0 l1 l2 A1
  generalize a1 ++ enc vi ++ enc vg = z3
  generalize a1 ++ enc vi = z2
  go_wp2_with fail
  go_loopw [5, 7] (fun sv i wr => ∃ k : Nat, k ≤ 9 ∧ i = .int .i64 k ∧ sv = .string (B (a2 ++ locsT l k)) ∧ Aside0 (Below w.heap.size w wr) ∧ Aside0 (Blk wr w.heap.size #[.int .i64 (s : Int), .int .i64 0, .int .i64 (vi : Int), .int .i64 (vg : Int), .int .i64 (vn : Int), (.slice A l.length c), .string (B kl), .int .i64 q7, .int .i64 (eo : Int), .int .i64 (el : Int), .string (B dl), .string q11, .int .i64 q12, .int .i64 q13] 28) ∧ Aside0 (Blk wr g6 #[.int .i64 (vi : Int), .int .i64 (vg : Int), .int .i64 (vn : Int), .slice A l.length c] 24)) (fun _ i _ => 9 - (intOf i).toNat)
  case atStart => exact ⟨0, Nat.zero_le _, rfl, by rw [locsT, List.append_nil], HB, HR, HV6⟩
  case round =>
    clear HB HR HV6
    obtain ⟨k, hk, rfl, rfl, HB, HR, HV6⟩ := hrel
    by_cases hlt : k < 9
    · have hkl : k < l.length := by have := HV.out.nine; omega
      obtain ⟨ad, hA, k0, k1⟩ := at_T67 HC.out k (by omega) (by omega)
      rw [Int.toNat_natCast] at k0 k1
      have hKB := Nat.lt_of_lt_of_le (lt_cell k0) HB.out.size
      have hKB1 := Nat.lt_of_lt_of_le (lt_cell k1) HB.out.size
      have e0 := (HB.out.cell (lt_cell k0)).trans k0
      have e1 := (HB.out.cell (lt_cell k1)).trans k1
      clear k0 k1
      subst hA
      have hv9 := HV.out.locs k hlt
      have hz0 := Int.toNat_of_nonneg hv9.1.1
      have hz1 := Int.toNat_of_nonneg hv9.2.1
      have hb0 : (rd_T67 l k).f0.toNat ≤ 11 := by omega
      have hb1 : (rd_T67 l k).f1.toNat ≤ 47 := by omega
      have HLT := Lib.hid (show locsT l (k + 1) = locsT l k ++ encK [(rd_T67 l k).f0.toNat, (rd_T67 l k).f1.toNat] 2 from rfl)
      have hll := locsT_len HV.out k (by omega)
      rw [← hz0] at e0
      rw [← hz1] at e1
      generalize (rd_T67 l k).f0.toNat = x0 at *
      generalize (rd_T67 l k).f1.toNat = x1 at *
      clear hv9 hz0 hz1
      have l0 := enc_len8 (m := x0) (by omega)
      have l1 := enc_len8 (m := x1) (by omega)
      obtain ⟨v0, v1, v2, v3⟩ := cells4 HV6.out
      have hlt6 := HV6.out.lt
      go_wp2_with fail
      refine region_below_tail 17 (by kernel_rfl) (by kernel_rfl) ?_
      simp only [List.take_succ_cons, List.take_zero, List.drop_succ_cons, List.drop_zero]
      repeat (first | (refine q_cat _ _ _ [83, 74] ?_ rfl rfl rfl ?_ ?_ ?_ ?_; rotate_left 1; (· rfl); (· rfl); (· (try simp only [List.length_append, List.length_cons, List.length_nil]); omega); simp only [Act.put, List.setIfInBounds_toArray, List.set_cons_zero, List.set_cons_succ]) | (refine q_cat _ _ _ ?_ ?_ rfl rfl rfl ?_ ?_ ?_ ?_; rotate_left 2; (· rfl); (· rfl); (· (try simp only [List.length_append, List.length_cons, List.length_nil]); omega); simp only [Act.put, List.setIfInBounds_toArray, List.set_cons_zero, List.set_cons_succ]) | go_big_quiet_step (fail) | (refine BigFrame.wpQuiet_want (by rfl) (fun K hK => ?_); go_big_quiet_op; refine ⟨_, fun _ _ => rfl, hK _ ?_⟩; clear hK K) | (refine q_ld 3 _ _ _ _ rfl rfl rfl rfl (ld_int _ _) (by assumption) (by assumption) ?_; simp only [Act.put, List.setIfInBounds_toArray, List.set_cons_zero, List.set_cons_succ]) | (refine q_ld 9 _ _ _ _ rfl rfl rfl rfl (ld_str _ _) (by assumption) (by assumption) ?_; simp only [Act.put, List.setIfInBounds_toArray, List.set_cons_zero, List.set_cons_succ]) | (refine q_ld 22 _ _ _ _ rfl rfl rfl rfl (ld_sl _ _) (by assumption) (by assumption) ?_; simp only [Act.put, List.setIfInBounds_toArray, List.set_cons_zero, List.set_cons_succ]) | (refine q_go (f := 29) Try.func29 (by kernel_rfl) rfl #[.int .i64 (x0 : Int)] _ _ rfl rfl rfl (by simp only [List.map_toArray, List.map_cons, List.map_nil]; rfl) (fun w' _ => rnum_L x0 (by omega) w') ?_; simp only [Act.put, List.setIfInBounds_toArray, List.set_cons_zero, List.set_cons_succ]) | (refine q_go (f := 29) Try.func29 (by kernel_rfl) rfl #[.int .i64 (x1 : Int)] _ _ rfl rfl rfl (by simp only [List.map_toArray, List.map_cons, List.map_nil]; rfl) (fun w' _ => rnum_L x1 (by omega) w') ?_; simp only [Act.put, List.setIfInBounds_toArray, List.set_cons_zero, List.set_cons_succ]))
      refine wpQuiet_nil ?_
      intro w4 hw'
      replace HB := Aside0.mk (below2 HB.out HB.out.size hw')
      replace HR := Aside0.mk (HR.out.keep hw')
      replace HV6 := Aside0.mk (HV6.out.keep hw')
      clear hw'
      clear v0 v1 v2 v3 hlt6 e0 e1 hKB hKB1
      go_wp2_with fail
      go_roundw
      case rel => exact ⟨k + 1, by omega, by go_num, by rw [HLT.out, encK2]; simp [List.append_assoc], HB, HR, HV6⟩
      case measure => simp [intOf]; omega
    · obtain rfl : k = 9 := by omega
      obtain ⟨w3, rfl⟩ : ∃ x, x = wr := ⟨wr, rfl⟩
      have hll := locsT_len HV.out 9 (by decide)
      generalize hE3 : a2 ++ locsT l 9 = a3
      have A3 : a3.length ≤ 186 := by rw [← hE3, List.length_append]; omega
      have HE3 := Lib.hid hE3
      clear hE3 hll A2 hlt hk HV6
      have l0 := txt_le kl (by have := HK.out; rw [B_data] at this; omega)
      have hk := HK.out
      rw [B_data] at hk
      have l1 := enc_len8 (m := eo) (by have := HO.out; omega)
      have l2 := enc_len8 (m := el) (by have := HE.out; omega)
      have hdl := HDG.out
      rw [B_size] at hdl
      obtain ⟨d0, d1, d2, d3, d4, d5, d6, d7, d8, d9, d10, d11, d12, d13⟩ := cells14 HR.out
      have hlt0 := HR.out.lt
      go_wp2_with fail
      refine region_below_tail 20 (by kernel_rfl) (by kernel_rfl) ?_
      simp only [List.take_succ_cons, List.take_zero, List.drop_succ_cons, List.drop_zero]
      repeat (first | (refine q_cat _ _ _ [83, 74] ?_ rfl rfl rfl ?_ ?_ ?_ ?_; rotate_left 1; (· rfl); (· rfl); (· (try simp only [List.length_append, List.length_cons, List.length_nil]); omega); simp only [Act.put, List.setIfInBounds_toArray, List.set_cons_zero, List.set_cons_succ]) | (refine q_cat _ _ _ ?_ ?_ rfl rfl rfl ?_ ?_ ?_ ?_; rotate_left 2; (· rfl); (· rfl); (· (try simp only [List.length_append, List.length_cons, List.length_nil]); omega); simp only [Act.put, List.setIfInBounds_toArray, List.set_cons_zero, List.set_cons_succ]) | go_big_quiet_step (fail) | (refine BigFrame.wpQuiet_want (by rfl) (fun K hK => ?_); go_big_quiet_op; refine ⟨_, fun _ _ => rfl, hK _ ?_⟩; clear hK K) | (refine q_ld 3 _ _ _ _ rfl rfl rfl rfl (ld_int _ _) (by assumption) (by assumption) ?_; simp only [Act.put, List.setIfInBounds_toArray, List.set_cons_zero, List.set_cons_succ]) | (refine q_ld 9 _ _ _ _ rfl rfl rfl rfl (ld_str _ _) (by assumption) (by assumption) ?_; simp only [Act.put, List.setIfInBounds_toArray, List.set_cons_zero, List.set_cons_succ]) | (refine q_ld 22 _ _ _ _ rfl rfl rfl rfl (ld_sl _ _) (by assumption) (by assumption) ?_; simp only [Act.put, List.setIfInBounds_toArray, List.set_cons_zero, List.set_cons_succ]) | (refine q_go (f := 29) Try.func29 (by kernel_rfl) rfl #[.int .i64 (eo : Int)] _ _ rfl rfl rfl (by simp only [List.map_toArray, List.map_cons, List.map_nil]; rfl) (fun w' _ => rnum_L eo (by have := HO.out; omega) w') ?_; simp only [Act.put, List.setIfInBounds_toArray, List.set_cons_zero, List.set_cons_succ]) | (refine q_go (f := 29) Try.func29 (by kernel_rfl) rfl #[.int .i64 (el : Int)] _ _ rfl rfl rfl (by simp only [List.map_toArray, List.map_cons, List.map_nil]; rfl) (fun w' _ => rnum_L el (by have := HE.out; omega) w') ?_; simp only [Act.put, List.setIfInBounds_toArray, List.set_cons_zero, List.set_cons_succ]) | (refine q_go (f := 30) Try.func30 (by kernel_rfl) rfl #[.string (B kl)] _ _ rfl rfl rfl (by simp only [List.map_toArray, List.map_cons, List.map_nil]; rfl) (fun w' _ => rtxt_L kl (by omega) w') ?_; simp only [Act.put, List.setIfInBounds_toArray, List.set_cons_zero, List.set_cons_succ]))
      refine wpQuiet_nil ?_
      intro w5 hw'
      replace HB := Aside0.mk (below2 HB.out HB.out.size hw')
      replace HR := Aside0.mk (HR.out.keep hw')
      clear hw'
      clear d0 d1 d2 d3 d4 d5 d6 d7 d8 d9 d10 d11 d12 d13 hlt0
      generalize hE4 : a3 ++ txt kl ++ enc eo ++ enc el ++ dl = a4
      have A4 : a4.length ≤ 274 := by rw [← hE4]; simp only [List.length_append]; omega
      have HE4 := Lib.hid hE4
      clear hE4 l0 l1 l2 hk hdl A3
      obtain ⟨d0, d1, d2, d3, d4, d5, d6, d7, d8, d9, d10, d11, d12, d13⟩ := cells14 HR.out
      have hlt0 := HR.out.lt
      go_wp2_with fail
      clear d0 d1 d2 d3 d4 d5 d6 d7 d8 d9 d10 d11 d12 d13 hlt0
      refine Calls.mono (rseal_L a4 w5 (by omega)) ?_
      rintro e wz ⟨rfl, b1⟩
      replace HB := Aside0.mk (below2 HB.out HB.out.size b1)
      clear b1
      go_wp2_with fail
      go_ret2
      refine ⟨?_, HB.out⟩
      have hnine := HV.out.nine
      rw [← HRES.out, ← HE4.out, ← HE3.out, ← HE2.out, ← HE1.out]
      simp [recT, headT, volT, encK2, encK3, hnine, B_data]
set_option maxRecDepth 100000 in
set_option maxHeartbeats 4000000 in
theorem rrw_1 (s : Nat) (q2 q3 q4 : Int) (A : Option Addr) (c : Nat) (l : List S67) (q6 : ByteArray) (q7 q8 q9 : Int) (q10 q11 : ByteArray) (q12 q13 : Int) (w : World) (hr : Kd.C k67 w A l.length l) (hl : l.length ≤ 1000) (hc : l.length ≤ c) (h6 : q6.size ≤ 140737488355328) (h11 : q11.size ≤ 140737488355328) (hz : chkR (⟨(s : Int), 1, q2, q3, q4, l, q6, q7, q8, q9, q10, q11, q12, q13⟩ : RecP) = 0) (hs : s ≤ 63) (hk : q11.data.toList.length ≤ 32) : Calls Try.prog 13 #[.agg #[.int .i64 (s : Int), .int .i64 1, .int .i64 q2, .int .i64 q3, .int .i64 q4, (.slice A l.length c), .string q6, .int .i64 q7, .int .i64 q8, .int .i64 q9, .string q10, .string q11, .int .i64 q12, .int .i64 q13]] w fun e w' => e = .returned (.tuple #[.string (B (sealL (recT (⟨(s : Int), 1, q2, q3, q4, l, q6, q7, q8, q9, q10, q11, q12, q13⟩ : RecP)))), .int .i64 0]) ∧ Below w.heap.size w w' := by
  have hu0 := Try.underlying28
  have hu1 := Try.underlying34
  have hu2 := Try.underlying24
  have hu3 := Try.underlying26
  have hu4 := Try.underlying67
  obtain ⟨res, hres⟩ : ∃ res, B (sealL (recT (⟨(s : Int), 1, q2, q3, q4, l, q6, q7, q8, q9, q10, q11, q12, q13⟩ : RecP))) = res := ⟨_, rfl⟩
  rw [hres]
  have HRES := Lib.hid hres
  clear hres
  have HZ := Lib.hid hz
  have HC := Lib.hid hr
  have HL := Lib.hid hl
  have HCC := Lib.hid hc
  have H6 := Lib.hid h6
  have H11 := Lib.hid h11
  have HK := Lib.hid hk
  clear hk
  clear hz hr hl hc h6 h11
  have HB : Aside0 (Below w.heap.size w (w.alloc (.cells #[.int .i64 (s : Int), .int .i64 1, .int .i64 q2, .int .i64 q3, .int .i64 q4, (.slice A l.length c), .string q6, .int .i64 q7, .int .i64 q8, .int .i64 q9, .string q10, .string q11, .int .i64 q12, .int .i64 q13] 28))) := ⟨below_alloc (Below.refl _ _) _⟩
  have HR : Aside0 (Blk (w.alloc (.cells #[.int .i64 (s : Int), .int .i64 1, .int .i64 q2, .int .i64 q3, .int .i64 q4, (.slice A l.length c), .string q6, .int .i64 q7, .int .i64 q8, .int .i64 q9, .string q10, .string q11, .int .i64 q12, .int .i64 q13] 28)) w.heap.size #[.int .i64 (s : Int), .int .i64 1, .int .i64 q2, .int .i64 q3, .int .i64 q4, (.slice A l.length c), .string q6, .int .i64 q7, .int .i64 q8, .int .i64 q9, .string q10, .string q11, .int .i64 q12, .int .i64 q13] 28) := ⟨Blk.new w _ _⟩
  obtain ⟨d0, d1, d2, d3, d4, d5, d6, d7, d8, d9, d10, d11, d12, d13⟩ := cells14 HR.out
  have hlt0 := HR.out.lt
  go_enter Try.func13, Try.ntmps13
  go_wp2_with fail
  clear d0 d1 d2 d3 d4 d5 d6 d7 d8 d9 d10 d11 d12 d13 hlt0
  have hq0 := refchk_calls (⟨(s : Int), 1, q2, q3, q4, l, q6, q7, q8, q9, q10, q11, q12, q13⟩ : RecP) A c (w.alloc (.cells #[.int .i64 (s : Int), .int .i64 1, .int .i64 q2, .int .i64 q3, .int .i64 q4, (.slice A l.length c), .string q6, .int .i64 q7, .int .i64 q8, .int .i64 q9, .string q10, .string q11, .int .i64 q12, .int .i64 q13] 28)) (Kd.C_below HC.out HB.out) HL.out HCC.out H6.out H11.out
  rw [HZ.out] at hq0
  refine Calls.mono hq0 ?_
  clear hq0
  rintro e wa ⟨rfl, b1⟩
  replace HB := Aside0.mk (below2 HB.out HB.out.size b1)
  replace HR := Aside0.mk (HR.out.keep b1)
  clear b1
  have l0 := enc_len8 (m := s) (by omega)
  have l1 := enc_len8 (m := 1) (by omega)
  obtain ⟨d0, d1, d2, d3, d4, d5, d6, d7, d8, d9, d10, d11, d12, d13⟩ := cells14 HR.out
  have hlt0 := HR.out.lt
  go_wp2_with fail
  refine region_below_tail 8 (by kernel_rfl) (by kernel_rfl) ?_
  simp only [List.take_succ_cons, List.take_zero, List.drop_succ_cons, List.drop_zero]
  repeat (first | (refine q_cat _ _ _ [83, 74] ?_ rfl rfl rfl ?_ ?_ ?_ ?_; rotate_left 1; (· rfl); (· rfl); (· (try simp only [List.length_append, List.length_cons, List.length_nil]); omega); simp only [Act.put, List.setIfInBounds_toArray, List.set_cons_zero, List.set_cons_succ]) | (refine q_cat _ _ _ ?_ ?_ rfl rfl rfl ?_ ?_ ?_ ?_; rotate_left 2; (· rfl); (· rfl); (· (try simp only [List.length_append, List.length_cons, List.length_nil]); omega); simp only [Act.put, List.setIfInBounds_toArray, List.set_cons_zero, List.set_cons_succ]) | go_big_quiet_step (fail) | (refine BigFrame.wpQuiet_want (by rfl) (fun K hK => ?_); go_big_quiet_op; refine ⟨_, fun _ _ => rfl, hK _ ?_⟩; clear hK K) | (refine q_ld 3 _ _ _ _ rfl rfl rfl rfl (ld_int _ _) (by assumption) (by assumption) ?_; simp only [Act.put, List.setIfInBounds_toArray, List.set_cons_zero, List.set_cons_succ]) | (refine q_ld 9 _ _ _ _ rfl rfl rfl rfl (ld_str _ _) (by assumption) (by assumption) ?_; simp only [Act.put, List.setIfInBounds_toArray, List.set_cons_zero, List.set_cons_succ]) | (refine q_ld 22 _ _ _ _ rfl rfl rfl rfl (ld_sl _ _) (by assumption) (by assumption) ?_; simp only [Act.put, List.setIfInBounds_toArray, List.set_cons_zero, List.set_cons_succ]) | (refine q_go (f := 29) Try.func29 (by kernel_rfl) rfl #[.int .i64 (s : Int)] _ _ rfl rfl rfl (by simp only [List.map_toArray, List.map_cons, List.map_nil]; rfl) (fun w' _ => rnum_L s (by omega) w') ?_; simp only [Act.put, List.setIfInBounds_toArray, List.set_cons_zero, List.set_cons_succ]) | (refine q_go (f := 29) Try.func29 (by kernel_rfl) rfl #[.int .i64 1] _ _ rfl rfl rfl (by simp only [List.map_toArray, List.map_cons, List.map_nil]; rfl) (fun w' _ => rnum_L 1 (by decide) w') ?_; simp only [Act.put, List.setIfInBounds_toArray, List.set_cons_zero, List.set_cons_succ]))
  refine wpQuiet_nil ?_
  intro w2 hw'
  replace HB := Aside0.mk (below2 HB.out HB.out.size hw')
  replace HR := Aside0.mk (HR.out.keep hw')
  clear hw'
  clear d0 d1 d2 d3 d4 d5 d6 d7 d8 d9 d10 d11 d12 d13 hlt0
  generalize hE1 : [83, 74] ++ enc s ++ enc 1 = a1
  have A1 : a1.length ≤ 18 := by rw [← hE1]; simp only [List.length_append, List.length_cons, List.length_nil]; omega
  have HE1 := Lib.hid hE1
  clear hE1 l0 l1
  generalize [83, 74] ++ enc s = z1
  have ht := txt_le q11.data.toList (by have := HK.out; omega)
  have hk := HK.out
  have hs : ¬ 9223372036854775807 < (B a1).size + (B (txt q11.data.toList)).size := by rw [B_size, B_size]; omega
  have hcat := B_append a1 (txt q11.data.toList)
  obtain ⟨d0, d1, d2, d3, d4, d5, d6, d7, d8, d9, d10, d11, d12, d13⟩ := cells14 HR.out
  have hlt0 := HR.out.lt
  go_wp2_with fail
  clear d0 d1 d2 d3 d4 d5 d6 d7 d8 d9 d10 d11 d12 d13 hlt0
  have hx := rtxt_L q11.data.toList (by omega) w2
  rw [B_eta] at hx
  refine Calls.mono hx ?_
  clear hx
  rintro e w3 ⟨rfl, b1⟩
  replace HB := Aside0.mk (below2 HB.out HB.out.size b1)
  clear b1
  go_wp2_with fail
  refine Calls.mono (rseal_L (a1 ++ txt q11.data.toList) w3 (by rw [List.length_append]; omega)) ?_
  rintro e wz ⟨rfl, b1⟩
  replace HB := Aside0.mk (below2 HB.out HB.out.size b1)
  clear b1
  go_wp2_with fail
  go_ret2
  refine ⟨?_, HB.out⟩
  rw [← HRES.out, ← HE1.out]
  show _ = _
  simp [recT, headT, encK2]
set_option maxRecDepth 100000 in
set_option maxHeartbeats 4000000 in
theorem rrw_2 (s vi vg vn : Nat) (A : Option Addr) (c : Nat) (l : List S67) (q6 : ByteArray) (q7 q8 q9 : Int) (q10 q11 : ByteArray) (q12 q13 : Int) (w : World) (hr : Kd.C k67 w A l.length l) (hl : l.length ≤ 1000) (hc : l.length ≤ c) (h6 : q6.size ≤ 140737488355328) (h11 : q11.size ≤ 140737488355328) (hz : chkR (⟨(s : Int), 2, (vi : Int), (vg : Int), (vn : Int), l, q6, q7, q8, q9, q10, q11, q12, q13⟩ : RecP) = 0) (hs : s ≤ 63) (hv : VolOk vi vg vn l) : Calls Try.prog 13 #[.agg #[.int .i64 (s : Int), .int .i64 2, .int .i64 (vi : Int), .int .i64 (vg : Int), .int .i64 (vn : Int), (.slice A l.length c), .string q6, .int .i64 q7, .int .i64 q8, .int .i64 q9, .string q10, .string q11, .int .i64 q12, .int .i64 q13]] w fun e w' => e = .returned (.tuple #[.string (B (sealL (recT (⟨(s : Int), 2, (vi : Int), (vg : Int), (vn : Int), l, q6, q7, q8, q9, q10, q11, q12, q13⟩ : RecP)))), .int .i64 0]) ∧ Below w.heap.size w w' := by
  have hu0 := Try.underlying28
  have hu1 := Try.underlying34
  have hu2 := Try.underlying24
  have hu3 := Try.underlying26
  have hu4 := Try.underlying67
  obtain ⟨res, hres⟩ : ∃ res, B (sealL (recT (⟨(s : Int), 2, (vi : Int), (vg : Int), (vn : Int), l, q6, q7, q8, q9, q10, q11, q12, q13⟩ : RecP))) = res := ⟨_, rfl⟩
  rw [hres]
  have HRES := Lib.hid hres
  clear hres
  have HZ := Lib.hid hz
  have HC := Lib.hid hr
  have HL := Lib.hid hl
  have HCC := Lib.hid hc
  have H6 := Lib.hid h6
  have H11 := Lib.hid h11
  have HV := Lib.hid hv
  have hvi := hv.i.2
  have hvg := hv.g.2
  have hvn := hv.n.2
  clear hv
  clear hz hr hl hc h6 h11
  have HB : Aside0 (Below w.heap.size w (w.alloc (.cells #[.int .i64 (s : Int), .int .i64 2, .int .i64 (vi : Int), .int .i64 (vg : Int), .int .i64 (vn : Int), (.slice A l.length c), .string q6, .int .i64 q7, .int .i64 q8, .int .i64 q9, .string q10, .string q11, .int .i64 q12, .int .i64 q13] 28))) := ⟨below_alloc (Below.refl _ _) _⟩
  have HR : Aside0 (Blk (w.alloc (.cells #[.int .i64 (s : Int), .int .i64 2, .int .i64 (vi : Int), .int .i64 (vg : Int), .int .i64 (vn : Int), (.slice A l.length c), .string q6, .int .i64 q7, .int .i64 q8, .int .i64 q9, .string q10, .string q11, .int .i64 q12, .int .i64 q13] 28)) w.heap.size #[.int .i64 (s : Int), .int .i64 2, .int .i64 (vi : Int), .int .i64 (vg : Int), .int .i64 (vn : Int), (.slice A l.length c), .string q6, .int .i64 q7, .int .i64 q8, .int .i64 q9, .string q10, .string q11, .int .i64 q12, .int .i64 q13] 28) := ⟨Blk.new w _ _⟩
  obtain ⟨d0, d1, d2, d3, d4, d5, d6, d7, d8, d9, d10, d11, d12, d13⟩ := cells14 HR.out
  have hlt0 := HR.out.lt
  go_enter Try.func13, Try.ntmps13
  go_wp2_with fail
  clear d0 d1 d2 d3 d4 d5 d6 d7 d8 d9 d10 d11 d12 d13 hlt0
  have hq0 := refchk_calls (⟨(s : Int), 2, (vi : Int), (vg : Int), (vn : Int), l, q6, q7, q8, q9, q10, q11, q12, q13⟩ : RecP) A c (w.alloc (.cells #[.int .i64 (s : Int), .int .i64 2, .int .i64 (vi : Int), .int .i64 (vg : Int), .int .i64 (vn : Int), (.slice A l.length c), .string q6, .int .i64 q7, .int .i64 q8, .int .i64 q9, .string q10, .string q11, .int .i64 q12, .int .i64 q13] 28)) (Kd.C_below HC.out HB.out) HL.out HCC.out H6.out H11.out
  rw [HZ.out] at hq0
  refine Calls.mono hq0 ?_
  clear hq0
  rintro e wa ⟨rfl, b1⟩
  replace HB := Aside0.mk (below2 HB.out HB.out.size b1)
  replace HR := Aside0.mk (HR.out.keep b1)
  clear b1
  have l0 := enc_len8 (m := s) (by omega)
  have l1 := enc_len8 (m := 2) (by omega)
  obtain ⟨d0, d1, d2, d3, d4, d5, d6, d7, d8, d9, d10, d11, d12, d13⟩ := cells14 HR.out
  have hlt0 := HR.out.lt
  go_wp2_with fail
  refine region_below_tail 8 (by kernel_rfl) (by kernel_rfl) ?_
  simp only [List.take_succ_cons, List.take_zero, List.drop_succ_cons, List.drop_zero]
  repeat (first | (refine q_cat _ _ _ [83, 74] ?_ rfl rfl rfl ?_ ?_ ?_ ?_; rotate_left 1; (· rfl); (· rfl); (· (try simp only [List.length_append, List.length_cons, List.length_nil]); omega); simp only [Act.put, List.setIfInBounds_toArray, List.set_cons_zero, List.set_cons_succ]) | (refine q_cat _ _ _ ?_ ?_ rfl rfl rfl ?_ ?_ ?_ ?_; rotate_left 2; (· rfl); (· rfl); (· (try simp only [List.length_append, List.length_cons, List.length_nil]); omega); simp only [Act.put, List.setIfInBounds_toArray, List.set_cons_zero, List.set_cons_succ]) | go_big_quiet_step (fail) | (refine BigFrame.wpQuiet_want (by rfl) (fun K hK => ?_); go_big_quiet_op; refine ⟨_, fun _ _ => rfl, hK _ ?_⟩; clear hK K) | (refine q_ld 3 _ _ _ _ rfl rfl rfl rfl (ld_int _ _) (by assumption) (by assumption) ?_; simp only [Act.put, List.setIfInBounds_toArray, List.set_cons_zero, List.set_cons_succ]) | (refine q_ld 9 _ _ _ _ rfl rfl rfl rfl (ld_str _ _) (by assumption) (by assumption) ?_; simp only [Act.put, List.setIfInBounds_toArray, List.set_cons_zero, List.set_cons_succ]) | (refine q_ld 22 _ _ _ _ rfl rfl rfl rfl (ld_sl _ _) (by assumption) (by assumption) ?_; simp only [Act.put, List.setIfInBounds_toArray, List.set_cons_zero, List.set_cons_succ]) | (refine q_go (f := 29) Try.func29 (by kernel_rfl) rfl #[.int .i64 (s : Int)] _ _ rfl rfl rfl (by simp only [List.map_toArray, List.map_cons, List.map_nil]; rfl) (fun w' _ => rnum_L s (by omega) w') ?_; simp only [Act.put, List.setIfInBounds_toArray, List.set_cons_zero, List.set_cons_succ]) | (refine q_go (f := 29) Try.func29 (by kernel_rfl) rfl #[.int .i64 2] _ _ rfl rfl rfl (by simp only [List.map_toArray, List.map_cons, List.map_nil]; rfl) (fun w' _ => rnum_L 2 (by decide) w') ?_; simp only [Act.put, List.setIfInBounds_toArray, List.set_cons_zero, List.set_cons_succ]))
  refine wpQuiet_nil ?_
  intro w2 hw'
  replace HB := Aside0.mk (below2 HB.out HB.out.size hw')
  replace HR := Aside0.mk (HR.out.keep hw')
  clear hw'
  clear d0 d1 d2 d3 d4 d5 d6 d7 d8 d9 d10 d11 d12 d13 hlt0
  generalize hE1 : [83, 74] ++ enc s ++ enc 2 = a1
  have A1 : a1.length ≤ 18 := by rw [← hE1]; simp only [List.length_append, List.length_cons, List.length_nil]; omega
  have HE1 := Lib.hid hE1
  clear hE1 l0 l1
  generalize [83, 74] ++ enc s = z1
  have l0 := enc_len8 (m := vi) (by omega)
  have l1 := enc_len8 (m := vg) (by omega)
  have l2 := enc_len8 (m := vn) (by omega)
  obtain ⟨d0, d1, d2, d3, d4, d5, d6, d7, d8, d9, d10, d11, d12, d13⟩ := cells14 HR.out
  have hlt0 := HR.out.lt
  go_wp2_with fail
  clear d0 d1 d2 d3 d4 d5 d6 d7 d8 d9 d10 d11 d12 d13 hlt0
  have HV6 := Aside0.mk (Blk.new w2 #[.int .i64 (vi : Int), .int .i64 (vg : Int), .int .i64 (vn : Int), .slice A l.length c] 24)
  replace HB := Aside0.mk (below_alloc HB.out (.cells #[.int .i64 (vi : Int), .int .i64 (vg : Int), .int .i64 (vn : Int), .slice A l.length c] 24))
  replace HR := Aside0.mk (HR.out.alloc (.cells #[.int .i64 (vi : Int), .int .i64 (vg : Int), .int .i64 (vn : Int), .slice A l.length c] 24))
  obtain ⟨v0, v1, v2, v3⟩ := cells4 HV6.out
  have hlt6 := HV6.out.lt
  refine region_below_tail 13 (by kernel_rfl) (by kernel_rfl) ?_
  simp only [List.take_succ_cons, List.take_zero, List.drop_succ_cons, List.drop_zero]
  repeat (first | (refine q_cat _ _ _ [83, 74] ?_ rfl rfl rfl ?_ ?_ ?_ ?_; rotate_left 1; (· rfl); (· rfl); (· (try simp only [List.length_append, List.length_cons, List.length_nil]); omega); simp only [Act.put, List.setIfInBounds_toArray, List.set_cons_zero, List.set_cons_succ]) | (refine q_cat _ _ _ ?_ ?_ rfl rfl rfl ?_ ?_ ?_ ?_; rotate_left 2; (· rfl); (· rfl); (· (try simp only [List.length_append, List.length_cons, List.length_nil]); omega); simp only [Act.put, List.setIfInBounds_toArray, List.set_cons_zero, List.set_cons_succ]) | go_big_quiet_step (fail) | (refine BigFrame.wpQuiet_want (by rfl) (fun K hK => ?_); go_big_quiet_op; refine ⟨_, fun _ _ => rfl, hK _ ?_⟩; clear hK K) | (refine q_ld 3 _ _ _ _ rfl rfl rfl rfl (ld_int _ _) (by assumption) (by assumption) ?_; simp only [Act.put, List.setIfInBounds_toArray, List.set_cons_zero, List.set_cons_succ]) | (refine q_ld 9 _ _ _ _ rfl rfl rfl rfl (ld_str _ _) (by assumption) (by assumption) ?_; simp only [Act.put, List.setIfInBounds_toArray, List.set_cons_zero, List.set_cons_succ]) | (refine q_ld 22 _ _ _ _ rfl rfl rfl rfl (ld_sl _ _) (by assumption) (by assumption) ?_; simp only [Act.put, List.setIfInBounds_toArray, List.set_cons_zero, List.set_cons_succ]) | (refine q_go (f := 29) Try.func29 (by kernel_rfl) rfl #[.int .i64 (vi : Int)] _ _ rfl rfl rfl (by simp only [List.map_toArray, List.map_cons, List.map_nil]; rfl) (fun w' _ => rnum_L vi (by omega) w') ?_; simp only [Act.put, List.setIfInBounds_toArray, List.set_cons_zero, List.set_cons_succ]) | (refine q_go (f := 29) Try.func29 (by kernel_rfl) rfl #[.int .i64 (vg : Int)] _ _ rfl rfl rfl (by simp only [List.map_toArray, List.map_cons, List.map_nil]; rfl) (fun w' _ => rnum_L vg (by omega) w') ?_; simp only [Act.put, List.setIfInBounds_toArray, List.set_cons_zero, List.set_cons_succ]) | (refine q_go (f := 29) Try.func29 (by kernel_rfl) rfl #[.int .i64 (vn : Int)] _ _ rfl rfl rfl (by simp only [List.map_toArray, List.map_cons, List.map_nil]; rfl) (fun w' _ => rnum_L vn (by omega) w') ?_; simp only [Act.put, List.setIfInBounds_toArray, List.set_cons_zero, List.set_cons_succ]))
  refine wpQuiet_nil ?_
  intro w3 hw'
  replace HB := Aside0.mk (below2 HB.out HB.out.size hw')
  replace HR := Aside0.mk (HR.out.keep hw')
  replace HV6 := Aside0.mk (HV6.out.keep hw')
  clear hw'
  clear v0 v1 v2 v3 hlt6
  generalize w2.heap.size = g6 at HV6 ⊢
  generalize hE2 : a1 ++ enc vi ++ enc vg ++ enc vn = a2
  have A2 : a2.length ≤ 42 := by rw [← hE2]; simp only [List.length_append]; omega
  have HE2 := Lib.hid hE2
  clear hE2 l0 l1 l2 A1
  generalize a1 ++ enc vi ++ enc vg = z3
  generalize a1 ++ enc vi = z2
  go_wp2_with fail
  go_loopw [5, 7] (fun sv i wr => ∃ k : Nat, k ≤ 9 ∧ i = .int .i64 k ∧ sv = .string (B (a2 ++ locsT l k)) ∧ Aside0 (Below w.heap.size w wr) ∧ Aside0 (Blk wr w.heap.size #[.int .i64 (s : Int), .int .i64 2, .int .i64 (vi : Int), .int .i64 (vg : Int), .int .i64 (vn : Int), (.slice A l.length c), .string q6, .int .i64 q7, .int .i64 q8, .int .i64 q9, .string q10, .string q11, .int .i64 q12, .int .i64 q13] 28) ∧ Aside0 (Blk wr g6 #[.int .i64 (vi : Int), .int .i64 (vg : Int), .int .i64 (vn : Int), .slice A l.length c] 24)) (fun _ i _ => 9 - (intOf i).toNat)
  case atStart => exact ⟨0, Nat.zero_le _, rfl, by rw [locsT, List.append_nil], HB, HR, HV6⟩
  case round =>
    clear HB HR HV6
    obtain ⟨k, hk, rfl, rfl, HB, HR, HV6⟩ := hrel
    by_cases hlt : k < 9
    · have hkl : k < l.length := by have := HV.out.nine; omega
      obtain ⟨ad, hA, k0, k1⟩ := at_T67 HC.out k (by omega) (by omega)
      rw [Int.toNat_natCast] at k0 k1
      have hKB := Nat.lt_of_lt_of_le (lt_cell k0) HB.out.size
      have hKB1 := Nat.lt_of_lt_of_le (lt_cell k1) HB.out.size
      have e0 := (HB.out.cell (lt_cell k0)).trans k0
      have e1 := (HB.out.cell (lt_cell k1)).trans k1
      clear k0 k1
      subst hA
      have hv9 := HV.out.locs k hlt
      have hz0 := Int.toNat_of_nonneg hv9.1.1
      have hz1 := Int.toNat_of_nonneg hv9.2.1
      have hb0 : (rd_T67 l k).f0.toNat ≤ 11 := by omega
      have hb1 : (rd_T67 l k).f1.toNat ≤ 47 := by omega
      have HLT := Lib.hid (show locsT l (k + 1) = locsT l k ++ encK [(rd_T67 l k).f0.toNat, (rd_T67 l k).f1.toNat] 2 from rfl)
      have hll := locsT_len HV.out k (by omega)
      rw [← hz0] at e0
      rw [← hz1] at e1
      generalize (rd_T67 l k).f0.toNat = x0 at *
      generalize (rd_T67 l k).f1.toNat = x1 at *
      clear hv9 hz0 hz1
      have l0 := enc_len8 (m := x0) (by omega)
      have l1 := enc_len8 (m := x1) (by omega)
      obtain ⟨v0, v1, v2, v3⟩ := cells4 HV6.out
      have hlt6 := HV6.out.lt
      go_wp2_with fail
      refine region_below_tail 17 (by kernel_rfl) (by kernel_rfl) ?_
      simp only [List.take_succ_cons, List.take_zero, List.drop_succ_cons, List.drop_zero]
      repeat (first | (refine q_cat _ _ _ [83, 74] ?_ rfl rfl rfl ?_ ?_ ?_ ?_; rotate_left 1; (· rfl); (· rfl); (· (try simp only [List.length_append, List.length_cons, List.length_nil]); omega); simp only [Act.put, List.setIfInBounds_toArray, List.set_cons_zero, List.set_cons_succ]) | (refine q_cat _ _ _ ?_ ?_ rfl rfl rfl ?_ ?_ ?_ ?_; rotate_left 2; (· rfl); (· rfl); (· (try simp only [List.length_append, List.length_cons, List.length_nil]); omega); simp only [Act.put, List.setIfInBounds_toArray, List.set_cons_zero, List.set_cons_succ]) | go_big_quiet_step (fail) | (refine BigFrame.wpQuiet_want (by rfl) (fun K hK => ?_); go_big_quiet_op; refine ⟨_, fun _ _ => rfl, hK _ ?_⟩; clear hK K) | (refine q_ld 3 _ _ _ _ rfl rfl rfl rfl (ld_int _ _) (by assumption) (by assumption) ?_; simp only [Act.put, List.setIfInBounds_toArray, List.set_cons_zero, List.set_cons_succ]) | (refine q_ld 9 _ _ _ _ rfl rfl rfl rfl (ld_str _ _) (by assumption) (by assumption) ?_; simp only [Act.put, List.setIfInBounds_toArray, List.set_cons_zero, List.set_cons_succ]) | (refine q_ld 22 _ _ _ _ rfl rfl rfl rfl (ld_sl _ _) (by assumption) (by assumption) ?_; simp only [Act.put, List.setIfInBounds_toArray, List.set_cons_zero, List.set_cons_succ]) | (refine q_go (f := 29) Try.func29 (by kernel_rfl) rfl #[.int .i64 (x0 : Int)] _ _ rfl rfl rfl (by simp only [List.map_toArray, List.map_cons, List.map_nil]; rfl) (fun w' _ => rnum_L x0 (by omega) w') ?_; simp only [Act.put, List.setIfInBounds_toArray, List.set_cons_zero, List.set_cons_succ]) | (refine q_go (f := 29) Try.func29 (by kernel_rfl) rfl #[.int .i64 (x1 : Int)] _ _ rfl rfl rfl (by simp only [List.map_toArray, List.map_cons, List.map_nil]; rfl) (fun w' _ => rnum_L x1 (by omega) w') ?_; simp only [Act.put, List.setIfInBounds_toArray, List.set_cons_zero, List.set_cons_succ]))
      refine wpQuiet_nil ?_
      intro w4 hw'
      replace HB := Aside0.mk (below2 HB.out HB.out.size hw')
      replace HR := Aside0.mk (HR.out.keep hw')
      replace HV6 := Aside0.mk (HV6.out.keep hw')
      clear hw'
      clear v0 v1 v2 v3 hlt6 e0 e1 hKB hKB1
      go_wp2_with fail
      go_roundw
      case rel => exact ⟨k + 1, by omega, by go_num, by rw [HLT.out, encK2]; simp [List.append_assoc], HB, HR, HV6⟩
      case measure => simp [intOf]; omega
    · obtain rfl : k = 9 := by omega
      obtain ⟨w3, rfl⟩ : ∃ x, x = wr := ⟨wr, rfl⟩
      have hll := locsT_len HV.out 9 (by decide)
      generalize hE3 : a2 ++ locsT l 9 = a3
      have A3 : a3.length ≤ 186 := by rw [← hE3, List.length_append]; omega
      have HE3 := Lib.hid hE3
      clear hE3 hll A2 hlt hk HV6
      obtain ⟨d0, d1, d2, d3, d4, d5, d6, d7, d8, d9, d10, d11, d12, d13⟩ := cells14 HR.out
      have hlt0 := HR.out.lt
      go_wp2_with fail
      clear d0 d1 d2 d3 d4 d5 d6 d7 d8 d9 d10 d11 d12 d13 hlt0
      refine Calls.mono (rseal_L a3 w3 (by omega)) ?_
      rintro e wz ⟨rfl, b1⟩
      replace HB := Aside0.mk (below2 HB.out HB.out.size b1)
      clear b1
      go_wp2_with fail
      go_ret2
      refine ⟨?_, HB.out⟩
      have hnine := HV.out.nine
      rw [← HRES.out, ← HE3.out, ← HE2.out, ← HE1.out]
      simp [recT, headT, volT, encK2, encK3, hnine, B_data]
set_option maxRecDepth 100000 in
set_option maxHeartbeats 4000000 in
theorem rrw_3 (s vi vg vn : Nat) (A : Option Addr) (c : Nat) (l : List S67) (q6 : ByteArray) (q7 q8 q9 : Int) (q10 q11 : ByteArray) (fr ti : Nat) (w : World) (hr : Kd.C k67 w A l.length l) (hl : l.length ≤ 1000) (hc : l.length ≤ c) (h6 : q6.size ≤ 140737488355328) (h11 : q11.size ≤ 140737488355328) (hz : chkR (⟨(s : Int), 3, (vi : Int), (vg : Int), (vn : Int), l, q6, q7, q8, q9, q10, q11, (fr : Int), (ti : Int)⟩ : RecP) = 0) (hs : s ≤ 63) (hv : VolOk vi vg vn l) (hf : fr ≤ 1099511627776) (ht : ti ≤ 1099511627776) : Calls Try.prog 13 #[.agg #[.int .i64 (s : Int), .int .i64 3, .int .i64 (vi : Int), .int .i64 (vg : Int), .int .i64 (vn : Int), (.slice A l.length c), .string q6, .int .i64 q7, .int .i64 q8, .int .i64 q9, .string q10, .string q11, .int .i64 (fr : Int), .int .i64 (ti : Int)]] w fun e w' => e = .returned (.tuple #[.string (B (sealL (recT (⟨(s : Int), 3, (vi : Int), (vg : Int), (vn : Int), l, q6, q7, q8, q9, q10, q11, (fr : Int), (ti : Int)⟩ : RecP)))), .int .i64 0]) ∧ Below w.heap.size w w' := by
  have hu0 := Try.underlying28
  have hu1 := Try.underlying34
  have hu2 := Try.underlying24
  have hu3 := Try.underlying26
  have hu4 := Try.underlying67
  obtain ⟨res, hres⟩ : ∃ res, B (sealL (recT (⟨(s : Int), 3, (vi : Int), (vg : Int), (vn : Int), l, q6, q7, q8, q9, q10, q11, (fr : Int), (ti : Int)⟩ : RecP))) = res := ⟨_, rfl⟩
  rw [hres]
  have HRES := Lib.hid hres
  clear hres
  have HZ := Lib.hid hz
  have HC := Lib.hid hr
  have HL := Lib.hid hl
  have HCC := Lib.hid hc
  have H6 := Lib.hid h6
  have H11 := Lib.hid h11
  have HV := Lib.hid hv
  have HFR := Lib.hid hf
  have HTI := Lib.hid ht
  have hvi := hv.i.2
  have hvg := hv.g.2
  have hvn := hv.n.2
  clear hf ht hv
  clear hz hr hl hc h6 h11
  have HB : Aside0 (Below w.heap.size w (w.alloc (.cells #[.int .i64 (s : Int), .int .i64 3, .int .i64 (vi : Int), .int .i64 (vg : Int), .int .i64 (vn : Int), (.slice A l.length c), .string q6, .int .i64 q7, .int .i64 q8, .int .i64 q9, .string q10, .string q11, .int .i64 (fr : Int), .int .i64 (ti : Int)] 28))) := ⟨below_alloc (Below.refl _ _) _⟩
  have HR : Aside0 (Blk (w.alloc (.cells #[.int .i64 (s : Int), .int .i64 3, .int .i64 (vi : Int), .int .i64 (vg : Int), .int .i64 (vn : Int), (.slice A l.length c), .string q6, .int .i64 q7, .int .i64 q8, .int .i64 q9, .string q10, .string q11, .int .i64 (fr : Int), .int .i64 (ti : Int)] 28)) w.heap.size #[.int .i64 (s : Int), .int .i64 3, .int .i64 (vi : Int), .int .i64 (vg : Int), .int .i64 (vn : Int), (.slice A l.length c), .string q6, .int .i64 q7, .int .i64 q8, .int .i64 q9, .string q10, .string q11, .int .i64 (fr : Int), .int .i64 (ti : Int)] 28) := ⟨Blk.new w _ _⟩
  obtain ⟨d0, d1, d2, d3, d4, d5, d6, d7, d8, d9, d10, d11, d12, d13⟩ := cells14 HR.out
  have hlt0 := HR.out.lt
  go_enter Try.func13, Try.ntmps13
  go_wp2_with fail
  clear d0 d1 d2 d3 d4 d5 d6 d7 d8 d9 d10 d11 d12 d13 hlt0
  have hq0 := refchk_calls (⟨(s : Int), 3, (vi : Int), (vg : Int), (vn : Int), l, q6, q7, q8, q9, q10, q11, (fr : Int), (ti : Int)⟩ : RecP) A c (w.alloc (.cells #[.int .i64 (s : Int), .int .i64 3, .int .i64 (vi : Int), .int .i64 (vg : Int), .int .i64 (vn : Int), (.slice A l.length c), .string q6, .int .i64 q7, .int .i64 q8, .int .i64 q9, .string q10, .string q11, .int .i64 (fr : Int), .int .i64 (ti : Int)] 28)) (Kd.C_below HC.out HB.out) HL.out HCC.out H6.out H11.out
  rw [HZ.out] at hq0
  refine Calls.mono hq0 ?_
  clear hq0
  rintro e wa ⟨rfl, b1⟩
  replace HB := Aside0.mk (below2 HB.out HB.out.size b1)
  replace HR := Aside0.mk (HR.out.keep b1)
  clear b1
  have l0 := enc_len8 (m := s) (by omega)
  have l1 := enc_len8 (m := 3) (by omega)
  obtain ⟨d0, d1, d2, d3, d4, d5, d6, d7, d8, d9, d10, d11, d12, d13⟩ := cells14 HR.out
  have hlt0 := HR.out.lt
  go_wp2_with fail
  refine region_below_tail 8 (by kernel_rfl) (by kernel_rfl) ?_
  simp only [List.take_succ_cons, List.take_zero, List.drop_succ_cons, List.drop_zero]
  repeat (first | (refine q_cat _ _ _ [83, 74] ?_ rfl rfl rfl ?_ ?_ ?_ ?_; rotate_left 1; (· rfl); (· rfl); (· (try simp only [List.length_append, List.length_cons, List.length_nil]); omega); simp only [Act.put, List.setIfInBounds_toArray, List.set_cons_zero, List.set_cons_succ]) | (refine q_cat _ _ _ ?_ ?_ rfl rfl rfl ?_ ?_ ?_ ?_; rotate_left 2; (· rfl); (· rfl); (· (try simp only [List.length_append, List.length_cons, List.length_nil]); omega); simp only [Act.put, List.setIfInBounds_toArray, List.set_cons_zero, List.set_cons_succ]) | go_big_quiet_step (fail) | (refine BigFrame.wpQuiet_want (by rfl) (fun K hK => ?_); go_big_quiet_op; refine ⟨_, fun _ _ => rfl, hK _ ?_⟩; clear hK K) | (refine q_ld 3 _ _ _ _ rfl rfl rfl rfl (ld_int _ _) (by assumption) (by assumption) ?_; simp only [Act.put, List.setIfInBounds_toArray, List.set_cons_zero, List.set_cons_succ]) | (refine q_ld 9 _ _ _ _ rfl rfl rfl rfl (ld_str _ _) (by assumption) (by assumption) ?_; simp only [Act.put, List.setIfInBounds_toArray, List.set_cons_zero, List.set_cons_succ]) | (refine q_ld 22 _ _ _ _ rfl rfl rfl rfl (ld_sl _ _) (by assumption) (by assumption) ?_; simp only [Act.put, List.setIfInBounds_toArray, List.set_cons_zero, List.set_cons_succ]) | (refine q_go (f := 29) Try.func29 (by kernel_rfl) rfl #[.int .i64 (s : Int)] _ _ rfl rfl rfl (by simp only [List.map_toArray, List.map_cons, List.map_nil]; rfl) (fun w' _ => rnum_L s (by omega) w') ?_; simp only [Act.put, List.setIfInBounds_toArray, List.set_cons_zero, List.set_cons_succ]) | (refine q_go (f := 29) Try.func29 (by kernel_rfl) rfl #[.int .i64 3] _ _ rfl rfl rfl (by simp only [List.map_toArray, List.map_cons, List.map_nil]; rfl) (fun w' _ => rnum_L 3 (by decide) w') ?_; simp only [Act.put, List.setIfInBounds_toArray, List.set_cons_zero, List.set_cons_succ]))
  refine wpQuiet_nil ?_
  intro w2 hw'
  replace HB := Aside0.mk (below2 HB.out HB.out.size hw')
  replace HR := Aside0.mk (HR.out.keep hw')
  clear hw'
  clear d0 d1 d2 d3 d4 d5 d6 d7 d8 d9 d10 d11 d12 d13 hlt0
  generalize hE1 : [83, 74] ++ enc s ++ enc 3 = a1
  have A1 : a1.length ≤ 18 := by rw [← hE1]; simp only [List.length_append, List.length_cons, List.length_nil]; omega
  have HE1 := Lib.hid hE1
  clear hE1 l0 l1
  generalize [83, 74] ++ enc s = z1
  have l0 := enc_len8 (m := vi) (by omega)
  have l1 := enc_len8 (m := vg) (by omega)
  have l2 := enc_len8 (m := vn) (by omega)
  obtain ⟨d0, d1, d2, d3, d4, d5, d6, d7, d8, d9, d10, d11, d12, d13⟩ := cells14 HR.out
  have hlt0 := HR.out.lt
  go_wp2_with fail
  clear d0 d1 d2 d3 d4 d5 d6 d7 d8 d9 d10 d11 d12 d13 hlt0
  have HV6 := Aside0.mk (Blk.new w2 #[.int .i64 (vi : Int), .int .i64 (vg : Int), .int .i64 (vn : Int), .slice A l.length c] 24)
  replace HB := Aside0.mk (below_alloc HB.out (.cells #[.int .i64 (vi : Int), .int .i64 (vg : Int), .int .i64 (vn : Int), .slice A l.length c] 24))
  replace HR := Aside0.mk (HR.out.alloc (.cells #[.int .i64 (vi : Int), .int .i64 (vg : Int), .int .i64 (vn : Int), .slice A l.length c] 24))
  obtain ⟨v0, v1, v2, v3⟩ := cells4 HV6.out
  have hlt6 := HV6.out.lt
  refine region_below_tail 13 (by kernel_rfl) (by kernel_rfl) ?_
  simp only [List.take_succ_cons, List.take_zero, List.drop_succ_cons, List.drop_zero]
  repeat (first | (refine q_cat _ _ _ [83, 74] ?_ rfl rfl rfl ?_ ?_ ?_ ?_; rotate_left 1; (· rfl); (· rfl); (· (try simp only [List.length_append, List.length_cons, List.length_nil]); omega); simp only [Act.put, List.setIfInBounds_toArray, List.set_cons_zero, List.set_cons_succ]) | (refine q_cat _ _ _ ?_ ?_ rfl rfl rfl ?_ ?_ ?_ ?_; rotate_left 2; (· rfl); (· rfl); (· (try simp only [List.length_append, List.length_cons, List.length_nil]); omega); simp only [Act.put, List.setIfInBounds_toArray, List.set_cons_zero, List.set_cons_succ]) | go_big_quiet_step (fail) | (refine BigFrame.wpQuiet_want (by rfl) (fun K hK => ?_); go_big_quiet_op; refine ⟨_, fun _ _ => rfl, hK _ ?_⟩; clear hK K) | (refine q_ld 3 _ _ _ _ rfl rfl rfl rfl (ld_int _ _) (by assumption) (by assumption) ?_; simp only [Act.put, List.setIfInBounds_toArray, List.set_cons_zero, List.set_cons_succ]) | (refine q_ld 9 _ _ _ _ rfl rfl rfl rfl (ld_str _ _) (by assumption) (by assumption) ?_; simp only [Act.put, List.setIfInBounds_toArray, List.set_cons_zero, List.set_cons_succ]) | (refine q_ld 22 _ _ _ _ rfl rfl rfl rfl (ld_sl _ _) (by assumption) (by assumption) ?_; simp only [Act.put, List.setIfInBounds_toArray, List.set_cons_zero, List.set_cons_succ]) | (refine q_go (f := 29) Try.func29 (by kernel_rfl) rfl #[.int .i64 (vi : Int)] _ _ rfl rfl rfl (by simp only [List.map_toArray, List.map_cons, List.map_nil]; rfl) (fun w' _ => rnum_L vi (by omega) w') ?_; simp only [Act.put, List.setIfInBounds_toArray, List.set_cons_zero, List.set_cons_succ]) | (refine q_go (f := 29) Try.func29 (by kernel_rfl) rfl #[.int .i64 (vg : Int)] _ _ rfl rfl rfl (by simp only [List.map_toArray, List.map_cons, List.map_nil]; rfl) (fun w' _ => rnum_L vg (by omega) w') ?_; simp only [Act.put, List.setIfInBounds_toArray, List.set_cons_zero, List.set_cons_succ]) | (refine q_go (f := 29) Try.func29 (by kernel_rfl) rfl #[.int .i64 (vn : Int)] _ _ rfl rfl rfl (by simp only [List.map_toArray, List.map_cons, List.map_nil]; rfl) (fun w' _ => rnum_L vn (by omega) w') ?_; simp only [Act.put, List.setIfInBounds_toArray, List.set_cons_zero, List.set_cons_succ]))
  refine wpQuiet_nil ?_
  intro w3 hw'
  replace HB := Aside0.mk (below2 HB.out HB.out.size hw')
  replace HR := Aside0.mk (HR.out.keep hw')
  replace HV6 := Aside0.mk (HV6.out.keep hw')
  clear hw'
  clear v0 v1 v2 v3 hlt6
  generalize w2.heap.size = g6 at HV6 ⊢
  generalize hE2 : a1 ++ enc vi ++ enc vg ++ enc vn = a2
  have A2 : a2.length ≤ 42 := by rw [← hE2]; simp only [List.length_append]; omega
  have HE2 := Lib.hid hE2
  clear hE2 l0 l1 l2 A1
  generalize a1 ++ enc vi ++ enc vg = z3
  generalize a1 ++ enc vi = z2
  go_wp2_with fail
  go_loopw [5, 7] (fun sv i wr => ∃ k : Nat, k ≤ 9 ∧ i = .int .i64 k ∧ sv = .string (B (a2 ++ locsT l k)) ∧ Aside0 (Below w.heap.size w wr) ∧ Aside0 (Blk wr w.heap.size #[.int .i64 (s : Int), .int .i64 3, .int .i64 (vi : Int), .int .i64 (vg : Int), .int .i64 (vn : Int), (.slice A l.length c), .string q6, .int .i64 q7, .int .i64 q8, .int .i64 q9, .string q10, .string q11, .int .i64 (fr : Int), .int .i64 (ti : Int)] 28) ∧ Aside0 (Blk wr g6 #[.int .i64 (vi : Int), .int .i64 (vg : Int), .int .i64 (vn : Int), .slice A l.length c] 24)) (fun _ i _ => 9 - (intOf i).toNat)
  case atStart => exact ⟨0, Nat.zero_le _, rfl, by rw [locsT, List.append_nil], HB, HR, HV6⟩
  case round =>
    clear HB HR HV6
    obtain ⟨k, hk, rfl, rfl, HB, HR, HV6⟩ := hrel
    by_cases hlt : k < 9
    · have hkl : k < l.length := by have := HV.out.nine; omega
      obtain ⟨ad, hA, k0, k1⟩ := at_T67 HC.out k (by omega) (by omega)
      rw [Int.toNat_natCast] at k0 k1
      have hKB := Nat.lt_of_lt_of_le (lt_cell k0) HB.out.size
      have hKB1 := Nat.lt_of_lt_of_le (lt_cell k1) HB.out.size
      have e0 := (HB.out.cell (lt_cell k0)).trans k0
      have e1 := (HB.out.cell (lt_cell k1)).trans k1
      clear k0 k1
      subst hA
      have hv9 := HV.out.locs k hlt
      have hz0 := Int.toNat_of_nonneg hv9.1.1
      have hz1 := Int.toNat_of_nonneg hv9.2.1
      have hb0 : (rd_T67 l k).f0.toNat ≤ 11 := by omega
      have hb1 : (rd_T67 l k).f1.toNat ≤ 47 := by omega
      have HLT := Lib.hid (show locsT l (k + 1) = locsT l k ++ encK [(rd_T67 l k).f0.toNat, (rd_T67 l k).f1.toNat] 2 from rfl)
      have hll := locsT_len HV.out k (by omega)
      rw [← hz0] at e0
      rw [← hz1] at e1
      generalize (rd_T67 l k).f0.toNat = x0 at *
      generalize (rd_T67 l k).f1.toNat = x1 at *
      clear hv9 hz0 hz1
      have l0 := enc_len8 (m := x0) (by omega)
      have l1 := enc_len8 (m := x1) (by omega)
      obtain ⟨v0, v1, v2, v3⟩ := cells4 HV6.out
      have hlt6 := HV6.out.lt
      go_wp2_with fail
      refine region_below_tail 17 (by kernel_rfl) (by kernel_rfl) ?_
      simp only [List.take_succ_cons, List.take_zero, List.drop_succ_cons, List.drop_zero]
      repeat (first | (refine q_cat _ _ _ [83, 74] ?_ rfl rfl rfl ?_ ?_ ?_ ?_; rotate_left 1; (· rfl); (· rfl); (· (try simp only [List.length_append, List.length_cons, List.length_nil]); omega); simp only [Act.put, List.setIfInBounds_toArray, List.set_cons_zero, List.set_cons_succ]) | (refine q_cat _ _ _ ?_ ?_ rfl rfl rfl ?_ ?_ ?_ ?_; rotate_left 2; (· rfl); (· rfl); (· (try simp only [List.length_append, List.length_cons, List.length_nil]); omega); simp only [Act.put, List.setIfInBounds_toArray, List.set_cons_zero, List.set_cons_succ]) | go_big_quiet_step (fail) | (refine BigFrame.wpQuiet_want (by rfl) (fun K hK => ?_); go_big_quiet_op; refine ⟨_, fun _ _ => rfl, hK _ ?_⟩; clear hK K) | (refine q_ld 3 _ _ _ _ rfl rfl rfl rfl (ld_int _ _) (by assumption) (by assumption) ?_; simp only [Act.put, List.setIfInBounds_toArray, List.set_cons_zero, List.set_cons_succ]) | (refine q_ld 9 _ _ _ _ rfl rfl rfl rfl (ld_str _ _) (by assumption) (by assumption) ?_; simp only [Act.put, List.setIfInBounds_toArray, List.set_cons_zero, List.set_cons_succ]) | (refine q_ld 22 _ _ _ _ rfl rfl rfl rfl (ld_sl _ _) (by assumption) (by assumption) ?_; simp only [Act.put, List.setIfInBounds_toArray, List.set_cons_zero, List.set_cons_succ]) | (refine q_go (f := 29) Try.func29 (by kernel_rfl) rfl #[.int .i64 (x0 : Int)] _ _ rfl rfl rfl (by simp only [List.map_toArray, List.map_cons, List.map_nil]; rfl) (fun w' _ => rnum_L x0 (by omega) w') ?_; simp only [Act.put, List.setIfInBounds_toArray, List.set_cons_zero, List.set_cons_succ]) | (refine q_go (f := 29) Try.func29 (by kernel_rfl) rfl #[.int .i64 (x1 : Int)] _ _ rfl rfl rfl (by simp only [List.map_toArray, List.map_cons, List.map_nil]; rfl) (fun w' _ => rnum_L x1 (by omega) w') ?_; simp only [Act.put, List.setIfInBounds_toArray, List.set_cons_zero, List.set_cons_succ]))
      refine wpQuiet_nil ?_
      intro w4 hw'
      replace HB := Aside0.mk (below2 HB.out HB.out.size hw')
      replace HR := Aside0.mk (HR.out.keep hw')
      replace HV6 := Aside0.mk (HV6.out.keep hw')
      clear hw'
      clear v0 v1 v2 v3 hlt6 e0 e1 hKB hKB1
      go_wp2_with fail
      go_roundw
      case rel => exact ⟨k + 1, by omega, by go_num, by rw [HLT.out, encK2]; simp [List.append_assoc], HB, HR, HV6⟩
      case measure => simp [intOf]; omega
    · obtain rfl : k = 9 := by omega
      obtain ⟨w3, rfl⟩ : ∃ x, x = wr := ⟨wr, rfl⟩
      have hll := locsT_len HV.out 9 (by decide)
      generalize hE3 : a2 ++ locsT l 9 = a3
      have A3 : a3.length ≤ 186 := by rw [← hE3, List.length_append]; omega
      have HE3 := Lib.hid hE3
      clear hE3 hll A2 hlt hk HV6
      have l0 := enc_len8 (m := fr) (by have := HFR.out; omega)
      have l1 := enc_len8 (m := ti) (by have := HTI.out; omega)
      obtain ⟨d0, d1, d2, d3, d4, d5, d6, d7, d8, d9, d10, d11, d12, d13⟩ := cells14 HR.out
      have hlt0 := HR.out.lt
      go_wp2_with fail
      refine region_below_tail 9 (by kernel_rfl) (by kernel_rfl) ?_
      simp only [List.take_succ_cons, List.take_zero, List.drop_succ_cons, List.drop_zero]
      repeat (first | (refine q_cat _ _ _ [83, 74] ?_ rfl rfl rfl ?_ ?_ ?_ ?_; rotate_left 1; (· rfl); (· rfl); (· (try simp only [List.length_append, List.length_cons, List.length_nil]); omega); simp only [Act.put, List.setIfInBounds_toArray, List.set_cons_zero, List.set_cons_succ]) | (refine q_cat _ _ _ ?_ ?_ rfl rfl rfl ?_ ?_ ?_ ?_; rotate_left 2; (· rfl); (· rfl); (· (try simp only [List.length_append, List.length_cons, List.length_nil]); omega); simp only [Act.put, List.setIfInBounds_toArray, List.set_cons_zero, List.set_cons_succ]) | go_big_quiet_step (fail) | (refine BigFrame.wpQuiet_want (by rfl) (fun K hK => ?_); go_big_quiet_op; refine ⟨_, fun _ _ => rfl, hK _ ?_⟩; clear hK K) | (refine q_ld 3 _ _ _ _ rfl rfl rfl rfl (ld_int _ _) (by assumption) (by assumption) ?_; simp only [Act.put, List.setIfInBounds_toArray, List.set_cons_zero, List.set_cons_succ]) | (refine q_ld 9 _ _ _ _ rfl rfl rfl rfl (ld_str _ _) (by assumption) (by assumption) ?_; simp only [Act.put, List.setIfInBounds_toArray, List.set_cons_zero, List.set_cons_succ]) | (refine q_ld 22 _ _ _ _ rfl rfl rfl rfl (ld_sl _ _) (by assumption) (by assumption) ?_; simp only [Act.put, List.setIfInBounds_toArray, List.set_cons_zero, List.set_cons_succ]) | (refine q_go (f := 29) Try.func29 (by kernel_rfl) rfl #[.int .i64 (fr : Int)] _ _ rfl rfl rfl (by simp only [List.map_toArray, List.map_cons, List.map_nil]; rfl) (fun w' _ => rnum_L fr (by have := HFR.out; omega) w') ?_; simp only [Act.put, List.setIfInBounds_toArray, List.set_cons_zero, List.set_cons_succ]) | (refine q_go (f := 29) Try.func29 (by kernel_rfl) rfl #[.int .i64 (ti : Int)] _ _ rfl rfl rfl (by simp only [List.map_toArray, List.map_cons, List.map_nil]; rfl) (fun w' _ => rnum_L ti (by have := HTI.out; omega) w') ?_; simp only [Act.put, List.setIfInBounds_toArray, List.set_cons_zero, List.set_cons_succ]))
      refine wpQuiet_nil ?_
      intro w5 hw'
      replace HB := Aside0.mk (below2 HB.out HB.out.size hw')
      replace HR := Aside0.mk (HR.out.keep hw')
      clear hw'
      clear d0 d1 d2 d3 d4 d5 d6 d7 d8 d9 d10 d11 d12 d13 hlt0
      generalize hE4 : a3 ++ enc fr ++ enc ti = a4
      have A4 : a4.length ≤ 202 := by rw [← hE4]; simp only [List.length_append]; omega
      have HE4 := Lib.hid hE4
      clear hE4 l0 l1 A3
      obtain ⟨d0, d1, d2, d3, d4, d5, d6, d7, d8, d9, d10, d11, d12, d13⟩ := cells14 HR.out
      have hlt0 := HR.out.lt
      go_wp2_with fail
      clear d0 d1 d2 d3 d4 d5 d6 d7 d8 d9 d10 d11 d12 d13 hlt0
      refine Calls.mono (rseal_L a4 w5 (by omega)) ?_
      rintro e wz ⟨rfl, b1⟩
      replace HB := Aside0.mk (below2 HB.out HB.out.size b1)
      clear b1
      go_wp2_with fail
      go_ret2
      refine ⟨?_, HB.out⟩
      have hnine := HV.out.nine
      rw [← HRES.out, ← HE4.out, ← HE3.out, ← HE2.out, ← HE1.out]
      simp [recT, headT, volT, encK2, encK3, hnine, B_data]
set_option maxRecDepth 100000 in
set_option maxHeartbeats 4000000 in
theorem rrw_bad (q0 q1 q2 q3 q4 : Int) (A : Option Addr) (c : Nat) (l : List S67) (q6 : ByteArray) (q7 q8 q9 : Int) (q10 q11 : ByteArray) (q12 q13 : Int) (w : World) (hr : Kd.C k67 w A l.length l) (hl : l.length ≤ 1000) (hc : l.length ≤ c) (h6 : q6.size ≤ 140737488355328) (h11 : q11.size ≤ 140737488355328) (z : Int) (hz : chkR (⟨q0, q1, q2, q3, q4, l, q6, q7, q8, q9, q10, q11, q12, q13⟩ : RecP) = z) (hz0 : z ≠ 0) : Calls Try.prog 13 #[.agg #[.int .i64 q0, .int .i64 q1, .int .i64 q2, .int .i64 q3, .int .i64 q4, (.slice A l.length c), .string q6, .int .i64 q7, .int .i64 q8, .int .i64 q9, .string q10, .string q11, .int .i64 q12, .int .i64 q13]] w fun e w' => e = .returned (.tuple #[.string (B []), .int .i64 z]) ∧ Below w.heap.size w w' := by
  have hu0 := Try.underlying28
  have hu1 := Try.underlying28
  have hu2 := Try.underlying24
  have hu3 := Try.underlying26
  have hu4 := Try.underlying67
  have HZ := Lib.hid hz
  have HC := Lib.hid hr
  have HL := Lib.hid hl
  have HCC := Lib.hid hc
  have z1 : (z == 0) = false := by simpa using hz0
  have z2 : (z != 0) = true := by simp [bne, z1]
  clear hz hr hl hc hz0
  have HB : Aside0 (Below w.heap.size w (w.alloc (.cells #[.int .i64 q0, .int .i64 q1, .int .i64 q2, .int .i64 q3, .int .i64 q4, (.slice A l.length c), .string q6, .int .i64 q7, .int .i64 q8, .int .i64 q9, .string q10, .string q11, .int .i64 q12, .int .i64 q13] 28))) := ⟨below_alloc (Below.refl _ _) _⟩
  have HR : Aside0 (Blk (w.alloc (.cells #[.int .i64 q0, .int .i64 q1, .int .i64 q2, .int .i64 q3, .int .i64 q4, (.slice A l.length c), .string q6, .int .i64 q7, .int .i64 q8, .int .i64 q9, .string q10, .string q11, .int .i64 q12, .int .i64 q13] 28)) w.heap.size #[.int .i64 q0, .int .i64 q1, .int .i64 q2, .int .i64 q3, .int .i64 q4, (.slice A l.length c), .string q6, .int .i64 q7, .int .i64 q8, .int .i64 q9, .string q10, .string q11, .int .i64 q12, .int .i64 q13] 28) := ⟨Blk.new w _ _⟩
  obtain ⟨d0, d1, d2, d3, d4, d5, d6, d7, d8, d9, d10, d11, d12, d13⟩ := cells14 HR.out
  go_enter Try.func13, Try.ntmps13
  go_wp2_with fail
  clear d0 d1 d2 d3 d4 d5 d6 d7 d8 d9 d10 d11 d12 d13
  have hq0 := refchk_calls (⟨q0, q1, q2, q3, q4, l, q6, q7, q8, q9, q10, q11, q12, q13⟩ : RecP) A c (w.alloc (.cells #[.int .i64 q0, .int .i64 q1, .int .i64 q2, .int .i64 q3, .int .i64 q4, (.slice A l.length c), .string q6, .int .i64 q7, .int .i64 q8, .int .i64 q9, .string q10, .string q11, .int .i64 q12, .int .i64 q13] 28)) (Kd.C_below HC.out HB.out) HL.out HCC.out h6 h11
  rw [HZ.out] at hq0
  refine Calls.mono hq0 ?_
  clear hq0
  rintro e wa ⟨rfl, b1⟩
  replace HB := Aside0.mk (below2 HB.out HB.out.size b1)
  clear b1
  go_wp2_with fail
  go_ret2
  exact ⟨rfl, HB.out⟩
theorem refwrite_calls (r : RecP) (A : Option Addr) (c : Nat) (w : World) (hr : Kd.C k67 w A r.locs.length r.locs) (hl : r.locs.length ≤ 1000) (hc : r.locs.length ≤ c) (h6 : r.ekey.size ≤ 140737488355328) (h11 : r.key.size ≤ 140737488355328) : Calls Try.prog 13 #[.agg #[.int .i64 r.seq, .int .i64 r.kind, .int .i64 r.id, .int .i64 r.gen, .int .i64 r.len, (.slice A r.locs.length c), .string r.ekey, .int .i64 r.evol, .int .i64 r.eoff, .int .i64 r.elen, .string r.dig, .string r.key, .int .i64 r.frm, .int .i64 r.til]] w fun e w' => e = .returned (.tuple #[.string (recW r).1, .int .i64 (recW r).2]) ∧ Below w.heap.size w w' := by
  by_cases hz : chkR r = 0
  · have hw : recW r = (B (sealL (recT r)), 0) := if_pos hz
    rw [hw]
    obtain ⟨q0, q1, q2, q3, q4, l, q6, q7, q8, q9, q10, q11, q12, q13⟩ := r
    rcases kind_chk _ hz with h | h | h | h
    · change q1 = 0 at h
      subst h
      obtain ⟨h0, hv, hk, _, h8, h9, h10, _⟩ := chk0_0 q0 q2 q3 q4 l q6 q7 q8 q9 q10 q11 q12 q13 hz
      have hn := hv.n
      obtain ⟨s, rfl⟩ := Int.eq_ofNat_of_zero_le h0.1
      obtain ⟨vi, rfl⟩ := Int.eq_ofNat_of_zero_le hv.i.1
      obtain ⟨vg, rfl⟩ := Int.eq_ofNat_of_zero_le hv.g.1
      obtain ⟨vn, rfl⟩ := Int.eq_ofNat_of_zero_le hv.n.1
      obtain ⟨eo, rfl⟩ := Int.eq_ofNat_of_zero_le h8.1
      obtain ⟨el, rfl⟩ := Int.eq_ofNat_of_zero_le h9.1
      exact rrw_0 s vi vg vn A c l q6 q7 eo el q10 q11 q12 q13 w hr hl hc h6 h11 hz (by omega) hv (key_ok hk).1 (by omega) (by omega) h10
    · change q1 = 1 at h
      subst h
      obtain ⟨h0, hk, _⟩ := chk0_1 q0 q2 q3 q4 l q6 q7 q8 q9 q10 q11 q12 q13 hz
      obtain ⟨s, rfl⟩ := Int.eq_ofNat_of_zero_le h0.1
      exact rrw_1 s q2 q3 q4 A c l q6 q7 q8 q9 q10 q11 q12 q13 w hr hl hc h6 h11 hz (by omega) (key_ok hk).1
    · change q1 = 2 at h
      subst h
      obtain ⟨h0, hv, _⟩ := chk0_2 q0 q2 q3 q4 l q6 q7 q8 q9 q10 q11 q12 q13 hz
      obtain ⟨s, rfl⟩ := Int.eq_ofNat_of_zero_le h0.1
      obtain ⟨vi, rfl⟩ := Int.eq_ofNat_of_zero_le hv.i.1
      obtain ⟨vg, rfl⟩ := Int.eq_ofNat_of_zero_le hv.g.1
      obtain ⟨vn, rfl⟩ := Int.eq_ofNat_of_zero_le hv.n.1
      exact rrw_2 s vi vg vn A c l q6 q7 q8 q9 q10 q11 q12 q13 w hr hl hc h6 h11 hz (by omega) hv
    · change q1 = 3 at h
      subst h
      obtain ⟨h0, hv, hf, ht, _, _⟩ := chk0_3 q0 q2 q3 q4 l q6 q7 q8 q9 q10 q11 q12 q13 hz
      obtain ⟨s, rfl⟩ := Int.eq_ofNat_of_zero_le h0.1
      obtain ⟨vi, rfl⟩ := Int.eq_ofNat_of_zero_le hv.i.1
      obtain ⟨vg, rfl⟩ := Int.eq_ofNat_of_zero_le hv.g.1
      obtain ⟨vn, rfl⟩ := Int.eq_ofNat_of_zero_le hv.n.1
      obtain ⟨fr, rfl⟩ := Int.eq_ofNat_of_zero_le hf.1
      obtain ⟨ti, rfl⟩ := Int.eq_ofNat_of_zero_le ht.1
      exact rrw_3 s vi vg vn A c l q6 q7 q8 q9 q10 q11 fr ti w hr hl hc h6 h11 hz (by omega) hv (by omega) (by omega)
  · have hw : recW r = (B [], chkR r) := if_neg hz
    rw [hw]
    obtain ⟨q0, q1, q2, q3, q4, l, q6, q7, q8, q9, q10, q11, q12, q13⟩ := r
    exact rrw_bad q0 q1 q2 q3 q4 A c l q6 q7 q8 q9 q10 q11 q12 q13 w hr hl hc h6 h11 _ rfl hz
/-- The reference's Write, in the form in which its callers take it. -/
def sluicegateref11_Write.f (a0_0 : Int) (a0_1 : Int) (a0_2 : Int) (a0_3 : Int) (a0_4 : Int) (l0_5 : List S67) (a0_6 : ByteArray) (a0_7 : Int) (a0_8 : Int) (a0_9 : Int) (a0_10 : ByteArray) (a0_11 : ByteArray) (a0_12 : Int) (a0_13 : Int) : Option (ByteArray × Int) := if l0_5.length ≤ 1000 ∧ a0_6.size ≤ 140737488355328 ∧ a0_11.size ≤ 140737488355328 then some (recW ⟨a0_0, a0_1, a0_2, a0_3, a0_4, l0_5, a0_6, a0_7, a0_8, a0_9, a0_10, a0_11, a0_12, a0_13⟩) else none
theorem sluicegateref11_Write.calls (a0_0 : Int) (a0_1 : Int) (a0_2 : Int) (a0_3 : Int) (a0_4 : Int) (A0_5 : Option Addr) (c0_5 : Nat) (l0_5 : List S67) (a0_6 : ByteArray) (a0_7 : Int) (a0_8 : Int) (a0_9 : Int) (a0_10 : ByteArray) (a0_11 : ByteArray) (a0_12 : Int) (a0_13 : Int) (r1 : ByteArray) (r2 : Int) (w : World) (hr0_5 : Kd.C k67 w A0_5 l0_5.length l0_5) (hc0_5 : l0_5.length ≤ c0_5) (h : sluicegateref11_Write.f a0_0 a0_1 a0_2 a0_3 a0_4 l0_5 a0_6 a0_7 a0_8 a0_9 a0_10 a0_11 a0_12 a0_13 = some (r1, r2)) :
    Calls Try.prog 13 #[.agg #[.int .i64 a0_0, .int .i64 a0_1, .int .i64 a0_2, .int .i64 a0_3, .int .i64 a0_4, (.slice A0_5 l0_5.length c0_5), .string a0_6, .int .i64 a0_7, .int .i64 a0_8, .int .i64 a0_9, .string a0_10, .string a0_11, .int .i64 a0_12, .int .i64 a0_13]] w fun e w' => e = .returned (.tuple #[.string r1, .int .i64 r2]) ∧ Below w.heap.size w w' := by
  unfold sluicegateref11_Write.f at h
  split at h
  · rename_i hb
    have := refwrite_calls ⟨a0_0, a0_1, a0_2, a0_3, a0_4, l0_5, a0_6, a0_7, a0_8, a0_9, a0_10, a0_11, a0_12, a0_13⟩ A0_5 c0_5 w hr0_5 hb.1 hc0_5 hb.2.1 hb.2.2
    rw [Option.some.inj h] at this
    exact this
  · cases h
end Go.Proofs.Ytkceobahefjlnaa
end
section
/- live of law11: its walk. -/
namespace Go.Proofs.Ytkceobahefjlnaa
open Go.RowKit Q Go.Proofs.YtkceobahefjlnaaW.PrintWords Go.Proofs.YtkceobahefjlnaaW.PrintLast Go.Proofs.YtkceobahefjlnaaW.PrintMore
theorem l11_c1 : chkR (⟨0, 1, 0, 0, 0, [], ⟨#[]⟩, 0, 0, 0, ⟨#[]⟩, (⟨#[97]⟩ : ByteArray), 0, 0⟩ : RecP) = 0 := by kernel_rfl
theorem l11_c2 : chkR (⟨0, 1, 0, 0, 0, [], ⟨#[]⟩, 0, 0, 0, ⟨#[]⟩, ⟨#[]⟩, 0, 0⟩ : RecP) = 11 := by kernel_rfl
theorem l11_c3 : chkR (⟨0, 0, 0, 0, 0, [], ⟨#[]⟩, 0, 0, 0, ⟨#[]⟩, ⟨#[]⟩, 0, 0⟩ : RecP) = 1 := by kernel_rfl
theorem l11_c4 : chkR (⟨0, 4, 0, 0, 0, [], ⟨#[]⟩, 0, 0, 0, ⟨#[]⟩, ⟨#[]⟩, 0, 0⟩ : RecP) = 1 := by kernel_rfl
theorem l11_t1 : recT (⟨0, 1, 0, 0, 0, [], ⟨#[]⟩, 0, 0, 0, ⟨#[]⟩, (⟨#[97]⟩ : ByteArray), 0, 0⟩ : RecP) = [83, 74, 0, 1, 1, 97] := by
  simp [recT, headT, encK, txt, enc_lt]
theorem l11_s : ∃ S : List UInt8, sealL (recT (⟨0, 1, 0, 0, 0, [], ⟨#[]⟩, 0, 0, 0, ⟨#[]⟩, (⟨#[97]⟩ : ByteArray), 0, 0⟩ : RecP)) = S ∧ S.length = 10 := ⟨_, rfl, by rw [sealL_len, l11_t1]; rfl⟩
theorem l11_e1 : recR [97, 98, 99] = (zeroR, 3) := by
  unfold recR openL
  rw [if_pos (show ([97, 98, 99] : List UInt8).length < 4 by decide)]
  rfl
theorem l11_e2 : recR (sealL [83, 74]) = (zeroR, 4) := by
  have hu : openL (sealL [83, 74]) = (B [83, 74], 0) := openL_seal _
  have hc : cutJ (openL (sealL [83, 74])).1.data.toList = ([], true) := by rw [hu]; rfl
  unfold recR
  rw [if_pos (show (openL (sealL [83, 74])).2 = 0 by rw [hu]), if_neg]
  rw [hc]
  intro h
  exact absurd h.2.1 (by decide +kernel)
theorem l11_v : volP 0 0 0 [] = false := by kernel_rfl
theorem l11_w1 (S : List UInt8) (hS : sealL (recT (⟨0, 1, 0, 0, 0, [], ⟨#[]⟩, 0, 0, 0, ⟨#[]⟩, (⟨#[97]⟩ : ByteArray), 0, 0⟩ : RecP)) = S) (w : World) : Calls Try.prog 11 #[.agg #[.int .i64 0, .int .i64 1, .int .i64 0, .int .i64 0, .int .i64 0, (.slice none 0 0), .string ⟨#[]⟩, .int .i64 0, .int .i64 0, .int .i64 0, .string ⟨#[]⟩, .string (⟨#[97]⟩ : ByteArray), .int .i64 0, .int .i64 0]] w fun e w' => e = .returned (.tuple #[.string (B S), .int .i64 0]) ∧ Below w.heap.size w w' := by
  have h := recwrite_calls (⟨0, 1, 0, 0, 0, [], ⟨#[]⟩, 0, 0, 0, ⟨#[]⟩, (⟨#[97]⟩ : ByteArray), 0, 0⟩ : RecP) none 0 w (Kd.C_nil _ _) (by decide) (by decide)
  rw [show recW (⟨0, 1, 0, 0, 0, [], ⟨#[]⟩, 0, 0, 0, ⟨#[]⟩, (⟨#[97]⟩ : ByteArray), 0, 0⟩ : RecP) = (B (sealL (recT (⟨0, 1, 0, 0, 0, [], ⟨#[]⟩, 0, 0, 0, ⟨#[]⟩, (⟨#[97]⟩ : ByteArray), 0, 0⟩ : RecP))), 0) from if_pos l11_c1, hS] at h
  exact h
theorem l11_w2 (w : World) : Calls Try.prog 11 #[.agg #[.int .i64 0, .int .i64 1, .int .i64 0, .int .i64 0, .int .i64 0, (.slice none 0 0), .string ⟨#[]⟩, .int .i64 0, .int .i64 0, .int .i64 0, .string ⟨#[]⟩, .string ⟨#[]⟩, .int .i64 0, .int .i64 0]] w fun e w' => e = .returned (.tuple #[.string (B []), .int .i64 11]) ∧ Below w.heap.size w w' := by
  have h := recwrite_calls (⟨0, 1, 0, 0, 0, [], ⟨#[]⟩, 0, 0, 0, ⟨#[]⟩, ⟨#[]⟩, 0, 0⟩ : RecP) none 0 w (Kd.C_nil _ _) (by decide) (by decide)
  rw [show recW (⟨0, 1, 0, 0, 0, [], ⟨#[]⟩, 0, 0, 0, ⟨#[]⟩, ⟨#[]⟩, 0, 0⟩ : RecP) = (B [], chkR (⟨0, 1, 0, 0, 0, [], ⟨#[]⟩, 0, 0, 0, ⟨#[]⟩, ⟨#[]⟩, 0, 0⟩ : RecP)) from if_neg (by rw [l11_c2]; decide), l11_c2] at h
  exact h
theorem l11_w3 (w : World) : Calls Try.prog 11 #[.agg #[.int .i64 0, .int .i64 0, .int .i64 0, .int .i64 0, .int .i64 0, (.slice none 0 0), .string ⟨#[]⟩, .int .i64 0, .int .i64 0, .int .i64 0, .string ⟨#[]⟩, .string ⟨#[]⟩, .int .i64 0, .int .i64 0]] w fun e w' => e = .returned (.tuple #[.string (B []), .int .i64 1]) ∧ Below w.heap.size w w' := by
  have h := recwrite_calls (⟨0, 0, 0, 0, 0, [], ⟨#[]⟩, 0, 0, 0, ⟨#[]⟩, ⟨#[]⟩, 0, 0⟩ : RecP) none 0 w (Kd.C_nil _ _) (by decide) (by decide)
  rw [show recW (⟨0, 0, 0, 0, 0, [], ⟨#[]⟩, 0, 0, 0, ⟨#[]⟩, ⟨#[]⟩, 0, 0⟩ : RecP) = (B [], chkR (⟨0, 0, 0, 0, 0, [], ⟨#[]⟩, 0, 0, 0, ⟨#[]⟩, ⟨#[]⟩, 0, 0⟩ : RecP)) from if_neg (by rw [l11_c3]; decide), l11_c3] at h
  exact h
theorem l11_r1 (S : List UInt8) (hS : sealL (recT (⟨0, 1, 0, 0, 0, [], ⟨#[]⟩, 0, 0, 0, ⟨#[]⟩, (⟨#[97]⟩ : ByteArray), 0, 0⟩ : RecP)) = S) (hl : S.length = 10) (w : World) : Calls Try.prog 19 #[.string (B S)] w fun e w' => ∃ (A : Option Addr) (c : Nat), e = .returned (.tuple #[.agg #[.int .i64 0, .int .i64 1, .int .i64 0, .int .i64 0, .int .i64 0, (.slice A 0 c), .string ⟨#[]⟩, .int .i64 0, .int .i64 0, .int .i64 0, .string ⟨#[]⟩, .string (⟨#[97]⟩ : ByteArray), .int .i64 0, .int .i64 0], .int .i64 0]) ∧ Kd.C k67 w' A 0 [] ∧ Below w.heap.size w w' := by
  have h := recread_calls S (by omega) w
  rw [← hS, recR_back _ l11_c1, hS] at h
  refine Calls.mono h ?_
  rintro e w' ⟨A, c, rfl, hC, _, hB⟩
  exact ⟨A, c, rfl, hC, hB⟩
theorem l11_r0 (m : List UInt8) (hm : m.length ≤ 1000) (z : Int) (h0 : recR m = (zeroR, z)) (w : World) : Calls Try.prog 19 #[.string (B m)] w fun e w' => ∃ (A : Option Addr) (c : Nat), e = .returned (.tuple #[.agg #[.int .i64 0, .int .i64 0, .int .i64 0, .int .i64 0, .int .i64 0, (.slice A 0 c), .string ⟨#[]⟩, .int .i64 0, .int .i64 0, .int .i64 0, .string ⟨#[]⟩, .string ⟨#[]⟩, .int .i64 0, .int .i64 0], .int .i64 z]) ∧ Below w.heap.size w w' := by
  have h := recread_calls m (by omega) w
  rw [h0] at h
  refine Calls.mono h ?_
  rintro e w' ⟨A, c, rfl, _, _, hB⟩
  exact ⟨A, c, rfl, hB⟩
theorem l11_same (A : Option Addr) (c : Nat) (w : World) (hC : Kd.C k67 w A 0 []) : Calls Try.prog 23 #[.agg #[.int .i64 0, .int .i64 1, .int .i64 0, .int .i64 0, .int .i64 0, (.slice A 0 c), .string ⟨#[]⟩, .int .i64 0, .int .i64 0, .int .i64 0, .string ⟨#[]⟩, .string (⟨#[97]⟩ : ByteArray), .int .i64 0, .int .i64 0], .agg #[.int .i64 0, .int .i64 1, .int .i64 0, .int .i64 0, .int .i64 0, (.slice none 0 0), .string ⟨#[]⟩, .int .i64 0, .int .i64 0, .int .i64 0, .string ⟨#[]⟩, .string (⟨#[97]⟩ : ByteArray), .int .i64 0, .int .i64 0]] w fun e w' => e = .returned (.bool true) ∧ Below w.heap.size w w' := by
  have h := sames_calls (⟨0, 1, 0, 0, 0, [], ⟨#[]⟩, 0, 0, 0, ⟨#[]⟩, (⟨#[97]⟩ : ByteArray), 0, 0⟩ : RecP) (⟨0, 1, 0, 0, 0, [], ⟨#[]⟩, 0, 0, 0, ⟨#[]⟩, (⟨#[97]⟩ : ByteArray), 0, 0⟩ : RecP) A none c 0 w hC (Kd.C_nil _ _) (Nat.zero_le _) (by decide) (by decide)
  rw [decide_eq_true rfl] at h
  exact h
theorem l11_chk (w : World) : Calls Try.prog 14 #[.agg #[.int .i64 0, .int .i64 4, .int .i64 0, .int .i64 0, .int .i64 0, (.slice none 0 0), .string ⟨#[]⟩, .int .i64 0, .int .i64 0, .int .i64 0, .string ⟨#[]⟩, .string ⟨#[]⟩, .int .i64 0, .int .i64 0]] w fun e w' => e = .returned (.int .i64 1) ∧ Below w.heap.size w w' := by
  have h := rchk_calls (⟨0, 4, 0, 0, 0, [], ⟨#[]⟩, 0, 0, 0, ⟨#[]⟩, ⟨#[]⟩, 0, 0⟩ : RecP) none 0 w (Kd.C_nil _ _) (by decide) (by decide)
  rw [l11_c4] at h
  exact h
theorem l11_vol (w : World) : Calls Try.prog 16 #[.agg #[.int .i64 0, .int .i64 0, .int .i64 0, .slice none 0 0]] w fun e w' => e = .returned (.bool false) ∧ Below w.heap.size w w' := by
  have h := vol_calls 0 0 0 none 0 0 [] w (Kd.C_nil _ _) rfl (by decide)
  rw [l11_v] at h
  exact h
set_option maxRecDepth 100000 in
set_option maxHeartbeats 4000000 in
theorem live11_calls (w : World) : Calls Try.prog 10 #[] w fun e w' => e = .returned (.bool true) ∧ Below w.heap.size w w' := by
  have hu0 := Try.underlying28
  have hu1 := Try.underlying34
  have hu2 := Try.underlying24
  have hu3 := Try.underlying26
  have hu4 := Try.underlying67
  obtain ⟨S, hS, hl⟩ := l11_s
  have HS := Lib.hid hS
  have hsz : (B S).size = 10 := by rw [B_size]; exact hl
  have HLn := Lib.hid hl
  clear hS hl
  have HB : Aside0 (Below w.heap.size w w) := ⟨Below.refl _ _⟩
  go_enter Try.func10, Try.ntmps10
  go_wp2_with fail
  refine (l11_w1 S HS.out _).mono ?_
  rintro e w1 ⟨rfl, b1⟩
  replace HB := Aside0.mk (below2 HB.out HB.out.size b1)
  clear b1
  go_wp2_with fail
  refine (l11_r1 S HS.out HLn.out _).mono ?_
  rintro e w2 ⟨A1, c1, rfl, hC, b1⟩
  replace HB := Aside0.mk (below2 HB.out HB.out.size b1)
  have HC := Aside0.mk hC
  clear hC
  clear b1
  have HX := Aside0.mk (Blk.new w2 #[.int .i64 0, .int .i64 1, .int .i64 0, .int .i64 0, .int .i64 0, (.slice A1 0 c1), .string ⟨#[]⟩, .int .i64 0, .int .i64 0, .int .i64 0, .string ⟨#[]⟩, .string (⟨#[97]⟩ : ByteArray), .int .i64 0, .int .i64 0] 34)
  replace HB := Aside0.mk (below_alloc HB.out (.cells #[.int .i64 0, .int .i64 1, .int .i64 0, .int .i64 0, .int .i64 0, (.slice A1 0 c1), .string ⟨#[]⟩, .int .i64 0, .int .i64 0, .int .i64 0, .string ⟨#[]⟩, .string (⟨#[97]⟩ : ByteArray), .int .i64 0, .int .i64 0] 34))
  replace HC := Aside0.mk (Kd.C_alloc HC.out (.cells #[.int .i64 0, .int .i64 1, .int .i64 0, .int .i64 0, .int .i64 0, (.slice A1 0 c1), .string ⟨#[]⟩, .int .i64 0, .int .i64 0, .int .i64 0, .string ⟨#[]⟩, .string (⟨#[97]⟩ : ByteArray), .int .i64 0, .int .i64 0] 34))
  go_wp2_with fail
  refine (l11_w2 _).mono ?_
  rintro e w3 ⟨rfl, b1⟩
  replace HB := Aside0.mk (below2 HB.out HB.out.size b1)
  replace HX := Aside0.mk (HX.out.keep b1)
  replace HC := Aside0.mk (Kd.C_below HC.out b1)
  clear b1
  go_wp2_with fail
  refine (l11_w3 _).mono ?_
  rintro e w4 ⟨rfl, b1⟩
  replace HB := Aside0.mk (below2 HB.out HB.out.size b1)
  replace HX := Aside0.mk (HX.out.keep b1)
  replace HC := Aside0.mk (Kd.C_below HC.out b1)
  clear b1
  go_wp2_with fail
  refine (l11_r0 [97, 98, 99] (by decide) 3 l11_e1 _).mono ?_
  rintro e w5 ⟨A2, c2, rfl, b1⟩
  replace HB := Aside0.mk (below2 HB.out HB.out.size b1)
  replace HX := Aside0.mk (HX.out.keep b1)
  replace HC := Aside0.mk (Kd.C_below HC.out b1)
  clear b1
  replace HB := Aside0.mk (below_alloc HB.out (.cells #[.int .i64 0, .int .i64 0, .int .i64 0, .int .i64 0, .int .i64 0, (.slice A2 0 c2), .string ⟨#[]⟩, .int .i64 0, .int .i64 0, .int .i64 0, .string ⟨#[]⟩, .string ⟨#[]⟩, .int .i64 0, .int .i64 0] 34))
  replace HX := Aside0.mk (HX.out.alloc (.cells #[.int .i64 0, .int .i64 0, .int .i64 0, .int .i64 0, .int .i64 0, (.slice A2 0 c2), .string ⟨#[]⟩, .int .i64 0, .int .i64 0, .int .i64 0, .string ⟨#[]⟩, .string ⟨#[]⟩, .int .i64 0, .int .i64 0] 34))
  replace HC := Aside0.mk (Kd.C_alloc HC.out (.cells #[.int .i64 0, .int .i64 0, .int .i64 0, .int .i64 0, .int .i64 0, (.slice A2 0 c2), .string ⟨#[]⟩, .int .i64 0, .int .i64 0, .int .i64 0, .string ⟨#[]⟩, .string ⟨#[]⟩, .int .i64 0, .int .i64 0] 34))
  go_wp2_with fail
  refine (rseal_L [83, 74] _ (by decide)).mono ?_
  rintro e w6 ⟨rfl, b1⟩
  replace HB := Aside0.mk (below2 HB.out HB.out.size b1)
  replace HX := Aside0.mk (HX.out.keep b1)
  replace HC := Aside0.mk (Kd.C_below HC.out b1)
  clear b1
  go_wp2_with fail
  refine (l11_r0 (sealL [83, 74]) (by rw [sealL_len]; decide) 4 l11_e2 _).mono ?_
  rintro e w7 ⟨A3, c3, rfl, b1⟩
  replace HB := Aside0.mk (below2 HB.out HB.out.size b1)
  replace HX := Aside0.mk (HX.out.keep b1)
  replace HC := Aside0.mk (Kd.C_below HC.out b1)
  clear b1
  replace HB := Aside0.mk (below_alloc HB.out (.cells #[.int .i64 0, .int .i64 0, .int .i64 0, .int .i64 0, .int .i64 0, (.slice A3 0 c3), .string ⟨#[]⟩, .int .i64 0, .int .i64 0, .int .i64 0, .string ⟨#[]⟩, .string ⟨#[]⟩, .int .i64 0, .int .i64 0] 34))
  replace HX := Aside0.mk (HX.out.alloc (.cells #[.int .i64 0, .int .i64 0, .int .i64 0, .int .i64 0, .int .i64 0, (.slice A3 0 c3), .string ⟨#[]⟩, .int .i64 0, .int .i64 0, .int .i64 0, .string ⟨#[]⟩, .string ⟨#[]⟩, .int .i64 0, .int .i64 0] 34))
  replace HC := Aside0.mk (Kd.C_alloc HC.out (.cells #[.int .i64 0, .int .i64 0, .int .i64 0, .int .i64 0, .int .i64 0, (.slice A3 0 c3), .string ⟨#[]⟩, .int .i64 0, .int .i64 0, .int .i64 0, .string ⟨#[]⟩, .string ⟨#[]⟩, .int .i64 0, .int .i64 0] 34))
  generalize w2.heap.size = gx at HX ⊢
  have d0 := HX.out.cell (i := 0) (v := .int .i64 0) rfl
  have d1 := HX.out.cell (i := 1) (v := .int .i64 1) rfl
  have d2 := HX.out.cell (i := 2) (v := .int .i64 0) rfl
  have d3 := HX.out.cell (i := 3) (v := .int .i64 0) rfl
  have d4 := HX.out.cell (i := 4) (v := .int .i64 0) rfl
  have d5 := HX.out.cell (i := 5) (v := .slice A1 0 c1) rfl
  have d6 := HX.out.cell (i := 6) (v := .string ⟨#[]⟩) rfl
  have d7 := HX.out.cell (i := 7) (v := .int .i64 0) rfl
  have d8 := HX.out.cell (i := 8) (v := .int .i64 0) rfl
  have d9 := HX.out.cell (i := 9) (v := .int .i64 0) rfl
  have d10 := HX.out.cell (i := 10) (v := .string ⟨#[]⟩) rfl
  have d11 := HX.out.cell (i := 11) (v := .string (⟨#[97]⟩ : ByteArray)) rfl
  have d12 := HX.out.cell (i := 12) (v := .int .i64 0) rfl
  have d13 := HX.out.cell (i := 13) (v := .int .i64 0) rfl
  go_wp2_with fail
  clear d0 d1 d2 d3 d4 d5 d6 d7 d8 d9 d10 d11 d12 d13
  refine (l11_same A1 c1 _ HC.out).mono ?_
  rintro e w8 ⟨rfl, b1⟩
  replace HB := Aside0.mk (below2 HB.out HB.out.size b1)
  clear b1
  go_wp2_with fail
  refine (l11_chk _).mono ?_
  rintro e w9 ⟨rfl, b1⟩
  replace HB := Aside0.mk (below2 HB.out HB.out.size b1)
  clear b1
  go_wp2_with fail
  refine (l11_vol _).mono ?_
  rintro e w10 ⟨rfl, b1⟩
  replace HB := Aside0.mk (below2 HB.out HB.out.size b1)
  clear b1
  go_wp2_with fail
  go_ret
  exact ⟨rfl, HB.out⟩
end Go.Proofs.Ytkceobahefjlnaa
end
section
/- Records as rows of cells that a walk does not look into; the contracts of what takes and gives them. -/
namespace Go.Proofs.Ytkceobahefjlnaa
open Go.RowKit Q Go.Proofs.YtkceobahefjlnaaW.PrintWords Go.Proofs.YtkceobahefjlnaaW.PrintLast Go.Proofs.YtkceobahefjlnaaW.PrintMore
/-- A record's cells; its places lie in the slice at A. -/
def rv (r : RecP) (A : Option Addr) (c : Nat) : Array Value := #[.int .i64 r.seq, .int .i64 r.kind, .int .i64 r.id, .int .i64 r.gen, .int .i64 r.len, (.slice A r.locs.length c), .string r.ekey, .int .i64 r.evol, .int .i64 r.eoff, .int .i64 r.elen, .string r.dig, .string r.key, .int .i64 r.frm, .int .i64 r.til]
/-- The slice holds its places. -/
def RV (w : World) (r : RecP) (A : Option Addr) (c : Nat) : Prop := Kd.C k67 w A r.locs.length r.locs ∧ r.locs.length ≤ c
theorem RV.below {w w' : World} {r : RecP} {A : Option Addr} {c : Nat} (h : RV w r A c) (b : Below w.heap.size w w') : RV w' r A c := ⟨Kd.C_below h.1 b, h.2⟩
theorem rv_one (r : RecP) (A : Option Addr) (c : Nat) : (rv r A c).all (·.oneCell') = true := by simp [rv, Value.oneCell']
theorem ld_rvR {w : World} {g : Nat} {r : RecP} {A : Option Addr} {c : Nat} (h : Blk w g (rv r A c) 28) : (Instr.loadAt 28 (.pointer (some ⟨g, 0, none⟩))).run Try.prog w = .ok (.agg (rv r A c)) w :=
  run_loadAt_mid w g 0 28 (rv r A c).toList _ (h.range 0 _ rfl) Try.underlying28 rfl (by kernel_rfl)
theorem ld_rvP {w : World} {g : Nat} {r : RecP} {A : Option Addr} {c : Nat} (h : Blk w g (rv r A c) 34) : (Instr.loadAt 34 (.pointer (some ⟨g, 0, none⟩))).run Try.prog w = .ok (.agg (rv r A c)) w :=
  run_loadAt_mid w g 0 34 (rv r A c).toList _ (h.range 0 _ rfl) Try.underlying34 rfl (by kernel_rfl)
/-- A whole struct stored into the block that was just made. -/
theorem put_new (w : World) (z x : Array Value) (T : TypeId) : Blk ((w.alloc (.cells z T)).setRow w.heap.size x) w.heap.size x T ∧ Below w.heap.size w ((w.alloc (.cells z T)).setRow w.heap.size x) :=
  ⟨setRow_heap _ _ _ _ _ _ (Blk.new w z T), below_setRow' (below_alloc (Below.refl _ _) _) (Nat.le_refl _) _⟩
/-- Is a record of few places and bytes? -/
def smallB (r : RecP) : Bool := decide ((r.locs.length : Int) ≤ 20) && (decide ((r.ekey.size : Int) ≤ 100) && (decide ((r.dig.size : Int) ≤ 100) && decide ((r.key.size : Int) ≤ 100)))
theorem small_ok {r : RecP} (h : smallB r = true) : r.locs.length ≤ 20 ∧ r.ekey.size ≤ 100 ∧ r.dig.size ≤ 100 ∧ r.key.size ≤ 100 := by
  unfold smallB at h
  simp only [Bool.and_eq_true, decide_eq_true_eq] at h
  omega
theorem small_rv (r : RecP) (A : Option Addr) (c : Nat) (w : World) (h : RV w r A c) : Calls Try.prog 9 #[.agg (rv r A c)] w fun e w' => e = .returned (.bool (smallB r)) ∧ Below w.heap.size w w' :=
  sluicegateref11_Small.calls r.seq r.kind r.id r.gen r.len A c r.locs r.ekey r.evol r.eoff r.elen r.dig r.key r.frm r.til _ w h.1 h.2 (by unfold sluicegateref11_Small.f smallB; simp only [ite_b])
theorem own_rv (r : RecP) (A : Option Addr) (c : Nat) (w : World) : Calls Try.prog 12 #[.agg (rv r A c)] w fun e w' => e = .returned (.agg (rv r A c)) ∧ Below w.heap.size w w' := own_any r.seq r.kind r.id r.gen r.len A r.locs.length c r.ekey r.evol r.eoff r.elen r.dig r.key r.frm r.til w
theorem write_rv (r : RecP) (A : Option Addr) (c : Nat) (w : World) (h : RV w r A c) (hl : r.locs.length ≤ 1000) : Calls Try.prog 11 #[.agg (rv r A c)] w fun e w' => e = .returned (.tuple #[.string (recW r).1, .int .i64 (recW r).2]) ∧ Below w.heap.size w w' := recwrite_calls r A c w h.1 hl h.2
theorem same_rv (a b : RecP) (A D : Option Addr) (c d : Nat) (w : World) (ha : RV w a A c) (hb : RV w b D d) (h1 : a.locs.length ≤ 1000) : Calls Try.prog 23 #[.agg (rv a A c), .agg (rv b D d)] w fun e w' => e = .returned (.bool (decide (a = b))) ∧ Below w.heap.size w w' := sames_calls a b A D c d w ha.1 hb.1 ha.2 hb.2 h1
theorem read_rv (m : List UInt8) (hm : m.length ≤ 140737488355328) (w : World) : Calls Try.prog 19 #[.string (B m)] w fun e w' => ∃ (A : Option Addr) (c : Nat), e = .returned (.tuple #[.agg (rv (recR m).1 A c), .int .i64 (recR m).2]) ∧ RV w' (recR m).1 A c ∧ Below w.heap.size w w' := by
  refine (recread_calls m hm w).mono ?_
  rintro e w' ⟨A, c, rfl, h1, h2, hB⟩
  exact ⟨A, c, rfl, ⟨h1, h2⟩, hB⟩
/-- What is read holds at most nine places. -/
theorem recR_locs (m : List UInt8) : (recR m).1.locs.length ≤ 9 := by
  unfold recR
  split
  · split
    · exact recS_locs _
    · exact Nat.zero_le _
  · exact Nat.zero_le _
/-- A text that is written is at least four bytes, and few. -/
theorem recW_ok {r : RecP} (h : (recW r).2 = 0) : chkR r = 0 ∧ recW r = (B (sealL (recT r)), 0) := by
  unfold recW at h ⊢
  by_cases hc : chkR r = 0
  · exact ⟨hc, if_pos hc⟩
  · rw [if_neg hc] at h
    exact absurd h hc
theorem vol_mem {i g n : Int} {l : List S67} (h : VolOk i g n l) : ∀ x ∈ l, (0 ≤ x.f0 ∧ x.f0 ≤ 11) ∧ (0 ≤ x.f1 ∧ x.f1 ≤ 47) := by
  intro x hx
  obtain ⟨k, hk, rfl⟩ := List.getElem_of_mem hx
  have := h.locs k (by have := h.nine; omega)
  have hr : rd_T67 l k = l[k] := by
    unfold rd_T67
    simp [List.getD, List.getElem?_eq_getElem hk]
  rwa [hr] at this
theorem locsC_len : ∀ l : List S67, (∀ x ∈ l, (0 ≤ x.f0 ∧ x.f0 ≤ 11) ∧ (0 ≤ x.f1 ∧ x.f1 ≤ 47)) → (locsC l).length = 2 * l.length
  | [], _ => rfl
  | x :: r, h => by
    have hx := h x (List.mem_cons_self ..)
    have ih := locsC_len r (fun y hy => h y (List.mem_cons_of_mem _ hy))
    show (enc x.f0.toNat ++ (enc x.f1.toNat ++ locsC r)).length = _
    rw [enc_lt (by omega), enc_lt (by omega), List.length_append, List.length_append, ih]
    simp only [List.length_cons, List.length_nil]
    omega
theorem lenT_0 (q0 q2 q3 q4 : Int) (l : List S67) (q6 : ByteArray) (q7 q8 q9 : Int) (q10 q11 : ByteArray) (q12 q13 : Int) (h : chkR (⟨q0, 0, q2, q3, q4, l, q6, q7, q8, q9, q10, q11, q12, q13⟩ : RecP) = 0) : (recT (⟨q0, 0, q2, q3, q4, l, q6, q7, q8, q9, q10, q11, q12, q13⟩ : RecP)).length ≤ 148 := by
  rw [(back_0 q0 q2 q3 q4 l q6 q7 q8 q9 q10 q11 q12 q13 h).1]
  obtain ⟨h0, hv, hk, h7, h8, h9, h10, _⟩ := chk0_0 q0 q2 q3 q4 l q6 q7 q8 q9 q10 q11 q12 q13 h
  have ev := locsC_len l (vol_mem hv)
  rw [hv.nine] at ev
  have hi := hv.i
  have hg := hv.g
  have hn := hv.n
  have e0 := enc_len8 (m := q0.toNat) (by omega)
  have e1 := enc_len8 (m := 0) (by omega)
  have e2 := enc_len8 (m := q2.toNat) (by omega)
  have e3 := enc_len8 (m := q3.toNat) (by omega)
  have e4 := enc_len8 (m := q4.toNat) (by omega)
  have e5 := enc_len8 (m := q8.toNat) (by omega)
  have e6 := enc_len8 (m := q9.toNat) (by omega)
  have hk2 := (key_ok hk).1
  have ht := txt_le q6.data.toList (by omega)
  have hd : q10.data.toList.length = q10.size := size_data _
  simp only [List.length_append, List.length_cons, List.length_nil, ev]
  omega
theorem lenT_1 (q0 q2 q3 q4 : Int) (l : List S67) (q6 : ByteArray) (q7 q8 q9 : Int) (q10 q11 : ByteArray) (q12 q13 : Int) (h : chkR (⟨q0, 1, q2, q3, q4, l, q6, q7, q8, q9, q10, q11, q12, q13⟩ : RecP) = 0) : (recT (⟨q0, 1, q2, q3, q4, l, q6, q7, q8, q9, q10, q11, q12, q13⟩ : RecP)).length ≤ 148 := by
  rw [(back_1 q0 q2 q3 q4 l q6 q7 q8 q9 q10 q11 q12 q13 h).1]
  obtain ⟨h0, hk, _⟩ := chk0_1 q0 q2 q3 q4 l q6 q7 q8 q9 q10 q11 q12 q13 h
  have e0 := enc_len8 (m := q0.toNat) (by omega)
  have e1 := enc_len8 (m := 1) (by omega)
  have hk2 := (key_ok hk).1
  have ht := txt_le q11.data.toList (by omega)
  simp only [List.length_append, List.length_cons, List.length_nil]
  omega
theorem lenT_2 (q0 q2 q3 q4 : Int) (l : List S67) (q6 : ByteArray) (q7 q8 q9 : Int) (q10 q11 : ByteArray) (q12 q13 : Int) (h : chkR (⟨q0, 2, q2, q3, q4, l, q6, q7, q8, q9, q10, q11, q12, q13⟩ : RecP) = 0) : (recT (⟨q0, 2, q2, q3, q4, l, q6, q7, q8, q9, q10, q11, q12, q13⟩ : RecP)).length ≤ 148 := by
  rw [(back_2 q0 q2 q3 q4 l q6 q7 q8 q9 q10 q11 q12 q13 h).1]
  obtain ⟨h0, hv, _⟩ := chk0_2 q0 q2 q3 q4 l q6 q7 q8 q9 q10 q11 q12 q13 h
  have ev := locsC_len l (vol_mem hv)
  rw [hv.nine] at ev
  have hi := hv.i
  have hg := hv.g
  have hn := hv.n
  have e0 := enc_len8 (m := q0.toNat) (by omega)
  have e1 := enc_len8 (m := 2) (by omega)
  have e2 := enc_len8 (m := q2.toNat) (by omega)
  have e3 := enc_len8 (m := q3.toNat) (by omega)
  have e4 := enc_len8 (m := q4.toNat) (by omega)
  simp only [List.length_append, List.length_cons, List.length_nil, ev]
  omega
theorem lenT_3 (q0 q2 q3 q4 : Int) (l : List S67) (q6 : ByteArray) (q7 q8 q9 : Int) (q10 q11 : ByteArray) (q12 q13 : Int) (h : chkR (⟨q0, 3, q2, q3, q4, l, q6, q7, q8, q9, q10, q11, q12, q13⟩ : RecP) = 0) : (recT (⟨q0, 3, q2, q3, q4, l, q6, q7, q8, q9, q10, q11, q12, q13⟩ : RecP)).length ≤ 148 := by
  rw [(back_3 q0 q2 q3 q4 l q6 q7 q8 q9 q10 q11 q12 q13 h).1]
  obtain ⟨h0, hv, hf, ht, _, _⟩ := chk0_3 q0 q2 q3 q4 l q6 q7 q8 q9 q10 q11 q12 q13 h
  have ev := locsC_len l (vol_mem hv)
  rw [hv.nine] at ev
  have hi := hv.i
  have hg := hv.g
  have hn := hv.n
  have e0 := enc_len8 (m := q0.toNat) (by omega)
  have e1 := enc_len8 (m := 3) (by omega)
  have e2 := enc_len8 (m := q2.toNat) (by omega)
  have e3 := enc_len8 (m := q3.toNat) (by omega)
  have e4 := enc_len8 (m := q4.toNat) (by omega)
  have e5 := enc_len8 (m := q12.toNat) (by omega)
  have e6 := enc_len8 (m := q13.toNat) (by omega)
  simp only [List.length_append, List.length_cons, List.length_nil, ev]
  omega
theorem lenT (r : RecP) (h : chkR r = 0) : (recT r).length ≤ 148 := by
  have hk := kind_chk r h
  obtain ⟨q0, q1, q2, q3, q4, l, q6, q7, q8, q9, q10, q11, q12, q13⟩ := r
  rcases hk with e | e | e | e
  · change q1 = 0 at e; subst e; exact lenT_0 q0 q2 q3 q4 l q6 q7 q8 q9 q10 q11 q12 q13 h
  · change q1 = 1 at e; subst e; exact lenT_1 q0 q2 q3 q4 l q6 q7 q8 q9 q10 q11 q12 q13 h
  · change q1 = 2 at e; subst e; exact lenT_2 q0 q2 q3 q4 l q6 q7 q8 q9 q10 q11 q12 q13 h
  · change q1 = 3 at e; subst e; exact lenT_3 q0 q2 q3 q4 l q6 q7 q8 q9 q10 q11 q12 q13 h
theorem recW_len (r : RecP) : (recW r).1.size ≤ 152 := by
  unfold recW
  split
  · rename_i h
    have := lenT r h
    rw [B_size, sealL_len]
    omega
  · rw [B_size]
    exact Nat.zero_le _
end Go.Proofs.Ytkceobahefjlnaa
end
section
/- RecordCut: its walk. -/
namespace Go.Proofs.Ytkceobahefjlnaa
open Go.RowKit Q Go.Proofs.YtkceobahefjlnaaW.PrintWords Go.Proofs.YtkceobahefjlnaaW.PrintLast Go.Proofs.YtkceobahefjlnaaW.PrintMore
theorem cut_no {r : RecP} (hc : chkR r = 0) (k : Nat) (hk : k < (sealL (recT r)).length) {X : RecP} {z : Int} (h : recR ((sealL (recT r)).take k) = (X, z)) (hz : z = 0) : decide (X = r) = false := by
  subst hz
  refine decide_eq_false ?_
  rintro rfl
  have h2 := (recR_inv _ (by rw [h])).2.1
  rw [h] at h2
  simp only at h2
  have := congrArg List.length h2
  rw [List.length_take] at this
  omega
set_option maxRecDepth 100000 in
set_option maxHeartbeats 2000000 in
theorem cut11 (r : RecP) (A : Option Addr) (c : Nat) (n : Int) (w : World) (ha : RV w r A c) : Calls Try.prog 8 #[.agg (rv r A c), .int .i64 n] w fun e w' => e = .returned (.bool true) ∧ Below w.heap.size w w' := by
  obtain ⟨W, hW⟩ : ∃ W, w.alloc (.cells (rv r A c) 28) = W := ⟨_, rfl⟩
  have HB : Aside0 (Below w.heap.size w W) := ⟨by rw [← hW]; exact below_alloc (Below.refl _ _) _⟩
  have HRr : Aside0 (Blk W w.heap.size (rv r A c) 28) := ⟨by rw [← hW]; exact Blk.new w _ _⟩
  have HA := Aside0.mk (ha.below HB.out)
  have HW := Lib.hid hW
  clear hW ha
  go_enter Try.func8, Try.ntmps8
  go_wp2_with (first | (refine gate_ (.load 28 (.tmp 2)) rfl ?_; rw [HW.out]; clear HW; refine wpList_load_row rfl 28 (.tmp 2) rfl w.heap.size rfl _ (rv r A c) (0, 0) _ HRr.out Try.underlying28 rfl (by kernel_rfl) ?_; simp only [Act.put, List.setIfInBounds_toArray, List.set_cons_zero, List.set_cons_succ]))
  refine (small_rv r A c W HA.out).mono ?_
  rintro e w1 ⟨rfl, b1⟩
  replace HB := Aside0.mk (below2 HB.out HB.out.size b1)
  replace HRr := Aside0.mk (HRr.out.keep b1)
  replace HA := Aside0.mk (HA.out.below b1)
  clear b1
  cases hsa : smallB r with
  | false =>
    go_wp2_with fail
    refine (live11_calls _).mono ?_
    rintro e wl ⟨rfl, bl⟩
    go_wp2_with fail
    go_ret
    exact ⟨rfl, below2 HB.out HB.out.size bl⟩
  | true =>
    have HLa := Lib.hid (show r.locs.length ≤ 1000 by have := small_ok hsa; omega)
    have hlw := recW_len r
    clear hsa
    go_wp2_with (first | (refine gate_ (.load 28 (.tmp 2)) rfl ?_; refine wpList_load_row rfl 28 (.tmp 2) rfl w.heap.size rfl _ (rv r A c) (0, 0) _ HRr.out Try.underlying28 rfl (by kernel_rfl) ?_; simp only [Act.put, List.setIfInBounds_toArray, List.set_cons_zero, List.set_cons_succ]))
    refine (own_rv r A c _).mono ?_
    rintro e w2 ⟨rfl, b1⟩
    replace HB := Aside0.mk (below2 HB.out HB.out.size b1)
    replace HRr := Aside0.mk (HRr.out.keep b1)
    replace HA := Aside0.mk (HA.out.below b1)
    clear b1
    go_wp2_with fail
    refine (write_rv r A c _ HA.out HLa.out).mono ?_
    rintro e w3 ⟨rfl, b1⟩
    replace HB := Aside0.mk (below2 HB.out HB.out.size b1)
    replace HRr := Aside0.mk (HRr.out.keep b1)
    replace HA := Aside0.mk (HA.out.below b1)
    clear b1
    by_cases hz : (recW r).2 = 0
    · obtain ⟨hc, hw⟩ := recW_ok hz
      rw [hw] at hlw ⊢
      clear hz hw
      simp only [B_size] at hlw
      obtain ⟨T, hT⟩ : ∃ T, sealL (recT r) = T := ⟨_, rfl⟩
      rw [hT] at hlw ⊢
      by_cases hn : n < 0
      · clear hc hT hlw
        go_wp2_with fail
        refine (live11_calls _).mono ?_
        rintro e wl ⟨rfl, bl⟩
        go_wp2_with fail
        go_ret
        exact ⟨rfl, below2 HB.out HB.out.size bl⟩
      · obtain ⟨k, rfl⟩ := Int.eq_ofNat_of_zero_le (a := n) (by omega)
        clear hn
        by_cases hk : k < T.length
        · obtain ⟨⟨X, z⟩, hX⟩ : ∃ X, recR (T.take k) = X := ⟨_, rfl⟩
          have HN : Hid (z = 0 → decide (X = r) = false) := Lib.hid (fun hz => cut_no hc k (by rw [hT]; exact hk) (by rw [hT]; exact hX) hz)
          have HD : Aside0 (∀ w', Calls Try.prog 19 #[.string (B (T.take k))] w' fun e w'' => ∃ (A : Option Addr) (c : Nat), e = .returned (.tuple #[.agg (rv X A c), .int .i64 z]) ∧ RV w'' X A c ∧ Below w'.heap.size w' w'') := ⟨fun w' => by have h := read_rv (T.take k) (by rw [List.length_take]; omega) w'; rwa [hX] at h⟩
          have HL9 : Hid (X.locs.length ≤ 1000) := Lib.hid (by have := recR_locs (T.take k); rw [hX] at this; simp only at this; omega)
          have hs1 : (B T).size = T.length := B_size T
          have hk' : k < (B T).size := by rw [B_size]; exact hk
          have hkl : k ≤ 1000 := by omega
          have HX : Hid ((B T).extract 0 k = B (T.take k)) := Lib.hid (by rw [B_extract, List.drop_zero]; rfl)
          clear hX hc hT hlw hk hs1
          go_wp2_with fail
          rw [HX.out]
          refine (HD.out _).mono ?_
          rintro e w4 ⟨Ax, cx, rfl, hA, b1⟩
          replace HB := Aside0.mk (below2 HB.out HB.out.size b1)
          replace HRr := Aside0.mk (HRr.out.keep b1)
          replace HA := Aside0.mk (HA.out.below b1)
          have HVx := Aside0.mk hA
          clear b1 hA
          go_wp2_with (first | (refine gate_ (.store 34 (.tmp 7) (.tmp 37)) rfl ?_; refine wpList_store_row rfl 34 (.tmp 7) (.tmp 37) rfl w4.heap.size (rv X Ax cx) rfl rfl 34 _ (Blk.new _ _ _) (by kernel_rfl) rfl (rv_one _ _ _) ?_; simp only [Act.put, List.setIfInBounds_toArray, List.set_cons_zero, List.set_cons_succ]; have hp := put_new w4 #[.int .i64 0, .int .i64 0, .int .i64 0, .int .i64 0, .int .i64 0, .slice none 0 0, .string ⟨#[]⟩, .int .i64 0, .int .i64 0, .int .i64 0, .string ⟨#[]⟩, .string ⟨#[]⟩, .int .i64 0, .int .i64 0] (rv X Ax cx) 34; generalize (w4.alloc (.cells #[.int .i64 0, .int .i64 0, .int .i64 0, .int .i64 0, .int .i64 0, .slice none 0 0, .string ⟨#[]⟩, .int .i64 0, .int .i64 0, .int .i64 0, .string ⟨#[]⟩, .string ⟨#[]⟩, .int .i64 0, .int .i64 0] 34)).setRow w4.heap.size (rv X Ax cx) = wxx at hp ⊢; replace HB := Aside0.mk (below2 HB.out HB.out.size hp.2); replace HRr := Aside0.mk (HRr.out.keep hp.2); replace HA := Aside0.mk (HA.out.below hp.2); replace HVx := Aside0.mk (HVx.out.below hp.2); have HRx := Aside0.mk hp.1; clear hp; generalize w4.heap.size = gx at HRx ⊢))
          by_cases hz : z = 0
          · subst hz
            have HS : Aside0 (∀ w', Below wxx.heap.size wxx w' → Calls Try.prog 23 #[.agg (rv X Ax cx), .agg (rv r A c)] w' fun e w'' => e = .returned (.bool false) ∧ Below w'.heap.size w' w'') := ⟨fun w' hw' => by have h := same_rv X r Ax A cx c w' (HVx.out.below hw') (HA.out.below hw') HL9.out; rwa [HN.out rfl] at h⟩
            go_wp2_with fail
            refine region_below_tail 12 (by kernel_rfl) (by kernel_rfl) ?_
            simp only [List.take_succ_cons, List.take_zero, List.drop_succ_cons, List.drop_zero]
            repeat (first | go_big_quiet_step (fail) | (refine BigFrame.wpQuiet_want (by rfl) (fun K hK => ?_); go_big_quiet_op; refine ⟨_, fun _ _ => rfl, hK _ ?_⟩; clear hK K) | (refine q_rdw 34 _ _ ⟨gx, 0, none⟩ (.agg (rv X Ax cx)) rfl rfl (by rfl) rfl (fun w' hw' => ld_rvP (HRx.out.keep hw')) ?_; simp only [Act.put, List.setIfInBounds_toArray, List.set_cons_zero, List.set_cons_succ]) | (refine q_rdw 28 _ _ ⟨w.heap.size, 0, none⟩ (.agg (rv r A c)) rfl rfl (by rfl) rfl (fun w' hw' => ld_rvR (HRr.out.keep hw')) ?_; simp only [Act.put, List.setIfInBounds_toArray, List.set_cons_zero, List.set_cons_succ]) | (refine q_gow (f := 12) Try.func12 (by kernel_rfl) rfl #[.agg (rv r A c)] (.agg (rv r A c)) _ rfl rfl (by rfl) (by simp only [List.map_toArray, List.map_cons, List.map_nil]; rfl) (fun w' hw' => own_rv r A c w') ?_; simp only [Act.put, List.setIfInBounds_toArray, List.set_cons_zero, List.set_cons_succ]) | (refine q_gow (f := 23) Try.func23 (by kernel_rfl) rfl #[.agg (rv X Ax cx), .agg (rv r A c)] (.bool false) _ rfl rfl (by rfl) (by simp only [List.map_toArray, List.map_cons, List.map_nil]; rfl) (fun w' hw' => HS.out w' hw') ?_; simp only [Act.put, List.setIfInBounds_toArray, List.set_cons_zero, List.set_cons_succ]) | (refine q_gow (f := 10) Try.func10 (by kernel_rfl) rfl #[] (.bool true) _ rfl rfl (by rfl) (by simp) (fun w' hw' => live11_calls w') ?_; simp only [Act.put, List.setIfInBounds_toArray, List.set_cons_zero, List.set_cons_succ]))
            refine wpQuiet_nil ?_
            intro wm hw'
            go_wp2_with fail
            go_ret
            exact ⟨rfl, below2 HB.out HB.out.size hw'⟩
          · have hz2 : (z != 0) = true := bne_iff_ne.mpr hz
            clear hz
            go_wp2_with fail
            refine region_below_tail 12 (by kernel_rfl) (by kernel_rfl) ?_
            simp only [List.take_succ_cons, List.take_zero, List.drop_succ_cons, List.drop_zero]
            repeat (first | go_big_quiet_step (fail) | (refine BigFrame.wpQuiet_want (by rfl) (fun K hK => ?_); go_big_quiet_op; refine ⟨_, fun _ _ => rfl, hK _ ?_⟩; clear hK K) | (refine q_gow (f := 10) Try.func10 (by kernel_rfl) rfl #[] (.bool true) _ rfl rfl (by rfl) (by simp) (fun w' hw' => live11_calls w') ?_; simp only [Act.put, List.setIfInBounds_toArray, List.set_cons_zero, List.set_cons_succ]))
            refine wpQuiet_nil ?_
            intro wm hw'
            go_wp2_with fail
            go_ret
            exact ⟨rfl, below2 HB.out HB.out.size hw'⟩
        · have hs1 : (B T).size = T.length := B_size T
          have hk' : ¬ k < (B T).size := by rw [B_size]; exact hk
          clear hc hT hlw hk hs1
          go_wp2_with fail
          refine (live11_calls _).mono ?_
          rintro e wl ⟨rfl, bl⟩
          go_wp2_with fail
          go_ret
          exact ⟨rfl, below2 HB.out HB.out.size bl⟩
    · have hz2 : ((recW r).2 != 0) = true := bne_iff_ne.mpr hz
      generalize (recW r).2 = z at hz2 ⊢
      clear hz hlw
      go_wp2_with fail
      refine (live11_calls _).mono ?_
      rintro e wl ⟨rfl, bl⟩
      go_wp2_with fail
      go_ret
      exact ⟨rfl, below2 HB.out HB.out.size bl⟩
theorem recordCut_walk (a0_0 a0_1 a0_2 a0_3 a0_4 : Int) (A0_5 : Option Addr) (c0_5 : Nat) (l0_5 : List S67) (a0_6 : ByteArray) (a0_7 a0_8 a0_9 : Int) (a0_10 a0_11 : ByteArray) (a0_12 a0_13 : Int) (a1 : Int) (w : World) {P0 P1 P2 P3 P4 P5 P6 P7 P8 P9 P10 P11 P12 P13 P14 : Prop} (_ : P0) (_ : P1) (_ : P2) (_ : P3) (_ : P4) (hr0_5 : Kd.C k67 w A0_5 l0_5.length l0_5) (hc0_5 : l0_5.length ≤ c0_5) (_ : P5) (_ : P6) (_ : P7) (_ : P8) (_ : P9) (_ : P10) (_ : P11) (_ : P12) (_ : P13) (_ : P14) :
    Calls Try.prog 8 #[.agg #[.int .i64 a0_0, .int .i64 a0_1, .int .i64 a0_2, .int .i64 a0_3, .int .i64 a0_4, .slice A0_5 l0_5.length c0_5, .string a0_6, .int .i64 a0_7, .int .i64 a0_8, .int .i64 a0_9, .string a0_10, .string a0_11, .int .i64 a0_12, .int .i64 a0_13], .int .i64 a1] w fun e w' => e = .returned (.bool true) ∧ Below w.heap.size w w' :=
  cut11 ⟨a0_0, a0_1, a0_2, a0_3, a0_4, l0_5, a0_6, a0_7, a0_8, a0_9, a0_10, a0_11, a0_12, a0_13⟩ A0_5 c0_5 a1 w ⟨hr0_5, hc0_5⟩
end Go.Proofs.Ytkceobahefjlnaa
end
