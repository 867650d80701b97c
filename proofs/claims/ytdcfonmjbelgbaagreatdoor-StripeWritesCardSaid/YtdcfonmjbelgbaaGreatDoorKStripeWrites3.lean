/- Lemmas for the law StripeWrites, merged out of several texts and cut down to what it names, by a program of this session (some of the first ones are of the words that print.sh wrote for this claim). -/
import Derived.Laws.Strings
import Derived.Lib.IndexBytes
import Derived.Lib.PathFns
import Derived.Laws.BitsLemmas
import Derived.Test.YtdcfonmjbelgbaaGreatDoorProg
import Derived.Below
import Derived.WalkKit
import Derived.Lib.Builder
import Derived.Laws.Tables
import Derived.WalkSpells
import Derived.WalkLawsBesides
import Derived.Lib.Hide
import Derived.Lib.FrozenHead2
import Derived.Lib.UnsafeStr
import Derived.Outline
import Derived.BigCall
import Derived.Shelf.RegionOpenPlain
import Derived.Laws.Externs
import Derived.Lib.OthersKept
import Derived.Test.YtdcfonmjbelgbaaGreatDoorKStripeWrites1
import Derived.Test.YtdcfonmjbelgbaaGreatDoorKStripeWrites2
set_option linter.unusedVariables false
set_option linter.unusedSimpArgs false
section
namespace Go.Proofs.YtdcfonmjbelgbaaGreatDoor.Q
open Go.RowKit Go.Proofs.YtdcfonmjbelgbaaGreatDoorW.PrintWords Go.Proofs.YtdcfonmjbelgbaaGreatDoorW.PrintLast Go.Proofs.YtdcfonmjbelgbaaGreatDoorW.PrintMore
attribute [local go_sem] max2_int min2_int max_two min_two max_three min_three max_four min_four   -- for this text's walks alone
set_option linter.unusedVariables false
set_option linter.unusedSimpArgs false
mutual
def sluicegateref02_Encode.j0 : Nat → List ByteArray → Bool → Option (List ByteArray × Int)
  | 0, _, _ => none
  | k + 1, x0, x13 => if x13 = true then (some (([] : List ByteArray), 1)) else (sluicegateref02_Encode.l0 k x0 ([] : List ByteArray) 0)
def sluicegateref02_Encode.l0 : Nat → List ByteArray → List ByteArray → Int → Option (List ByteArray × Int)
  | 0, _, _, _ => none
  | k + 1, x0, x4, x5 => if x5 < 9 then ((sluicegateref02_shard.f k x0 x5).bind fun t202 => (if x4.length < 8796093022208 then (sluicegateref02_Encode.l0 k x0 (x4 ++ [t202]) (wrap64 (x5 + 1))) else (none))) else (some (x4, 0))
end
def sluicegateref02_Encode.f (k : Nat) (l0 : List ByteArray) : Option (List ByteArray × Int) := if (l0.length : Int) = 6 then ((sluicegateref02_one.f k l0).bind fun t201 => (sluicegateref02_Encode.j0 k l0 (!t201))) else (sluicegateref02_Encode.j0 k l0 true)
set_option maxHeartbeats 8000000 in
set_option maxRecDepth 100000 in
theorem sluicegateref02_Encode.calls (k : Nat) (A0 : Option Addr) (c0 : Nat) (l0 : List ByteArray) (r1 : List ByteArray) (r2 : Int) (w : World) (hr0 : Kd.C Kd.string w A0 l0.length l0) (hc0 : l0.length ≤ c0) (h : sluicegateref02_Encode.f k l0 = some (r1, r2)) :
    Calls Tryz.prog 31 #[.slice A0 l0.length c0] w fun e w' => ∃ v0_ : Value, e = .returned (.tuple #[v0_, .int .i64 r2]) ∧ Kd.R Kd.string 9 w' w.heap.size (fun _ => True) v0_ r1 ∧ Below w.heap.size w w' := by
  have HR0 := Aside0.mk hr0
  have HC0 := Aside0.mk hc0
  clear hr0 hc0
  have HB := Aside0.mk (Below.refl w.heap.size w)
  have H : (if (l0.length : Int) = 6 then ((sluicegateref02_one.f k l0).bind fun t201 => (sluicegateref02_Encode.j0 k l0 (!t201))) else (sluicegateref02_Encode.j0 k l0 true)) = some (r1, r2) := h
  clear h
  have HC2 := Aside0.mk H
  clear H
  go_enter Tryz.func31, Tryz.ntmps31
  go_upto_region 1 with (fail)
  go_cut [13] (fun v13 wc => ∃ (kq : Nat) (x13_1 : Bool), v13 = .bool x13_1 ∧ Aside0 (sluicegateref02_Encode.j0 kq l0 x13_1 = some (r1, r2)) ∧ Aside0 (kq ≤ k) ∧ Aside0 (Below w.heap.size w wc))
  case first =>
    have H := HC2.out
    clear HC2
    by_cases c3 : (l0.length : Int) = 6
    · rw [if_pos c3] at H
      have c3b0 : ((l0.length : Int) == 6) = true := beq_iff_eq.mpr c3
      have c3b1 : ((l0.length : Int) != 6) = false := bne_eq_false_iff_eq.mpr c3
      clear c3
      (first | rw [c3b0] | (simp only [i64_w, i32_w]; rw [c3b0]) | skip)
      replace H := Option.bind_eq_some_iff.mp H
      obtain ⟨t201, A40, H⟩ := H
      replace H : (sluicegateref02_Encode.j0 k l0 (!t201)) = some (r1, r2) := H
      have A4 := Aside0.mk A40
      clear A40
      have H' := Aside0.mk H
      clear H
      go_wp2_with (first | (go_at_call 48; (with_reducible refine (sluicegateref02_one.calls k _ _ l0 t201 _ ?side1 ?side2 A4.out).mono ?_); (case side1 => repeat (first | exact (Kd.C_below HR0.out HB.out) | (with_reducible refine Kd.C_alloc ?_ _) | (with_reducible refine Kd.C_drewN ?_ _) | (with_reducible refine Kd.C_drew ?_))); (case side2 => exact HC0.out); rintro e w' ⟨rfl, ⟨nd, rfl⟩⟩))
      go_meet
      case rel => exact ⟨_, (!t201), (by first | rfl | (simp; done) | (simp [*]; done)), H', ⟨by first | omega | exact Nat.le_refl _⟩, ⟨by repeat (first | (with_reducible first | exact HB.out | apply below_alloc | apply pw_below_drewN | apply below_drew1) | exact HB.out)⟩⟩
    · rw [if_neg c3] at H
      have c3b0 : ((l0.length : Int) == 6) = false := beq_eq_false_iff_ne.mpr c3
      have c3b1 : ((l0.length : Int) != 6) = true := bne_iff_ne.mpr c3
      (first | rw [c3b0] | (simp only [i64_w, i32_w]; rw [c3b0]) | skip)
      have H' := Aside0.mk H
      clear H
      go_wp2
      go_meet
      case rel => exact ⟨_, (true), (by first | rfl | (simp; done) | (simp [*]; done)), H', ⟨by first | omega | exact Nat.le_refl _⟩, ⟨by repeat (first | (with_reducible first | exact HB.out | apply below_alloc | apply pw_below_drewN | apply below_drew1) | exact HB.out)⟩⟩
  case rest =>
    clear HC2
    try clear p2
    try clear c3
    try clear c3b0
    try clear c3b1
    obtain ⟨kq, x13_1, rfl, HA, HJ1, HB⟩ := hcut
    cases kq with
    | zero => exact absurd HA.out (by simp [sluicegateref02_Encode.j0])
    | succ kj1 =>
      have H := HA.out
      clear HA
      simp only [sluicegateref02_Encode.j0] at H
      by_cases c5 : x13_1 = true
      · subst c5
        have H1 : (some (([] : List ByteArray), 1)) = some (r1, r2) := by rw [if_pos rfl] at H; exact H
        clear H
        have H := H1
        clear H1
        simp only [Option.some.injEq, Prod.mk.injEq] at H
        obtain ⟨rfl, rfl⟩ := H
        go_wp2
        go_ret2
        exact ⟨_, by first | rfl | (simp [errW_none, errW_some] <;> rfl) | (simp [*, errW_none, errW_some] <;> rfl), by first | exact Kd.R_nil _ _ _ _ _ | exact Kd.N_nil _ _ _ _ _ | exact Kd.V_nil _ _ _ _ _ | exact Kd.Q_nil _ _ _ _ _ | exact Kd.S_nil _ _ _ _ _, by repeat (first | (with_reducible first | exact HB.out | apply below_alloc | apply pw_below_drewN | apply below_drew1) | exact HB.out)⟩
      · replace c5 := Bool.eq_false_iff.mpr c5
        subst c5
        have H1 : (sluicegateref02_Encode.l0 kj1 l0 ([] : List ByteArray) 0) = some (r1, r2) := by rw [if_neg (show ¬ (false = true) by decide)] at H; exact H
        clear H
        have H := H1
        clear H1
        have H' := Aside0.mk H
        clear H
        go_wp2
        go_loopg [4, 5] kj1 (fun kq v4 v5 w' => ∃ (x4_2 : List ByteArray) (x5_2 : Int), v5 = .int .i64 x5_2 ∧ Aside0 (sluicegateref02_Encode.l0 kq l0 x4_2 x5_2 = some (r1, r2)) ∧ Aside0 (kq ≤ kj1) ∧ Aside0 (Kd.R Kd.string 9 w' w.heap.size (fun _ => True) v4 x4_2) ∧ Aside0 (Below w.heap.size w w'))
        case atStart => exact ⟨(([] : List ByteArray)), (0), (by first | rfl | (simp; done) | (simp [*]; done)), H', ⟨Nat.le_refl _⟩, ⟨by first | exact Kd.R_nil _ _ _ _ _ | exact Kd.N_nil _ _ _ _ _ | exact Kd.V_nil _ _ _ _ _ | exact Kd.Q_nil _ _ _ _ _ | exact Kd.S_nil _ _ _ _ _⟩, ⟨by repeat (first | (with_reducible first | exact HB.out | apply below_alloc | apply pw_below_drewN | apply below_drew1) | exact HB.out)⟩⟩
        case round =>
          clear H'
          try clear p2
          try clear c3
          try clear c3b0
          try clear c3b1
          try clear c5
          try clear p2
          obtain ⟨x4_2, x5_2, rfl, HA, HK2, HO_4, HB⟩ := hrel
          cases gk with
          | zero => exact absurd HA.out (by simp [sluicegateref02_Encode.l0])
          | succ k2 =>
            have H := HA.out
            clear HA
            simp only [sluicegateref02_Encode.l0] at H
            by_cases c6 : x5_2 < 9
            · rw [if_pos c6] at H
              have c6b0 : decide (x5_2 < 9) = true := decide_eq_true c6
              clear c6
              replace H := Option.bind_eq_some_iff.mp H
              obtain ⟨t202, A70, H⟩ := H
              replace H : (if x4_2.length < 8796093022208 then (sluicegateref02_Encode.l0 k2 l0 (x4_2 ++ [t202]) (wrap64 (x5_2 + 1))) else (none)) = some (r1, r2) := H
              have A7 := Aside0.mk A70
              clear A70
              by_cases c8 : x4_2.length < 8796093022208
              · rw [if_pos c8] at H
                have LMc8 := Aside0.mk c8
                clear c8
                obtain ⟨y203, hy203⟩ : ∃ y_ : List ByteArray, y_ = (x4_2 ++ [t202]) := ⟨_, rfl⟩
                replace H : (sluicegateref02_Encode.l0 k2 l0 y203 (wrap64 (x5_2 + 1))) = some (r1, r2) := by first | (rw [hy203]; with_reducible exact H) | (have H2_ := (Option.bind_some _ _).symm.trans H; rw [hy203]; with_reducible exact H2_) | (have H2_ := (Option.bind_some _ _).symm.trans H; with_reducible exact H2_) | with_reducible exact H | (rw [hy203]; exact H) | exact H
                have Ny203 := Aside0.mk hy203
                clear hy203
                have H' := Aside0.mk H
                clear H
                go_wp2_with (first | ((with_reducible refine gate_callee (f := 49) rfl ?_); refine goesL_ (some 21) rfl rfl Tryz.func49 (by kernel_rfl) rfl #[.slice A0 l0.length c0, .int .i64 x5_2] rfl (by (try simp only [List.map_toArray, List.map_cons, List.map_nil]); first | done | rfl | (simp only [List.length_drop, List.length_take]; rfl)) ?_; (with_reducible refine (sluicegateref02_shard.calls k2 _ _ l0 x5_2 t202 _ ?side1 ?side2 A7.out).mono ?_); (case side1 => repeat (first | exact (Kd.C_below HR0.out HB.out) | (with_reducible refine Kd.C_alloc ?_ _) | (with_reducible refine Kd.C_drewN ?_ _) | (with_reducible refine Kd.C_drew ?_))); (case side2 => exact HC0.out); rintro e w9 ⟨rfl, hb⟩; refine ⟨_, rfl, ?_⟩; have n0_ := Aside0.mk (Kd.R_below (by (with_reducible repeat (first | apply Kd.R_alloc | apply Kd.R_drewN | apply Kd.R_drew)); exact HO_4.out) hb); have n1_ := Aside0.mk (below_step (by repeat (first | (with_reducible first | exact HB.out | apply below_alloc | apply pw_below_drewN | apply below_drew1) | exact HB.out)) hb); clear HO_4; clear HB; have HO_4 := n0_; have HB := n1_; clear n0_ n1_; (try clear hb); (try clear hb2); (try clear hk); (try clear hi)) | ((with_reducible refine gate_builtin (b := .append) (xs := #[.tmp 18, .tmp 22]) rfl ?_); at_builtin; refine Kd.R_append Kd.string (w0 := w) w.heap.size rfl (.tmp 18) (.tmp 22) 27 9 (.string ⟨#[]⟩) 16 rfl Tryz.underlying27 info9 rfl (by decide) (by omega) u4 x4_2 t202 [.string t202] (fun _ => True) (fun _ => False) rfl rfl ?aP (fun _ hk => hk.elim) ?aF ?aO ?aB ?aS ?aL ?_; (case aP => exact rfl); (case aB => exact (by repeat (first | (with_reducible first | exact HB.out | apply below_alloc | apply pw_below_drewN | apply below_drew1) | exact HB.out))); (case aF => exact (fun _ _ => trivial)); (case aO => exact (by (with_reducible repeat (first | apply Kd.R_alloc | apply Kd.R_drewN | apply Kd.R_drew)); exact HO_4.out)); (case aS => exact (below_size (by repeat (first | (with_reducible first | exact HB.out | apply below_alloc | apply pw_below_drewN | apply below_drew1) | exact HB.out)))); (case aL => have := LMc8.out; omega); intro v204 w10 ho hb hg hat; rw [← Ny203.out] at ho; have n0_ := Aside0.mk (hb); have n1_ := Aside0.mk (ho); clear HB; clear HO_4; have HB := n0_; have HO205 := n1_; clear n0_ n1_; clear ho hb hg hat))
                go_roundg k2
                case measure => have := HJ1.out; have := HK2.out; omega
                case rel => exact ⟨(y203), (wrap64 (x5_2 + 1)), (by first | rfl | (simp; done) | (simp [*]; done)), H', ⟨by have := HJ1.out; have := HK2.out; omega⟩, ⟨by (with_reducible repeat (first | apply Kd.R_alloc | apply Kd.R_drewN | apply Kd.R_drew)); exact HO205.out⟩, ⟨by repeat (first | (with_reducible first | exact HB.out | apply below_alloc | apply pw_below_drewN | apply below_drew1) | exact HB.out)⟩⟩
              · rw [if_neg c8] at H
                exact absurd H (by simp)
            · rw [if_neg c6] at H
              have c6b0 : decide (x5_2 < 9) = false := decide_eq_false c6
              clear c6
              simp only [Option.some.injEq, Prod.mk.injEq] at H
              obtain ⟨rfl, rfl⟩ := H
              go_wp2
              go_ret2
              exact ⟨_, by first | rfl | (simp [errW_none, errW_some] <;> rfl) | (simp [*, errW_none, errW_some] <;> rfl), by (with_reducible repeat (first | apply Kd.R_alloc | apply Kd.R_drewN | apply Kd.R_drew)); exact HO_4.out, by repeat (first | (with_reducible first | exact HB.out | apply below_alloc | apply pw_below_drewN | apply below_drew1) | exact HB.out)⟩
def sluicegateref07_Check.j0 : Nat → Bool → Int → Int → Int → Int → Int → ByteArray → Option (Int)
  | 0, _, _, _, _, _, _, _ => none
  | k + 1, x57, x207000, x207001, x207002, x207003, x207004, x207005 => if x57 = true then (some 1) else (if (x207005.size : Int) > 64 then (some 12) else (some 0))
def sluicegateref07_Check.f (k : Nat) (a0_0 : Int) (a0_1 : Int) (a0_2 : Int) (a0_3 : Int) (a0_4 : Int) (a0_5 : ByteArray) : Option (Int) := if a0_0 < 0 then (sluicegateref07_Check.j0 k true a0_0 a0_1 a0_2 a0_3 a0_4 a0_5) else (if a0_0 > 1099511627776 then (sluicegateref07_Check.j0 k true a0_0 a0_1 a0_2 a0_3 a0_4 a0_5) else (if a0_1 < 0 then (sluicegateref07_Check.j0 k true a0_0 a0_1 a0_2 a0_3 a0_4 a0_5) else (if a0_1 > 1099511627776 then (sluicegateref07_Check.j0 k true a0_0 a0_1 a0_2 a0_3 a0_4 a0_5) else (if a0_2 < 0 then (sluicegateref07_Check.j0 k true a0_0 a0_1 a0_2 a0_3 a0_4 a0_5) else (if a0_2 > 8 then (sluicegateref07_Check.j0 k true a0_0 a0_1 a0_2 a0_3 a0_4 a0_5) else (if a0_3 < 0 then (sluicegateref07_Check.j0 k true a0_0 a0_1 a0_2 a0_3 a0_4 a0_5) else (if a0_3 > 11 then (sluicegateref07_Check.j0 k true a0_0 a0_1 a0_2 a0_3 a0_4 a0_5) else (if a0_4 < 0 then (sluicegateref07_Check.j0 k true a0_0 a0_1 a0_2 a0_3 a0_4 a0_5) else (sluicegateref07_Check.j0 k (decide (a0_4 > 47)) a0_0 a0_1 a0_2 a0_3 a0_4 a0_5)))))))))
set_option maxHeartbeats 8000000 in
set_option maxRecDepth 100000 in
theorem sluicegateref07_Check.calls (k : Nat) (a0_0 : Int) (a0_1 : Int) (a0_2 : Int) (a0_3 : Int) (a0_4 : Int) (a0_5 : ByteArray) (r : Int) (w : World) (h : sluicegateref07_Check.f k a0_0 a0_1 a0_2 a0_3 a0_4 a0_5 = some r) :
    Calls Tryz.prog 50 #[.agg #[.int .i64 a0_0, .int .i64 a0_1, .int .i64 a0_2, .int .i64 a0_3, .int .i64 a0_4, .string a0_5]] w fun e w' => e = .returned (.int .i64 r) ∧ Below w.heap.size w w' := by
  have hu64 := Tryz.underlying64
  have HB := Aside0.mk (Below.refl w.heap.size w)
  have H : (if a0_0 < 0 then (sluicegateref07_Check.j0 k true a0_0 a0_1 a0_2 a0_3 a0_4 a0_5) else (if a0_0 > 1099511627776 then (sluicegateref07_Check.j0 k true a0_0 a0_1 a0_2 a0_3 a0_4 a0_5) else (if a0_1 < 0 then (sluicegateref07_Check.j0 k true a0_0 a0_1 a0_2 a0_3 a0_4 a0_5) else (if a0_1 > 1099511627776 then (sluicegateref07_Check.j0 k true a0_0 a0_1 a0_2 a0_3 a0_4 a0_5) else (if a0_2 < 0 then (sluicegateref07_Check.j0 k true a0_0 a0_1 a0_2 a0_3 a0_4 a0_5) else (if a0_2 > 8 then (sluicegateref07_Check.j0 k true a0_0 a0_1 a0_2 a0_3 a0_4 a0_5) else (if a0_3 < 0 then (sluicegateref07_Check.j0 k true a0_0 a0_1 a0_2 a0_3 a0_4 a0_5) else (if a0_3 > 11 then (sluicegateref07_Check.j0 k true a0_0 a0_1 a0_2 a0_3 a0_4 a0_5) else (if a0_4 < 0 then (sluicegateref07_Check.j0 k true a0_0 a0_1 a0_2 a0_3 a0_4 a0_5) else (sluicegateref07_Check.j0 k (decide (a0_4 > 47)) a0_0 a0_1 a0_2 a0_3 a0_4 a0_5)))))))))) = some r := h
  clear h
  have HC2 := Aside0.mk H
  clear H
  go_enter Tryz.func50, Tryz.ntmps50
  go_upto_region 2 with (first | ((with_reducible refine gate_dst (N := 1) rfl ?_); refine box_event ?hg (N := 1) ?hd (cs := #[.int .i64 a0_0, .int .i64 a0_1, .int .i64 a0_2, .int .i64 a0_3, .int .i64 a0_4, .string a0_5]) (t := 64) ?hr ?_; (case hd => rfl); (case hg => rfl); (case hr => first | (go_simp; done) | (go_simp; rfl)); intro gb206 hg w3 hbox hb; have n0_ := Aside0.mk (below_step (by repeat (first | (with_reducible first | exact HB.out | apply below_alloc | apply pw_below_drewN | apply below_drew1) | exact HB.out)) hb); have n1_ := Aside0.mk (hbox); have n2_ := Aside0.mk ((by rw [hg]; exact (below_size (by repeat (first | (with_reducible first | exact HB.out | apply below_alloc | apply pw_below_drewN | apply below_drew1) | exact HB.out))) : w.heap.size ≤ gb206)); have n3_ := Aside0.mk ((by rw [hg]; exact (below_size (by repeat (first | (with_reducible first | exact HB.out | apply below_alloc | apply pw_below_drewN | apply below_drew1) | exact HB.out))) : w.heap.size ≤ gb206)); clear HB; have HB := n0_; have BK206 := n1_; have GW206 := n2_; have GE206 := n3_; clear n0_ n1_ n2_ n3_; clear hb hbox hg))
  (try simp only [Act.put, List.setIfInBounds_toArray, List.set_cons_zero, List.set_cons_succ])
  go_cut [57] (fun v57 wc => ∃ (kq : Nat) (x57_1 : Bool), v57 = .bool x57_1 ∧ Aside0 (sluicegateref07_Check.j0 kq x57_1 a0_0 a0_1 a0_2 a0_3 a0_4 a0_5 = some r) ∧ Aside0 (kq ≤ k) ∧ Aside0 (wc.heap[gb206]? = some (.cells #[.int .i64 a0_0, .int .i64 a0_1, .int .i64 a0_2, .int .i64 a0_3, .int .i64 a0_4, .string a0_5] 64 (0, 0))) ∧ Aside0 (Below w.heap.size w wc))
  case first =>
    have H := HC2.out
    clear HC2
    by_cases c4 : a0_0 < 0
    · rw [if_pos c4] at H
      have c4b0 : decide (a0_0 < 0) = true := decide_eq_true c4
      clear c4
      (first | rw [c4b0] | (simp only [i64_w, i32_w]; rw [c4b0]) | skip)
      have H' := Aside0.mk H
      clear H
      have hcz5_0 : w3.cell? ⟨gb206, 0, none⟩ = some (.int .i64 a0_0) := (blk_cell BK206.out 0).trans rfl
      have hcz5_1 : w3.cell? ⟨gb206, 1, none⟩ = some (.int .i64 a0_1) := (blk_cell BK206.out 1).trans rfl
      have hcz5_2 : w3.cell? ⟨gb206, 2, none⟩ = some (.int .i64 a0_2) := (blk_cell BK206.out 2).trans rfl
      have hcz5_3 : w3.cell? ⟨gb206, 3, none⟩ = some (.int .i64 a0_3) := (blk_cell BK206.out 3).trans rfl
      have hcz5_4 : w3.cell? ⟨gb206, 4, none⟩ = some (.int .i64 a0_4) := (blk_cell BK206.out 4).trans rfl
      have hcz5_5 : w3.cell? ⟨gb206, 5, none⟩ = some (.string a0_5) := (blk_cell BK206.out 5).trans rfl
      have hfz5_0 := blk_frozen BK206.out 0
      have hfz5_1 := blk_frozen BK206.out 1
      have hfz5_2 := blk_frozen BK206.out 2
      have hfz5_3 := blk_frozen BK206.out 3
      have hfz5_4 := blk_frozen BK206.out 4
      have hfz5_5 := blk_frozen BK206.out 5
      go_wp2
      go_meet
      case rel => exact ⟨_, (true), (by first | rfl | (simp; done) | (simp [*]; done)), H', ⟨by first | omega | exact Nat.le_refl _⟩, ⟨by (with_reducible repeat (first | refine blk_drewN ?_ _ | refine blk_drew ?_ | refine blk_alloc ?_ _)); exact BK206.out⟩, ⟨by repeat (first | (with_reducible first | exact HB.out | apply below_alloc | apply pw_below_drewN | apply below_drew1 | refine below_set ?_ GE206.out) | exact HB.out)⟩⟩
    · rw [if_neg c4] at H
      have c4b0 : decide (a0_0 < 0) = false := decide_eq_false c4
      clear c4
      (first | rw [c4b0] | (simp only [i64_w, i32_w]; rw [c4b0]) | skip)
      by_cases c6 : a0_0 > 1099511627776
      · rw [if_pos c6] at H
        have c6b0 : decide (1099511627776 < a0_0) = true := decide_eq_true c6
        clear c6
        have H' := Aside0.mk H
        clear H
        have hcz7_0 : w3.cell? ⟨gb206, 0, none⟩ = some (.int .i64 a0_0) := (blk_cell BK206.out 0).trans rfl
        have hcz7_1 : w3.cell? ⟨gb206, 1, none⟩ = some (.int .i64 a0_1) := (blk_cell BK206.out 1).trans rfl
        have hcz7_2 : w3.cell? ⟨gb206, 2, none⟩ = some (.int .i64 a0_2) := (blk_cell BK206.out 2).trans rfl
        have hcz7_3 : w3.cell? ⟨gb206, 3, none⟩ = some (.int .i64 a0_3) := (blk_cell BK206.out 3).trans rfl
        have hcz7_4 : w3.cell? ⟨gb206, 4, none⟩ = some (.int .i64 a0_4) := (blk_cell BK206.out 4).trans rfl
        have hcz7_5 : w3.cell? ⟨gb206, 5, none⟩ = some (.string a0_5) := (blk_cell BK206.out 5).trans rfl
        have hfz7_0 := blk_frozen BK206.out 0
        have hfz7_1 := blk_frozen BK206.out 1
        have hfz7_2 := blk_frozen BK206.out 2
        have hfz7_3 := blk_frozen BK206.out 3
        have hfz7_4 := blk_frozen BK206.out 4
        have hfz7_5 := blk_frozen BK206.out 5
        go_wp2
        go_meet
        case rel => exact ⟨_, (true), (by first | rfl | (simp; done) | (simp [*]; done)), H', ⟨by first | omega | exact Nat.le_refl _⟩, ⟨by (with_reducible repeat (first | refine blk_drewN ?_ _ | refine blk_drew ?_ | refine blk_alloc ?_ _)); exact BK206.out⟩, ⟨by repeat (first | (with_reducible first | exact HB.out | apply below_alloc | apply pw_below_drewN | apply below_drew1 | refine below_set ?_ GE206.out) | exact HB.out)⟩⟩
      · rw [if_neg c6] at H
        have c6b0 : decide (1099511627776 < a0_0) = false := decide_eq_false c6
        clear c6
        by_cases c8 : a0_1 < 0
        · rw [if_pos c8] at H
          have c8b0 : decide (a0_1 < 0) = true := decide_eq_true c8
          clear c8
          have H' := Aside0.mk H
          clear H
          have hcz9_0 : w3.cell? ⟨gb206, 0, none⟩ = some (.int .i64 a0_0) := (blk_cell BK206.out 0).trans rfl
          have hcz9_1 : w3.cell? ⟨gb206, 1, none⟩ = some (.int .i64 a0_1) := (blk_cell BK206.out 1).trans rfl
          have hcz9_2 : w3.cell? ⟨gb206, 2, none⟩ = some (.int .i64 a0_2) := (blk_cell BK206.out 2).trans rfl
          have hcz9_3 : w3.cell? ⟨gb206, 3, none⟩ = some (.int .i64 a0_3) := (blk_cell BK206.out 3).trans rfl
          have hcz9_4 : w3.cell? ⟨gb206, 4, none⟩ = some (.int .i64 a0_4) := (blk_cell BK206.out 4).trans rfl
          have hcz9_5 : w3.cell? ⟨gb206, 5, none⟩ = some (.string a0_5) := (blk_cell BK206.out 5).trans rfl
          have hfz9_0 := blk_frozen BK206.out 0
          have hfz9_1 := blk_frozen BK206.out 1
          have hfz9_2 := blk_frozen BK206.out 2
          have hfz9_3 := blk_frozen BK206.out 3
          have hfz9_4 := blk_frozen BK206.out 4
          have hfz9_5 := blk_frozen BK206.out 5
          go_wp2
          go_meet
          case rel => exact ⟨_, (true), (by first | rfl | (simp; done) | (simp [*]; done)), H', ⟨by first | omega | exact Nat.le_refl _⟩, ⟨by (with_reducible repeat (first | refine blk_drewN ?_ _ | refine blk_drew ?_ | refine blk_alloc ?_ _)); exact BK206.out⟩, ⟨by repeat (first | (with_reducible first | exact HB.out | apply below_alloc | apply pw_below_drewN | apply below_drew1 | refine below_set ?_ GE206.out) | exact HB.out)⟩⟩
        · rw [if_neg c8] at H
          have c8b0 : decide (a0_1 < 0) = false := decide_eq_false c8
          clear c8
          by_cases c10 : a0_1 > 1099511627776
          · rw [if_pos c10] at H
            have c10b0 : decide (1099511627776 < a0_1) = true := decide_eq_true c10
            clear c10
            have H' := Aside0.mk H
            clear H
            have hcz11_0 : w3.cell? ⟨gb206, 0, none⟩ = some (.int .i64 a0_0) := (blk_cell BK206.out 0).trans rfl
            have hcz11_1 : w3.cell? ⟨gb206, 1, none⟩ = some (.int .i64 a0_1) := (blk_cell BK206.out 1).trans rfl
            have hcz11_2 : w3.cell? ⟨gb206, 2, none⟩ = some (.int .i64 a0_2) := (blk_cell BK206.out 2).trans rfl
            have hcz11_3 : w3.cell? ⟨gb206, 3, none⟩ = some (.int .i64 a0_3) := (blk_cell BK206.out 3).trans rfl
            have hcz11_4 : w3.cell? ⟨gb206, 4, none⟩ = some (.int .i64 a0_4) := (blk_cell BK206.out 4).trans rfl
            have hcz11_5 : w3.cell? ⟨gb206, 5, none⟩ = some (.string a0_5) := (blk_cell BK206.out 5).trans rfl
            have hfz11_0 := blk_frozen BK206.out 0
            have hfz11_1 := blk_frozen BK206.out 1
            have hfz11_2 := blk_frozen BK206.out 2
            have hfz11_3 := blk_frozen BK206.out 3
            have hfz11_4 := blk_frozen BK206.out 4
            have hfz11_5 := blk_frozen BK206.out 5
            go_wp2
            go_meet
            case rel => exact ⟨_, (true), (by first | rfl | (simp; done) | (simp [*]; done)), H', ⟨by first | omega | exact Nat.le_refl _⟩, ⟨by (with_reducible repeat (first | refine blk_drewN ?_ _ | refine blk_drew ?_ | refine blk_alloc ?_ _)); exact BK206.out⟩, ⟨by repeat (first | (with_reducible first | exact HB.out | apply below_alloc | apply pw_below_drewN | apply below_drew1 | refine below_set ?_ GE206.out) | exact HB.out)⟩⟩
          · rw [if_neg c10] at H
            have c10b0 : decide (1099511627776 < a0_1) = false := decide_eq_false c10
            clear c10
            by_cases c12 : a0_2 < 0
            · rw [if_pos c12] at H
              have c12b0 : decide (a0_2 < 0) = true := decide_eq_true c12
              clear c12
              have H' := Aside0.mk H
              clear H
              have hcz13_0 : w3.cell? ⟨gb206, 0, none⟩ = some (.int .i64 a0_0) := (blk_cell BK206.out 0).trans rfl
              have hcz13_1 : w3.cell? ⟨gb206, 1, none⟩ = some (.int .i64 a0_1) := (blk_cell BK206.out 1).trans rfl
              have hcz13_2 : w3.cell? ⟨gb206, 2, none⟩ = some (.int .i64 a0_2) := (blk_cell BK206.out 2).trans rfl
              have hcz13_3 : w3.cell? ⟨gb206, 3, none⟩ = some (.int .i64 a0_3) := (blk_cell BK206.out 3).trans rfl
              have hcz13_4 : w3.cell? ⟨gb206, 4, none⟩ = some (.int .i64 a0_4) := (blk_cell BK206.out 4).trans rfl
              have hcz13_5 : w3.cell? ⟨gb206, 5, none⟩ = some (.string a0_5) := (blk_cell BK206.out 5).trans rfl
              have hfz13_0 := blk_frozen BK206.out 0
              have hfz13_1 := blk_frozen BK206.out 1
              have hfz13_2 := blk_frozen BK206.out 2
              have hfz13_3 := blk_frozen BK206.out 3
              have hfz13_4 := blk_frozen BK206.out 4
              have hfz13_5 := blk_frozen BK206.out 5
              go_wp2
              go_meet
              case rel => exact ⟨_, (true), (by first | rfl | (simp; done) | (simp [*]; done)), H', ⟨by first | omega | exact Nat.le_refl _⟩, ⟨by (with_reducible repeat (first | refine blk_drewN ?_ _ | refine blk_drew ?_ | refine blk_alloc ?_ _)); exact BK206.out⟩, ⟨by repeat (first | (with_reducible first | exact HB.out | apply below_alloc | apply pw_below_drewN | apply below_drew1 | refine below_set ?_ GE206.out) | exact HB.out)⟩⟩
            · rw [if_neg c12] at H
              have c12b0 : decide (a0_2 < 0) = false := decide_eq_false c12
              clear c12
              by_cases c14 : a0_2 > 8
              · rw [if_pos c14] at H
                have c14b0 : decide (8 < a0_2) = true := decide_eq_true c14
                clear c14
                have H' := Aside0.mk H
                clear H
                have hcz15_0 : w3.cell? ⟨gb206, 0, none⟩ = some (.int .i64 a0_0) := (blk_cell BK206.out 0).trans rfl
                have hcz15_1 : w3.cell? ⟨gb206, 1, none⟩ = some (.int .i64 a0_1) := (blk_cell BK206.out 1).trans rfl
                have hcz15_2 : w3.cell? ⟨gb206, 2, none⟩ = some (.int .i64 a0_2) := (blk_cell BK206.out 2).trans rfl
                have hcz15_3 : w3.cell? ⟨gb206, 3, none⟩ = some (.int .i64 a0_3) := (blk_cell BK206.out 3).trans rfl
                have hcz15_4 : w3.cell? ⟨gb206, 4, none⟩ = some (.int .i64 a0_4) := (blk_cell BK206.out 4).trans rfl
                have hcz15_5 : w3.cell? ⟨gb206, 5, none⟩ = some (.string a0_5) := (blk_cell BK206.out 5).trans rfl
                have hfz15_0 := blk_frozen BK206.out 0
                have hfz15_1 := blk_frozen BK206.out 1
                have hfz15_2 := blk_frozen BK206.out 2
                have hfz15_3 := blk_frozen BK206.out 3
                have hfz15_4 := blk_frozen BK206.out 4
                have hfz15_5 := blk_frozen BK206.out 5
                go_wp2
                go_meet
                case rel => exact ⟨_, (true), (by first | rfl | (simp; done) | (simp [*]; done)), H', ⟨by first | omega | exact Nat.le_refl _⟩, ⟨by (with_reducible repeat (first | refine blk_drewN ?_ _ | refine blk_drew ?_ | refine blk_alloc ?_ _)); exact BK206.out⟩, ⟨by repeat (first | (with_reducible first | exact HB.out | apply below_alloc | apply pw_below_drewN | apply below_drew1 | refine below_set ?_ GE206.out) | exact HB.out)⟩⟩
              · rw [if_neg c14] at H
                have c14b0 : decide (8 < a0_2) = false := decide_eq_false c14
                clear c14
                by_cases c16 : a0_3 < 0
                · rw [if_pos c16] at H
                  have c16b0 : decide (a0_3 < 0) = true := decide_eq_true c16
                  clear c16
                  have H' := Aside0.mk H
                  clear H
                  have hcz17_0 : w3.cell? ⟨gb206, 0, none⟩ = some (.int .i64 a0_0) := (blk_cell BK206.out 0).trans rfl
                  have hcz17_1 : w3.cell? ⟨gb206, 1, none⟩ = some (.int .i64 a0_1) := (blk_cell BK206.out 1).trans rfl
                  have hcz17_2 : w3.cell? ⟨gb206, 2, none⟩ = some (.int .i64 a0_2) := (blk_cell BK206.out 2).trans rfl
                  have hcz17_3 : w3.cell? ⟨gb206, 3, none⟩ = some (.int .i64 a0_3) := (blk_cell BK206.out 3).trans rfl
                  have hcz17_4 : w3.cell? ⟨gb206, 4, none⟩ = some (.int .i64 a0_4) := (blk_cell BK206.out 4).trans rfl
                  have hcz17_5 : w3.cell? ⟨gb206, 5, none⟩ = some (.string a0_5) := (blk_cell BK206.out 5).trans rfl
                  have hfz17_0 := blk_frozen BK206.out 0
                  have hfz17_1 := blk_frozen BK206.out 1
                  have hfz17_2 := blk_frozen BK206.out 2
                  have hfz17_3 := blk_frozen BK206.out 3
                  have hfz17_4 := blk_frozen BK206.out 4
                  have hfz17_5 := blk_frozen BK206.out 5
                  go_wp2
                  go_meet
                  case rel => exact ⟨_, (true), (by first | rfl | (simp; done) | (simp [*]; done)), H', ⟨by first | omega | exact Nat.le_refl _⟩, ⟨by (with_reducible repeat (first | refine blk_drewN ?_ _ | refine blk_drew ?_ | refine blk_alloc ?_ _)); exact BK206.out⟩, ⟨by repeat (first | (with_reducible first | exact HB.out | apply below_alloc | apply pw_below_drewN | apply below_drew1 | refine below_set ?_ GE206.out) | exact HB.out)⟩⟩
                · rw [if_neg c16] at H
                  have c16b0 : decide (a0_3 < 0) = false := decide_eq_false c16
                  clear c16
                  by_cases c18 : a0_3 > 11
                  · rw [if_pos c18] at H
                    have c18b0 : decide (11 < a0_3) = true := decide_eq_true c18
                    clear c18
                    have H' := Aside0.mk H
                    clear H
                    have hcz19_0 : w3.cell? ⟨gb206, 0, none⟩ = some (.int .i64 a0_0) := (blk_cell BK206.out 0).trans rfl
                    have hcz19_1 : w3.cell? ⟨gb206, 1, none⟩ = some (.int .i64 a0_1) := (blk_cell BK206.out 1).trans rfl
                    have hcz19_2 : w3.cell? ⟨gb206, 2, none⟩ = some (.int .i64 a0_2) := (blk_cell BK206.out 2).trans rfl
                    have hcz19_3 : w3.cell? ⟨gb206, 3, none⟩ = some (.int .i64 a0_3) := (blk_cell BK206.out 3).trans rfl
                    have hcz19_4 : w3.cell? ⟨gb206, 4, none⟩ = some (.int .i64 a0_4) := (blk_cell BK206.out 4).trans rfl
                    have hcz19_5 : w3.cell? ⟨gb206, 5, none⟩ = some (.string a0_5) := (blk_cell BK206.out 5).trans rfl
                    have hfz19_0 := blk_frozen BK206.out 0
                    have hfz19_1 := blk_frozen BK206.out 1
                    have hfz19_2 := blk_frozen BK206.out 2
                    have hfz19_3 := blk_frozen BK206.out 3
                    have hfz19_4 := blk_frozen BK206.out 4
                    have hfz19_5 := blk_frozen BK206.out 5
                    go_wp2
                    go_meet
                    case rel => exact ⟨_, (true), (by first | rfl | (simp; done) | (simp [*]; done)), H', ⟨by first | omega | exact Nat.le_refl _⟩, ⟨by (with_reducible repeat (first | refine blk_drewN ?_ _ | refine blk_drew ?_ | refine blk_alloc ?_ _)); exact BK206.out⟩, ⟨by repeat (first | (with_reducible first | exact HB.out | apply below_alloc | apply pw_below_drewN | apply below_drew1 | refine below_set ?_ GE206.out) | exact HB.out)⟩⟩
                  · rw [if_neg c18] at H
                    have c18b0 : decide (11 < a0_3) = false := decide_eq_false c18
                    clear c18
                    by_cases c20 : a0_4 < 0
                    · rw [if_pos c20] at H
                      have c20b0 : decide (a0_4 < 0) = true := decide_eq_true c20
                      clear c20
                      have H' := Aside0.mk H
                      clear H
                      have hcz21_0 : w3.cell? ⟨gb206, 0, none⟩ = some (.int .i64 a0_0) := (blk_cell BK206.out 0).trans rfl
                      have hcz21_1 : w3.cell? ⟨gb206, 1, none⟩ = some (.int .i64 a0_1) := (blk_cell BK206.out 1).trans rfl
                      have hcz21_2 : w3.cell? ⟨gb206, 2, none⟩ = some (.int .i64 a0_2) := (blk_cell BK206.out 2).trans rfl
                      have hcz21_3 : w3.cell? ⟨gb206, 3, none⟩ = some (.int .i64 a0_3) := (blk_cell BK206.out 3).trans rfl
                      have hcz21_4 : w3.cell? ⟨gb206, 4, none⟩ = some (.int .i64 a0_4) := (blk_cell BK206.out 4).trans rfl
                      have hcz21_5 : w3.cell? ⟨gb206, 5, none⟩ = some (.string a0_5) := (blk_cell BK206.out 5).trans rfl
                      have hfz21_0 := blk_frozen BK206.out 0
                      have hfz21_1 := blk_frozen BK206.out 1
                      have hfz21_2 := blk_frozen BK206.out 2
                      have hfz21_3 := blk_frozen BK206.out 3
                      have hfz21_4 := blk_frozen BK206.out 4
                      have hfz21_5 := blk_frozen BK206.out 5
                      go_wp2
                      go_meet
                      case rel => exact ⟨_, (true), (by first | rfl | (simp; done) | (simp [*]; done)), H', ⟨by first | omega | exact Nat.le_refl _⟩, ⟨by (with_reducible repeat (first | refine blk_drewN ?_ _ | refine blk_drew ?_ | refine blk_alloc ?_ _)); exact BK206.out⟩, ⟨by repeat (first | (with_reducible first | exact HB.out | apply below_alloc | apply pw_below_drewN | apply below_drew1 | refine below_set ?_ GE206.out) | exact HB.out)⟩⟩
                    · rw [if_neg c20] at H
                      have c20b0 : decide (a0_4 < 0) = false := decide_eq_false c20
                      clear c20
                      have H' := Aside0.mk H
                      clear H
                      have hcz22_0 : w3.cell? ⟨gb206, 0, none⟩ = some (.int .i64 a0_0) := (blk_cell BK206.out 0).trans rfl
                      have hcz22_1 : w3.cell? ⟨gb206, 1, none⟩ = some (.int .i64 a0_1) := (blk_cell BK206.out 1).trans rfl
                      have hcz22_2 : w3.cell? ⟨gb206, 2, none⟩ = some (.int .i64 a0_2) := (blk_cell BK206.out 2).trans rfl
                      have hcz22_3 : w3.cell? ⟨gb206, 3, none⟩ = some (.int .i64 a0_3) := (blk_cell BK206.out 3).trans rfl
                      have hcz22_4 : w3.cell? ⟨gb206, 4, none⟩ = some (.int .i64 a0_4) := (blk_cell BK206.out 4).trans rfl
                      have hcz22_5 : w3.cell? ⟨gb206, 5, none⟩ = some (.string a0_5) := (blk_cell BK206.out 5).trans rfl
                      have hfz22_0 := blk_frozen BK206.out 0
                      have hfz22_1 := blk_frozen BK206.out 1
                      have hfz22_2 := blk_frozen BK206.out 2
                      have hfz22_3 := blk_frozen BK206.out 3
                      have hfz22_4 := blk_frozen BK206.out 4
                      have hfz22_5 := blk_frozen BK206.out 5
                      go_wp2
                      go_meet
                      case rel => exact ⟨_, (decide (a0_4 > 47)), (by first | rfl | (simp; done) | (simp [*]; done)), H', ⟨by first | omega | exact Nat.le_refl _⟩, ⟨by (with_reducible repeat (first | refine blk_drewN ?_ _ | refine blk_drew ?_ | refine blk_alloc ?_ _)); exact BK206.out⟩, ⟨by repeat (first | (with_reducible first | exact HB.out | apply below_alloc | apply pw_below_drewN | apply below_drew1 | refine below_set ?_ GE206.out) | exact HB.out)⟩⟩
  case rest =>
    clear HC2
    try clear c1
    try clear c2
    try clear p2
    try clear c4
    try clear c4b0
    try clear c5
    try clear c6
    try clear c6b0
    try clear c8
    try clear c8b0
    try clear c10
    try clear c10b0
    try clear c12
    try clear c12b0
    try clear c14
    try clear c14b0
    try clear c16
    try clear c16b0
    try clear c18
    try clear c18b0
    try clear c20
    try clear c20b0
    try clear hcz11_0
    try clear hcz11_1
    try clear hcz11_2
    try clear hcz11_3
    try clear hcz11_4
    try clear hcz11_5
    try clear hcz13_0
    try clear hcz13_1
    try clear hcz13_2
    try clear hcz13_3
    try clear hcz13_4
    try clear hcz13_5
    try clear hcz15_0
    try clear hcz15_1
    try clear hcz15_2
    try clear hcz15_3
    try clear hcz15_4
    try clear hcz15_5
    try clear hcz17_0
    try clear hcz17_1
    try clear hcz17_2
    try clear hcz17_3
    try clear hcz17_4
    try clear hcz17_5
    try clear hcz19_0
    try clear hcz19_1
    try clear hcz19_2
    try clear hcz19_3
    try clear hcz19_4
    try clear hcz19_5
    try clear hcz21_0
    try clear hcz21_1
    try clear hcz21_2
    try clear hcz21_3
    try clear hcz21_4
    try clear hcz21_5
    try clear hcz22_0
    try clear hcz22_1
    try clear hcz22_2
    try clear hcz22_3
    try clear hcz22_4
    try clear hcz22_5
    try clear hcz5_0
    try clear hcz5_1
    try clear hcz5_2
    try clear hcz5_3
    try clear hcz5_4
    try clear hcz5_5
    try clear hcz7_0
    try clear hcz7_1
    try clear hcz7_2
    try clear hcz7_3
    try clear hcz7_4
    try clear hcz7_5
    try clear hcz9_0
    try clear hcz9_1
    try clear hcz9_2
    try clear hcz9_3
    try clear hcz9_4
    try clear hcz9_5
    try clear hfz11_0
    try clear hfz11_1
    try clear hfz11_2
    try clear hfz11_3
    try clear hfz11_4
    try clear hfz11_5
    try clear hfz13_0
    try clear hfz13_1
    try clear hfz13_2
    try clear hfz13_3
    try clear hfz13_4
    try clear hfz13_5
    try clear hfz15_0
    try clear hfz15_1
    try clear hfz15_2
    try clear hfz15_3
    try clear hfz15_4
    try clear hfz15_5
    try clear hfz17_0
    try clear hfz17_1
    try clear hfz17_2
    try clear hfz17_3
    try clear hfz17_4
    try clear hfz17_5
    try clear hfz19_0
    try clear hfz19_1
    try clear hfz19_2
    try clear hfz19_3
    try clear hfz19_4
    try clear hfz19_5
    try clear hfz21_0
    try clear hfz21_1
    try clear hfz21_2
    try clear hfz21_3
    try clear hfz21_4
    try clear hfz21_5
    try clear hfz22_0
    try clear hfz22_1
    try clear hfz22_2
    try clear hfz22_3
    try clear hfz22_4
    try clear hfz22_5
    try clear hfz5_0
    try clear hfz5_1
    try clear hfz5_2
    try clear hfz5_3
    try clear hfz5_4
    try clear hfz5_5
    try clear hfz7_0
    try clear hfz7_1
    try clear hfz7_2
    try clear hfz7_3
    try clear hfz7_4
    try clear hfz7_5
    try clear hfz9_0
    try clear hfz9_1
    try clear hfz9_2
    try clear hfz9_3
    try clear hfz9_4
    try clear hfz9_5
    obtain ⟨kq, x57_1, rfl, HA, HJ1, BK206, HB⟩ := hcut
    cases kq with
    | zero => exact absurd HA.out (by simp [sluicegateref07_Check.j0])
    | succ kj1 =>
      have H := HA.out
      clear HA
      simp only [sluicegateref07_Check.j0] at H
      by_cases c23 : x57_1 = true
      · subst c23
        have H1 : (some 1) = some r := by rw [if_pos rfl] at H; exact H
        clear H
        have H := H1
        clear H1
        obtain rfl := Option.some.inj H
        go_wp2
        go_ret
        exact ⟨by first | rfl | (simp [errW_none, errW_some] <;> rfl) | (simp [*, errW_none, errW_some] <;> rfl), by repeat (first | (with_reducible first | exact HB.out | apply below_alloc | apply pw_below_drewN | apply below_drew1 | refine below_set ?_ GE206.out) | exact HB.out)⟩
      · replace c23 := Bool.eq_false_iff.mpr c23
        subst c23
        have H1 : (if (a0_5.size : Int) > 64 then (some 12) else (some 0)) = some r := by rw [if_neg (show ¬ (false = true) by decide)] at H; exact H
        clear H
        have H := H1
        clear H1
        by_cases c24 : (a0_5.size : Int) > 64
        · rw [if_pos c24] at H
          have c24b0 : decide (64 < (a0_5.size : Int)) = true := decide_eq_true c24
          have c24b1 : decide (64 < a0_5.size) = true := decide_eq_true (by omega)
          clear c24
          obtain rfl := Option.some.inj H
          have hcz25_0 : wc.cell? ⟨gb206, 0, none⟩ = some (.int .i64 a0_0) := (blk_cell BK206.out 0).trans rfl
          have hcz25_1 : wc.cell? ⟨gb206, 1, none⟩ = some (.int .i64 a0_1) := (blk_cell BK206.out 1).trans rfl
          have hcz25_2 : wc.cell? ⟨gb206, 2, none⟩ = some (.int .i64 a0_2) := (blk_cell BK206.out 2).trans rfl
          have hcz25_3 : wc.cell? ⟨gb206, 3, none⟩ = some (.int .i64 a0_3) := (blk_cell BK206.out 3).trans rfl
          have hcz25_4 : wc.cell? ⟨gb206, 4, none⟩ = some (.int .i64 a0_4) := (blk_cell BK206.out 4).trans rfl
          have hcz25_5 : wc.cell? ⟨gb206, 5, none⟩ = some (.string a0_5) := (blk_cell BK206.out 5).trans rfl
          have hfz25_0 := blk_frozen BK206.out 0
          have hfz25_1 := blk_frozen BK206.out 1
          have hfz25_2 := blk_frozen BK206.out 2
          have hfz25_3 := blk_frozen BK206.out 3
          have hfz25_4 := blk_frozen BK206.out 4
          have hfz25_5 := blk_frozen BK206.out 5
          go_wp2
          go_ret
          exact ⟨by first | rfl | (simp [errW_none, errW_some] <;> rfl) | (simp [*, errW_none, errW_some] <;> rfl), by repeat (first | (with_reducible first | exact HB.out | apply below_alloc | apply pw_below_drewN | apply below_drew1 | refine below_set ?_ GE206.out) | exact HB.out)⟩
        · rw [if_neg c24] at H
          have c24b0 : decide (64 < (a0_5.size : Int)) = false := decide_eq_false c24
          have c24b1 : decide (64 < a0_5.size) = false := decide_eq_false (by omega)
          clear c24
          obtain rfl := Option.some.inj H
          have hcz26_0 : wc.cell? ⟨gb206, 0, none⟩ = some (.int .i64 a0_0) := (blk_cell BK206.out 0).trans rfl
          have hcz26_1 : wc.cell? ⟨gb206, 1, none⟩ = some (.int .i64 a0_1) := (blk_cell BK206.out 1).trans rfl
          have hcz26_2 : wc.cell? ⟨gb206, 2, none⟩ = some (.int .i64 a0_2) := (blk_cell BK206.out 2).trans rfl
          have hcz26_3 : wc.cell? ⟨gb206, 3, none⟩ = some (.int .i64 a0_3) := (blk_cell BK206.out 3).trans rfl
          have hcz26_4 : wc.cell? ⟨gb206, 4, none⟩ = some (.int .i64 a0_4) := (blk_cell BK206.out 4).trans rfl
          have hcz26_5 : wc.cell? ⟨gb206, 5, none⟩ = some (.string a0_5) := (blk_cell BK206.out 5).trans rfl
          have hfz26_0 := blk_frozen BK206.out 0
          have hfz26_1 := blk_frozen BK206.out 1
          have hfz26_2 := blk_frozen BK206.out 2
          have hfz26_3 := blk_frozen BK206.out 3
          have hfz26_4 := blk_frozen BK206.out 4
          have hfz26_5 := blk_frozen BK206.out 5
          go_wp2
          go_ret
          exact ⟨by first | rfl | (simp [errW_none, errW_some] <;> rfl) | (simp [*, errW_none, errW_some] <;> rfl), by repeat (first | (with_reducible first | exact HB.out | apply below_alloc | apply pw_below_drewN | apply below_drew1 | refine below_set ?_ GE206.out) | exact HB.out)⟩
def sluicegateref05_Most.f  : Option (Int) := some 72057594037927935
set_option maxHeartbeats 8000000 in
set_option maxRecDepth 100000 in
theorem sluicegateref05_Most.calls  (r : Int) (w : World) (h : sluicegateref05_Most.f  = some r) :
    Calls Tryz.prog 71 #[] w fun e w' => e = .returned (.int .i64 r) ∧ Drawn0 w w' := by
  have H : (some 72057594037927935) = some r := h
  clear h
  obtain rfl := Option.some.inj H
  go_enter Tryz.func71, Tryz.ntmps71
  go_wp2
  go_ret
  exact ⟨by first | rfl | (simp; done) | (simp [*]; done), by repeat (first | exact Drawn0.refl _ | apply Drawn0.step)⟩
end Go.Proofs.YtdcfonmjbelgbaaGreatDoor.Q
end
section
namespace Go.Proofs.YtdcfonmjbelgbaaGreatDoor.Q
open Go.RowKit Go.Proofs.YtdcfonmjbelgbaaGreatDoorW.PrintWords Go.Proofs.YtdcfonmjbelgbaaGreatDoorW.PrintLast Go.Proofs.YtdcfonmjbelgbaaGreatDoorW.PrintMore
attribute [local go_sem] max2_int min2_int max_two min_two max_three min_three max_four min_four   -- for this text's walks alone
set_option linter.unusedVariables false
set_option linter.unusedSimpArgs false
mutual
def sluicegateref05_Number.j0 : Nat → Int → Bool → Option (ByteArray)
  | 0, _, _ => none
  | k + 1, x0, x9 => if x9 = true then (some (⟨#[]⟩ : ByteArray)) else (if x0 < 128 then (some (strOfNums (([(x0) % 256] : List Int)))) else ((some (([(wrap64 (128 + (Int.tmod x0 128))) % 256] : List Int) : List Int)).bind fun y211 => ((sluicegateref05_Number.f k (wrap64 (Int.tdiv x0 128))).bind fun t214 => (if (strOfNums y211).size + t214.size ≤ 9223372036854775807 then (some ((strOfNums y211) ++ t214)) else (none)))))
def sluicegateref05_Number.f : Nat → Int → Option (ByteArray)
  | 0, _ => none
  | k + 1, a0 => if a0 < 0 then (sluicegateref05_Number.j0 k a0 true) else ((sluicegateref05_Most.f).bind fun t207 => (sluicegateref05_Number.j0 k a0 (decide (a0 > t207))))
end
def sluicegateref05_Number.T5 : Bool × List (List Nat × List Nat) := (true, [([], []), ([0], [0]), ([1], [1]), ([2], [2]), ([3], [3]), ([4], [4]), ([], []), ([6], [6]), ([7], [7]), ([5, 8], [5, 8]), ([9, 8, 0, 1, 2, 3, 4, 5, 6, 7, 8, 9], [9])])
def sluicegateref05_Number.B5 : List Nat := [0, 1, 3, 7, 15, 31, 0, 64, 192, 511, 1023]
theorem sluicegateref05_Number.tab5 : rtab .any (opsOf Tryz.f51 5) = sluicegateref05_Number.T5 := by kernel_rfl
theorem sluicegateref05_Number.bits5 : waitsOk sluicegateref05_Number.T5.2 sluicegateref05_Number.B5 = true := by kernel_rfl
set_option maxHeartbeats 8000000 in
set_option maxRecDepth 100000 in
theorem sluicegateref05_Number.calls (k : Nat) : ∀ (a0 : Int) (r : ByteArray) (w : World) (h : sluicegateref05_Number.f k a0 = some r),
    Calls Tryz.prog 51 #[.int .i64 a0] w fun e w' => e = .returned (.string r) ∧ Below w.heap.size w w' := by
  induction k using Nat.strongRecOn with
  | _ k ih =>
  intro a0 r w h
  cases k with
  | zero => exact absurd h (by simp [sluicegateref05_Number.f])
  | succ k =>
  simp only [sluicegateref05_Number.f] at h
  have HB := Aside0.mk (Below.refl w.heap.size w)
  have H : (if a0 < 0 then (sluicegateref05_Number.j0 k a0 true) else ((sluicegateref05_Most.f).bind fun t207 => (sluicegateref05_Number.j0 k a0 (decide (a0 > t207))))) = some r := h
  clear h
  have HC2 := Aside0.mk H
  clear H
  go_enter Tryz.func51, Tryz.ntmps51
  go_upto_region 1 with (fail)
  go_cut [9] (fun v9 wc => ∃ (kq : Nat) (x9_1 : Bool), v9 = .bool x9_1 ∧ Aside0 (sluicegateref05_Number.j0 kq a0 x9_1 = some r) ∧ Aside0 (kq ≤ k) ∧ Aside0 (Below w.heap.size w wc))
  case first =>
    have H := HC2.out
    clear HC2
    by_cases c3 : a0 < 0
    · rw [if_pos c3] at H
      have c3b0 : decide (a0 < 0) = true := decide_eq_true c3
      clear c3
      (first | rw [c3b0] | (simp only [i64_w, i32_w]; rw [c3b0]) | skip)
      have H' := Aside0.mk H
      clear H
      go_wp2
      go_meet
      case rel => exact ⟨_, (true), (by first | rfl | (simp; done) | (simp [*]; done)), H', ⟨by first | omega | exact Nat.le_refl _⟩, ⟨by repeat (first | (with_reducible first | exact HB.out | apply below_alloc | apply pw_below_drewN | apply below_drew1) | exact HB.out)⟩⟩
    · rw [if_neg c3] at H
      have c3b0 : decide (a0 < 0) = false := decide_eq_false c3
      clear c3
      (first | rw [c3b0] | (simp only [i64_w, i32_w]; rw [c3b0]) | skip)
      replace H := Option.bind_eq_some_iff.mp H
      obtain ⟨t207, A40, H⟩ := H
      replace H : (sluicegateref05_Number.j0 k a0 (decide (a0 > t207))) = some r := H
      have A4 := Aside0.mk A40
      clear A40
      have H' := Aside0.mk H
      clear H
      go_wp2_with (first | (go_at_call 71; (with_reducible refine (sluicegateref05_Most.calls  t207 _ A4.out).mono ?_); rintro e w' ⟨rfl, ⟨nd, rfl⟩⟩))
      go_meet
      case rel => exact ⟨_, (decide (a0 > t207)), (by first | rfl | (simp; done) | (simp [*]; done)), H', ⟨by first | omega | exact Nat.le_refl _⟩, ⟨by repeat (first | (with_reducible first | exact HB.out | apply below_alloc | apply pw_below_drewN | apply below_drew1) | exact HB.out)⟩⟩
  case rest =>
    clear HC2
    try clear p2
    try clear c3
    try clear c3b0
    obtain ⟨kq, x9_1, rfl, HA, HJ1, HB⟩ := hcut
    cases kq with
    | zero => exact absurd HA.out (by simp [sluicegateref05_Number.j0])
    | succ kj1 =>
      have H := HA.out
      clear HA
      simp only [sluicegateref05_Number.j0] at H
      by_cases c5 : x9_1 = true
      · subst c5
        have H1 : (some (⟨#[]⟩ : ByteArray)) = some r := by rw [if_pos rfl] at H; exact H
        clear H
        have H := H1
        clear H1
        obtain rfl := Option.some.inj H
        go_wp2
        go_ret
        exact ⟨by first | rfl | (simp [errW_none, errW_some] <;> rfl) | (simp [*, errW_none, errW_some] <;> rfl), by repeat (first | (with_reducible first | exact HB.out | apply below_alloc | apply pw_below_drewN | apply below_drew1) | exact HB.out)⟩
      · replace c5 := Bool.eq_false_iff.mpr c5
        subst c5
        have H1 : (if a0 < 128 then (some (strOfNums (([(a0) % 256] : List Int)))) else ((some (([(wrap64 (128 + (Int.tmod a0 128))) % 256] : List Int) : List Int)).bind fun y211 => ((sluicegateref05_Number.f kj1 (wrap64 (Int.tdiv a0 128))).bind fun t214 => (if (strOfNums y211).size + t214.size ≤ 9223372036854775807 then (some ((strOfNums y211) ++ t214)) else (none))))) = some r := by rw [if_neg (show ¬ (false = true) by decide)] at H; exact H
        clear H
        have H := H1
        clear H1
        by_cases c6 : a0 < 128
        · rw [if_pos c6] at H
          have c6b0 : decide (a0 < 128) = true := decide_eq_true c6
          clear c6
          obtain ⟨y208, hy208⟩ : ∃ y_ : List Int, y_ = (([(a0) % 256] : List Int)) := ⟨_, rfl⟩
          replace H : (some (strOfNums y208)) = some r := by first | (rw [hy208]; with_reducible exact H) | (have H2_ := (Option.bind_some _ _).symm.trans H; rw [hy208]; with_reducible exact H2_) | (have H2_ := (Option.bind_some _ _).symm.trans H; with_reducible exact H2_) | with_reducible exact H | (rw [hy208]; exact H) | exact H
          have Ny208 := Aside0.mk hy208
          clear hy208
          obtain rfl := Option.some.inj H
          go_wp2_with (first | ((with_reducible refine gate_dst (N := 14) rfl ?_); refine Kd.R_lit (Kd.int .u8) _ 5 ?hg (N := 14) ?hd (xs := ([(a0) % 256] : List Int)) (inner := [.int .u8 ((a0) % 256)]) (ok := fun _ => True) (okp := fun _ => True) ?hr ?hp (fun _ hk => hk) trivial (Below.refl _ _) (Nat.le_refl _) (by simp) ?_; (case hd => rfl); (case hg => rfl); (case hr => first | (go_simp; done) | (go_simp; rfl)); (case hp => exact (Reps.one (show Kd.M (Kd.int .u8) _ _ _ ((a0) % 256) [.int .u8 ((a0) % 256)] from rfl) (Reps.none _ _))); intro v209 w7 ho8 hb hg_ hnew_; clear hg_ hnew_; (first | rw [← Ny208.out] at ho8 | (simp only [Int.reduceToNat] at ho8; rw [← Ny208.out] at ho8)); have n0_ := Aside0.mk (Kd.R_lower ho8 (below_size (by repeat (first | (with_reducible first | exact HB.out | apply below_alloc | apply pw_below_drewN | apply below_drew1) | exact HB.out)))); have n1_ := Aside0.mk (below_step (by repeat (first | (with_reducible first | exact HB.out | apply below_alloc | apply pw_below_drewN | apply below_drew1) | exact HB.out)) hb); clear HB; have HO210 := n0_; have HB := n1_; clear n0_ n1_; clear hb ho8; have hcv9 := own_string (P := Tryz.prog) Tryz.underlying80 Tryz.underlying5 Tryz.underlying9 (Kd.own_of_R HO210.out)))
          go_ret
          exact ⟨by first | rfl | (simp [errW_none, errW_some] <;> rfl) | (simp [*, errW_none, errW_some] <;> rfl), by repeat (first | (with_reducible first | exact HB.out | apply below_alloc | apply pw_below_drewN | apply below_drew1) | exact HB.out)⟩
        · rw [if_neg c6] at H
          have c6b0 : decide (a0 < 128) = false := decide_eq_false c6
          clear c6
          obtain ⟨y211, hy211⟩ : ∃ y_ : List Int, y_ = (([(wrap64 (128 + (Int.tmod a0 128))) % 256] : List Int)) := ⟨_, rfl⟩
          replace H : ((sluicegateref05_Number.f kj1 (wrap64 (Int.tdiv a0 128))).bind fun t214 => (if (strOfNums y211).size + t214.size ≤ 9223372036854775807 then (some ((strOfNums y211) ++ t214)) else (none))) = some r := by first | (rw [hy211]; with_reducible exact H) | (have H2_ := (Option.bind_some _ _).symm.trans H; rw [hy211]; with_reducible exact H2_) | (have H2_ := (Option.bind_some _ _).symm.trans H; with_reducible exact H2_) | with_reducible exact H | (rw [hy211]; exact H) | exact H
          have Ny211 := Aside0.mk hy211
          clear hy211
          replace H := Option.bind_eq_some_iff.mp H
          obtain ⟨t214, A100, H⟩ := H
          replace H : (if (strOfNums y211).size + t214.size ≤ 9223372036854775807 then (some ((strOfNums y211) ++ t214)) else (none)) = some r := H
          have A10 := Aside0.mk A100
          clear A100
          by_cases c11 : (strOfNums y211).size + t214.size ≤ 9223372036854775807
          · rw [if_pos c11] at H
            have c11b0 := eq_true c11
            have c11b1 : decide ((strOfNums y211).size + t214.size ≤ 9223372036854775807) = true := decide_eq_true c11
            try have c11b2 : (9223372036854775807 < (strOfNums y211).size + t214.size) = False := eq_false (Nat.not_lt.2 c11)
            obtain rfl := Option.some.inj H
            try go_wp2
            have n0_ := Aside0.mk (below_drew1 HB.out)
            clear HB
            have HB := n0_
            clear n0_
            refine start_ (n := 11) (S := fun w' => True) (ds := []) #[false, false, false, false, false, false, false, false, false, false, false] (by kernel_rfl) rfl rfl trivial (fun hHeld => ?_); refine with_tabW sluicegateref05_Number.tab5 sluicegateref05_Number.bits5 (fun HT_ HW_ => ?_)
            generalize wc.drew = w12 at HB hHeld ⊢
            refine pure_ (i := 0) (N := some 16) (v := ?_) (a' := ?_) #[true, false, false, false, false, false, false, false, false, false, false] rfl rfl (any_of HT_.out (by kernel_rfl)) (fun _ _ _ h => h) (Or.inl ⟨by rfl, ?_⟩) ?_ ?_
            rotate_left
            · intro w'
              go_simp
              with_reducible rfl
            rotate_left
            · simp only [Act.put, List.setIfInBounds_toArray, List.set_cons_zero, List.set_cons_succ, i64_w, i32_w]
              rfl
            refine pure_ (i := 1) (N := some 17) (v := ?_) (a' := ?_) #[true, true, false, false, false, false, false, false, false, false, false] rfl rfl (any_of HT_.out (by kernel_rfl)) (fun _ _ _ h => h) (Or.inl ⟨by rfl, ?_⟩) ?_ ?_
            rotate_left
            · intro w'
              go_simp
              with_reducible rfl
            rotate_left
            · simp only [Act.put, List.setIfInBounds_toArray, List.set_cons_zero, List.set_cons_succ, i64_w, i32_w]
              rfl
            refine pure_ (i := 2) (N := some 18) (v := ?_) (a' := ?_) #[true, true, true, false, false, false, false, false, false, false, false] rfl rfl (any_of HT_.out (by kernel_rfl)) (fun _ _ _ h => h) (Or.inl ⟨by rfl, ?_⟩) ?_ ?_
            rotate_left
            · intro w'
              go_simp
              with_reducible rfl
            rotate_left
            · simp only [Act.put, List.setIfInBounds_toArray, List.set_cons_zero, List.set_cons_succ, i64_w, i32_w]
              rfl
            refine pure_ (i := 3) (N := some 19) (v := ?_) (a' := ?_) #[true, true, true, true, false, false, false, false, false, false, false] rfl rfl (any_of HT_.out (by kernel_rfl)) (fun _ _ _ h => h) (Or.inl ⟨by rfl, ?_⟩) ?_ ?_
            rotate_left
            · intro w'
              go_simp
              with_reducible rfl
            rotate_left
            · simp only [Act.put, List.setIfInBounds_toArray, List.set_cons_zero, List.set_cons_succ, i64_w, i32_w]
              rfl
            refine pure_ (i := 6) (N := some 22) (v := ?_) (a' := ?_) #[true, true, true, true, false, false, true, false, false, false, false] rfl rfl (any_of HT_.out (by kernel_rfl)) (fun _ _ _ h => h) (Or.inl ⟨by rfl, ?_⟩) ?_ ?_
            rotate_left
            · intro w'
              go_simp
              with_reducible rfl
            rotate_left
            · simp only [Act.put, List.setIfInBounds_toArray, List.set_cons_zero, List.set_cons_succ, i64_w, i32_w]
              rfl
            refine pure_ (i := 7) (N := some 23) (v := ?_) (a' := ?_) #[true, true, true, true, false, false, true, true, false, false, false] rfl rfl (any_of HT_.out (by kernel_rfl)) (fun _ _ _ h => h) (Or.inl ⟨by rfl, ?_⟩) ?_ ?_
            rotate_left
            · intro w'
              go_simp
              with_reducible rfl
            rotate_left
            · simp only [Act.put, List.setIfInBounds_toArray, List.set_cons_zero, List.set_cons_succ, i64_w, i32_w]
              rfl
            refine join_ (σ := Value) 2 #[true, true, true, true, true, true, true, true, true, false, false] (fun s_ => [(20, s_), (21, .string (strOfNums y211)), (24, .string t214)]) (fun s_ w' => (Kd.R (Kd.int .u8) 5 w' w.heap.size (fun _ => True) s_ y211) ∧ (Below w.heap.size w w')) ?_ ?_
            rotate_left
            · intro hCont
              refine two_ (i := 4) (j := 8) (Ni := some 20) (Nj := some 24) #[true, true, true, true, true, false, true, true, false, false, false] #[true, true, true, true, false, false, true, true, true, false, false] rfl rfl rfl rfl (two_of HT_.out (by kernel_rfl)) (by decide) (by decide) (fun K hK => ?_) (fun K hK => ?_)
              · skip
                refine Kd.R_lit_step (Kd.int .u8) _ 5 ?hg (N := 20) ?hd (xs := ([(wrap64 (128 + (Int.tmod a0 128))) % 256] : List Int)) (inner := [.int .u8 ((wrap64 (128 + (Int.tmod a0 128))) % 256)]) (ok := fun _ => True) (okp := fun _ => True) ?hr ?hp (fun _ hk => hk) trivial (Below.refl _ _) (Nat.le_refl _) (by simp) ?_; (case hd => rfl); (case hg => rfl); (case hr => first | (go_simp; done) | (go_simp; rfl)); (case hp => exact (Reps.one (show Kd.M (Kd.int .u8) _ _ _ ((wrap64 (128 + (Int.tmod a0 128))) % 256) [.int .u8 ((wrap64 (128 + (Int.tmod a0 128))) % 256)] from rfl) (Reps.none _ _)))
                intro v212 w13 ho14 hb hg_ hnew_
                clear hg_ hnew_
                (first | rw [← Ny211.out] at ho14 | (simp only [Int.reduceToNat] at ho14; rw [← Ny211.out] at ho14))
                have n0_ := Aside0.mk (Kd.R_lower ho14 (below_size (by repeat (first | (with_reducible first | exact HB.out | apply below_alloc | apply pw_below_drewN | apply below_drew1) | exact HB.out))))
                have n1_ := Aside0.mk (below_step (by repeat (first | (with_reducible first | exact HB.out | apply below_alloc | apply pw_below_drewN | apply below_drew1) | exact HB.out)) hb)
                clear HB
                have HO213 := n0_
                have HB := n1_
                clear n0_ n1_
                clear hb ho14
                refine hK.out _ _ trivial (fun hHeld => ?_)
                clear hK K
                refine norm_ (a' := ?_) ?_ ?_
                rotate_left
                · show Act.put _ (some 20) _ = _
                  simp only [Act.put, List.setIfInBounds_toArray, List.set_cons_zero, List.set_cons_succ, i64_w, i32_w]
                  rfl
                refine two_ (i := 5) (j := 8) (Ni := some 21) (Nj := some 24) #[true, true, true, true, true, true, true, true, false, false, false] #[true, true, true, true, true, false, true, true, true, false, false] rfl rfl rfl rfl (two_of HT_.out (by kernel_rfl)) (by decide) (by decide) (fun K hK => ?_) (fun K hK => ?_)
                · skip
                  have hcv15 := own_string (P := Tryz.prog) Tryz.underlying80 Tryz.underlying5 Tryz.underlying9 (Kd.own_of_R HO213.out)
                  refine value_ (w1 := ?_) (v := ?_) (by rfl) rfl ?_ ?_
                  rotate_left 2
                  · go_simp
                    constructor
                    · rfl
                    · rfl
                  clear hcv15
                  refine hK.out _ _ trivial (fun hHeld => ?_)
                  clear hK K
                  refine norm_ (a' := ?_) ?_ ?_
                  rotate_left
                  · show Act.put _ (some 21) _ = _
                    simp only [Act.put, List.setIfInBounds_toArray, List.set_cons_zero, List.set_cons_succ, i64_w, i32_w]
                    rfl
                  refine one_ (i := 8) (N := some 24) #[true, true, true, true, true, true, true, true, true, false, false] rfl rfl (one_of HT_.out (by kernel_rfl)) (by decide) (fun K hK => ?_)
                  refine goes_ Tryz.func51 (by kernel_rfl) rfl #[.int .i64 (wrap64 (Int.tdiv a0 128))] (by rfl) rfl rfl (by (try simp only [List.map_toArray, List.map_cons, List.map_nil]); first | done | rfl | (simp only [List.length_drop, List.length_take]; rfl)) ?_
                  with_reducible refine (ih kj1 (by have := HJ1.out; omega) (wrap64 (Int.tdiv a0 128)) t214 _ A10.out).mono ?_
                  rintro e w16 ⟨rfl, hb⟩
                  refine ⟨_, rfl, ?_⟩
                  have n0_ := Aside0.mk (Kd.R_below (by (with_reducible repeat (first | apply Kd.R_alloc | apply Kd.R_drewN | apply Kd.R_drew)); exact HO213.out) hb)
                  have n1_ := Aside0.mk (below_step (by repeat (first | (with_reducible first | exact HB.out | apply below_alloc | apply pw_below_drewN | apply below_drew1) | exact HB.out)) hb)
                  clear HO213
                  clear HB
                  have HO213 := n0_
                  have HB := n1_
                  clear n0_ n1_
                  (try clear hb)
                  (try clear hb2)
                  (try clear hk)
                  (try clear hi)
                  refine hK.out _ _ trivial (fun hHeld => ?_)
                  clear hK K
                  refine norm_ (a' := ?_) ?_ ?_
                  rotate_left
                  · show Act.put _ (some 24) _ = _
                    simp only [Act.put, List.setIfInBounds_toArray, List.set_cons_zero, List.set_cons_succ, i64_w, i32_w]
                    rfl
                  exact norm_ (by simp only [putAll, Act.put, List.setIfInBounds_toArray, List.set_cons_zero, List.set_cons_succ]) (hCont (v212) _ ⟨(by (with_reducible repeat (first | apply Kd.R_alloc | apply Kd.R_drewN | apply Kd.R_drew)); exact HO213.out), (by repeat (first | (with_reducible first | exact HB.out | apply below_alloc | apply pw_below_drewN | apply below_drew1) | exact HB.out))⟩)
                · skip
                  refine goes_ Tryz.func51 (by kernel_rfl) rfl #[.int .i64 (wrap64 (Int.tdiv a0 128))] (by rfl) rfl rfl (by (try simp only [List.map_toArray, List.map_cons, List.map_nil]); first | done | rfl | (simp only [List.length_drop, List.length_take]; rfl)) ?_
                  with_reducible refine (ih kj1 (by have := HJ1.out; omega) (wrap64 (Int.tdiv a0 128)) t214 _ A10.out).mono ?_
                  rintro e w15 ⟨rfl, hb⟩
                  refine ⟨_, rfl, ?_⟩
                  have n0_ := Aside0.mk (Kd.R_below (by (with_reducible repeat (first | apply Kd.R_alloc | apply Kd.R_drewN | apply Kd.R_drew)); exact HO213.out) hb)
                  have n1_ := Aside0.mk (below_step (by repeat (first | (with_reducible first | exact HB.out | apply below_alloc | apply pw_below_drewN | apply below_drew1) | exact HB.out)) hb)
                  clear HO213
                  clear HB
                  have HO213 := n0_
                  have HB := n1_
                  clear n0_ n1_
                  (try clear hb)
                  (try clear hb2)
                  (try clear hk)
                  (try clear hi)
                  refine hK.out _ _ trivial (fun hHeld => ?_)
                  clear hK K
                  refine norm_ (a' := ?_) ?_ ?_
                  rotate_left
                  · show Act.put _ (some 24) _ = _
                    simp only [Act.put, List.setIfInBounds_toArray, List.set_cons_zero, List.set_cons_succ, i64_w, i32_w]
                    rfl
                  refine one_ (i := 5) (N := some 21) #[true, true, true, true, true, true, true, true, true, false, false] rfl rfl (one_of HT_.out (by kernel_rfl)) (by decide) (fun K hK => ?_)
                  have hcv16 := own_string (P := Tryz.prog) Tryz.underlying80 Tryz.underlying5 Tryz.underlying9 (Kd.own_of_R HO213.out)
                  refine value_ (w1 := ?_) (v := ?_) (by rfl) rfl ?_ ?_
                  rotate_left 2
                  · go_simp
                    constructor
                    · rfl
                    · rfl
                  clear hcv16
                  refine hK.out _ _ trivial (fun hHeld => ?_)
                  clear hK K
                  refine norm_ (a' := ?_) ?_ ?_
                  rotate_left
                  · show Act.put _ (some 21) _ = _
                    simp only [Act.put, List.setIfInBounds_toArray, List.set_cons_zero, List.set_cons_succ, i64_w, i32_w]
                    rfl
                  exact norm_ (by simp only [putAll, Act.put, List.setIfInBounds_toArray, List.set_cons_zero, List.set_cons_succ]) (hCont (v212) _ ⟨(by (with_reducible repeat (first | apply Kd.R_alloc | apply Kd.R_drewN | apply Kd.R_drew)); exact HO213.out), (by repeat (first | (with_reducible first | exact HB.out | apply below_alloc | apply pw_below_drewN | apply below_drew1) | exact HB.out))⟩)
              · skip
                refine goes_ Tryz.func51 (by kernel_rfl) rfl #[.int .i64 (wrap64 (Int.tdiv a0 128))] (by rfl) rfl rfl (by (try simp only [List.map_toArray, List.map_cons, List.map_nil]); first | done | rfl | (simp only [List.length_drop, List.length_take]; rfl)) ?_
                with_reducible refine (ih kj1 (by have := HJ1.out; omega) (wrap64 (Int.tdiv a0 128)) t214 _ A10.out).mono ?_
                rintro e w13 ⟨rfl, hb⟩
                refine ⟨_, rfl, ?_⟩
                have n0_ := Aside0.mk (below_step (by repeat (first | (with_reducible first | exact HB.out | apply below_alloc | apply pw_below_drewN | apply below_drew1) | exact HB.out)) hb)
                clear HB
                have HB := n0_
                clear n0_
                (try clear hb)
                (try clear hb2)
                (try clear hk)
                (try clear hi)
                refine hK.out _ _ trivial (fun hHeld => ?_)
                clear hK K
                refine norm_ (a' := ?_) ?_ ?_
                rotate_left
                · show Act.put _ (some 24) _ = _
                  simp only [Act.put, List.setIfInBounds_toArray, List.set_cons_zero, List.set_cons_succ, i64_w, i32_w]
                  rfl
                refine one_ (i := 4) (N := some 20) #[true, true, true, true, true, false, true, true, true, false, false] rfl rfl (one_of HT_.out (by kernel_rfl)) (by decide) (fun K hK => ?_)
                refine Kd.R_lit_step (Kd.int .u8) _ 5 ?hg (N := 20) ?hd (xs := ([(wrap64 (128 + (Int.tmod a0 128))) % 256] : List Int)) (inner := [.int .u8 ((wrap64 (128 + (Int.tmod a0 128))) % 256)]) (ok := fun _ => True) (okp := fun _ => True) ?hr ?hp (fun _ hk => hk) trivial (Below.refl _ _) (Nat.le_refl _) (by simp) ?_; (case hd => rfl); (case hg => rfl); (case hr => first | (go_simp; done) | (go_simp; rfl)); (case hp => exact (Reps.one (show Kd.M (Kd.int .u8) _ _ _ ((wrap64 (128 + (Int.tmod a0 128))) % 256) [.int .u8 ((wrap64 (128 + (Int.tmod a0 128))) % 256)] from rfl) (Reps.none _ _)))
                intro v212 w14 ho15 hb hg_ hnew_
                clear hg_ hnew_
                (first | rw [← Ny211.out] at ho15 | (simp only [Int.reduceToNat] at ho15; rw [← Ny211.out] at ho15))
                have n0_ := Aside0.mk (Kd.R_lower ho15 (below_size (by repeat (first | (with_reducible first | exact HB.out | apply below_alloc | apply pw_below_drewN | apply below_drew1) | exact HB.out))))
                have n1_ := Aside0.mk (below_step (by repeat (first | (with_reducible first | exact HB.out | apply below_alloc | apply pw_below_drewN | apply below_drew1) | exact HB.out)) hb)
                clear HB
                have HO213 := n0_
                have HB := n1_
                clear n0_ n1_
                clear hb ho15
                refine hK.out _ _ trivial (fun hHeld => ?_)
                clear hK K
                refine norm_ (a' := ?_) ?_ ?_
                rotate_left
                · show Act.put _ (some 20) _ = _
                  simp only [Act.put, List.setIfInBounds_toArray, List.set_cons_zero, List.set_cons_succ, i64_w, i32_w]
                  rfl
                refine one_ (i := 5) (N := some 21) #[true, true, true, true, true, true, true, true, true, false, false] rfl rfl (one_of HT_.out (by kernel_rfl)) (by decide) (fun K hK => ?_)
                have hcv16 := own_string (P := Tryz.prog) Tryz.underlying80 Tryz.underlying5 Tryz.underlying9 (Kd.own_of_R HO213.out)
                refine value_ (w1 := ?_) (v := ?_) (by rfl) rfl ?_ ?_
                rotate_left 2
                · go_simp
                  constructor
                  · rfl
                  · rfl
                clear hcv16
                refine hK.out _ _ trivial (fun hHeld => ?_)
                clear hK K
                refine norm_ (a' := ?_) ?_ ?_
                rotate_left
                · show Act.put _ (some 21) _ = _
                  simp only [Act.put, List.setIfInBounds_toArray, List.set_cons_zero, List.set_cons_succ, i64_w, i32_w]
                  rfl
                exact norm_ (by simp only [putAll, Act.put, List.setIfInBounds_toArray, List.set_cons_zero, List.set_cons_succ]) (hCont (v212) _ ⟨(by (with_reducible repeat (first | apply Kd.R_alloc | apply Kd.R_drewN | apply Kd.R_drew)); exact HO213.out), (by repeat (first | (with_reducible first | exact HB.out | apply below_alloc | apply pw_below_drewN | apply below_drew1) | exact HB.out))⟩)
            rintro v212 w17 ⟨h0_, h1_⟩
            have n0_ : Aside0 (Kd.R (Kd.int .u8) 5 w17 w.heap.size (fun _ => True) v212 y211) := ⟨h0_⟩
            have n1_ : Aside0 (Below w.heap.size w w17) := ⟨h1_⟩
            clear HB
            clear h0_ h1_
            have HO213 := n0_
            have HB := n1_
            clear n0_ n1_
            have hHeld := trivial
            refine norm_ (a' := ?_) ?_ ?_
            rotate_left
            · simp only [putAll, Act.put, List.setIfInBounds_toArray, List.set_cons_zero, List.set_cons_succ]
              rfl
            refine pure_ (i := 9) (N := some 25) (v := ?_) (a' := ?_) #[true, true, true, true, true, true, true, true, true, true, false] rfl rfl (any_of HT_.out (by kernel_rfl)) (fun _ _ _ h => h) (Or.inl ⟨by rfl, ?_⟩) ?_ ?_
            rotate_left
            · intro w'
              go_simp
              with_reducible rfl
            rotate_left
            · simp only [Act.put, List.setIfInBounds_toArray, List.set_cons_zero, List.set_cons_succ, i64_w, i32_w]
              rfl
            refine pure_ (i := 10) (N := some 2) (v := ?_) (a' := ?_) #[true, true, true, true, true, true, true, true, true, true, true] rfl rfl (any_of HT_.out (by kernel_rfl)) (fun _ _ _ h => h) (Or.inl ⟨by rfl, ?_⟩) ?_ ?_
            rotate_left
            · intro w'
              go_simp
              with_reducible rfl
            rotate_left
            · simp only [Act.put, List.setIfInBounds_toArray, List.set_cons_zero, List.set_cons_succ, i64_w, i32_w]
              rfl
            refine done_ (done_of HT_.out (by kernel_rfl)) ?_
            try go_wp2
            go_ret
            exact ⟨by first | rfl | (simp [errW_none, errW_some] <;> rfl) | (simp [*, errW_none, errW_some] <;> rfl), by repeat (first | (with_reducible first | exact HB.out | apply below_alloc | apply pw_below_drewN | apply below_drew1) | exact HB.out)⟩
          · rw [if_neg c11] at H
            exact absurd H (by simp)
def sluicegateref05_Text.f (k : Nat) (a0 : ByteArray) : Option (ByteArray) := (sluicegateref05_Number.f k (a0.size : Int)).bind fun t215 => (if t215.size + a0.size ≤ 9223372036854775807 then (some (t215 ++ a0)) else (none))
set_option maxHeartbeats 8000000 in
set_option maxRecDepth 100000 in
theorem sluicegateref05_Text.calls (k : Nat) (a0 : ByteArray) (r : ByteArray) (w : World) (h : sluicegateref05_Text.f k a0 = some r) :
    Calls Tryz.prog 52 #[.string a0] w fun e w' => e = .returned (.string r) ∧ Below w.heap.size w w' := by
  have HB := Aside0.mk (Below.refl w.heap.size w)
  have H : ((sluicegateref05_Number.f k (a0.size : Int)).bind fun t215 => (if t215.size + a0.size ≤ 9223372036854775807 then (some (t215 ++ a0)) else (none))) = some r := h
  clear h
  replace H := Option.bind_eq_some_iff.mp H
  obtain ⟨t215, A20, H⟩ := H
  replace H : (if t215.size + a0.size ≤ 9223372036854775807 then (some (t215 ++ a0)) else (none)) = some r := H
  have A2 := Aside0.mk A20
  clear A20
  by_cases c3 : t215.size + a0.size ≤ 9223372036854775807
  · rw [if_pos c3] at H
    have c3b0 := eq_true c3
    have c3b1 : decide (t215.size + a0.size ≤ 9223372036854775807) = true := decide_eq_true c3
    try have c3b2 : (9223372036854775807 < t215.size + a0.size) = False := eq_false (Nat.not_lt.2 c3)
    obtain rfl := Option.some.inj H
    go_enter Tryz.func52, Tryz.ntmps52
    go_wp2_with (first | ((with_reducible refine gate_callee (f := 51) rfl ?_); refine goesL_ (some 5) rfl rfl Tryz.func51 (by kernel_rfl) rfl #[.int .i64 (a0.size : Int)] rfl (by (try simp only [List.map_toArray, List.map_cons, List.map_nil]); first | done | rfl | (simp only [List.length_drop, List.length_take]; rfl)) ?_; (with_reducible refine (sluicegateref05_Number.calls k (a0.size : Int) t215 _ A2.out).mono ?_); rintro e w4 ⟨rfl, hb⟩; refine ⟨_, rfl, ?_⟩; have n0_ := Aside0.mk (below_step (by repeat (first | (with_reducible first | exact HB.out | apply below_alloc | apply pw_below_drewN | apply below_drew1) | exact HB.out)) hb); clear HB; have HB := n0_; clear n0_; (try clear hb); (try clear hb2); (try clear hk); (try clear hi)))
    go_ret
    exact ⟨by first | rfl | (simp [errW_none, errW_some] <;> rfl) | (simp [*, errW_none, errW_some] <;> rfl), by repeat (first | (with_reducible first | exact HB.out | apply below_alloc | apply pw_below_drewN | apply below_drew1) | exact HB.out)⟩
  · rw [if_neg c3] at H
    exact absurd H (by simp)
def sluicegateref04_Seal.f (a0 : ByteArray) : Option (ByteArray) := (sluicegateref04_Of.f a0).bind fun t216 => ((some (([(t216) % 256, (t216 / 256) % 256, (t216 / 65536) % 256, (t216 / 16777216) % 256] : List Int) : List Int)).bind fun y217 => (if a0.size + (strOfNums y217).size ≤ 9223372036854775807 then (some (a0 ++ (strOfNums y217))) else (none)))
set_option maxHeartbeats 8000000 in
set_option maxRecDepth 100000 in
theorem sluicegateref04_Seal.calls (a0 : ByteArray) (r : ByteArray) (w : World) (h : sluicegateref04_Seal.f a0 = some r) :
    Calls Tryz.prog 53 #[.string a0] w fun e w' => e = .returned (.string r) ∧ Below w.heap.size w w' := by
  have HB := Aside0.mk (Below.refl w.heap.size w)
  have H : ((sluicegateref04_Of.f a0).bind fun t216 => ((some (([(t216) % 256, (t216 / 256) % 256, (t216 / 65536) % 256, (t216 / 16777216) % 256] : List Int) : List Int)).bind fun y217 => (if a0.size + (strOfNums y217).size ≤ 9223372036854775807 then (some (a0 ++ (strOfNums y217))) else (none)))) = some r := h
  clear h
  replace H := Option.bind_eq_some_iff.mp H
  obtain ⟨t216, A20, H⟩ := H
  replace H : ((some (([(t216) % 256, (t216 / 256) % 256, (t216 / 65536) % 256, (t216 / 16777216) % 256] : List Int) : List Int)).bind fun y217 => (if a0.size + (strOfNums y217).size ≤ 9223372036854775807 then (some (a0 ++ (strOfNums y217))) else (none))) = some r := H
  have A2 := Aside0.mk A20
  clear A20
  obtain ⟨y217, hy217⟩ : ∃ y_ : List Int, y_ = (([(t216) % 256, (t216 / 256) % 256, (t216 / 65536) % 256, (t216 / 16777216) % 256] : List Int)) := ⟨_, rfl⟩
  replace H : (if a0.size + (strOfNums y217).size ≤ 9223372036854775807 then (some (a0 ++ (strOfNums y217))) else (none)) = some r := by first | (rw [hy217]; with_reducible exact H) | (have H2_ := (Option.bind_some _ _).symm.trans H; rw [hy217]; with_reducible exact H2_) | (have H2_ := (Option.bind_some _ _).symm.trans H; with_reducible exact H2_) | with_reducible exact H | (rw [hy217]; exact H) | exact H
  have Ny217 := Aside0.mk hy217
  clear hy217
  by_cases c3 : a0.size + (strOfNums y217).size ≤ 9223372036854775807
  · rw [if_pos c3] at H
    have c3b0 := eq_true c3
    have c3b1 : decide (a0.size + (strOfNums y217).size ≤ 9223372036854775807) = true := decide_eq_true c3
    try have c3b2 : (9223372036854775807 < a0.size + (strOfNums y217).size) = False := eq_false (Nat.not_lt.2 c3)
    obtain rfl := Option.some.inj H
    go_enter Tryz.func53, Tryz.ntmps53
    go_wp2_with (first | ((with_reducible refine gate_callee (f := 72) rfl ?_); refine goesL_ (some 5) rfl rfl Tryz.func72 (by kernel_rfl) rfl #[.string a0] rfl (by (try simp only [List.map_toArray, List.map_cons, List.map_nil]); first | done | rfl | (simp only [List.length_drop, List.length_take]; rfl)) ?_; (with_reducible refine (sluicegateref04_Of.calls a0 t216 _ A2.out).mono ?_); rintro e w4 ⟨rfl, hb⟩; refine ⟨_, rfl, ?_⟩; have n0_ := Aside0.mk (below_step (by repeat (first | (with_reducible first | exact HB.out | apply below_alloc | apply pw_below_drewN | apply below_drew1) | exact HB.out)) hb); clear HB; have HB := n0_; clear n0_; (try clear hb); (try clear hb2); (try clear hk); (try clear hi)) | ((with_reducible refine gate_dst (N := 18) rfl ?_); refine Kd.R_lit (Kd.int .u8) _ 5 ?hg (N := 18) ?hd (xs := ([(t216) % 256, (t216 / 256) % 256, (t216 / 65536) % 256, (t216 / 16777216) % 256] : List Int)) (inner := [.int .u8 ((t216) % 256), .int .u8 ((t216 / 256) % 256), .int .u8 ((t216 / 65536) % 256), .int .u8 ((t216 / 16777216) % 256)]) (ok := fun _ => True) (okp := fun _ => True) ?hr ?hp (fun _ hk => hk) trivial (Below.refl _ _) (Nat.le_refl _) (by simp) ?_; (case hd => rfl); (case hg => rfl); (case hr => first | (go_simp; done) | (go_simp; rfl)); (case hp => exact (Reps.one (show Kd.M (Kd.int .u8) _ _ _ ((t216) % 256) [.int .u8 ((t216) % 256)] from rfl) (Reps.one (show Kd.M (Kd.int .u8) _ _ _ ((t216 / 256) % 256) [.int .u8 ((t216 / 256) % 256)] from rfl) (Reps.one (show Kd.M (Kd.int .u8) _ _ _ ((t216 / 65536) % 256) [.int .u8 ((t216 / 65536) % 256)] from rfl) (Reps.one (show Kd.M (Kd.int .u8) _ _ _ ((t216 / 16777216) % 256) [.int .u8 ((t216 / 16777216) % 256)] from rfl) (Reps.none _ _)))))); intro v218 w5 ho6 hb hg_ hnew_; clear hg_ hnew_; (first | rw [← Ny217.out] at ho6 | (simp only [Int.reduceToNat] at ho6; rw [← Ny217.out] at ho6)); have n0_ := Aside0.mk (Kd.R_lower ho6 (below_size (by repeat (first | (with_reducible first | exact HB.out | apply below_alloc | apply pw_below_drewN | apply below_drew1) | exact HB.out)))); have n1_ := Aside0.mk (below_step (by repeat (first | (with_reducible first | exact HB.out | apply below_alloc | apply pw_below_drewN | apply below_drew1) | exact HB.out)) hb); clear HB; have HO219 := n0_; have HB := n1_; clear n0_ n1_; clear hb ho6; have hcv7 := own_string (P := Tryz.prog) Tryz.underlying80 Tryz.underlying5 Tryz.underlying9 (Kd.own_of_R HO219.out)))
    go_ret
    exact ⟨by first | rfl | (simp [errW_none, errW_some] <;> rfl) | (simp [*, errW_none, errW_some] <;> rfl), by repeat (first | (with_reducible first | exact HB.out | apply below_alloc | apply pw_below_drewN | apply below_drew1) | exact HB.out)⟩
  · rw [if_neg c3] at H
    exact absurd H (by simp)
def sluicegateref02_Same.l0 : Nat → List ByteArray → List ByteArray → Int → Option (Bool)
  | 0, _, _, _ => none
  | k + 1, x0, x1, x5 => if x5 < (x0.length : Int) then (if 0 ≤ x5 then (if x5 < (x1.length : Int) then (if (rdOf ByteArray.empty x0 x5).toList = (rdOf ByteArray.empty x1 x5).toList then (sluicegateref02_Same.l0 k x0 x1 (wrap64 (x5 + 1))) else (some false)) else (none)) else (none)) else (some true)
def sluicegateref02_Same.f (k : Nat) (l0 : List ByteArray) (l1 : List ByteArray) : Option (Bool) := if (l0.length : Int) = (l1.length : Int) then (sluicegateref02_Same.l0 k l0 l1 0) else (some false)
set_option maxHeartbeats 8000000 in
set_option maxRecDepth 100000 in
theorem sluicegateref02_Same.calls (k : Nat) (A0 : Option Addr) (c0 : Nat) (l0 : List ByteArray) (A1 : Option Addr) (c1 : Nat) (l1 : List ByteArray) (r : Bool) (w : World) (hr0 : Kd.C Kd.string w A0 l0.length l0) (hc0 : l0.length ≤ c0) (hr1 : Kd.C Kd.string w A1 l1.length l1) (hc1 : l1.length ≤ c1) (h : sluicegateref02_Same.f k l0 l1 = some r) :
    Calls Tryz.prog 10 #[.slice A0 l0.length c0, .slice A1 l1.length c1] w fun e w' => e = .returned (.bool r) ∧ Drawn0 w w' := by
  have HR0 := Aside0.mk hr0
  have HC0 := Aside0.mk hc0
  clear hr0 hc0
  have HR1 := Aside0.mk hr1
  have HC1 := Aside0.mk hc1
  clear hr1 hc1
  have H : (if (l0.length : Int) = (l1.length : Int) then (sluicegateref02_Same.l0 k l0 l1 0) else (some false)) = some r := h
  clear h
  by_cases c3 : (l0.length : Int) = (l1.length : Int)
  · rw [if_pos c3] at H
    have c3b0 : ((l0.length : Int) == (l1.length : Int)) = true := beq_iff_eq.mpr c3
    have c3b1 : ((l0.length : Int) != (l1.length : Int)) = false := bne_eq_false_iff_eq.mpr c3
    have c3b2 : (l0.length == l1.length) = true := by first | simpa using c3 | (simp at c3 ⊢; omega)
    clear c3
    have H' := Aside0.mk H
    clear H
    go_enter Tryz.func10, Tryz.ntmps10
    go_wp2
    repeat (go_quiet (fail); try go_wp2)
    go_loopg [5] k (fun kq v5 w' => ∃ (x5_1 : Int), v5 = .int .i64 x5_1 ∧ Aside0 (sluicegateref02_Same.l0 kq l0 l1 x5_1 = some r) ∧ Aside0 (kq ≤ k) ∧ Drawn0 w w')
    case atStart => exact ⟨(0), (by first | rfl | (simp; done) | (simp [*]; done)), H', ⟨Nat.le_refl _⟩, by repeat (first | exact Drawn0.refl _ | apply Drawn0.step)⟩
    case round =>
      clear H'
      try clear c1
      try clear p2
      try clear c3
      try clear c3b0
      try clear c3b1
      try clear c3b2
      obtain ⟨x5_1, rfl, HA, HK1, ⟨m1, rfl⟩⟩ := hrel
      cases gk with
      | zero => exact absurd HA.out (by simp [sluicegateref02_Same.l0])
      | succ k1 =>
        have H := HA.out
        clear HA
        simp only [sluicegateref02_Same.l0] at H
        by_cases c4 : x5_1 < (l0.length : Int)
        · rw [if_pos c4] at H
          have c4b0 : decide (x5_1 < (l0.length : Int)) = true := decide_eq_true c4
          clear c4
          by_cases c5 : 0 ≤ x5_1
          · rw [if_pos c5] at H
            have c5b0 : decide (0 ≤ x5_1) = true := decide_eq_true c5
            clear c5
            by_cases c6 : x5_1 < (l1.length : Int)
            · rw [if_pos c6] at H
              have c6b0 : decide (x5_1 < (l1.length : Int)) = true := decide_eq_true c6
              clear c6
              by_cases c7 : (rdOf ByteArray.empty l0 x5_1).toList = (rdOf ByteArray.empty l1 x5_1).toList
              · rw [if_pos c7] at H
                have c7b0 : ((rdOf ByteArray.empty l0 x5_1).toList == (rdOf ByteArray.empty l1 x5_1).toList) = true := beq_iff_eq.mpr c7
                have c7b1 : ((rdOf ByteArray.empty l0 x5_1).toList != (rdOf ByteArray.empty l1 x5_1).toList) = false := bne_eq_false_iff_eq.mpr c7
                clear c7
                have H' := Aside0.mk H
                clear H
                have p237 : 0 ≤ (x5_1 : Int) := of_decide_eq_true (by first | (with_reducible assumption) | assumption)
                have q237 : x5_1 < (l0.length : Int) := of_decide_eq_true (by first | (with_reducible assumption) | assumption)
                obtain ⟨ad237, e237, hx237_0⟩ := Kd.at_string HR0.out x5_1 p237 q237
                cases e237
                replace p237 := eq_true p237
                replace q237 := eq_true q237
                have p238 : 0 ≤ (x5_1 : Int) := of_decide_eq_true (by first | (with_reducible assumption) | assumption)
                have q238 : x5_1 < (l1.length : Int) := of_decide_eq_true (by first | (with_reducible assumption) | assumption)
                obtain ⟨ad238, e238, hx238_0⟩ := Kd.at_string HR1.out x5_1 p238 q238
                cases e238
                replace p238 := eq_true p238
                replace q238 := eq_true q238
                go_wp2
                repeat (go_quiet (fail); try go_wp2)
                go_roundg k1
                case measure => have := HK1.out; omega
                case rel => exact ⟨(wrap64 (x5_1 + 1)), (by first | rfl | (simp; done) | (simp [*]; done)), H', ⟨by have := HK1.out; omega⟩, by repeat (first | exact Drawn0.refl _ | apply Drawn0.step)⟩
              · rw [if_neg c7] at H
                have c7b0 : ((rdOf ByteArray.empty l0 x5_1).toList == (rdOf ByteArray.empty l1 x5_1).toList) = false := beq_eq_false_iff_ne.mpr c7
                have c7b1 : ((rdOf ByteArray.empty l0 x5_1).toList != (rdOf ByteArray.empty l1 x5_1).toList) = true := bne_iff_ne.mpr c7
                obtain rfl := Option.some.inj H
                have p237 : 0 ≤ (x5_1 : Int) := of_decide_eq_true (by first | (with_reducible assumption) | assumption)
                have q237 : x5_1 < (l0.length : Int) := of_decide_eq_true (by first | (with_reducible assumption) | assumption)
                obtain ⟨ad237, e237, hx237_0⟩ := Kd.at_string HR0.out x5_1 p237 q237
                cases e237
                replace p237 := eq_true p237
                replace q237 := eq_true q237
                have p238 : 0 ≤ (x5_1 : Int) := of_decide_eq_true (by first | (with_reducible assumption) | assumption)
                have q238 : x5_1 < (l1.length : Int) := of_decide_eq_true (by first | (with_reducible assumption) | assumption)
                obtain ⟨ad238, e238, hx238_0⟩ := Kd.at_string HR1.out x5_1 p238 q238
                cases e238
                replace p238 := eq_true p238
                replace q238 := eq_true q238
                go_wp2
                repeat (go_quiet (fail); try go_wp2)
                go_ret
                exact ⟨by first | rfl | (simp; done) | (simp [*]; done), by repeat (first | exact Drawn0.refl _ | apply Drawn0.step)⟩
            · rw [if_neg c6] at H
              exact absurd H (by simp)
          · rw [if_neg c5] at H
            exact absurd H (by simp)
        · rw [if_neg c4] at H
          have c4b0 : decide (x5_1 < (l0.length : Int)) = false := decide_eq_false c4
          clear c4
          obtain rfl := Option.some.inj H
          go_wp2
          repeat (go_quiet (fail); try go_wp2)
          go_ret
          exact ⟨by first | rfl | (simp; done) | (simp [*]; done), by repeat (first | exact Drawn0.refl _ | apply Drawn0.step)⟩
  · rw [if_neg c3] at H
    have c3b0 : ((l0.length : Int) == (l1.length : Int)) = false := beq_eq_false_iff_ne.mpr c3
    have c3b1 : ((l0.length : Int) != (l1.length : Int)) = true := bne_iff_ne.mpr c3
    have c3b2 : (l0.length == l1.length) = false := by first | simpa using c3 | (simp at c3 ⊢; omega)
    obtain rfl := Option.some.inj H
    go_enter Tryz.func10, Tryz.ntmps10
    go_wp2
    repeat (go_quiet (fail); try go_wp2)
    go_ret
    exact ⟨by first | rfl | (simp; done) | (simp [*]; done), by repeat (first | exact Drawn0.refl _ | apply Drawn0.step)⟩
end Go.Proofs.YtdcfonmjbelgbaaGreatDoor.Q
end
section
namespace Go.Proofs.YtdcfonmjbelgbaaGreatDoor.Q
open Go.RowKit Go.Proofs.YtdcfonmjbelgbaaGreatDoorW.PrintWords Go.Proofs.YtdcfonmjbelgbaaGreatDoorW.PrintLast Go.Proofs.YtdcfonmjbelgbaaGreatDoorW.PrintMore
attribute [local go_sem] max2_int min2_int max_two min_two max_three min_three max_four min_four   -- for this text's walks alone
set_option linter.unusedVariables false
set_option linter.unusedSimpArgs false
def pack_Reader_Number.l0 : Nat → Int → Int → Int → ByteArray → Int → Option (Int × ByteArray × Int)
  | 0, _, _, _, _, _ => none
  | k + 1, x3, x13, x14, x1000, x1001 => if x14 < x13 then (if 0 ≤ x14 then (if x14 < (x1000.size : Int) then (if (bt x1000 x14) ≥ 128 then (if x14 = 7 then ((pack_Reader_wrong.f x1000 x1001 4).bind fun bt122 => (some (0, bt122.1, bt122.2))) else (if 0 ≤ (wrap64 (7 * x14)) then (pack_Reader_Number.l0 k (Go.bits .or .i64 x3 (shl .i64 (((bt x1000 x14) - 128) % 256) (wrap64 (7 * x14)))) x13 (wrap64 (x14 + 1)) x1000 x1001) else (none))) else (if (bt x1000 x14) = 0 then (if x14 > 0 then ((pack_Reader_wrong.f x1000 x1001 4).bind fun bt124 => (some (0, bt124.1, bt124.2))) else (if 0 ≤ (wrap64 (x14 + 1)) then (if (wrap64 (x14 + 1)) ≤ (x1000.size : Int) then (if 0 ≤ (wrap64 (7 * x14)) then (some (Go.bits .or .i64 x3 (shl .i64 (wrap64 (bt x1000 x14)) (wrap64 (7 * x14))), x1000.extract ((wrap64 (x14 + 1)) : Int).toNat x1000.size, x1001)) else (none)) else (none)) else (none))) else (if 0 ≤ (wrap64 (x14 + 1)) then (if (wrap64 (x14 + 1)) ≤ (x1000.size : Int) then (if 0 ≤ (wrap64 (7 * x14)) then (some (Go.bits .or .i64 x3 (shl .i64 (wrap64 (bt x1000 x14)) (wrap64 (7 * x14))), x1000.extract ((wrap64 (x14 + 1)) : Int).toNat x1000.size, x1001)) else (none)) else (none)) else (none)))) else (none)) else (none)) else ((pack_Reader_wrong.f x1000 x1001 3).bind fun bt120 => (some (0, bt120.1, bt120.2)))
def pack_Reader_Number.f (k : Nat) (s0_0 : ByteArray) (s0_1 : Int) : Option (Int × ByteArray × Int) := (pack_Reader_works.f s0_0 s0_1).bind fun bt117 => (if bt117.1 = true then (pack_Reader_Number.l0 k 0 (bt117.2.1.size : Int) 0 bt117.2.1 bt117.2.2) else (some (0, bt117.2.1, bt117.2.2)))
set_option maxHeartbeats 8000000 in
set_option maxRecDepth 100000 in
theorem pack_Reader_Number.calls (k : Nat) (g : Nat) (s0_0 : ByteArray) (s0_1 : Int) (r1 : Int) (r2 : ByteArray) (r3 : Int) (w0 w : World) (hI : IsS159 w0 w g s0_0 s0_1) (hB : Below w0.heap.size w0 w) (h : pack_Reader_Number.f k s0_0 s0_1 = some (r1, r2, r3)) :
    Calls Tryz.prog 91 #[.pointer (some ⟨g, 0, none⟩)] w fun e w' => e = .returned (.int .i64 r1) ∧ IsS159 w0 w' g r2 r3 ∧ Below w0.heap.size w0 w' ∧ KeepBut w w' g none := by
  have HI0 := Aside0.mk hI
  have HK := Aside0.mk (KeepBut.refl w g none)
  have HL := Aside0.mk hB.size
  clear hI
  have HW0 := Aside0.mk hB.size
  have HB := Aside0.mk hB
  clear hB
  have H : ((pack_Reader_works.f s0_0 s0_1).bind fun bt117 => (if bt117.1 = true then (pack_Reader_Number.l0 k 0 (bt117.2.1.size : Int) 0 bt117.2.1 bt117.2.2) else (some (0, bt117.2.1, bt117.2.2)))) = some (r1, r2, r3) := h
  clear h
  replace H := Option.bind_eq_some_iff.mp H
  obtain ⟨⟨t117, t118, t119⟩, A20, H⟩ := H
  replace H : (if t117 = true then (pack_Reader_Number.l0 k 0 (t118.size : Int) 0 t118 t119) else (some (0, t118, t119))) = some (r1, r2, r3) := H
  have A2 := Aside0.mk A20
  clear A20
  by_cases c3 : t117 = true
  · subst c3
    have H1 : (pack_Reader_Number.l0 k 0 (t118.size : Int) 0 t118 t119) = some (r1, r2, r3) := by rw [if_pos rfl] at H; exact H
    clear H
    have H := H1
    clear H1
    have H' := Aside0.mk H
    clear H
    go_enter Tryz.func91, Tryz.ntmps91
    go_wp2_with (first | ((with_reducible refine gate_callee (f := 109) rfl ?_); refine goesL_ (some 7) rfl rfl Tryz.func109 (by kernel_rfl) rfl #[.pointer (some ⟨g, 0, none⟩)] rfl (by (try simp only [List.map_toArray, List.map_cons, List.map_nil]); first | done | rfl | (simp only [List.length_drop, List.length_take]; rfl)) ?_; (with_reducible refine (pack_Reader_works.calls g s0_0 s0_1 true t118 t119 w0 _ ?side1 ?side2 A2.out).mono ?_); (case side1 => repeat (first | (with_reducible first | exact HI0.out | apply IsS159.alloc | apply IsS159.drewN | apply IsS159.drew | apply IsS159.set_0 | apply IsS159.set_1) | exact HI0.out)); (case side2 => repeat (first | (with_reducible first | exact HB.out | apply below_alloc | apply pw_below_drewN | apply below_drew1 | refine below_set ?_ (IsS159.ge HI0.out)) | exact HB.out)); rintro e w4 ⟨rfl, hi, hb, hk⟩; refine ⟨_, rfl, ?_⟩; have n0_ := Aside0.mk (KeepBut.trans (by repeat (first | (with_reducible first | exact HK.out | apply KeepBut.set_ | apply keep_drewN | apply keep_drew | apply keep_alloc) | exact HK.out)) hk (.inl rfl)); have n1_ := Aside0.mk (hb); have n2_ := Aside0.mk (hi); clear HK; clear HB; clear HI0; have HK := n0_; have HB := n1_; have HI0 := n2_; clear n0_ n1_ n2_; (try clear hb); (try clear hb2); (try clear hk); (try clear hi); obtain ⟨HGz5, hgz5⟩ := HI0.out; have hcz5_0 := cellS159_0 HGz5; have hcz5_1 := cellS159_1 HGz5; have hfz5_0 := blk_frozen HGz5 0; have hfz5_1 := blk_frozen HGz5 1; clear HGz5 hgz5))
    go_loopg [3, 14] k (fun kq v3 v14 w' => ∃ (x3_1 : Int) (x14_1 : Int) (x1000_1 : ByteArray) (x1001_1 : Int), v3 = .int .i64 x3_1 ∧ v14 = .int .i64 x14_1 ∧ Aside0 (pack_Reader_Number.l0 kq x3_1 (t118.size : Int) x14_1 x1000_1 x1001_1 = some (r1, r2, r3)) ∧ Aside0 (kq ≤ k) ∧ Aside0 (IsS159 w0 w' g x1000_1 x1001_1) ∧ Aside0 (KeepBut w w' g none) ∧ Aside0 (Below w0.heap.size w0 w'))
    case atStart => exact ⟨(0), (0), (t118), (t119), (by first | rfl | (simp; done) | (simp [*]; done)), (by first | rfl | (simp; done) | (simp [*]; done)), H', ⟨Nat.le_refl _⟩, ⟨by repeat (first | (with_reducible first | exact HI0.out | apply IsS159.alloc | apply IsS159.drewN | apply IsS159.drew | apply IsS159.set_0 | apply IsS159.set_1) | exact HI0.out)⟩, ⟨by repeat (first | (with_reducible first | exact HK.out | apply KeepBut.set_ | apply keep_drewN | apply keep_drew | apply keep_alloc) | exact HK.out)⟩, ⟨by repeat (first | (with_reducible first | exact HB.out | apply below_alloc | apply pw_below_drewN | apply below_drew1 | refine below_set ?_ (IsS159.ge HI0.out)) | exact HB.out)⟩⟩
    case round =>
      clear H'
      try clear c1
      try clear p2
      try clear c3
      try clear hcz5_0
      try clear hcz5_1
      try clear hfz5_0
      try clear hfz5_1
      obtain ⟨x3_1, x14_1, x1000_1, x1001_1, rfl, rfl, HA, HK1, HI0, HK, HB⟩ := hrel
      cases gk with
      | zero => exact absurd HA.out (by simp [pack_Reader_Number.l0])
      | succ k1 =>
        have H := HA.out
        clear HA
        simp only [pack_Reader_Number.l0] at H
        by_cases c6 : x14_1 < (t118.size : Int)
        · rw [if_pos c6] at H
          have c6b0 : decide (x14_1 < (t118.size : Int)) = true := decide_eq_true c6
          clear c6
          by_cases c7 : 0 ≤ x14_1
          · rw [if_pos c7] at H
            have c7b0 : decide (0 ≤ x14_1) = true := decide_eq_true c7
            clear c7
            by_cases c8 : x14_1 < (x1000_1.size : Int)
            · rw [if_pos c8] at H
              have c8b0 : decide (x14_1 < (x1000_1.size : Int)) = true := decide_eq_true c8
              clear c8
              by_cases c10 : (bt x1000_1 x14_1) ≥ 128
              · rw [if_pos c10] at H
                have c10b0 : decide (128 ≤ (bt x1000_1 x14_1)) = true := decide_eq_true c10
                clear c10
                by_cases c11 : x14_1 = 7
                · rw [if_pos c11] at H
                  have c11b0 : (x14_1 == 7) = true := beq_iff_eq.mpr c11
                  have c11b1 : (x14_1 != 7) = false := bne_eq_false_iff_eq.mpr c11
                  clear c11
                  replace H := Option.bind_eq_some_iff.mp H
                  obtain ⟨⟨t122, t123⟩, A120, H⟩ := H
                  replace H : (some (0, t122, t123)) = some (r1, r2, r3) := H
                  have A12 := Aside0.mk A120
                  clear A120
                  simp only [Option.some.injEq, Prod.mk.injEq] at H
                  obtain ⟨rfl, rfl, rfl⟩ := H
                  obtain ⟨HGz13, hgz13⟩ := HI0.out
                  have hcz13_0 := cellS159_0 HGz13
                  have hcz13_1 := cellS159_1 HGz13
                  have hfz13_0 := blk_frozen HGz13 0
                  have hfz13_1 := blk_frozen HGz13 1
                  clear HGz13 hgz13
                  have p9 : 0 ≤ (x14_1 : Int) := of_decide_eq_true (by first | (with_reducible assumption) | assumption)
                  have q9 : x14_1 < (x1000_1.size : Int) := of_decide_eq_true (by first | (with_reducible assumption) | assumption)
                  have hx9 := bt_at x1000_1 x14_1
                  replace p9 := eq_true p9
                  replace q9 := eq_true q9
                  go_wp2_with (first | ((with_reducible refine gate_callee (f := 110) rfl ?_); refine goesL_ (some 28) rfl rfl Tryz.func110 (by kernel_rfl) rfl #[.pointer (some ⟨g, 0, none⟩), .int .i64 4] rfl (by (try simp only [List.map_toArray, List.map_cons, List.map_nil]); first | done | rfl | (simp only [List.length_drop, List.length_take]; rfl)) ?_; (with_reducible refine (pack_Reader_wrong.calls g x1000_1 x1001_1 4 t122 t123 w0 _ ?side1 ?side2 A12.out).mono ?_); (case side1 => repeat (first | (with_reducible first | exact HI0.out | apply IsS159.alloc | apply IsS159.drewN | apply IsS159.drew | apply IsS159.set_0 | apply IsS159.set_1) | exact HI0.out)); (case side2 => repeat (first | (with_reducible first | exact HB.out | apply below_alloc | apply pw_below_drewN | apply below_drew1 | refine below_set ?_ (IsS159.ge HI0.out)) | exact HB.out)); rintro e w14 ⟨rfl, hi, hb, hk⟩; refine ⟨_, rfl, ?_⟩; have n0_ := Aside0.mk (KeepBut.trans (by repeat (first | (with_reducible first | exact HK.out | apply KeepBut.set_ | apply keep_drewN | apply keep_drew | apply keep_alloc) | exact HK.out)) hk (.inl rfl)); have n1_ := Aside0.mk (hb); have n2_ := Aside0.mk (hi); clear HK; clear HB; clear HI0; have HK := n0_; have HB := n1_; have HI0 := n2_; clear n0_ n1_ n2_; (try clear hb); (try clear hb2); (try clear hk); (try clear hi)))
                  go_ret
                  exact ⟨by first | rfl | (simp [errW_none, errW_some] <;> rfl) | (simp [*, errW_none, errW_some] <;> rfl), by repeat (first | (with_reducible first | exact HI0.out | apply IsS159.alloc | apply IsS159.drewN | apply IsS159.drew | apply IsS159.set_0 | apply IsS159.set_1) | exact HI0.out), by repeat (first | (with_reducible first | exact HB.out | apply below_alloc | apply pw_below_drewN | apply below_drew1 | refine below_set ?_ (IsS159.ge HI0.out)) | exact HB.out), by repeat (first | (with_reducible first | exact HK.out | apply KeepBut.set_ | apply keep_drewN | apply keep_drew | apply keep_alloc) | exact HK.out)⟩
                · rw [if_neg c11] at H
                  have c11b0 : (x14_1 == 7) = false := beq_eq_false_iff_ne.mpr c11
                  have c11b1 : (x14_1 != 7) = true := bne_iff_ne.mpr c11
                  obtain ⟨ji15, hji15⟩ : ∃ j_ : Int, (wrap64 (7 * x14_1)) = j_ := ⟨_, rfl⟩
                  replace H : (if 0 ≤ (ji15) then (pack_Reader_Number.l0 k1 (Go.bits .or .i64 x3_1 (shl .i64 (((bt x1000_1 x14_1) - 128) % 256) (ji15))) (t118.size : Int) (wrap64 (x14_1 + 1)) x1000_1 x1001_1) else (none)) = some (r1, r2, r3) := by first | (rw [hji15] at H; exact H) | (simp only [hji15] at H ⊢; exact H)
                  have hji15w : (IntKind.i64.wrap (7 * x14_1)) = ji15 := (i64_w _).trans hji15
                  by_cases c16 : 0 ≤ (ji15)
                  · rw [if_pos c16] at H
                    have c16b0 := eq_true c16
                    have c16b1 : decide (0 ≤ (ji15)) = true := decide_eq_true c16
                    clear c16
                    obtain ⟨ji17, hji17⟩ : ∃ j_ : Int, (shl .i64 (((bt x1000_1 x14_1) - 128) % 256) (ji15)) = j_ := ⟨_, rfl⟩
                    replace H : (pack_Reader_Number.l0 k1 (Go.bits .or .i64 x3_1 (ji17)) (t118.size : Int) (wrap64 (x14_1 + 1)) x1000_1 x1001_1) = some (r1, r2, r3) := by first | (rw [hji17] at H; exact H) | (simp only [hji17] at H ⊢; exact H)
                    have hji17_ : (IntKind.i64.wrap ((((bt x1000_1 x14_1) - 128) % 256) * 2 ^ min (ji15).toNat 64)) = ji17 := hji17
                    have hji17z : (ji15) ≤ 64 → (IntKind.i64.wrap ((((bt x1000_1 x14_1) - 128) % 256) * 2 ^ (ji15).toNat)) = ji17 := shl_small hji17
                    have hji17y : (wrap64 ((((bt x1000_1 x14_1) - 128) % 256) * 2 ^ min (ji15).toNat 64)) = ji17 := (i64_w _).symm.trans hji17_
                    have hji17x : (ji15) ≤ 64 → (wrap64 ((((bt x1000_1 x14_1) - 128) % 256) * 2 ^ (ji15).toNat)) = ji17 := fun h_ => (i64_w _).symm.trans (hji17z h_)
                    have H' := Aside0.mk H
                    clear H
                    obtain ⟨HGz18, hgz18⟩ := HI0.out
                    have hcz18_0 := cellS159_0 HGz18
                    have hcz18_1 := cellS159_1 HGz18
                    have hfz18_0 := blk_frozen HGz18 0
                    have hfz18_1 := blk_frozen HGz18 1
                    clear HGz18 hgz18
                    have p9 : 0 ≤ (x14_1 : Int) := of_decide_eq_true (by first | (with_reducible assumption) | assumption)
                    have q9 : x14_1 < (x1000_1.size : Int) := of_decide_eq_true (by first | (with_reducible assumption) | assumption)
                    have hx9 := bt_at x1000_1 x14_1
                    replace p9 := eq_true p9
                    replace q9 := eq_true q9
                    go_wp2
                    go_roundg k1
                    case measure => have := HK1.out; omega
                    case rel => exact ⟨(Go.bits .or .i64 x3_1 (ji17)), (wrap64 (x14_1 + 1)), (x1000_1), (x1001_1), (by first | rfl | (simp; done) | (simp only [← hji17] <;> (first | rfl | simp)) | (simp [*]; done)), (by first | rfl | (simp; done) | (simp [*]; done)), H', ⟨by have := HK1.out; omega⟩, ⟨by repeat (first | (with_reducible first | exact HI0.out | apply IsS159.alloc | apply IsS159.drewN | apply IsS159.drew | apply IsS159.set_0 | apply IsS159.set_1) | exact HI0.out)⟩, ⟨by repeat (first | (with_reducible first | exact HK.out | apply KeepBut.set_ | apply keep_drewN | apply keep_drew | apply keep_alloc) | exact HK.out)⟩, ⟨by repeat (first | (with_reducible first | exact HB.out | apply below_alloc | apply pw_below_drewN | apply below_drew1 | refine below_set ?_ (IsS159.ge HI0.out)) | exact HB.out)⟩⟩
                  · rw [if_neg c16] at H
                    exact absurd H (by simp)
              · rw [if_neg c10] at H
                have c10b0 : decide (128 ≤ (bt x1000_1 x14_1)) = false := decide_eq_false c10
                clear c10
                by_cases c19 : (bt x1000_1 x14_1) = 0
                · rw [if_pos c19] at H
                  have c19b0 : ((bt x1000_1 x14_1) == 0) = true := beq_iff_eq.mpr c19
                  have c19b1 : ((bt x1000_1 x14_1) != 0) = false := bne_eq_false_iff_eq.mpr c19
                  clear c19
                  by_cases c20 : x14_1 > 0
                  · rw [if_pos c20] at H
                    have c20b0 : decide (0 < x14_1) = true := decide_eq_true c20
                    clear c20
                    replace H := Option.bind_eq_some_iff.mp H
                    obtain ⟨⟨t124, t125⟩, A210, H⟩ := H
                    replace H : (some (0, t124, t125)) = some (r1, r2, r3) := H
                    have A21 := Aside0.mk A210
                    clear A210
                    simp only [Option.some.injEq, Prod.mk.injEq] at H
                    obtain ⟨rfl, rfl, rfl⟩ := H
                    obtain ⟨HGz22, hgz22⟩ := HI0.out
                    have hcz22_0 := cellS159_0 HGz22
                    have hcz22_1 := cellS159_1 HGz22
                    have hfz22_0 := blk_frozen HGz22 0
                    have hfz22_1 := blk_frozen HGz22 1
                    clear HGz22 hgz22
                    have p9 : 0 ≤ (x14_1 : Int) := of_decide_eq_true (by first | (with_reducible assumption) | assumption)
                    have q9 : x14_1 < (x1000_1.size : Int) := of_decide_eq_true (by first | (with_reducible assumption) | assumption)
                    have hx9 := bt_at x1000_1 x14_1
                    replace p9 := eq_true p9
                    replace q9 := eq_true q9
                    go_wp2_with (first | ((with_reducible refine gate_callee (f := 110) rfl ?_); refine goesL_ (some 44) rfl rfl Tryz.func110 (by kernel_rfl) rfl #[.pointer (some ⟨g, 0, none⟩), .int .i64 4] rfl (by (try simp only [List.map_toArray, List.map_cons, List.map_nil]); first | done | rfl | (simp only [List.length_drop, List.length_take]; rfl)) ?_; (with_reducible refine (pack_Reader_wrong.calls g x1000_1 x1001_1 4 t124 t125 w0 _ ?side1 ?side2 A21.out).mono ?_); (case side1 => repeat (first | (with_reducible first | exact HI0.out | apply IsS159.alloc | apply IsS159.drewN | apply IsS159.drew | apply IsS159.set_0 | apply IsS159.set_1) | exact HI0.out)); (case side2 => repeat (first | (with_reducible first | exact HB.out | apply below_alloc | apply pw_below_drewN | apply below_drew1 | refine below_set ?_ (IsS159.ge HI0.out)) | exact HB.out)); rintro e w23 ⟨rfl, hi, hb, hk⟩; refine ⟨_, rfl, ?_⟩; have n0_ := Aside0.mk (KeepBut.trans (by repeat (first | (with_reducible first | exact HK.out | apply KeepBut.set_ | apply keep_drewN | apply keep_drew | apply keep_alloc) | exact HK.out)) hk (.inl rfl)); have n1_ := Aside0.mk (hb); have n2_ := Aside0.mk (hi); clear HK; clear HB; clear HI0; have HK := n0_; have HB := n1_; have HI0 := n2_; clear n0_ n1_ n2_; (try clear hb); (try clear hb2); (try clear hk); (try clear hi)))
                    go_ret
                    exact ⟨by first | rfl | (simp [errW_none, errW_some] <;> rfl) | (simp [*, errW_none, errW_some] <;> rfl), by repeat (first | (with_reducible first | exact HI0.out | apply IsS159.alloc | apply IsS159.drewN | apply IsS159.drew | apply IsS159.set_0 | apply IsS159.set_1) | exact HI0.out), by repeat (first | (with_reducible first | exact HB.out | apply below_alloc | apply pw_below_drewN | apply below_drew1 | refine below_set ?_ (IsS159.ge HI0.out)) | exact HB.out), by repeat (first | (with_reducible first | exact HK.out | apply KeepBut.set_ | apply keep_drewN | apply keep_drew | apply keep_alloc) | exact HK.out)⟩
                  · rw [if_neg c20] at H
                    have c20b0 : decide (0 < x14_1) = false := decide_eq_false c20
                    clear c20
                    obtain ⟨ji24, hji24⟩ : ∃ j_ : Int, (wrap64 (x14_1 + 1)) = j_ := ⟨_, rfl⟩
                    replace H : (if 0 ≤ (ji24) then (if (ji24) ≤ (x1000_1.size : Int) then (if 0 ≤ (wrap64 (7 * x14_1)) then (some (Go.bits .or .i64 x3_1 (shl .i64 (wrap64 (bt x1000_1 x14_1)) (wrap64 (7 * x14_1))), x1000_1.extract ((ji24) : Int).toNat x1000_1.size, x1001_1)) else (none)) else (none)) else (none)) = some (r1, r2, r3) := by first | (rw [hji24] at H; exact H) | (simp only [hji24] at H ⊢; exact H)
                    have hji24w : (IntKind.i64.wrap (x14_1 + 1)) = ji24 := (i64_w _).trans hji24
                    by_cases c25 : 0 ≤ (ji24)
                    · rw [if_pos c25] at H
                      have c25b0 := eq_true c25
                      have c25b1 : decide (0 ≤ (ji24)) = true := decide_eq_true c25
                      clear c25
                      by_cases c26 : (ji24) ≤ (x1000_1.size : Int)
                      · rw [if_pos c26] at H
                        have c26b0 := eq_true c26
                        have c26b1 : decide ((ji24) ≤ (x1000_1.size : Int)) = true := decide_eq_true c26
                        clear c26
                        obtain ⟨ji27, hji27⟩ : ∃ j_ : Int, (wrap64 (7 * x14_1)) = j_ := ⟨_, rfl⟩
                        replace H : (if 0 ≤ (ji27) then (some (Go.bits .or .i64 x3_1 (shl .i64 (wrap64 (bt x1000_1 x14_1)) (ji27)), x1000_1.extract ((ji24) : Int).toNat x1000_1.size, x1001_1)) else (none)) = some (r1, r2, r3) := by first | (rw [hji27] at H; exact H) | (simp only [hji27] at H ⊢; exact H)
                        have hji27w : (IntKind.i64.wrap (7 * x14_1)) = ji27 := (i64_w _).trans hji27
                        by_cases c28 : 0 ≤ (ji27)
                        · rw [if_pos c28] at H
                          have c28b0 := eq_true c28
                          have c28b1 : decide (0 ≤ (ji27)) = true := decide_eq_true c28
                          clear c28
                          obtain ⟨ji29, hji29⟩ : ∃ j_ : Int, (shl .i64 (wrap64 (bt x1000_1 x14_1)) (ji27)) = j_ := ⟨_, rfl⟩
                          replace H : (some (Go.bits .or .i64 x3_1 (ji29), x1000_1.extract ((ji24) : Int).toNat x1000_1.size, x1001_1)) = some (r1, r2, r3) := by first | (rw [hji29] at H; exact H) | (simp only [hji29] at H ⊢; exact H)
                          have hji29_ : (IntKind.i64.wrap ((wrap64 (bt x1000_1 x14_1)) * 2 ^ min (ji27).toNat 64)) = ji29 := hji29
                          have hji29z : (ji27) ≤ 64 → (IntKind.i64.wrap ((wrap64 (bt x1000_1 x14_1)) * 2 ^ (ji27).toNat)) = ji29 := shl_small hji29
                          have hji29y : (wrap64 ((wrap64 (bt x1000_1 x14_1)) * 2 ^ min (ji27).toNat 64)) = ji29 := (i64_w _).symm.trans hji29_
                          have hji29x : (ji27) ≤ 64 → (wrap64 ((wrap64 (bt x1000_1 x14_1)) * 2 ^ (ji27).toNat)) = ji29 := fun h_ => (i64_w _).symm.trans (hji29z h_)
                          simp only [Option.some.injEq, Prod.mk.injEq] at H
                          obtain ⟨rfl, rfl, rfl⟩ := H
                          obtain ⟨HGz30, hgz30⟩ := HI0.out
                          have hcz30_0 := cellS159_0 HGz30
                          have hcz30_1 := cellS159_1 HGz30
                          have hfz30_0 := blk_frozen HGz30 0
                          have hfz30_1 := blk_frozen HGz30 1
                          clear HGz30 hgz30
                          have p9 : 0 ≤ (x14_1 : Int) := of_decide_eq_true (by first | (with_reducible assumption) | assumption)
                          have q9 : x14_1 < (x1000_1.size : Int) := of_decide_eq_true (by first | (with_reducible assumption) | assumption)
                          have hx9 := bt_at x1000_1 x14_1
                          replace p9 := eq_true p9
                          replace q9 := eq_true q9
                          go_wp2
                          go_ret
                          exact ⟨by first | rfl | (simp [errW_none, errW_some] <;> rfl) | (simp only [← hji24, ← hji27, ← hji29]; first | rfl | (simp [errW_none, errW_some] <;> rfl)) | (simp [*, errW_none, errW_some] <;> rfl), by repeat (first | (with_reducible first | exact HI0.out | apply IsS159.alloc | apply IsS159.drewN | apply IsS159.drew | apply IsS159.set_0 | apply IsS159.set_1) | exact HI0.out), by repeat (first | (with_reducible first | exact HB.out | apply below_alloc | apply pw_below_drewN | apply below_drew1 | refine below_set ?_ (IsS159.ge HI0.out)) | exact HB.out), by repeat (first | (with_reducible first | exact HK.out | apply KeepBut.set_ | apply keep_drewN | apply keep_drew | apply keep_alloc) | exact HK.out)⟩
                        · rw [if_neg c28] at H
                          exact absurd H (by simp)
                      · rw [if_neg c26] at H
                        exact absurd H (by simp)
                    · rw [if_neg c25] at H
                      exact absurd H (by simp)
                · rw [if_neg c19] at H
                  have c19b0 : ((bt x1000_1 x14_1) == 0) = false := beq_eq_false_iff_ne.mpr c19
                  have c19b1 : ((bt x1000_1 x14_1) != 0) = true := bne_iff_ne.mpr c19
                  obtain ⟨ji31, hji31⟩ : ∃ j_ : Int, (wrap64 (x14_1 + 1)) = j_ := ⟨_, rfl⟩
                  replace H : (if 0 ≤ (ji31) then (if (ji31) ≤ (x1000_1.size : Int) then (if 0 ≤ (wrap64 (7 * x14_1)) then (some (Go.bits .or .i64 x3_1 (shl .i64 (wrap64 (bt x1000_1 x14_1)) (wrap64 (7 * x14_1))), x1000_1.extract ((ji31) : Int).toNat x1000_1.size, x1001_1)) else (none)) else (none)) else (none)) = some (r1, r2, r3) := by first | (rw [hji31] at H; exact H) | (simp only [hji31] at H ⊢; exact H)
                  have hji31w : (IntKind.i64.wrap (x14_1 + 1)) = ji31 := (i64_w _).trans hji31
                  by_cases c32 : 0 ≤ (ji31)
                  · rw [if_pos c32] at H
                    have c32b0 := eq_true c32
                    have c32b1 : decide (0 ≤ (ji31)) = true := decide_eq_true c32
                    clear c32
                    by_cases c33 : (ji31) ≤ (x1000_1.size : Int)
                    · rw [if_pos c33] at H
                      have c33b0 := eq_true c33
                      have c33b1 : decide ((ji31) ≤ (x1000_1.size : Int)) = true := decide_eq_true c33
                      clear c33
                      obtain ⟨ji34, hji34⟩ : ∃ j_ : Int, (wrap64 (7 * x14_1)) = j_ := ⟨_, rfl⟩
                      replace H : (if 0 ≤ (ji34) then (some (Go.bits .or .i64 x3_1 (shl .i64 (wrap64 (bt x1000_1 x14_1)) (ji34)), x1000_1.extract ((ji31) : Int).toNat x1000_1.size, x1001_1)) else (none)) = some (r1, r2, r3) := by first | (rw [hji34] at H; exact H) | (simp only [hji34] at H ⊢; exact H)
                      have hji34w : (IntKind.i64.wrap (7 * x14_1)) = ji34 := (i64_w _).trans hji34
                      by_cases c35 : 0 ≤ (ji34)
                      · rw [if_pos c35] at H
                        have c35b0 := eq_true c35
                        have c35b1 : decide (0 ≤ (ji34)) = true := decide_eq_true c35
                        clear c35
                        obtain ⟨ji36, hji36⟩ : ∃ j_ : Int, (shl .i64 (wrap64 (bt x1000_1 x14_1)) (ji34)) = j_ := ⟨_, rfl⟩
                        replace H : (some (Go.bits .or .i64 x3_1 (ji36), x1000_1.extract ((ji31) : Int).toNat x1000_1.size, x1001_1)) = some (r1, r2, r3) := by first | (rw [hji36] at H; exact H) | (simp only [hji36] at H ⊢; exact H)
                        have hji36_ : (IntKind.i64.wrap ((wrap64 (bt x1000_1 x14_1)) * 2 ^ min (ji34).toNat 64)) = ji36 := hji36
                        have hji36z : (ji34) ≤ 64 → (IntKind.i64.wrap ((wrap64 (bt x1000_1 x14_1)) * 2 ^ (ji34).toNat)) = ji36 := shl_small hji36
                        have hji36y : (wrap64 ((wrap64 (bt x1000_1 x14_1)) * 2 ^ min (ji34).toNat 64)) = ji36 := (i64_w _).symm.trans hji36_
                        have hji36x : (ji34) ≤ 64 → (wrap64 ((wrap64 (bt x1000_1 x14_1)) * 2 ^ (ji34).toNat)) = ji36 := fun h_ => (i64_w _).symm.trans (hji36z h_)
                        simp only [Option.some.injEq, Prod.mk.injEq] at H
                        obtain ⟨rfl, rfl, rfl⟩ := H
                        obtain ⟨HGz37, hgz37⟩ := HI0.out
                        have hcz37_0 := cellS159_0 HGz37
                        have hcz37_1 := cellS159_1 HGz37
                        have hfz37_0 := blk_frozen HGz37 0
                        have hfz37_1 := blk_frozen HGz37 1
                        clear HGz37 hgz37
                        have p9 : 0 ≤ (x14_1 : Int) := of_decide_eq_true (by first | (with_reducible assumption) | assumption)
                        have q9 : x14_1 < (x1000_1.size : Int) := of_decide_eq_true (by first | (with_reducible assumption) | assumption)
                        have hx9 := bt_at x1000_1 x14_1
                        replace p9 := eq_true p9
                        replace q9 := eq_true q9
                        go_wp2
                        go_ret
                        exact ⟨by first | rfl | (simp [errW_none, errW_some] <;> rfl) | (simp only [← hji31, ← hji34, ← hji36]; first | rfl | (simp [errW_none, errW_some] <;> rfl)) | (simp [*, errW_none, errW_some] <;> rfl), by repeat (first | (with_reducible first | exact HI0.out | apply IsS159.alloc | apply IsS159.drewN | apply IsS159.drew | apply IsS159.set_0 | apply IsS159.set_1) | exact HI0.out), by repeat (first | (with_reducible first | exact HB.out | apply below_alloc | apply pw_below_drewN | apply below_drew1 | refine below_set ?_ (IsS159.ge HI0.out)) | exact HB.out), by repeat (first | (with_reducible first | exact HK.out | apply KeepBut.set_ | apply keep_drewN | apply keep_drew | apply keep_alloc) | exact HK.out)⟩
                      · rw [if_neg c35] at H
                        exact absurd H (by simp)
                    · rw [if_neg c33] at H
                      exact absurd H (by simp)
                  · rw [if_neg c32] at H
                    exact absurd H (by simp)
            · rw [if_neg c8] at H
              exact absurd H (by simp)
          · rw [if_neg c7] at H
            exact absurd H (by simp)
        · rw [if_neg c6] at H
          have c6b0 : decide (x14_1 < (t118.size : Int)) = false := decide_eq_false c6
          clear c6
          replace H := Option.bind_eq_some_iff.mp H
          obtain ⟨⟨t120, t121⟩, A380, H⟩ := H
          replace H : (some (0, t120, t121)) = some (r1, r2, r3) := H
          have A38 := Aside0.mk A380
          clear A380
          simp only [Option.some.injEq, Prod.mk.injEq] at H
          obtain ⟨rfl, rfl, rfl⟩ := H
          go_wp2_with (first | ((with_reducible refine gate_callee (f := 110) rfl ?_); refine goesL_ (some 64) rfl rfl Tryz.func110 (by kernel_rfl) rfl #[.pointer (some ⟨g, 0, none⟩), .int .i64 3] rfl (by (try simp only [List.map_toArray, List.map_cons, List.map_nil]); first | done | rfl | (simp only [List.length_drop, List.length_take]; rfl)) ?_; (with_reducible refine (pack_Reader_wrong.calls g x1000_1 x1001_1 3 t120 t121 w0 _ ?side1 ?side2 A38.out).mono ?_); (case side1 => repeat (first | (with_reducible first | exact HI0.out | apply IsS159.alloc | apply IsS159.drewN | apply IsS159.drew | apply IsS159.set_0 | apply IsS159.set_1) | exact HI0.out)); (case side2 => repeat (first | (with_reducible first | exact HB.out | apply below_alloc | apply pw_below_drewN | apply below_drew1 | refine below_set ?_ (IsS159.ge HI0.out)) | exact HB.out)); rintro e w39 ⟨rfl, hi, hb, hk⟩; refine ⟨_, rfl, ?_⟩; have n0_ := Aside0.mk (KeepBut.trans (by repeat (first | (with_reducible first | exact HK.out | apply KeepBut.set_ | apply keep_drewN | apply keep_drew | apply keep_alloc) | exact HK.out)) hk (.inl rfl)); have n1_ := Aside0.mk (hb); have n2_ := Aside0.mk (hi); clear HK; clear HB; clear HI0; have HK := n0_; have HB := n1_; have HI0 := n2_; clear n0_ n1_ n2_; (try clear hb); (try clear hb2); (try clear hk); (try clear hi)))
          go_ret
          exact ⟨by first | rfl | (simp [errW_none, errW_some] <;> rfl) | (simp [*, errW_none, errW_some] <;> rfl), by repeat (first | (with_reducible first | exact HI0.out | apply IsS159.alloc | apply IsS159.drewN | apply IsS159.drew | apply IsS159.set_0 | apply IsS159.set_1) | exact HI0.out), by repeat (first | (with_reducible first | exact HB.out | apply below_alloc | apply pw_below_drewN | apply below_drew1 | refine below_set ?_ (IsS159.ge HI0.out)) | exact HB.out), by repeat (first | (with_reducible first | exact HK.out | apply KeepBut.set_ | apply keep_drewN | apply keep_drew | apply keep_alloc) | exact HK.out)⟩
  · replace c3 := Bool.eq_false_iff.mpr c3
    subst c3
    have H1 : (some (0, t118, t119)) = some (r1, r2, r3) := by rw [if_neg (show ¬ (false = true) by decide)] at H; exact H
    clear H
    have H := H1
    clear H1
    simp only [Option.some.injEq, Prod.mk.injEq] at H
    obtain ⟨rfl, rfl, rfl⟩ := H
    go_enter Tryz.func91, Tryz.ntmps91
    go_wp2_with (first | ((with_reducible refine gate_callee (f := 109) rfl ?_); refine goesL_ (some 7) rfl rfl Tryz.func109 (by kernel_rfl) rfl #[.pointer (some ⟨g, 0, none⟩)] rfl (by (try simp only [List.map_toArray, List.map_cons, List.map_nil]); first | done | rfl | (simp only [List.length_drop, List.length_take]; rfl)) ?_; (with_reducible refine (pack_Reader_works.calls g s0_0 s0_1 false t118 t119 w0 _ ?side1 ?side2 A2.out).mono ?_); (case side1 => repeat (first | (with_reducible first | exact HI0.out | apply IsS159.alloc | apply IsS159.drewN | apply IsS159.drew | apply IsS159.set_0 | apply IsS159.set_1) | exact HI0.out)); (case side2 => repeat (first | (with_reducible first | exact HB.out | apply below_alloc | apply pw_below_drewN | apply below_drew1 | refine below_set ?_ (IsS159.ge HI0.out)) | exact HB.out)); rintro e w40 ⟨rfl, hi, hb, hk⟩; refine ⟨_, rfl, ?_⟩; have n0_ := Aside0.mk (KeepBut.trans (by repeat (first | (with_reducible first | exact HK.out | apply KeepBut.set_ | apply keep_drewN | apply keep_drew | apply keep_alloc) | exact HK.out)) hk (.inl rfl)); have n1_ := Aside0.mk (hb); have n2_ := Aside0.mk (hi); clear HK; clear HB; clear HI0; have HK := n0_; have HB := n1_; have HI0 := n2_; clear n0_ n1_ n2_; (try clear hb); (try clear hb2); (try clear hk); (try clear hi)))
    go_ret
    exact ⟨by first | rfl | (simp [errW_none, errW_some] <;> rfl) | (simp [*, errW_none, errW_some] <;> rfl), by repeat (first | (with_reducible first | exact HI0.out | apply IsS159.alloc | apply IsS159.drewN | apply IsS159.drew | apply IsS159.set_0 | apply IsS159.set_1) | exact HI0.out), by repeat (first | (with_reducible first | exact HB.out | apply below_alloc | apply pw_below_drewN | apply below_drew1 | refine below_set ?_ (IsS159.ge HI0.out)) | exact HB.out), by repeat (first | (with_reducible first | exact HK.out | apply KeepBut.set_ | apply keep_drewN | apply keep_drew | apply keep_alloc) | exact HK.out)⟩
def pack_Reader_Text.j0 : Nat → Int → Bool → ByteArray → Int → Option (ByteArray × ByteArray × Int)
  | 0, _, _, _, _ => none
  | k + 1, x3, x17, x1000, x1001 => if x17 = true then ((pack_Reader_wrong.f x1000 x1001 3).bind fun bt132 => ((pack_Reader_works.f bt132.1 bt132.2).bind fun bt134 => (if bt134.1 = true then (if 0 ≤ x3 then (if x3 ≤ (bt134.2.1.size : Int) then (some (bt134.2.1.extract 0 (x3 : Int).toNat, bt134.2.1.extract (x3 : Int).toNat bt134.2.1.size, bt134.2.2)) else (none)) else (none)) else (some ((⟨#[]⟩ : ByteArray), bt134.2.1, bt134.2.2))))) else ((pack_Reader_works.f x1000 x1001).bind fun bt137 => (if bt137.1 = true then (if 0 ≤ x3 then (if x3 ≤ (bt137.2.1.size : Int) then (some (bt137.2.1.extract 0 (x3 : Int).toNat, bt137.2.1.extract (x3 : Int).toNat bt137.2.1.size, bt137.2.2)) else (none)) else (none)) else (some ((⟨#[]⟩ : ByteArray), bt137.2.1, bt137.2.2))))
def pack_Reader_Text.f (k : Nat) (s0_0 : ByteArray) (s0_1 : Int) : Option (ByteArray × ByteArray × Int) := (pack_Reader_Number.f k s0_0 s0_1).bind fun bt126 => ((pack_Reader_works.f bt126.2.1 bt126.2.2).bind fun bt129 => (if bt129.1 = true then (pack_Reader_Text.j0 k bt126.1 (decide (bt126.1 > (bt129.2.1.size : Int))) bt129.2.1 bt129.2.2) else (pack_Reader_Text.j0 k bt126.1 false bt129.2.1 bt129.2.2)))
set_option maxHeartbeats 8000000 in
set_option maxRecDepth 100000 in
theorem pack_Reader_Text.calls (k : Nat) (g : Nat) (s0_0 : ByteArray) (s0_1 : Int) (r1 : ByteArray) (r2 : ByteArray) (r3 : Int) (w0 w : World) (hI : IsS159 w0 w g s0_0 s0_1) (hB : Below w0.heap.size w0 w) (h : pack_Reader_Text.f k s0_0 s0_1 = some (r1, r2, r3)) :
    Calls Tryz.prog 92 #[.pointer (some ⟨g, 0, none⟩)] w fun e w' => e = .returned (.string r1) ∧ IsS159 w0 w' g r2 r3 ∧ Below w0.heap.size w0 w' ∧ KeepBut w w' g none := by
  have HI0 := Aside0.mk hI
  have HK := Aside0.mk (KeepBut.refl w g none)
  have HL := Aside0.mk hB.size
  clear hI
  have HW0 := Aside0.mk hB.size
  have HB := Aside0.mk hB
  clear hB
  have H : ((pack_Reader_Number.f k s0_0 s0_1).bind fun bt126 => ((pack_Reader_works.f bt126.2.1 bt126.2.2).bind fun bt129 => (if bt129.1 = true then (pack_Reader_Text.j0 k bt126.1 (decide (bt126.1 > (bt129.2.1.size : Int))) bt129.2.1 bt129.2.2) else (pack_Reader_Text.j0 k bt126.1 false bt129.2.1 bt129.2.2)))) = some (r1, r2, r3) := h
  clear h
  replace H := Option.bind_eq_some_iff.mp H
  obtain ⟨⟨t126, t127, t128⟩, A20, H⟩ := H
  replace H : ((pack_Reader_works.f t127 t128).bind fun bt129 => (if bt129.1 = true then (pack_Reader_Text.j0 k t126 (decide (t126 > (bt129.2.1.size : Int))) bt129.2.1 bt129.2.2) else (pack_Reader_Text.j0 k t126 false bt129.2.1 bt129.2.2))) = some (r1, r2, r3) := H
  have A2 := Aside0.mk A20
  clear A20
  have HC3 := Aside0.mk H
  clear H
  go_enter Tryz.func92, Tryz.ntmps92
  go_upto_region 2 with (first | ((with_reducible refine gate_callee (f := 91) rfl ?_); refine goesL_ (some 6) rfl rfl Tryz.func91 (by kernel_rfl) rfl #[.pointer (some ⟨g, 0, none⟩)] rfl (by (try simp only [List.map_toArray, List.map_cons, List.map_nil]); first | done | rfl | (simp only [List.length_drop, List.length_take]; rfl)) ?_; (with_reducible refine (pack_Reader_Number.calls k g s0_0 s0_1 t126 t127 t128 w0 _ ?side1 ?side2 A2.out).mono ?_); (case side1 => repeat (first | (with_reducible first | exact HI0.out | apply IsS159.alloc | apply IsS159.drewN | apply IsS159.drew | apply IsS159.set_0 | apply IsS159.set_1) | exact HI0.out)); (case side2 => repeat (first | (with_reducible first | exact HB.out | apply below_alloc | apply pw_below_drewN | apply below_drew1 | refine below_set ?_ (IsS159.ge HI0.out)) | exact HB.out)); rintro e w4 ⟨rfl, hi, hb, hk⟩; refine ⟨_, rfl, ?_⟩; have n0_ := Aside0.mk (KeepBut.trans (by repeat (first | (with_reducible first | exact HK.out | apply KeepBut.set_ | apply keep_drewN | apply keep_drew | apply keep_alloc) | exact HK.out)) hk (.inl rfl)); have n1_ := Aside0.mk (hb); have n2_ := Aside0.mk (hi); clear HK; clear HB; clear HI0; have HK := n0_; have HB := n1_; have HI0 := n2_; clear n0_ n1_ n2_; (try clear hb); (try clear hb2); (try clear hk); (try clear hi)))
  (try simp only [Act.put, List.setIfInBounds_toArray, List.set_cons_zero, List.set_cons_succ])
  go_cut [17] (fun v17 wc => ∃ (kq : Nat) (x17_2 : Bool) (x1000_2 : ByteArray) (x1001_2 : Int), v17 = .bool x17_2 ∧ Aside0 (pack_Reader_Text.j0 kq t126 x17_2 x1000_2 x1001_2 = some (r1, r2, r3)) ∧ Aside0 (kq ≤ k) ∧ Aside0 (IsS159 w0 wc g x1000_2 x1001_2) ∧ Aside0 (KeepBut w wc g none) ∧ Aside0 (Below w0.heap.size w0 wc))
  case first =>
    have H := HC3.out
    clear HC3
    replace H := Option.bind_eq_some_iff.mp H
    obtain ⟨⟨t129, t130, t131⟩, A50, H⟩ := H
    replace H : (if t129 = true then (pack_Reader_Text.j0 k t126 (decide (t126 > (t130.size : Int))) t130 t131) else (pack_Reader_Text.j0 k t126 false t130 t131)) = some (r1, r2, r3) := H
    have A5 := Aside0.mk A50
    clear A50
    by_cases c6 : t129 = true
    · subst c6
      have H1 : (pack_Reader_Text.j0 k t126 (decide (t126 > (t130.size : Int))) t130 t131) = some (r1, r2, r3) := by rw [if_pos rfl] at H; exact H
      clear H
      have H := H1
      clear H1
      have H' := Aside0.mk H
      clear H
      go_wp2_with (first | ((with_reducible refine gate_callee (f := 109) rfl ?_); refine goesL_ (some 8) rfl rfl Tryz.func109 (by kernel_rfl) rfl #[.pointer (some ⟨g, 0, none⟩)] rfl (by (try simp only [List.map_toArray, List.map_cons, List.map_nil]); first | done | rfl | (simp only [List.length_drop, List.length_take]; rfl)) ?_; (with_reducible refine (pack_Reader_works.calls g t127 t128 true t130 t131 w0 _ ?side1 ?side2 A5.out).mono ?_); (case side1 => repeat (first | (with_reducible first | exact HI0.out | apply IsS159.alloc | apply IsS159.drewN | apply IsS159.drew | apply IsS159.set_0 | apply IsS159.set_1) | exact HI0.out)); (case side2 => repeat (first | (with_reducible first | exact HB.out | apply below_alloc | apply pw_below_drewN | apply below_drew1 | refine below_set ?_ (IsS159.ge HI0.out)) | exact HB.out)); rintro e w7 ⟨rfl, hi, hb, hk⟩; refine ⟨_, rfl, ?_⟩; have n0_ := Aside0.mk (KeepBut.trans (by repeat (first | (with_reducible first | exact HK.out | apply KeepBut.set_ | apply keep_drewN | apply keep_drew | apply keep_alloc) | exact HK.out)) hk (.inl rfl)); have n1_ := Aside0.mk (hb); have n2_ := Aside0.mk (hi); clear HK; clear HB; clear HI0; have HK := n0_; have HB := n1_; have HI0 := n2_; clear n0_ n1_ n2_; (try clear hb); (try clear hb2); (try clear hk); (try clear hi); obtain ⟨HGz8, hgz8⟩ := HI0.out; have hcz8_0 := cellS159_0 HGz8; have hcz8_1 := cellS159_1 HGz8; have hfz8_0 := blk_frozen HGz8 0; have hfz8_1 := blk_frozen HGz8 1; clear HGz8 hgz8))
      go_meet
      case rel => exact ⟨_, (decide (t126 > (t130.size : Int))), (t130), (t131), (by first | rfl | (simp; done) | (simp [*]; done)), H', ⟨by first | omega | exact Nat.le_refl _⟩, ⟨by repeat (first | (with_reducible first | exact HI0.out | apply IsS159.alloc | apply IsS159.drewN | apply IsS159.drew | apply IsS159.set_0 | apply IsS159.set_1) | exact HI0.out)⟩, ⟨by repeat (first | (with_reducible first | exact HK.out | apply KeepBut.set_ | apply keep_drewN | apply keep_drew | apply keep_alloc) | exact HK.out)⟩, ⟨by repeat (first | (with_reducible first | exact HB.out | apply below_alloc | apply pw_below_drewN | apply below_drew1 | refine below_set ?_ (IsS159.ge HI0.out)) | exact HB.out)⟩⟩
    · replace c6 := Bool.eq_false_iff.mpr c6
      subst c6
      have H1 : (pack_Reader_Text.j0 k t126 false t130 t131) = some (r1, r2, r3) := by rw [if_neg (show ¬ (false = true) by decide)] at H; exact H
      clear H
      have H := H1
      clear H1
      have H' := Aside0.mk H
      clear H
      go_wp2_with (first | ((with_reducible refine gate_callee (f := 109) rfl ?_); refine goesL_ (some 8) rfl rfl Tryz.func109 (by kernel_rfl) rfl #[.pointer (some ⟨g, 0, none⟩)] rfl (by (try simp only [List.map_toArray, List.map_cons, List.map_nil]); first | done | rfl | (simp only [List.length_drop, List.length_take]; rfl)) ?_; (with_reducible refine (pack_Reader_works.calls g t127 t128 false t130 t131 w0 _ ?side1 ?side2 A5.out).mono ?_); (case side1 => repeat (first | (with_reducible first | exact HI0.out | apply IsS159.alloc | apply IsS159.drewN | apply IsS159.drew | apply IsS159.set_0 | apply IsS159.set_1) | exact HI0.out)); (case side2 => repeat (first | (with_reducible first | exact HB.out | apply below_alloc | apply pw_below_drewN | apply below_drew1 | refine below_set ?_ (IsS159.ge HI0.out)) | exact HB.out)); rintro e w9 ⟨rfl, hi, hb, hk⟩; refine ⟨_, rfl, ?_⟩; have n0_ := Aside0.mk (KeepBut.trans (by repeat (first | (with_reducible first | exact HK.out | apply KeepBut.set_ | apply keep_drewN | apply keep_drew | apply keep_alloc) | exact HK.out)) hk (.inl rfl)); have n1_ := Aside0.mk (hb); have n2_ := Aside0.mk (hi); clear HK; clear HB; clear HI0; have HK := n0_; have HB := n1_; have HI0 := n2_; clear n0_ n1_ n2_; (try clear hb); (try clear hb2); (try clear hk); (try clear hi)))
      go_meet
      case rel => exact ⟨_, (false), (t130), (t131), (by first | rfl | (simp; done) | (simp [*]; done)), H', ⟨by first | omega | exact Nat.le_refl _⟩, ⟨by repeat (first | (with_reducible first | exact HI0.out | apply IsS159.alloc | apply IsS159.drewN | apply IsS159.drew | apply IsS159.set_0 | apply IsS159.set_1) | exact HI0.out)⟩, ⟨by repeat (first | (with_reducible first | exact HK.out | apply KeepBut.set_ | apply keep_drewN | apply keep_drew | apply keep_alloc) | exact HK.out)⟩, ⟨by repeat (first | (with_reducible first | exact HB.out | apply below_alloc | apply pw_below_drewN | apply below_drew1 | refine below_set ?_ (IsS159.ge HI0.out)) | exact HB.out)⟩⟩
  case rest =>
    clear HC3
    try clear c1
    try clear p2
    try clear c6
    try clear c9
    try clear hcz8_0
    try clear hcz8_1
    try clear hfz8_0
    try clear hfz8_1
    obtain ⟨kq, x17_2, x1000_2, x1001_2, rfl, HA, HJ2, HI0, HK, HB⟩ := hcut
    cases kq with
    | zero => exact absurd HA.out (by simp [pack_Reader_Text.j0])
    | succ kj2 =>
      have H := HA.out
      clear HA
      simp only [pack_Reader_Text.j0] at H
      by_cases c10 : x17_2 = true
      · subst c10
        have H1 : ((pack_Reader_wrong.f x1000_2 x1001_2 3).bind fun bt132 => ((pack_Reader_works.f bt132.1 bt132.2).bind fun bt134 => (if bt134.1 = true then (if 0 ≤ t126 then (if t126 ≤ (bt134.2.1.size : Int) then (some (bt134.2.1.extract 0 (t126 : Int).toNat, bt134.2.1.extract (t126 : Int).toNat bt134.2.1.size, bt134.2.2)) else (none)) else (none)) else (some ((⟨#[]⟩ : ByteArray), bt134.2.1, bt134.2.2))))) = some (r1, r2, r3) := by rw [if_pos rfl] at H; exact H
        clear H
        have H := H1
        clear H1
        replace H := Option.bind_eq_some_iff.mp H
        obtain ⟨⟨t132, t133⟩, A110, H⟩ := H
        replace H : ((pack_Reader_works.f t132 t133).bind fun bt134 => (if bt134.1 = true then (if 0 ≤ t126 then (if t126 ≤ (bt134.2.1.size : Int) then (some (bt134.2.1.extract 0 (t126 : Int).toNat, bt134.2.1.extract (t126 : Int).toNat bt134.2.1.size, bt134.2.2)) else (none)) else (none)) else (some ((⟨#[]⟩ : ByteArray), bt134.2.1, bt134.2.2)))) = some (r1, r2, r3) := H
        have A11 := Aside0.mk A110
        clear A110
        replace H := Option.bind_eq_some_iff.mp H
        obtain ⟨⟨t134, t135, t136⟩, A120, H⟩ := H
        replace H : (if t134 = true then (if 0 ≤ t126 then (if t126 ≤ (t135.size : Int) then (some (t135.extract 0 (t126 : Int).toNat, t135.extract (t126 : Int).toNat t135.size, t136)) else (none)) else (none)) else (some ((⟨#[]⟩ : ByteArray), t135, t136))) = some (r1, r2, r3) := H
        have A12 := Aside0.mk A120
        clear A120
        by_cases c13 : t134 = true
        · subst c13
          have H1 : (if 0 ≤ t126 then (if t126 ≤ (t135.size : Int) then (some (t135.extract 0 (t126 : Int).toNat, t135.extract (t126 : Int).toNat t135.size, t136)) else (none)) else (none)) = some (r1, r2, r3) := by rw [if_pos rfl] at H; exact H
          clear H
          have H := H1
          clear H1
          by_cases c14 : 0 ≤ t126
          · rw [if_pos c14] at H
            have c14b0 := eq_true c14
            have c14b1 : decide (0 ≤ t126) = true := decide_eq_true c14
            clear c14
            by_cases c15 : t126 ≤ (t135.size : Int)
            · rw [if_pos c15] at H
              have c15b0 := eq_true c15
              have c15b1 : decide (t126 ≤ (t135.size : Int)) = true := decide_eq_true c15
              clear c15
              have c16b0 := eq_true (of_decide_eq_true (by first | (with_reducible assumption) | assumption) : 0 ≤ t126)
              have c17b0 := eq_true (of_decide_eq_true (by first | (with_reducible assumption) | assumption) : t126 ≤ (t135.size : Int))
              simp only [Option.some.injEq, Prod.mk.injEq] at H
              obtain ⟨rfl, rfl, rfl⟩ := H
              go_wp2_with (first | ((with_reducible refine gate_callee (f := 110) rfl ?_); refine goesL_ (some 19) rfl rfl Tryz.func110 (by kernel_rfl) rfl #[.pointer (some ⟨g, 0, none⟩), .int .i64 3] rfl (by (try simp only [List.map_toArray, List.map_cons, List.map_nil]); first | done | rfl | (simp only [List.length_drop, List.length_take]; rfl)) ?_; (with_reducible refine (pack_Reader_wrong.calls g x1000_2 x1001_2 3 t132 t133 w0 _ ?side1 ?side2 A11.out).mono ?_); (case side1 => repeat (first | (with_reducible first | exact HI0.out | apply IsS159.alloc | apply IsS159.drewN | apply IsS159.drew | apply IsS159.set_0 | apply IsS159.set_1) | exact HI0.out)); (case side2 => repeat (first | (with_reducible first | exact HB.out | apply below_alloc | apply pw_below_drewN | apply below_drew1 | refine below_set ?_ (IsS159.ge HI0.out)) | exact HB.out)); rintro e w18 ⟨rfl, hi, hb, hk⟩; refine ⟨_, rfl, ?_⟩; have n0_ := Aside0.mk (KeepBut.trans (by repeat (first | (with_reducible first | exact HK.out | apply KeepBut.set_ | apply keep_drewN | apply keep_drew | apply keep_alloc) | exact HK.out)) hk (.inl rfl)); have n1_ := Aside0.mk (hb); have n2_ := Aside0.mk (hi); clear HK; clear HB; clear HI0; have HK := n0_; have HB := n1_; have HI0 := n2_; clear n0_ n1_ n2_; (try clear hb); (try clear hb2); (try clear hk); (try clear hi)) | ((with_reducible refine gate_callee (f := 109) rfl ?_); refine goesL_ (some 21) rfl rfl Tryz.func109 (by kernel_rfl) rfl #[.pointer (some ⟨g, 0, none⟩)] rfl (by (try simp only [List.map_toArray, List.map_cons, List.map_nil]); first | done | rfl | (simp only [List.length_drop, List.length_take]; rfl)) ?_; (with_reducible refine (pack_Reader_works.calls g t132 t133 true t135 t136 w0 _ ?side1 ?side2 A12.out).mono ?_); (case side1 => repeat (first | (with_reducible first | exact HI0.out | apply IsS159.alloc | apply IsS159.drewN | apply IsS159.drew | apply IsS159.set_0 | apply IsS159.set_1) | exact HI0.out)); (case side2 => repeat (first | (with_reducible first | exact HB.out | apply below_alloc | apply pw_below_drewN | apply below_drew1 | refine below_set ?_ (IsS159.ge HI0.out)) | exact HB.out)); rintro e w19 ⟨rfl, hi, hb, hk⟩; refine ⟨_, rfl, ?_⟩; have n0_ := Aside0.mk (KeepBut.trans (by repeat (first | (with_reducible first | exact HK.out | apply KeepBut.set_ | apply keep_drewN | apply keep_drew | apply keep_alloc) | exact HK.out)) hk (.inl rfl)); have n1_ := Aside0.mk (hb); have n2_ := Aside0.mk (hi); clear HK; clear HB; clear HI0; have HK := n0_; have HB := n1_; have HI0 := n2_; clear n0_ n1_ n2_; (try clear hb); (try clear hb2); (try clear hk); (try clear hi); obtain ⟨HGz20, hgz20⟩ := HI0.out; have hcz20_0 := cellS159_0 HGz20; have hcz20_1 := cellS159_1 HGz20; have hfz20_0 := blk_frozen HGz20 0; have hfz20_1 := blk_frozen HGz20 1; clear HGz20 hgz20))
              go_ret
              exact ⟨by first | rfl | (simp [errW_none, errW_some] <;> rfl) | (simp [*, errW_none, errW_some] <;> rfl), by repeat (first | (with_reducible first | exact HI0.out | apply IsS159.alloc | apply IsS159.drewN | apply IsS159.drew | apply IsS159.set_0 | apply IsS159.set_1) | exact HI0.out), by repeat (first | (with_reducible first | exact HB.out | apply below_alloc | apply pw_below_drewN | apply below_drew1 | refine below_set ?_ (IsS159.ge HI0.out)) | exact HB.out), by repeat (first | (with_reducible first | exact HK.out | apply KeepBut.set_ | apply keep_drewN | apply keep_drew | apply keep_alloc) | exact HK.out)⟩
            · rw [if_neg c15] at H
              exact absurd H (by simp)
          · rw [if_neg c14] at H
            exact absurd H (by simp)
        · replace c13 := Bool.eq_false_iff.mpr c13
          subst c13
          have H1 : (some ((⟨#[]⟩ : ByteArray), t135, t136)) = some (r1, r2, r3) := by rw [if_neg (show ¬ (false = true) by decide)] at H; exact H
          clear H
          have H := H1
          clear H1
          simp only [Option.some.injEq, Prod.mk.injEq] at H
          obtain ⟨rfl, rfl, rfl⟩ := H
          go_wp2_with (first | ((with_reducible refine gate_callee (f := 110) rfl ?_); refine goesL_ (some 19) rfl rfl Tryz.func110 (by kernel_rfl) rfl #[.pointer (some ⟨g, 0, none⟩), .int .i64 3] rfl (by (try simp only [List.map_toArray, List.map_cons, List.map_nil]); first | done | rfl | (simp only [List.length_drop, List.length_take]; rfl)) ?_; (with_reducible refine (pack_Reader_wrong.calls g x1000_2 x1001_2 3 t132 t133 w0 _ ?side1 ?side2 A11.out).mono ?_); (case side1 => repeat (first | (with_reducible first | exact HI0.out | apply IsS159.alloc | apply IsS159.drewN | apply IsS159.drew | apply IsS159.set_0 | apply IsS159.set_1) | exact HI0.out)); (case side2 => repeat (first | (with_reducible first | exact HB.out | apply below_alloc | apply pw_below_drewN | apply below_drew1 | refine below_set ?_ (IsS159.ge HI0.out)) | exact HB.out)); rintro e w21 ⟨rfl, hi, hb, hk⟩; refine ⟨_, rfl, ?_⟩; have n0_ := Aside0.mk (KeepBut.trans (by repeat (first | (with_reducible first | exact HK.out | apply KeepBut.set_ | apply keep_drewN | apply keep_drew | apply keep_alloc) | exact HK.out)) hk (.inl rfl)); have n1_ := Aside0.mk (hb); have n2_ := Aside0.mk (hi); clear HK; clear HB; clear HI0; have HK := n0_; have HB := n1_; have HI0 := n2_; clear n0_ n1_ n2_; (try clear hb); (try clear hb2); (try clear hk); (try clear hi)) | ((with_reducible refine gate_callee (f := 109) rfl ?_); refine goesL_ (some 21) rfl rfl Tryz.func109 (by kernel_rfl) rfl #[.pointer (some ⟨g, 0, none⟩)] rfl (by (try simp only [List.map_toArray, List.map_cons, List.map_nil]); first | done | rfl | (simp only [List.length_drop, List.length_take]; rfl)) ?_; (with_reducible refine (pack_Reader_works.calls g t132 t133 false t135 t136 w0 _ ?side1 ?side2 A12.out).mono ?_); (case side1 => repeat (first | (with_reducible first | exact HI0.out | apply IsS159.alloc | apply IsS159.drewN | apply IsS159.drew | apply IsS159.set_0 | apply IsS159.set_1) | exact HI0.out)); (case side2 => repeat (first | (with_reducible first | exact HB.out | apply below_alloc | apply pw_below_drewN | apply below_drew1 | refine below_set ?_ (IsS159.ge HI0.out)) | exact HB.out)); rintro e w22 ⟨rfl, hi, hb, hk⟩; refine ⟨_, rfl, ?_⟩; have n0_ := Aside0.mk (KeepBut.trans (by repeat (first | (with_reducible first | exact HK.out | apply KeepBut.set_ | apply keep_drewN | apply keep_drew | apply keep_alloc) | exact HK.out)) hk (.inl rfl)); have n1_ := Aside0.mk (hb); have n2_ := Aside0.mk (hi); clear HK; clear HB; clear HI0; have HK := n0_; have HB := n1_; have HI0 := n2_; clear n0_ n1_ n2_; (try clear hb); (try clear hb2); (try clear hk); (try clear hi)))
          go_ret
          exact ⟨by first | rfl | (simp [errW_none, errW_some] <;> rfl) | (simp [*, errW_none, errW_some] <;> rfl), by repeat (first | (with_reducible first | exact HI0.out | apply IsS159.alloc | apply IsS159.drewN | apply IsS159.drew | apply IsS159.set_0 | apply IsS159.set_1) | exact HI0.out), by repeat (first | (with_reducible first | exact HB.out | apply below_alloc | apply pw_below_drewN | apply below_drew1 | refine below_set ?_ (IsS159.ge HI0.out)) | exact HB.out), by repeat (first | (with_reducible first | exact HK.out | apply KeepBut.set_ | apply keep_drewN | apply keep_drew | apply keep_alloc) | exact HK.out)⟩
      · replace c10 := Bool.eq_false_iff.mpr c10
        subst c10
        have H1 : ((pack_Reader_works.f x1000_2 x1001_2).bind fun bt137 => (if bt137.1 = true then (if 0 ≤ t126 then (if t126 ≤ (bt137.2.1.size : Int) then (some (bt137.2.1.extract 0 (t126 : Int).toNat, bt137.2.1.extract (t126 : Int).toNat bt137.2.1.size, bt137.2.2)) else (none)) else (none)) else (some ((⟨#[]⟩ : ByteArray), bt137.2.1, bt137.2.2)))) = some (r1, r2, r3) := by rw [if_neg (show ¬ (false = true) by decide)] at H; exact H
        clear H
        have H := H1
        clear H1
        replace H := Option.bind_eq_some_iff.mp H
        obtain ⟨⟨t137, t138, t139⟩, A230, H⟩ := H
        replace H : (if t137 = true then (if 0 ≤ t126 then (if t126 ≤ (t138.size : Int) then (some (t138.extract 0 (t126 : Int).toNat, t138.extract (t126 : Int).toNat t138.size, t139)) else (none)) else (none)) else (some ((⟨#[]⟩ : ByteArray), t138, t139))) = some (r1, r2, r3) := H
        have A23 := Aside0.mk A230
        clear A230
        by_cases c24 : t137 = true
        · subst c24
          have H1 : (if 0 ≤ t126 then (if t126 ≤ (t138.size : Int) then (some (t138.extract 0 (t126 : Int).toNat, t138.extract (t126 : Int).toNat t138.size, t139)) else (none)) else (none)) = some (r1, r2, r3) := by rw [if_pos rfl] at H; exact H
          clear H
          have H := H1
          clear H1
          by_cases c25 : 0 ≤ t126
          · rw [if_pos c25] at H
            have c25b0 := eq_true c25
            have c25b1 : decide (0 ≤ t126) = true := decide_eq_true c25
            clear c25
            by_cases c26 : t126 ≤ (t138.size : Int)
            · rw [if_pos c26] at H
              have c26b0 := eq_true c26
              have c26b1 : decide (t126 ≤ (t138.size : Int)) = true := decide_eq_true c26
              clear c26
              have c27b0 := eq_true (of_decide_eq_true (by first | (with_reducible assumption) | assumption) : 0 ≤ t126)
              have c28b0 := eq_true (of_decide_eq_true (by first | (with_reducible assumption) | assumption) : t126 ≤ (t138.size : Int))
              simp only [Option.some.injEq, Prod.mk.injEq] at H
              obtain ⟨rfl, rfl, rfl⟩ := H
              go_wp2_with (first | ((with_reducible refine gate_callee (f := 109) rfl ?_); refine goesL_ (some 21) rfl rfl Tryz.func109 (by kernel_rfl) rfl #[.pointer (some ⟨g, 0, none⟩)] rfl (by (try simp only [List.map_toArray, List.map_cons, List.map_nil]); first | done | rfl | (simp only [List.length_drop, List.length_take]; rfl)) ?_; (with_reducible refine (pack_Reader_works.calls g x1000_2 x1001_2 true t138 t139 w0 _ ?side1 ?side2 A23.out).mono ?_); (case side1 => repeat (first | (with_reducible first | exact HI0.out | apply IsS159.alloc | apply IsS159.drewN | apply IsS159.drew | apply IsS159.set_0 | apply IsS159.set_1) | exact HI0.out)); (case side2 => repeat (first | (with_reducible first | exact HB.out | apply below_alloc | apply pw_below_drewN | apply below_drew1 | refine below_set ?_ (IsS159.ge HI0.out)) | exact HB.out)); rintro e w29 ⟨rfl, hi, hb, hk⟩; refine ⟨_, rfl, ?_⟩; have n0_ := Aside0.mk (KeepBut.trans (by repeat (first | (with_reducible first | exact HK.out | apply KeepBut.set_ | apply keep_drewN | apply keep_drew | apply keep_alloc) | exact HK.out)) hk (.inl rfl)); have n1_ := Aside0.mk (hb); have n2_ := Aside0.mk (hi); clear HK; clear HB; clear HI0; have HK := n0_; have HB := n1_; have HI0 := n2_; clear n0_ n1_ n2_; (try clear hb); (try clear hb2); (try clear hk); (try clear hi); obtain ⟨HGz30, hgz30⟩ := HI0.out; have hcz30_0 := cellS159_0 HGz30; have hcz30_1 := cellS159_1 HGz30; have hfz30_0 := blk_frozen HGz30 0; have hfz30_1 := blk_frozen HGz30 1; clear HGz30 hgz30))
              go_ret
              exact ⟨by first | rfl | (simp [errW_none, errW_some] <;> rfl) | (simp [*, errW_none, errW_some] <;> rfl), by repeat (first | (with_reducible first | exact HI0.out | apply IsS159.alloc | apply IsS159.drewN | apply IsS159.drew | apply IsS159.set_0 | apply IsS159.set_1) | exact HI0.out), by repeat (first | (with_reducible first | exact HB.out | apply below_alloc | apply pw_below_drewN | apply below_drew1 | refine below_set ?_ (IsS159.ge HI0.out)) | exact HB.out), by repeat (first | (with_reducible first | exact HK.out | apply KeepBut.set_ | apply keep_drewN | apply keep_drew | apply keep_alloc) | exact HK.out)⟩
            · rw [if_neg c26] at H
              exact absurd H (by simp)
          · rw [if_neg c25] at H
            exact absurd H (by simp)
        · replace c24 := Bool.eq_false_iff.mpr c24
          subst c24
          have H1 : (some ((⟨#[]⟩ : ByteArray), t138, t139)) = some (r1, r2, r3) := by rw [if_neg (show ¬ (false = true) by decide)] at H; exact H
          clear H
          have H := H1
          clear H1
          simp only [Option.some.injEq, Prod.mk.injEq] at H
          obtain ⟨rfl, rfl, rfl⟩ := H
          go_wp2_with (first | ((with_reducible refine gate_callee (f := 109) rfl ?_); refine goesL_ (some 21) rfl rfl Tryz.func109 (by kernel_rfl) rfl #[.pointer (some ⟨g, 0, none⟩)] rfl (by (try simp only [List.map_toArray, List.map_cons, List.map_nil]); first | done | rfl | (simp only [List.length_drop, List.length_take]; rfl)) ?_; (with_reducible refine (pack_Reader_works.calls g x1000_2 x1001_2 false t138 t139 w0 _ ?side1 ?side2 A23.out).mono ?_); (case side1 => repeat (first | (with_reducible first | exact HI0.out | apply IsS159.alloc | apply IsS159.drewN | apply IsS159.drew | apply IsS159.set_0 | apply IsS159.set_1) | exact HI0.out)); (case side2 => repeat (first | (with_reducible first | exact HB.out | apply below_alloc | apply pw_below_drewN | apply below_drew1 | refine below_set ?_ (IsS159.ge HI0.out)) | exact HB.out)); rintro e w31 ⟨rfl, hi, hb, hk⟩; refine ⟨_, rfl, ?_⟩; have n0_ := Aside0.mk (KeepBut.trans (by repeat (first | (with_reducible first | exact HK.out | apply KeepBut.set_ | apply keep_drewN | apply keep_drew | apply keep_alloc) | exact HK.out)) hk (.inl rfl)); have n1_ := Aside0.mk (hb); have n2_ := Aside0.mk (hi); clear HK; clear HB; clear HI0; have HK := n0_; have HB := n1_; have HI0 := n2_; clear n0_ n1_ n2_; (try clear hb); (try clear hb2); (try clear hk); (try clear hi)))
          go_ret
          exact ⟨by first | rfl | (simp [errW_none, errW_some] <;> rfl) | (simp [*, errW_none, errW_some] <;> rfl), by repeat (first | (with_reducible first | exact HI0.out | apply IsS159.alloc | apply IsS159.drewN | apply IsS159.drew | apply IsS159.set_0 | apply IsS159.set_1) | exact HI0.out), by repeat (first | (with_reducible first | exact HB.out | apply below_alloc | apply pw_below_drewN | apply below_drew1 | refine below_set ?_ (IsS159.ge HI0.out)) | exact HB.out), by repeat (first | (with_reducible first | exact HK.out | apply KeepBut.set_ | apply keep_drewN | apply keep_drew | apply keep_alloc) | exact HK.out)⟩
def pack_Reader_End.f (s0_0 : ByteArray) (s0_1 : Int) : Option (Int × ByteArray × Int) := if s0_0.toList = ([] : List UInt8) then (some (s0_1, s0_0, s0_1)) else ((pack_Reader_wrong.f s0_0 s0_1 4).bind fun bt140 => (some (bt140.2, bt140.1, bt140.2)))
set_option maxHeartbeats 8000000 in
set_option maxRecDepth 100000 in
theorem pack_Reader_End.calls (g : Nat) (s0_0 : ByteArray) (s0_1 : Int) (r1 : Int) (r2 : ByteArray) (r3 : Int) (w0 w : World) (hI : IsS159 w0 w g s0_0 s0_1) (hB : Below w0.heap.size w0 w) (h : pack_Reader_End.f s0_0 s0_1 = some (r1, r2, r3)) :
    Calls Tryz.prog 93 #[.pointer (some ⟨g, 0, none⟩)] w fun e w' => e = .returned (.int .i64 r1) ∧ IsS159 w0 w' g r2 r3 ∧ Below w0.heap.size w0 w' ∧ KeepBut w w' g none := by
  have HI0 := Aside0.mk hI
  have HK := Aside0.mk (KeepBut.refl w g none)
  have HL := Aside0.mk hB.size
  clear hI
  have HW0 := Aside0.mk hB.size
  have HB := Aside0.mk hB
  clear hB
  have H : (if s0_0.toList = ([] : List UInt8) then (some (s0_1, s0_0, s0_1)) else ((pack_Reader_wrong.f s0_0 s0_1 4).bind fun bt140 => (some (bt140.2, bt140.1, bt140.2)))) = some (r1, r2, r3) := h
  clear h
  by_cases c2 : s0_0.toList = ([] : List UInt8)
  · rw [if_pos c2] at H
    have c2b0 : (s0_0.toList == ([] : List UInt8)) = true := beq_iff_eq.mpr c2
    have c2b1 : (s0_0.toList != ([] : List UInt8)) = false := bne_eq_false_iff_eq.mpr c2
    clear c2
    simp only [Option.some.injEq, Prod.mk.injEq] at H
    obtain ⟨rfl, rfl, rfl⟩ := H
    obtain ⟨HGz3, hgz3⟩ := HI0.out
    have hcz3_0 := cellS159_0 HGz3
    have hcz3_1 := cellS159_1 HGz3
    have hfz3_0 := blk_frozen HGz3 0
    have hfz3_1 := blk_frozen HGz3 1
    clear HGz3 hgz3
    go_enter Tryz.func93, Tryz.ntmps93
    go_wp2
    go_ret
    exact ⟨by first | rfl | (simp [errW_none, errW_some] <;> rfl) | (simp [*, errW_none, errW_some] <;> rfl), by repeat (first | (with_reducible first | exact HI0.out | apply IsS159.alloc | apply IsS159.drewN | apply IsS159.drew | apply IsS159.set_0 | apply IsS159.set_1) | exact HI0.out), by repeat (first | (with_reducible first | exact HB.out | apply below_alloc | apply pw_below_drewN | apply below_drew1 | refine below_set ?_ (IsS159.ge HI0.out)) | exact HB.out), by repeat (first | (with_reducible first | exact HK.out | apply KeepBut.set_ | apply keep_drewN | apply keep_drew | apply keep_alloc) | exact HK.out)⟩
  · rw [if_neg c2] at H
    have c2b0 : (s0_0.toList == ([] : List UInt8)) = false := beq_eq_false_iff_ne.mpr c2
    have c2b1 : (s0_0.toList != ([] : List UInt8)) = true := bne_iff_ne.mpr c2
    replace H := Option.bind_eq_some_iff.mp H
    obtain ⟨⟨t140, t141⟩, A40, H⟩ := H
    replace H : (some (t141, t140, t141)) = some (r1, r2, r3) := H
    have A4 := Aside0.mk A40
    clear A40
    simp only [Option.some.injEq, Prod.mk.injEq] at H
    obtain ⟨rfl, rfl, rfl⟩ := H
    obtain ⟨HGz5, hgz5⟩ := HI0.out
    have hcz5_0 := cellS159_0 HGz5
    have hcz5_1 := cellS159_1 HGz5
    have hfz5_0 := blk_frozen HGz5 0
    have hfz5_1 := blk_frozen HGz5 1
    clear HGz5 hgz5
    go_enter Tryz.func93, Tryz.ntmps93
    go_wp2_with (first | ((with_reducible refine gate_callee (f := 110) rfl ?_); refine goesL_ (some 11) rfl rfl Tryz.func110 (by kernel_rfl) rfl #[.pointer (some ⟨g, 0, none⟩), .int .i64 4] rfl (by (try simp only [List.map_toArray, List.map_cons, List.map_nil]); first | done | rfl | (simp only [List.length_drop, List.length_take]; rfl)) ?_; (with_reducible refine (pack_Reader_wrong.calls g s0_0 s0_1 4 t140 t141 w0 _ ?side1 ?side2 A4.out).mono ?_); (case side1 => repeat (first | (with_reducible first | exact HI0.out | apply IsS159.alloc | apply IsS159.drewN | apply IsS159.drew | apply IsS159.set_0 | apply IsS159.set_1) | exact HI0.out)); (case side2 => repeat (first | (with_reducible first | exact HB.out | apply below_alloc | apply pw_below_drewN | apply below_drew1 | refine below_set ?_ (IsS159.ge HI0.out)) | exact HB.out)); rintro e w6 ⟨rfl, hi, hb, hk⟩; refine ⟨_, rfl, ?_⟩; have n0_ := Aside0.mk (KeepBut.trans (by repeat (first | (with_reducible first | exact HK.out | apply KeepBut.set_ | apply keep_drewN | apply keep_drew | apply keep_alloc) | exact HK.out)) hk (.inl rfl)); have n1_ := Aside0.mk (hb); have n2_ := Aside0.mk (hi); clear HK; clear HB; clear HI0; have HK := n0_; have HB := n1_; have HI0 := n2_; clear n0_ n1_ n2_; (try clear hb); (try clear hb2); (try clear hk); (try clear hi); obtain ⟨HGz7, hgz7⟩ := HI0.out; have hcz7_0 := cellS159_0 HGz7; have hcz7_1 := cellS159_1 HGz7; have hfz7_0 := blk_frozen HGz7 0; have hfz7_1 := blk_frozen HGz7 1; clear HGz7 hgz7))
    go_ret
    exact ⟨by first | rfl | (simp [errW_none, errW_some] <;> rfl) | (simp [*, errW_none, errW_some] <;> rfl), by repeat (first | (with_reducible first | exact HI0.out | apply IsS159.alloc | apply IsS159.drewN | apply IsS159.drew | apply IsS159.set_0 | apply IsS159.set_1) | exact HI0.out), by repeat (first | (with_reducible first | exact HB.out | apply below_alloc | apply pw_below_drewN | apply below_drew1 | refine below_set ?_ (IsS159.ge HI0.out)) | exact HB.out), by repeat (first | (with_reducible first | exact HK.out | apply KeepBut.set_ | apply keep_drewN | apply keep_drew | apply keep_alloc) | exact HK.out)⟩
def strings_trimLeftByte.l0 : Nat → ByteArray → Int → Option (ByteArray)
  | 0, _, _ => none
  | k + 1, x0, x1 => if (x0.size : Int) > 0 then (if 0 < (x0.size : Int) then (if (bt x0 0) = x1 then (if 1 ≤ (x0.size : Int) then (strings_trimLeftByte.l0 k (x0.extract 1 x0.size) x1) else (none)) else (some x0)) else (none)) else (some x0)
def strings_trimLeftByte.f (k : Nat) (a0 : ByteArray) (a1 : Int) : Option (ByteArray) := strings_trimLeftByte.l0 k a0 a1
set_option maxHeartbeats 8000000 in
set_option maxRecDepth 100000 in
theorem strings_trimLeftByte.calls (k : Nat) (a0 : ByteArray) (a1 : Int) (r : ByteArray) (w : World) (h : strings_trimLeftByte.f k a0 a1 = some r) :
    Calls Tryz.prog 98 #[.string a0, .int .u8 a1] w fun e w' => e = .returned (.string r) ∧ Drawn0 w w' := by
  have H : (strings_trimLeftByte.l0 k a0 a1) = some r := h
  clear h
  have H' := Aside0.mk H
  clear H
  go_enter Tryz.func98, Tryz.ntmps98
  go_wp2
  go_loopg [0] k (fun kq v0 w' => ∃ (x0_1 : ByteArray), v0 = .string x0_1 ∧ Aside0 (strings_trimLeftByte.l0 kq x0_1 a1 = some r) ∧ Aside0 (kq ≤ k) ∧ Drawn0 w w')
  case atStart => exact ⟨(a0), (by first | rfl | (simp; done) | (simp [*]; done)), H', ⟨Nat.le_refl _⟩, by repeat (first | exact Drawn0.refl _ | apply Drawn0.step)⟩
  case round =>
    clear H'
    try clear p2
    obtain ⟨x0_1, rfl, HA, HK1, ⟨m1, rfl⟩⟩ := hrel
    cases gk with
    | zero => exact absurd HA.out (by simp [strings_trimLeftByte.l0])
    | succ k1 =>
      have H := HA.out
      clear HA
      simp only [strings_trimLeftByte.l0] at H
      by_cases c3 : (x0_1.size : Int) > 0
      · rw [if_pos c3] at H
        have c3b0 : decide (0 < (x0_1.size : Int)) = true := decide_eq_true c3
        have c3b1 : decide (0 < x0_1.size) = true := decide_eq_true (by omega)
        clear c3
        by_cases c4 : 0 < (x0_1.size : Int)
        · rw [if_pos c4] at H
          have c4b0 : decide (0 < (x0_1.size : Int)) = true := decide_eq_true c4
          have c4b1 : decide (0 < x0_1.size) = true := decide_eq_true (by omega)
          clear c4
          by_cases c6 : (bt x0_1 0) = a1
          · rw [if_pos c6] at H
            have c6b0 : ((bt x0_1 0) == a1) = true := beq_iff_eq.mpr c6
            have c6b1 : ((bt x0_1 0) != a1) = false := bne_eq_false_iff_eq.mpr c6
            clear c6
            by_cases c7 : 1 ≤ (x0_1.size : Int)
            · rw [if_pos c7] at H
              have c7b0 := eq_true c7
              have c7b1 : decide (1 ≤ (x0_1.size : Int)) = true := decide_eq_true c7
              clear c7
              have H' := Aside0.mk H
              clear H
              have p5 : 0 ≤ (0 : Int) := (by omega)
              have q5 : 0 < x0_1.size := (by have : (0 : Int) < (x0_1.size : Int) := of_decide_eq_true (by first | (with_reducible assumption) | assumption); omega)
              have hx5 : ∀ h : 0 < x0_1.size, ((x0_1[0]'h).toNat : Int) = bt x0_1 0 := bt_at x0_1 0
              clear p5
              have qi5 : (0 < (x0_1.size : Int)) = True := eq_true (of_decide_eq_true (by first | (with_reducible assumption) | assumption))
              replace q5 := eq_true q5
              go_wp2
              go_roundg k1
              case measure => have := HK1.out; omega
              case rel => exact ⟨(x0_1.extract 1 x0_1.size), (by first | rfl | (simp; done) | (simp [*]; done)), H', ⟨by have := HK1.out; omega⟩, by repeat (first | exact Drawn0.refl _ | apply Drawn0.step)⟩
            · rw [if_neg c7] at H
              exact absurd H (by simp)
          · rw [if_neg c6] at H
            have c6b0 : ((bt x0_1 0) == a1) = false := beq_eq_false_iff_ne.mpr c6
            have c6b1 : ((bt x0_1 0) != a1) = true := bne_iff_ne.mpr c6
            obtain rfl := Option.some.inj H
            have p5 : 0 ≤ (0 : Int) := (by omega)
            have q5 : 0 < x0_1.size := (by have : (0 : Int) < (x0_1.size : Int) := of_decide_eq_true (by first | (with_reducible assumption) | assumption); omega)
            have hx5 : ∀ h : 0 < x0_1.size, ((x0_1[0]'h).toNat : Int) = bt x0_1 0 := bt_at x0_1 0
            clear p5
            have qi5 : (0 < (x0_1.size : Int)) = True := eq_true (of_decide_eq_true (by first | (with_reducible assumption) | assumption))
            replace q5 := eq_true q5
            go_wp2
            go_ret
            exact ⟨by first | rfl | (simp; done) | (simp [*]; done), by repeat (first | exact Drawn0.refl _ | apply Drawn0.step)⟩
        · rw [if_neg c4] at H
          exact absurd H (by simp)
      · rw [if_neg c3] at H
        have c3b0 : decide (0 < (x0_1.size : Int)) = false := decide_eq_false c3
        have c3b1 : decide (0 < x0_1.size) = false := decide_eq_false (by omega)
        clear c3
        obtain rfl := Option.some.inj H
        go_wp2
        go_ret
        exact ⟨by first | rfl | (simp; done) | (simp [*]; done), by repeat (first | exact Drawn0.refl _ | apply Drawn0.step)⟩
def strings_trimRightByte.l0 : Nat → ByteArray → Int → Option (ByteArray)
  | 0, _, _ => none
  | k + 1, x0, x1 => if (x0.size : Int) > 0 then (if 0 ≤ (wrap64 ((x0.size : Int) - 1)) then (if (wrap64 ((x0.size : Int) - 1)) < (x0.size : Int) then (if (bt x0 (wrap64 ((x0.size : Int) - 1))) = x1 then (if (wrap64 ((x0.size : Int) - 1)) ≤ (x0.size : Int) then (strings_trimRightByte.l0 k (x0.extract 0 ((wrap64 ((x0.size : Int) - 1)) : Int).toNat) x1) else (none)) else (some x0)) else (none)) else (none)) else (some x0)
def strings_trimRightByte.f (k : Nat) (a0 : ByteArray) (a1 : Int) : Option (ByteArray) := strings_trimRightByte.l0 k a0 a1
set_option maxHeartbeats 8000000 in
set_option maxRecDepth 100000 in
theorem strings_trimRightByte.calls (k : Nat) (a0 : ByteArray) (a1 : Int) (r : ByteArray) (w : World) (h : strings_trimRightByte.f k a0 a1 = some r) :
    Calls Tryz.prog 99 #[.string a0, .int .u8 a1] w fun e w' => e = .returned (.string r) ∧ Drawn0 w w' := by
  have H : (strings_trimRightByte.l0 k a0 a1) = some r := h
  clear h
  have H' := Aside0.mk H
  clear H
  go_enter Tryz.func99, Tryz.ntmps99
  go_wp2
  go_loopg [0] k (fun kq v0 w' => ∃ (x0_1 : ByteArray), v0 = .string x0_1 ∧ Aside0 (strings_trimRightByte.l0 kq x0_1 a1 = some r) ∧ Aside0 (kq ≤ k) ∧ Drawn0 w w')
  case atStart => exact ⟨(a0), (by first | rfl | (simp; done) | (simp [*]; done)), H', ⟨Nat.le_refl _⟩, by repeat (first | exact Drawn0.refl _ | apply Drawn0.step)⟩
  case round =>
    clear H'
    try clear p2
    obtain ⟨x0_1, rfl, HA, HK1, ⟨m1, rfl⟩⟩ := hrel
    cases gk with
    | zero => exact absurd HA.out (by simp [strings_trimRightByte.l0])
    | succ k1 =>
      have H := HA.out
      clear HA
      simp only [strings_trimRightByte.l0] at H
      by_cases c3 : (x0_1.size : Int) > 0
      · rw [if_pos c3] at H
        have c3b0 : decide (0 < (x0_1.size : Int)) = true := decide_eq_true c3
        have c3b1 : decide (0 < x0_1.size) = true := decide_eq_true (by omega)
        clear c3
        obtain ⟨ji4, hji4⟩ : ∃ j_ : Int, (wrap64 ((x0_1.size : Int) - 1)) = j_ := ⟨_, rfl⟩
        replace H : (if 0 ≤ (ji4) then (if (ji4) < (x0_1.size : Int) then (if (bt x0_1 (ji4)) = a1 then (if (ji4) ≤ (x0_1.size : Int) then (strings_trimRightByte.l0 k1 (x0_1.extract 0 ((ji4) : Int).toNat) a1) else (none)) else (some x0_1)) else (none)) else (none)) = some r := by first | (rw [hji4] at H; exact H) | (simp only [hji4] at H ⊢; exact H)
        have hji4w : (IntKind.i64.wrap ((x0_1.size : Int) - 1)) = ji4 := (i64_w _).trans hji4
        by_cases c5 : 0 ≤ (ji4)
        · rw [if_pos c5] at H
          have c5b0 : decide (0 ≤ (ji4)) = true := decide_eq_true c5
          clear c5
          by_cases c6 : (ji4) < (x0_1.size : Int)
          · rw [if_pos c6] at H
            have c6b0 : decide ((ji4) < (x0_1.size : Int)) = true := decide_eq_true c6
            clear c6
            by_cases c8 : (bt x0_1 (ji4)) = a1
            · rw [if_pos c8] at H
              have c8b0 : ((bt x0_1 (ji4)) == a1) = true := beq_iff_eq.mpr c8
              have c8b1 : ((bt x0_1 (ji4)) != a1) = false := bne_eq_false_iff_eq.mpr c8
              clear c8
              have c9b0 := eq_true (of_decide_eq_true (by first | (with_reducible assumption) | assumption) : 0 ≤ (ji4))
              by_cases c10 : (ji4) ≤ (x0_1.size : Int)
              · rw [if_pos c10] at H
                have c10b0 := eq_true c10
                have c10b1 : decide ((ji4) ≤ (x0_1.size : Int)) = true := decide_eq_true c10
                clear c10
                have H' := Aside0.mk H
                clear H
                have p7 : 0 ≤ ((ji4) : Int) := of_decide_eq_true (by first | (with_reducible assumption) | assumption)
                have q7 : (ji4) < (x0_1.size : Int) := of_decide_eq_true (by first | (with_reducible assumption) | assumption)
                have hx7 := bt_at x0_1 (ji4)
                replace p7 := eq_true p7
                replace q7 := eq_true q7
                go_wp2
                go_roundg k1
                case measure => have := HK1.out; omega
                case rel => exact ⟨(x0_1.extract 0 ((ji4) : Int).toNat), (by first | rfl | (simp; done) | (simp only [← hji4] <;> (first | rfl | simp)) | (simp [*]; done)), H', ⟨by have := HK1.out; omega⟩, by repeat (first | exact Drawn0.refl _ | apply Drawn0.step)⟩
              · rw [if_neg c10] at H
                exact absurd H (by simp)
            · rw [if_neg c8] at H
              have c8b0 : ((bt x0_1 (ji4)) == a1) = false := beq_eq_false_iff_ne.mpr c8
              have c8b1 : ((bt x0_1 (ji4)) != a1) = true := bne_iff_ne.mpr c8
              obtain rfl := Option.some.inj H
              have p7 : 0 ≤ ((ji4) : Int) := of_decide_eq_true (by first | (with_reducible assumption) | assumption)
              have q7 : (ji4) < (x0_1.size : Int) := of_decide_eq_true (by first | (with_reducible assumption) | assumption)
              have hx7 := bt_at x0_1 (ji4)
              replace p7 := eq_true p7
              replace q7 := eq_true q7
              go_wp2
              go_ret
              exact ⟨by first | rfl | (simp; done) | (simp only [← hji4] <;> (first | rfl | simp)) | (simp [*]; done), by repeat (first | exact Drawn0.refl _ | apply Drawn0.step)⟩
          · rw [if_neg c6] at H
            exact absurd H (by simp)
        · rw [if_neg c5] at H
          exact absurd H (by simp)
      · rw [if_neg c3] at H
        have c3b0 : decide (0 < (x0_1.size : Int)) = false := decide_eq_false c3
        have c3b1 : decide (0 < x0_1.size) = false := decide_eq_false (by omega)
        clear c3
        obtain rfl := Option.some.inj H
        go_wp2
        go_ret
        exact ⟨by first | rfl | (simp; done) | (simp [*]; done), by repeat (first | exact Drawn0.refl _ | apply Drawn0.step)⟩
end Go.Proofs.YtdcfonmjbelgbaaGreatDoor.Q
end
section
namespace Go.Proofs.YtdcfonmjbelgbaaGreatDoor.Q
open Go.RowKit Go.Proofs.YtdcfonmjbelgbaaGreatDoorW.PrintWords Go.Proofs.YtdcfonmjbelgbaaGreatDoorW.PrintLast Go.Proofs.YtdcfonmjbelgbaaGreatDoorW.PrintMore
attribute [local go_sem] max2_int min2_int max_two min_two max_three min_three max_four min_four   -- for this text's walks alone
set_option linter.unusedVariables false
set_option linter.unusedSimpArgs false
def IsS132 (w0 W : World) (g : Nat) (f0 : ByteArray) (f1 : Int) : Prop := W.heap[g]? = some (.cells #[.string f0, .int .i64 f1] 132 (0, 0)) ∧ w0.heap.size ≤ g
theorem IsS132.grown {w0 W : World} {g : Nat} {f0 : ByteArray} {f1 : Int} {W1 : World} {row : Option Nat} (h : IsS132 w0 W g f0 f1) (hw : W.grownBy W1 row) (hne : some g ≠ row) : IsS132 w0 W1 g f0 f1 := by
  obtain ⟨hb, hg⟩ := h
  exact ⟨blk_grown hb hw hne, hg⟩
theorem IsS132.fresh {w0 W : World} {g : Nat} {f0 : ByteArray} {f1 : Int} (h : IsS132 w0 W g f0 f1) : ∀ k, W.heap.size ≤ k → k ≠ g := by
  obtain ⟨hb, hg⟩ := h
  exact Kd.freshB hb
theorem IsS132.kept {w0 W : World} {g : Nat} {f0 : ByteArray} {f1 : Int} {W1 : World} {S : Nat → Prop} (h : IsS132 w0 W g f0 f1) (hk : Kept W W1 S) (hne : ¬ S g) : IsS132 w0 W1 g f0 f1 := by
  obtain ⟨hb, hg⟩ := h
  exact ⟨blk_kept hb hk hne, hg⟩
theorem IsS132.below {w0 W : World} {g : Nat} {f0 : ByteArray} {f1 : Int} {W1 : World} (h : IsS132 w0 W g f0 f1) (hw : Below W.heap.size W W1) : IsS132 w0 W1 g f0 f1 := h.grown (grown_of_below hw none) (by simp)
theorem IsS132.alloc {w0 W : World} {g : Nat} {f0 : ByteArray} {f1 : Int} (h : IsS132 w0 W g f0 f1) (o : Obj) : IsS132 w0 (W.alloc o) g f0 f1 := h.below (below_alloc (Below.refl _ _) o)
theorem IsS132.drewN {w0 W : World} {g : Nat} {f0 : ByteArray} {f1 : Int} (h : IsS132 w0 W g f0 f1) (m : Nat) : IsS132 w0 (W.drewN m) g f0 f1 := h
theorem IsS132.drew {w0 W : World} {g : Nat} {f0 : ByteArray} {f1 : Int} (h : IsS132 w0 W g f0 f1) : IsS132 w0 W.drew g f0 f1 := h
theorem IsS132.at_ {w0 W : World} {g : Nat} {f0 : ByteArray} {f1 : Int} {w' : World} {m : Nat} (hq : W.drewN m = w') (h : IsS132 w0 W g f0 f1) : IsS132 w0 w' g f0 f1 := by subst hq; exact IsS132.drewN h m
theorem IsS132.apart {w0 W : World} {g : Nat} {f0 : ByteArray} {f1 : Int} {α : Type} {d : Kd α} {e : Nat} {base : Nat} {ok : Nat → Prop} {v : Value} {xs : List α} (h : IsS132 w0 W g f0 f1) (ho : d.R e W base ok v xs) (ht : ∀ q, q ∈ e :: d.E → q ≠ 132) : d.R e W base (fun k => ok k ∧ k ≠ g) v xs := by
  obtain ⟨hb, hg⟩ := h
  exact Kd.R_types ho hb ht
theorem IsS132.own_ne {w0 W : World} {g : Nat} {f0 : ByteArray} {f1 : Int} {α : Type} {d : Kd α} {e : Nat} {base : Nat} {ok : Nat → Prop} {v : Value} {xs : List α} (h : IsS132 w0 W g f0 f1) (ho : d.R e W base ok v xs) (ht : e ≠ 132) : some g ≠ v.ownBlock := by
  obtain ⟨hb, hg⟩ := h
  exact Kd.R_ne ho hb ht
theorem IsS132.lt {w0 W : World} {g : Nat} {f0 : ByteArray} {f1 : Int} (h : IsS132 w0 W g f0 f1) : g < W.heap.size := by
  obtain ⟨hb, hg⟩ := h
  exact blk_lt hb
theorem IsS132.ge {w0 W : World} {g : Nat} {f0 : ByteArray} {f1 : Int} (h : IsS132 w0 W g f0 f1) : w0.heap.size ≤ g := by
  obtain ⟨hb, hg⟩ := h
  exact hg
theorem IsS132.far {w0 W : World} {g : Nat} {f0 : ByteArray} {f1 : Int} {p : Addr} (h : IsS132 w0 W g f0 f1) (hne : g ≠ p.block) (u : Value) : IsS132 w0 (W.setCell p u) g f0 f1 := by
  obtain ⟨hb, hg⟩ := h
  exact ⟨blk_far hb hne u, hg⟩
theorem IsS132.set_0 {w0 W : World} {g : Nat} {f0 : ByteArray} {f1 : Int} (h : IsS132 w0 W g f0 f1) (x : ByteArray) : IsS132 w0 (W.setCell ⟨g, 0, none⟩ (.string x)) g x f1 := by
  obtain ⟨hb, hg⟩ := h
  exact ⟨by simpa using blk_set hb 0 (.string x), hg⟩
theorem IsS132.set_1 {w0 W : World} {g : Nat} {f0 : ByteArray} {f1 : Int} (h : IsS132 w0 W g f0 f1) (x : Int) : IsS132 w0 (W.setCell ⟨g, 1, none⟩ (.int .i64 x)) g f0 x := by
  obtain ⟨hb, hg⟩ := h
  exact ⟨by simpa using blk_set hb 1 (.int .i64 x), hg⟩
theorem IsS132.new (w0 W : World) (f0 : ByteArray) (f1 : Int) (hB : Below w0.heap.size w0 W) : IsS132 w0 (W.alloc (.cells #[.string f0, .int .i64 f1] 132)) W.heap.size f0 f1 := ⟨by simpa using heap_alloc_new W _, hB.size⟩
end Go.Proofs.YtdcfonmjbelgbaaGreatDoor.Q
end
section
namespace Go.Proofs.YtdcfonmjbelgbaaGreatDoor
def B (l : List UInt8) : ByteArray := ⟨l.toArray⟩
theorem B_data (l : List UInt8) : (B l).data.toList = l := rfl
theorem B_eta (s : ByteArray) : B s.data.toList = s := by cases s; simp [B]
theorem B_size (l : List UInt8) : (B l).size = l.length := by simp [B, ByteArray.size]
theorem B_toList (l : List UInt8) : (B l).toList = l := by rw [ByteArray.toList_eq]; rfl
theorem B_inj {a b : List UInt8} (h : B a = B b) : a = b := by rw [← B_data a, h, B_data]
theorem eq_of_data {s t : ByteArray} (h : s.data.toList = t.data.toList) : s = t := by rw [← B_eta s, h, B_eta]
theorem size_data (s : ByteArray) : s.data.toList.length = s.size := Array.length_toList
theorem B_append (a b : List UInt8) : B a ++ B b = B (a ++ b) := by
  apply eq_of_data
  rw [B_data]
  show (ByteArray.append (B a) (B b)).data.toList = _
  simp [B]
theorem B_extract (l : List UInt8) (a b : Nat) : (B l).extract a b = B ((l.drop a).take (b - a)) := by
  apply eq_of_data
  rw [Lib.extract_data, B_data, B_data]
theorem exB (s : ByteArray) : ∃ l, s = B l := ⟨s.data.toList, (B_eta s).symm⟩
end Go.Proofs.YtdcfonmjbelgbaaGreatDoor
end
section
namespace Go.Proofs.YtdcfonmjbelgbaaGreatDoor
def enc (n : Nat) : List UInt8 := if n < 128 then [UInt8.ofNat n] else UInt8.ofNat (128 + n % 128) :: enc (n / 128)
termination_by n
decreasing_by omega
theorem enc_lt {n : Nat} (h : n < 128) : enc n = [UInt8.ofNat n] := by rw [enc, if_pos h]
theorem enc_ge {n : Nat} (h : 128 ≤ n) : enc n = UInt8.ofNat (128 + n % 128) :: enc (n / 128) := by rw [enc, if_neg (by omega)]
theorem enc_ne (n : Nat) : enc n ≠ [] := by
  by_cases h : n < 128
  · rw [enc_lt h]; simp
  · rw [enc_ge (by omega)]; simp
theorem enc_len (j : Nat) : ∀ n : Nat, n < 128 ^ (j + 1) → (enc n).length ≤ j + 1 := by
  induction j with
  | zero => intro n h; rw [enc_lt (by simpa using h)]; simp
  | succ j ih =>
    intro n h
    by_cases h1 : n < 128
    · rw [enc_lt h1]; simp
    · rw [enc_ge (by omega), List.length_cons]
      have : n / 128 < 128 ^ (j + 1) := by
        rw [Nat.pow_succ] at h
        exact Nat.div_lt_of_lt_mul (by omega)
      have := ih _ this
      omega
theorem u8_toNat (n : Nat) (h : n < 256) : (UInt8.ofNat n).toNat = n := UInt8.toNat_ofNat_of_lt' (by simpa using h)
def tk : List UInt8 → Nat → Nat → Nat × List UInt8 × Int
  | [], _, _ => (0, [], 3)
  | c :: l, i, n => if 128 ≤ c.toNat then (if i = 7 then (0, [], 4) else tk l (i + 1) (n + (c.toNat - 128) * 2 ^ (7 * i))) else if c.toNat = 0 ∧ 0 < i then (0, [], 4) else (n + c.toNat * 2 ^ (7 * i), l, 0)
theorem pow7 (i : Nat) : 2 ^ (7 * (i + 1)) = 128 * 2 ^ (7 * i) := by
  rw [show 7 * (i + 1) = 7 * i + 7 by omega, Nat.pow_add]; omega
theorem tk_enc (m : Nat) : ∀ (i n : Nat) (r : List UInt8), i ≤ 7 → m < 128 ^ (8 - i) → (0 < i → 0 < m) → tk (enc m ++ r) i n = (n + m * 2 ^ (7 * i), r, 0) := by
  induction m using Nat.strongRecOn with
  | ind m ih =>
    intro i n r hi hm h0
    by_cases h : m < 128
    · rw [enc_lt h]
      show tk (UInt8.ofNat m :: r) i n = _
      rw [tk, u8_toNat m (by omega), if_neg (by omega), if_neg (by omega)]
    · rw [enc_ge (by omega)]
      show tk (UInt8.ofNat (128 + m % 128) :: (enc (m / 128) ++ r)) i n = _
      rw [tk, u8_toNat _ (by omega), if_pos (by omega)]
      have hi6 : i ≠ 7 := by rintro rfl; simp at hm; omega
      rw [if_neg hi6, ih (m / 128) (by omega) (i + 1) _ r (by omega) ?_ (by omega)]
      · congr 1
        rw [pow7 i, Nat.add_sub_cancel_left]
        have e : m = 128 * (m / 128) + m % 128 := by omega
        generalize m / 128 = q at *
        generalize m % 128 = s at *
        subst e
        rw [Nat.add_mul, Nat.mul_comm 128 q, Nat.mul_assoc, Nat.add_assoc]
        congr 1
        rw [Nat.add_comm]
      · have e : 8 - i = (8 - (i + 1)) + 1 := by omega
        rw [e, Nat.pow_succ] at hm
        exact Nat.div_lt_of_lt_mul (by omega)
theorem tk_zero (m : Nat) (r : List UInt8) (h : m < 2 ^ 56) : tk (enc m ++ r) 0 0 = (m, r, 0) := by
  rw [tk_enc m 0 0 r (by omega) (by simpa using h) (by omega)]
  simp
theorem tk_inv : ∀ (l : List UInt8) (i n v : Nat) (r : List UInt8), i ≤ 7 → tk l i n = (v, r, 0) → ∃ m, l = enc m ++ r ∧ v = n + m * 2 ^ (7 * i) ∧ m < 128 ^ (8 - i) ∧ (0 < i → 0 < m)
  | [], i, n, v, r, hi, h => by simp [tk] at h
  | c :: l, i, n, v, r, hi, h => by
    rw [tk] at h
    have hc := c.toNat_lt
    by_cases h1 : 128 ≤ c.toNat
    · rw [if_pos h1] at h
      by_cases h7 : i = 7
      · rw [if_pos h7] at h; simp at h
      · rw [if_neg h7] at h
        obtain ⟨m, rfl, rfl, hm, h0⟩ := tk_inv l (i + 1) _ v r (by omega) h
        have hp : 0 < m := h0 (by omega)
        refine ⟨128 * m + (c.toNat - 128), ?_, ?_, ?_, fun _ => by omega⟩
        · have e1 : (128 * m + (c.toNat - 128)) / 128 = m := by omega
          have e2 : 128 + (128 * m + (c.toNat - 128)) % 128 = c.toNat := by omega
          have e3 : enc (128 * m + (c.toNat - 128)) = c :: enc m := by
            rw [enc_ge (n := 128 * m + (c.toNat - 128)) (by omega)]
            generalize 128 * m + (c.toNat - 128) = q at e1 e2 ⊢
            rw [e1, e2, UInt8.ofNat_toNat]
          rw [e3, List.cons_append]
        · rw [pow7 i, Nat.add_mul, Nat.add_assoc]
          rw [← Nat.mul_assoc, Nat.mul_comm m 128]
          generalize 128 * m * 2 ^ (7 * i) = x
          generalize (c.toNat - 128) * 2 ^ (7 * i) = y
          omega
        · have e : 8 - i = (8 - (i + 1)) + 1 := by omega
          rw [e, Nat.pow_succ]
          omega
    · rw [if_neg h1] at h
      by_cases h2 : c.toNat = 0 ∧ 0 < i
      · rw [if_pos h2] at h; simp at h
      · rw [if_neg h2] at h
        simp only [Prod.mk.injEq] at h
        obtain ⟨rfl, rfl, _⟩ := h
        refine ⟨c.toNat, by rw [enc_lt (by omega)]; simp, rfl, ?_, fun _ => by omega⟩
        have : 128 ^ 1 ≤ 128 ^ (8 - i) := Nat.pow_le_pow_right (by omega) (by omega)
        omega
theorem tk_inv0 {l : List UInt8} {v : Nat} {r : List UInt8} (h : tk l 0 0 = (v, r, 0)) : l = enc v ++ r ∧ v < 2 ^ 56 := by
  obtain ⟨m, h1, h2, h3, _⟩ := tk_inv l 0 0 v r (by omega) h
  simp at h2 h3
  subst h2
  exact ⟨h1, by omega⟩
theorem tk_err : ∀ (l : List UInt8) (i n : Nat), (tk l i n).2.2 = 0 ∨ (tk l i n = (0, [], 3)) ∨ (tk l i n = (0, [], 4))
  | [], i, n => .inr (.inl rfl)
  | c :: l, i, n => by
    rw [tk]
    split
    · split
      · exact .inr (.inr rfl)
      · exact tk_err l _ _
    · split
      · exact .inr (.inr rfl)
      · exact .inl rfl
theorem tk_le : ∀ (l : List UInt8) (i n : Nat), (tk l i n).2.1.length ≤ l.length
  | [], i, n => by simp [tk]
  | c :: l, i, n => by
    rw [tk]
    split
    · split
      · simp
      · have := tk_le l (i + 1) (n + (c.toNat - 128) * 2 ^ (7 * i))
        simp only [List.length_cons]; omega
    · split
      · simp
      · simp
theorem enc_len8 {m : Nat} (h : m < 2 ^ 56) : (enc m).length ≤ 8 := enc_len 7 m (by simpa using h)
def txt (s : List UInt8) : List UInt8 := enc s.length ++ s
def tkT (l : List UInt8) : List UInt8 × List UInt8 × Int :=
  if (tk l 0 0).2.2 ≠ 0 then ([], [], (tk l 0 0).2.2) else if (tk l 0 0).2.1.length < (tk l 0 0).1 then ([], [], 3) else ((tk l 0 0).2.1.take (tk l 0 0).1, (tk l 0 0).2.1.drop (tk l 0 0).1, 0)
theorem tkT_txt (s r : List UInt8) (h : s.length < 2 ^ 56) : tkT (txt s ++ r) = (s, r, 0) := by
  unfold tkT txt
  rw [List.append_assoc, tk_zero _ _ h]
  simp
theorem tkT_inv {l s r : List UInt8} (h : tkT l = (s, r, 0)) : l = txt s ++ r ∧ s.length < 2 ^ 56 := by
  unfold tkT at h
  by_cases h0 : (tk l 0 0).2.2 = 0
  · rw [if_neg (by simpa using h0)] at h
    by_cases h1 : (tk l 0 0).2.1.length < (tk l 0 0).1
    · rw [if_pos h1] at h; simp at h
    · rw [if_neg h1] at h
      simp only [Prod.mk.injEq, and_true] at h
      obtain ⟨hs, hr⟩ := h
      have ht : tk l 0 0 = ((tk l 0 0).1, (tk l 0 0).2.1, 0) := by rw [← h0]
      obtain ⟨hl, hv⟩ := tk_inv0 ht
      have hlen : s.length = (tk l 0 0).1 := by rw [← hs, List.length_take]; omega
      refine ⟨?_, by omega⟩
      unfold txt
      rw [hlen, ← hs, ← hr, List.append_assoc, List.take_append_drop]
      exact hl
  · rw [if_pos (by simpa using h0)] at h
    simp only [Prod.mk.injEq] at h
    exact absurd h.2.2 h0
end Go.Proofs.YtdcfonmjbelgbaaGreatDoor
end
section
namespace Go.Proofs.YtdcfonmjbelgbaaGreatDoor
open Go.RowKit Q Go.Proofs.YtdcfonmjbelgbaaGreatDoorW.PrintWords Go.Proofs.YtdcfonmjbelgbaaGreatDoorW.PrintLast Go.Proofs.YtdcfonmjbelgbaaGreatDoorW.PrintMore
theorem or128 : ∀ a : Fin 256, Go.bits .or .u8 (a.val : Int) 128 = ((128 + a.val % 128 : Nat) : Int) := by decide +kernel
theorem or128' (n : Nat) : Go.bits .or .u8 ((n : Int) % 256) 128 = ((128 + n % 128 : Nat) : Int) := by
  have h := or128 ⟨n % 256, Nat.mod_lt _ (by omega)⟩
  simp only at h
  rw [show ((n % 256 : Nat) : Int) = (n : Int) % 256 by omega] at h
  rw [h]
  congr 2
  omega
theorem wraps_i64 (n : Int) (h₀ : 0 ≤ n) (h₁ : n < 2 ^ 63) : IntKind.i64.wrap n = n := by rw [IntKind.wrap_i64]; omega
theorem bits_or_comm (a b : Nat) (ha : a < 2 ^ 63) (hb : b < 2 ^ 63) : Go.bits .or .i64 (a : Int) (b : Int) = Go.bits .or .i64 (b : Int) (a : Int) := by
  rw [(bits_nat .i64 63 (by decide) wraps_i64 a b ha hb).2, (bits_nat .i64 63 (by decide) wraps_i64 b a hb ha).2, Nat.or_comm]
theorem or_add (n c i : Nat) (hn : n < 2 ^ (7 * i)) (hc : c < 128) (hi : i ≤ 7) : Go.bits .or .i64 (n : Int) (shl .i64 (c : Int) (wrap64 (7 * (i : Int)))) = ((n + c * 2 ^ (7 * i) : Nat) : Int) := by
  have e : wrap64 (7 * (i : Int)) = ((7 * i : Nat) : Int) := by unfold wrap64; omega
  have hp : 2 ^ (7 * i) ≤ 2 ^ 49 := Nat.pow_le_pow_right (by omega) (by omega)
  have hcp : c * 2 ^ (7 * i) ≤ 127 * 2 ^ 49 := Nat.mul_le_mul (by omega) hp
  have h2 : shl .i64 (c : Int) (wrap64 (7 * (i : Int))) = ((c * 2 ^ (7 * i) : Nat) : Int) := by
    unfold shl
    rw [e, Int.toNat_natCast, Nat.min_eq_left (by show 7 * i ≤ 64; omega)]
    have e2 : (c : Int) * 2 ^ (7 * i) = ((c * 2 ^ (7 * i) : Nat) : Int) := by simp
    rw [e2]
    exact wraps_i64 _ (by omega) (by omega)
  rw [h2, bits_or_comm _ _ (by omega) (by omega), bits_join .i64 63 (by decide) wraps_i64 (7 * i) _ _ (by omega) ?_ (by omega) (by omega) (by exact_mod_cast hn) (by omega)]
  · omega
  · have : ((c * 2 ^ (7 * i) : Nat) : Int) = (c : Int) * 2 ^ (7 * i) := by simp
    rw [this]
    exact Int.mul_emod_left _ _
theorem bt_B (l : List UInt8) (i : Nat) : bt (B l) (i : Int) = ((l.getD i 0).toNat : Int) := by
  unfold bt
  rw [Int.toNat_natCast]
  split
  · rename_i h
    have h' : i < l.length := by rw [B_size] at h; exact h
    have e : (B l)[i]'h = l[i] := by show (B l).data[i] = _; simp [B]
    rw [e, List.getD_eq_getElem?_getD, List.getElem?_eq_getElem h']; rfl
  · rename_i h
    have h' : l.length ≤ i := by rw [B_size] at h; omega
    rw [List.getD_eq_getElem?_getD, List.getElem?_eq_none h']; rfl
def nb (l : List UInt8) : List Int := l.map fun c => (c.toNat : Int)
theorem nb_append (a b : List UInt8) : nb (a ++ b) = nb a ++ nb b := by simp [nb]
theorem strOfNums_nb (l : List UInt8) : strOfNums (nb l) = B l := by
  unfold strOfNums B nb
  rw [List.map_map]
  congr 2
  have : ((fun n : Int => UInt8.ofNat n.toNat) ∘ fun c : UInt8 => (c.toNat : Int)) = id := by
    funext c; simp
  rw [this, List.map_id]
theorem nb_one (n : Nat) (h : n < 128) : nb [UInt8.ofNat n] = [(n : Int) % 256] := by
  simp only [nb, List.map_cons, List.map_nil]
  rw [u8_toNat n (by omega), Int.emod_eq_of_lt (by omega) (by omega)]
theorem number_loop (j : Nat) : ∀ (n k : Nat) (acc : List UInt8), n < 128 ^ (j + 1) → j < k → acc.length + j ≤ 1000 → pack_Number.l0 k (n : Int) (nb acc) = some (B (acc ++ enc n)) := by
  induction j with
  | zero =>
    intro n k acc hn hk ha
    obtain ⟨k, rfl⟩ : ∃ m, k = m + 1 := ⟨k - 1, by omega⟩
    simp only [pack_Number.l0]
    have hl : (nb acc).length = acc.length := by simp [nb]
    rw [if_neg (by omega), if_pos (by omega), enc_lt (by omega)]
    have e : nb acc ++ [(n : Int) % 256] = nb (acc ++ [UInt8.ofNat n]) := by
      rw [nb_append, nb_one n (by omega)]
    rw [e, strOfNums_nb]
  | succ j ih =>
    intro n k acc hn hk ha
    obtain ⟨k, rfl⟩ : ∃ m, k = m + 1 := ⟨k - 1, by omega⟩
    have hl : (nb acc).length = acc.length := by simp [nb]
    by_cases h : n < 128
    · exact (by
        simp only [pack_Number.l0]
        rw [if_neg (by omega), if_pos (by omega), enc_lt (by omega)]
        have e : nb acc ++ [(n : Int) % 256] = nb (acc ++ [UInt8.ofNat n]) := by
          rw [nb_append, nb_one n (by omega)]
        rw [e, strOfNums_nb])
    · simp only [pack_Number.l0]
      rw [if_pos (by omega), if_pos (by omega), or128']
      have e : nb acc ++ [((128 + n % 128 : Nat) : Int)] = nb (acc ++ [UInt8.ofNat (128 + n % 128)]) := by
        rw [nb_append]
        congr 1
        simp only [nb, List.map_cons, List.map_nil]
        rw [u8_toNat _ (by omega)]
      have e2 : (n : Int) / 128 = ((n / 128 : Nat) : Int) := by omega
      rw [e, e2, ih (n / 128) k _ ?_ (by omega) (by rw [List.length_append, List.length_singleton]; omega), enc_ge (n := n) (by omega), List.append_assoc, List.singleton_append]
      · rw [Nat.pow_succ] at hn
        exact Nat.div_lt_of_lt_mul (by omega)
theorem number_f (n k : Nat) (h : n < 2 ^ 56) (hk : 20 ≤ k) : pack_Number.f k (n : Int) = some (B (enc n)) := by
  unfold pack_Number.f
  obtain ⟨k, rfl⟩ : ∃ m, k = m + 1 := ⟨k - 1, by omega⟩
  have e : decide ((n : Int) > 72057594037927935) = false := by simp; omega
  rw [if_neg (by omega), e]
  simp only [pack_Number.j0]
  rw [if_neg (by decide)]
  exact number_loop 7 n k [] (by simpa using h) (by omega) (by simp)
theorem text_f (s : List UInt8) (k : Nat) (h : s.length ≤ 140737488355328) (hk : 20 ≤ k) : pack_Text.f k (B s) = some (B (txt s)) := by
  unfold pack_Text.f
  rw [B_size, number_f s.length k (by omega) hk]
  simp only [Option.bind_some]
  have := enc_len8 (m := s.length) (by omega)
  rw [if_pos (by rw [B_size]; omega), B_append]
  rfl
theorem wrap7 (i : Nat) (hi : i ≤ 7) : wrap64 (7 * (i : Int)) = ((7 * i : Nat) : Int) := by unfold wrap64; omega
theorem wrap_succ (i : Nat) (hi : i ≤ 140737488355328) : wrap64 ((i : Int) + 1) = ((i + 1 : Nat) : Int) := by unfold wrap64; omega
theorem wrap_small (i : Nat) (hi : i ≤ 140737488355328) : wrap64 (i : Int) = (i : Int) := by unfold wrap64; omega
theorem rnum_end (l : List UInt8) (_hl : l.length ≤ 140737488355328) (i n c : Nat) (hi : i ≤ 7) (hil : i < l.length) (hn : n < 2 ^ (7 * i)) (hc : c < 128) :
    (if 0 ≤ wrap64 ((i : Int) + 1) then (if wrap64 ((i : Int) + 1) ≤ ((B l).size : Int) then (if 0 ≤ wrap64 (7 * (i : Int)) then (some (Go.bits .or .i64 (n : Int) (shl .i64 (wrap64 (c : Int)) (wrap64 (7 * (i : Int)))), (B l).extract (wrap64 ((i : Int) + 1)).toNat (B l).size, (0 : Int))) else none) else none) else none) = some (((n + c * 2 ^ (7 * i) : Nat) : Int), B (l.drop (i + 1)), (0 : Int)) := by
  rw [wrap_small c (by omega), or_add n c i hn hc hi, wrap_succ i (by omega), if_pos (by omega), if_pos (by rw [B_size]; omega), if_pos (by rw [wrap7 i hi]; omega), Int.toNat_natCast, B_size, B_extract, List.take_of_length_le (by rw [List.length_drop]; omega)]
theorem rnum_loop (l : List UInt8) (hl : l.length ≤ 140737488355328) (d : Nat) : ∀ (k i n : Nat), 8 - i = d → i ≤ 7 → i ≤ l.length → n < 2 ^ (7 * i) → d < k →
    pack_Reader_Number.l0 k (n : Int) (l.length : Int) (i : Int) (B l) 0 = some (((tk (l.drop i) i n).1 : Int), B (tk (l.drop i) i n).2.1, (tk (l.drop i) i n).2.2) := by
  induction d with
  | zero => intro k i n hd hi; omega
  | succ d ih =>
    intro k i n hd hi hil hn hk
    obtain ⟨k, rfl⟩ : ∃ m, k = m + 1 := ⟨k - 1, by omega⟩
    simp only [pack_Reader_Number.l0]
    by_cases h1 : i < l.length
    · rw [if_pos (by omega), if_pos (by omega), if_pos (by rw [B_size]; omega), bt_B]
      have hc : l.drop i = l.getD i 0 :: l.drop (i + 1) := by
        rw [List.drop_eq_getElem_cons h1, List.getD_eq_getElem?_getD, List.getElem?_eq_getElem h1]; rfl
      rw [hc]
      generalize l.getD i 0 = c
      have hc8 := c.toNat_lt
      have e7 : wrap64 (7 * (i : Int)) = ((7 * i : Nat) : Int) := by unfold wrap64; omega
      have e1 : wrap64 ((i : Int) + 1) = ((i + 1 : Nat) : Int) := by unfold wrap64; omega
      by_cases h128 : 128 ≤ c.toNat
      · rw [if_pos (by omega)]
        by_cases h7 : i = 7
        · rw [if_pos (by omega)]
          have : tk (c :: l.drop (i + 1)) i n = (0, [], 4) := by rw [tk, if_pos h128, if_pos h7]
          rw [this]
          rfl
        · rw [if_neg (by omega), if_pos (by rw [e7]; omega)]
          have e3 : ((c.toNat : Int) - 128) % 256 = ((c.toNat - 128 : Nat) : Int) := by omega
          rw [e3, or_add n (c.toNat - 128) i hn (by omega) hi, e1]
          have e4 : tk (c :: l.drop (i + 1)) i n = tk (l.drop (i + 1)) (i + 1) (n + (c.toNat - 128) * 2 ^ (7 * i)) := by rw [tk, if_pos h128, if_neg h7]
          rw [e4]
          refine ih k (i + 1) _ (by omega) (by omega) (by omega) ?_ (by omega)
          rw [pow7 i]
          have : (c.toNat - 128) * 2 ^ (7 * i) ≤ 127 * 2 ^ (7 * i) := Nat.mul_le_mul_right _ (by omega)
          omega
      · rw [if_neg (by omega)]
        have hsh : pack_Reader_wrong.f (B l) 0 4 = some (⟨#[]⟩, 4) := rfl
        have hend := rnum_end l hl i n c.toNat hi h1 hn (by omega)
        by_cases h0 : c.toNat = 0
        · rw [if_pos (by omega)]
          by_cases hi0 : 0 < i
          · rw [if_pos (by omega)]
            have : tk (c :: l.drop (i + 1)) i n = (0, [], 4) := by rw [tk, if_neg h128, if_pos ⟨h0, hi0⟩]
            rw [this]
            rfl
          · rw [if_neg (by omega), hend]
            have : tk (c :: l.drop (i + 1)) i n = (n + c.toNat * 2 ^ (7 * i), l.drop (i + 1), 0) := by rw [tk, if_neg h128, if_neg (by omega)]
            rw [this]
        · rw [if_neg (by omega), hend]
          have : tk (c :: l.drop (i + 1)) i n = (n + c.toNat * 2 ^ (7 * i), l.drop (i + 1), 0) := by rw [tk, if_neg h128, if_neg (by omega)]
          rw [this]
    · rw [if_neg (by omega), List.drop_eq_nil_of_le (by omega)]
      rfl
theorem rnum_f (l : List UInt8) (k : Nat) (hl : l.length ≤ 140737488355328) (hk : 20 ≤ k) : pack_Reader_Number.f k (B l) 0 = some (((tk l 0 0).1 : Int), B (tk l 0 0).2.1, (tk l 0 0).2.2) := by
  unfold pack_Reader_Number.f pack_Reader_works.f
  simp only [Option.bind_some]
  rw [if_pos (by rfl), B_size]
  exact rnum_loop l hl 8 k 0 0 rfl (by omega) (by omega) (by simp) (by omega)
theorem rnum_err (s : ByteArray) (e : Int) (k : Nat) (he : e ≠ 0) : pack_Reader_Number.f k s e = some (0, s, e) := by
  unfold pack_Reader_Number.f pack_Reader_works.f
  simp only [Option.bind_some]
  rw [if_neg (by simpa using he)]
theorem rtext_f (l : List UInt8) (k : Nat) (hl : l.length ≤ 140737488355328) (hk : 21 ≤ k) : pack_Reader_Text.f k (B l) 0 = some (B (tkT l).1, B (tkT l).2.1, (tkT l).2.2) := by
  obtain ⟨k, rfl⟩ : ∃ m, k = m + 1 := ⟨k - 1, by omega⟩
  have hle := tk_le l 0 0
  have herr := tk_err l 0 0
  unfold pack_Reader_Text.f
  rw [rnum_f l _ hl (by omega)]
  unfold tkT
  generalize tk l 0 0 = t at hle herr ⊢
  obtain ⟨n, r, e⟩ := t
  simp only [Option.bind_some, pack_Reader_works.f] at *
  by_cases h0 : e = 0
  · subst h0
    rw [if_pos (by rfl), if_neg (by simp)]
    rw [B_size]
    by_cases h1 : r.length < n
    · have hd : decide ((n : Int) > (r.length : Int)) = true := by simp; omega
      rw [hd, if_pos h1]
      simp only [pack_Reader_Text.j0, pack_Reader_wrong.f, pack_Reader_works.f, Option.bind_some]
      rw [if_pos trivial, if_neg (by decide)]
      rfl
    · have hd : decide ((n : Int) > (r.length : Int)) = false := by simp; omega
      rw [hd, if_neg h1]
      simp only [pack_Reader_Text.j0, pack_Reader_wrong.f, pack_Reader_works.f, Option.bind_some]
      rw [if_neg (by decide), if_pos (by decide), if_pos (by omega), if_pos (by rw [B_size]; omega), Int.toNat_natCast, B_size, B_extract, B_extract, List.drop_zero, Nat.sub_zero, List.take_of_length_le (l := r.drop n) (by rw [List.length_drop]; omega)]
  · rw [if_neg (by simpa using h0), if_pos h0]
    simp only [pack_Reader_Text.j0, pack_Reader_wrong.f, pack_Reader_works.f, Option.bind_some]
    rw [if_neg (by decide), if_neg (by simpa using h0)]
    rcases herr with h | h | h
    · exact absurd h h0
    · simp only [Prod.mk.injEq] at h
      obtain ⟨_, rfl, rfl⟩ := h
      rfl
    · simp only [Prod.mk.injEq] at h
      obtain ⟨_, rfl, rfl⟩ := h
      rfl
theorem rtext_err (s : ByteArray) (e : Int) (k : Nat) (he : e ≠ 0) (hk : 1 ≤ k) : pack_Reader_Text.f k s e = some (⟨#[]⟩, s, e) := by
  obtain ⟨k, rfl⟩ : ∃ m, k = m + 1 := ⟨k - 1, by omega⟩
  unfold pack_Reader_Text.f
  rw [rnum_err s e _ he]
  simp only [Option.bind_some, pack_Reader_works.f]
  rw [if_neg (by simpa using he)]
  simp only [pack_Reader_Text.j0, pack_Reader_wrong.f, pack_Reader_works.f, Option.bind_some]
  rw [if_neg (by decide), if_neg (by simpa using he)]
end Go.Proofs.YtdcfonmjbelgbaaGreatDoor
end
section
namespace Go.Proofs.YtdcfonmjbelgbaaGreatDoor
open Go.RowKit Go.Proofs.YtdcfonmjbelgbaaGreatDoor.Q Go.Proofs.YtdcfonmjbelgbaaGreatDoorW.PrintWords Go.Proofs.YtdcfonmjbelgbaaGreatDoorW.PrintLast
theorem rnumber_loop (j : Nat) : ∀ (n k : Nat), n < 2 ^ 56 → n < 128 ^ (j + 1) → 2 * j + 2 ≤ k → sluicegateref05_Number.f k (n : Int) = some (B (enc n)) := by
  induction j with
  | zero =>
    intro n k h56 hn hk
    obtain ⟨k, rfl⟩ : ∃ m, k = m + 1 + 1 := ⟨k - 2, by omega⟩
    simp only [sluicegateref05_Number.f, sluicegateref05_Most.f, Option.bind_some]
    have e : decide ((n : Int) > 72057594037927935) = false := by simp; omega
    rw [if_neg (by omega), e]
    simp only [sluicegateref05_Number.j0]
    rw [if_neg (by decide), if_pos (by omega), enc_lt (by omega), ← nb_one n (by omega), strOfNums_nb]
  | succ j ih =>
    intro n k h56 hn hk
    obtain ⟨k, rfl⟩ : ∃ m, k = m + 1 + 1 := ⟨k - 2, by omega⟩
    simp only [sluicegateref05_Number.f, sluicegateref05_Most.f, Option.bind_some]
    have e : decide ((n : Int) > 72057594037927935) = false := by simp; omega
    rw [if_neg (by omega), e]
    simp only [sluicegateref05_Number.j0]
    rw [if_neg (by decide)]
    by_cases h : n < 128
    · rw [if_pos (by omega), enc_lt (by omega), ← nb_one n (by omega), strOfNums_nb]
    · rw [if_neg (by omega)]
      simp only [Option.bind_some]
      have e1 : wrap64 (Int.tdiv (n : Int) 128) = ((n / 128 : Nat) : Int) := by
        rw [Int.tdiv_eq_ediv_of_nonneg (by omega)]; unfold wrap64; omega
      have e2 : wrap64 (128 + Int.tmod (n : Int) 128) % 256 = ((128 + n % 128 : Nat) : Int) := by
        rw [Int.tmod_eq_emod_of_nonneg (by omega)]; unfold wrap64; omega
      have e3 : strOfNums [((128 + n % 128 : Nat) : Int)] = B [UInt8.ofNat (128 + n % 128)] := by
        rw [← strOfNums_nb]
        simp only [nb, List.map_cons, List.map_nil]
        rw [u8_toNat _ (by omega)]
      have hq : n / 128 < 128 ^ (j + 1) := by
        rw [Nat.pow_succ] at hn
        exact Nat.div_lt_of_lt_mul (by omega)
      have h8 := enc_len8 (m := n / 128) (by omega)
      rw [e1, e2, e3, ih (n / 128) k (by omega) hq (by omega)]
      simp only [Option.bind_some]
      rw [if_pos (by rw [B_size, B_size, List.length_singleton]; omega), B_append, enc_ge (n := n) (by omega), List.singleton_append]
theorem rnumber_f (n k : Nat) (h : n < 2 ^ 56) (hk : 20 ≤ k) : sluicegateref05_Number.f k (n : Int) = some (B (enc n)) := rnumber_loop 7 n k h (by simpa using h) (by omega)
theorem rtxt_f (s : List UInt8) (k : Nat) (h : s.length ≤ 140737488355328) (hk : 20 ≤ k) : sluicegateref05_Text.f k (B s) = some (B (txt s)) := by
  unfold sluicegateref05_Text.f
  rw [B_size, rnumber_f s.length k (by omega) hk]
  simp only [Option.bind_some]
  have := enc_len8 (m := s.length) (by omega)
  rw [if_pos (by rw [B_size]; omega), B_append]
  rfl
end Go.Proofs.YtdcfonmjbelgbaaGreatDoor
namespace Go.Proofs.YtdcfonmjbelgbaaGreatDoor
open Go.RowKit Q Go.Proofs.YtdcfonmjbelgbaaGreatDoorW.PrintWords Go.Proofs.YtdcfonmjbelgbaaGreatDoorW.PrintLast Go.Proofs.YtdcfonmjbelgbaaGreatDoorW.PrintMore
end Go.Proofs.YtdcfonmjbelgbaaGreatDoor
end
section
namespace Go.Proofs.YtdcfonmjbelgbaaGreatDoor
open Go.RowKit Go.Proofs.YtdcfonmjbelgbaaGreatDoorW.PrintWords
theorem below2 {w w1 w2 : World} {B : Nat} (a : Below B w w1) (hB : B ≤ w1.heap.size) (b : Below w1.heap.size w1 w2) : Below B w w2 := a.trans (b.mono hB)
def Blk (w : World) (g : Nat) (c : Array Value) (T : TypeId) : Prop := w.heap[g]? = some (.cells c T (0, 0))
theorem Blk.lt {w : World} {g : Nat} {c : Array Value} {T : TypeId} (h : Blk w g c T) : g < w.heap.size := (Array.getElem?_eq_some_iff.1 h).1
theorem Blk.cell {w : World} {g : Nat} {c : Array Value} {T : TypeId} (h : Blk w g c T) {i : Nat} {v : Value} (hi : c[i]? = some v) : w.cell? ⟨g, i, none⟩ = some v := by rw [Lib.cell_of_heap h]; exact hi
theorem Blk.free {w : World} {g : Nat} {c : Array Value} {T : TypeId} (h : Blk w g c T) (i : Nat) : w.frozen? ⟨g, i, none⟩ = false := Lib.frozen_of_heap h i
theorem Blk.set {w : World} {g : Nat} {c : Array Value} {T : TypeId} (h : Blk w g c T) (i : Nat) (v : Value) : Blk (w.setCell ⟨g, i, none⟩ v) g (c.setIfInBounds i v) T := by
  have : w.heap[g]? = _ := h
  simp [Blk, World.setCell, Array.getElem?_modify, this]
theorem Blk.other {w : World} {g g' : Nat} {c : Array Value} {T : TypeId} (h : Blk w g c T) (hne : g ≠ g') (i : Nat) (v : Value) : Blk (w.setCell ⟨g', i, none⟩ v) g c T := (Below.heap_setCell _ _ _ _ (fun e => hne e)).trans h
theorem Blk.keep {w w' : World} {g : Nat} {c : Array Value} {T : TypeId} (h : Blk w g c T) (hb : Below w.heap.size w w') : Blk w' g c T := (hb.block g h.lt).trans h
theorem Blk.alloc {w : World} {g : Nat} {c : Array Value} {T : TypeId} (h : Blk w g c T) (o : Obj) : Blk (w.alloc o) g c T := (Lib.alloc_old w o g h.lt).trans h
theorem Blk.new (w : World) (c : Array Value) (T : TypeId) : Blk (w.alloc (.cells c T)) w.heap.size c T := heap_alloc_new w _
theorem Blk.but {w w' : World} {g g' : Nat} {c : Array Value} {T : TypeId} (h : Blk w g c T) (hk : KeepBut w w' g' none) (hne : g ≠ g') : Blk w' g c T := (hk.2 g h.lt hne (by simp)).trans h
theorem below_setRow' {B : Nat} {w w1 : World} (h : Below B w w1) {g : Nat} (hg : B ≤ g) (c : Array Value) : Below B w (w1.setRow g c) :=
  h.trans ⟨rfl, rfl, rfl, by simp [World.setRow], fun k hk => setRow_other w1 g k c (by omega)⟩
theorem lt_cell {w : World} {ad : Addr} {v : Value} (h : w.cell? ad = some v) : ad.block < w.heap.size := by
  rcases Nat.lt_or_ge ad.block w.heap.size with h1 | h1
  · exact h1
  · exfalso
    have : w.heap[ad.block]? = none := Array.getElem?_eq_none h1
    simp [World.cell?, this] at h
theorem cells4 {w : World} {g : Nat} {T : TypeId} {a0 a1 a2 a3 : Value} (h : Blk w g #[a0, a1, a2, a3] T) : w.cell? ⟨g, 0, none⟩ = some a0 ∧ w.cell? ⟨g, 1, none⟩ = some a1 ∧ w.cell? ⟨g, 2, none⟩ = some a2 ∧ w.cell? ⟨g, 3, none⟩ = some a3 := ⟨h.cell rfl, h.cell rfl, h.cell rfl, h.cell rfl⟩
end Go.Proofs.YtdcfonmjbelgbaaGreatDoor
end
section
namespace Go.Proofs.YtdcfonmjbelgbaaGreatDoor
open Go.RowKit Q Go.Proofs.YtdcfonmjbelgbaaGreatDoorW.PrintWords Go.Proofs.YtdcfonmjbelgbaaGreatDoorW.PrintLast Go.Proofs.YtdcfonmjbelgbaaGreatDoorW.PrintMore
def encK (l : List Nat) : Nat → List UInt8
  | 0 => []
  | k + 1 => encK l k ++ enc (l.getD k 0)
theorem encK_len (l : List Nat) (h : ∀ k, l.getD k 0 < 2 ^ 56) (k : Nat) : (encK l k).length ≤ 8 * k := by
  induction k with
  | zero => exact Nat.le_refl _
  | succ k ih =>
    rw [encK, List.length_append]
    have := enc_len8 (h k)
    omega
theorem number_B (n : Nat) (h : n < 2 ^ 56) (w : World) : Calls Tryz.prog 67 #[.int .i64 (n : Int)] w fun e w' => e = .returned (.string (B (enc n))) ∧ Below w.heap.size w w' :=
  pack_Number.calls 20 _ _ w (number_f n 20 h (Nat.le_refl _))
end Go.Proofs.YtdcfonmjbelgbaaGreatDoor
end
section
namespace Go.Proofs.YtdcfonmjbelgbaaGreatDoor
open Go.RowKit
def BT (T : TypeId) : Prop := T ≠ 5 ∧ liesAt Tryz.prog Tryz.prog.depth T (2 / Tryz.prog.cellsOf T) 0 112 1 = true
theorem bt_builder : BT 112 := ⟨by decide, by kernel_rfl⟩
def BdAt (B b : Nat) (p v : Value) (l : List UInt8) (w : World) : Prop :=
  ∃ T, BT T ∧ w.heap[b]? = some (.cells #[p, v] T (0, 0)) ∧ w.ownsRowF B 5 1 v l.length (Lib.byteCells l) ∧ v.ownBlock ≠ some b ∧ (l = [] → v = .slice none 0 0)
def Bd (B b : Nat) (l : List UInt8) (w : World) : Prop :=
  ∃ p v, (p = .pointer none ∨ p = .pointer (some ⟨b, 0, none⟩)) ∧ BdAt B b p v l w
structure Bf (B b : Nat) (w w' : World) : Prop where
  os : w'.os = w.os
  tape : w'.tape = w.tape
  output : w'.output = w.output
  size : w.heap.size ≤ w'.heap.size
  block : ∀ k, k < B → k ≠ b → w'.heap[k]? = w.heap[k]?
theorem Bf.refl (B b : Nat) (w : World) : Bf B b w w := ⟨rfl, rfl, rfl, Nat.le_refl _, fun _ _ _ => rfl⟩
theorem Bf.trans {B b : Nat} {w w1 w2 : World} (h : Bf B b w w1) (k : Bf B b w1 w2) : Bf B b w w2 :=
  ⟨k.os.trans h.os, k.tape.trans h.tape, k.output.trans h.output, Nat.le_trans h.size k.size, fun i hi hne => (k.block i hi hne).trans (h.block i hi hne)⟩
theorem Bf.below {B b S : Nat} {w w' : World} (h : Bf B b w w') (h1 : S ≤ B) (h2 : S ≤ b) : Below S w w' :=
  ⟨h.os, h.tape, h.output, h.size, fun k hk => h.block k (by omega) (by omega)⟩
theorem Bf.of_below {B b : Nat} {w w' : World} (h : Below w.heap.size w w') (hB : B ≤ w.heap.size) : Bf B b w w' :=
  ⟨h.os, h.tape, h.output, h.size, fun k hk _ => h.block k (by omega)⟩
theorem Bf.cell {B b : Nat} {w w' : World} (h : Bf B b w w') {a : Addr} {v : Value} (hc : w.cell? a = some v) (h1 : a.block < B) (h2 : a.block ≠ b) : w'.cell? a = some v :=
  (World.cell?_of_block (h.block a.block h1 h2)).trans hc
theorem BdAt.keep {B b : Nat} {p v : Value} {l : List UInt8} {w w' : World} (h : BdAt B b p v l w) (hk : ∀ k, k < w.heap.size → w'.heap[k]? = w.heap[k]?) : BdAt B b p v l w' := by
  obtain ⟨T, hT, h1, h2, h3, h4⟩ := h
  have hlt := (Array.getElem?_eq_some_iff.1 h1).1
  refine ⟨T, hT, (hk b hlt).trans h1, ⟨h2.1, ?_⟩, h3, h4⟩
  rcases h2.2 with hn | ⟨g, cap, cur, fz, rfl, hb, hg, rest⟩
  · exact .inl hn
  · exact .inr ⟨g, cap, cur, fz, rfl, hb, (hk g (Array.getElem?_eq_some_iff.1 hg).1).trans hg, rest⟩
theorem Bd.keep {B b : Nat} {l : List UInt8} {w w' : World} (h : Bd B b l w) (hb : Below w.heap.size w w') : Bd B b l w' := by
  obtain ⟨p, v, hp, h⟩ := h
  exact ⟨p, v, hp, h.keep hb.block⟩
theorem Bd.lt {B b : Nat} {l : List UInt8} {w : World} (h : Bd B b l w) : b < w.heap.size := by
  obtain ⟨p, v, hp, T, hT, h⟩ := h
  exact (Array.getElem?_eq_some_iff.1 h.1).1
theorem Bd.freshT {T : TypeId} (hT : BT T) (B b : Nat) (w : World) (h : w.heap[b]? = some (.cells #[.pointer none, .slice none 0 0] T (0, 0))) : Bd B b [] w :=
  ⟨_, _, .inl rfl, T, hT, h, World.ownsRowF_nil w B _ 1, by simp [Value.ownBlock], fun _ => rfl⟩
theorem Bd.fresh (B b : Nat) (w : World) (h : w.heap[b]? = some (.cells #[.pointer none, .slice none 0 0] 112 (0, 0))) : Bd B b [] w := Bd.freshT bt_builder B b w h
theorem Bd.new (B : Nat) (w : World) : Bd B w.heap.size [] (w.alloc (.cells #[.pointer none, .slice none 0 0] 112)) :=
  Bd.fresh B _ _ (heap_alloc_new w _)
set_option maxHeartbeats 1000000 in
set_option maxRecDepth 100000 in
theorem bcc_fresh (B b : Nat) (v : Value) (l : List UInt8) (w : World) (h : BdAt B b (.pointer none) v l w) :
    Calls Tryz.prog 86 #[.pointer (some ⟨b, 0, none⟩)] w fun e w' => e = .returned (.tuple #[]) ∧ w' = w.setCell ⟨b, 0, none⟩ (.pointer (some ⟨b, 0, none⟩)) := by
  obtain ⟨T, hT, h⟩ := h
  have h0 : w.cell? ⟨b, 0, none⟩ = some (.pointer none) := by simp [World.cell?, h.1]
  have hsh : w.shape? b = some (T, 2) := by simp [World.shape?, h.1]
  have hfz : w.frozen? ⟨b, 0, none⟩ = false := by simp [World.frozen?, h.1]
  obtain ⟨j, hj, hjs⟩ := Option.map_eq_some_iff.1 (show (Tryz.prog.info? 112).map (·.size) = some 2 by kernel_rfl)
  clear h
  go_enter Tryz.func86, Tryz.ntmps86
  go_wp2
  rw [Lib.run_to_unsafe w ⟨b, 0, none⟩ (t := 112) (by kernel_rfl) (by kernel_rfl) hj (by rw [hjs]; decide) hsh (Nat.zero_lt_succ 1)]
  simp only [Result.andThen]
  rw [Oper.upon_value]
  go_wp2
  rw [run_callFunc_extern Tryz.func107 (by kernel_rfl) (by kernel_rfl) (by kernel_rfl) (e := Extern.AbiNoEscape.same) (by kernel_rfl)]
  rw [Lib.run_noEscape]
  simp only [Result.andThen]
  rw [Oper.upon_value]
  go_wp2
  rw [Lib.run_from_unsafe w ⟨b, 0, none⟩ (u := 112) (by kernel_rfl) (by kernel_rfl) hj hsh hT.2]
  simp only [Result.andThen]
  rw [Oper.upon_value]
  go_wp2
  go_end0
  exact ⟨rfl, rfl⟩
set_option maxHeartbeats 1000000 in
set_option maxRecDepth 100000 in
theorem bcc_used (B b : Nat) (v : Value) (l : List UInt8) (w : World) (h : BdAt B b (.pointer (some ⟨b, 0, none⟩)) v l w) :
    Calls Tryz.prog 86 #[.pointer (some ⟨b, 0, none⟩)] w fun e w' => e = .returned (.tuple #[]) ∧ w' = w := by
  obtain ⟨T, hT, h⟩ := h
  have h0 : w.cell? ⟨b, 0, none⟩ = some (.pointer (some ⟨b, 0, none⟩)) := by simp [World.cell?, h.1]
  obtain ⟨j, hj, _⟩ := Option.map_eq_some_iff.1 (show (Tryz.prog.info? 112).map (·.size) = some 2 by kernel_rfl)
  clear h
  go_enter Tryz.func86, Tryz.ntmps86
  go_wp2
  rw [Lib.run_neq_ptr_same w _ (te := 112) (by kernel_rfl) hj]
  go_wp2
  go_end0
  exact ⟨rfl, rfl⟩
theorem BdAt.used {B b : Nat} {p v : Value} {l : List UInt8} {w : World} (h : BdAt B b p v l w) (q : Value) : BdAt B b q v l (w.setCell ⟨b, 0, none⟩ q) := by
  obtain ⟨T, hT, h1, h2, h3, h4⟩ := h
  refine ⟨T, hT, ?_, ?_, h3, h4⟩
  · simp [World.setCell, Array.getElem?_modify, h1]
  · exact h2.kept (row := some b) ⟨rfl, rfl, rfl, by simp [World.setCell], fun k _ hk => Below.heap_setCell _ _ _ _ (fun e => hk (by simp [e]))⟩ (Or.inr h3)
structure Cf (b : Nat) (w w' : World) : Prop where
  os : w'.os = w.os
  tape : w'.tape = w.tape
  output : w'.output = w.output
  size : w'.heap.size = w.heap.size
  block : ∀ k, k ≠ b → w'.heap[k]? = w.heap[k]?
theorem bcc (B b : Nat) (l : List UInt8) (w : World) (h : Bd B b l w) :
    Calls Tryz.prog 86 #[.pointer (some ⟨b, 0, none⟩)] w fun e w' => e = .returned (.tuple #[]) ∧ (∃ v, BdAt B b (.pointer (some ⟨b, 0, none⟩)) v l w') ∧ Cf b w w' := by
  obtain ⟨p, v, rfl | rfl, h⟩ := h
  · refine (bcc_fresh B b v l w h).mono ?_
    rintro e w' ⟨rfl, rfl⟩
    exact ⟨rfl, ⟨v, h.used _⟩, ⟨rfl, rfl, rfl, by simp [World.setCell], fun k hk => Below.heap_setCell _ _ _ _ (fun e => hk e)⟩⟩
  · refine (bcc_used B b v l w h).mono ?_
    rintro e w' ⟨rfl, rfl⟩
    exact ⟨rfl, ⟨v, h⟩, ⟨rfl, rfl, rfl, rfl, fun _ _ => rfl⟩⟩
theorem BdAt.put {B b : Nat} {p v v' : Value} {l' : List UInt8} {w : World} {T : TypeId} (hT : BT T) (hb : w.heap[b]? = some (.cells #[p, v] T (0, 0))) (hown : w.ownsRowF B 5 1 v' l'.length (Lib.byteCells l')) (h0 : l' = [] → v' = .slice none 0 0) :
    BdAt B b p v' l' (w.setCell ⟨b, 1, none⟩ v') := by
  have hne := Lib.ownBlock_neF hown hb hT.1
  refine ⟨T, hT, ?_, ?_, hne, h0⟩
  · simp [World.setCell, Array.getElem?_modify, hb]
  · exact hown.kept (row := some b) ⟨rfl, rfl, rfl, by simp [World.setCell], fun k _ hk => Below.heap_setCell _ _ _ _ (fun e => hk (by simp [e]))⟩ (Or.inr hne)
theorem Bf.write {B b : Nat} {v v' : Value} {l : List UInt8} {w w1 w1' w2 : World} (hc : Cf b w w1) (hB : B ≤ w.heap.size) (ha : Below w1.heap.size w1 w1') (hown : w1'.ownsRowF B 5 1 v l.length (Lib.byteCells l)) (hg : w1'.grownBy w2 v.ownBlock) :
    Bf B b w (w2.setCell ⟨b, 1, none⟩ v') := by
  have hs := hc.size
  refine ⟨hg.os.trans (ha.os.trans hc.os), hg.tape.trans (ha.tape.trans hc.tape), hg.output.trans (ha.output.trans hc.output), ?_, fun k hk hne => ?_⟩
  · have := ha.size; have := hg.size; simp [World.setCell]; omega
  · have hlt := hown.lt
    rw [show (w2.setCell ⟨b, 1, none⟩ v').heap[k]? = w2.heap[k]? from Below.heap_setCell _ _ _ _ (fun e => hne e), hg.block k (by have := ha.size; omega) (fun e => by have := hlt k e.symm; omega), ha.block k (by omega), hc.block k hne]
theorem info8 : ∃ i, Tryz.prog.info? 5 = some i ∧ i.zero = some (.int .u8 0) ∧ i.size = 1 ∧ i.bytes = 1 := info_parts (by kernel_rfl)
set_option maxHeartbeats 1000000 in
set_option maxRecDepth 100000 in
theorem bString_cons (B b : Nat) (l : List UInt8) (w : World) (h : Bd B b l w) (h0 : l ≠ []) :
    Calls Tryz.prog 68 #[.pointer (some ⟨b, 0, none⟩)] w fun e w' => e = .returned (.string ⟨l.toArray⟩) ∧ Bf B b w w' := by
  obtain ⟨p, v, hp, T, hT, hbk, hown, hne, _⟩ := h
  have hl0 : l.length ≠ 0 := by simpa using h0
  obtain ⟨g, cap, cur, fz, rfl, hbg, hg, hfz, hnc, hcm, hcs, htake⟩ : ∃ g cap cur fz, v = .slice (some ⟨g, 0, none⟩) l.length cap ∧ B ≤ g ∧ w.heap[g]? = some (.cells cur 5 fz) ∧ fz.2 ≤ l.length * 1 ∧ l.length ≤ cap ∧ cap ≤ maxLen ∧ cur.size = cap * 1 ∧ cur.toList.take (l.length * 1) = Lib.byteCells l := by
    rcases hown.2 with ⟨_, hz⟩ | ⟨g, cap, cur, fz, hv, r⟩
    · exact absurd hz hl0
    · exact ⟨g, cap, cur, fz, hv, r⟩
  have c1 : w.drew.cell? ⟨b, 1, none⟩ = some (.slice (some ⟨g, 0, none⟩) l.length cap) := by
    have : w.drew.heap[b]? = some (.cells #[p, .slice (some ⟨g, 0, none⟩) l.length cap] T (0, 0)) := hbk
    rw [Lib.cell_of_heap this]; rfl
  have hSD : (Builtin.unsafeSliceData_ #[80] 137 #[.slice (some ⟨g, 0, none⟩) l.length cap]).run Tryz.prog w.drew = .ok (.pointer (some ⟨g, 0, none⟩)) w.drew :=
    Lib.run_unsafeSliceData_row _ _ _ _ _ _ (by omega)
  have hUS : (Builtin.unsafeString_ #[137, 3] 9 #[.pointer (some ⟨g, 0, none⟩), .int .i64 l.length]).run Tryz.prog w.drew = .ok (.string ⟨l.toArray⟩) (w.drew.freeze ⟨g, 0, none⟩ l.length) := by
    refine Lib.run_unsafeString_row w.drew 137 3 9 5 (by kernel_rfl) (by kernel_rfl) g cur.size (by have hg' : w.drew.heap[g]? = some (.cells cur 5 fz) := hg; simp [World.shape?, hg']) l h0 (by omega) (by unfold maxLen at hcm; omega) ?_
    intro j x hx
    have := hown.cells (g := g) rfl j (.int .u8 x.toNat) (by simp [Lib.byteCells, hx])
    exact this
  have hfin : Bf B b w (w.drew.freeze ⟨g, 0, none⟩ l.length) := by
    have := Lib.below_freeze (Below.drew (Below.refl B w)) (p := ⟨g, 0, none⟩) hbg l.length
    exact ⟨this.os, this.tape, this.output, this.size, fun k hk _ => this.block k hk⟩
  have HF := Lib.hid hfin
  have mixed : Tryz.prog.follows Departure.mixedOrders = true := by kernel_rfl
  clear hfin hown hp hbk
  go_enter Tryz.func68, Tryz.ntmps68
  go_wp2
  go_region_o
  all_goals (go_wp2; go_ret; exact ⟨rfl, HF.out⟩)
set_option maxHeartbeats 1000000 in
set_option maxRecDepth 100000 in
theorem bString_nil (B b : Nat) (w : World) (h : Bd B b [] w) :
    Calls Tryz.prog 68 #[.pointer (some ⟨b, 0, none⟩)] w fun e w' => e = .returned (.string ⟨#[]⟩) ∧ Bf B b w w' := by
  obtain ⟨p, v, hp, T, hT, hbk, hown, hne, hv⟩ := h
  obtain rfl := hv rfl
  have hUS : ∀ W, (Builtin.unsafeString_ #[137, 3] 9 #[.pointer none, .int .i64 0]).run Tryz.prog W = .ok (.string .empty) W := fun W => Lib.run_unsafeString_none W _ _ _ none
  have c1 : w.drew.cell? ⟨b, 1, none⟩ = some (.slice none 0 0) := by
    have : w.drew.heap[b]? = some (.cells #[p, .slice none 0 0] T (0, 0)) := hbk
    rw [Lib.cell_of_heap this]; rfl
  have hSD : ∀ W, (Builtin.unsafeSliceData_ #[80] 137 #[.slice none 0 0]).run Tryz.prog W = .ok (.pointer none) W := fun _ => rfl
  have hfin : Bf B b w w.drew := by
    have := Below.drew (Below.refl B w)
    exact ⟨this.os, this.tape, this.output, this.size, fun k hk _ => this.block k hk⟩
  have HF := Lib.hid hfin
  have mixed : Tryz.prog.follows Departure.mixedOrders = true := by kernel_rfl
  clear hfin hown hp hbk hv
  go_enter Tryz.func68, Tryz.ntmps68
  go_wp2
  go_region_o
  all_goals (go_wp2; go_ret; exact ⟨rfl, HF.out⟩)
theorem bString (B b : Nat) (l : List UInt8) (w : World) (h : Bd B b l w) :
    Calls Tryz.prog 68 #[.pointer (some ⟨b, 0, none⟩)] w fun e w' => e = .returned (.string ⟨l.toArray⟩) ∧ Bf B b w w' := by
  cases l with
  | nil => exact bString_nil B b w h
  | cons x r => exact bString_cons B b (x :: r) w h (by simp)
end Go.Proofs.YtdcfonmjbelgbaaGreatDoor
end
section
namespace Go.Proofs.YtdcfonmjbelgbaaGreatDoor
open Go.RowKit
theorem strCells_bytes (m : List UInt8) : Lib.strCells (⟨m.toArray⟩ : ByteArray) = Lib.byteCells m := by
  simp [Lib.strCells, Lib.byteCells]
def Keeps (b : Nat) (w w' : World) : Prop := ∀ k c T f, w.heap[k]? = some (.cells c T f) → T ≠ 5 → k ≠ b → w'.heap[k]? = w.heap[k]?
theorem Keeps.refl (b : Nat) (w : World) : Keeps b w w := fun _ _ _ _ _ _ _ => rfl
theorem Keeps.trans {b : Nat} {w w1 w2 : World} (h : Keeps b w w1) (k : Keeps b w1 w2) : Keeps b w w2 := fun i c T f hi hT hne => (k i c T f ((h i c T f hi hT hne).trans hi) hT hne).trans (h i c T f hi hT hne)
set_option maxHeartbeats 2000000 in
set_option maxRecDepth 100000 in
theorem bWriteStringK (B b : Nat) (l m : List UInt8) (w : World) (h : Bd B b l w) (hm0 : m ≠ []) (hlen : l.length + m.length ≤ 140737488355328) (hB : B ≤ w.heap.size) :
    Calls Tryz.prog 66 #[.pointer (some ⟨b, 0, none⟩), .string ⟨m.toArray⟩] w fun e w' => e = .returned (.tuple #[.int .i64 m.length, .nilIface]) ∧ Bd B b (l ++ m) w' ∧ Bf B b w w' ∧ Keeps b w w' := by
  obtain ⟨i0, hi, hz0, hz1, hz2⟩ := info8
  have hsz : (⟨m.toArray⟩ : ByteArray).size = m.length := by
    show m.toArray.size = m.length
    exact List.size_toArray
  have HH := Lib.hid h
  have HL := Lib.hid hlen
  have HB := Lib.hid hB
  have H0 := Lib.hid hm0
  have HSC := Lib.hid (strCells_bytes m)
  clear h hlen hB hm0
  generalize (⟨m.toArray⟩ : ByteArray) = ms at *
  go_enter Tryz.func66, Tryz.ntmps66
  go_wp2_with (go_at_call 86; refine (bcc B b l _ HH.out).mono ?_)
  rintro e w1 ⟨rfl, ⟨v, hA⟩, hcf⟩
  obtain ⟨T, hT, hbk, hown, hne, h00⟩ := hA
  have HA : Hid (BdAt B b (.pointer (some ⟨b, 0, none⟩)) v l w1) := Lib.hid ⟨T, hT, hbk, hown, hne, h00⟩
  have HCF := Lib.hid hcf
  clear hcf h00
  have c0 : w1.cell? ⟨b, 0, none⟩ = some (.pointer (some ⟨b, 0, none⟩)) := by rw [Lib.cell_of_heap hbk]; rfl
  have c1 : w1.cell? ⟨b, 1, none⟩ = some v := by rw [Lib.cell_of_heap hbk]; rfl
  go_wp2_with (at_builtin; refine Lib.wpList_append_own_stringF _ rfl _ _ 80 9 rfl B 5 i0 (by kernel_rfl) (by kernel_rfl) hi hz0 hz1 hz2 _ _ _ rfl hown ms rfl ?c1 ?c2 ?c3 ?_)
  case c1 => have := HL.out; rw [hsz]; unfold maxLen; omega
  case c2 => have := HL.out; rw [hsz]; omega
  case c3 => have := HB.out; have := HCF.out.size; omega
  intro v' w2 hown' hgrow hv'
  have hlt : b < w1.heap.size := (Array.getElem?_eq_some_iff.1 hbk).1
  have hb2 : w2.heap[b]? = some (.cells #[.pointer (some ⟨b, 0, none⟩), v] T (0, 0)) := by
    rw [hgrow.block b hlt (fun e => hne e.symm)]
    exact hbk
  have d0 : w2.cell? ⟨b, 0, none⟩ = some (.pointer (some ⟨b, 0, none⟩)) := by rw [Lib.cell_of_heap hb2]; rfl
  have d1 : w2.cell? ⟨b, 1, none⟩ = some v := by rw [Lib.cell_of_heap hb2]; rfl
  have f1 : w2.frozen? ⟨b, 1, none⟩ = false := Lib.frozen_of_heap hb2 1
  have hcs : Lib.byteCells (l ++ m) = Lib.byteCells l ++ Lib.strCells ms := by rw [Lib.byteCells_append, HSC.out]
  have HP : Hid (BdAt B b (.pointer (some ⟨b, 0, none⟩)) v' (l ++ m) (w2.setCell ⟨b, 1, none⟩ v')) := Lib.hid (BdAt.put hT hb2 (by rw [List.length_append, hcs]; exact hown') (fun h => absurd (List.append_eq_nil_iff.1 h).2 H0.out))
  have HQ : Hid (Bf B b w (w2.setCell ⟨b, 1, none⟩ v')) := Lib.hid (Bf.write (l := l) HCF.out HB.out (Below.refl _ _) hown hgrow)
  have HKE : Hid (Keeps b w (w2.setCell ⟨b, 1, none⟩ v')) := Lib.hid (fun k c T2 f hk hT2 hkb => by
    have h1 : w1.heap[k]? = w.heap[k]? := HCF.out.block k hkb
    have hkl : k < w1.heap.size := (Array.getElem?_eq_some_iff.1 (h1.trans hk)).1
    have h2 : w2.heap[k]? = w1.heap[k]? := hgrow.block k hkl (fun e => by
      obtain ⟨c2, f2, h3⟩ := Lib.ownsRowF_kind hown k e.symm
      rw [h1.trans hk] at h3
      exact hT2 (by injection h3 with h3; injection h3))
    exact (Below.heap_setCell _ _ _ _ (fun e => hkb e)).trans (h2.trans h1))
  obtain ⟨g, cap, rfl⟩ : ∃ g cap, v' = .slice (some ⟨g, 0, none⟩) (l.length + m.length) cap := by
    rcases hown'.2 with ⟨_, h0⟩ | ⟨g, cap, cur, fz, hv, _⟩
    · have := H0.out
      have : m.length ≠ 0 := by simpa using this
      omega
    · exact ⟨g, cap, hv⟩
  clear hv' hgrow hown' hown hbk hb2 hcs
  go_wp2
  go_ret2
  exact ⟨rfl, ⟨_, _, .inr rfl, HP.out⟩, HQ.out, HKE.out⟩
theorem bWriteString (B b : Nat) (l m : List UInt8) (w : World) (h : Bd B b l w) (hm0 : m ≠ []) (hlen : l.length + m.length ≤ 140737488355328) (hB : B ≤ w.heap.size) :
    Calls Tryz.prog 66 #[.pointer (some ⟨b, 0, none⟩), .string ⟨m.toArray⟩] w fun e w' => e = .returned (.tuple #[.int .i64 m.length, .nilIface]) ∧ Bd B b (l ++ m) w' ∧ Bf B b w w' := by
  refine (bWriteStringK B b l m w h hm0 hlen hB).mono ?_
  rintro e w' ⟨h1, h2, h3, _⟩
  exact ⟨h1, h2, h3⟩
end Go.Proofs.YtdcfonmjbelgbaaGreatDoor
end
section
namespace Go.Proofs.YtdcfonmjbelgbaaGreatDoor
open Go.RowKit Q Go.Proofs.YtdcfonmjbelgbaaGreatDoorW.PrintWords Go.Proofs.YtdcfonmjbelgbaaGreatDoorW.PrintLast Go.Proofs.YtdcfonmjbelgbaaGreatDoorW.PrintMore
set_option maxRecDepth 100000 in
set_option maxHeartbeats 400000 in
theorem numbers_calls (g c : Nat) (l : List Nat) (n : Nat) (hn : n ≤ 100) (_hl : l.length = n) (hb : ∀ k, l.getD k 0 < 2 ^ 56) (w : World) (hg : g < w.heap.size) (hc : ∀ j, j < n → w.cell? ⟨g, j, none⟩ = some (.int .i64 (l.getD j 0 : Nat))) :
    Calls Tryz.prog 46 #[.slice (some ⟨g, 0, none⟩) n c] w fun e w' => e = .returned (.string (B (encK l n))) ∧ Below w.heap.size w w' := by
  have HC := Lib.hid hc
  have HG := Lib.hid hg
  have HB := Lib.hid hb
  have HL := Lib.hid (encK_len l hb)
  clear hc hg hb _hl
  go_enter Tryz.func46, Tryz.ntmps46
  go_wp2_with fail
  have HD0 : Aside0 (Bd (w.heap.size + 1) w.heap.size [] (w.alloc (.cells #[.pointer none, .slice none 0 0] 112))) := ⟨Bd.new _ w⟩
  have HF0 : Aside0 (Bf (w.heap.size + 1) w.heap.size (w.alloc (.cells #[.pointer none, .slice none 0 0] 112)) (w.alloc (.cells #[.pointer none, .slice none 0 0] 112))) := ⟨Bf.refl _ _ _⟩
  have HS0 : Aside0 ((w.alloc (.cells #[.pointer none, .slice none 0 0] 112)).heap.size = w.heap.size + 1) := ⟨by simp⟩
  have HB0 : Aside0 (Below w.heap.size w (w.alloc (.cells #[.pointer none, .slice none 0 0] 112))) := ⟨(Below.refl _ _).alloc (Nat.le_refl _) _⟩
  generalize w.alloc (.cells #[.pointer none, .slice none 0 0] 112) = w2 at *
  go_loopw [8] (fun i wr => ∃ k : Nat, k ≤ n ∧ i = .int .i64 k ∧ Aside0 (Bd (w.heap.size + 1) w.heap.size (encK l k) wr) ∧ Aside0 (Bf (w.heap.size + 1) w.heap.size w2 wr)) (fun i _ => n - (intOf i).toNat)
  case atStart => exact ⟨0, by omega, rfl, HD0, HF0⟩
  case round =>
    clear HD0 HF0
    obtain ⟨k, hk, rfl, HD0, HF0⟩ := hrel
    by_cases hlt : k < n
    · have hcw := HF0.out.cell (a := ⟨g, k, none⟩) ((HB0.out.cell HG.out).trans (HC.out k hlt)) (by have := HG.out; show g < w.heap.size + 1; omega) (by have := HG.out; show g ≠ w.heap.size; omega)
      have hE : Hid (encK l (k + 1) = encK l k ++ enc (l.getD k 0)) := Lib.hid rfl
      have hx := Lib.hid (HB.out k)
      have hlen := HL.out k
      generalize l.getD k 0 = x at *
      have hbs : w.heap.size + 1 ≤ wr.heap.size := by have := HS0.out; have := HF0.out.size; omega
      have hne := enc_ne x
      have hl8 := enc_len8 hx.out
      have HNE := Lib.hid hne
      clear hne
      go_wp2_with fail
      refine Calls.mono (number_B x hx.out wr) ?_
      rintro e w3 ⟨rfl, b3⟩
      have HD0 := Aside0.mk (HD0.out.keep b3)
      have HF0 := Aside0.mk (HF0.out.trans (Bf.of_below b3 hbs))
      have hbs3 := Nat.le_trans hbs b3.size
      clear b3 hcw
      go_wp2_with fail
      refine Calls.mono (bWriteString (w.heap.size + 1) w.heap.size (encK l k) (enc x) w3 HD0.out HNE.out (by omega) hbs3) ?_
      rintro e w4 ⟨rfl, hD4, hF4⟩
      rw [← hE.out] at hD4
      have HD0 := Aside0.mk hD4
      have HF0 := Aside0.mk (HF0.out.trans hF4)
      clear hD4 hF4
      go_wp2_with fail
      go_roundw
      case rel => exact ⟨k + 1, by omega, by go_num, HD0, HF0⟩
      case measure => simp [intOf]; omega
    · obtain rfl : k = n := by omega
      go_wp2_with fail
      refine Calls.mono (bString (w.heap.size + 1) w.heap.size (encK l k) wr HD0.out) ?_
      rintro e w3 ⟨rfl, hF3⟩
      go_wp2_with fail
      go_ret
      exact ⟨rfl, HB0.out.trans ((HF0.out.trans hF3).below (by omega) (Nat.le_refl _))⟩
end Go.Proofs.YtdcfonmjbelgbaaGreatDoor
end
section
namespace Go.Proofs.YtdcfonmjbelgbaaGreatDoor
open Go.RowKit
def chk (v g i d s : Int) (n : Nat) : Int :=
  if 0 ≤ v ∧ v ≤ 1099511627776 ∧ 0 ≤ g ∧ g ≤ 1099511627776 ∧ 0 ≤ i ∧ i ≤ 8 ∧ 0 ≤ d ∧ d ≤ 11 ∧ 0 ≤ s ∧ s ≤ 47 then (if n ≤ 64 then 0 else 12) else 1
set_option maxRecDepth 100000 in
theorem in_t (n m : Int) (w : World) (h : 0 ≤ n ∧ n ≤ m) : Calls Tryz.prog 63 #[.int .i64 n, .int .i64 m] w fun e w' => e = .returned (.bool true) ∧ w = w' := by
  obtain ⟨h0, h1⟩ := h
  go_enter Tryz.func63, Tryz.ntmps63
  go_wp2
  go_ret
  exact ⟨rfl, rfl⟩
set_option maxRecDepth 100000 in
theorem in_f (n m : Int) (w : World) (h : n < 0 ∨ m < n) : Calls Tryz.prog 63 #[.int .i64 n, .int .i64 m] w fun e w' => e = .returned (.bool false) ∧ w = w' := by
  rcases (by omega : n < 0 ∨ 0 ≤ n) with h1 | h1
  · go_enter Tryz.func63, Tryz.ntmps63
    go_wp2
    go_ret
    exact ⟨rfl, rfl⟩
  · have h2 : ¬ n ≤ m := by omega
    have h3 : decide (n ≤ m) = false := by simp [h2]
    clear h
    go_enter Tryz.func63, Tryz.ntmps63
    go_wp2
    go_ret
    exact ⟨rfl, rfl⟩
theorem ret_i (k : IntKind) {a b : Int} (h : a = b) : Ending.returned (.int k a) = .returned (.int k b) := by rw [h]
set_option maxRecDepth 100000 in
set_option maxHeartbeats 1000000 in
theorem right_calls (v g i d s : Int) (t : ByteArray) (w : World) : Calls Tryz.prog 44 #[.agg #[.int .i64 v, .int .i64 g, .int .i64 i, .int .i64 d, .int .i64 s, .string t]] w fun e w' => e = .returned (.int .i64 (chk v g i d s t.size)) ∧ Below w.heap.size w w' := by
  have hu25 := Tryz.underlying61
  have hu23 := Tryz.underlying59
  have hb : Below w.heap.size w (w.alloc (.cells #[.int .i64 v, .int .i64 g, .int .i64 i, .int .i64 d, .int .i64 s, .string t] 61)) := (Below.refl _ _).alloc (Nat.le_refl _) _
  have HB := Lib.hid hb
  clear hb
  have hcases : (v < 0 ∨ 1099511627776 < v) ∨ ((0 ≤ v ∧ v ≤ 1099511627776) ∧ (g < 0 ∨ 1099511627776 < g)) ∨ ((0 ≤ v ∧ v ≤ 1099511627776) ∧ (0 ≤ g ∧ g ≤ 1099511627776) ∧ (i < 0 ∨ 8 < i)) ∨ ((0 ≤ v ∧ v ≤ 1099511627776) ∧ (0 ≤ g ∧ g ≤ 1099511627776) ∧ (0 ≤ i ∧ i ≤ 8) ∧ (d < 0 ∨ 11 < d)) ∨ ((0 ≤ v ∧ v ≤ 1099511627776) ∧ (0 ≤ g ∧ g ≤ 1099511627776) ∧ (0 ≤ i ∧ i ≤ 8) ∧ (0 ≤ d ∧ d ≤ 11) ∧ (s < 0 ∨ 47 < s)) ∨ ((0 ≤ v ∧ v ≤ 1099511627776) ∧ (0 ≤ g ∧ g ≤ 1099511627776) ∧ (0 ≤ i ∧ i ≤ 8) ∧ (0 ≤ d ∧ d ≤ 11) ∧ (0 ≤ s ∧ s ≤ 47)) := by omega
  rcases hcases with h1 | ⟨h1, h2⟩ | ⟨h1, h2, h3⟩ | ⟨h1, h2, h3, h4⟩ | ⟨h1, h2, h3, h4, h5⟩ | ⟨h1, h2, h3, h4, h5⟩
  · have hc : chk v g i d s t.size = 1 := if_neg (by omega)
    have H1 := Lib.hid h1
    clear h1
    go_enter Tryz.func44, Tryz.ntmps44
    go_wp2_with fail
    refine (in_f _ _ _ H1.out).mono ?_
    rintro e w1 ⟨rfl, rfl⟩
    go_wp2_with fail
    go_ret
    exact ⟨ret_i _ hc.symm, HB.out⟩
  · have hc : chk v g i d s t.size = 1 := if_neg (by omega)
    have H1 := Lib.hid h1
    have H2 := Lib.hid h2
    clear h1 h2
    go_enter Tryz.func44, Tryz.ntmps44
    go_wp2_with fail
    refine (in_t _ _ _ H1.out).mono ?_
    rintro e w1 ⟨rfl, rfl⟩
    go_wp2_with fail
    refine (in_f _ _ _ H2.out).mono ?_
    rintro e w1 ⟨rfl, rfl⟩
    go_wp2_with fail
    go_ret
    exact ⟨ret_i _ hc.symm, HB.out⟩
  · have hc : chk v g i d s t.size = 1 := if_neg (by omega)
    have H1 := Lib.hid h1
    have H2 := Lib.hid h2
    have H3 := Lib.hid h3
    clear h1 h2 h3
    go_enter Tryz.func44, Tryz.ntmps44
    go_wp2_with fail
    refine (in_t _ _ _ H1.out).mono ?_
    rintro e w1 ⟨rfl, rfl⟩
    go_wp2_with fail
    refine (in_t _ _ _ H2.out).mono ?_
    rintro e w1 ⟨rfl, rfl⟩
    go_wp2_with fail
    refine (in_f _ _ _ H3.out).mono ?_
    rintro e w1 ⟨rfl, rfl⟩
    go_wp2_with fail
    go_ret
    exact ⟨ret_i _ hc.symm, HB.out⟩
  · have hc : chk v g i d s t.size = 1 := if_neg (by omega)
    have H1 := Lib.hid h1
    have H2 := Lib.hid h2
    have H3 := Lib.hid h3
    have H4 := Lib.hid h4
    clear h1 h2 h3 h4
    go_enter Tryz.func44, Tryz.ntmps44
    go_wp2_with fail
    refine (in_t _ _ _ H1.out).mono ?_
    rintro e w1 ⟨rfl, rfl⟩
    go_wp2_with fail
    refine (in_t _ _ _ H2.out).mono ?_
    rintro e w1 ⟨rfl, rfl⟩
    go_wp2_with fail
    refine (in_t _ _ _ H3.out).mono ?_
    rintro e w1 ⟨rfl, rfl⟩
    go_wp2_with fail
    refine (in_f _ _ _ H4.out).mono ?_
    rintro e w1 ⟨rfl, rfl⟩
    go_wp2_with fail
    go_ret
    exact ⟨ret_i _ hc.symm, HB.out⟩
  · have hc : chk v g i d s t.size = 1 := if_neg (by omega)
    have H1 := Lib.hid h1
    have H2 := Lib.hid h2
    have H3 := Lib.hid h3
    have H4 := Lib.hid h4
    have H5 := Lib.hid h5
    clear h1 h2 h3 h4 h5
    go_enter Tryz.func44, Tryz.ntmps44
    go_wp2_with fail
    refine (in_t _ _ _ H1.out).mono ?_
    rintro e w1 ⟨rfl, rfl⟩
    go_wp2_with fail
    refine (in_t _ _ _ H2.out).mono ?_
    rintro e w1 ⟨rfl, rfl⟩
    go_wp2_with fail
    refine (in_t _ _ _ H3.out).mono ?_
    rintro e w1 ⟨rfl, rfl⟩
    go_wp2_with fail
    refine (in_t _ _ _ H4.out).mono ?_
    rintro e w1 ⟨rfl, rfl⟩
    go_wp2_with fail
    refine (in_f _ _ _ H5.out).mono ?_
    rintro e w1 ⟨rfl, rfl⟩
    go_wp2_with fail
    go_ret
    exact ⟨ret_i _ hc.symm, HB.out⟩
  · have hc : chk v g i d s t.size = if t.size ≤ 64 then 0 else 12 := if_pos (by omega)
    have H1 := Lib.hid h1
    have H2 := Lib.hid h2
    have H3 := Lib.hid h3
    have H4 := Lib.hid h4
    have H5 := Lib.hid h5
    clear h1 h2 h3 h4 h5
    by_cases h : t.size ≤ 64
    · rw [if_pos h] at hc
      have hc := Lib.hid hc
      go_enter Tryz.func44, Tryz.ntmps44
      go_wp2_with fail
      refine (in_t _ _ _ H1.out).mono ?_
      rintro e w1 ⟨rfl, rfl⟩
      go_wp2_with fail
      refine (in_t _ _ _ H2.out).mono ?_
      rintro e w1 ⟨rfl, rfl⟩
      go_wp2_with fail
      refine (in_t _ _ _ H3.out).mono ?_
      rintro e w1 ⟨rfl, rfl⟩
      go_wp2_with fail
      refine (in_t _ _ _ H4.out).mono ?_
      rintro e w1 ⟨rfl, rfl⟩
      go_wp2_with fail
      refine (in_t _ _ _ H5.out).mono ?_
      rintro e w1 ⟨rfl, rfl⟩
      go_wp2_with fail
      go_ret
      exact ⟨ret_i _ hc.out.symm, HB.out⟩
    · rw [if_neg h] at hc
      have hc := Lib.hid hc
      go_enter Tryz.func44, Tryz.ntmps44
      go_wp2_with fail
      refine (in_t _ _ _ H1.out).mono ?_
      rintro e w1 ⟨rfl, rfl⟩
      go_wp2_with fail
      refine (in_t _ _ _ H2.out).mono ?_
      rintro e w1 ⟨rfl, rfl⟩
      go_wp2_with fail
      refine (in_t _ _ _ H3.out).mono ?_
      rintro e w1 ⟨rfl, rfl⟩
      go_wp2_with fail
      refine (in_t _ _ _ H4.out).mono ?_
      rintro e w1 ⟨rfl, rfl⟩
      go_wp2_with fail
      refine (in_t _ _ _ H5.out).mono ?_
      rintro e w1 ⟨rfl, rfl⟩
      go_wp2_with fail
      go_ret
      exact ⟨ret_i _ hc.out.symm, HB.out⟩
end Go.Proofs.YtdcfonmjbelgbaaGreatDoor
end
section
namespace Go.Proofs.YtdcfonmjbelgbaaGreatDoor
open Go.RowKit
def S (v : BitVec 32) : BitVec 32 := (v >>> 1) ^^^ (if v.getLsbD 0 then 0x82F63B78#32 else 0#32)
def Sn : Nat → BitVec 32 → BitVec 32
  | 0, v => v
  | k + 1, v => S (Sn k v)
theorem S_xor (a b : BitVec 32) : S (a ^^^ b) = S a ^^^ S b := by
  unfold S
  rw [BitVec.ushiftRight_xor_distrib, BitVec.getLsbD_xor]
  cases a.getLsbD 0 <;> cases b.getLsbD 0 <;> simp
  · rw [BitVec.xor_assoc]
  · rw [BitVec.xor_assoc, BitVec.xor_assoc, BitVec.xor_comm (b >>> 1)]
  · rw [BitVec.xor_assoc, BitVec.xor_comm _ (b >>> 1 ^^^ _), BitVec.xor_assoc, BitVec.xor_self, BitVec.xor_zero]
theorem Sn_xor (k : Nat) (a b : BitVec 32) : Sn k (a ^^^ b) = Sn k a ^^^ Sn k b := by
  induction k with
  | zero => rfl
  | succ k ih => simp only [Sn]; rw [ih, S_xor]
theorem Sn_shift (k : Nat) (v : BitVec 32) (h : ∀ i, i < k → v.getLsbD i = false) : Sn k v = v >>> k := by
  induction k with
  | zero => simp [Sn]
  | succ k ih =>
    simp only [Sn]
    rw [ih (fun i hi => h i (by omega))]
    unfold S
    have : (v >>> k).getLsbD 0 = false := by rw [BitVec.getLsbD_ushiftRight]; exact h k (by omega)
    rw [this]
    simp [BitVec.shiftRight_add]
theorem Sn_shl (k : Nat) (v : BitVec 32) (h : v.toNat * 2 ^ k < 2 ^ 32) : Sn k (v <<< k) = v := by
  rw [Sn_shift k _ (fun i hi => by rw [BitVec.getLsbD_shiftLeft]; simp [hi])]
  apply BitVec.eq_of_toNat_eq
  rw [BitVec.toNat_ushiftRight, BitVec.toNat_shiftLeft, Nat.shiftLeft_eq, Nat.mod_eq_of_lt h, Nat.shiftRight_eq_div_pow, Nat.mul_div_cancel _ (Nat.two_pow_pos k)]
def c32 (c : UInt8) : BitVec 32 := BitVec.ofNat 32 c.toNat
def stepB (x : BitVec 32) (c : UInt8) : BitVec 32 := Sn 8 (x ^^^ c32 c)
def reg (x : BitVec 32) (l : List UInt8) : BitVec 32 := l.foldl stepB x
def crc (l : List UInt8) : BitVec 32 := ~~~ reg 0xFFFFFFFF#32 l
theorem reg_append (x : BitVec 32) (a b : List UInt8) : reg x (a ++ b) = reg (reg x a) b := by simp [reg]
def w4 (v : BitVec 32) : List UInt8 := [UInt8.ofNat (v.toNat % 256), UInt8.ofNat (v.toNat / 256 % 256), UInt8.ofNat (v.toNat / 65536 % 256), UInt8.ofNat (v.toNat / 16777216 % 256)]
theorem w4_len (v : BitVec 32) : (w4 v).length = 4 := rfl
end Go.Proofs.YtdcfonmjbelgbaaGreatDoor
end
section
namespace Go.Proofs.YtdcfonmjbelgbaaGreatDoor
open Go.RowKit
theorem ofInt_toNat {n : Nat} (v : BitVec n) : BitVec.ofInt n (v.toNat : Int) = v := by
  rw [BitVec.ofInt_natCast, BitVec.ofNat_toNat, BitVec.setWidth_eq]
theorem wrap_u32_nat (n : Nat) (h : n < 4294967296) : IntKind.u32.wrap (n : Int) = n := by rw [IntKind.wrap_u32]; omega
theorem bits_xor32 (a b : BitVec 32) : Go.bits .xor .u32 (a.toNat : Int) (b.toNat : Int) = ((a ^^^ b).toNat : Int) := by
  show IntKind.u32.wrap ((BitVec.ofInt 32 (a.toNat : Int) ^^^ BitVec.ofInt 32 (b.toNat : Int)).toNat : Int) = _
  rw [ofInt_toNat, ofInt_toNat]
  exact wrap_u32_nat _ (a ^^^ b).isLt
theorem bits_and32 (a b : BitVec 32) : Go.bits .and .u32 (a.toNat : Int) (b.toNat : Int) = ((a &&& b).toNat : Int) := by
  show IntKind.u32.wrap ((BitVec.ofInt 32 (a.toNat : Int) &&& BitVec.ofInt 32 (b.toNat : Int)).toNat : Int) = _
  rw [ofInt_toNat, ofInt_toNat]
  exact wrap_u32_nat _ (a &&& b).isLt
theorem bits_xor8 (a b : BitVec 8) : Go.bits .xor .u8 (a.toNat : Int) (b.toNat : Int) = ((a ^^^ b).toNat : Int) := by
  show IntKind.u8.wrap ((BitVec.ofInt 8 (a.toNat : Int) ^^^ BitVec.ofInt 8 (b.toNat : Int)).toNat : Int) = _
  rw [ofInt_toNat, ofInt_toNat, IntKind.wrap_u8]
  have := (a ^^^ b).isLt
  omega
theorem half_toNat (v : BitVec 32) : (v.toNat : Int) / (2 : Int) = ((v >>> 1).toNat : Int) := by
  rw [BitVec.toNat_ushiftRight, Nat.shiftRight_eq_div_pow]; omega
theorem lsb_toNat (v : BitVec 32) : v.toNat % 2 = if v.getLsbD 0 then 1 else 0 := by
  have : v.getLsbD 0 = decide (v.toNat % 2 = 1) := by
    rw [← BitVec.testBit_toNat, Nat.testBit_zero]
  rw [this]
  by_cases h : v.toNat % 2 = 1
  · simp [h]
  · simp [h]; omega
theorem crcR_eq (v : BitVec 32) : crcR (v.toNat : Int) = ((S v).toNat : Int) := by
  unfold crcR S
  have e1 : Go.bits .and .u32 (v.toNat : Int) 1 = ((v &&& 1#32).toNat : Int) := bits_and32 v 1#32
  have e2 : (v &&& 1#32).toNat = if v.getLsbD 0 then 1 else 0 := by
    rw [BitVec.toNat_and]
    show v.toNat &&& 1 = _
    rw [Nat.and_one_is_mod, lsb_toNat]
  rw [e1, e2, half_toNat]
  cases v.getLsbD 0
  · exact bits_xor32 (v >>> 1) 0#32
  · exact bits_xor32 (v >>> 1) 0x82F63B78#32
theorem crcN_eq (k : Nat) (v : BitVec 32) : crcN k (v.toNat : Int) = ((Sn k v).toNat : Int) := by
  induction k with
  | zero => rfl
  | succ k ih => rw [crcN, ih, crcR_eq]; rfl
theorem shr8_parts (x : BitVec 32) : x = BitVec.ofNat 32 (x.toNat % 256) ^^^ (BitVec.ofNat 32 (x.toNat / 256) <<< 8) := by
  apply BitVec.eq_of_getLsbD_eq
  intro i hi
  simp only [BitVec.getLsbD_xor, BitVec.getLsbD_shiftLeft, BitVec.getLsbD_ofNat]
  have e1 : x.toNat % 256 = x.toNat % 2 ^ 8 := rfl
  have e2 : x.toNat / 256 = x.toNat / 2 ^ 8 := rfl
  rw [e1, e2]
  simp only [Nat.testBit_mod_two_pow, Nat.testBit_div_two_pow]
  rw [← BitVec.testBit_toNat]
  by_cases h1 : i < 8
  · simp [h1, hi]
  · simp [h1, hi, show i - 8 < 32 by omega, show i - 8 + 8 = i by omega]
theorem crcB_eq (x : BitVec 32) (c : UInt8) : crcB (x.toNat : Int) (c.toNat : Int) = ((stepB x c).toNat : Int) := by
  unfold crcB stepB
  have hx := x.isLt
  have hc := c.toNat_lt
  have e1 : Go.bits .xor .u8 ((x.toNat : Int) % 256) (c.toNat : Int) = ((BitVec.ofNat 32 (x.toNat % 256) ^^^ c32 c).toNat : Int) := by
    have h := bits_xor8 (BitVec.ofNat 8 (x.toNat % 256)) (BitVec.ofNat 8 c.toNat)
    simp only [BitVec.toNat_ofNat, BitVec.toNat_xor] at h
    rw [Nat.mod_eq_of_lt (a := x.toNat % 256) (by omega), Nat.mod_eq_of_lt (a := c.toNat) (by omega)] at h
    have e : ((x.toNat % 256 : Nat) : Int) = (x.toNat : Int) % 256 := by omega
    rw [← e, h]
    unfold c32
    simp only [BitVec.toNat_ofNat, BitVec.toNat_xor]
    rw [Nat.mod_eq_of_lt (a := x.toNat % 256) (b := 2 ^ 32) (by omega), Nat.mod_eq_of_lt (a := c.toNat) (b := 2 ^ 32) (by omega)]
  have e2 : (x.toNat : Int) / 256 = ((BitVec.ofNat 32 (x.toNat / 256)).toNat : Int) := by
    rw [BitVec.toNat_ofNat, Nat.mod_eq_of_lt (by omega)]; omega
  rw [e1, e2, crcN_eq, bits_xor32]
  congr 2
  conv => rhs; rw [shr8_parts x]
  have e3 : BitVec.ofNat 32 (x.toNat / 256) = Sn 8 (BitVec.ofNat 32 (x.toNat / 256) <<< 8) := (Sn_shl 8 _ (by rw [BitVec.toNat_ofNat, Nat.mod_eq_of_lt (by omega)]; omega)).symm
  conv => lhs; rw [e3]
  rw [← Sn_xor]
  congr 1
  rw [BitVec.xor_assoc, BitVec.xor_comm (c32 c), BitVec.xor_assoc]
theorem take_succ_getD (l : List UInt8) (k : Nat) (h : k < l.length) : l.take (k + 1) = l.take k ++ [l.getD k 0] := by
  rw [List.take_succ_eq_append_getElem h, List.getD_eq_getElem?_getD, List.getElem?_eq_getElem h]; rfl
theorem toList_len (s : ByteArray) : s.data.toList.length = s.size := Array.length_toList
theorem crcS_eq (s : ByteArray) (k : Nat) (h : k ≤ s.size) : crcS s k = ((reg 0xFFFFFFFF#32 (s.data.toList.take k)).toNat : Int) := by
  induction k with
  | zero => rfl
  | succ k ih =>
    rw [crcS, ih (by omega)]
    unfold byteAt
    rw [crcB_eq, take_succ_getD _ _ (by rw [toList_len]; omega), reg_append]
    rfl
theorem not_toNat (v : BitVec 32) : 0xFFFFFFFF#32 ^^^ v = ~~~ v := by
  rw [show (0xFFFFFFFF#32) = BitVec.allOnes 32 from rfl, BitVec.allOnes_xor]
theorem ofS_eq (s : ByteArray) : ofS s = ((crc s.data.toList).toNat : Int) := by
  unfold ofS crc
  rw [crcS_eq s s.size (Nat.le_refl _), List.take_of_length_le (by rw [toList_len]; exact Nat.le_refl _), ← not_toNat]
  exact bits_xor32 0xFFFFFFFF#32 _
theorem refB_eq (x : BitVec 32) (b : Nat) (hb : b < 2) : refB (x.toNat : Int) (b : Int) = ((S (x ^^^ BitVec.ofNat 32 b)).toNat : Int) := by
  unfold refB
  have e1 : Go.bits .xor .u32 ((x.toNat : Int) % 2) (b : Int) = (((BitVec.ofNat 32 (x.toNat % 2)) ^^^ BitVec.ofNat 32 b).toNat : Int) := by
    have h := bits_xor32 (BitVec.ofNat 32 (x.toNat % 2)) (BitVec.ofNat 32 b)
    simp only [BitVec.toNat_ofNat] at h
    rw [Nat.mod_eq_of_lt (a := x.toNat % 2) (by omega), Nat.mod_eq_of_lt (a := b) (by omega)] at h
    have e : ((x.toNat % 2 : Nat) : Int) = (x.toNat : Int) % 2 := by omega
    rw [← e, h]
  rw [e1]
  have hl := lsb_toNat x
  have hS : S (x ^^^ BitVec.ofNat 32 b) = (x >>> 1) ^^^ (if (x.getLsbD 0 ^^ decide (b = 1)) then 0x82F63B78#32 else 0#32) := by
    unfold S
    rw [BitVec.ushiftRight_xor_distrib, BitVec.getLsbD_xor]
    have : b = 0 ∨ b = 1 := by omega
    rcases this with rfl | rfl <;> simp
  rw [hS]
  have : b = 0 ∨ b = 1 := by omega
  rw [half_toNat]
  cases h0 : x.getLsbD 0 <;> rw [h0] at hl <;> rcases this with rfl | rfl <;> simp only [hl] <;> simp
  · simpa using bits_xor32 (x >>> 1) 0x82F63B78#32
  · simpa using bits_xor32 (x >>> 1) 0x82F63B78#32
theorem low_succ (c j : Nat) : BitVec.ofNat 32 (c % 2 ^ (j + 1)) = BitVec.ofNat 32 (c % 2 ^ j) ^^^ (BitVec.ofNat 32 (c / 2 ^ j % 2) <<< j) := by
  apply BitVec.eq_of_getLsbD_eq
  intro i hi
  simp only [BitVec.getLsbD_xor, BitVec.getLsbD_shiftLeft, BitVec.getLsbD_ofNat]
  rw [show c / 2 ^ j % 2 = c / 2 ^ j % 2 ^ 1 from rfl]
  simp only [Nat.testBit_mod_two_pow, Nat.testBit_div_two_pow]
  by_cases h1 : i < j
  · simp [h1, hi, show i < j + 1 by omega]
  · by_cases h2 : i = j
    · subst h2; simp [hi]
    · simp [h1, hi, show ¬ i < j + 1 by omega, show ¬ i - j < 1 by omega]
theorem refS_bits (s : ByteArray) (k : Nat) (x : BitVec 32) (hx : refS s (8 * k) = (x.toNat : Int)) (c : UInt8) (hc : byteAt s k = (c.toNat : Int)) (j : Nat) (hj : j ≤ 8) :
    refS s (8 * k + j) = ((Sn j (x ^^^ BitVec.ofNat 32 (c.toNat % 2 ^ j))).toNat : Int) := by
  induction j with
  | zero => rw [Nat.add_zero, hx]; simp [Sn, Nat.mod_one]
  | succ j ih =>
    rw [← Nat.add_assoc, refS, ih (by omega)]
    have hb : bitAt s (8 * k + j) = ((c.toNat / 2 ^ j % 2 : Nat) : Int) := by
      unfold bitAt
      rw [show (8 * k + j) / 8 = k by omega, show (8 * k + j) % 8 = j by omega, hc]
      simp
    rw [hb, refB_eq _ _ (Nat.mod_lt _ (by omega))]
    have hlt := c.toNat_lt
    have e : BitVec.ofNat 32 (c.toNat / 2 ^ j % 2) = Sn j (BitVec.ofNat 32 (c.toNat / 2 ^ j % 2) <<< j) := by
      refine (Sn_shl j _ ?_).symm
      rw [BitVec.toNat_ofNat]
      have h1 : c.toNat / 2 ^ j % 2 < 2 := Nat.mod_lt _ (by omega)
      have h2 : 2 ^ j ≤ 2 ^ 7 := Nat.pow_le_pow_right (by omega) (by omega)
      rw [Nat.mod_eq_of_lt (by omega)]
      calc c.toNat / 2 ^ j % 2 * 2 ^ j ≤ 1 * 2 ^ 7 := Nat.mul_le_mul (by omega) h2
        _ < 2 ^ 32 := by decide
    rw [e, ← Sn_xor, low_succ, BitVec.xor_assoc]
    rfl
theorem refS_eq (s : ByteArray) (k : Nat) (h : k ≤ s.size) : refS s (8 * k) = ((reg 0xFFFFFFFF#32 (s.data.toList.take k)).toNat : Int) := by
  induction k with
  | zero => rfl
  | succ k ih =>
    have h8 := refS_bits s k _ (ih (by omega)) (s.data.toList.getD k 0) rfl 8 (Nat.le_refl _)
    rw [show 8 * (k + 1) = 8 * k + 8 by omega, h8, take_succ_getD _ _ (by rw [toList_len]; omega), reg_append]
    have hlt := (s.data.toList.getD k 0).toNat_lt
    rw [Nat.mod_eq_of_lt (by omega)]
    rfl
theorem rofS_eq (s : ByteArray) : rofS s = ((crc s.data.toList).toNat : Int) := by
  unfold rofS crc
  rw [refS_eq s s.size (Nat.le_refl _), List.take_of_length_le (by rw [toList_len]; exact Nat.le_refl _), ← not_toNat, BitVec.xor_comm]
  exact bits_xor32 _ 0xFFFFFFFF#32
theorem le4_eq (v : BitVec 32) : strOfNums (le4 (v.toNat : Int)) = ⟨(w4 v).toArray⟩ := by
  unfold strOfNums le4 w4
  congr 1
end Go.Proofs.YtdcfonmjbelgbaaGreatDoor
end
section
namespace Go.Proofs.YtdcfonmjbelgbaaGreatDoor
open Go.RowKit
def sealL (l : List UInt8) : List UInt8 := l ++ w4 (crc l)
theorem sealL_len (l : List UInt8) : (sealL l).length = l.length + 4 := by simp [sealL, w4_len]
def sealed (l : List UInt8) : Prop := 4 ≤ l.length ∧ l.drop (l.length - 4) = w4 (crc (l.take (l.length - 4)))
theorem sealed_seal (l : List UInt8) : sealed (sealL l) := by
  refine ⟨by rw [sealL_len]; omega, ?_⟩
  rw [sealL_len, Nat.add_sub_cancel]
  unfold sealL
  rw [List.drop_left, List.take_left]
theorem take_seal (l : List UInt8) : (sealL l).take ((sealL l).length - 4) = l := by
  rw [sealL_len, Nat.add_sub_cancel]
  unfold sealL
  rw [List.take_left]
theorem of_sealed {l : List UInt8} (h : sealed l) : sealL (l.take (l.length - 4)) = l := by
  unfold sealL
  rw [← h.2, List.take_append_drop]
def openL (l : List UInt8) : ByteArray × Int := if l.length < 4 then (B [], 3) else if l.drop (l.length - 4) = w4 (crc (l.take (l.length - 4))) then (B (l.take (l.length - 4)), 0) else (B [], 5)
theorem openL_seal (l : List UInt8) : openL (sealL l) = (B l, 0) := by
  unfold openL
  rw [if_neg (by rw [sealL_len]; omega), if_pos (sealed_seal l).2, take_seal]
theorem openL_cases (m : List UInt8) : (m.length < 4 ∧ openL m = (B [], 3)) ∨ (4 ≤ m.length ∧ ¬ sealed m ∧ openL m = (B [], 5)) ∨ ∃ u, m = sealL u ∧ openL m = (B u, 0) := by
  by_cases h4 : m.length < 4
  · exact .inl ⟨h4, by unfold openL; rw [if_pos h4]⟩
  · by_cases h2 : m.drop (m.length - 4) = w4 (crc (m.take (m.length - 4)))
    · refine .inr (.inr ⟨m.take (m.length - 4), (of_sealed ⟨by omega, h2⟩).symm, ?_⟩)
      unfold openL; rw [if_neg h4, if_pos h2]
    · exact .inr (.inl ⟨by omega, fun h => h2 h.2, by unfold openL; rw [if_neg h4, if_neg h2]⟩)
theorem wrap_sub4 (n : Nat) (h : n ≤ 140737488355328) : wrap64 ((n : Int) - 4) = (n : Int) - 4 := by unfold wrap64; omega
theorem of_f (l : List UInt8) (h : l.length ≤ 140737488355328) : check_Of.f (B l) = some ((crc l).toNat : Int) := by
  unfold check_Of.f
  rw [if_pos (by rw [B_size]; exact h), ofS_eq, B_data]
theorem rof_f (l : List UInt8) (h : l.length ≤ 140737488355328) : sluicegateref04_Of.f (B l) = some ((crc l).toNat : Int) := by
  unfold sluicegateref04_Of.f
  rw [if_pos (by rw [B_size]; exact h), rofS_eq, B_data]
theorem bytes_f (v : BitVec 32) : check_bytes.f (v.toNat : Int) = some (B (w4 v)) := by
  unfold check_bytes.f
  have := v.isLt
  rw [if_pos (by omega), le4_eq]
  rfl
theorem seal_f (l : List UInt8) (h : l.length ≤ 140737488355328) : Q.check_Seal.f (B l) = some (B (sealL l)) := by
  unfold Q.check_Seal.f
  rw [of_f l h]
  simp only [Option.bind_some]
  rw [bytes_f]
  simp only [Option.bind_some]
  rw [if_pos (by rw [B_size, B_size, w4_len]; omega), B_append]
  rfl
theorem open_f (l : List UInt8) (h : l.length ≤ 140737488355328) : Q.check_Open.f (B l) = some (openL l) := by
  unfold openL
  unfold Q.check_Open.f
  rw [B_size, wrap_sub4 _ h]
  by_cases h4 : l.length < 4
  · rw [if_pos (by omega), if_pos h4]; rfl
  · rw [if_neg (by omega), if_pos (by omega), if_pos (by omega), if_neg h4]
    have e : ((l.length : Int) - 4).toNat = l.length - 4 := by omega
    rw [e, B_extract, B_extract, List.drop_zero, Nat.sub_zero, of_f _ (by rw [List.length_take]; omega)]
    simp only [Option.bind_some]
    rw [bytes_f]
    simp only [Option.bind_some]
    rw [B_toList, B_toList, List.take_of_length_le (by rw [List.length_drop]; omega)]
    by_cases h2 : l.drop (l.length - 4) = w4 (crc (l.take (l.length - 4)))
    · rw [if_pos h2, if_pos h2]
    · rw [if_neg h2, if_neg h2]; rfl
theorem rseal_f (l : List UInt8) (h : l.length ≤ 140737488355328) : Q.sluicegateref04_Seal.f (B l) = some (B (sealL l)) := by
  unfold Q.sluicegateref04_Seal.f
  rw [rof_f l h]
  simp only [Option.bind_some]
  have e : strOfNums [((crc l).toNat : Int) % 256, ((crc l).toNat : Int) / 256 % 256, ((crc l).toNat : Int) / 65536 % 256, ((crc l).toNat : Int) / 16777216 % 256] = B (w4 (crc l)) := le4_eq _
  rw [e, if_pos (by rw [B_size, B_size, w4_len]; omega), B_append]
  rfl
end Go.Proofs.YtdcfonmjbelgbaaGreatDoor
end
section
namespace Go.Proofs.YtdcfonmjbelgbaaGreatDoor
open Go.RowKit Q Go.Proofs.YtdcfonmjbelgbaaGreatDoorW.PrintWords Go.Proofs.YtdcfonmjbelgbaaGreatDoorW.PrintLast Go.Proofs.YtdcfonmjbelgbaaGreatDoorW.PrintMore
def secT (v g i d s : Nat) (t : List UInt8) : List UInt8 := [83, 71] ++ (enc v ++ enc g ++ enc i ++ enc d ++ enc s) ++ txt t
theorem encK5 (v g i d s : Nat) : encK [v, g, i, d, s] 5 = enc v ++ enc g ++ enc i ++ enc d ++ enc s := by
  simp [encK]
theorem txt_len (t : List UInt8) (h : t.length ≤ 64) : (txt t).length ≤ 72 := by
  unfold txt
  rw [List.length_append]
  have := enc_len8 (m := t.length) (by omega)
  omega
theorem chk_ok {v g i d s : Int} {n : Nat} (h : chk v g i d s n = 0) : (0 ≤ v ∧ v ≤ 1099511627776 ∧ 0 ≤ g ∧ g ≤ 1099511627776 ∧ 0 ≤ i ∧ i ≤ 8 ∧ 0 ≤ d ∧ d ≤ 11 ∧ 0 ≤ s ∧ s ≤ 47) ∧ n ≤ 64 := by
  unfold chk at h
  split at h
  · rename_i hh
    refine ⟨hh, ?_⟩
    split at h
    · assumption
    · cases h
  · cases h
abbrev Rng (v g i d s : Int) : Prop := 0 ≤ v ∧ v ≤ 1099511627776 ∧ 0 ≤ g ∧ g ≤ 1099511627776 ∧ 0 ≤ i ∧ i ≤ 8 ∧ 0 ≤ d ∧ d ≤ 11 ∧ 0 ≤ s ∧ s ≤ 47
theorem five_lt {v g i d s : Int} (h : Rng v g i d s) : ∀ k, [v.toNat, g.toNat, i.toNat, d.toNat, s.toNat].getD k 0 < 2 ^ 56 := by
  intro k
  obtain ⟨h1, h2, h3, h4, h5, h6, h7, h8, h9, h10⟩ := h
  match k with
  | 0 => show v.toNat < 2 ^ 56; omega
  | 1 => show g.toNat < 2 ^ 56; omega
  | 2 => show i.toNat < 2 ^ 56; omega
  | 3 => show d.toNat < 2 ^ 56; omega
  | 4 => show s.toNat < 2 ^ 56; omega
  | k + 5 => show 0 < 2 ^ 56; decide
theorem five (v g i d s : Int) (w : World) (h : Rng v g i d s) : ∀ j, j < 5 → (w.alloc (.cells #[.int .i64 v, .int .i64 g, .int .i64 i, .int .i64 d, .int .i64 s] 3)).cell? ⟨w.heap.size, j, none⟩ = some (.int .i64 ([v.toNat, g.toNat, i.toNat, d.toNat, s.toNat].getD j 0 : Nat)) := by
  intro j hj
  obtain ⟨h1, h2, h3, h4, h5, h6, h7, h8, h9, h10⟩ := h
  rw [Lib.cell_of_heap (heap_alloc_new w _)]
  match j, hj with
  | 0, _ => show some (Value.int .i64 v) = some (.int .i64 (v.toNat : Int)); rw [Int.toNat_of_nonneg h1]
  | 1, _ => show some (Value.int .i64 g) = some (.int .i64 (g.toNat : Int)); rw [Int.toNat_of_nonneg h3]
  | 2, _ => show some (Value.int .i64 i) = some (.int .i64 (i.toNat : Int)); rw [Int.toNat_of_nonneg h5]
  | 3, _ => show some (Value.int .i64 d) = some (.int .i64 (d.toNat : Int)); rw [Int.toNat_of_nonneg h7]
  | 4, _ => show some (Value.int .i64 s) = some (.int .i64 (s.toNat : Int)); rw [Int.toNat_of_nonneg h9]
theorem six {w : World} {g0 : Nat} {T : TypeId} {a b c d e f : Value} (h : w.heap[g0]? = some (.cells #[a, b, c, d, e, f] T (0, 0))) : w.cell? ⟨g0, 0, none⟩ = some a ∧ w.cell? ⟨g0, 1, none⟩ = some b ∧ w.cell? ⟨g0, 2, none⟩ = some c ∧ w.cell? ⟨g0, 3, none⟩ = some d ∧ w.cell? ⟨g0, 4, none⟩ = some e ∧ w.cell? ⟨g0, 5, none⟩ = some f := by
  refine ⟨?_, ?_, ?_, ?_, ?_, ?_⟩ <;> (rw [Lib.cell_of_heap h]; rfl)
theorem text_B (t : ByteArray) (w : World) (h : t.size ≤ 64) : Calls Tryz.prog 47 #[.string t] w fun e w' => e = .returned (.string (B (txt t.data.toList))) ∧ Below w.heap.size w w' := by
  have hf := text_f t.data.toList 20 (by rw [size_data]; omega) (Nat.le_refl _)
  rw [B_eta] at hf
  exact pack_Text.calls 20 _ _ w hf
theorem seal_B (x : ByteArray) (w : World) {l : List UInt8} (h : x = B l ∧ l.length ≤ 200) : Calls Tryz.prog 45 #[.string x] w fun e w' => e = .returned (.string (B (sealL l))) ∧ Below w.heap.size w w' := by
  obtain ⟨rfl, h⟩ := h
  exact check_Seal.calls _ _ w (seal_f l (by omega))
theorem secT_B {v g i d s : Int} {t : ByteArray} (h : Rng v g i d s) (ht : t.size ≤ 64) : (⟨#[83, 71]⟩ : ByteArray) ++ B (encK [v.toNat, g.toNat, i.toNat, d.toNat, s.toNat] 5) ++ B (txt t.data.toList) = B (secT v.toNat g.toNat i.toNat d.toNat s.toNat t.data.toList) ∧ (secT v.toNat g.toNat i.toNat d.toNat s.toNat t.data.toList).length ≤ 200 := by
  constructor
  · have : (⟨#[83, 71]⟩ : ByteArray) = B [83, 71] := rfl
    rw [this, B_append, B_append, encK5]
    rfl
  · unfold secT
    rw [← encK5, List.length_append, List.length_append]
    have h1 := encK_len _ (five_lt h) 5
    have h2 := txt_len t.data.toList (by rw [size_data]; exact ht)
    simp only [List.length_cons, List.length_nil]
    omega
def secW (v g i d s : Int) (t : ByteArray) : ByteArray × Int :=
  if chk v g i d s t.size = 0 then (B (sealL (secT v.toNat g.toNat i.toNat d.toNat s.toNat t.data.toList)), 0) else (B [], chk v g i d s t.size)
set_option maxRecDepth 100000 in
set_option maxHeartbeats 1000000 in
theorem write_calls (v g i d s : Int) (t : ByteArray) (w : World) : Calls Tryz.prog 29 #[.agg #[.int .i64 v, .int .i64 g, .int .i64 i, .int .i64 d, .int .i64 s, .string t]] w fun e w' => e = .returned (.tuple #[.string (secW v g i d s t).1, .int .i64 (secW v g i d s t).2]) ∧ Below w.heap.size w w' := by
  have hu25 := Tryz.underlying61
  have hu23 := Tryz.underlying59
  have HB : Aside0 (Below w.heap.size w (w.alloc (.cells #[.int .i64 v, .int .i64 g, .int .i64 i, .int .i64 d, .int .i64 s, .string t] 61))) := ⟨(Below.refl _ _).alloc (Nat.le_refl _) _⟩
  by_cases hc : chk v g i d s t.size = 0
  · have hW : secW v g i d s t = (B (sealL (secT v.toNat g.toNat i.toNat d.toNat s.toNat t.data.toList)), 0) := if_pos hc
    rw [hW]
    have HCK := Lib.hid hc
    clear hW hc
    go_enter Tryz.func29, Tryz.ntmps29
    go_wp2_with fail
    refine Calls.mono (right_calls v g i d s t _) ?_
    rintro e w1 ⟨rfl, b1⟩
    rw [HCK.out]
    have hblk : w1.heap[w.heap.size]? = some (.cells #[.int .i64 v, .int .i64 g, .int .i64 i, .int .i64 d, .int .i64 s, .string t] 61 (0, 0)) := (b1.block _ (by simp)).trans (heap_alloc_new w _)
    have HB := Aside0.mk (below2 HB.out HB.out.size b1)
    have c0 : w1.cell? ⟨w.heap.size, 0, none⟩ = some (.int .i64 v) := by rw [Lib.cell_of_heap hblk]; rfl
    have c1 : w1.cell? ⟨w.heap.size, 1, none⟩ = some (.int .i64 g) := by rw [Lib.cell_of_heap hblk]; rfl
    have c2 : w1.cell? ⟨w.heap.size, 2, none⟩ = some (.int .i64 i) := by rw [Lib.cell_of_heap hblk]; rfl
    have c3 : w1.cell? ⟨w.heap.size, 3, none⟩ = some (.int .i64 d) := by rw [Lib.cell_of_heap hblk]; rfl
    have c4 : w1.cell? ⟨w.heap.size, 4, none⟩ = some (.int .i64 s) := by rw [Lib.cell_of_heap hblk]; rfl
    have c5 : w1.cell? ⟨w.heap.size, 5, none⟩ = some (.string t) := by rw [Lib.cell_of_heap hblk]; rfl
    have HBK := Aside0.mk hblk
    clear b1 hblk
    go_wp2_with fail
    have hr := chk_ok HCK.out
    have HR := Lib.hid hr.1
    have HT := Lib.hid hr.2
    have HS : Hid ((⟨#[83, 71]⟩ : ByteArray) ++ B (encK [v.toNat, g.toNat, i.toNat, d.toNat, s.toNat] 5) ++ B (txt t.data.toList) = B (secT v.toNat g.toNat i.toNat d.toNat s.toNat t.data.toList) ∧ (secT v.toNat g.toNat i.toNat d.toNat s.toNat t.data.toList).length ≤ 200) := Lib.hid (secT_B hr.1 hr.2)
    have hs1 : (B (encK [v.toNat, g.toNat, i.toNat, d.toNat, s.toNat] 5)).size ≤ 40 := by rw [B_size]; exact encK_len _ (five_lt hr.1) 5
    have hs2 : (B (txt t.data.toList)).size ≤ 72 := by rw [B_size]; exact txt_len _ (by rw [size_data]; exact hr.2)
    have hs3 : ¬ 9223372036854775807 < 2 + (B (encK [v.toNat, g.toNat, i.toNat, d.toNat, s.toNat] 5)).size := by omega
    have hs4 : ¬ 9223372036854775807 < 2 + (B (encK [v.toNat, g.toNat, i.toNat, d.toNat, s.toNat] 5)).size + (B (txt t.data.toList)).size := by omega
    clear hr
    refine start_ (n := 22) (S := fun w' => w'.cell? ⟨w.heap.size, 0, none⟩ = some (.int .i64 v) ∧ w'.cell? ⟨w.heap.size, 1, none⟩ = some (.int .i64 g) ∧ w'.cell? ⟨w.heap.size, 2, none⟩ = some (.int .i64 i) ∧ w'.cell? ⟨w.heap.size, 3, none⟩ = some (.int .i64 d) ∧ w'.cell? ⟨w.heap.size, 4, none⟩ = some (.int .i64 s) ∧ w'.cell? ⟨w.heap.size, 5, none⟩ = some (.string t) ∧ Aside0 (w'.heap[w.heap.size]? = some (.cells #[.int .i64 v, .int .i64 g, .int .i64 i, .int .i64 d, .int .i64 s, .string t] 61 (0, 0))) ∧ Aside0 (Below w.heap.size w w')) (ds := []) #[false, false, false, false, false, false, false, false, false, false, false, false, false, false, false, false, false, false, false, false, false, false] (by kernel_rfl) rfl rfl ⟨c0, c1, c2, c3, c4, c5, ⟨HBK.out⟩, ⟨Below.drew HB.out⟩⟩ (fun hHeld => ?_)
    generalize w1.drew = wn at hHeld ⊢
    refine pure_ (i := 0) (N := some 10) (v := ?_) (a' := ?_) #[true, false, false, false, false, false, false, false, false, false, false, false, false, false, false, false, false, false, false, false, false, false] rfl rfl (by kernel_rfl) (fun _ _ _ h => h) (Or.inl ⟨by rfl, ?_⟩) ?_ ?_
    rotate_left
    · intro w'
      go_simp
      with_reducible rfl
    rotate_left
    · simp only [Act.put, List.setIfInBounds_toArray, List.set_cons_zero, List.set_cons_succ]
      rfl
    refine pure_ (i := 2) (N := some 12) (v := ?_) (a' := ?_) #[true, false, true, false, false, false, false, false, false, false, false, false, false, false, false, false, false, false, false, false, false, false] rfl rfl (by kernel_rfl) (fun _ _ _ h => h) (Or.inl ⟨by rfl, ?_⟩) ?_ ?_
    rotate_left
    · intro w'
      go_simp
      with_reducible rfl
    rotate_left
    · simp only [Act.put, List.setIfInBounds_toArray, List.set_cons_zero, List.set_cons_succ]
      rfl
    refine pure_ (i := 4) (N := some 14) (v := ?_) (a' := ?_) #[true, false, true, false, true, false, false, false, false, false, false, false, false, false, false, false, false, false, false, false, false, false] rfl rfl (by kernel_rfl) (fun _ _ _ h => h) (Or.inl ⟨by rfl, ?_⟩) ?_ ?_
    rotate_left
    · intro w'
      go_simp
      with_reducible rfl
    rotate_left
    · simp only [Act.put, List.setIfInBounds_toArray, List.set_cons_zero, List.set_cons_succ]
      rfl
    refine pure_ (i := 6) (N := some 16) (v := ?_) (a' := ?_) #[true, false, true, false, true, false, true, false, false, false, false, false, false, false, false, false, false, false, false, false, false, false] rfl rfl (by kernel_rfl) (fun _ _ _ h => h) (Or.inl ⟨by rfl, ?_⟩) ?_ ?_
    rotate_left
    · intro w'
      go_simp
      with_reducible rfl
    rotate_left
    · simp only [Act.put, List.setIfInBounds_toArray, List.set_cons_zero, List.set_cons_succ]
      rfl
    refine pure_ (i := 7) (N := some 17) (v := ?_) (a' := ?_) #[true, false, true, false, true, false, true, true, false, false, false, false, false, false, false, false, false, false, false, false, false, false] rfl rfl (by kernel_rfl) (fun _ _ _ h => h) (Or.inl ⟨by rfl, ?_⟩) ?_ ?_
    rotate_left
    · intro w'
      go_simp
      with_reducible rfl
    rotate_left
    · simp only [Act.put, List.setIfInBounds_toArray, List.set_cons_zero, List.set_cons_succ]
      rfl
    refine pure_ (i := 9) (N := some 19) (v := ?_) (a' := ?_) #[true, false, true, false, true, false, true, true, false, true, false, false, false, false, false, false, false, false, false, false, false, false] rfl rfl (by kernel_rfl) (fun _ _ _ h => h) (Or.inl ⟨by rfl, ?_⟩) ?_ ?_
    rotate_left
    · intro w'
      go_simp
      with_reducible rfl
    rotate_left
    · simp only [Act.put, List.setIfInBounds_toArray, List.set_cons_zero, List.set_cons_succ]
      rfl
    refine pure_ (i := 10) (N := some 20) (v := ?_) (a' := ?_) #[true, false, true, false, true, false, true, true, false, true, true, false, false, false, false, false, false, false, false, false, false, false] rfl rfl (by kernel_rfl) (fun _ _ _ h => h) (Or.inl ⟨by rfl, ?_⟩) ?_ ?_
    rotate_left
    · intro w'
      go_simp
      with_reducible rfl
    rotate_left
    · simp only [Act.put, List.setIfInBounds_toArray, List.set_cons_zero, List.set_cons_succ]
      rfl
    refine pure_ (i := 15) (N := some 25) (v := ?_) (a' := ?_) #[true, false, true, false, true, false, true, true, false, true, true, false, false, false, false, true, false, false, false, false, false, false] rfl rfl (by kernel_rfl) (fun _ _ _ h => h) (Or.inl ⟨by rfl, ?_⟩) ?_ ?_
    rotate_left
    · intro w'
      go_simp
      with_reducible rfl
    rotate_left
    · simp only [Act.put, List.setIfInBounds_toArray, List.set_cons_zero, List.set_cons_succ]
      rfl
    refine take_ (i := 1) (N := some 11) (v := ?_) (a' := ?_) #[true, true, true, false, true, false, true, true, false, true, true, false, false, false, false, true, false, false, false, false, false, false] rfl rfl (by kernel_rfl) (fun _ _ _ h => h) (Or.inl ⟨by rfl, ?_⟩) hHeld ?_ ?_
    rotate_left
    · rintro w' ⟨s0, s1, s2, s3, s4, s5, s6, s7⟩
      go_simp
      with_reducible rfl
    rotate_left
    · simp only [Act.put, List.setIfInBounds_toArray, List.set_cons_zero, List.set_cons_succ]
      rfl
    refine take_ (i := 3) (N := some 13) (v := ?_) (a' := ?_) #[true, true, true, true, true, false, true, true, false, true, true, false, false, false, false, true, false, false, false, false, false, false] rfl rfl (by kernel_rfl) (fun _ _ _ h => h) (Or.inl ⟨by rfl, ?_⟩) hHeld ?_ ?_
    rotate_left
    · rintro w' ⟨s0, s1, s2, s3, s4, s5, s6, s7⟩
      go_simp
      with_reducible rfl
    rotate_left
    · simp only [Act.put, List.setIfInBounds_toArray, List.set_cons_zero, List.set_cons_succ]
      rfl
    refine take_ (i := 5) (N := some 15) (v := ?_) (a' := ?_) #[true, true, true, true, true, true, true, true, false, true, true, false, false, false, false, true, false, false, false, false, false, false] rfl rfl (by kernel_rfl) (fun _ _ _ h => h) (Or.inl ⟨by rfl, ?_⟩) hHeld ?_ ?_
    rotate_left
    · rintro w' ⟨s0, s1, s2, s3, s4, s5, s6, s7⟩
      go_simp
      with_reducible rfl
    rotate_left
    · simp only [Act.put, List.setIfInBounds_toArray, List.set_cons_zero, List.set_cons_succ]
      rfl
    refine take_ (i := 8) (N := some 18) (v := ?_) (a' := ?_) #[true, true, true, true, true, true, true, true, true, true, true, false, false, false, false, true, false, false, false, false, false, false] rfl rfl (by kernel_rfl) (fun _ _ _ h => h) (Or.inl ⟨by rfl, ?_⟩) hHeld ?_ ?_
    rotate_left
    · rintro w' ⟨s0, s1, s2, s3, s4, s5, s6, s7⟩
      go_simp
      with_reducible rfl
    rotate_left
    · simp only [Act.put, List.setIfInBounds_toArray, List.set_cons_zero, List.set_cons_succ]
      rfl
    refine take_ (i := 11) (N := some 21) (v := ?_) (a' := ?_) #[true, true, true, true, true, true, true, true, true, true, true, true, false, false, false, true, false, false, false, false, false, false] rfl rfl (by kernel_rfl) (fun _ _ _ h => h) (Or.inl ⟨by rfl, ?_⟩) hHeld ?_ ?_
    rotate_left
    · rintro w' ⟨s0, s1, s2, s3, s4, s5, s6, s7⟩
      go_simp
      with_reducible rfl
    rotate_left
    · simp only [Act.put, List.setIfInBounds_toArray, List.set_cons_zero, List.set_cons_succ]
      rfl
    refine take_ (i := 16) (N := some 26) (v := ?_) (a' := ?_) #[true, true, true, true, true, true, true, true, true, true, true, true, false, false, false, true, true, false, false, false, false, false] rfl rfl (by kernel_rfl) (fun _ _ _ h => h) (Or.inl ⟨by rfl, ?_⟩) hHeld ?_ ?_
    rotate_left
    · rintro w' ⟨s0, s1, s2, s3, s4, s5, s6, s7⟩
      go_simp
      with_reducible rfl
    rotate_left
    · simp only [Act.put, List.setIfInBounds_toArray, List.set_cons_zero, List.set_cons_succ]
      rfl
    refine one_ (i := 12) (N := some 22) #[true, true, true, true, true, true, true, true, true, true, true, true, true, false, false, true, true, false, false, false, false, false] rfl rfl (by kernel_rfl) (by decide) (fun K hK => ?_)
    refine value_ (w1 := ?_) (v := ?_) (by rfl) rfl ?_ ?_
    rotate_left 2
    · go_simp
      constructor
      · rfl
      · rfl
    have hA : Below wn.heap.size wn (wn.alloc (.cells #[.int .i64 v, .int .i64 g, .int .i64 i, .int .i64 d, .int .i64 s] 3)) := (Below.refl _ _).alloc (Nat.le_refl _) _
    have hn5 := five v g i d s wn HR.out
    have hka := (hA.block _ (Array.getElem?_eq_some_iff.1 hHeld.2.2.2.2.2.2.1.out).1).trans hHeld.2.2.2.2.2.2.1.out
    have hwa := below2 hHeld.2.2.2.2.2.2.2.out hHeld.2.2.2.2.2.2.2.out.size hA
    refine hK.out _ _ ⟨(six hka).1, (six hka).2.1, (six hka).2.2.1, (six hka).2.2.2.1, (six hka).2.2.2.2.1, (six hka).2.2.2.2.2, ⟨hka⟩, ⟨hwa⟩⟩ (fun hHeld => ?_)
    clear hK K
    refine norm_ (a' := ?_) ?_ ?_
    rotate_left
    · show Act.put _ (some 22) _ = _
      simp only [Act.put, List.setIfInBounds_toArray, List.set_cons_zero, List.set_cons_succ]
      rfl
    refine one_ (i := 13) (N := some 23) #[true, true, true, true, true, true, true, true, true, true, true, true, true, true, false, true, true, false, false, false, false, false] rfl rfl (by kernel_rfl) (by decide) (fun K hK => ?_)
    refine goes_ Tryz.func46 (by kernel_rfl) rfl #[.slice (some ⟨wn.heap.size, 0, none⟩) 5 5] (by rfl) rfl rfl (by simp only [List.map_toArray, List.map_cons, List.map_nil]; rfl) ?_
    with_reducible refine (numbers_calls wn.heap.size 5 [v.toNat, g.toNat, i.toNat, d.toNat, s.toNat] 5 (by decide) rfl (five_lt HR.out) _ (by simp) hn5).mono ?_
    rintro e w3 ⟨rfl, b3⟩
    refine ⟨_, rfl, ?_⟩
    have hkc := (b3.block _ (Array.getElem?_eq_some_iff.1 hHeld.2.2.2.2.2.2.1.out).1).trans hHeld.2.2.2.2.2.2.1.out
    have hwc := below2 hHeld.2.2.2.2.2.2.2.out hHeld.2.2.2.2.2.2.2.out.size b3
    refine hK.out _ _ ⟨(six hkc).1, (six hkc).2.1, (six hkc).2.2.1, (six hkc).2.2.2.1, (six hkc).2.2.2.2.1, (six hkc).2.2.2.2.2, ⟨hkc⟩, ⟨hwc⟩⟩ (fun hHeld => ?_)
    clear hK K
    refine norm_ (a' := ?_) ?_ ?_
    rotate_left
    · show Act.put _ (some 23) _ = _
      simp only [Act.put, List.setIfInBounds_toArray, List.set_cons_zero, List.set_cons_succ]
      rfl
    refine pure_ (i := 14) (N := some 24) (v := ?_) (a' := ?_) #[true, true, true, true, true, true, true, true, true, true, true, true, true, true, true, true, true, false, false, false, false, false] rfl rfl (by kernel_rfl) (fun _ _ _ h => h) (Or.inl ⟨by rfl, ?_⟩) ?_ ?_
    rotate_left
    · intro w'
      go_simp
      with_reducible rfl
    rotate_left
    · simp only [Act.put, List.setIfInBounds_toArray, List.set_cons_zero, List.set_cons_succ]
      rfl
    refine one_ (i := 17) (N := some 27) #[true, true, true, true, true, true, true, true, true, true, true, true, true, true, true, true, true, true, false, false, false, false] rfl rfl (by kernel_rfl) (by decide) (fun K hK => ?_)
    refine goes_ Tryz.func47 (by kernel_rfl) rfl #[.string t] (by rfl) rfl rfl (by simp only [List.map_toArray, List.map_cons, List.map_nil]; rfl) ?_
    with_reducible refine (text_B t _ HT.out).mono ?_
    rintro e w4 ⟨rfl, b4⟩
    refine ⟨_, rfl, ?_⟩
    have hkd := (b4.block _ (Array.getElem?_eq_some_iff.1 hHeld.2.2.2.2.2.2.1.out).1).trans hHeld.2.2.2.2.2.2.1.out
    have hwd := below2 hHeld.2.2.2.2.2.2.2.out hHeld.2.2.2.2.2.2.2.out.size b4
    refine hK.out _ _ ⟨(six hkd).1, (six hkd).2.1, (six hkd).2.2.1, (six hkd).2.2.2.1, (six hkd).2.2.2.2.1, (six hkd).2.2.2.2.2, ⟨hkd⟩, ⟨hwd⟩⟩ (fun hHeld => ?_)
    clear hK K
    refine norm_ (a' := ?_) ?_ ?_
    rotate_left
    · show Act.put _ (some 27) _ = _
      simp only [Act.put, List.setIfInBounds_toArray, List.set_cons_zero, List.set_cons_succ]
      rfl
    refine pure_ (i := 18) (N := some 28) (v := ?_) (a' := ?_) #[true, true, true, true, true, true, true, true, true, true, true, true, true, true, true, true, true, true, true, false, false, false] rfl rfl (by kernel_rfl) (fun _ _ _ h => h) (Or.inl ⟨by rfl, ?_⟩) ?_ ?_
    rotate_left
    · intro w'
      go_simp
      with_reducible rfl
    rotate_left
    · simp only [Act.put, List.setIfInBounds_toArray, List.set_cons_zero, List.set_cons_succ]
      rfl
    refine one_ (i := 19) (N := some 29) #[true, true, true, true, true, true, true, true, true, true, true, true, true, true, true, true, true, true, true, true, false, false] rfl rfl (by kernel_rfl) (by decide) (fun K hK => ?_)
    refine goes_ Tryz.func45 (by kernel_rfl) rfl #[.string (⟨#[83, 71]⟩ ++ B (encK [v.toNat, g.toNat, i.toNat, d.toNat, s.toNat] 5) ++ B (txt t.data.toList))] (by rfl) rfl rfl (by simp only [List.map_toArray, List.map_cons, List.map_nil]; rfl) ?_
    with_reducible refine (seal_B _ _ HS.out).mono ?_
    rintro e w5 ⟨rfl, b5⟩
    refine ⟨_, rfl, ?_⟩
    have hke := (b5.block _ (Array.getElem?_eq_some_iff.1 hHeld.2.2.2.2.2.2.1.out).1).trans hHeld.2.2.2.2.2.2.1.out
    have hwe := below2 hHeld.2.2.2.2.2.2.2.out hHeld.2.2.2.2.2.2.2.out.size b5
    refine hK.out _ _ ⟨(six hke).1, (six hke).2.1, (six hke).2.2.1, (six hke).2.2.2.1, (six hke).2.2.2.2.1, (six hke).2.2.2.2.2, ⟨hke⟩, ⟨hwe⟩⟩ (fun hHeld => ?_)
    clear hK K
    refine norm_ (a' := ?_) ?_ ?_
    rotate_left
    · show Act.put _ (some 29) _ = _
      simp only [Act.put, List.setIfInBounds_toArray, List.set_cons_zero, List.set_cons_succ]
      rfl
    refine pure_ (i := 20) (N := some 2) (v := ?_) (a' := ?_) #[true, true, true, true, true, true, true, true, true, true, true, true, true, true, true, true, true, true, true, true, true, false] rfl rfl (by kernel_rfl) (fun _ _ _ h => h) (Or.inl ⟨by rfl, ?_⟩) ?_ ?_
    rotate_left
    · intro w'
      go_simp
      with_reducible rfl
    rotate_left
    · simp only [Act.put, List.setIfInBounds_toArray, List.set_cons_zero, List.set_cons_succ]
      rfl
    refine pure_ (i := 21) (N := some 3) (v := ?_) (a' := ?_) #[true, true, true, true, true, true, true, true, true, true, true, true, true, true, true, true, true, true, true, true, true, true] rfl rfl (by kernel_rfl) (fun _ _ _ h => h) (Or.inl ⟨by rfl, ?_⟩) ?_ ?_
    rotate_left
    · intro w'
      go_simp
      with_reducible rfl
    rotate_left
    · simp only [Act.put, List.setIfInBounds_toArray, List.set_cons_zero, List.set_cons_succ]
      rfl
    refine done_ (by kernel_rfl) ?_
    have hfin := hHeld.2.2.2.2.2.2.2.out
    go_wp2_with fail
    go_ret2
    exact ⟨rfl, hfin⟩
  · have hW : secW v g i d s t = (B [], chk v g i d s t.size) := if_neg hc
    rw [hW]
    generalize hk : chk v g i d s t.size = k at *
    have HK := Lib.hid hk
    have hne : (k == 0) = false := by simpa using hc
    have hne2 : (k != 0) = true := by simp [bne, hne]
    clear hW hk hc
    go_enter Tryz.func29, Tryz.ntmps29
    go_wp2_with fail
    refine Calls.mono (right_calls v g i d s t _) ?_
    rintro e w1 ⟨rfl, b1⟩
    rw [HK.out]
    have HB := Aside0.mk (below2 HB.out HB.out.size b1)
    clear b1
    go_wp2_with fail
    go_ret2
    exact ⟨rfl, HB.out⟩
end Go.Proofs.YtdcfonmjbelgbaaGreatDoor
end
