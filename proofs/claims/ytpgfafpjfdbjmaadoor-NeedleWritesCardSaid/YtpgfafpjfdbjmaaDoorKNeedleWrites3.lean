/- Lemmas for the law NeedleWrites, merged out of several texts and cut down to what it names, by a program of this session (some of the first ones are of the words that print.sh wrote for this claim). -/
import Derived.Test.YtpgfafpjfdbjmaaDoorProg
import Derived.WalkKit
import Derived.WalkSpells
import Derived.WalkLawsBesides
import Derived.Lib.Hide
import Derived.Lib.FrozenHead2
import Derived.Lib.UnsafeStr
import Derived.Outline
import Derived.BigCall
import Derived.Shelf.RegionOpenPlain
import Derived.Laws.Externs
import Derived.Laws.BitsLemmas
import Derived.Deep.WholeRow
import Derived.Deep.MidRow
import Derived.Lib.ConvBytes
import Derived.Laws.BytesArg
import Derived.Laws.BytesString
import Derived.Laws.IdiomStrings
import Derived.Below
import Derived.Laws.Strings
import Derived.Lib.IndexBytes
import Derived.Lib.PathFns
import Derived.Test.YtpgfafpjfdbjmaaDoorKNeedleWrites1
import Derived.Test.YtpgfafpjfdbjmaaDoorKNeedleWrites2
set_option linter.unusedVariables false
set_option linter.unusedSimpArgs false
section
namespace Go.Proofs.YtpgfafpjfdbjmaaDoor.Q
open Go.RowKit Go.Proofs.YtpgfafpjfdbjmaaDoorW.PrintWords Go.Proofs.YtpgfafpjfdbjmaaDoorW.PrintLast Go.Proofs.YtpgfafpjfdbjmaaDoorW.PrintMore
attribute [local go_sem] max2_int min2_int max_two min_two max_three min_three max_four min_four   -- for this text's walks alone
set_option linter.unusedVariables false
set_option linter.unusedSimpArgs false
mutual
def sluicegateref03_words.l0 : Nat → List Int → List Int → Int → Option (List Int)
  | 0, _, _, _ => none
  | k + 1, x0, x3, x4 => if x4 < 16 then (if 0 ≤ (wrap64 (4 * x4)) then (if (wrap64 (4 * x4)) < (x0.length : Int) then (if 0 ≤ (wrap64 ((wrap64 (4 * x4)) + 1)) then (if (wrap64 ((wrap64 (4 * x4)) + 1)) < (x0.length : Int) then (if 0 ≤ (wrap64 ((wrap64 (4 * x4)) + 2)) then (if (wrap64 ((wrap64 (4 * x4)) + 2)) < (x0.length : Int) then (if 0 ≤ (wrap64 ((wrap64 (4 * x4)) + 3)) then (if (wrap64 ((wrap64 (4 * x4)) + 3)) < (x0.length : Int) then (if x3.length < 35184372088832 then (sluicegateref03_words.l0 k x0 (x3 ++ [Go.bits .or .u32 (Go.bits .or .u32 (Go.bits .or .u32 ((((rd x0 (wrap64 (4 * x4))) % 4294967296) * 16777216) % 4294967296) ((((rd x0 (wrap64 ((wrap64 (4 * x4)) + 1))) % 4294967296) * 65536) % 4294967296)) ((((rd x0 (wrap64 ((wrap64 (4 * x4)) + 2))) % 4294967296) * 256) % 4294967296)) ((rd x0 (wrap64 ((wrap64 (4 * x4)) + 3))) % 4294967296)]) (wrap64 (x4 + 1))) else (none)) else (none)) else (none)) else (none)) else (none)) else (none)) else (none)) else (none)) else (none)) else (sluicegateref03_words.l1 k x3 16)
def sluicegateref03_words.l1 : Nat → List Int → Int → Option (List Int)
  | 0, _, _ => none
  | k + 1, x3, x5 => if x5 < 64 then (if 0 ≤ (wrap64 (x5 - 15)) then (if (wrap64 (x5 - 15)) < (x3.length : Int) then ((sluicegateref03_rot.f (rd x3 (wrap64 (x5 - 15))) 7).bind fun t221 => ((sluicegateref03_rot.f (rd x3 (wrap64 (x5 - 15))) 18).bind fun t223 => (if 0 ≤ (wrap64 (x5 - 2)) then (if (wrap64 (x5 - 2)) < (x3.length : Int) then ((sluicegateref03_rot.f (rd x3 (wrap64 (x5 - 2))) 17).bind fun t226 => ((sluicegateref03_rot.f (rd x3 (wrap64 (x5 - 2))) 19).bind fun t228 => (if 0 ≤ (wrap64 (x5 - 16)) then (if (wrap64 (x5 - 16)) < (x3.length : Int) then (if 0 ≤ (wrap64 (x5 - 7)) then (if (wrap64 (x5 - 7)) < (x3.length : Int) then (if x3.length < 35184372088832 then (sluicegateref03_words.l1 k (x3 ++ [((((((rd x3 (wrap64 (x5 - 16))) + (Go.bits .xor .u32 (Go.bits .xor .u32 t221 t223) ((rd x3 (wrap64 (x5 - 15))) / 8))) % 4294967296) + (rd x3 (wrap64 (x5 - 7)))) % 4294967296) + (Go.bits .xor .u32 (Go.bits .xor .u32 t226 t228) ((rd x3 (wrap64 (x5 - 2))) / 1024))) % 4294967296]) (wrap64 (x5 + 1))) else (none)) else (none)) else (none)) else (none)) else (none)))) else (none)) else (none)))) else (none)) else (none)) else (some x3)
end
def sluicegateref03_words.f (k : Nat) (l0 : List Int) : Option (List Int) := sluicegateref03_words.l0 k l0 ([] : List Int) 0
def sluicegateref03_words.T5 : Bool × List (List Nat × List Nat) := (true, [([], []), ([], []), ([], []), ([2], [2]), ([1, 3], [1, 3]), ([4], [4]), ([5], [5]), ([6], [6]), ([], []), ([], []), ([9], [9]), ([10], [10]), ([8, 11], [8, 11]), ([12], [12]), ([13], [13]), ([14], [14]), ([7, 15], [7, 15]), ([], []), ([], []), ([18], [18]), ([19], [19]), ([17, 20], [17, 20]), ([21], [21]), ([22], [22]), ([23], [23]), ([16, 24], [16, 24]), ([], []), ([], []), ([27], [27]), ([28], [28]), ([26, 29], [26, 29]), ([30], [30]), ([31], [31]), ([25, 32], [25, 32]), ([33], [33]), ([0, 34], [0, 34]), ([35, 35, 0, 1, 2, 3, 4, 5, 6, 7, 8, 9, 10, 11, 12, 13, 14, 15, 16, 17, 18, 19, 20, 21, 22, 23, 24, 25, 26, 27, 28, 29, 30, 31, 32, 33, 34, 35], [0, 35])])
def sluicegateref03_words.B5 : List Nat := [0, 0, 0, 4, 14, 30, 62, 126, 0, 0, 512, 1536, 3840, 7936, 16128, 32512, 65534, 0, 0, 262144, 786432, 1966080, 4063232, 8257536, 16646144, 33554430, 0, 0, 134217728, 402653184, 1006632960, 2080374784, 4227858432, 8589934590, 17179869182, 34359738367, 68719476735]
theorem sluicegateref03_words.tab5 : rtab .any (opsOf Tryd.f77 5) = sluicegateref03_words.T5 := by kernel_rfl
theorem sluicegateref03_words.bits5 : waitsOk sluicegateref03_words.T5.2 sluicegateref03_words.B5 = true := by kernel_rfl
def sluicegateref03_words.T9 : Bool × List (List Nat × List Nat) := (true, [([], []), ([], []), ([1], [1]), ([0, 2], [0, 2]), ([3], [3]), ([4], [4]), ([], []), ([], []), ([7], [7]), ([6, 8], [6, 8]), ([9], [9]), ([10, 5], [10]), ([5, 11], [5, 11]), ([], []), ([], []), ([14], [14]), ([13, 15], [13, 15]), ([16], [16]), ([17], [17]), ([12, 18], [12, 18]), ([19, 11, 0, 1, 2, 3, 4, 5, 6, 7, 8, 9, 10, 11, 12, 13, 14, 15, 16, 17, 18, 19], [19])])
def sluicegateref03_words.B9 : List Nat := [0, 0, 2, 7, 15, 31, 0, 0, 128, 448, 960, 2047, 4095, 0, 0, 16384, 57344, 122880, 253952, 524287, 1048575]
theorem sluicegateref03_words.tab9 : rtab .any (opsOf Tryd.f77 9) = sluicegateref03_words.T9 := by kernel_rfl
theorem sluicegateref03_words.bits9 : waitsOk sluicegateref03_words.T9.2 sluicegateref03_words.B9 = true := by kernel_rfl
def sluicegateref03_words.T10 : Bool × List (List Nat × List Nat) := (true, [([], []), ([], []), ([1], [1]), ([0, 2], [0, 2]), ([3], [3]), ([4], [4]), ([], []), ([], []), ([7], [7]), ([6, 8], [6, 8]), ([9], [9]), ([10, 5], [10]), ([5, 11], [5, 11]), ([], []), ([], []), ([14], [14]), ([13, 15], [13, 15]), ([16], [16]), ([17], [17]), ([12, 18], [12, 18]), ([19, 11, 0, 1, 2, 3, 4, 5, 6, 7, 8, 9, 10, 11, 12, 13, 14, 15, 16, 17, 18, 19], [19])])
def sluicegateref03_words.B10 : List Nat := [0, 0, 2, 7, 15, 31, 0, 0, 128, 448, 960, 2047, 4095, 0, 0, 16384, 57344, 122880, 253952, 524287, 1048575]
theorem sluicegateref03_words.tab10 : rtab .any (opsOf Tryd.f77 10) = sluicegateref03_words.T10 := by kernel_rfl
theorem sluicegateref03_words.bits10 : waitsOk sluicegateref03_words.T10.2 sluicegateref03_words.B10 = true := by kernel_rfl
def sluicegateref03_words.T11 : Bool × List (List Nat × List Nat) := (true, [([], []), ([], []), ([], []), ([2], [2]), ([1, 3], [1, 3]), ([4], [4]), ([], []), ([5, 6], [5, 6]), ([], []), ([], []), ([9], [9]), ([8, 10], [8, 10]), ([11], [11]), ([7, 12], [7, 12]), ([], []), ([13, 14], [13, 14]), ([15], [15]), ([0, 16], [0, 16]), ([17, 17, 0, 1, 2, 3, 4, 5, 6, 7, 8, 9, 10, 11, 12, 13, 14, 15, 16, 17], [0, 1, 8, 17])])
def sluicegateref03_words.B11 : List Nat := [0, 0, 0, 4, 14, 30, 0, 126, 0, 0, 512, 1792, 3840, 8190, 0, 32766, 65534, 131071, 262143]
theorem sluicegateref03_words.tab11 : rtab .any (opsOf Tryd.f77 11) = sluicegateref03_words.T11 := by kernel_rfl
theorem sluicegateref03_words.bits11 : waitsOk sluicegateref03_words.T11.2 sluicegateref03_words.B11 = true := by kernel_rfl
set_option maxHeartbeats 8000000 in
set_option maxRecDepth 100000 in
theorem sluicegateref03_words.calls (k : Nat) (A0 : Option Addr) (c0 : Nat) (l0 : List Int) (r : List Int) (w : World) (hr0 : Kd.C (Kd.int .u8) w A0 l0.length l0) (hc0 : l0.length ≤ c0) (h : sluicegateref03_words.f k l0 = some r) :
    Calls Tryd.prog 77 #[.slice A0 l0.length c0] w fun e w' => ∃ v0_ : Value, e = .returned (v0_) ∧ Kd.R (Kd.int .u32) 91 w' w.heap.size (fun _ => True) v0_ r ∧ Below w.heap.size w w' := by
  have HR0 := Aside0.mk hr0
  have HC0 := Aside0.mk hc0
  clear hr0 hc0
  have HB := Aside0.mk (Below.refl w.heap.size w)
  have H : (sluicegateref03_words.l0 k l0 ([] : List Int) 0) = some r := h
  clear h
  have H' := Aside0.mk H
  clear H
  go_enter Tryd.func77, Tryd.ntmps77
  go_wp2
  go_loopg [3, 4] k (fun kq v3 v4 w' => ∃ (x3_1 : List Int) (x4_1 : Int), v4 = .int .i64 x4_1 ∧ Aside0 (sluicegateref03_words.l0 kq l0 x3_1 x4_1 = some r) ∧ Aside0 (kq ≤ k) ∧ Aside0 (Kd.R (Kd.int .u32) 91 w' w.heap.size (fun _ => True) v3 x3_1) ∧ Aside0 (Below w.heap.size w w'))
  case atStart => exact ⟨(([] : List Int)), (0), (by first | rfl | (simp; done) | (simp [*]; done)), H', ⟨Nat.le_refl _⟩, ⟨by first | exact Kd.R_nil _ _ _ _ _ | exact Kd.N_nil _ _ _ _ _ | exact Kd.V_nil _ _ _ _ _ | exact Kd.Q_nil _ _ _ _ _ | exact Kd.S_nil _ _ _ _ _⟩, ⟨by repeat (first | (with_reducible first | exact HB.out | apply below_alloc | apply pw_below_drewN | apply below_drew1) | exact HB.out)⟩⟩
  case round =>
    clear H'
    obtain ⟨x3_1, x4_1, rfl, HA, HK1, HO_3, HB⟩ := hrel
    cases gk with
    | zero => exact absurd HA.out (by simp [sluicegateref03_words.l0])
    | succ k1 =>
      have H := HA.out
      clear HA
      simp only [sluicegateref03_words.l0] at H
      by_cases c2 : x4_1 < 16
      · rw [if_pos c2] at H
        have c2b0 : decide (x4_1 < 16) = true := decide_eq_true c2
        clear c2
        obtain ⟨ji3, hji3⟩ : ∃ j_ : Int, (wrap64 (4 * x4_1)) = j_ := ⟨_, rfl⟩
        replace H : (if 0 ≤ (ji3) then (if (ji3) < (l0.length : Int) then (if 0 ≤ (wrap64 ((ji3) + 1)) then (if (wrap64 ((ji3) + 1)) < (l0.length : Int) then (if 0 ≤ (wrap64 ((ji3) + 2)) then (if (wrap64 ((ji3) + 2)) < (l0.length : Int) then (if 0 ≤ (wrap64 ((ji3) + 3)) then (if (wrap64 ((ji3) + 3)) < (l0.length : Int) then (if x3_1.length < 35184372088832 then (sluicegateref03_words.l0 k1 l0 (x3_1 ++ [Go.bits .or .u32 (Go.bits .or .u32 (Go.bits .or .u32 ((((rd l0 (ji3)) % 4294967296) * 16777216) % 4294967296) ((((rd l0 (wrap64 ((ji3) + 1))) % 4294967296) * 65536) % 4294967296)) ((((rd l0 (wrap64 ((ji3) + 2))) % 4294967296) * 256) % 4294967296)) ((rd l0 (wrap64 ((ji3) + 3))) % 4294967296)]) (wrap64 (x4_1 + 1))) else (none)) else (none)) else (none)) else (none)) else (none)) else (none)) else (none)) else (none)) else (none)) = some r := by first | (rw [hji3] at H; exact H) | (simp only [hji3] at H ⊢; exact H)
        have hji3w : (IntKind.i64.wrap (4 * x4_1)) = ji3 := (i64_w _).trans hji3
        by_cases c4 : 0 ≤ (ji3)
        · rw [if_pos c4] at H
          have c4b0 : decide (0 ≤ (ji3)) = true := decide_eq_true c4
          clear c4
          by_cases c5 : (ji3) < (l0.length : Int)
          · rw [if_pos c5] at H
            have c5b0 : decide ((ji3) < (l0.length : Int)) = true := decide_eq_true c5
            clear c5
            obtain ⟨ji6, hji6⟩ : ∃ j_ : Int, (wrap64 ((ji3) + 1)) = j_ := ⟨_, rfl⟩
            replace H : (if 0 ≤ (ji6) then (if (ji6) < (l0.length : Int) then (if 0 ≤ (wrap64 ((ji3) + 2)) then (if (wrap64 ((ji3) + 2)) < (l0.length : Int) then (if 0 ≤ (wrap64 ((ji3) + 3)) then (if (wrap64 ((ji3) + 3)) < (l0.length : Int) then (if x3_1.length < 35184372088832 then (sluicegateref03_words.l0 k1 l0 (x3_1 ++ [Go.bits .or .u32 (Go.bits .or .u32 (Go.bits .or .u32 ((((rd l0 (ji3)) % 4294967296) * 16777216) % 4294967296) ((((rd l0 (ji6)) % 4294967296) * 65536) % 4294967296)) ((((rd l0 (wrap64 ((ji3) + 2))) % 4294967296) * 256) % 4294967296)) ((rd l0 (wrap64 ((ji3) + 3))) % 4294967296)]) (wrap64 (x4_1 + 1))) else (none)) else (none)) else (none)) else (none)) else (none)) else (none)) else (none)) = some r := by first | (rw [hji6] at H; exact H) | (simp only [hji6] at H ⊢; exact H)
            have hji6w : (IntKind.i64.wrap ((ji3) + 1)) = ji6 := (i64_w _).trans hji6
            by_cases c7 : 0 ≤ (ji6)
            · rw [if_pos c7] at H
              have c7b0 : decide (0 ≤ (ji6)) = true := decide_eq_true c7
              clear c7
              by_cases c8 : (ji6) < (l0.length : Int)
              · rw [if_pos c8] at H
                have c8b0 : decide ((ji6) < (l0.length : Int)) = true := decide_eq_true c8
                clear c8
                obtain ⟨ji9, hji9⟩ : ∃ j_ : Int, (wrap64 ((ji3) + 2)) = j_ := ⟨_, rfl⟩
                replace H : (if 0 ≤ (ji9) then (if (ji9) < (l0.length : Int) then (if 0 ≤ (wrap64 ((ji3) + 3)) then (if (wrap64 ((ji3) + 3)) < (l0.length : Int) then (if x3_1.length < 35184372088832 then (sluicegateref03_words.l0 k1 l0 (x3_1 ++ [Go.bits .or .u32 (Go.bits .or .u32 (Go.bits .or .u32 ((((rd l0 (ji3)) % 4294967296) * 16777216) % 4294967296) ((((rd l0 (ji6)) % 4294967296) * 65536) % 4294967296)) ((((rd l0 (ji9)) % 4294967296) * 256) % 4294967296)) ((rd l0 (wrap64 ((ji3) + 3))) % 4294967296)]) (wrap64 (x4_1 + 1))) else (none)) else (none)) else (none)) else (none)) else (none)) = some r := by first | (rw [hji9] at H; exact H) | (simp only [hji9] at H ⊢; exact H)
                have hji9w : (IntKind.i64.wrap ((ji3) + 2)) = ji9 := (i64_w _).trans hji9
                by_cases c10 : 0 ≤ (ji9)
                · rw [if_pos c10] at H
                  have c10b0 : decide (0 ≤ (ji9)) = true := decide_eq_true c10
                  clear c10
                  by_cases c11 : (ji9) < (l0.length : Int)
                  · rw [if_pos c11] at H
                    have c11b0 : decide ((ji9) < (l0.length : Int)) = true := decide_eq_true c11
                    clear c11
                    obtain ⟨ji12, hji12⟩ : ∃ j_ : Int, (wrap64 ((ji3) + 3)) = j_ := ⟨_, rfl⟩
                    replace H : (if 0 ≤ (ji12) then (if (ji12) < (l0.length : Int) then (if x3_1.length < 35184372088832 then (sluicegateref03_words.l0 k1 l0 (x3_1 ++ [Go.bits .or .u32 (Go.bits .or .u32 (Go.bits .or .u32 ((((rd l0 (ji3)) % 4294967296) * 16777216) % 4294967296) ((((rd l0 (ji6)) % 4294967296) * 65536) % 4294967296)) ((((rd l0 (ji9)) % 4294967296) * 256) % 4294967296)) ((rd l0 (ji12)) % 4294967296)]) (wrap64 (x4_1 + 1))) else (none)) else (none)) else (none)) = some r := by first | (rw [hji12] at H; exact H) | (simp only [hji12] at H ⊢; exact H)
                    have hji12w : (IntKind.i64.wrap ((ji3) + 3)) = ji12 := (i64_w _).trans hji12
                    by_cases c13 : 0 ≤ (ji12)
                    · rw [if_pos c13] at H
                      have c13b0 : decide (0 ≤ (ji12)) = true := decide_eq_true c13
                      clear c13
                      by_cases c14 : (ji12) < (l0.length : Int)
                      · rw [if_pos c14] at H
                        have c14b0 : decide ((ji12) < (l0.length : Int)) = true := decide_eq_true c14
                        clear c14
                        by_cases c15 : x3_1.length < 35184372088832
                        · rw [if_pos c15] at H
                          have LMc15 := Aside0.mk c15
                          clear c15
                          obtain ⟨y217, hy217⟩ : ∃ y_ : List Int, y_ = (x3_1 ++ [Go.bits .or .u32 (Go.bits .or .u32 (Go.bits .or .u32 ((((rd l0 (ji3)) % 4294967296) * 16777216) % 4294967296) ((((rd l0 (ji6)) % 4294967296) * 65536) % 4294967296)) ((((rd l0 (ji9)) % 4294967296) * 256) % 4294967296)) ((rd l0 (ji12)) % 4294967296)]) := ⟨_, rfl⟩
                          replace H : (sluicegateref03_words.l0 k1 l0 y217 (wrap64 (x4_1 + 1))) = some r := by first | (rw [hy217]; with_reducible exact H) | (have H2_ := (Option.bind_some _ _).symm.trans H; rw [hy217]; with_reducible exact H2_) | (have H2_ := (Option.bind_some _ _).symm.trans H; with_reducible exact H2_) | with_reducible exact H | (rw [hy217]; exact H) | exact H
                          have Ny217 := Aside0.mk hy217
                          clear hy217
                          have H' := Aside0.mk H
                          clear H
                          try go_wp2
                          have n0_ := Aside0.mk (Kd.R_drew HO_3.out)
                          have n1_ := Aside0.mk (below_drew1 HB.out)
                          clear HO_3
                          clear HB
                          have HO_3 := n0_
                          have HB := n1_
                          clear n0_ n1_
                          have p213 : 0 ≤ ((ji3) : Int) := of_decide_eq_true (by first | (with_reducible assumption) | assumption)
                          have q213 : (ji3) < (l0.length : Int) := of_decide_eq_true (by first | (with_reducible assumption) | assumption)
                          obtain ⟨ad213, e213, hx213_0⟩ := Kd.at_int HR0.out (ji3) p213 q213
                          have hw213_0 := hx213_0
                          cases e213
                          replace hx213_0 := (HB.out.cell (World.block_lt_of_cell? w _ hx213_0)).trans hx213_0
                          replace p213 := eq_true p213
                          replace q213 := eq_true q213
                          have p214 : 0 ≤ ((ji6) : Int) := of_decide_eq_true (by first | (with_reducible assumption) | assumption)
                          have q214 : (ji6) < (l0.length : Int) := of_decide_eq_true (by first | (with_reducible assumption) | assumption)
                          obtain ⟨ad214, e214, hx214_0⟩ := Kd.at_int HR0.out (ji6) p214 q214
                          have hw214_0 := hx214_0
                          obtain rfl : ad213 = ad214 := (by injection e214)
                          replace hx214_0 := (HB.out.cell (World.block_lt_of_cell? w _ hx214_0)).trans hx214_0
                          replace p214 := eq_true p214
                          replace q214 := eq_true q214
                          have p215 : 0 ≤ ((ji9) : Int) := of_decide_eq_true (by first | (with_reducible assumption) | assumption)
                          have q215 : (ji9) < (l0.length : Int) := of_decide_eq_true (by first | (with_reducible assumption) | assumption)
                          obtain ⟨ad215, e215, hx215_0⟩ := Kd.at_int HR0.out (ji9) p215 q215
                          have hw215_0 := hx215_0
                          obtain rfl : ad213 = ad215 := (by injection e215)
                          replace hx215_0 := (HB.out.cell (World.block_lt_of_cell? w _ hx215_0)).trans hx215_0
                          replace p215 := eq_true p215
                          replace q215 := eq_true q215
                          have p216 : 0 ≤ ((ji12) : Int) := of_decide_eq_true (by first | (with_reducible assumption) | assumption)
                          have q216 : (ji12) < (l0.length : Int) := of_decide_eq_true (by first | (with_reducible assumption) | assumption)
                          obtain ⟨ad216, e216, hx216_0⟩ := Kd.at_int HR0.out (ji12) p216 q216
                          have hw216_0 := hx216_0
                          obtain rfl : ad213 = ad216 := (by injection e216)
                          replace hx216_0 := (HB.out.cell (World.block_lt_of_cell? w _ hx216_0)).trans hx216_0
                          replace p216 := eq_true p216
                          replace q216 := eq_true q216
                          refine start_ (n := 37) (S := fun w' => w'.cell? (ad213.add ((ji3)).toNat) = some (.int .u8 (rd l0 (ji3))) ∧ w'.cell? (ad213.add ((ji6)).toNat) = some (.int .u8 (rd l0 (ji6))) ∧ w'.cell? (ad213.add ((ji9)).toNat) = some (.int .u8 (rd l0 (ji9))) ∧ w'.cell? (ad213.add ((ji12)).toNat) = some (.int .u8 (rd l0 (ji12)))) (ds := []) #[false, false, false, false, false, false, false, false, false, false, false, false, false, false, false, false, false, false, false, false, false, false, false, false, false, false, false, false, false, false, false, false, false, false, false, false, false] (by kernel_rfl) rfl rfl ⟨((HB.out.cell (World.block_lt_of_cell? w _ hw213_0)).trans hw213_0), ((HB.out.cell (World.block_lt_of_cell? w _ hw214_0)).trans hw214_0), ((HB.out.cell (World.block_lt_of_cell? w _ hw215_0)).trans hw215_0), ((HB.out.cell (World.block_lt_of_cell? w _ hw216_0)).trans hw216_0)⟩ (fun hHeld => ?_); refine with_tabW sluicegateref03_words.tab5 sluicegateref03_words.bits5 (fun HT_ HW_ => ?_)
                          generalize wr.drew = w16 at HO_3 HB hx213_0 hx214_0 hx215_0 hx216_0 hHeld ⊢
                          refine pure_ (i := 0) (N := some 12) (v := ?_) (a' := ?_) #[true, false, false, false, false, false, false, false, false, false, false, false, false, false, false, false, false, false, false, false, false, false, false, false, false, false, false, false, false, false, false, false, false, false, false, false, false] rfl rfl (any_of HT_.out (by kernel_rfl)) (fun _ _ _ h => h) (Or.inl ⟨by rfl, ?_⟩) ?_ ?_
                          rotate_left
                          · intro w'
                            go_simp
                            with_reducible rfl
                          rotate_left
                          · simp only [Act.put, List.setIfInBounds_toArray, List.set_cons_zero, List.set_cons_succ, i64_w, i32_w]
                            rfl
                          refine pure_ (i := 1) (N := some 13) (v := ?_) (a' := ?_) #[true, true, false, false, false, false, false, false, false, false, false, false, false, false, false, false, false, false, false, false, false, false, false, false, false, false, false, false, false, false, false, false, false, false, false, false, false] rfl rfl (any_of HT_.out (by kernel_rfl)) (fun _ _ _ h => h) (Or.inl ⟨by rfl, ?_⟩) ?_ ?_
                          rotate_left
                          · intro w'
                            go_simp
                            with_reducible rfl
                          rotate_left
                          · simp only [Act.put, List.setIfInBounds_toArray, List.set_cons_zero, List.set_cons_succ, i64_w, i32_w]
                            rfl
                          refine pure_ (i := 2) (N := some 14) (v := ?_) (a' := ?_) #[true, true, true, false, false, false, false, false, false, false, false, false, false, false, false, false, false, false, false, false, false, false, false, false, false, false, false, false, false, false, false, false, false, false, false, false, false] rfl rfl (any_of HT_.out (by kernel_rfl)) (fun _ _ _ h => h) (Or.inl ⟨by rfl, ?_⟩) ?_ ?_
                          rotate_left
                          · intro w'
                            go_simp
                            with_reducible rfl
                          rotate_left
                          · simp only [Act.put, List.setIfInBounds_toArray, List.set_cons_zero, List.set_cons_succ, i64_w, i32_w]
                            rfl
                          refine pure_ (i := 3) (N := some 15) (v := ?_) (a' := ?_) #[true, true, true, true, false, false, false, false, false, false, false, false, false, false, false, false, false, false, false, false, false, false, false, false, false, false, false, false, false, false, false, false, false, false, false, false, false] rfl rfl (any_of HT_.out (by kernel_rfl)) (fun _ _ _ h => h) (Or.inl ⟨by rfl, ?_⟩) ?_ ?_
                          rotate_left
                          · intro w'
                            go_simp
                            with_reducible rfl
                          rotate_left
                          · simp only [Act.put, List.setIfInBounds_toArray, List.set_cons_zero, List.set_cons_succ, i64_w, i32_w]
                            rfl
                          refine pure_ (i := 4) (N := some 16) (v := ?_) (a' := ?_) #[true, true, true, true, true, false, false, false, false, false, false, false, false, false, false, false, false, false, false, false, false, false, false, false, false, false, false, false, false, false, false, false, false, false, false, false, false] rfl rfl (any_of HT_.out (by kernel_rfl)) (fun _ _ _ h => h) (Or.inl ⟨by rfl, ?_⟩) ?_ ?_
                          rotate_left
                          · intro w'
                            go_simp
                            with_reducible rfl
                          rotate_left
                          · simp only [Act.put, List.setIfInBounds_toArray, List.set_cons_zero, List.set_cons_succ, i64_w, i32_w]
                            rfl
                          refine pure_ (i := 8) (N := some 20) (v := ?_) (a' := ?_) #[true, true, true, true, true, false, false, false, true, false, false, false, false, false, false, false, false, false, false, false, false, false, false, false, false, false, false, false, false, false, false, false, false, false, false, false, false] rfl rfl (any_of HT_.out (by kernel_rfl)) (fun _ _ _ h => h) (Or.inl ⟨by rfl, ?_⟩) ?_ ?_
                          rotate_left
                          · intro w'
                            go_simp
                            with_reducible rfl
                          rotate_left
                          · simp only [Act.put, List.setIfInBounds_toArray, List.set_cons_zero, List.set_cons_succ, i64_w, i32_w]
                            rfl
                          refine pure_ (i := 9) (N := some 21) (v := ?_) (a' := ?_) #[true, true, true, true, true, false, false, false, true, true, false, false, false, false, false, false, false, false, false, false, false, false, false, false, false, false, false, false, false, false, false, false, false, false, false, false, false] rfl rfl (any_of HT_.out (by kernel_rfl)) (fun _ _ _ h => h) (Or.inl ⟨by rfl, ?_⟩) ?_ ?_
                          rotate_left
                          · intro w'
                            go_simp
                            with_reducible rfl
                          rotate_left
                          · simp only [Act.put, List.setIfInBounds_toArray, List.set_cons_zero, List.set_cons_succ, i64_w, i32_w]
                            rfl
                          refine pure_ (i := 10) (N := some 22) (v := ?_) (a' := ?_) #[true, true, true, true, true, false, false, false, true, true, true, false, false, false, false, false, false, false, false, false, false, false, false, false, false, false, false, false, false, false, false, false, false, false, false, false, false] rfl rfl (any_of HT_.out (by kernel_rfl)) (fun _ _ _ h => h) (Or.inl ⟨by rfl, ?_⟩) ?_ ?_
                          rotate_left
                          · intro w'
                            go_simp
                            with_reducible rfl
                          rotate_left
                          · simp only [Act.put, List.setIfInBounds_toArray, List.set_cons_zero, List.set_cons_succ, i64_w, i32_w]
                            rfl
                          refine pure_ (i := 11) (N := some 23) (v := ?_) (a' := ?_) #[true, true, true, true, true, false, false, false, true, true, true, true, false, false, false, false, false, false, false, false, false, false, false, false, false, false, false, false, false, false, false, false, false, false, false, false, false] rfl rfl (any_of HT_.out (by kernel_rfl)) (fun _ _ _ h => h) (Or.inl ⟨by rfl, ?_⟩) ?_ ?_
                          rotate_left
                          · intro w'
                            go_simp
                            with_reducible rfl
                          rotate_left
                          · simp only [Act.put, List.setIfInBounds_toArray, List.set_cons_zero, List.set_cons_succ, i64_w, i32_w]
                            rfl
                          refine pure_ (i := 12) (N := some 24) (v := ?_) (a' := ?_) #[true, true, true, true, true, false, false, false, true, true, true, true, true, false, false, false, false, false, false, false, false, false, false, false, false, false, false, false, false, false, false, false, false, false, false, false, false] rfl rfl (any_of HT_.out (by kernel_rfl)) (fun _ _ _ h => h) (Or.inl ⟨by rfl, ?_⟩) ?_ ?_
                          rotate_left
                          · intro w'
                            go_simp
                            with_reducible rfl
                          rotate_left
                          · simp only [Act.put, List.setIfInBounds_toArray, List.set_cons_zero, List.set_cons_succ, i64_w, i32_w]
                            rfl
                          refine pure_ (i := 17) (N := some 29) (v := ?_) (a' := ?_) #[true, true, true, true, true, false, false, false, true, true, true, true, true, false, false, false, false, true, false, false, false, false, false, false, false, false, false, false, false, false, false, false, false, false, false, false, false] rfl rfl (any_of HT_.out (by kernel_rfl)) (fun _ _ _ h => h) (Or.inl ⟨by rfl, ?_⟩) ?_ ?_
                          rotate_left
                          · intro w'
                            go_simp
                            with_reducible rfl
                          rotate_left
                          · simp only [Act.put, List.setIfInBounds_toArray, List.set_cons_zero, List.set_cons_succ, i64_w, i32_w]
                            rfl
                          refine pure_ (i := 18) (N := some 30) (v := ?_) (a' := ?_) #[true, true, true, true, true, false, false, false, true, true, true, true, true, false, false, false, false, true, true, false, false, false, false, false, false, false, false, false, false, false, false, false, false, false, false, false, false] rfl rfl (any_of HT_.out (by kernel_rfl)) (fun _ _ _ h => h) (Or.inl ⟨by rfl, ?_⟩) ?_ ?_
                          rotate_left
                          · intro w'
                            go_simp
                            with_reducible rfl
                          rotate_left
                          · simp only [Act.put, List.setIfInBounds_toArray, List.set_cons_zero, List.set_cons_succ, i64_w, i32_w]
                            rfl
                          refine pure_ (i := 19) (N := some 31) (v := ?_) (a' := ?_) #[true, true, true, true, true, false, false, false, true, true, true, true, true, false, false, false, false, true, true, true, false, false, false, false, false, false, false, false, false, false, false, false, false, false, false, false, false] rfl rfl (any_of HT_.out (by kernel_rfl)) (fun _ _ _ h => h) (Or.inl ⟨by rfl, ?_⟩) ?_ ?_
                          rotate_left
                          · intro w'
                            go_simp
                            with_reducible rfl
                          rotate_left
                          · simp only [Act.put, List.setIfInBounds_toArray, List.set_cons_zero, List.set_cons_succ, i64_w, i32_w]
                            rfl
                          refine pure_ (i := 20) (N := some 32) (v := ?_) (a' := ?_) #[true, true, true, true, true, false, false, false, true, true, true, true, true, false, false, false, false, true, true, true, true, false, false, false, false, false, false, false, false, false, false, false, false, false, false, false, false] rfl rfl (any_of HT_.out (by kernel_rfl)) (fun _ _ _ h => h) (Or.inl ⟨by rfl, ?_⟩) ?_ ?_
                          rotate_left
                          · intro w'
                            go_simp
                            with_reducible rfl
                          rotate_left
                          · simp only [Act.put, List.setIfInBounds_toArray, List.set_cons_zero, List.set_cons_succ, i64_w, i32_w]
                            rfl
                          refine pure_ (i := 21) (N := some 33) (v := ?_) (a' := ?_) #[true, true, true, true, true, false, false, false, true, true, true, true, true, false, false, false, false, true, true, true, true, true, false, false, false, false, false, false, false, false, false, false, false, false, false, false, false] rfl rfl (any_of HT_.out (by kernel_rfl)) (fun _ _ _ h => h) (Or.inl ⟨by rfl, ?_⟩) ?_ ?_
                          rotate_left
                          · intro w'
                            go_simp
                            with_reducible rfl
                          rotate_left
                          · simp only [Act.put, List.setIfInBounds_toArray, List.set_cons_zero, List.set_cons_succ, i64_w, i32_w]
                            rfl
                          refine pure_ (i := 26) (N := some 38) (v := ?_) (a' := ?_) #[true, true, true, true, true, false, false, false, true, true, true, true, true, false, false, false, false, true, true, true, true, true, false, false, false, false, true, false, false, false, false, false, false, false, false, false, false] rfl rfl (any_of HT_.out (by kernel_rfl)) (fun _ _ _ h => h) (Or.inl ⟨by rfl, ?_⟩) ?_ ?_
                          rotate_left
                          · intro w'
                            go_simp
                            with_reducible rfl
                          rotate_left
                          · simp only [Act.put, List.setIfInBounds_toArray, List.set_cons_zero, List.set_cons_succ, i64_w, i32_w]
                            rfl
                          refine pure_ (i := 27) (N := some 39) (v := ?_) (a' := ?_) #[true, true, true, true, true, false, false, false, true, true, true, true, true, false, false, false, false, true, true, true, true, true, false, false, false, false, true, true, false, false, false, false, false, false, false, false, false] rfl rfl (any_of HT_.out (by kernel_rfl)) (fun _ _ _ h => h) (Or.inl ⟨by rfl, ?_⟩) ?_ ?_
                          rotate_left
                          · intro w'
                            go_simp
                            with_reducible rfl
                          rotate_left
                          · simp only [Act.put, List.setIfInBounds_toArray, List.set_cons_zero, List.set_cons_succ, i64_w, i32_w]
                            rfl
                          refine pure_ (i := 28) (N := some 40) (v := ?_) (a' := ?_) #[true, true, true, true, true, false, false, false, true, true, true, true, true, false, false, false, false, true, true, true, true, true, false, false, false, false, true, true, true, false, false, false, false, false, false, false, false] rfl rfl (any_of HT_.out (by kernel_rfl)) (fun _ _ _ h => h) (Or.inl ⟨by rfl, ?_⟩) ?_ ?_
                          rotate_left
                          · intro w'
                            go_simp
                            with_reducible rfl
                          rotate_left
                          · simp only [Act.put, List.setIfInBounds_toArray, List.set_cons_zero, List.set_cons_succ, i64_w, i32_w]
                            rfl
                          refine pure_ (i := 29) (N := some 41) (v := ?_) (a' := ?_) #[true, true, true, true, true, false, false, false, true, true, true, true, true, false, false, false, false, true, true, true, true, true, false, false, false, false, true, true, true, true, false, false, false, false, false, false, false] rfl rfl (any_of HT_.out (by kernel_rfl)) (fun _ _ _ h => h) (Or.inl ⟨by rfl, ?_⟩) ?_ ?_
                          rotate_left
                          · intro w'
                            go_simp
                            with_reducible rfl
                          rotate_left
                          · simp only [Act.put, List.setIfInBounds_toArray, List.set_cons_zero, List.set_cons_succ, i64_w, i32_w]
                            rfl
                          refine pure_ (i := 30) (N := some 42) (v := ?_) (a' := ?_) #[true, true, true, true, true, false, false, false, true, true, true, true, true, false, false, false, false, true, true, true, true, true, false, false, false, false, true, true, true, true, true, false, false, false, false, false, false] rfl rfl (any_of HT_.out (by kernel_rfl)) (fun _ _ _ h => h) (Or.inl ⟨by rfl, ?_⟩) ?_ ?_
                          rotate_left
                          · intro w'
                            go_simp
                            with_reducible rfl
                          rotate_left
                          · simp only [Act.put, List.setIfInBounds_toArray, List.set_cons_zero, List.set_cons_succ, i64_w, i32_w]
                            rfl
                          refine take_ (i := 5) (N := some 17) (v := ?_) (a' := ?_) #[true, true, true, true, true, true, false, false, true, true, true, true, true, false, false, false, false, true, true, true, true, true, false, false, false, false, true, true, true, true, true, false, false, false, false, false, false] rfl rfl (take_ofW HT_.out HW_.out (by kernel_rfl)) (fun _ _ _ h => h) (Or.inl ⟨by rfl, ?_⟩) hHeld ?_ ?_
                          rotate_left
                          · rintro w' ⟨s0, s1, s2, s3⟩
                            go_simp
                            with_reducible rfl
                          rotate_left
                          · simp only [Act.put, List.setIfInBounds_toArray, List.set_cons_zero, List.set_cons_succ, i64_w, i32_w]
                            rfl
                          refine pure_ (i := 6) (N := some 18) (v := ?_) (a' := ?_) #[true, true, true, true, true, true, true, false, true, true, true, true, true, false, false, false, false, true, true, true, true, true, false, false, false, false, true, true, true, true, true, false, false, false, false, false, false] rfl rfl (any_of HT_.out (by kernel_rfl)) (fun _ _ _ h => h) (Or.inl ⟨by rfl, ?_⟩) ?_ ?_
                          rotate_left
                          · intro w'
                            go_simp
                            with_reducible rfl
                          rotate_left
                          · simp only [Act.put, List.setIfInBounds_toArray, List.set_cons_zero, List.set_cons_succ, i64_w, i32_w]
                            rfl
                          refine pure_ (i := 7) (N := some 19) (v := ?_) (a' := ?_) #[true, true, true, true, true, true, true, true, true, true, true, true, true, false, false, false, false, true, true, true, true, true, false, false, false, false, true, true, true, true, true, false, false, false, false, false, false] rfl rfl (any_of HT_.out (by kernel_rfl)) (fun _ _ _ h => h) (Or.inl ⟨by rfl, ?_⟩) ?_ ?_
                          rotate_left
                          · intro w'
                            go_simp
                            with_reducible rfl
                          rotate_left
                          · simp only [Act.put, List.setIfInBounds_toArray, List.set_cons_zero, List.set_cons_succ, i64_w, i32_w]
                            rfl
                          refine take_ (i := 13) (N := some 25) (v := ?_) (a' := ?_) #[true, true, true, true, true, true, true, true, true, true, true, true, true, true, false, false, false, true, true, true, true, true, false, false, false, false, true, true, true, true, true, false, false, false, false, false, false] rfl rfl (take_ofW HT_.out HW_.out (by kernel_rfl)) (fun _ _ _ h => h) (Or.inl ⟨by rfl, ?_⟩) hHeld ?_ ?_
                          rotate_left
                          · rintro w' ⟨s0, s1, s2, s3⟩
                            go_simp
                            with_reducible rfl
                          rotate_left
                          · simp only [Act.put, List.setIfInBounds_toArray, List.set_cons_zero, List.set_cons_succ, i64_w, i32_w]
                            rfl
                          refine pure_ (i := 14) (N := some 26) (v := ?_) (a' := ?_) #[true, true, true, true, true, true, true, true, true, true, true, true, true, true, true, false, false, true, true, true, true, true, false, false, false, false, true, true, true, true, true, false, false, false, false, false, false] rfl rfl (any_of HT_.out (by kernel_rfl)) (fun _ _ _ h => h) (Or.inl ⟨by rfl, ?_⟩) ?_ ?_
                          rotate_left
                          · intro w'
                            go_simp
                            with_reducible rfl
                          rotate_left
                          · simp only [Act.put, List.setIfInBounds_toArray, List.set_cons_zero, List.set_cons_succ, i64_w, i32_w]
                            rfl
                          refine pure_ (i := 15) (N := some 27) (v := ?_) (a' := ?_) #[true, true, true, true, true, true, true, true, true, true, true, true, true, true, true, true, false, true, true, true, true, true, false, false, false, false, true, true, true, true, true, false, false, false, false, false, false] rfl rfl (any_of HT_.out (by kernel_rfl)) (fun _ _ _ h => h) (Or.inl ⟨by rfl, ?_⟩) ?_ ?_
                          rotate_left
                          · intro w'
                            go_simp
                            with_reducible rfl
                          rotate_left
                          · simp only [Act.put, List.setIfInBounds_toArray, List.set_cons_zero, List.set_cons_succ, i64_w, i32_w]
                            rfl
                          refine pure_ (i := 16) (N := some 28) (v := ?_) (a' := ?_) #[true, true, true, true, true, true, true, true, true, true, true, true, true, true, true, true, true, true, true, true, true, true, false, false, false, false, true, true, true, true, true, false, false, false, false, false, false] rfl rfl (any_of HT_.out (by kernel_rfl)) (fun _ _ _ h => h) (Or.inl ⟨by rfl, ?_⟩) ?_ ?_
                          rotate_left
                          · intro w'
                            go_simp
                            with_reducible rfl
                          rotate_left
                          · simp only [Act.put, List.setIfInBounds_toArray, List.set_cons_zero, List.set_cons_succ, i64_w, i32_w]
                            rfl
                          refine take_ (i := 22) (N := some 34) (v := ?_) (a' := ?_) #[true, true, true, true, true, true, true, true, true, true, true, true, true, true, true, true, true, true, true, true, true, true, true, false, false, false, true, true, true, true, true, false, false, false, false, false, false] rfl rfl (take_ofW HT_.out HW_.out (by kernel_rfl)) (fun _ _ _ h => h) (Or.inl ⟨by rfl, ?_⟩) hHeld ?_ ?_
                          rotate_left
                          · rintro w' ⟨s0, s1, s2, s3⟩
                            go_simp
                            with_reducible rfl
                          rotate_left
                          · simp only [Act.put, List.setIfInBounds_toArray, List.set_cons_zero, List.set_cons_succ, i64_w, i32_w]
                            rfl
                          refine pure_ (i := 23) (N := some 35) (v := ?_) (a' := ?_) #[true, true, true, true, true, true, true, true, true, true, true, true, true, true, true, true, true, true, true, true, true, true, true, true, false, false, true, true, true, true, true, false, false, false, false, false, false] rfl rfl (any_of HT_.out (by kernel_rfl)) (fun _ _ _ h => h) (Or.inl ⟨by rfl, ?_⟩) ?_ ?_
                          rotate_left
                          · intro w'
                            go_simp
                            with_reducible rfl
                          rotate_left
                          · simp only [Act.put, List.setIfInBounds_toArray, List.set_cons_zero, List.set_cons_succ, i64_w, i32_w]
                            rfl
                          refine pure_ (i := 24) (N := some 36) (v := ?_) (a' := ?_) #[true, true, true, true, true, true, true, true, true, true, true, true, true, true, true, true, true, true, true, true, true, true, true, true, true, false, true, true, true, true, true, false, false, false, false, false, false] rfl rfl (any_of HT_.out (by kernel_rfl)) (fun _ _ _ h => h) (Or.inl ⟨by rfl, ?_⟩) ?_ ?_
                          rotate_left
                          · intro w'
                            go_simp
                            with_reducible rfl
                          rotate_left
                          · simp only [Act.put, List.setIfInBounds_toArray, List.set_cons_zero, List.set_cons_succ, i64_w, i32_w]
                            rfl
                          refine pure_ (i := 25) (N := some 37) (v := ?_) (a' := ?_) #[true, true, true, true, true, true, true, true, true, true, true, true, true, true, true, true, true, true, true, true, true, true, true, true, true, true, true, true, true, true, true, false, false, false, false, false, false] rfl rfl (any_of HT_.out (by kernel_rfl)) (fun _ _ _ h => h) (Or.inl ⟨by rfl, ?_⟩) ?_ ?_
                          rotate_left
                          · intro w'
                            go_simp
                            with_reducible rfl
                          rotate_left
                          · simp only [Act.put, List.setIfInBounds_toArray, List.set_cons_zero, List.set_cons_succ, i64_w, i32_w]
                            rfl
                          refine take_ (i := 31) (N := some 43) (v := ?_) (a' := ?_) #[true, true, true, true, true, true, true, true, true, true, true, true, true, true, true, true, true, true, true, true, true, true, true, true, true, true, true, true, true, true, true, true, false, false, false, false, false] rfl rfl (take_ofW HT_.out HW_.out (by kernel_rfl)) (fun _ _ _ h => h) (Or.inl ⟨by rfl, ?_⟩) hHeld ?_ ?_
                          rotate_left
                          · rintro w' ⟨s0, s1, s2, s3⟩
                            go_simp
                            with_reducible rfl
                          rotate_left
                          · simp only [Act.put, List.setIfInBounds_toArray, List.set_cons_zero, List.set_cons_succ, i64_w, i32_w]
                            rfl
                          refine pure_ (i := 32) (N := some 44) (v := ?_) (a' := ?_) #[true, true, true, true, true, true, true, true, true, true, true, true, true, true, true, true, true, true, true, true, true, true, true, true, true, true, true, true, true, true, true, true, true, false, false, false, false] rfl rfl (any_of HT_.out (by kernel_rfl)) (fun _ _ _ h => h) (Or.inl ⟨by rfl, ?_⟩) ?_ ?_
                          rotate_left
                          · intro w'
                            go_simp
                            with_reducible rfl
                          rotate_left
                          · simp only [Act.put, List.setIfInBounds_toArray, List.set_cons_zero, List.set_cons_succ, i64_w, i32_w]
                            rfl
                          refine pure_ (i := 33) (N := some 45) (v := ?_) (a' := ?_) #[true, true, true, true, true, true, true, true, true, true, true, true, true, true, true, true, true, true, true, true, true, true, true, true, true, true, true, true, true, true, true, true, true, true, false, false, false] rfl rfl (any_of HT_.out (by kernel_rfl)) (fun _ _ _ h => h) (Or.inl ⟨by rfl, ?_⟩) ?_ ?_
                          rotate_left
                          · intro w'
                            go_simp
                            with_reducible rfl
                          rotate_left
                          · simp only [Act.put, List.setIfInBounds_toArray, List.set_cons_zero, List.set_cons_succ, i64_w, i32_w]
                            rfl
                          refine one_ (i := 34) (N := some 46) #[true, true, true, true, true, true, true, true, true, true, true, true, true, true, true, true, true, true, true, true, true, true, true, true, true, true, true, true, true, true, true, true, true, true, true, false, false] rfl rfl (one_of HT_.out (by kernel_rfl)) (by decide) (fun K hK => ?_)
                          refine value_ (w1 := ?_) (v := ?_) (by rfl) rfl ?_ ?_
                          rotate_left 2
                          · go_simp
                            constructor
                            · rfl
                            · rfl
                          refine hK.out _ _ ⟨(World.cell?_alloc_lt _ _ _ (World.block_lt_of_cell? _ _ (((HB.out.cell (World.block_lt_of_cell? w _ hw213_0)).trans hw213_0)))).trans (((HB.out.cell (World.block_lt_of_cell? w _ hw213_0)).trans hw213_0)), (World.cell?_alloc_lt _ _ _ (World.block_lt_of_cell? _ _ (((HB.out.cell (World.block_lt_of_cell? w _ hw214_0)).trans hw214_0)))).trans (((HB.out.cell (World.block_lt_of_cell? w _ hw214_0)).trans hw214_0)), (World.cell?_alloc_lt _ _ _ (World.block_lt_of_cell? _ _ (((HB.out.cell (World.block_lt_of_cell? w _ hw215_0)).trans hw215_0)))).trans (((HB.out.cell (World.block_lt_of_cell? w _ hw215_0)).trans hw215_0)), (World.cell?_alloc_lt _ _ _ (World.block_lt_of_cell? _ _ (((HB.out.cell (World.block_lt_of_cell? w _ hw216_0)).trans hw216_0)))).trans (((HB.out.cell (World.block_lt_of_cell? w _ hw216_0)).trans hw216_0))⟩ (fun hHeld => ?_)
                          clear hK K
                          refine norm_ (a' := ?_) ?_ ?_
                          rotate_left
                          · show Act.put _ (some 46) _ = _
                            simp only [Act.put, List.setIfInBounds_toArray, List.set_cons_zero, List.set_cons_succ, i64_w, i32_w]
                            rfl
                          refine one_ (i := 35) (N := some 47) #[true, true, true, true, true, true, true, true, true, true, true, true, true, true, true, true, true, true, true, true, true, true, true, true, true, true, true, true, true, true, true, true, true, true, true, true, false] rfl rfl (one_of HT_.out (by kernel_rfl)) (by decide) (fun K hK => ?_)
                          refine Kd.R_append_step (Kd.int .u32) (w0 := w) w.heap.size (by rfl) (.tmp 12) (.tmp 46) 92 91 (.int .u32 0) 4 rfl Tryd.underlying92 info91 rfl (by decide) (by omega) u3 x3_1 (Go.bits .or .u32 (Go.bits .or .u32 (Go.bits .or .u32 ((((rd l0 (ji3)) % 4294967296) * 16777216) % 4294967296) ((((rd l0 (ji6)) % 4294967296) * 65536) % 4294967296)) ((((rd l0 (ji9)) % 4294967296) * 256) % 4294967296)) ((rd l0 (ji12)) % 4294967296)) [.int .u32 (Go.bits .or .u32 (Go.bits .or .u32 (Go.bits .or .u32 ((((rd l0 (ji3)) % 4294967296) * 16777216) % 4294967296) ((((rd l0 (ji6)) % 4294967296) * 65536) % 4294967296)) ((((rd l0 (ji9)) % 4294967296) * 256) % 4294967296)) ((rd l0 (ji12)) % 4294967296))] (fun _ => True) (fun _ => False) rfl rfl ?aP (fun _ hk => hk.elim) ?aF ?aO ?aB ?aS ?aL ?_
                          (case aP => exact rfl)
                          (case aB => exact (by repeat (first | (with_reducible first | exact HB.out | apply below_alloc | apply pw_below_drewN | apply below_drew1) | exact HB.out)))
                          (case aF => exact (fun _ _ => trivial))
                          (case aO => exact (by (with_reducible repeat (first | apply Kd.R_alloc | apply Kd.R_drewN | apply Kd.R_drew)); exact HO_3.out))
                          (case aS => exact (below_size (by repeat (first | (with_reducible first | exact HB.out | apply below_alloc | apply pw_below_drewN | apply below_drew1) | exact HB.out))))
                          (case aL => have := LMc15.out; omega)
                          intro v218 w17 ho hb hg hat
                          rw [← Ny217.out] at ho
                          have n0_ := Aside0.mk (hb)
                          have n1_ := Aside0.mk (ho)
                          clear HB
                          clear HO_3
                          have HB := n0_
                          have HO219 := n1_
                          clear n0_ n1_
                          clear ho hb hg hat
                          refine hK.out _ _ ⟨((HB.out.cell (World.block_lt_of_cell? w _ hw213_0)).trans hw213_0), ((HB.out.cell (World.block_lt_of_cell? w _ hw214_0)).trans hw214_0), ((HB.out.cell (World.block_lt_of_cell? w _ hw215_0)).trans hw215_0), ((HB.out.cell (World.block_lt_of_cell? w _ hw216_0)).trans hw216_0)⟩ (fun hHeld => ?_)
                          clear hK K
                          refine norm_ (a' := ?_) ?_ ?_
                          rotate_left
                          · show Act.put _ (some 47) _ = _
                            simp only [Act.put, List.setIfInBounds_toArray, List.set_cons_zero, List.set_cons_succ, i64_w, i32_w]
                            rfl
                          refine pure_ (i := 36) (N := some 3) (v := ?_) (a' := ?_) #[true, true, true, true, true, true, true, true, true, true, true, true, true, true, true, true, true, true, true, true, true, true, true, true, true, true, true, true, true, true, true, true, true, true, true, true, true] rfl rfl (any_of HT_.out (by kernel_rfl)) (fun _ _ _ h => h) (Or.inl ⟨by rfl, ?_⟩) ?_ ?_
                          rotate_left
                          · intro w'
                            go_simp
                            with_reducible rfl
                          rotate_left
                          · simp only [Act.put, List.setIfInBounds_toArray, List.set_cons_zero, List.set_cons_succ, i64_w, i32_w]
                            rfl
                          refine done_ (done_of HT_.out (by kernel_rfl)) ?_
                          try go_wp2
                          go_roundg k1
                          case measure => have := HK1.out; omega
                          case rel => exact ⟨(y217), (wrap64 (x4_1 + 1)), (by first | rfl | (simp; done) | (simp [*]; done)), H', ⟨by have := HK1.out; omega⟩, ⟨by (with_reducible repeat (first | apply Kd.R_alloc | apply Kd.R_drewN | apply Kd.R_drew)); exact HO219.out⟩, ⟨by repeat (first | (with_reducible first | exact HB.out | apply below_alloc | apply pw_below_drewN | apply below_drew1) | exact HB.out)⟩⟩
                        · rw [if_neg c15] at H
                          exact absurd H (by simp)
                      · rw [if_neg c14] at H
                        exact absurd H (by simp)
                    · rw [if_neg c13] at H
                      exact absurd H (by simp)
                  · rw [if_neg c11] at H
                    exact absurd H (by simp)
                · rw [if_neg c10] at H
                  exact absurd H (by simp)
              · rw [if_neg c8] at H
                exact absurd H (by simp)
            · rw [if_neg c7] at H
              exact absurd H (by simp)
          · rw [if_neg c5] at H
            exact absurd H (by simp)
        · rw [if_neg c4] at H
          exact absurd H (by simp)
      · rw [if_neg c2] at H
        have c2b0 : decide (x4_1 < 16) = false := decide_eq_false c2
        clear c2
        have H' := Aside0.mk H
        clear H
        go_wp2
        go_loopg [3, 5] k1 (fun kq v3 v5 w' => ∃ (x3_2 : List Int) (x5_2 : Int), v5 = .int .i64 x5_2 ∧ Aside0 (sluicegateref03_words.l1 kq x3_2 x5_2 = some r) ∧ Aside0 (kq ≤ k1) ∧ Aside0 (Kd.R (Kd.int .u32) 91 w' w.heap.size (fun _ => True) v3 x3_2) ∧ Aside0 (Below w.heap.size w w'))
        case atStart => exact ⟨(x3_1), (16), (by first | rfl | (simp; done) | (simp [*]; done)), H', ⟨Nat.le_refl _⟩, ⟨by (with_reducible repeat (first | apply Kd.R_alloc | apply Kd.R_drewN | apply Kd.R_drew)); exact HO_3.out⟩, ⟨by repeat (first | (with_reducible first | exact HB.out | apply below_alloc | apply pw_below_drewN | apply below_drew1) | exact HB.out)⟩⟩
        case round =>
          clear H'
          try clear c1
          try clear c2
          try clear c2b0
          try clear p2
          try clear q2
          try clear hx2
          try clear c4
          try clear c4b0
          try clear c5
          try clear c5b0
          try clear p6
          try clear c7
          try clear c7b0
          try clear c8
          try clear c8b0
          try clear c10
          try clear c10b0
          try clear c11
          try clear c11b0
          try clear c13
          try clear c13b0
          try clear c14
          try clear c14b0
          try clear c15
          try clear hx213_0
          try clear hx214_0
          try clear hx215_0
          try clear hx216_0
          try clear p213
          try clear p214
          try clear p215
          try clear p216
          try clear q213
          try clear q214
          try clear q215
          try clear q216
          obtain ⟨x3_2, x5_2, rfl, HA, HK2, HO_3, HB⟩ := hrel
          cases gk with
          | zero => exact absurd HA.out (by simp [sluicegateref03_words.l1])
          | succ k2 =>
            have H := HA.out
            clear HA
            simp only [sluicegateref03_words.l1] at H
            by_cases c18 : x5_2 < 64
            · rw [if_pos c18] at H
              have c18b0 : decide (x5_2 < 64) = true := decide_eq_true c18
              clear c18
              obtain ⟨ji19, hji19⟩ : ∃ j_ : Int, (wrap64 (x5_2 - 15)) = j_ := ⟨_, rfl⟩
              replace H : (if 0 ≤ (ji19) then (if (ji19) < (x3_2.length : Int) then ((sluicegateref03_rot.f (rd x3_2 (ji19)) 7).bind fun t221 => ((sluicegateref03_rot.f (rd x3_2 (ji19)) 18).bind fun t223 => (if 0 ≤ (wrap64 (x5_2 - 2)) then (if (wrap64 (x5_2 - 2)) < (x3_2.length : Int) then ((sluicegateref03_rot.f (rd x3_2 (wrap64 (x5_2 - 2))) 17).bind fun t226 => ((sluicegateref03_rot.f (rd x3_2 (wrap64 (x5_2 - 2))) 19).bind fun t228 => (if 0 ≤ (wrap64 (x5_2 - 16)) then (if (wrap64 (x5_2 - 16)) < (x3_2.length : Int) then (if 0 ≤ (wrap64 (x5_2 - 7)) then (if (wrap64 (x5_2 - 7)) < (x3_2.length : Int) then (if x3_2.length < 35184372088832 then (sluicegateref03_words.l1 k2 (x3_2 ++ [((((((rd x3_2 (wrap64 (x5_2 - 16))) + (Go.bits .xor .u32 (Go.bits .xor .u32 t221 t223) ((rd x3_2 (ji19)) / 8))) % 4294967296) + (rd x3_2 (wrap64 (x5_2 - 7)))) % 4294967296) + (Go.bits .xor .u32 (Go.bits .xor .u32 t226 t228) ((rd x3_2 (wrap64 (x5_2 - 2))) / 1024))) % 4294967296]) (wrap64 (x5_2 + 1))) else (none)) else (none)) else (none)) else (none)) else (none)))) else (none)) else (none)))) else (none)) else (none)) = some r := by first | (rw [hji19] at H; exact H) | (simp only [hji19] at H ⊢; exact H)
              have hji19w : (IntKind.i64.wrap (x5_2 - 15)) = ji19 := (i64_w _).trans hji19
              by_cases c20 : 0 ≤ (ji19)
              · rw [if_pos c20] at H
                have c20b0 : decide (0 ≤ (ji19)) = true := decide_eq_true c20
                clear c20
                by_cases c21 : (ji19) < (x3_2.length : Int)
                · rw [if_pos c21] at H
                  have c21b0 : decide ((ji19) < (x3_2.length : Int)) = true := decide_eq_true c21
                  clear c21
                  replace H := Option.bind_eq_some_iff.mp H
                  obtain ⟨t221, A220, H⟩ := H
                  replace H : ((sluicegateref03_rot.f (rd x3_2 (ji19)) 18).bind fun t223 => (if 0 ≤ (wrap64 (x5_2 - 2)) then (if (wrap64 (x5_2 - 2)) < (x3_2.length : Int) then ((sluicegateref03_rot.f (rd x3_2 (wrap64 (x5_2 - 2))) 17).bind fun t226 => ((sluicegateref03_rot.f (rd x3_2 (wrap64 (x5_2 - 2))) 19).bind fun t228 => (if 0 ≤ (wrap64 (x5_2 - 16)) then (if (wrap64 (x5_2 - 16)) < (x3_2.length : Int) then (if 0 ≤ (wrap64 (x5_2 - 7)) then (if (wrap64 (x5_2 - 7)) < (x3_2.length : Int) then (if x3_2.length < 35184372088832 then (sluicegateref03_words.l1 k2 (x3_2 ++ [((((((rd x3_2 (wrap64 (x5_2 - 16))) + (Go.bits .xor .u32 (Go.bits .xor .u32 t221 t223) ((rd x3_2 (ji19)) / 8))) % 4294967296) + (rd x3_2 (wrap64 (x5_2 - 7)))) % 4294967296) + (Go.bits .xor .u32 (Go.bits .xor .u32 t226 t228) ((rd x3_2 (wrap64 (x5_2 - 2))) / 1024))) % 4294967296]) (wrap64 (x5_2 + 1))) else (none)) else (none)) else (none)) else (none)) else (none)))) else (none)) else (none))) = some r := H
                  have A22 := Aside0.mk A220
                  clear A220
                  replace H := Option.bind_eq_some_iff.mp H
                  obtain ⟨t223, A230, H⟩ := H
                  replace H : (if 0 ≤ (wrap64 (x5_2 - 2)) then (if (wrap64 (x5_2 - 2)) < (x3_2.length : Int) then ((sluicegateref03_rot.f (rd x3_2 (wrap64 (x5_2 - 2))) 17).bind fun t226 => ((sluicegateref03_rot.f (rd x3_2 (wrap64 (x5_2 - 2))) 19).bind fun t228 => (if 0 ≤ (wrap64 (x5_2 - 16)) then (if (wrap64 (x5_2 - 16)) < (x3_2.length : Int) then (if 0 ≤ (wrap64 (x5_2 - 7)) then (if (wrap64 (x5_2 - 7)) < (x3_2.length : Int) then (if x3_2.length < 35184372088832 then (sluicegateref03_words.l1 k2 (x3_2 ++ [((((((rd x3_2 (wrap64 (x5_2 - 16))) + (Go.bits .xor .u32 (Go.bits .xor .u32 t221 t223) ((rd x3_2 (ji19)) / 8))) % 4294967296) + (rd x3_2 (wrap64 (x5_2 - 7)))) % 4294967296) + (Go.bits .xor .u32 (Go.bits .xor .u32 t226 t228) ((rd x3_2 (wrap64 (x5_2 - 2))) / 1024))) % 4294967296]) (wrap64 (x5_2 + 1))) else (none)) else (none)) else (none)) else (none)) else (none)))) else (none)) else (none)) = some r := H
                  have A23 := Aside0.mk A230
                  clear A230
                  obtain ⟨ji24, hji24⟩ : ∃ j_ : Int, (wrap64 (x5_2 - 2)) = j_ := ⟨_, rfl⟩
                  replace H : (if 0 ≤ (ji24) then (if (ji24) < (x3_2.length : Int) then ((sluicegateref03_rot.f (rd x3_2 (ji24)) 17).bind fun t226 => ((sluicegateref03_rot.f (rd x3_2 (ji24)) 19).bind fun t228 => (if 0 ≤ (wrap64 (x5_2 - 16)) then (if (wrap64 (x5_2 - 16)) < (x3_2.length : Int) then (if 0 ≤ (wrap64 (x5_2 - 7)) then (if (wrap64 (x5_2 - 7)) < (x3_2.length : Int) then (if x3_2.length < 35184372088832 then (sluicegateref03_words.l1 k2 (x3_2 ++ [((((((rd x3_2 (wrap64 (x5_2 - 16))) + (Go.bits .xor .u32 (Go.bits .xor .u32 t221 t223) ((rd x3_2 (ji19)) / 8))) % 4294967296) + (rd x3_2 (wrap64 (x5_2 - 7)))) % 4294967296) + (Go.bits .xor .u32 (Go.bits .xor .u32 t226 t228) ((rd x3_2 (ji24)) / 1024))) % 4294967296]) (wrap64 (x5_2 + 1))) else (none)) else (none)) else (none)) else (none)) else (none)))) else (none)) else (none)) = some r := by first | (rw [hji24] at H; exact H) | (simp only [hji24] at H ⊢; exact H)
                  (try rw [hji24] at A22)
                  (try rw [hji24] at A23)
                  have hji24w : (IntKind.i64.wrap (x5_2 - 2)) = ji24 := (i64_w _).trans hji24
                  by_cases c25 : 0 ≤ (ji24)
                  · rw [if_pos c25] at H
                    have c25b0 : decide (0 ≤ (ji24)) = true := decide_eq_true c25
                    clear c25
                    by_cases c26 : (ji24) < (x3_2.length : Int)
                    · rw [if_pos c26] at H
                      have c26b0 : decide ((ji24) < (x3_2.length : Int)) = true := decide_eq_true c26
                      clear c26
                      replace H := Option.bind_eq_some_iff.mp H
                      obtain ⟨t226, A270, H⟩ := H
                      replace H : ((sluicegateref03_rot.f (rd x3_2 (ji24)) 19).bind fun t228 => (if 0 ≤ (wrap64 (x5_2 - 16)) then (if (wrap64 (x5_2 - 16)) < (x3_2.length : Int) then (if 0 ≤ (wrap64 (x5_2 - 7)) then (if (wrap64 (x5_2 - 7)) < (x3_2.length : Int) then (if x3_2.length < 35184372088832 then (sluicegateref03_words.l1 k2 (x3_2 ++ [((((((rd x3_2 (wrap64 (x5_2 - 16))) + (Go.bits .xor .u32 (Go.bits .xor .u32 t221 t223) ((rd x3_2 (ji19)) / 8))) % 4294967296) + (rd x3_2 (wrap64 (x5_2 - 7)))) % 4294967296) + (Go.bits .xor .u32 (Go.bits .xor .u32 t226 t228) ((rd x3_2 (ji24)) / 1024))) % 4294967296]) (wrap64 (x5_2 + 1))) else (none)) else (none)) else (none)) else (none)) else (none))) = some r := H
                      have A27 := Aside0.mk A270
                      clear A270
                      replace H := Option.bind_eq_some_iff.mp H
                      obtain ⟨t228, A280, H⟩ := H
                      replace H : (if 0 ≤ (wrap64 (x5_2 - 16)) then (if (wrap64 (x5_2 - 16)) < (x3_2.length : Int) then (if 0 ≤ (wrap64 (x5_2 - 7)) then (if (wrap64 (x5_2 - 7)) < (x3_2.length : Int) then (if x3_2.length < 35184372088832 then (sluicegateref03_words.l1 k2 (x3_2 ++ [((((((rd x3_2 (wrap64 (x5_2 - 16))) + (Go.bits .xor .u32 (Go.bits .xor .u32 t221 t223) ((rd x3_2 (ji19)) / 8))) % 4294967296) + (rd x3_2 (wrap64 (x5_2 - 7)))) % 4294967296) + (Go.bits .xor .u32 (Go.bits .xor .u32 t226 t228) ((rd x3_2 (ji24)) / 1024))) % 4294967296]) (wrap64 (x5_2 + 1))) else (none)) else (none)) else (none)) else (none)) else (none)) = some r := H
                      have A28 := Aside0.mk A280
                      clear A280
                      obtain ⟨ji29, hji29⟩ : ∃ j_ : Int, (wrap64 (x5_2 - 16)) = j_ := ⟨_, rfl⟩
                      replace H : (if 0 ≤ (ji29) then (if (ji29) < (x3_2.length : Int) then (if 0 ≤ (wrap64 (x5_2 - 7)) then (if (wrap64 (x5_2 - 7)) < (x3_2.length : Int) then (if x3_2.length < 35184372088832 then (sluicegateref03_words.l1 k2 (x3_2 ++ [((((((rd x3_2 (ji29)) + (Go.bits .xor .u32 (Go.bits .xor .u32 t221 t223) ((rd x3_2 (ji19)) / 8))) % 4294967296) + (rd x3_2 (wrap64 (x5_2 - 7)))) % 4294967296) + (Go.bits .xor .u32 (Go.bits .xor .u32 t226 t228) ((rd x3_2 (ji24)) / 1024))) % 4294967296]) (wrap64 (x5_2 + 1))) else (none)) else (none)) else (none)) else (none)) else (none)) = some r := by first | (rw [hji29] at H; exact H) | (simp only [hji29] at H ⊢; exact H)
                      (try rw [hji29] at A22)
                      (try rw [hji29] at A23)
                      (try rw [hji29] at A27)
                      (try rw [hji29] at A28)
                      have hji29w : (IntKind.i64.wrap (x5_2 - 16)) = ji29 := (i64_w _).trans hji29
                      by_cases c30 : 0 ≤ (ji29)
                      · rw [if_pos c30] at H
                        have c30b0 : decide (0 ≤ (ji29)) = true := decide_eq_true c30
                        clear c30
                        by_cases c31 : (ji29) < (x3_2.length : Int)
                        · rw [if_pos c31] at H
                          have c31b0 : decide ((ji29) < (x3_2.length : Int)) = true := decide_eq_true c31
                          clear c31
                          obtain ⟨ji32, hji32⟩ : ∃ j_ : Int, (wrap64 (x5_2 - 7)) = j_ := ⟨_, rfl⟩
                          replace H : (if 0 ≤ (ji32) then (if (ji32) < (x3_2.length : Int) then (if x3_2.length < 35184372088832 then (sluicegateref03_words.l1 k2 (x3_2 ++ [((((((rd x3_2 (ji29)) + (Go.bits .xor .u32 (Go.bits .xor .u32 t221 t223) ((rd x3_2 (ji19)) / 8))) % 4294967296) + (rd x3_2 (ji32))) % 4294967296) + (Go.bits .xor .u32 (Go.bits .xor .u32 t226 t228) ((rd x3_2 (ji24)) / 1024))) % 4294967296]) (wrap64 (x5_2 + 1))) else (none)) else (none)) else (none)) = some r := by first | (rw [hji32] at H; exact H) | (simp only [hji32] at H ⊢; exact H)
                          (try rw [hji32] at A22)
                          (try rw [hji32] at A23)
                          (try rw [hji32] at A27)
                          (try rw [hji32] at A28)
                          have hji32w : (IntKind.i64.wrap (x5_2 - 7)) = ji32 := (i64_w _).trans hji32
                          by_cases c33 : 0 ≤ (ji32)
                          · rw [if_pos c33] at H
                            have c33b0 : decide (0 ≤ (ji32)) = true := decide_eq_true c33
                            clear c33
                            by_cases c34 : (ji32) < (x3_2.length : Int)
                            · rw [if_pos c34] at H
                              have c34b0 : decide ((ji32) < (x3_2.length : Int)) = true := decide_eq_true c34
                              clear c34
                              by_cases c35 : x3_2.length < 35184372088832
                              · rw [if_pos c35] at H
                                have LMc35 := Aside0.mk c35
                                clear c35
                                obtain ⟨y232, hy232⟩ : ∃ y_ : List Int, y_ = (x3_2 ++ [((((((rd x3_2 (ji29)) + (Go.bits .xor .u32 (Go.bits .xor .u32 t221 t223) ((rd x3_2 (ji19)) / 8))) % 4294967296) + (rd x3_2 (ji32))) % 4294967296) + (Go.bits .xor .u32 (Go.bits .xor .u32 t226 t228) ((rd x3_2 (ji24)) / 1024))) % 4294967296]) := ⟨_, rfl⟩
                                replace H : (sluicegateref03_words.l1 k2 y232 (wrap64 (x5_2 + 1))) = some r := by first | (rw [hy232]; with_reducible exact H) | (have H2_ := (Option.bind_some _ _).symm.trans H; rw [hy232]; with_reducible exact H2_) | (have H2_ := (Option.bind_some _ _).symm.trans H; with_reducible exact H2_) | with_reducible exact H | (rw [hy232]; exact H) | exact H
                                have Ny232 := Aside0.mk hy232
                                clear hy232
                                have H' := Aside0.mk H
                                clear H
                                try go_wp2
                                have n0_ := Aside0.mk (Kd.R_drew HO_3.out)
                                have n1_ := Aside0.mk (below_drew1 HB.out)
                                clear HO_3
                                clear HB
                                have HO_3 := n0_
                                have HB := n1_
                                clear n0_ n1_
                                obtain ⟨Ao37, co37, eo37⟩ := Kd.R_slice HO_3.out
                                (first | subst eo37 | (injection eo37 with f1_ f2_ f3_; have f4_ := f1_.symm; have f5_ := f3_.symm; clear f1_ f2_ f3_; subst f4_; subst f5_))
                                have p220 : 0 ≤ ((ji19) : Int) := of_decide_eq_true (by first | (with_reducible assumption) | assumption)
                                have q220 : (ji19) < (x3_2.length : Int) := of_decide_eq_true (by first | (with_reducible assumption) | assumption)
                                obtain ⟨ad220, e220, hx220_0⟩ := Kd.at_int (Kd.R_reads' HO_3.out).2.2 (ji19) p220 q220
                                cases e220
                                replace p220 := eq_true p220
                                replace q220 := eq_true q220
                                have p222 : 0 ≤ ((ji19) : Int) := of_decide_eq_true (by first | (with_reducible assumption) | assumption)
                                have q222 : (ji19) < (x3_2.length : Int) := of_decide_eq_true (by first | (with_reducible assumption) | assumption)
                                obtain ⟨ad222, e222, hx222_0⟩ := Kd.at_int (Kd.R_reads' HO_3.out).2.2 (ji19) p222 q222
                                obtain rfl : ad220 = ad222 := (by injection e222)
                                replace p222 := eq_true p222
                                replace q222 := eq_true q222
                                have p224 : 0 ≤ ((ji19) : Int) := of_decide_eq_true (by first | (with_reducible assumption) | assumption)
                                have q224 : (ji19) < (x3_2.length : Int) := of_decide_eq_true (by first | (with_reducible assumption) | assumption)
                                obtain ⟨ad224, e224, hx224_0⟩ := Kd.at_int (Kd.R_reads' HO_3.out).2.2 (ji19) p224 q224
                                obtain rfl : ad220 = ad224 := (by injection e224)
                                replace p224 := eq_true p224
                                replace q224 := eq_true q224
                                refine start_ (n := 21) (S := fun w' => w'.cell? (ad220.add ((ji19)).toNat) = some (.int .u32 (rd x3_2 (ji19))) ∧ w'.cell? (ad220.add ((ji19)).toNat) = some (.int .u32 (rd x3_2 (ji19))) ∧ w'.cell? (ad220.add ((ji19)).toNat) = some (.int .u32 (rd x3_2 (ji19)))) (ds := []) #[false, false, false, false, false, false, false, false, false, false, false, false, false, false, false, false, false, false, false, false, false] (by kernel_rfl) rfl rfl ⟨hx220_0, hx222_0, hx224_0⟩ (fun hHeld => ?_); refine with_tabW sluicegateref03_words.tab9 sluicegateref03_words.bits9 (fun HT_ HW_ => ?_)
                                generalize wr.drew = w36 at HO_3 HB hx220_0 hx222_0 hx224_0 hHeld ⊢
                                refine pure_ (i := 0) (N := some 52) (v := ?_) (a' := ?_) #[true, false, false, false, false, false, false, false, false, false, false, false, false, false, false, false, false, false, false, false, false] rfl rfl (any_of HT_.out (by kernel_rfl)) (fun _ _ _ h => h) (Or.inl ⟨by rfl, ?_⟩) ?_ ?_
                                rotate_left
                                · intro w'
                                  go_simp
                                  with_reducible rfl
                                rotate_left
                                · simp only [Act.put, List.setIfInBounds_toArray, List.set_cons_zero, List.set_cons_succ, i64_w, i32_w]
                                  rfl
                                refine pure_ (i := 1) (N := some 53) (v := ?_) (a' := ?_) #[true, true, false, false, false, false, false, false, false, false, false, false, false, false, false, false, false, false, false, false, false] rfl rfl (any_of HT_.out (by kernel_rfl)) (fun _ _ _ h => h) (Or.inl ⟨by rfl, ?_⟩) ?_ ?_
                                rotate_left
                                · intro w'
                                  go_simp
                                  with_reducible rfl
                                rotate_left
                                · simp only [Act.put, List.setIfInBounds_toArray, List.set_cons_zero, List.set_cons_succ, i64_w, i32_w]
                                  rfl
                                refine pure_ (i := 2) (N := some 54) (v := ?_) (a' := ?_) #[true, true, true, false, false, false, false, false, false, false, false, false, false, false, false, false, false, false, false, false, false] rfl rfl (any_of HT_.out (by kernel_rfl)) (fun _ _ _ h => h) (Or.inl ⟨by rfl, ?_⟩) ?_ ?_
                                rotate_left
                                · intro w'
                                  go_simp
                                  with_reducible rfl
                                rotate_left
                                · simp only [Act.put, List.setIfInBounds_toArray, List.set_cons_zero, List.set_cons_succ, i64_w, i32_w]
                                  rfl
                                refine pure_ (i := 3) (N := some 55) (v := ?_) (a' := ?_) #[true, true, true, true, false, false, false, false, false, false, false, false, false, false, false, false, false, false, false, false, false] rfl rfl (any_of HT_.out (by kernel_rfl)) (fun _ _ _ h => h) (Or.inl ⟨by rfl, ?_⟩) ?_ ?_
                                rotate_left
                                · intro w'
                                  go_simp
                                  with_reducible rfl
                                rotate_left
                                · simp only [Act.put, List.setIfInBounds_toArray, List.set_cons_zero, List.set_cons_succ, i64_w, i32_w]
                                  rfl
                                refine pure_ (i := 6) (N := some 58) (v := ?_) (a' := ?_) #[true, true, true, true, false, false, true, false, false, false, false, false, false, false, false, false, false, false, false, false, false] rfl rfl (any_of HT_.out (by kernel_rfl)) (fun _ _ _ h => h) (Or.inl ⟨by rfl, ?_⟩) ?_ ?_
                                rotate_left
                                · intro w'
                                  go_simp
                                  with_reducible rfl
                                rotate_left
                                · simp only [Act.put, List.setIfInBounds_toArray, List.set_cons_zero, List.set_cons_succ, i64_w, i32_w]
                                  rfl
                                refine pure_ (i := 7) (N := some 59) (v := ?_) (a' := ?_) #[true, true, true, true, false, false, true, true, false, false, false, false, false, false, false, false, false, false, false, false, false] rfl rfl (any_of HT_.out (by kernel_rfl)) (fun _ _ _ h => h) (Or.inl ⟨by rfl, ?_⟩) ?_ ?_
                                rotate_left
                                · intro w'
                                  go_simp
                                  with_reducible rfl
                                rotate_left
                                · simp only [Act.put, List.setIfInBounds_toArray, List.set_cons_zero, List.set_cons_succ, i64_w, i32_w]
                                  rfl
                                refine pure_ (i := 8) (N := some 60) (v := ?_) (a' := ?_) #[true, true, true, true, false, false, true, true, true, false, false, false, false, false, false, false, false, false, false, false, false] rfl rfl (any_of HT_.out (by kernel_rfl)) (fun _ _ _ h => h) (Or.inl ⟨by rfl, ?_⟩) ?_ ?_
                                rotate_left
                                · intro w'
                                  go_simp
                                  with_reducible rfl
                                rotate_left
                                · simp only [Act.put, List.setIfInBounds_toArray, List.set_cons_zero, List.set_cons_succ, i64_w, i32_w]
                                  rfl
                                refine pure_ (i := 9) (N := some 61) (v := ?_) (a' := ?_) #[true, true, true, true, false, false, true, true, true, true, false, false, false, false, false, false, false, false, false, false, false] rfl rfl (any_of HT_.out (by kernel_rfl)) (fun _ _ _ h => h) (Or.inl ⟨by rfl, ?_⟩) ?_ ?_
                                rotate_left
                                · intro w'
                                  go_simp
                                  with_reducible rfl
                                rotate_left
                                · simp only [Act.put, List.setIfInBounds_toArray, List.set_cons_zero, List.set_cons_succ, i64_w, i32_w]
                                  rfl
                                refine pure_ (i := 13) (N := some 65) (v := ?_) (a' := ?_) #[true, true, true, true, false, false, true, true, true, true, false, false, false, true, false, false, false, false, false, false, false] rfl rfl (any_of HT_.out (by kernel_rfl)) (fun _ _ _ h => h) (Or.inl ⟨by rfl, ?_⟩) ?_ ?_
                                rotate_left
                                · intro w'
                                  go_simp
                                  with_reducible rfl
                                rotate_left
                                · simp only [Act.put, List.setIfInBounds_toArray, List.set_cons_zero, List.set_cons_succ, i64_w, i32_w]
                                  rfl
                                refine pure_ (i := 14) (N := some 66) (v := ?_) (a' := ?_) #[true, true, true, true, false, false, true, true, true, true, false, false, false, true, true, false, false, false, false, false, false] rfl rfl (any_of HT_.out (by kernel_rfl)) (fun _ _ _ h => h) (Or.inl ⟨by rfl, ?_⟩) ?_ ?_
                                rotate_left
                                · intro w'
                                  go_simp
                                  with_reducible rfl
                                rotate_left
                                · simp only [Act.put, List.setIfInBounds_toArray, List.set_cons_zero, List.set_cons_succ, i64_w, i32_w]
                                  rfl
                                refine pure_ (i := 15) (N := some 67) (v := ?_) (a' := ?_) #[true, true, true, true, false, false, true, true, true, true, false, false, false, true, true, true, false, false, false, false, false] rfl rfl (any_of HT_.out (by kernel_rfl)) (fun _ _ _ h => h) (Or.inl ⟨by rfl, ?_⟩) ?_ ?_
                                rotate_left
                                · intro w'
                                  go_simp
                                  with_reducible rfl
                                rotate_left
                                · simp only [Act.put, List.setIfInBounds_toArray, List.set_cons_zero, List.set_cons_succ, i64_w, i32_w]
                                  rfl
                                refine pure_ (i := 16) (N := some 68) (v := ?_) (a' := ?_) #[true, true, true, true, false, false, true, true, true, true, false, false, false, true, true, true, true, false, false, false, false] rfl rfl (any_of HT_.out (by kernel_rfl)) (fun _ _ _ h => h) (Or.inl ⟨by rfl, ?_⟩) ?_ ?_
                                rotate_left
                                · intro w'
                                  go_simp
                                  with_reducible rfl
                                rotate_left
                                · simp only [Act.put, List.setIfInBounds_toArray, List.set_cons_zero, List.set_cons_succ, i64_w, i32_w]
                                  rfl
                                refine take_ (i := 4) (N := some 56) (v := ?_) (a' := ?_) #[true, true, true, true, true, false, true, true, true, true, false, false, false, true, true, true, true, false, false, false, false] rfl rfl (take_ofW HT_.out HW_.out (by kernel_rfl)) (fun _ _ _ h => h) (Or.inl ⟨by rfl, ?_⟩) hHeld ?_ ?_
                                rotate_left
                                · rintro w' ⟨s0, s1, s2⟩
                                  go_simp
                                  with_reducible rfl
                                rotate_left
                                · simp only [Act.put, List.setIfInBounds_toArray, List.set_cons_zero, List.set_cons_succ, i64_w, i32_w]
                                  rfl
                                refine take_ (i := 10) (N := some 62) (v := ?_) (a' := ?_) #[true, true, true, true, true, false, true, true, true, true, true, false, false, true, true, true, true, false, false, false, false] rfl rfl (take_ofW HT_.out HW_.out (by kernel_rfl)) (fun _ _ _ h => h) (Or.inl ⟨by rfl, ?_⟩) hHeld ?_ ?_
                                rotate_left
                                · rintro w' ⟨s0, s1, s2⟩
                                  go_simp
                                  with_reducible rfl
                                rotate_left
                                · simp only [Act.put, List.setIfInBounds_toArray, List.set_cons_zero, List.set_cons_succ, i64_w, i32_w]
                                  rfl
                                refine take_ (i := 17) (N := some 69) (v := ?_) (a' := ?_) #[true, true, true, true, true, false, true, true, true, true, true, false, false, true, true, true, true, true, false, false, false] rfl rfl (take_ofW HT_.out HW_.out (by kernel_rfl)) (fun _ _ _ h => h) (Or.inl ⟨by rfl, ?_⟩) hHeld ?_ ?_
                                rotate_left
                                · rintro w' ⟨s0, s1, s2⟩
                                  go_simp
                                  with_reducible rfl
                                rotate_left
                                · simp only [Act.put, List.setIfInBounds_toArray, List.set_cons_zero, List.set_cons_succ, i64_w, i32_w]
                                  rfl
                                refine pure_ (i := 18) (N := some 70) (v := ?_) (a' := ?_) #[true, true, true, true, true, false, true, true, true, true, true, false, false, true, true, true, true, true, true, false, false] rfl rfl (any_of HT_.out (by kernel_rfl)) (fun _ _ _ h => h) (Or.inl ⟨by rfl, ?_⟩) ?_ ?_
                                rotate_left
                                · intro w'
                                  go_simp
                                  with_reducible rfl
                                rotate_left
                                · simp only [Act.put, List.setIfInBounds_toArray, List.set_cons_zero, List.set_cons_succ, i64_w, i32_w]
                                  rfl
                                refine one_ (i := 5) (N := some 57) #[true, true, true, true, true, true, true, true, true, true, true, false, false, true, true, true, true, true, true, false, false] rfl rfl (one_of HT_.out (by kernel_rfl)) (by decide) (fun K hK => ?_)
                                refine goes_ Tryd.func78 (by kernel_rfl) rfl #[.int .u32 (rd x3_2 (ji19)), .int .u64 7] (by rfl) rfl rfl (by (try simp only [List.map_toArray, List.map_cons, List.map_nil]); first | done | (simp only [hji19]; rfl) | rfl | (simp only [List.length_drop, List.length_take]; rfl)) ?_
                                with_reducible refine (sluicegateref03_rot.calls (rd x3_2 (ji19)) 7 t221 _ A22.out).mono ?_
                                rintro e w' ⟨rfl, ⟨nd, rfl⟩⟩
                                refine ⟨_, rfl, ?_⟩
                                refine hK.out _ _ ⟨hHeld.1, hHeld.2.1, hHeld.2.2⟩ (fun hHeld => ?_)
                                clear hK K
                                refine norm_ (a' := ?_) ?_ ?_
                                rotate_left
                                · show Act.put _ (some 57) _ = _
                                  simp only [Act.put, List.setIfInBounds_toArray, List.set_cons_zero, List.set_cons_succ, i64_w, i32_w]
                                  rfl
                                refine one_ (i := 11) (N := some 63) #[true, true, true, true, true, true, true, true, true, true, true, true, false, true, true, true, true, true, true, false, false] rfl rfl (one_of HT_.out (by kernel_rfl)) (by decide) (fun K hK => ?_)
                                refine goes_ Tryd.func78 (by kernel_rfl) rfl #[.int .u32 (rd x3_2 (ji19)), .int .u64 18] (by rfl) rfl rfl (by (try simp only [List.map_toArray, List.map_cons, List.map_nil]); first | done | (simp only [hji19]; rfl) | rfl | (simp only [List.length_drop, List.length_take]; rfl)) ?_
                                with_reducible refine (sluicegateref03_rot.calls (rd x3_2 (ji19)) 18 t223 _ A23.out).mono ?_
                                rintro e w' ⟨rfl, ⟨nd, rfl⟩⟩
                                refine ⟨_, rfl, ?_⟩
                                refine hK.out _ _ ⟨hHeld.1, hHeld.2.1, hHeld.2.2⟩ (fun hHeld => ?_)
                                clear hK K
                                refine norm_ (a' := ?_) ?_ ?_
                                rotate_left
                                · show Act.put _ (some 63) _ = _
                                  simp only [Act.put, List.setIfInBounds_toArray, List.set_cons_zero, List.set_cons_succ, i64_w, i32_w]
                                  rfl
                                refine pure_ (i := 12) (N := some 64) (v := ?_) (a' := ?_) #[true, true, true, true, true, true, true, true, true, true, true, true, true, true, true, true, true, true, true, false, false] rfl rfl (any_of HT_.out (by kernel_rfl)) (fun _ _ _ h => h) (Or.inl ⟨by rfl, ?_⟩) ?_ ?_
                                rotate_left
                                · intro w'
                                  go_simp
                                  with_reducible rfl
                                rotate_left
                                · simp only [Act.put, List.setIfInBounds_toArray, List.set_cons_zero, List.set_cons_succ, i64_w, i32_w]
                                  rfl
                                refine pure_ (i := 19) (N := some 71) (v := ?_) (a' := ?_) #[true, true, true, true, true, true, true, true, true, true, true, true, true, true, true, true, true, true, true, true, false] rfl rfl (any_of HT_.out (by kernel_rfl)) (fun _ _ _ h => h) (Or.inl ⟨by rfl, ?_⟩) ?_ ?_
                                rotate_left
                                · intro w'
                                  go_simp
                                  with_reducible rfl
                                rotate_left
                                · simp only [Act.put, List.setIfInBounds_toArray, List.set_cons_zero, List.set_cons_succ, i64_w, i32_w]
                                  rfl
                                refine pure_ (i := 20) (N := some 6) (v := ?_) (a' := ?_) #[true, true, true, true, true, true, true, true, true, true, true, true, true, true, true, true, true, true, true, true, true] rfl rfl (any_of HT_.out (by kernel_rfl)) (fun _ _ _ h => h) (Or.inl ⟨by rfl, ?_⟩) ?_ ?_
                                rotate_left
                                · intro w'
                                  go_simp
                                  with_reducible rfl
                                rotate_left
                                · simp only [Act.put, List.setIfInBounds_toArray, List.set_cons_zero, List.set_cons_succ, i64_w, i32_w]
                                  rfl
                                refine done_ (done_of HT_.out (by kernel_rfl)) ?_
                                try go_wp2
                                (try (rw [drewN_self w36]; generalize hq_ : World.drewN w36 _ = w36; have n0_ : Aside0 (Kd.R (Kd.int .u32) 91 w36 w.heap.size (fun _ => True) (.slice (some ad220) x3_2.length co37) x3_2) := ⟨by rw [← hq_]; exact (by (with_reducible repeat (first | apply Kd.R_alloc | apply Kd.R_drewN | apply Kd.R_drew)); exact HO_3.out)⟩; have n1_ : Aside0 (Below w.heap.size w w36) := ⟨by rw [← hq_]; exact (by repeat (first | (with_reducible first | exact HB.out | apply below_alloc | apply pw_below_drewN | apply below_drew1) | exact HB.out))⟩; clear HO_3 HB hq_; have HO_3 := n0_; have HB := n1_; clear n0_ n1_))
                                have n0_ := Aside0.mk (Kd.R_drew HO_3.out)
                                have n1_ := Aside0.mk (below_drew1 HB.out)
                                clear HO_3
                                clear HB
                                have HO_3 := n0_
                                have HB := n1_
                                clear n0_ n1_
                                have p225 : 0 ≤ ((ji24) : Int) := of_decide_eq_true (by first | (with_reducible assumption) | assumption)
                                have q225 : (ji24) < (x3_2.length : Int) := of_decide_eq_true (by first | (with_reducible assumption) | assumption)
                                obtain ⟨ad225, e225, hx225_0⟩ := Kd.at_int (Kd.R_reads' HO_3.out).2.2 (ji24) p225 q225
                                obtain rfl : ad220 = ad225 := (by injection e225)
                                replace p225 := eq_true p225
                                replace q225 := eq_true q225
                                have p227 : 0 ≤ ((ji24) : Int) := of_decide_eq_true (by first | (with_reducible assumption) | assumption)
                                have q227 : (ji24) < (x3_2.length : Int) := of_decide_eq_true (by first | (with_reducible assumption) | assumption)
                                obtain ⟨ad227, e227, hx227_0⟩ := Kd.at_int (Kd.R_reads' HO_3.out).2.2 (ji24) p227 q227
                                obtain rfl : ad220 = ad227 := (by injection e227)
                                replace p227 := eq_true p227
                                replace q227 := eq_true q227
                                have p229 : 0 ≤ ((ji24) : Int) := of_decide_eq_true (by first | (with_reducible assumption) | assumption)
                                have q229 : (ji24) < (x3_2.length : Int) := of_decide_eq_true (by first | (with_reducible assumption) | assumption)
                                obtain ⟨ad229, e229, hx229_0⟩ := Kd.at_int (Kd.R_reads' HO_3.out).2.2 (ji24) p229 q229
                                obtain rfl : ad220 = ad229 := (by injection e229)
                                replace p229 := eq_true p229
                                replace q229 := eq_true q229
                                refine start_ (n := 21) (S := fun w' => w'.cell? (ad220.add ((ji24)).toNat) = some (.int .u32 (rd x3_2 (ji24))) ∧ w'.cell? (ad220.add ((ji24)).toNat) = some (.int .u32 (rd x3_2 (ji24))) ∧ w'.cell? (ad220.add ((ji24)).toNat) = some (.int .u32 (rd x3_2 (ji24)))) (ds := []) #[false, false, false, false, false, false, false, false, false, false, false, false, false, false, false, false, false, false, false, false, false] (by kernel_rfl) rfl rfl ⟨hx225_0, hx227_0, hx229_0⟩ (fun hHeld => ?_); refine with_tabW sluicegateref03_words.tab10 sluicegateref03_words.bits10 (fun HT_ HW_ => ?_)
                                generalize w36.drew = w38 at HO_3 HB hx225_0 hx227_0 hx229_0 hHeld ⊢
                                refine pure_ (i := 0) (N := some 72) (v := ?_) (a' := ?_) #[true, false, false, false, false, false, false, false, false, false, false, false, false, false, false, false, false, false, false, false, false] rfl rfl (any_of HT_.out (by kernel_rfl)) (fun _ _ _ h => h) (Or.inl ⟨by rfl, ?_⟩) ?_ ?_
                                rotate_left
                                · intro w'
                                  go_simp
                                  with_reducible rfl
                                rotate_left
                                · simp only [Act.put, List.setIfInBounds_toArray, List.set_cons_zero, List.set_cons_succ, i64_w, i32_w]
                                  rfl
                                refine pure_ (i := 1) (N := some 73) (v := ?_) (a' := ?_) #[true, true, false, false, false, false, false, false, false, false, false, false, false, false, false, false, false, false, false, false, false] rfl rfl (any_of HT_.out (by kernel_rfl)) (fun _ _ _ h => h) (Or.inl ⟨by rfl, ?_⟩) ?_ ?_
                                rotate_left
                                · intro w'
                                  go_simp
                                  with_reducible rfl
                                rotate_left
                                · simp only [Act.put, List.setIfInBounds_toArray, List.set_cons_zero, List.set_cons_succ, i64_w, i32_w]
                                  rfl
                                refine pure_ (i := 2) (N := some 74) (v := ?_) (a' := ?_) #[true, true, true, false, false, false, false, false, false, false, false, false, false, false, false, false, false, false, false, false, false] rfl rfl (any_of HT_.out (by kernel_rfl)) (fun _ _ _ h => h) (Or.inl ⟨by rfl, ?_⟩) ?_ ?_
                                rotate_left
                                · intro w'
                                  go_simp
                                  with_reducible rfl
                                rotate_left
                                · simp only [Act.put, List.setIfInBounds_toArray, List.set_cons_zero, List.set_cons_succ, i64_w, i32_w]
                                  rfl
                                refine pure_ (i := 3) (N := some 75) (v := ?_) (a' := ?_) #[true, true, true, true, false, false, false, false, false, false, false, false, false, false, false, false, false, false, false, false, false] rfl rfl (any_of HT_.out (by kernel_rfl)) (fun _ _ _ h => h) (Or.inl ⟨by rfl, ?_⟩) ?_ ?_
                                rotate_left
                                · intro w'
                                  go_simp
                                  with_reducible rfl
                                rotate_left
                                · simp only [Act.put, List.setIfInBounds_toArray, List.set_cons_zero, List.set_cons_succ, i64_w, i32_w]
                                  rfl
                                refine pure_ (i := 6) (N := some 78) (v := ?_) (a' := ?_) #[true, true, true, true, false, false, true, false, false, false, false, false, false, false, false, false, false, false, false, false, false] rfl rfl (any_of HT_.out (by kernel_rfl)) (fun _ _ _ h => h) (Or.inl ⟨by rfl, ?_⟩) ?_ ?_
                                rotate_left
                                · intro w'
                                  go_simp
                                  with_reducible rfl
                                rotate_left
                                · simp only [Act.put, List.setIfInBounds_toArray, List.set_cons_zero, List.set_cons_succ, i64_w, i32_w]
                                  rfl
                                refine pure_ (i := 7) (N := some 79) (v := ?_) (a' := ?_) #[true, true, true, true, false, false, true, true, false, false, false, false, false, false, false, false, false, false, false, false, false] rfl rfl (any_of HT_.out (by kernel_rfl)) (fun _ _ _ h => h) (Or.inl ⟨by rfl, ?_⟩) ?_ ?_
                                rotate_left
                                · intro w'
                                  go_simp
                                  with_reducible rfl
                                rotate_left
                                · simp only [Act.put, List.setIfInBounds_toArray, List.set_cons_zero, List.set_cons_succ, i64_w, i32_w]
                                  rfl
                                refine pure_ (i := 8) (N := some 80) (v := ?_) (a' := ?_) #[true, true, true, true, false, false, true, true, true, false, false, false, false, false, false, false, false, false, false, false, false] rfl rfl (any_of HT_.out (by kernel_rfl)) (fun _ _ _ h => h) (Or.inl ⟨by rfl, ?_⟩) ?_ ?_
                                rotate_left
                                · intro w'
                                  go_simp
                                  with_reducible rfl
                                rotate_left
                                · simp only [Act.put, List.setIfInBounds_toArray, List.set_cons_zero, List.set_cons_succ, i64_w, i32_w]
                                  rfl
                                refine pure_ (i := 9) (N := some 81) (v := ?_) (a' := ?_) #[true, true, true, true, false, false, true, true, true, true, false, false, false, false, false, false, false, false, false, false, false] rfl rfl (any_of HT_.out (by kernel_rfl)) (fun _ _ _ h => h) (Or.inl ⟨by rfl, ?_⟩) ?_ ?_
                                rotate_left
                                · intro w'
                                  go_simp
                                  with_reducible rfl
                                rotate_left
                                · simp only [Act.put, List.setIfInBounds_toArray, List.set_cons_zero, List.set_cons_succ, i64_w, i32_w]
                                  rfl
                                refine pure_ (i := 13) (N := some 85) (v := ?_) (a' := ?_) #[true, true, true, true, false, false, true, true, true, true, false, false, false, true, false, false, false, false, false, false, false] rfl rfl (any_of HT_.out (by kernel_rfl)) (fun _ _ _ h => h) (Or.inl ⟨by rfl, ?_⟩) ?_ ?_
                                rotate_left
                                · intro w'
                                  go_simp
                                  with_reducible rfl
                                rotate_left
                                · simp only [Act.put, List.setIfInBounds_toArray, List.set_cons_zero, List.set_cons_succ, i64_w, i32_w]
                                  rfl
                                refine pure_ (i := 14) (N := some 86) (v := ?_) (a' := ?_) #[true, true, true, true, false, false, true, true, true, true, false, false, false, true, true, false, false, false, false, false, false] rfl rfl (any_of HT_.out (by kernel_rfl)) (fun _ _ _ h => h) (Or.inl ⟨by rfl, ?_⟩) ?_ ?_
                                rotate_left
                                · intro w'
                                  go_simp
                                  with_reducible rfl
                                rotate_left
                                · simp only [Act.put, List.setIfInBounds_toArray, List.set_cons_zero, List.set_cons_succ, i64_w, i32_w]
                                  rfl
                                refine pure_ (i := 15) (N := some 87) (v := ?_) (a' := ?_) #[true, true, true, true, false, false, true, true, true, true, false, false, false, true, true, true, false, false, false, false, false] rfl rfl (any_of HT_.out (by kernel_rfl)) (fun _ _ _ h => h) (Or.inl ⟨by rfl, ?_⟩) ?_ ?_
                                rotate_left
                                · intro w'
                                  go_simp
                                  with_reducible rfl
                                rotate_left
                                · simp only [Act.put, List.setIfInBounds_toArray, List.set_cons_zero, List.set_cons_succ, i64_w, i32_w]
                                  rfl
                                refine pure_ (i := 16) (N := some 88) (v := ?_) (a' := ?_) #[true, true, true, true, false, false, true, true, true, true, false, false, false, true, true, true, true, false, false, false, false] rfl rfl (any_of HT_.out (by kernel_rfl)) (fun _ _ _ h => h) (Or.inl ⟨by rfl, ?_⟩) ?_ ?_
                                rotate_left
                                · intro w'
                                  go_simp
                                  with_reducible rfl
                                rotate_left
                                · simp only [Act.put, List.setIfInBounds_toArray, List.set_cons_zero, List.set_cons_succ, i64_w, i32_w]
                                  rfl
                                refine take_ (i := 4) (N := some 76) (v := ?_) (a' := ?_) #[true, true, true, true, true, false, true, true, true, true, false, false, false, true, true, true, true, false, false, false, false] rfl rfl (take_ofW HT_.out HW_.out (by kernel_rfl)) (fun _ _ _ h => h) (Or.inl ⟨by rfl, ?_⟩) hHeld ?_ ?_
                                rotate_left
                                · rintro w' ⟨s0, s1, s2⟩
                                  go_simp
                                  with_reducible rfl
                                rotate_left
                                · simp only [Act.put, List.setIfInBounds_toArray, List.set_cons_zero, List.set_cons_succ, i64_w, i32_w]
                                  rfl
                                refine take_ (i := 10) (N := some 82) (v := ?_) (a' := ?_) #[true, true, true, true, true, false, true, true, true, true, true, false, false, true, true, true, true, false, false, false, false] rfl rfl (take_ofW HT_.out HW_.out (by kernel_rfl)) (fun _ _ _ h => h) (Or.inl ⟨by rfl, ?_⟩) hHeld ?_ ?_
                                rotate_left
                                · rintro w' ⟨s0, s1, s2⟩
                                  go_simp
                                  with_reducible rfl
                                rotate_left
                                · simp only [Act.put, List.setIfInBounds_toArray, List.set_cons_zero, List.set_cons_succ, i64_w, i32_w]
                                  rfl
                                refine take_ (i := 17) (N := some 89) (v := ?_) (a' := ?_) #[true, true, true, true, true, false, true, true, true, true, true, false, false, true, true, true, true, true, false, false, false] rfl rfl (take_ofW HT_.out HW_.out (by kernel_rfl)) (fun _ _ _ h => h) (Or.inl ⟨by rfl, ?_⟩) hHeld ?_ ?_
                                rotate_left
                                · rintro w' ⟨s0, s1, s2⟩
                                  go_simp
                                  with_reducible rfl
                                rotate_left
                                · simp only [Act.put, List.setIfInBounds_toArray, List.set_cons_zero, List.set_cons_succ, i64_w, i32_w]
                                  rfl
                                refine pure_ (i := 18) (N := some 90) (v := ?_) (a' := ?_) #[true, true, true, true, true, false, true, true, true, true, true, false, false, true, true, true, true, true, true, false, false] rfl rfl (any_of HT_.out (by kernel_rfl)) (fun _ _ _ h => h) (Or.inl ⟨by rfl, ?_⟩) ?_ ?_
                                rotate_left
                                · intro w'
                                  go_simp
                                  with_reducible rfl
                                rotate_left
                                · simp only [Act.put, List.setIfInBounds_toArray, List.set_cons_zero, List.set_cons_succ, i64_w, i32_w]
                                  rfl
                                refine one_ (i := 5) (N := some 77) #[true, true, true, true, true, true, true, true, true, true, true, false, false, true, true, true, true, true, true, false, false] rfl rfl (one_of HT_.out (by kernel_rfl)) (by decide) (fun K hK => ?_)
                                refine goes_ Tryd.func78 (by kernel_rfl) rfl #[.int .u32 (rd x3_2 (ji24)), .int .u64 17] (by rfl) rfl rfl (by (try simp only [List.map_toArray, List.map_cons, List.map_nil]); first | done | (simp only [hji24]; rfl) | rfl | (simp only [List.length_drop, List.length_take]; rfl)) ?_
                                with_reducible refine (sluicegateref03_rot.calls (rd x3_2 (ji24)) 17 t226 _ A27.out).mono ?_
                                rintro e w' ⟨rfl, ⟨nd, rfl⟩⟩
                                refine ⟨_, rfl, ?_⟩
                                refine hK.out _ _ ⟨hHeld.1, hHeld.2.1, hHeld.2.2⟩ (fun hHeld => ?_)
                                clear hK K
                                refine norm_ (a' := ?_) ?_ ?_
                                rotate_left
                                · show Act.put _ (some 77) _ = _
                                  simp only [Act.put, List.setIfInBounds_toArray, List.set_cons_zero, List.set_cons_succ, i64_w, i32_w]
                                  rfl
                                refine one_ (i := 11) (N := some 83) #[true, true, true, true, true, true, true, true, true, true, true, true, false, true, true, true, true, true, true, false, false] rfl rfl (one_of HT_.out (by kernel_rfl)) (by decide) (fun K hK => ?_)
                                refine goes_ Tryd.func78 (by kernel_rfl) rfl #[.int .u32 (rd x3_2 (ji24)), .int .u64 19] (by rfl) rfl rfl (by (try simp only [List.map_toArray, List.map_cons, List.map_nil]); first | done | (simp only [hji24]; rfl) | rfl | (simp only [List.length_drop, List.length_take]; rfl)) ?_
                                with_reducible refine (sluicegateref03_rot.calls (rd x3_2 (ji24)) 19 t228 _ A28.out).mono ?_
                                rintro e w' ⟨rfl, ⟨nd, rfl⟩⟩
                                refine ⟨_, rfl, ?_⟩
                                refine hK.out _ _ ⟨hHeld.1, hHeld.2.1, hHeld.2.2⟩ (fun hHeld => ?_)
                                clear hK K
                                refine norm_ (a' := ?_) ?_ ?_
                                rotate_left
                                · show Act.put _ (some 83) _ = _
                                  simp only [Act.put, List.setIfInBounds_toArray, List.set_cons_zero, List.set_cons_succ, i64_w, i32_w]
                                  rfl
                                refine pure_ (i := 12) (N := some 84) (v := ?_) (a' := ?_) #[true, true, true, true, true, true, true, true, true, true, true, true, true, true, true, true, true, true, true, false, false] rfl rfl (any_of HT_.out (by kernel_rfl)) (fun _ _ _ h => h) (Or.inl ⟨by rfl, ?_⟩) ?_ ?_
                                rotate_left
                                · intro w'
                                  go_simp
                                  with_reducible rfl
                                rotate_left
                                · simp only [Act.put, List.setIfInBounds_toArray, List.set_cons_zero, List.set_cons_succ, i64_w, i32_w]
                                  rfl
                                refine pure_ (i := 19) (N := some 91) (v := ?_) (a' := ?_) #[true, true, true, true, true, true, true, true, true, true, true, true, true, true, true, true, true, true, true, true, false] rfl rfl (any_of HT_.out (by kernel_rfl)) (fun _ _ _ h => h) (Or.inl ⟨by rfl, ?_⟩) ?_ ?_
                                rotate_left
                                · intro w'
                                  go_simp
                                  with_reducible rfl
                                rotate_left
                                · simp only [Act.put, List.setIfInBounds_toArray, List.set_cons_zero, List.set_cons_succ, i64_w, i32_w]
                                  rfl
                                refine pure_ (i := 20) (N := some 7) (v := ?_) (a' := ?_) #[true, true, true, true, true, true, true, true, true, true, true, true, true, true, true, true, true, true, true, true, true] rfl rfl (any_of HT_.out (by kernel_rfl)) (fun _ _ _ h => h) (Or.inl ⟨by rfl, ?_⟩) ?_ ?_
                                rotate_left
                                · intro w'
                                  go_simp
                                  with_reducible rfl
                                rotate_left
                                · simp only [Act.put, List.setIfInBounds_toArray, List.set_cons_zero, List.set_cons_succ, i64_w, i32_w]
                                  rfl
                                refine done_ (done_of HT_.out (by kernel_rfl)) ?_
                                try go_wp2
                                (try (rw [drewN_self w38]; generalize hq_ : World.drewN w38 _ = w38; have n0_ : Aside0 (Kd.R (Kd.int .u32) 91 w38 w.heap.size (fun _ => True) (.slice (some ad220) x3_2.length co37) x3_2) := ⟨by rw [← hq_]; exact (by (with_reducible repeat (first | apply Kd.R_alloc | apply Kd.R_drewN | apply Kd.R_drew)); exact HO_3.out)⟩; have n1_ : Aside0 (Below w.heap.size w w38) := ⟨by rw [← hq_]; exact (by repeat (first | (with_reducible first | exact HB.out | apply below_alloc | apply pw_below_drewN | apply below_drew1) | exact HB.out))⟩; clear HO_3 HB hq_; have HO_3 := n0_; have HB := n1_; clear n0_ n1_))
                                have n0_ := Aside0.mk (Kd.R_drew HO_3.out)
                                have n1_ := Aside0.mk (below_drew1 HB.out)
                                clear HO_3
                                clear HB
                                have HO_3 := n0_
                                have HB := n1_
                                clear n0_ n1_
                                have p230 : 0 ≤ ((ji29) : Int) := of_decide_eq_true (by first | (with_reducible assumption) | assumption)
                                have q230 : (ji29) < (x3_2.length : Int) := of_decide_eq_true (by first | (with_reducible assumption) | assumption)
                                obtain ⟨ad230, e230, hx230_0⟩ := Kd.at_int (Kd.R_reads' HO_3.out).2.2 (ji29) p230 q230
                                obtain rfl : ad220 = ad230 := (by injection e230)
                                replace p230 := eq_true p230
                                replace q230 := eq_true q230
                                have p231 : 0 ≤ ((ji32) : Int) := of_decide_eq_true (by first | (with_reducible assumption) | assumption)
                                have q231 : (ji32) < (x3_2.length : Int) := of_decide_eq_true (by first | (with_reducible assumption) | assumption)
                                obtain ⟨ad231, e231, hx231_0⟩ := Kd.at_int (Kd.R_reads' HO_3.out).2.2 (ji32) p231 q231
                                obtain rfl : ad220 = ad231 := (by injection e231)
                                replace p231 := eq_true p231
                                replace q231 := eq_true q231
                                refine start_ (n := 19) (S := fun w' => w'.cell? (ad220.add ((ji29)).toNat) = some (.int .u32 (rd x3_2 (ji29))) ∧ w'.cell? (ad220.add ((ji32)).toNat) = some (.int .u32 (rd x3_2 (ji32)))) (ds := [16, 17]) #[false, false, false, false, false, false, false, false, false, false, false, false, false, false, false, false, false, false, false] (by kernel_rfl) rfl rfl ⟨hx230_0, hx231_0⟩ (fun hHeld => ?_); refine with_tabW sluicegateref03_words.tab11 sluicegateref03_words.bits11 (fun HT_ HW_ => ?_)
                                generalize w38.drew = w39 at HO_3 HB hx230_0 hx231_0 hHeld ⊢
                                refine pure_ (i := 0) (N := some 92) (v := ?_) (a' := ?_) #[true, false, false, false, false, false, false, false, false, false, false, false, false, false, false, false, false, false, false] rfl rfl (any_of HT_.out (by kernel_rfl)) (fun _ _ _ h => h) (Or.inl ⟨by rfl, ?_⟩) ?_ ?_
                                rotate_left
                                · intro w'
                                  go_simp
                                  with_reducible rfl
                                rotate_left
                                · simp only [Act.put, List.setIfInBounds_toArray, List.set_cons_zero, List.set_cons_succ, i64_w, i32_w]
                                  rfl
                                refine pure_ (i := 1) (N := some 93) (v := ?_) (a' := ?_) #[true, true, false, false, false, false, false, false, false, false, false, false, false, false, false, false, false, false, false] rfl rfl (any_of HT_.out (by kernel_rfl)) (fun _ _ _ h => h) (Or.inl ⟨by rfl, ?_⟩) ?_ ?_
                                rotate_left
                                · intro w'
                                  go_simp
                                  with_reducible rfl
                                rotate_left
                                · simp only [Act.put, List.setIfInBounds_toArray, List.set_cons_zero, List.set_cons_succ, i64_w, i32_w]
                                  rfl
                                refine pure_ (i := 2) (N := some 94) (v := ?_) (a' := ?_) #[true, true, true, false, false, false, false, false, false, false, false, false, false, false, false, false, false, false, false] rfl rfl (any_of HT_.out (by kernel_rfl)) (fun _ _ _ h => h) (Or.inl ⟨by rfl, ?_⟩) ?_ ?_
                                rotate_left
                                · intro w'
                                  go_simp
                                  with_reducible rfl
                                rotate_left
                                · simp only [Act.put, List.setIfInBounds_toArray, List.set_cons_zero, List.set_cons_succ, i64_w, i32_w]
                                  rfl
                                refine pure_ (i := 3) (N := some 95) (v := ?_) (a' := ?_) #[true, true, true, true, false, false, false, false, false, false, false, false, false, false, false, false, false, false, false] rfl rfl (any_of HT_.out (by kernel_rfl)) (fun _ _ _ h => h) (Or.inl ⟨by rfl, ?_⟩) ?_ ?_
                                rotate_left
                                · intro w'
                                  go_simp
                                  with_reducible rfl
                                rotate_left
                                · simp only [Act.put, List.setIfInBounds_toArray, List.set_cons_zero, List.set_cons_succ, i64_w, i32_w]
                                  rfl
                                refine pure_ (i := 4) (N := some 96) (v := ?_) (a' := ?_) #[true, true, true, true, true, false, false, false, false, false, false, false, false, false, false, false, false, false, false] rfl rfl (any_of HT_.out (by kernel_rfl)) (fun _ _ _ h => h) (Or.inl ⟨by rfl, ?_⟩) ?_ ?_
                                rotate_left
                                · intro w'
                                  go_simp
                                  with_reducible rfl
                                rotate_left
                                · simp only [Act.put, List.setIfInBounds_toArray, List.set_cons_zero, List.set_cons_succ, i64_w, i32_w]
                                  rfl
                                refine pure_ (i := 6) (N := some 98) (v := ?_) (a' := ?_) #[true, true, true, true, true, false, true, false, false, false, false, false, false, false, false, false, false, false, false] rfl rfl (any_of HT_.out (by kernel_rfl)) (fun _ _ _ h => h) (Or.inl ⟨by rfl, ?_⟩) ?_ ?_
                                rotate_left
                                · intro w'
                                  go_simp
                                  with_reducible rfl
                                rotate_left
                                · simp only [Act.put, List.setIfInBounds_toArray, List.set_cons_zero, List.set_cons_succ, i64_w, i32_w]
                                  rfl
                                refine pure_ (i := 8) (N := some 100) (v := ?_) (a' := ?_) #[true, true, true, true, true, false, true, false, true, false, false, false, false, false, false, false, false, false, false] rfl rfl (any_of HT_.out (by kernel_rfl)) (fun _ _ _ h => h) (Or.inl ⟨by rfl, ?_⟩) ?_ ?_
                                rotate_left
                                · intro w'
                                  go_simp
                                  with_reducible rfl
                                rotate_left
                                · simp only [Act.put, List.setIfInBounds_toArray, List.set_cons_zero, List.set_cons_succ, i64_w, i32_w]
                                  rfl
                                refine pure_ (i := 9) (N := some 101) (v := ?_) (a' := ?_) #[true, true, true, true, true, false, true, false, true, true, false, false, false, false, false, false, false, false, false] rfl rfl (any_of HT_.out (by kernel_rfl)) (fun _ _ _ h => h) (Or.inl ⟨by rfl, ?_⟩) ?_ ?_
                                rotate_left
                                · intro w'
                                  go_simp
                                  with_reducible rfl
                                rotate_left
                                · simp only [Act.put, List.setIfInBounds_toArray, List.set_cons_zero, List.set_cons_succ, i64_w, i32_w]
                                  rfl
                                refine pure_ (i := 10) (N := some 102) (v := ?_) (a' := ?_) #[true, true, true, true, true, false, true, false, true, true, true, false, false, false, false, false, false, false, false] rfl rfl (any_of HT_.out (by kernel_rfl)) (fun _ _ _ h => h) (Or.inl ⟨by rfl, ?_⟩) ?_ ?_
                                rotate_left
                                · intro w'
                                  go_simp
                                  with_reducible rfl
                                rotate_left
                                · simp only [Act.put, List.setIfInBounds_toArray, List.set_cons_zero, List.set_cons_succ, i64_w, i32_w]
                                  rfl
                                refine pure_ (i := 11) (N := some 103) (v := ?_) (a' := ?_) #[true, true, true, true, true, false, true, false, true, true, true, true, false, false, false, false, false, false, false] rfl rfl (any_of HT_.out (by kernel_rfl)) (fun _ _ _ h => h) (Or.inl ⟨by rfl, ?_⟩) ?_ ?_
                                rotate_left
                                · intro w'
                                  go_simp
                                  with_reducible rfl
                                rotate_left
                                · simp only [Act.put, List.setIfInBounds_toArray, List.set_cons_zero, List.set_cons_succ, i64_w, i32_w]
                                  rfl
                                refine pure_ (i := 14) (N := some 106) (v := ?_) (a' := ?_) #[true, true, true, true, true, false, true, false, true, true, true, true, false, false, true, false, false, false, false] rfl rfl (any_of HT_.out (by kernel_rfl)) (fun _ _ _ h => h) (Or.inl ⟨by rfl, ?_⟩) ?_ ?_
                                rotate_left
                                · intro w'
                                  go_simp
                                  with_reducible rfl
                                rotate_left
                                · simp only [Act.put, List.setIfInBounds_toArray, List.set_cons_zero, List.set_cons_succ, i64_w, i32_w]
                                  rfl
                                refine take_ (i := 5) (N := some 97) (v := ?_) (a' := ?_) #[true, true, true, true, true, true, true, false, true, true, true, true, false, false, true, false, false, false, false] rfl rfl (take_ofW HT_.out HW_.out (by kernel_rfl)) (fun _ _ _ h => h) (Or.inl ⟨by rfl, ?_⟩) hHeld ?_ ?_
                                rotate_left
                                · rintro w' ⟨s0, s1⟩
                                  go_simp
                                  with_reducible rfl
                                rotate_left
                                · simp only [Act.put, List.setIfInBounds_toArray, List.set_cons_zero, List.set_cons_succ, i64_w, i32_w]
                                  rfl
                                refine pure_ (i := 7) (N := some 99) (v := ?_) (a' := ?_) #[true, true, true, true, true, true, true, true, true, true, true, true, false, false, true, false, false, false, false] rfl rfl (any_of HT_.out (by kernel_rfl)) (fun _ _ _ h => h) (Or.inl ⟨by rfl, ?_⟩) ?_ ?_
                                rotate_left
                                · intro w'
                                  go_simp
                                  with_reducible rfl
                                rotate_left
                                · simp only [Act.put, List.setIfInBounds_toArray, List.set_cons_zero, List.set_cons_succ, i64_w, i32_w]
                                  rfl
                                refine take_ (i := 12) (N := some 104) (v := ?_) (a' := ?_) #[true, true, true, true, true, true, true, true, true, true, true, true, true, false, true, false, false, false, false] rfl rfl (take_ofW HT_.out HW_.out (by kernel_rfl)) (fun _ _ _ h => h) (Or.inl ⟨by rfl, ?_⟩) hHeld ?_ ?_
                                rotate_left
                                · rintro w' ⟨s0, s1⟩
                                  go_simp
                                  with_reducible rfl
                                rotate_left
                                · simp only [Act.put, List.setIfInBounds_toArray, List.set_cons_zero, List.set_cons_succ, i64_w, i32_w]
                                  rfl
                                refine pure_ (i := 13) (N := some 105) (v := ?_) (a' := ?_) #[true, true, true, true, true, true, true, true, true, true, true, true, true, true, true, false, false, false, false] rfl rfl (any_of HT_.out (by kernel_rfl)) (fun _ _ _ h => h) (Or.inl ⟨by rfl, ?_⟩) ?_ ?_
                                rotate_left
                                · intro w'
                                  go_simp
                                  with_reducible rfl
                                rotate_left
                                · simp only [Act.put, List.setIfInBounds_toArray, List.set_cons_zero, List.set_cons_succ, i64_w, i32_w]
                                  rfl
                                refine pure_ (i := 15) (N := some 107) (v := ?_) (a' := ?_) #[true, true, true, true, true, true, true, true, true, true, true, true, true, true, true, true, false, false, false] rfl rfl (any_of HT_.out (by kernel_rfl)) (fun _ _ _ h => h) (Or.inl ⟨by rfl, ?_⟩) ?_ ?_
                                rotate_left
                                · intro w'
                                  go_simp
                                  with_reducible rfl
                                rotate_left
                                · simp only [Act.put, List.setIfInBounds_toArray, List.set_cons_zero, List.set_cons_succ, i64_w, i32_w]
                                  rfl
                                refine last_ (i := 16) (N := some 108) #[true, true, true, true, true, true, true, true, true, true, true, true, true, true, true, true, true, false, false] rfl rfl (one_of HT_.out (by kernel_rfl)) (by decide) (fun K hK => ?_)
                                refine value_ (w1 := ?_) (v := ?_) (by rfl) rfl ?_ ?_
                                rotate_left 2
                                · go_simp
                                  constructor
                                  · rfl
                                  · rfl
                                refine hK.out _ _ ?_
                                clear hK K
                                refine norm_ (a' := ?_) ?_ ?_
                                rotate_left
                                · show Act.put _ (some 108) _ = _
                                  simp only [Act.put, List.setIfInBounds_toArray, List.set_cons_zero, List.set_cons_succ, i64_w, i32_w]
                                  rfl
                                refine last_ (i := 17) (N := some 109) #[true, true, true, true, true, true, true, true, true, true, true, true, true, true, true, true, true, true, false] rfl rfl (one_of HT_.out (by kernel_rfl)) (by decide) (fun K hK => ?_)
                                refine Kd.R_append_step (Kd.int .u32) (w0 := w) w.heap.size (by rfl) (.tmp 92) (.tmp 108) 92 91 (.int .u32 0) 4 rfl Tryd.underlying92 info91 rfl (by decide) (by omega) (.slice (some ad220) x3_2.length co37) x3_2 (((((((rd x3_2 (ji29)) + (Go.bits .xor .u32 (Go.bits .xor .u32 t221 t223) ((rd x3_2 (ji19)) / 8))) % 4294967296) + (rd x3_2 (ji32))) % 4294967296) + (Go.bits .xor .u32 (Go.bits .xor .u32 t226 t228) ((rd x3_2 (ji24)) / 1024))) % 4294967296) [.int .u32 (((((((rd x3_2 (ji29)) + (Go.bits .xor .u32 (Go.bits .xor .u32 t221 t223) ((rd x3_2 (ji19)) / 8))) % 4294967296) + (rd x3_2 (ji32))) % 4294967296) + (Go.bits .xor .u32 (Go.bits .xor .u32 t226 t228) ((rd x3_2 (ji24)) / 1024))) % 4294967296)] (fun _ => True) (fun _ => False) rfl rfl ?aP (fun _ hk => hk.elim) ?aF ?aO ?aB ?aS ?aL ?_
                                (case aP => exact rfl)
                                (case aB => exact (by repeat (first | (with_reducible first | exact HB.out | apply below_alloc | apply pw_below_drewN | apply below_drew1) | exact HB.out)))
                                (case aF => exact (fun _ _ => trivial))
                                (case aO => exact (by (with_reducible repeat (first | apply Kd.R_alloc | apply Kd.R_drewN | apply Kd.R_drew)); exact HO_3.out))
                                (case aS => exact (below_size (by repeat (first | (with_reducible first | exact HB.out | apply below_alloc | apply pw_below_drewN | apply below_drew1) | exact HB.out))))
                                (case aL => have := LMc35.out; omega)
                                intro v233 w40 ho hb hg hat
                                rw [← Ny232.out] at ho
                                have n0_ := Aside0.mk (hb)
                                have n1_ := Aside0.mk (ho)
                                clear HB
                                clear HO_3
                                have HB := n0_
                                have HO234 := n1_
                                clear n0_ n1_
                                clear ho hb hg hat
                                refine hK.out _ _ ?_
                                clear hK K
                                refine norm_ (a' := ?_) ?_ ?_
                                rotate_left
                                · show Act.put _ (some 109) _ = _
                                  simp only [Act.put, List.setIfInBounds_toArray, List.set_cons_zero, List.set_cons_succ, i64_w, i32_w]
                                  rfl
                                refine pure_ (i := 18) (N := some 3) (v := ?_) (a' := ?_) #[true, true, true, true, true, true, true, true, true, true, true, true, true, true, true, true, true, true, true] rfl rfl (any_of HT_.out (by kernel_rfl)) (fun _ _ _ h => h) (Or.inl ⟨by rfl, ?_⟩) ?_ ?_
                                rotate_left
                                · intro w'
                                  go_simp
                                  with_reducible rfl
                                rotate_left
                                · simp only [Act.put, List.setIfInBounds_toArray, List.set_cons_zero, List.set_cons_succ, i64_w, i32_w]
                                  rfl
                                refine done_ (done_of HT_.out (by kernel_rfl)) ?_
                                try go_wp2
                                go_roundg k2
                                case measure => have := HK1.out; have := HK2.out; omega
                                case rel => exact ⟨(y232), (wrap64 (x5_2 + 1)), (by first | rfl | (simp; done) | (simp [*]; done)), H', ⟨by have := HK1.out; have := HK2.out; omega⟩, ⟨by (with_reducible repeat (first | apply Kd.R_alloc | apply Kd.R_drewN | apply Kd.R_drew)); exact HO234.out⟩, ⟨by repeat (first | (with_reducible first | exact HB.out | apply below_alloc | apply pw_below_drewN | apply below_drew1) | exact HB.out)⟩⟩
                              · rw [if_neg c35] at H
                                exact absurd H (by simp)
                            · rw [if_neg c34] at H
                              exact absurd H (by simp)
                          · rw [if_neg c33] at H
                            exact absurd H (by simp)
                        · rw [if_neg c31] at H
                          exact absurd H (by simp)
                      · rw [if_neg c30] at H
                        exact absurd H (by simp)
                    · rw [if_neg c26] at H
                      exact absurd H (by simp)
                  · rw [if_neg c25] at H
                    exact absurd H (by simp)
                · rw [if_neg c21] at H
                  exact absurd H (by simp)
              · rw [if_neg c20] at H
                exact absurd H (by simp)
            · rw [if_neg c18] at H
              have c18b0 : decide (x5_2 < 64) = false := decide_eq_false c18
              clear c18
              obtain rfl := Option.some.inj H
              go_wp2
              go_ret
              exact ⟨_, by first | rfl | (simp [errW_none, errW_some] <;> rfl) | (simp [*, errW_none, errW_some] <;> rfl), by (with_reducible repeat (first | apply Kd.R_alloc | apply Kd.R_drewN | apply Kd.R_drew)); exact HO_3.out, by repeat (first | (with_reducible first | exact HB.out | apply below_alloc | apply pw_below_drewN | apply below_drew1) | exact HB.out)⟩
end Go.Proofs.YtpgfafpjfdbjmaaDoor.Q
end
section
namespace Go.Proofs.YtpgfafpjfdbjmaaDoor
open Go.RowKit
def BT (T : TypeId) : Prop := T ≠ 5 ∧ liesAt Tryd.prog Tryd.prog.depth T (2 / Tryd.prog.cellsOf T) 0 101 1 = true
theorem bt_builder : BT 101 := ⟨by decide, by kernel_rfl⟩
def BdAt (B b : Nat) (p v : Value) (l : List UInt8) (w : World) : Prop :=
  ∃ T, BT T ∧ w.heap[b]? = some (.cells #[p, v] T (0, 0)) ∧ w.ownsRowF B 5 1 v l.length (Lib.byteCells l) ∧ v.ownBlock ≠ some b ∧ (l = [] → v = .slice none 0 0)
def Bd (B b : Nat) (l : List UInt8) (w : World) : Prop :=
  ∃ p v, (p = .pointer none ∨ p = .pointer (some ⟨b, 0, none⟩)) ∧ BdAt B b p v l w
structure Bf (B b : Nat) (w w' : World) : Prop where
  os : w'.os = w.os
  tape : w'.tape = w.tape
  output : w'.output = w.output
  size : w.heap.size ≤ w'.heap.size
  block : ∀ k, k < B → k ≠ b → w'.heap[k]? = w.heap[k]?
theorem Bf.refl (B b : Nat) (w : World) : Bf B b w w := ⟨rfl, rfl, rfl, Nat.le_refl _, fun _ _ _ => rfl⟩
theorem Bf.trans {B b : Nat} {w w1 w2 : World} (h : Bf B b w w1) (k : Bf B b w1 w2) : Bf B b w w2 :=
  ⟨k.os.trans h.os, k.tape.trans h.tape, k.output.trans h.output, Nat.le_trans h.size k.size, fun i hi hne => (k.block i hi hne).trans (h.block i hi hne)⟩
theorem Bf.below {B b S : Nat} {w w' : World} (h : Bf B b w w') (h1 : S ≤ B) (h2 : S ≤ b) : Below S w w' :=
  ⟨h.os, h.tape, h.output, h.size, fun k hk => h.block k (by omega) (by omega)⟩
theorem Bf.of_below {B b : Nat} {w w' : World} (h : Below w.heap.size w w') (hB : B ≤ w.heap.size) : Bf B b w w' :=
  ⟨h.os, h.tape, h.output, h.size, fun k hk _ => h.block k (by omega)⟩
theorem Bf.cell {B b : Nat} {w w' : World} (h : Bf B b w w') {a : Addr} {v : Value} (hc : w.cell? a = some v) (h1 : a.block < B) (h2 : a.block ≠ b) : w'.cell? a = some v :=
  (World.cell?_of_block (h.block a.block h1 h2)).trans hc
theorem BdAt.keep {B b : Nat} {p v : Value} {l : List UInt8} {w w' : World} (h : BdAt B b p v l w) (hk : ∀ k, k < w.heap.size → w'.heap[k]? = w.heap[k]?) : BdAt B b p v l w' := by
  obtain ⟨T, hT, h1, h2, h3, h4⟩ := h
  have hlt := (Array.getElem?_eq_some_iff.1 h1).1
  refine ⟨T, hT, (hk b hlt).trans h1, ⟨h2.1, ?_⟩, h3, h4⟩
  rcases h2.2 with hn | ⟨g, cap, cur, fz, rfl, hb, hg, rest⟩
  · exact .inl hn
  · exact .inr ⟨g, cap, cur, fz, rfl, hb, (hk g (Array.getElem?_eq_some_iff.1 hg).1).trans hg, rest⟩
theorem Bd.keep {B b : Nat} {l : List UInt8} {w w' : World} (h : Bd B b l w) (hb : Below w.heap.size w w') : Bd B b l w' := by
  obtain ⟨p, v, hp, h⟩ := h
  exact ⟨p, v, hp, h.keep hb.block⟩
theorem Bd.lt {B b : Nat} {l : List UInt8} {w : World} (h : Bd B b l w) : b < w.heap.size := by
  obtain ⟨p, v, hp, T, hT, h⟩ := h
  exact (Array.getElem?_eq_some_iff.1 h.1).1
theorem Bd.freshT {T : TypeId} (hT : BT T) (B b : Nat) (w : World) (h : w.heap[b]? = some (.cells #[.pointer none, .slice none 0 0] T (0, 0))) : Bd B b [] w :=
  ⟨_, _, .inl rfl, T, hT, h, World.ownsRowF_nil w B _ 1, by simp [Value.ownBlock], fun _ => rfl⟩
theorem Bd.fresh (B b : Nat) (w : World) (h : w.heap[b]? = some (.cells #[.pointer none, .slice none 0 0] 101 (0, 0))) : Bd B b [] w := Bd.freshT bt_builder B b w h
theorem Bd.new (B : Nat) (w : World) : Bd B w.heap.size [] (w.alloc (.cells #[.pointer none, .slice none 0 0] 101)) :=
  Bd.fresh B _ _ (heap_alloc_new w _)
set_option maxHeartbeats 1000000 in
set_option maxRecDepth 100000 in
theorem bcc_fresh (B b : Nat) (v : Value) (l : List UInt8) (w : World) (h : BdAt B b (.pointer none) v l w) :
    Calls Tryd.prog 80 #[.pointer (some ⟨b, 0, none⟩)] w fun e w' => e = .returned (.tuple #[]) ∧ w' = w.setCell ⟨b, 0, none⟩ (.pointer (some ⟨b, 0, none⟩)) := by
  obtain ⟨T, hT, h⟩ := h
  have h0 : w.cell? ⟨b, 0, none⟩ = some (.pointer none) := by simp [World.cell?, h.1]
  have hsh : w.shape? b = some (T, 2) := by simp [World.shape?, h.1]
  have hfz : w.frozen? ⟨b, 0, none⟩ = false := by simp [World.frozen?, h.1]
  obtain ⟨j, hj, hjs⟩ := Option.map_eq_some_iff.1 (show (Tryd.prog.info? 101).map (·.size) = some 2 by kernel_rfl)
  clear h
  go_enter Tryd.func80, Tryd.ntmps80
  go_wp2
  rw [Lib.run_to_unsafe w ⟨b, 0, none⟩ (t := 101) (by kernel_rfl) (by kernel_rfl) hj (by rw [hjs]; decide) hsh (Nat.zero_lt_succ 1)]
  simp only [Result.andThen]
  rw [Oper.upon_value]
  go_wp2
  rw [run_callFunc_extern Tryd.func88 (by kernel_rfl) (by kernel_rfl) (by kernel_rfl) (e := Extern.AbiNoEscape.same) (by kernel_rfl)]
  rw [Lib.run_noEscape]
  simp only [Result.andThen]
  rw [Oper.upon_value]
  go_wp2
  rw [Lib.run_from_unsafe w ⟨b, 0, none⟩ (u := 101) (by kernel_rfl) (by kernel_rfl) hj hsh hT.2]
  simp only [Result.andThen]
  rw [Oper.upon_value]
  go_wp2
  go_end0
  exact ⟨rfl, rfl⟩
set_option maxHeartbeats 1000000 in
set_option maxRecDepth 100000 in
theorem bcc_used (B b : Nat) (v : Value) (l : List UInt8) (w : World) (h : BdAt B b (.pointer (some ⟨b, 0, none⟩)) v l w) :
    Calls Tryd.prog 80 #[.pointer (some ⟨b, 0, none⟩)] w fun e w' => e = .returned (.tuple #[]) ∧ w' = w := by
  obtain ⟨T, hT, h⟩ := h
  have h0 : w.cell? ⟨b, 0, none⟩ = some (.pointer (some ⟨b, 0, none⟩)) := by simp [World.cell?, h.1]
  obtain ⟨j, hj, _⟩ := Option.map_eq_some_iff.1 (show (Tryd.prog.info? 101).map (·.size) = some 2 by kernel_rfl)
  clear h
  go_enter Tryd.func80, Tryd.ntmps80
  go_wp2
  rw [Lib.run_neq_ptr_same w _ (te := 101) (by kernel_rfl) hj]
  go_wp2
  go_end0
  exact ⟨rfl, rfl⟩
theorem BdAt.used {B b : Nat} {p v : Value} {l : List UInt8} {w : World} (h : BdAt B b p v l w) (q : Value) : BdAt B b q v l (w.setCell ⟨b, 0, none⟩ q) := by
  obtain ⟨T, hT, h1, h2, h3, h4⟩ := h
  refine ⟨T, hT, ?_, ?_, h3, h4⟩
  · simp [World.setCell, Array.getElem?_modify, h1]
  · exact h2.kept (row := some b) ⟨rfl, rfl, rfl, by simp [World.setCell], fun k _ hk => Below.heap_setCell _ _ _ _ (fun e => hk (by simp [e]))⟩ (Or.inr h3)
structure Cf (b : Nat) (w w' : World) : Prop where
  os : w'.os = w.os
  tape : w'.tape = w.tape
  output : w'.output = w.output
  size : w'.heap.size = w.heap.size
  block : ∀ k, k ≠ b → w'.heap[k]? = w.heap[k]?
theorem bcc (B b : Nat) (l : List UInt8) (w : World) (h : Bd B b l w) :
    Calls Tryd.prog 80 #[.pointer (some ⟨b, 0, none⟩)] w fun e w' => e = .returned (.tuple #[]) ∧ (∃ v, BdAt B b (.pointer (some ⟨b, 0, none⟩)) v l w') ∧ Cf b w w' := by
  obtain ⟨p, v, rfl | rfl, h⟩ := h
  · refine (bcc_fresh B b v l w h).mono ?_
    rintro e w' ⟨rfl, rfl⟩
    exact ⟨rfl, ⟨v, h.used _⟩, ⟨rfl, rfl, rfl, by simp [World.setCell], fun k hk => Below.heap_setCell _ _ _ _ (fun e => hk e)⟩⟩
  · refine (bcc_used B b v l w h).mono ?_
    rintro e w' ⟨rfl, rfl⟩
    exact ⟨rfl, ⟨v, h⟩, ⟨rfl, rfl, rfl, rfl, fun _ _ => rfl⟩⟩
theorem BdAt.put {B b : Nat} {p v v' : Value} {l' : List UInt8} {w : World} {T : TypeId} (hT : BT T) (hb : w.heap[b]? = some (.cells #[p, v] T (0, 0))) (hown : w.ownsRowF B 5 1 v' l'.length (Lib.byteCells l')) (h0 : l' = [] → v' = .slice none 0 0) :
    BdAt B b p v' l' (w.setCell ⟨b, 1, none⟩ v') := by
  have hne := Lib.ownBlock_neF hown hb hT.1
  refine ⟨T, hT, ?_, ?_, hne, h0⟩
  · simp [World.setCell, Array.getElem?_modify, hb]
  · exact hown.kept (row := some b) ⟨rfl, rfl, rfl, by simp [World.setCell], fun k _ hk => Below.heap_setCell _ _ _ _ (fun e => hk (by simp [e]))⟩ (Or.inr hne)
theorem Bf.write {B b : Nat} {v v' : Value} {l : List UInt8} {w w1 w1' w2 : World} (hc : Cf b w w1) (hB : B ≤ w.heap.size) (ha : Below w1.heap.size w1 w1') (hown : w1'.ownsRowF B 5 1 v l.length (Lib.byteCells l)) (hg : w1'.grownBy w2 v.ownBlock) :
    Bf B b w (w2.setCell ⟨b, 1, none⟩ v') := by
  have hs := hc.size
  refine ⟨hg.os.trans (ha.os.trans hc.os), hg.tape.trans (ha.tape.trans hc.tape), hg.output.trans (ha.output.trans hc.output), ?_, fun k hk hne => ?_⟩
  · have := ha.size; have := hg.size; simp [World.setCell]; omega
  · have hlt := hown.lt
    rw [show (w2.setCell ⟨b, 1, none⟩ v').heap[k]? = w2.heap[k]? from Below.heap_setCell _ _ _ _ (fun e => hne e), hg.block k (by have := ha.size; omega) (fun e => by have := hlt k e.symm; omega), ha.block k (by omega), hc.block k hne]
theorem info8 : ∃ i, Tryd.prog.info? 5 = some i ∧ i.zero = some (.int .u8 0) ∧ i.size = 1 ∧ i.bytes = 1 := info_parts (by kernel_rfl)
set_option maxHeartbeats 1000000 in
set_option maxRecDepth 100000 in
theorem bString_cons (B b : Nat) (l : List UInt8) (w : World) (h : Bd B b l w) (h0 : l ≠ []) :
    Calls Tryd.prog 64 #[.pointer (some ⟨b, 0, none⟩)] w fun e w' => e = .returned (.string ⟨l.toArray⟩) ∧ Bf B b w w' := by
  obtain ⟨p, v, hp, T, hT, hbk, hown, hne, _⟩ := h
  have hl0 : l.length ≠ 0 := by simpa using h0
  obtain ⟨g, cap, cur, fz, rfl, hbg, hg, hfz, hnc, hcm, hcs, htake⟩ : ∃ g cap cur fz, v = .slice (some ⟨g, 0, none⟩) l.length cap ∧ B ≤ g ∧ w.heap[g]? = some (.cells cur 5 fz) ∧ fz.2 ≤ l.length * 1 ∧ l.length ≤ cap ∧ cap ≤ maxLen ∧ cur.size = cap * 1 ∧ cur.toList.take (l.length * 1) = Lib.byteCells l := by
    rcases hown.2 with ⟨_, hz⟩ | ⟨g, cap, cur, fz, hv, r⟩
    · exact absurd hz hl0
    · exact ⟨g, cap, cur, fz, hv, r⟩
  have c1 : w.drew.cell? ⟨b, 1, none⟩ = some (.slice (some ⟨g, 0, none⟩) l.length cap) := by
    have : w.drew.heap[b]? = some (.cells #[p, .slice (some ⟨g, 0, none⟩) l.length cap] T (0, 0)) := hbk
    rw [Lib.cell_of_heap this]; rfl
  have hSD : (Builtin.unsafeSliceData_ #[59] 127 #[.slice (some ⟨g, 0, none⟩) l.length cap]).run Tryd.prog w.drew = .ok (.pointer (some ⟨g, 0, none⟩)) w.drew :=
    Lib.run_unsafeSliceData_row _ _ _ _ _ _ (by omega)
  have hUS : (Builtin.unsafeString_ #[127, 3] 9 #[.pointer (some ⟨g, 0, none⟩), .int .i64 l.length]).run Tryd.prog w.drew = .ok (.string ⟨l.toArray⟩) (w.drew.freeze ⟨g, 0, none⟩ l.length) := by
    refine Lib.run_unsafeString_row w.drew 127 3 9 5 (by kernel_rfl) (by kernel_rfl) g cur.size (by have hg' : w.drew.heap[g]? = some (.cells cur 5 fz) := hg; simp [World.shape?, hg']) l h0 (by omega) (by unfold maxLen at hcm; omega) ?_
    intro j x hx
    have := hown.cells (g := g) rfl j (.int .u8 x.toNat) (by simp [Lib.byteCells, hx])
    exact this
  have hfin : Bf B b w (w.drew.freeze ⟨g, 0, none⟩ l.length) := by
    have := Lib.below_freeze (Below.drew (Below.refl B w)) (p := ⟨g, 0, none⟩) hbg l.length
    exact ⟨this.os, this.tape, this.output, this.size, fun k hk _ => this.block k hk⟩
  have HF := Lib.hid hfin
  have mixed : Tryd.prog.follows Departure.mixedOrders = true := by kernel_rfl
  clear hfin hown hp hbk
  go_enter Tryd.func64, Tryd.ntmps64
  go_wp2
  go_region_o
  all_goals (go_wp2; go_ret; exact ⟨rfl, HF.out⟩)
set_option maxHeartbeats 1000000 in
set_option maxRecDepth 100000 in
theorem bString_nil (B b : Nat) (w : World) (h : Bd B b [] w) :
    Calls Tryd.prog 64 #[.pointer (some ⟨b, 0, none⟩)] w fun e w' => e = .returned (.string ⟨#[]⟩) ∧ Bf B b w w' := by
  obtain ⟨p, v, hp, T, hT, hbk, hown, hne, hv⟩ := h
  obtain rfl := hv rfl
  have hUS : ∀ W, (Builtin.unsafeString_ #[127, 3] 9 #[.pointer none, .int .i64 0]).run Tryd.prog W = .ok (.string .empty) W := fun W => Lib.run_unsafeString_none W _ _ _ none
  have c1 : w.drew.cell? ⟨b, 1, none⟩ = some (.slice none 0 0) := by
    have : w.drew.heap[b]? = some (.cells #[p, .slice none 0 0] T (0, 0)) := hbk
    rw [Lib.cell_of_heap this]; rfl
  have hSD : ∀ W, (Builtin.unsafeSliceData_ #[59] 127 #[.slice none 0 0]).run Tryd.prog W = .ok (.pointer none) W := fun _ => rfl
  have hfin : Bf B b w w.drew := by
    have := Below.drew (Below.refl B w)
    exact ⟨this.os, this.tape, this.output, this.size, fun k hk _ => this.block k hk⟩
  have HF := Lib.hid hfin
  have mixed : Tryd.prog.follows Departure.mixedOrders = true := by kernel_rfl
  clear hfin hown hp hbk hv
  go_enter Tryd.func64, Tryd.ntmps64
  go_wp2
  go_region_o
  all_goals (go_wp2; go_ret; exact ⟨rfl, HF.out⟩)
theorem bString (B b : Nat) (l : List UInt8) (w : World) (h : Bd B b l w) :
    Calls Tryd.prog 64 #[.pointer (some ⟨b, 0, none⟩)] w fun e w' => e = .returned (.string ⟨l.toArray⟩) ∧ Bf B b w w' := by
  cases l with
  | nil => exact bString_nil B b w h
  | cons x r => exact bString_cons B b (x :: r) w h (by simp)
end Go.Proofs.YtpgfafpjfdbjmaaDoor
end
section
namespace Go.Proofs.YtpgfafpjfdbjmaaDoor
open Go.RowKit Q Go.Proofs.YtpgfafpjfdbjmaaDoorW.PrintWords Go.Proofs.YtpgfafpjfdbjmaaDoorW.PrintLast Go.Proofs.YtpgfafpjfdbjmaaDoorW.PrintMore
def arr (k : IntKind) (xs : List Int) : Array Value := (xs.map (Value.int k)).toArray
theorem arr_set (k : IntKind) (xs : List Int) (i : Nat) (v : Int) : (arr k xs).setIfInBounds i (.int k v) = arr k (xs.set i v) := by
  simp [arr, List.map_set]
theorem arr_get (k : IntKind) (xs : List Int) (i : Nat) (_h : i < xs.length) : (arr k xs)[i]? = some (.int k (xs.getD i 0)) := by
  simp [arr, _h, List.getD_eq_getElem?_getD]
theorem arr_size (k : IntKind) (xs : List Int) : (arr k xs).size = xs.length := by simp [arr]
theorem arr_one (k : IntKind) (xs : List Int) : (arr k xs).all (·.oneCell') = true := by
  simp [arr, Value.oneCell']
def zs (n : Nat) : List Int := List.replicate n 0
def rr (x n : Int) : Int := Go.bits .or .u32 (shr .u32 x n) (shl .u32 x (wrap64 (32 - n)))
theorem right_f (x n : Int) (h0 : 0 ≤ n) (h1 : n ≤ 32) : digest_right.f x n = some (rr x n) := by
  unfold digest_right.f rr
  have e : wrap64 (32 - n) = 32 - n := by unfold wrap64; omega
  rw [if_pos h0, if_pos (by omega)]
theorem right_q (x n : Int) (h0 : 0 ≤ n) (h1 : n ≤ 32) (w : World) (k : Nat) : Calls Tryd.prog 86 #[.int .u32 x, .int .i64 n] (w.drewN k) fun e w'' => e = .returned (.int .u32 (rr x n)) ∧ ∃ m, w'' = w.drewN m := by
  refine Calls.quiet_of ((digest_right.calls x n _ _ (right_f x n h0 h1)).mono ?_)
  rintro e w' ⟨rfl, d⟩
  exact ⟨rfl, d.out⟩
def byteAt (s : ByteArray) (k : Nat) : Int := ((s.data.toList.getD k 0).toNat : Int)
def acc (b : ByteArray) (i : Nat) : Nat → Int
  | 0 => 0
  | j + 1 => Go.bits .or .u32 (acc b i j * 256 % 4294967296) (byteAt b (4 * i + j))
def sg0 (x : Int) : Int := Go.bits .xor .u32 (Go.bits .xor .u32 (rr x 7) (rr x 18)) (x / 8)
def sg1 (x : Int) : Int := Go.bits .xor .u32 (Go.bits .xor .u32 (rr x 17) (rr x 19)) (x / 1024)
def wAt (b : ByteArray) (xs : List Int) (i : Nat) : Int :=
  if i < 16 then acc b i 4 else (xs.getD (i - 16) 0 + xs.getD (i - 7) 0 + sg0 (xs.getD (i - 15) 0) + sg1 (xs.getD (i - 2) 0)) % 4294967296
def wl (b : ByteArray) : Nat → List Int
  | 0 => zs 64
  | i + 1 => (wl b i).set i (wAt b (wl b i) i)
theorem wl_len (b : ByteArray) (i : Nat) : (wl b i).length = 64 := by
  induction i with
  | zero => exact List.length_replicate
  | succ i ih => rw [wl, List.length_set, ih]
theorem wl_zero (b : ByteArray) (i : Nat) : ∀ j, i ≤ j → j < 64 → (wl b i)[j]? = some 0 := by
  induction i with
  | zero => intro j _ hj; rw [wl, zs, List.getElem?_replicate, if_pos hj]
  | succ i ih => intro j hij hj; rw [wl, List.getElem?_set, if_neg (by omega)]; exact ih j (by omega) hj
theorem wl_set_zero (b : ByteArray) (i : Nat) (h : i < 64) : (wl b i).set i 0 = wl b i := by
  have := wl_zero b i i (Nat.le_refl _) h
  apply List.ext_getElem?
  intro j
  rw [List.getElem?_set]
  split
  · rename_i e; subst e; rw [wl_len, if_pos h, this]
  · rfl
theorem byteAt_rng (s : ByteArray) (k : Nat) : 0 ≤ byteAt s k ∧ byteAt s k ≤ 255 := by
  unfold byteAt
  have := (s.data.toList.getD k 0).toNat_lt
  omega
theorem byteAt_eq (s : ByteArray) (k : Nat) (h : k < s.size) : byteAt s k = ((s[k]'h).toNat : Int) := by
  have h' : k < s.data.size := h
  have e : s.data.toList.getD k 0 = s[k]'h := by
    rw [List.getD_eq_getElem?_getD, List.getElem?_eq_getElem (by simpa using h')]; rfl
  unfold byteAt
  rw [e]
theorem index_at (b : ByteArray) (n : Int) (k : Nat) (hn : n = (k : Int)) (hk : k < b.size) (W : World) : (Instr.index 9 (.string b) (.int .i64 n)).run Tryd.prog W = .ok (.int .u8 (byteAt b k)) W := by
  subst hn
  rw [run_index_string W 9 b .i64 (k : Int) Tryd.underlying9, dif_pos (by omega), byteAt_eq b k hk]
  rfl
structure V8 where
  a : Int
  b : Int
  c : Int
  d : Int
  e : Int
  f : Int
  g : Int
  h : Int
def V8.l (x : V8) : List Int := [x.a, x.b, x.c, x.d, x.e, x.f, x.g, x.h]
def tt (e f g h k w : Int) : Int :=
  ((h + Go.bits .xor .u32 (Go.bits .xor .u32 (rr e 6) (rr e 11)) (rr e 25) + Go.bits .xor .u32 g (Go.bits .and .u32 e (Go.bits .xor .u32 f g)) + k) % 4294967296 + w) % 4294967296
def uu (a b c : Int) : Int :=
  (Go.bits .xor .u32 (Go.bits .xor .u32 (rr a 2) (rr a 13)) (rr a 22) + Go.bits .or .u32 (Go.bits .and .u32 a b) (Go.bits .and .u32 c (Go.bits .or .u32 a b))) % 4294967296
def stp (x : V8) (k w : Int) : V8 :=
  ⟨(tt x.e x.f x.g x.h k w + uu x.a x.b x.c) % 4294967296, x.a, x.b, x.c, (x.d + tt x.e x.f x.g x.h k w) % 4294967296, x.e, x.f, x.g⟩
def cv (x : V8) (K W : List Int) : Nat → V8
  | 0 => x
  | i + 1 => stp (cv x K W i) (K.getD i 0) (W.getD i 0)
def ad (s v : List Int) : Nat → List Int
  | 0 => s
  | i + 1 => (ad s v i).set i (((ad s v i).getD i 0 + v.getD i 0) % 4294967296)
theorem ad_len (s v : List Int) (i : Nat) : (ad s v i).length = s.length := by
  induction i with
  | zero => rfl
  | succ i ih => rw [ad, List.length_set, ih]
def wlAll (b : ByteArray) : List Int := wl b 64
def blk (K : List Int) (x : V8) (b : ByteArray) : List Int := ad x.l (cv x K (wlAll b) 64).l 8
theorem zero64 (w : World) : (zeroValue 132).run Tryd.prog w = .ok (.agg (arr .u32 (zs 64))) w := by kernel_rfl
theorem zero8 (w : World) : (zeroValue 115).run Tryd.prog w = .ok (.agg (arr .u32 (zs 8))) w := by kernel_rfl
end Go.Proofs.YtpgfafpjfdbjmaaDoor
end
section
namespace Go.Proofs.YtpgfafpjfdbjmaaDoor
open Go.RowKit Q Go.Proofs.YtpgfafpjfdbjmaaDoorW.PrintWords Go.Proofs.YtpgfafpjfdbjmaaDoorW.PrintLast Go.Proofs.YtpgfafpjfdbjmaaDoorW.PrintMore
def KL : List Int := [1116352408, 1899447441, 3049323471, 3921009573, 961987163, 1508970993, 2453635748, 2870763221, 3624381080, 310598401, 607225278, 1426881987, 1925078388, 2162078206, 2614888103, 3248222580, 3835390401, 4022224774, 264347078, 604807628, 770255983, 1249150122, 1555081692, 1996064986, 2554220882, 2821834349, 2952996808, 3210313671, 3336571891, 3584528711, 113926993, 338241895, 666307205, 773529912, 1294757372, 1396182291, 1695183700, 1986661051, 2177026350, 2456956037, 2730485921, 2820302411, 3259730800, 3345764771, 3516065817, 3600352804, 4094571909, 275423344, 430227734, 506948616, 659060556, 883997877, 958139571, 1322822218, 1537002063, 1747873779, 1955562222, 2024104815, 2227730452, 2361852424, 2428436474, 2756734187, 3204031479, 3329325298]
def H0 : List Int := [1779033703, 3144134277, 1013904242, 2773480762, 1359893119, 2600822924, 528734635, 1541459225]
theorem setRow_new (w : World) (c c' : Array Value) (t : TypeId) : (w.alloc (.cells c t)).setRow w.heap.size c' = w.alloc (.cells c' t) := World.setRow_alloc_new w c c' t
theorem KL_len : KL.length = 64 := by decide
theorem H0_len : H0.length = 8 := by decide
theorem zs_len (n : Nat) : (zs n).length = n := List.length_replicate
theorem size8 : (Tryd.prog.info? 115).map (·.size) = some 8 := by kernel_rfl
theorem size64 : (Tryd.prog.info? 132).map (·.size) = some 64 := by kernel_rfl
set_option maxRecDepth 100000 in
set_option maxHeartbeats 200000 in
theorem begin_calls (w : World) : Calls Tryd.prog 72 #[] w fun e w' => e = .returned (.agg (arr .u32 H0)) ∧ Below w.heap.size w w' := by
  have hz := zero8
  have hB : Hid (Below w.heap.size w (w.alloc (.cells (arr .u32 H0) 115))) := Lib.hid ((Below.refl _ _).alloc (Nat.le_refl _) _)
  go_enter Tryd.func72, Tryd.ntmps72
  go_wp2_with (refine gate_ (.store 115 (.tmp 0) (.tmp 1)) rfl ?_; refine wpList_plain rfl (fun K hK => ?_); refine wp_store_row 115 (.tmp 0) (.tmp 1) rfl w.heap.size (arr .u32 H0) rfl rfl 115 (arr .u32 (zs 8)) (heap_alloc_new w _) (by rw [arr_size, H0_len]; exact size8) (by rw [arr_size, arr_size, H0_len, zs_len]) (arr_one _ _) (hK _ _ ?_); rw [setRow_new]; clear hK K)
  refine bodyPost_ret (results_cell_row rfl _ _ w.heap.size 115 (arr .u32 H0) (0, 0) _ rfl (heap_alloc_new w _) Tryd.underlying115 rfl (by rw [arr_size, H0_len]; exact size8)) rfl ⟨rfl, hB.out⟩
theorem build_as {P : Program} {ops : Array Oper} {rest : List Oper} {o : Oper} {a : Act} {w : World} {Q : Exit → Act → World → Prop} (t : TypeId) (c : Array Value) (N : Option Tmp) (hN : o.dst = N) (hg : o.guard = none) (parts : Array (Nat × Operand)) (ho : o.op = .build t parts)
    (hf : P.built t (parts.map fun (i, x) => (i, a.eval x)).toList = some c) (h : wpList P ops Q rest (a.put N (.agg c)) w) : wpList P ops Q (o :: rest) a w := by
  subst hN
  refine wpList_build hg t parts ho (by rw [hf]; rfl) ?_
  rw [hf]
  exact h
set_option maxRecDepth 100000 in
set_option maxHeartbeats 400000 in
theorem constants_calls (w : World) : Calls Tryd.prog 87 #[] w fun e w' => e = .returned (.agg (arr .u32 KL)) ∧ Below w.heap.size w w' := by
  have hz := zero64
  have hB : Hid (Below w.heap.size w (w.alloc (.cells (arr .u32 KL) 132))) := Lib.hid ((Below.refl _ _).alloc (Nat.le_refl _) _)
  go_enter Tryd.func87, Tryd.ntmps87
  go_wp2_with (first | (refine build_as 132 (arr .u32 KL) (some 1) rfl rfl _ rfl (by kernel_rfl) ?_; simp only [Act.put, List.setIfInBounds_toArray, List.set_cons_zero, List.set_cons_succ]) | (refine gate_ (.store 132 (.tmp 0) (.tmp 1)) rfl ?_; refine wpList_plain rfl (fun K hK => ?_); refine wp_store_row 132 (.tmp 0) (.tmp 1) rfl w.heap.size (arr .u32 KL) rfl rfl 132 (arr .u32 (zs 64)) (heap_alloc_new w _) (by rw [arr_size, KL_len]; exact size64) (by rw [arr_size, arr_size, KL_len, zs_len]) (arr_one _ _) (hK _ _ ?_); rw [setRow_new]; clear hK K))
  refine bodyPost_ret (results_cell_row rfl _ _ w.heap.size 132 (arr .u32 KL) (0, 0) _ rfl (heap_alloc_new w _) Tryd.underlying132 rfl (by rw [arr_size, KL_len]; exact size64)) rfl ⟨rfl, hB.out⟩
end Go.Proofs.YtpgfafpjfdbjmaaDoor
end
section
namespace Go.Proofs.YtpgfafpjfdbjmaaDoor
open Go.RowKit Q Go.Proofs.YtpgfafpjfdbjmaaDoorW.PrintWords Go.Proofs.YtpgfafpjfdbjmaaDoorW.PrintLast Go.Proofs.YtpgfafpjfdbjmaaDoorW.PrintMore
attribute [local go_sem] arr_set
def Row (w : World) (g : Nat) (T : TypeId) (xs : List Int) : Prop := w.heap[g]? = some (.cells (arr .u32 xs) T (0, 0))
theorem Row.cell {w : World} {g : Nat} {T : TypeId} {xs : List Int} (h : Row w g T xs) (i : Nat) (hi : i < xs.length) : w.cell? ⟨g, i, none⟩ = some (.int .u32 (xs.getD i 0)) := by
  rw [Lib.cell_of_heap h, arr_get _ _ _ hi]
theorem Row.frozen {w : World} {g : Nat} {T : TypeId} {xs : List Int} (h : Row w g T xs) (i : Nat) : w.frozen? ⟨g, i, none⟩ = false := Lib.frozen_of_heap h i
theorem Row.set {w : World} {g : Nat} {T : TypeId} {xs : List Int} (h : Row w g T xs) (i : Nat) (v : Int) : Row (w.setCell ⟨g, i, none⟩ (.int .u32 v)) g T (xs.set i v) := by
  have : w.heap[g]? = _ := h
  simp [Row, World.setCell, Array.getElem?_modify, this, arr_set]
theorem Row.other {w : World} {g g' : Nat} {T : TypeId} {xs : List Int} (h : Row w g T xs) (hne : g ≠ g') (i : Nat) (v : Value) : Row (w.setCell ⟨g', i, none⟩ v) g T xs :=
  (Below.heap_setCell _ _ _ _ (fun e => hne e)).trans h
theorem Row.alloc {w : World} {g : Nat} {T : TypeId} {xs : List Int} (h : Row w g T xs) (o : Obj) : Row (w.alloc o) g T xs :=
  (Lib.alloc_old w o g (Array.getElem?_eq_some_iff.1 h).1).trans h
theorem Row.lt {w : World} {g : Nat} {T : TypeId} {xs : List Int} (h : Row w g T xs) : g < w.heap.size := (Array.getElem?_eq_some_iff.1 h).1
theorem Row.drewN {w : World} {g : Nat} {T : TypeId} {xs : List Int} (h : Row w g T xs) (n : Nat) : Row (w.drewN n) g T xs := h
theorem Row.new (w : World) (T : TypeId) (xs : List Int) : Row (w.alloc (.cells (arr .u32 xs) T)) w.heap.size T xs := heap_alloc_new w _
theorem Row.keep {w w' : World} {g : Nat} {T : TypeId} {xs : List Int} (h : Row w g T xs) (hb : Below w.heap.size w w') : Row w' g T xs :=
  (hb.block g h.lt).trans h
theorem Row.put {w : World} {g : Nat} {T : TypeId} {xs : List Int} (h : Row w g T xs) (ys : List Int) : Row (w.setRow g (arr .u32 ys)) g T ys :=
  setRow_heap w g _ _ _ _ h
theorem Row.past {w : World} {g g' : Nat} {T : TypeId} {xs : List Int} (h : Row w g T xs) (hne : g ≠ g') (c : Array Value) : Row (w.setRow g' c) g T xs :=
  (setRow_other w g' g c hne).trans h
theorem below_setRow {B : Nat} {w w1 : World} (h : Below B w w1) {g : Nat} (hg : B ≤ g) (c : Array Value) : Below B w (w1.setRow g c) :=
  h.trans ⟨rfl, rfl, rfl, by simp [World.setRow], fun k hk => setRow_other w1 g k c (by omega)⟩
theorem below2 {w w1 w2 : World} {B : Nat} (a : Below B w w1) (hB : B ≤ w1.heap.size) (b : Below w1.heap.size w1 w2) : Below B w w2 := a.trans (b.mono hB)
theorem alloc_run {P : Program} (ev : Operand → Value) (T : TypeId) {c : Array Value} (W : World) (hz : (zeroValue T).run P W = .ok (.agg c) W) {o : Oper} (ho : o.op = .alloc T) :
    (execOp ev o).run P W = .ok (.value (.pointer (some ⟨W.heap.size, 0, none⟩))) (W.alloc (.cells c T)) := by
  unfold execOp
  rw [ho]
  go_simp
theorem load_run {P : Program} (ev : Operand → Value) (T : TypeId) (x : Operand) {xs : List Int} (g n : Nat) (e : TypeId) (W : World) (h : Row W g T xs) (hu : P.underlying T = some (.array n e)) (hi : (P.info? T).map (·.size) = some xs.length) (hx : ev x = .pointer (some ⟨g, 0, none⟩)) {o : Oper} (ho : o.op = .load T x) :
    (execOp ev o).run P W = .ok (.value (.agg (arr .u32 xs))) W := by
  unfold execOp
  simp only [ho, hx, Instr.loadAt, Instr.sureAddr, Sem.run_bind, Sem.run_pure, Result.andThen_ok, run_loadVar_row W g T T _ _ _ h hu rfl (by rw [arr_size]; exact hi)]
theorem store_run {P : Program} (ev : Operand → Value) (T : TypeId) (x y : Operand) {xs ys : List Int} (g : Nat) (W : World) (h : Row W g T xs) (hi : (P.info? T).map (·.size) = some ys.length) (hl : xs.length = ys.length) (hx : ev x = .pointer (some ⟨g, 0, none⟩)) (hy : ev y = .agg (arr .u32 ys)) {o : Oper} (ho : o.op = .store T x y) :
    (execOp ev o).run P W = .ok .skip (W.setRow g (arr .u32 ys)) := by
  unfold execOp
  simp only [ho, hx, hy, Instr.storeAt, Instr.sureAddr, Sem.run_bind, Sem.run_pure, Result.andThen_ok, run_storeVar_row W g T T (arr .u32 xs) (arr .u32 ys) h (by rw [arr_size .u32 ys]; exact hi) (by rw [arr_size .u32 xs, arr_size .u32 ys]; exact hl) (arr_one _ _)]
theorem copy_shift (w : World) (T : TypeId) (gb : Nat) (a b c d e f g h : Int) (hr : Row w gb T [a, b, c, d, e, f, g, h]) :
    (Builtin.copy_ #[92, 92] 3 #[.slice (some ⟨gb, 1, none⟩) 7 7, .slice (some ⟨gb, 0, none⟩) 7 8]).run Tryd.prog w = .ok (.int .i64 7) (w.setRow gb (arr .u32 [a, a, b, c, d, e, f, g])) := by
  have := run_copy_row (P := Tryd.prog) w 92 92 3 91 gb 1 7 7 ⟨gb, 0, none⟩ 7 8 (arr .u32 [a, b, c, d, e, f, g, h]) T [.int .u32 a, .int .u32 b, .int .u32 c, .int .u32 d, .int .u32 e, .int .u32 f, .int .u32 g]
    Tryd.underlying92 (by kernel_rfl) hr rfl (fun j v hv => by
      have hadd : (⟨gb, 0, none⟩ : Addr).add j = ⟨gb, j, none⟩ := by unfold Addr.add; split <;> simp_all
      rw [hadd, Lib.cell_of_heap hr]
      match j, hv with
      | 0, hv => exact hv
      | 1, hv => exact hv
      | 2, hv => exact hv
      | 3, hv => exact hv
      | 4, hv => exact hv
      | 5, hv => exact hv
      | 6, hv => exact hv
      | k + 7, hv => simp at hv) (by simp [arr]) (by intro v hv; simp at hv; rcases hv with rfl | rfl | rfl | rfl | rfl | rfl | rfl <;> rfl)
  exact this
theorem blk_eq (K : List Int) (x xv : V8) (b : ByteArray) (WL : List Int) (i j : Nat) (hi : i = 64) (hW : wl b i = WL) (hj : j = 64) (hx : cv x K WL j = xv) : ad x.l xv.l 8 = blk K x b := by
  subst hi hj hW hx
  rfl
set_option maxRecDepth 100000 in
set_option maxHeartbeats 8000000 in
theorem block_calls (s0 s1 s2 s3 s4 s5 s6 s7 : Int) (b : ByteArray) (hb : b.size = 64) (R : List Int) (hres : Hid (blk KL ⟨s0, s1, s2, s3, s4, s5, s6, s7⟩ b = R)) (w : World) :
    Calls Tryd.prog 73 #[.agg (arr .u32 [s0, s1, s2, s3, s4, s5, s6, s7]), .string b] w fun e w' => e = .returned (.agg (arr .u32 R)) ∧ Below w.heap.size w w' := by
  have hz := zero64
  have hz8 := zero8
  go_enter Tryd.func73, Tryd.ntmps73
  go_wp2_with fail
  go_loopw [6, 18] (fun _ n wr => ∃ i : Nat, i ≤ 64 ∧ n = .int .i64 i ∧ Aside0 (Row wr w.heap.size 115 [s0, s1, s2, s3, s4, s5, s6, s7]) ∧ Aside0 (Row wr (w.heap.size + 1) 115 (zs 8)) ∧ Aside0 (Row wr (w.heap.size + 1 + 1) 132 (wl b i)) ∧ Aside0 (Below w.heap.size w wr)) (fun _ n _ => 64 - (intOf n).toNat)
  case atStart =>
    refine ⟨0, by omega, rfl, ⟨((Row.new w _ _).alloc _).alloc _⟩, ⟨?_⟩, ⟨?_⟩, ⟨(((Below.refl _ _).alloc (Nat.le_refl _) _).alloc (by simp) _).alloc (by simp; omega) _⟩⟩
    · have := (Row.new (w.alloc (.cells (arr .u32 [s0, s1, s2, s3, s4, s5, s6, s7]) 115)) 115 (zs 8)).alloc (.cells (arr .u32 (zs 64)) 132)
      simpa using this
    · have := Row.new ((w.alloc (.cells (arr .u32 [s0, s1, s2, s3, s4, s5, s6, s7]) 115)).alloc (.cells (arr .u32 (zs 8)) 115)) 132 (zs 64)
      simp only [World.size_alloc] at this
      exact this
  case round =>
    obtain ⟨i, hi, rfl, HS, HR, HW, HBl⟩ := hrel
    by_cases hlt : i < 64
    · by_cases h16 : i < 16
      · go_wp2_with fail
        go_loopw [7, 23] (fun _ n wr => ∃ j : Nat, j ≤ 4 ∧ n = .int .i64 j ∧ Aside0 (Row wr w.heap.size 115 [s0, s1, s2, s3, s4, s5, s6, s7]) ∧ Aside0 (Row wr (w.heap.size + 1) 115 (zs 8)) ∧ Aside0 (Row wr (w.heap.size + 1 + 1) 132 ((wl b i).set i (acc b i j))) ∧ Aside0 (Below w.heap.size w wr)) (fun _ n _ => 4 - (intOf n).toNat)
        case atStart => exact ⟨0, by omega, rfl, HS, HR, ⟨by rw [acc, wl_set_zero b i hlt]; exact HW.out⟩, HBl⟩
        case round =>
          clear HS HR HW HBl
          obtain ⟨j, hj, rfl, HS, HR, HW, HBl⟩ := hrel
          by_cases hj4 : j < 4
          · have hc := HW.out.cell i (by rw [List.length_set, wl_len]; exact hlt)
            have hf := HW.out.frozen i
            have hv : ((wl b i).set i (acc b i j)).getD i 0 = acc b i j := by
              rw [List.getD_eq_getElem?_getD, List.getElem?_set, if_pos rfl, wl_len, if_pos hlt]; rfl
            rw [hv] at hc
            clear hv
            have hidx : (4 * (i : Int) + (j : Int)).toNat = 4 * i + j := by omega
            have hw1 : IntKind.i64.wrap (4 * (i : Int)) = 4 * (i : Int) := IntWalk.i64_in _ (by omega)
            have hw2 : IntKind.i64.wrap (4 * (i : Int) + (j : Int)) = 4 * (i : Int) + (j : Int) := IntWalk.i64_in _ (by omega)
            have hix := index_at b (4 * (i : Int) + (j : Int)) (4 * i + j) (by omega) (by omega)
            have hbr := byteAt_rng b (4 * i + j)
            have hbm : byteAt b (4 * i + j) % 4294967296 = byteAt b (4 * i + j) := Int.emod_eq_of_lt (by omega) (by omega)
            go_wp2_with fail
            refine region_quiet_tail 14 (by kernel_rfl) (by kernel_rfl) ?_
            simp only [List.take_succ_cons, List.take_zero, List.drop_succ_cons, List.drop_zero]
            repeat (go_big_quiet_step (fail))
            refine wpQuiet_nil ?_
            intro _ hw'
            obtain ⟨nq, rfl⟩ := hw'
            have HS := Aside0.mk (HS.out.drewN nq)
            have HR := Aside0.mk (HR.out.drewN nq)
            have HBl := Aside0.mk (pw_below_drewN HBl.out nq)
            have hW := HW.out.drewN nq
            have hf : (wr.drewN nq).frozen? ⟨w.heap.size + 1 + 1, i, none⟩ = false := hW.frozen i
            have hc : (wr.drewN nq).cell? ⟨w.heap.size + 1 + 1, i, none⟩ = some (.int .u32 (acc b i j)) := hc
            have HW := Aside0.mk hW
            clear hW
            generalize wr.drewN nq = wr at *
            go_wp2
            go_roundw
            case rel =>
              refine ⟨j + 1, by omega, by go_num, ⟨HS.out.other (by omega) _ _⟩, ⟨HR.out.other (by omega) _ _⟩, ⟨?_⟩, ⟨HBl.out.setCell (by simp; omega) _⟩⟩
              have := HW.out.set i (acc b i (j + 1))
              rw [List.set_set] at this
              exact this
            case measure => simp [intOf]; omega
          · obtain rfl : j = 4 := by omega
            go_wp2
            go_roundw
            case rel =>
              refine ⟨i + 1, by omega, by go_num, HS, HR, ⟨?_⟩, HBl⟩
              have := HW.out
              rw [wl, wAt, if_pos h16]
              exact this
            case measure => simp [intOf]; omega
      · obtain ⟨m16, h16'⟩ : ∃ m : Nat, m + 16 = i := ⟨i - 16, by omega⟩
        obtain ⟨m15, h15⟩ : ∃ m : Nat, m + 15 = i := ⟨i - 15, by omega⟩
        obtain ⟨m7, h7⟩ : ∃ m : Nat, m + 7 = i := ⟨i - 7, by omega⟩
        obtain ⟨m2, h2⟩ : ∃ m : Nat, m + 2 = i := ⟨i - 2, by omega⟩
        have w16 : IntKind.i64.wrap ((i : Int) - 16) = (m16 : Int) := by rw [IntWalk.i64_in _ (by omega)]; omega
        have w15 : IntKind.i64.wrap ((i : Int) - 15) = (m15 : Int) := by rw [IntWalk.i64_in _ (by omega)]; omega
        have w7 : IntKind.i64.wrap ((i : Int) - 7) = (m7 : Int) := by rw [IntWalk.i64_in _ (by omega)]; omega
        have w2 : IntKind.i64.wrap ((i : Int) - 2) = (m2 : Int) := by rw [IntWalk.i64_in _ (by omega)]; omega
        have hL := wl_len b i
        have c16 := HW.out.cell m16 (by omega)
        have c15 := HW.out.cell m15 (by omega)
        have c7 := HW.out.cell m7 (by omega)
        have c2 := HW.out.cell m2 (by omega)
        have hci := HW.out.cell i (by omega)
        have HE : Hid (wAt b (wl b i) i = ((wl b i).getD m16 0 + (wl b i).getD m7 0 + sg0 ((wl b i).getD m15 0) + sg1 ((wl b i).getD m2 0)) % 4294967296) := Lib.hid (by
          unfold wAt
          rw [if_neg h16, show i - 16 = m16 by omega, show i - 7 = m7 by omega, show i - 15 = m15 by omega, show i - 2 = m2 by omega])
        have g16 : (m16 : Int) < 64 := by omega
        have g15 : (m15 : Int) < 64 := by omega
        have g7 : (m7 : Int) < 64 := by omega
        have g2 : (m2 : Int) < 64 := by omega
        have gi : (i : Int) < 64 := by omega
        clear h16' h15 h7 h2 hL
        generalize (wl b i).getD m16 0 = x16 at c16 HE
        generalize (wl b i).getD m15 0 = x15 at c15 HE
        generalize (wl b i).getD m7 0 = x7 at c7 HE
        generalize (wl b i).getD m2 0 = x2 at c2 HE
        generalize (wl b i).getD i 0 = xi at hci
        go_wp2_with fail
        go_quiet (fail)
        have HS := Aside0.mk (HS.out.drewN nq)
        have HR := Aside0.mk (HR.out.drewN nq)
        have HBl := Aside0.mk (pw_below_drewN HBl.out nq)
        have HW := Aside0.mk (HW.out.drewN nq)
        have c16 : (wr.drewN nq).cell? _ = _ := c16
        have c7 : (wr.drewN nq).cell? _ = _ := c7
        have hci : (wr.drewN nq).cell? _ = _ := hci
        clear c15 c2
        generalize wr.drewN nq = wr at *
        go_wp2_with fail
        refine region_quiet_tail 29 (by kernel_rfl) (by kernel_rfl) ?_
        simp only [List.take_succ_cons, List.take_zero, List.drop_succ_cons, List.drop_zero]
        repeat (go_big_quiet_step (exact right_q _ _ (by decide) (by decide) _ _))
        refine wpQuiet_nil ?_
        intro _ hw'
        obtain ⟨nq, rfl⟩ := hw'
        have HS := Aside0.mk (HS.out.drewN nq)
        have HR := Aside0.mk (HR.out.drewN nq)
        have HBl := Aside0.mk (pw_below_drewN HBl.out nq)
        have hW := HW.out.drewN nq
        have hf : (wr.drewN nq).frozen? ⟨w.heap.size + 1 + 1, i, none⟩ = false := hW.frozen i
        have hci : (wr.drewN nq).cell? _ = _ := hci
        have HW := Aside0.mk hW
        clear hW c16 c7
        generalize wr.drewN nq = wr at *
        go_wp2
        go_roundw
        case rel =>
          refine ⟨i + 1, by omega, by go_num, ⟨HS.out.other (by omega) _ _⟩, ⟨HR.out.other (by omega) _ _⟩, ⟨?_⟩, ⟨HBl.out.setCell (by simp; omega) _⟩⟩
          have := HW.out.set i (wAt b (wl b i) i)
          rw [HE.out] at this
          rw [wl, HE.out]
          exact this
        case measure => simp [intOf]; omega
    · have hge : 64 ≤ i := by omega
      have hi64 : Hid (i = 64) := Lib.hid (by omega)
      clear hi hlt
      have hWL := wl_len b i
      generalize hwle : wl b i = WL at HW hWL
      have hWLe : Hid (wl b i = WL) := Lib.hid hwle
      clear hwle
      go_wp2_with fail
      refine start_ (n := 6) (S := fun w' => Row w' w.heap.size 115 [s0, s1, s2, s3, s4, s5, s6, s7]) (ds := []) #[false, false, false, false, false, false] (by kernel_rfl) rfl rfl HS.out (fun hHeld => ?_)
      have HS := Aside0.mk (HS.out.drewN 1)
      have HR := Aside0.mk (HR.out.drewN 1)
      have HW := Aside0.mk (HW.out.drewN 1)
      have HBl := Aside0.mk (pw_below_drewN HBl.out 1)
      change wpAnyLast _ _ _ _ _ _ _ _ _ (wr.drewN 1)
      change Row (wr.drewN 1) _ _ _ at hHeld
      generalize wr.drewN 1 = wr at *
      refine take_ (i := 0) (N := some 79) (v := .agg (arr .u32 [s0, s1, s2, s3, s4, s5, s6, s7])) (a' := ?_) #[true, false, false, false, false, false] rfl rfl (by kernel_rfl) (fun _ _ _ h => h) (Or.inl ⟨by rfl, fun w' hw' => load_run _ 115 (.tmp 2) w.heap.size _ _ w' hw' Tryd.underlying115 size8 rfl rfl⟩) hHeld ?_ ?_
      rotate_left
      · simp only [Act.put, List.setIfInBounds_toArray, List.set_cons_zero, List.set_cons_succ]
        rfl
      clear hHeld
      refine join_ 2 #[true, true, true, true, false, false] (fun s : Nat × Nat => [(80, .agg (arr .u32 KL)), (10, .pointer (some ⟨s.1, 0, none⟩)), (11, .pointer (some ⟨s.2, 0, none⟩))]) (fun s w' => Row w' w.heap.size 115 [s0, s1, s2, s3, s4, s5, s6, s7] ∧ Row w' (w.heap.size + 1) 115 (zs 8) ∧ Row w' (w.heap.size + 1 + 1) 132 WL ∧ Row w' s.1 115 (zs 8) ∧ Row w' s.2 132 (zs 64) ∧ s.1 ≠ s.2 ∧ w.heap.size + 1 + 1 < s.1 ∧ w.heap.size + 1 + 1 < s.2 ∧ Below w.heap.size w w') ?_ (fun hcont => ?_)
      · rintro ⟨g10, g11⟩ wr ⟨hs, hr, hw, h10, h11, hne, hl10, hl11, hbl⟩
        refine norm_ (a' := ?_) ?_ ?_
        rotate_left
        · simp only [putAll, Act.put, List.setIfInBounds_toArray, List.set_cons_zero, List.set_cons_succ]
          rfl
        refine one_ (i := 4) (N := none) #[true, true, true, true, true, false] rfl rfl (by kernel_rfl) (by decide) (fun K hK => ?_)
        refine skip_ (by rfl) rfl (store_run _ 115 (.tmp 10) (.tmp 79) g10 _ h10 (ys := [s0, s1, s2, s3, s4, s5, s6, s7]) size8 rfl rfl rfl rfl) ?_
        refine hK.out _ _ (hs.past (by omega) _) (fun _ => ?_)
        clear hK K
        refine one_ (i := 5) (N := none) #[true, true, true, true, true, true] rfl rfl (by kernel_rfl) (by decide) (fun K hK => ?_)
        refine skip_ (by rfl) rfl (store_run _ 132 (.tmp 11) (.tmp 80) g11 _ (h11.past (by omega) _) (ys := KL) (by rw [KL_len]; exact size64) (by rw [KL_len, zs_len]) rfl rfl rfl) ?_
        refine hK.out _ _ ((hs.past (by omega) _).past (by omega) _) (fun _ => ?_)
        clear hK K
        refine done_ (by kernel_rfl) ?_
        have HS := Aside0.mk ((hs.past (show w.heap.size ≠ g10 by omega) (arr .u32 [s0, s1, s2, s3, s4, s5, s6, s7])).past (show w.heap.size ≠ g11 by omega) (arr .u32 KL))
        have HR := Aside0.mk ((hr.past (show w.heap.size + 1 ≠ g10 by omega) (arr .u32 [s0, s1, s2, s3, s4, s5, s6, s7])).past (show w.heap.size + 1 ≠ g11 by omega) (arr .u32 KL))
        have HW := Aside0.mk ((hw.past (show w.heap.size + 1 + 1 ≠ g10 by omega) (arr .u32 [s0, s1, s2, s3, s4, s5, s6, s7])).past (show w.heap.size + 1 + 1 ≠ g11 by omega) (arr .u32 KL))
        have HV := Aside0.mk ((h10.put [s0, s1, s2, s3, s4, s5, s6, s7]).past hne (arr .u32 KL))
        have HK := Aside0.mk ((h11.past (Ne.symm hne) (arr .u32 [s0, s1, s2, s3, s4, s5, s6, s7])).put KL)
        have HBl := Aside0.mk (below_setRow (below_setRow hbl (show w.heap.size ≤ g10 by omega) (arr .u32 [s0, s1, s2, s3, s4, s5, s6, s7])) (show w.heap.size ≤ g11 by omega) (arr .u32 KL))
        clear hs hr hw h10 h11 hbl
        generalize (wr.setRow g10 (arr .u32 [s0, s1, s2, s3, s4, s5, s6, s7])).setRow g11 (arr .u32 KL) = wr at *
        go_wp2_with fail
        go_loopw [12, 81] (fun _ n wr => ∃ i : Nat, i ≤ 64 ∧ n = .int .i64 i ∧ Aside0 (Row wr w.heap.size 115 [s0, s1, s2, s3, s4, s5, s6, s7]) ∧ Aside0 (Row wr (w.heap.size + 1) 115 (zs 8)) ∧ Aside0 (Row wr (w.heap.size + 1 + 1) 132 WL) ∧ Aside0 (Row wr g10 115 (cv ⟨s0, s1, s2, s3, s4, s5, s6, s7⟩ KL WL i).l) ∧ Aside0 (Row wr g11 132 KL) ∧ Aside0 (Below w.heap.size w wr)) (fun _ n _ => 64 - (intOf n).toNat)
        case atStart => exact ⟨0, by omega, rfl, HS, HR, HW, HV, HK, HBl⟩
        case round =>
          clear HS HR HW HV HK HBl
          obtain ⟨i, hi, rfl, HS, HR, HW, HV, HK, HBl⟩ := hrel
          by_cases hlt : i < 64
          · have hR : Hid (stp (cv ⟨s0, s1, s2, s3, s4, s5, s6, s7⟩ KL WL i) (KL.getD i 0) (WL.getD i 0) = cv ⟨s0, s1, s2, s3, s4, s5, s6, s7⟩ KL WL (i + 1)) := Lib.hid rfl
            have ck := HK.out.cell i (by rw [KL_len]; exact hlt)
            have cw := HW.out.cell i (by rw [hWL]; exact hlt)
            generalize KL.getD i 0 = kk at ck hR
            generalize WL.getD i 0 = ww at cw hR
            generalize cv ⟨s0, s1, s2, s3, s4, s5, s6, s7⟩ KL WL i = x at HV hR
            obtain ⟨a, b', c, d, e, f, g, h⟩ := x
            have c0 : wr.cell? ⟨g10, 0, none⟩ = some (.int .u32 a) := HV.out.cell 0 (by simp [V8.l])
            have c1 : wr.cell? ⟨g10, 1, none⟩ = some (.int .u32 b') := HV.out.cell 1 (by simp [V8.l])
            have c2 : wr.cell? ⟨g10, 2, none⟩ = some (.int .u32 c) := HV.out.cell 2 (by simp [V8.l])
            have c3 : wr.cell? ⟨g10, 3, none⟩ = some (.int .u32 d) := HV.out.cell 3 (by simp [V8.l])
            have c4 : wr.cell? ⟨g10, 4, none⟩ = some (.int .u32 e) := HV.out.cell 4 (by simp [V8.l])
            have c5 : wr.cell? ⟨g10, 5, none⟩ = some (.int .u32 f) := HV.out.cell 5 (by simp [V8.l])
            have c6 : wr.cell? ⟨g10, 6, none⟩ = some (.int .u32 g) := HV.out.cell 6 (by simp [V8.l])
            have c7 : wr.cell? ⟨g10, 7, none⟩ = some (.int .u32 h) := HV.out.cell 7 (by simp [V8.l])
            go_wp2_with fail
            go_quiet (fail)
            have HS := Aside0.mk (HS.out.drewN nq)
            have HR := Aside0.mk (HR.out.drewN nq)
            have HW := Aside0.mk (HW.out.drewN nq)
            have HV := Aside0.mk (HV.out.drewN nq)
            have HK := Aside0.mk (HK.out.drewN nq)
            have HBl := Aside0.mk (pw_below_drewN HBl.out nq)
            have c0 : (wr.drewN nq).cell? _ = _ := c0
            have c1 : (wr.drewN nq).cell? _ = _ := c1
            have c2 : (wr.drewN nq).cell? _ = _ := c2
            have c3 : (wr.drewN nq).cell? _ = _ := c3
            have c4 : (wr.drewN nq).cell? _ = _ := c4
            have c5 : (wr.drewN nq).cell? _ = _ := c5
            have c6 : (wr.drewN nq).cell? _ = _ := c6
            have c7 : (wr.drewN nq).cell? _ = _ := c7
            have ck : (wr.drewN nq).cell? _ = _ := ck
            have cw : (wr.drewN nq).cell? _ = _ := cw
            generalize wr.drewN nq = wr at *
            go_wp2_with fail
            go_quiet (exact right_q _ _ (by decide) (by decide) _ _)
            have HS := Aside0.mk (HS.out.drewN nq)
            have HR := Aside0.mk (HR.out.drewN nq)
            have HW := Aside0.mk (HW.out.drewN nq)
            have HV := Aside0.mk (HV.out.drewN nq)
            have HK := Aside0.mk (HK.out.drewN nq)
            have HBl := Aside0.mk (pw_below_drewN HBl.out nq)
            have c0 : (wr.drewN nq).cell? _ = _ := c0
            have c1 : (wr.drewN nq).cell? _ = _ := c1
            have c2 : (wr.drewN nq).cell? _ = _ := c2
            have c3 : (wr.drewN nq).cell? _ = _ := c3
            have c4 : (wr.drewN nq).cell? _ = _ := c4
            have c5 : (wr.drewN nq).cell? _ = _ := c5
            have c6 : (wr.drewN nq).cell? _ = _ := c6
            have c7 : (wr.drewN nq).cell? _ = _ := c7
            generalize wr.drewN nq = wr at *
            rw [show ((h + Go.bits .xor .u32 (Go.bits .xor .u32 (rr e 6) (rr e 11)) (rr e 25) + Go.bits .xor .u32 g (Go.bits .and .u32 e (Go.bits .xor .u32 f g)) + kk) % 4294967296 + ww) % 4294967296 = tt e f g h kk ww from rfl]
            have HT : Hid (stp ⟨a, b', c, d, e, f, g, h⟩ kk ww = ⟨(tt e f g h kk ww + uu a b' c) % 4294967296, a, b', c, (d + tt e f g h kk ww) % 4294967296, e, f, g⟩) := Lib.hid rfl
            generalize tt e f g h kk ww = t at *
            go_wp2_with fail
            go_quiet (exact right_q _ _ (by decide) (by decide) _ _)
            have HS := Aside0.mk (HS.out.drewN nq)
            have HR := Aside0.mk (HR.out.drewN nq)
            have HW := Aside0.mk (HW.out.drewN nq)
            have HV := Aside0.mk (HV.out.drewN nq)
            have HK := Aside0.mk (HK.out.drewN nq)
            have HBl := Aside0.mk (pw_below_drewN HBl.out nq)
            have c0 : (wr.drewN nq).cell? _ = _ := c0
            have c1 : (wr.drewN nq).cell? _ = _ := c1
            have c2 : (wr.drewN nq).cell? _ = _ := c2
            have c3 : (wr.drewN nq).cell? _ = _ := c3
            have c4 : (wr.drewN nq).cell? _ = _ := c4
            have c5 : (wr.drewN nq).cell? _ = _ := c5
            have c6 : (wr.drewN nq).cell? _ = _ := c6
            have c7 : (wr.drewN nq).cell? _ = _ := c7
            generalize wr.drewN nq = wr at *
            rw [show (Go.bits .xor .u32 (Go.bits .xor .u32 (rr a 2) (rr a 13)) (rr a 22) + Go.bits .or .u32 (Go.bits .and .u32 a b') (Go.bits .and .u32 c (Go.bits .or .u32 a b'))) % 4294967296 = uu a b' c from rfl]
            generalize uu a b' c = u at *
            have f0 := HV.out.frozen 0
            have f1 := HV.out.frozen 1
            have f2 := HV.out.frozen 2
            have f3 := HV.out.frozen 3
            have f4 := HV.out.frozen 4
            have f5 := HV.out.frozen 5
            have f6 := HV.out.frozen 6
            have f7 := HV.out.frozen 7
            go_wp2_with fail
            refine region_quiet_tail 2 (by kernel_rfl) (by kernel_rfl) ?_
            simp only [List.take_succ_cons, List.take_zero, List.drop_succ_cons, List.drop_zero]
            repeat (go_big_quiet_step (fail))
            refine wpQuiet_nil ?_
            intro _ hw'
            obtain ⟨nq, rfl⟩ := hw'
            have f0 : (wr.drewN nq).frozen? _ = false := f0
            have f1 : (wr.drewN nq).frozen? _ = false := f1
            have f2 : (wr.drewN nq).frozen? _ = false := f2
            have f3 : (wr.drewN nq).frozen? _ = false := f3
            have f4 : (wr.drewN nq).frozen? _ = false := f4
            have f5 : (wr.drewN nq).frozen? _ = false := f5
            have f6 : (wr.drewN nq).frozen? _ = false := f6
            have f7 : (wr.drewN nq).frozen? _ = false := f7
            have HS := Aside0.mk (HS.out.drewN nq)
            have HR := Aside0.mk (HR.out.drewN nq)
            have HW := Aside0.mk (HW.out.drewN nq)
            have HV := Aside0.mk (HV.out.drewN nq)
            have HK := Aside0.mk (HK.out.drewN nq)
            have HBl := Aside0.mk (pw_below_drewN HBl.out nq)
            have c0 : (wr.drewN nq).cell? _ = _ := c0
            have c1 : (wr.drewN nq).cell? _ = _ := c1
            have c2 : (wr.drewN nq).cell? _ = _ := c2
            have c3 : (wr.drewN nq).cell? _ = _ := c3
            have c4 : (wr.drewN nq).cell? _ = _ := c4
            have c5 : (wr.drewN nq).cell? _ = _ := c5
            have c6 : (wr.drewN nq).cell? _ = _ := c6
            have c7 : (wr.drewN nq).cell? _ = _ := c7
            generalize wr.drewN nq = wr at *
            have hcp := copy_shift wr _ g10 a b' c d e f g h HV.out
            have HS := Aside0.mk (HS.out.past (show w.heap.size ≠ g10 by omega) (arr .u32 [a, a, b', c, d, e, f, g]))
            have HR := Aside0.mk (HR.out.past (show w.heap.size + 1 ≠ g10 by omega) (arr .u32 [a, a, b', c, d, e, f, g]))
            have HW := Aside0.mk (HW.out.past (show w.heap.size + 1 + 1 ≠ g10 by omega) (arr .u32 [a, a, b', c, d, e, f, g]))
            have HK := Aside0.mk (HK.out.past (Ne.symm hne) (arr .u32 [a, a, b', c, d, e, f, g]))
            have HBl := Aside0.mk (below_setRow HBl.out (show w.heap.size ≤ g10 by omega) (arr .u32 [a, a, b', c, d, e, f, g]))
            have HV := Aside0.mk (HV.out.put [a, a, b', c, d, e, f, g])
            clear c0 c1 c2 c3 c4 c5 c6 c7 f0 f1 f2 f3 f4 f5 f6 f7
            generalize hw2 : wr.setRow g10 (arr .u32 [a, a, b', c, d, e, f, g]) = w2 at *
            clear hw2
            have c0 : w2.cell? ⟨g10, 0, none⟩ = some (.int .u32 a) := HV.out.cell 0 (by simp)
            have c4 : w2.cell? ⟨g10, 4, none⟩ = some (.int .u32 d) := HV.out.cell 4 (by simp)
            have f0 := HV.out.frozen 0
            have f4 := HV.out.frozen 4
            go_wp2
            go_roundw
            case rel =>
              refine ⟨i + 1, by omega, by go_num, ⟨(HS.out.other (by omega) _ _).other (by omega) _ _⟩, ⟨(HR.out.other (by omega) _ _).other (by omega) _ _⟩, ⟨(HW.out.other (by omega) _ _).other (by omega) _ _⟩, ⟨?_⟩, ⟨(HK.out.other (Ne.symm hne) _ _).other (Ne.symm hne) _ _⟩, ⟨(HBl.out.setCell (by simp; omega) _).setCell (by simp; omega) _⟩⟩
              rw [← hR.out]
              rw [HT.out]
              exact (HV.out.set 0 _).set 4 _
            case measure => simp [intOf]; omega
          · have hge2 : 64 ≤ i := by omega
            have hi642 : Hid (i = 64) := Lib.hid (by omega)
            generalize hxv0 : cv ⟨s0, s1, s2, s3, s4, s5, s6, s7⟩ KL WL i = xv at HV
            have hxv := Lib.hid hxv0
            clear hxv0
            have hvl : xv.l.length = 8 := rfl
            clear HK HW
            go_wp2_with fail
            go_loopw [17, 152] (fun _ n wr => ∃ i : Nat, i ≤ 8 ∧ n = .int .i64 i ∧ Aside0 (Row wr w.heap.size 115 (ad [s0, s1, s2, s3, s4, s5, s6, s7] xv.l i)) ∧ Aside0 (Row wr (w.heap.size + 1) 115 (zs 8)) ∧ Aside0 (Row wr g10 115 xv.l) ∧ Aside0 (Below w.heap.size w wr)) (fun _ n _ => 8 - (intOf n).toNat)
            case atStart => exact ⟨0, by omega, rfl, HS, HR, HV, HBl⟩
            case round =>
              clear HS HR HV HBl
              obtain ⟨i, hi, rfl, HS, HR, HV, HBl⟩ := hrel
              have hsl : (ad [s0, s1, s2, s3, s4, s5, s6, s7] xv.l i).length = 8 := ad_len _ _ _
              by_cases hlt : i < 8
              · have hA : Hid ((ad [s0, s1, s2, s3, s4, s5, s6, s7] xv.l i).set i (((ad [s0, s1, s2, s3, s4, s5, s6, s7] xv.l i).getD i 0 + xv.l.getD i 0) % 4294967296) = ad [s0, s1, s2, s3, s4, s5, s6, s7] xv.l (i + 1)) := Lib.hid rfl
                have c1 := HS.out.cell i (by omega)
                have c2 := HV.out.cell i (by omega)
                have f1 := HS.out.frozen i
                generalize ad [s0, s1, s2, s3, s4, s5, s6, s7] xv.l i = az at *
                generalize az.getD i 0 = p1 at c1 hA
                generalize xv.l.getD i 0 = p2 at c2 hA
                go_wp2_with fail
                refine region_quiet_tail 8 (by kernel_rfl) (by kernel_rfl) ?_
                simp only [List.take_succ_cons, List.take_zero, List.drop_succ_cons, List.drop_zero]
                repeat (go_big_quiet_step (fail))
                refine wpQuiet_nil ?_
                intro _ hw'
                obtain ⟨nq, rfl⟩ := hw'
                have HS := Aside0.mk (HS.out.drewN nq)
                have HR := Aside0.mk (HR.out.drewN nq)
                have HV := Aside0.mk (HV.out.drewN nq)
                have HBl := Aside0.mk (pw_below_drewN HBl.out nq)
                have c1 : (wr.drewN nq).cell? _ = _ := c1
                have f1 : (wr.drewN nq).frozen? _ = false := f1
                clear c2
                generalize wr.drewN nq = wr at *
                go_wp2
                go_roundw
                case rel =>
                  refine ⟨i + 1, by omega, by go_num, ⟨?_⟩, ⟨HR.out.other (by omega) _ _⟩, ⟨HV.out.other (by omega) _ _⟩, ⟨HBl.out.setCell (by simp) _⟩⟩
                  rw [← hA.out]
                  exact HS.out.set i _
                case measure => simp [intOf]; omega
              · obtain rfl : i = 8 := by omega
                have hE : Hid (ad [s0, s1, s2, s3, s4, s5, s6, s7] xv.l 8 = blk KL ⟨s0, s1, s2, s3, s4, s5, s6, s7⟩ b) := Lib.hid (blk_eq _ _ _ _ _ _ _ hi64.out hWLe.out hi642.out hxv.out)
                generalize ad [s0, s1, s2, s3, s4, s5, s6, s7] xv.l 8 = az at *
                go_wp2_with (first | (refine gate_ (.load 115 (.tmp 2)) rfl ?_; refine wpList_load_row rfl 115 (.tmp 2) rfl w.heap.size rfl _ (arr .u32 az) (0, 0) _ HS.out Tryd.underlying115 rfl (by rw [arr_size, hsl]; exact size8) ?_; simp only [Act.put, List.setIfInBounds_toArray, List.set_cons_zero, List.set_cons_succ]) | (refine gate_ (.store 115 (.tmp 4) (.tmp 164)) rfl ?_; refine wpList_plain rfl (fun K hK => ?_); refine wp_store_row 115 (.tmp 4) (.tmp 164) rfl (w.heap.size + 1) (arr .u32 az) rfl rfl 115 (arr .u32 (zs 8)) HR.out (by rw [arr_size, hsl]; exact size8) (by rw [arr_size, arr_size, hsl, zs_len]) (arr_one _ _) (hK _ _ ?_); clear hK K))
                refine bodyPost_ret (results_cell_row rfl _ _ (w.heap.size + 1) 115 (arr .u32 az) (0, 0) _ rfl (HR.out.put az) Tryd.underlying115 rfl (by rw [arr_size, hsl]; exact size8)) rfl ⟨by rw [hE.out, hres.out], below_setRow HBl.out (by omega) _⟩
      · refine three_ (i := 1) (Ni := some 80) (j := 2) (Nj := some 10) (k := 3) (Nk := some 11) #[true, true, false, false, false, false] #[true, false, true, false, false, false] #[true, false, false, true, false, false] rfl rfl rfl rfl rfl rfl (by kernel_rfl) (by decide) (by decide) (by decide) (fun K hK => ?_) (fun K hK => ?_) (fun K hK => ?_)
        · refine goes_ Tryd.func87 (by kernel_rfl) rfl #[] (by rfl) rfl rfl (by simp) ?_
          refine (constants_calls _).mono ?_
          rintro e wn ⟨rfl, hb⟩
          refine ⟨_, rfl, ?_⟩
          have HS := Aside0.mk (HS.out.keep hb)
          have HR := Aside0.mk (HR.out.keep hb)
          have HW := Aside0.mk (HW.out.keep hb)
          have HBl := Aside0.mk (below2 HBl.out HBl.out.size hb)
          clear hb
          refine hK.out _ _ HS.out (fun _ => ?_)
          clear hK K
          refine two_ (i := 2) (Ni := some 10) (j := 3) (Nj := some 11) #[true, true, true, false, false, false] #[true, true, false, true, false, false] rfl rfl rfl rfl (by kernel_rfl) (by decide) (by decide) (fun K hK => ?_) (fun K hK => ?_)
          · refine value_ (by rfl) rfl (alloc_run _ 115 _ (hz8 _) rfl) ?_
            have G10 := Aside0.mk (Row.new wn 115 (zs 8))
            have q10 : w.heap.size + 1 + 1 < wn.heap.size := HW.out.lt
            generalize hg10 : wn.heap.size = g10 at G10 q10 ⊢
            have HS := Aside0.mk (HS.out.alloc (.cells (arr .u32 (zs 8)) 115))
            have HR := Aside0.mk (HR.out.alloc (.cells (arr .u32 (zs 8)) 115))
            have HW := Aside0.mk (HW.out.alloc (.cells (arr .u32 (zs 8)) 115))
            have HBl := Aside0.mk (below_alloc HBl.out (.cells (arr .u32 (zs 8)) 115))
            generalize wn.alloc (.cells (arr .u32 (zs 8)) 115) = wn at *
            refine hK.out _ _ HS.out (fun _ => ?_)
            clear hK K
            refine one_ (i := 3) (N := some 11) #[true, true, true, true, false, false] rfl rfl (by kernel_rfl) (by decide) (fun K hK => ?_)
            refine value_ (by rfl) rfl (alloc_run _ 132 _ (hz _) rfl) ?_
            have G11 := Aside0.mk (Row.new wn 132 (zs 64))
            have q11 : w.heap.size + 1 + 1 < wn.heap.size := HW.out.lt
            have q1011 : g10 < wn.heap.size := G10.out.lt
            generalize hg11 : wn.heap.size = g11 at G11 q11 q1011 ⊢
            have HS := Aside0.mk (HS.out.alloc (.cells (arr .u32 (zs 64)) 132))
            have HR := Aside0.mk (HR.out.alloc (.cells (arr .u32 (zs 64)) 132))
            have HW := Aside0.mk (HW.out.alloc (.cells (arr .u32 (zs 64)) 132))
            have G10 := Aside0.mk (G10.out.alloc (.cells (arr .u32 (zs 64)) 132))
            have HBl := Aside0.mk (below_alloc HBl.out (.cells (arr .u32 (zs 64)) 132))
            generalize wn.alloc (.cells (arr .u32 (zs 64)) 132) = wn at *
            refine hK.out _ _ HS.out (fun _ => ?_)
            clear hK K
            exact norm_ rfl (hcont (g10, g11) _ ⟨HS.out, HR.out, HW.out, G10.out, G11.out, by omega, by omega, by omega, HBl.out⟩)
          · refine value_ (by rfl) rfl (alloc_run _ 132 _ (hz _) rfl) ?_
            have G11 := Aside0.mk (Row.new wn 132 (zs 64))
            have q11 : w.heap.size + 1 + 1 < wn.heap.size := HW.out.lt
            generalize hg11 : wn.heap.size = g11 at G11 q11 ⊢
            have HS := Aside0.mk (HS.out.alloc (.cells (arr .u32 (zs 64)) 132))
            have HR := Aside0.mk (HR.out.alloc (.cells (arr .u32 (zs 64)) 132))
            have HW := Aside0.mk (HW.out.alloc (.cells (arr .u32 (zs 64)) 132))
            have HBl := Aside0.mk (below_alloc HBl.out (.cells (arr .u32 (zs 64)) 132))
            generalize wn.alloc (.cells (arr .u32 (zs 64)) 132) = wn at *
            refine hK.out _ _ HS.out (fun _ => ?_)
            clear hK K
            refine one_ (i := 2) (N := some 10) #[true, true, true, true, false, false] rfl rfl (by kernel_rfl) (by decide) (fun K hK => ?_)
            refine value_ (by rfl) rfl (alloc_run _ 115 _ (hz8 _) rfl) ?_
            have G10 := Aside0.mk (Row.new wn 115 (zs 8))
            have q10 : w.heap.size + 1 + 1 < wn.heap.size := HW.out.lt
            have q1011 : g11 < wn.heap.size := G11.out.lt
            generalize hg10 : wn.heap.size = g10 at G10 q10 q1011 ⊢
            have HS := Aside0.mk (HS.out.alloc (.cells (arr .u32 (zs 8)) 115))
            have HR := Aside0.mk (HR.out.alloc (.cells (arr .u32 (zs 8)) 115))
            have HW := Aside0.mk (HW.out.alloc (.cells (arr .u32 (zs 8)) 115))
            have G11 := Aside0.mk (G11.out.alloc (.cells (arr .u32 (zs 8)) 115))
            have HBl := Aside0.mk (below_alloc HBl.out (.cells (arr .u32 (zs 8)) 115))
            generalize wn.alloc (.cells (arr .u32 (zs 8)) 115) = wn at *
            refine hK.out _ _ HS.out (fun _ => ?_)
            clear hK K
            exact norm_ rfl (hcont (g10, g11) _ ⟨HS.out, HR.out, HW.out, G10.out, G11.out, by omega, by omega, by omega, HBl.out⟩)
        · refine value_ (by rfl) rfl (alloc_run _ 115 _ (hz8 _) rfl) ?_
          have G10 := Aside0.mk (Row.new wr 115 (zs 8))
          have q10 : w.heap.size + 1 + 1 < wr.heap.size := HW.out.lt
          generalize hg10 : wr.heap.size = g10 at G10 q10 ⊢
          have HS := Aside0.mk (HS.out.alloc (.cells (arr .u32 (zs 8)) 115))
          have HR := Aside0.mk (HR.out.alloc (.cells (arr .u32 (zs 8)) 115))
          have HW := Aside0.mk (HW.out.alloc (.cells (arr .u32 (zs 8)) 115))
          have HBl := Aside0.mk (below_alloc HBl.out (.cells (arr .u32 (zs 8)) 115))
          generalize wr.alloc (.cells (arr .u32 (zs 8)) 115) = wn at *
          refine hK.out _ _ HS.out (fun _ => ?_)
          clear hK K
          refine two_ (i := 1) (Ni := some 80) (j := 3) (Nj := some 11) #[true, true, true, false, false, false] #[true, false, true, true, false, false] rfl rfl rfl rfl (by kernel_rfl) (by decide) (by decide) (fun K hK => ?_) (fun K hK => ?_)
          · refine goes_ Tryd.func87 (by kernel_rfl) rfl #[] (by rfl) rfl rfl (by simp) ?_
            refine (constants_calls _).mono ?_
            rintro e wn ⟨rfl, hb⟩
            refine ⟨_, rfl, ?_⟩
            have HS := Aside0.mk (HS.out.keep hb)
            have HR := Aside0.mk (HR.out.keep hb)
            have HW := Aside0.mk (HW.out.keep hb)
            have G10 := Aside0.mk (G10.out.keep hb)
            have HBl := Aside0.mk (below2 HBl.out HBl.out.size hb)
            clear hb
            refine hK.out _ _ HS.out (fun _ => ?_)
            clear hK K
            refine one_ (i := 3) (N := some 11) #[true, true, true, true, false, false] rfl rfl (by kernel_rfl) (by decide) (fun K hK => ?_)
            refine value_ (by rfl) rfl (alloc_run _ 132 _ (hz _) rfl) ?_
            have G11 := Aside0.mk (Row.new wn 132 (zs 64))
            have q11 : w.heap.size + 1 + 1 < wn.heap.size := HW.out.lt
            have q1011 : g10 < wn.heap.size := G10.out.lt
            generalize hg11 : wn.heap.size = g11 at G11 q11 q1011 ⊢
            have HS := Aside0.mk (HS.out.alloc (.cells (arr .u32 (zs 64)) 132))
            have HR := Aside0.mk (HR.out.alloc (.cells (arr .u32 (zs 64)) 132))
            have HW := Aside0.mk (HW.out.alloc (.cells (arr .u32 (zs 64)) 132))
            have G10 := Aside0.mk (G10.out.alloc (.cells (arr .u32 (zs 64)) 132))
            have HBl := Aside0.mk (below_alloc HBl.out (.cells (arr .u32 (zs 64)) 132))
            generalize wn.alloc (.cells (arr .u32 (zs 64)) 132) = wn at *
            refine hK.out _ _ HS.out (fun _ => ?_)
            clear hK K
            exact norm_ rfl (hcont (g10, g11) _ ⟨HS.out, HR.out, HW.out, G10.out, G11.out, by omega, by omega, by omega, HBl.out⟩)
          · refine value_ (by rfl) rfl (alloc_run _ 132 _ (hz _) rfl) ?_
            have G11 := Aside0.mk (Row.new wn 132 (zs 64))
            have q11 : w.heap.size + 1 + 1 < wn.heap.size := HW.out.lt
            have q1011 : g10 < wn.heap.size := G10.out.lt
            generalize hg11 : wn.heap.size = g11 at G11 q11 q1011 ⊢
            have HS := Aside0.mk (HS.out.alloc (.cells (arr .u32 (zs 64)) 132))
            have HR := Aside0.mk (HR.out.alloc (.cells (arr .u32 (zs 64)) 132))
            have HW := Aside0.mk (HW.out.alloc (.cells (arr .u32 (zs 64)) 132))
            have G10 := Aside0.mk (G10.out.alloc (.cells (arr .u32 (zs 64)) 132))
            have HBl := Aside0.mk (below_alloc HBl.out (.cells (arr .u32 (zs 64)) 132))
            generalize wn.alloc (.cells (arr .u32 (zs 64)) 132) = wn at *
            refine hK.out _ _ HS.out (fun _ => ?_)
            clear hK K
            refine one_ (i := 1) (N := some 80) #[true, true, true, true, false, false] rfl rfl (by kernel_rfl) (by decide) (fun K hK => ?_)
            refine goes_ Tryd.func87 (by kernel_rfl) rfl #[] (by rfl) rfl rfl (by simp) ?_
            refine (constants_calls _).mono ?_
            rintro e wn ⟨rfl, hb⟩
            refine ⟨_, rfl, ?_⟩
            have HS := Aside0.mk (HS.out.keep hb)
            have HR := Aside0.mk (HR.out.keep hb)
            have HW := Aside0.mk (HW.out.keep hb)
            have G10 := Aside0.mk (G10.out.keep hb)
            have G11 := Aside0.mk (G11.out.keep hb)
            have HBl := Aside0.mk (below2 HBl.out HBl.out.size hb)
            clear hb
            refine hK.out _ _ HS.out (fun _ => ?_)
            clear hK K
            exact norm_ rfl (hcont (g10, g11) _ ⟨HS.out, HR.out, HW.out, G10.out, G11.out, by omega, by omega, by omega, HBl.out⟩)
        · refine value_ (by rfl) rfl (alloc_run _ 132 _ (hz _) rfl) ?_
          have G11 := Aside0.mk (Row.new wr 132 (zs 64))
          have q11 : w.heap.size + 1 + 1 < wr.heap.size := HW.out.lt
          generalize hg11 : wr.heap.size = g11 at G11 q11 ⊢
          have HS := Aside0.mk (HS.out.alloc (.cells (arr .u32 (zs 64)) 132))
          have HR := Aside0.mk (HR.out.alloc (.cells (arr .u32 (zs 64)) 132))
          have HW := Aside0.mk (HW.out.alloc (.cells (arr .u32 (zs 64)) 132))
          have HBl := Aside0.mk (below_alloc HBl.out (.cells (arr .u32 (zs 64)) 132))
          generalize wr.alloc (.cells (arr .u32 (zs 64)) 132) = wn at *
          refine hK.out _ _ HS.out (fun _ => ?_)
          clear hK K
          refine two_ (i := 1) (Ni := some 80) (j := 2) (Nj := some 10) #[true, true, false, true, false, false] #[true, false, true, true, false, false] rfl rfl rfl rfl (by kernel_rfl) (by decide) (by decide) (fun K hK => ?_) (fun K hK => ?_)
          · refine goes_ Tryd.func87 (by kernel_rfl) rfl #[] (by rfl) rfl rfl (by simp) ?_
            refine (constants_calls _).mono ?_
            rintro e wn ⟨rfl, hb⟩
            refine ⟨_, rfl, ?_⟩
            have HS := Aside0.mk (HS.out.keep hb)
            have HR := Aside0.mk (HR.out.keep hb)
            have HW := Aside0.mk (HW.out.keep hb)
            have G11 := Aside0.mk (G11.out.keep hb)
            have HBl := Aside0.mk (below2 HBl.out HBl.out.size hb)
            clear hb
            refine hK.out _ _ HS.out (fun _ => ?_)
            clear hK K
            refine one_ (i := 2) (N := some 10) #[true, true, true, true, false, false] rfl rfl (by kernel_rfl) (by decide) (fun K hK => ?_)
            refine value_ (by rfl) rfl (alloc_run _ 115 _ (hz8 _) rfl) ?_
            have G10 := Aside0.mk (Row.new wn 115 (zs 8))
            have q10 : w.heap.size + 1 + 1 < wn.heap.size := HW.out.lt
            have q1011 : g11 < wn.heap.size := G11.out.lt
            generalize hg10 : wn.heap.size = g10 at G10 q10 q1011 ⊢
            have HS := Aside0.mk (HS.out.alloc (.cells (arr .u32 (zs 8)) 115))
            have HR := Aside0.mk (HR.out.alloc (.cells (arr .u32 (zs 8)) 115))
            have HW := Aside0.mk (HW.out.alloc (.cells (arr .u32 (zs 8)) 115))
            have G11 := Aside0.mk (G11.out.alloc (.cells (arr .u32 (zs 8)) 115))
            have HBl := Aside0.mk (below_alloc HBl.out (.cells (arr .u32 (zs 8)) 115))
            generalize wn.alloc (.cells (arr .u32 (zs 8)) 115) = wn at *
            refine hK.out _ _ HS.out (fun _ => ?_)
            clear hK K
            exact norm_ rfl (hcont (g10, g11) _ ⟨HS.out, HR.out, HW.out, G10.out, G11.out, by omega, by omega, by omega, HBl.out⟩)
          · refine value_ (by rfl) rfl (alloc_run _ 115 _ (hz8 _) rfl) ?_
            have G10 := Aside0.mk (Row.new wn 115 (zs 8))
            have q10 : w.heap.size + 1 + 1 < wn.heap.size := HW.out.lt
            have q1011 : g11 < wn.heap.size := G11.out.lt
            generalize hg10 : wn.heap.size = g10 at G10 q10 q1011 ⊢
            have HS := Aside0.mk (HS.out.alloc (.cells (arr .u32 (zs 8)) 115))
            have HR := Aside0.mk (HR.out.alloc (.cells (arr .u32 (zs 8)) 115))
            have HW := Aside0.mk (HW.out.alloc (.cells (arr .u32 (zs 8)) 115))
            have G11 := Aside0.mk (G11.out.alloc (.cells (arr .u32 (zs 8)) 115))
            have HBl := Aside0.mk (below_alloc HBl.out (.cells (arr .u32 (zs 8)) 115))
            generalize wn.alloc (.cells (arr .u32 (zs 8)) 115) = wn at *
            refine hK.out _ _ HS.out (fun _ => ?_)
            clear hK K
            refine one_ (i := 1) (N := some 80) #[true, true, true, true, false, false] rfl rfl (by kernel_rfl) (by decide) (fun K hK => ?_)
            refine goes_ Tryd.func87 (by kernel_rfl) rfl #[] (by rfl) rfl rfl (by simp) ?_
            refine (constants_calls _).mono ?_
            rintro e wn ⟨rfl, hb⟩
            refine ⟨_, rfl, ?_⟩
            have HS := Aside0.mk (HS.out.keep hb)
            have HR := Aside0.mk (HR.out.keep hb)
            have HW := Aside0.mk (HW.out.keep hb)
            have G10 := Aside0.mk (G10.out.keep hb)
            have G11 := Aside0.mk (G11.out.keep hb)
            have HBl := Aside0.mk (below2 HBl.out HBl.out.size hb)
            clear hb
            refine hK.out _ _ HS.out (fun _ => ?_)
            clear hK K
            exact norm_ rfl (hcont (g10, g11) _ ⟨HS.out, HR.out, HW.out, G10.out, G11.out, by omega, by omega, by omega, HBl.out⟩)
end Go.Proofs.YtpgfafpjfdbjmaaDoor
end
section
namespace Go.Proofs.YtpgfafpjfdbjmaaDoor
open Go.RowKit Q Go.Proofs.YtpgfafpjfdbjmaaDoorW.PrintWords Go.Proofs.YtpgfafpjfdbjmaaDoorW.PrintLast Go.Proofs.YtpgfafpjfdbjmaaDoorW.PrintMore
theorem wraps_u32 (n : Int) (h₀ : 0 ≤ n) (h₁ : n < 2 ^ 32) : IntKind.u32.wrap n = n := by rw [IntKind.wrap_u32]; omega
theorem u32_or8 (x y : Int) (hx0 : 0 ≤ x) (hx : x % 256 = 0) (hx1 : x < 4294967296) (h0 : 0 ≤ y) (h1 : y < 256) : bits .or .u32 x y = x + y :=
  bits_join .u32 32 (by decide) wraps_u32 8 x y hx0 hx hx1 h0 h1 (by omega)
theorem u32_or16 (x y : Int) (hx0 : 0 ≤ x) (hx : x % 65536 = 0) (hx1 : x < 4294967296) (h0 : 0 ≤ y) (h1 : y < 65536) : bits .or .u32 x y = x + y :=
  bits_join .u32 32 (by decide) wraps_u32 16 x y hx0 hx hx1 h0 h1 (by omega)
theorem u32_or24 (x y : Int) (hx0 : 0 ≤ x) (hx : x % 16777216 = 0) (hx1 : x < 4294967296) (h0 : 0 ≤ y) (h1 : y < 16777216) : bits .or .u32 x y = x + y :=
  bits_join .u32 32 (by decide) wraps_u32 24 x y hx0 hx hx1 h0 h1 (by omega)
theorem word_ref (a b c d : Int) (ha : 0 ≤ a ∧ a ≤ 255) (hb : 0 ≤ b ∧ b ≤ 255) (hc : 0 ≤ c ∧ c ≤ 255) (hd : 0 ≤ d ∧ d ≤ 255) :
    Go.bits .or .u32 (Go.bits .or .u32 (Go.bits .or .u32 (((a % 4294967296) * 16777216) % 4294967296) (((b % 4294967296) * 65536) % 4294967296)) (((c % 4294967296) * 256) % 4294967296)) (d % 4294967296) = a * 16777216 + b * 65536 + c * 256 + d := by
  have e1 := u32_or24 (((a % 4294967296) * 16777216) % 4294967296) (((b % 4294967296) * 65536) % 4294967296) (by omega) (by omega) (by omega) (by omega) (by omega)
  have e2 := u32_or16 (((a % 4294967296) * 16777216) % 4294967296 + ((b % 4294967296) * 65536) % 4294967296) (((c % 4294967296) * 256) % 4294967296) (by omega) (by omega) (by omega) (by omega) (by omega)
  have e3 := u32_or8 (((a % 4294967296) * 16777216) % 4294967296 + ((b % 4294967296) * 65536) % 4294967296 + ((c % 4294967296) * 256) % 4294967296) (d % 4294967296) (by omega) (by omega) (by omega) (by omega) (by omega)
  rw [e1, e2, e3]
  omega
theorem acc4 (b : ByteArray) (i : Nat) : acc b i 4 = byteAt b (4 * i) * 16777216 + byteAt b (4 * i + 1) * 65536 + byteAt b (4 * i + 2) * 256 + byteAt b (4 * i + 3) := by
  have h0 := byteAt_rng b (4 * i)
  have h1 := byteAt_rng b (4 * i + 1)
  have h2 := byteAt_rng b (4 * i + 2)
  have h3 := byteAt_rng b (4 * i + 3)
  unfold acc acc acc acc acc
  rw [Nat.add_zero]
  generalize byteAt b (4 * i) = x0 at *
  generalize byteAt b (4 * i + 1) = x1 at *
  generalize byteAt b (4 * i + 2) = x2 at *
  generalize byteAt b (4 * i + 3) = x3 at *
  have e1 := u32_or8 (0 * 256 % 4294967296) x0 (by omega) (by omega) (by omega) (by omega) (by omega)
  have e2 := u32_or8 ((0 * 256 % 4294967296 + x0) * 256 % 4294967296) x1 (by omega) (by omega) (by omega) (by omega) (by omega)
  have e3 := u32_or8 (((0 * 256 % 4294967296 + x0) * 256 % 4294967296 + x1) * 256 % 4294967296) x2 (by omega) (by omega) (by omega) (by omega) (by omega)
  have e4 := u32_or8 ((((0 * 256 % 4294967296 + x0) * 256 % 4294967296 + x1) * 256 % 4294967296 + x2) * 256 % 4294967296) x3 (by omega) (by omega) (by omega) (by omega) (by omega)
  rw [e1, e2, e3, e4]
  omega
theorem wl_stable (b : ByteArray) (i i' j : Nat) (hj : j < i) (hi : i ≤ i') : (wl b i')[j]? = (wl b i)[j]? := by
  induction i' with
  | zero => obtain rfl : i = 0 := by omega
            rfl
  | succ i' ih =>
    rcases Nat.lt_or_ge i (i' + 1) with h | h
    · rw [wl, List.getElem?_set, if_neg (by omega)]
      exact ih (by omega)
    · obtain rfl : i = i' + 1 := by omega
      rfl
theorem wlAll_at (b : ByteArray) (i : Nat) (hi : i < 64) : (wlAll b).getD i 0 = wAt b (wl b i) i := by
  rw [List.getD_eq_getElem?_getD]
  unfold wlAll
  rw [wl_stable b (i + 1) 64 i (by omega) (by omega), wl, List.getElem?_set, if_pos rfl, wl_len, if_pos hi]
  rfl
theorem wl_get (b : ByteArray) (i j : Nat) (hj : j < i) (hi : i ≤ 64) : (wl b i).getD j 0 = (wlAll b).getD j 0 := by
  rw [List.getD_eq_getElem?_getD, List.getD_eq_getElem?_getD]
  unfold wlAll
  rw [wl_stable b i 64 j hj hi]
theorem wlAll_len (b : ByteArray) : (wlAll b).length = 64 := wl_len b 64
theorem take_next (l : List Int) (i : Nat) (h : i < l.length) : l.take (i + 1) = l.take i ++ [l.getD i 0] := by
  rw [List.take_succ_eq_append_getElem h, List.getD_eq_getElem?_getD, List.getElem?_eq_getElem h]
  rfl
theorem rd_take (l : List Int) (i j : Nat) (h : j < i) : rd (l.take i) (j : Int) = l.getD j 0 := by
  unfold rd
  rw [List.getD_eq_getElem?_getD, List.getD_eq_getElem?_getD, List.getElem?_take, if_pos (by omega)]
  rfl
theorem rot_f (x n : Int) (h0 : 0 ≤ n) (h1 : n ≤ 32) : sluicegateref03_rot.f x n = some (rr x n) := by
  unfold sluicegateref03_rot.f rr
  have e : wrap64 (32 - n) = 32 - n := by unfold wrap64; omega
  have e2 : IntKind.u64.wrap (32 - n) = 32 - n := by rw [IntKind.wrap_u64]; omega
  rw [if_pos h0, e, e2, if_pos (by omega)]
theorem words_l1 (W : List Int) (hW : W.length = 64) (hrec : ∀ i, 16 ≤ i → i < 64 → W.getD i 0 = (W.getD (i - 16) 0 + W.getD (i - 7) 0 + sg0 (W.getD (i - 15) 0) + sg1 (W.getD (i - 2) 0)) % 4294967296) (d : Nat) : ∀ (k i : Nat), i + d = 64 → 16 ≤ i → d < k → sluicegateref03_words.l1 k (W.take i) (i : Int) = some W := by
  induction d with
  | zero =>
    intro k i hi h16 hk
    obtain ⟨k, rfl⟩ : ∃ m, k = m + 1 := ⟨k - 1, by omega⟩
    have hi64 : ¬ (i : Int) < 64 := by omega
    simp only [sluicegateref03_words.l1]
    rw [if_neg hi64, List.take_of_length_le (by omega)]
  | succ d ih =>
    intro k i hi h16 hk
    obtain ⟨k, rfl⟩ : ∃ m, k = m + 1 := ⟨k - 1, by omega⟩
    have hl : (W.take i).length = i := by rw [List.length_take]; omega
    have e15 : Hid (wrap64 ((i : Int) - 15) = ((i - 15 : Nat) : Int)) := Lib.hid (by unfold wrap64; omega)
    have e2 : Hid (wrap64 ((i : Int) - 2) = ((i - 2 : Nat) : Int)) := Lib.hid (by unfold wrap64; omega)
    have e16 : Hid (wrap64 ((i : Int) - 16) = ((i - 16 : Nat) : Int)) := Lib.hid (by unfold wrap64; omega)
    have e7 : Hid (wrap64 ((i : Int) - 7) = ((i - 7 : Nat) : Int)) := Lib.hid (by unfold wrap64; omega)
    have e1 : Hid (wrap64 ((i : Int) + 1) = ((i + 1 : Nat) : Int)) := Lib.hid (by unfold wrap64; omega)
    have key := hrec i h16 (by omega)
    have hn := take_next W i (by omega)
    have r15 := rd_take W i (i - 15) (by omega)
    have r16 := rd_take W i (i - 16) (by omega)
    have r7 := rd_take W i (i - 7) (by omega)
    have r2 := rd_take W i (i - 2) (by omega)
    have hih := ih k (i + 1) (by omega) (by omega) (by omega)
    rw [hn, key] at hih
    simp only [sluicegateref03_words.l1]
    rw [e15.out, e2.out, e16.out, e7.out, e1.out, hl, r15, r16, r7, r2]
    clear key hn r15 r16 r7 r2 ih hrec hl
    generalize W.getD (i - 15) 0 = x15 at *
    generalize W.getD (i - 16) 0 = x16 at *
    generalize W.getD (i - 7) 0 = x7 at *
    generalize W.getD (i - 2) 0 = x2 at *
    generalize W.take i = T at *
    rw [if_pos (by omega), if_pos (by omega), if_pos (by omega), rot_f x15 7 (by omega) (by omega)]
    simp only [Option.bind_some]
    rw [rot_f x15 18 (by omega) (by omega)]
    simp only [Option.bind_some]
    rw [if_pos (by omega), if_pos (by omega), rot_f x2 17 (by omega) (by omega)]
    simp only [Option.bind_some]
    rw [rot_f x2 19 (by omega) (by omega)]
    simp only [Option.bind_some]
    rw [if_pos (by omega), if_pos (by omega), if_pos (by omega), if_pos (by omega), if_pos (by omega)]
    unfold sg0 sg1 at hih
    generalize Go.bits .xor .u32 (Go.bits .xor .u32 (rr x15 7) (rr x15 18)) (x15 / 8) = s0 at *
    generalize Go.bits .xor .u32 (Go.bits .xor .u32 (rr x2 17) (rr x2 19)) (x2 / 1024) = s1 at *
    have hw : (((x16 + s0) % 4294967296 + x7) % 4294967296 + s1) % 4294967296 = (x16 + x7 + s0 + s1) % 4294967296 := by omega
    rw [hw]
    exact hih
def numsB (l : List UInt8) : List Int := l.map fun x => (x.toNat : Int)
theorem rd_nums (l : List UInt8) (n : Int) (j : Nat) (hn : n = (j : Int)) (h : j < l.length) : rd (numsB l) n = byteAt ⟨l.toArray⟩ j := by
  subst hn
  unfold rd numsB byteAt
  rw [List.getD_eq_getElem?_getD, List.getD_eq_getElem?_getD, List.getElem?_map, show ((j : Int)).toNat = j by omega, List.getElem?_eq_getElem h]
  rfl
theorem words_l0 (l : List UInt8) (hl : l.length = 64) (W : List Int) (hW : W.length = 64) (hrec : ∀ i, 16 ≤ i → i < 64 → W.getD i 0 = (W.getD (i - 16) 0 + W.getD (i - 7) 0 + sg0 (W.getD (i - 15) 0) + sg1 (W.getD (i - 2) 0)) % 4294967296)
    (hfst : ∀ i, i < 16 → W.getD i 0 = byteAt ⟨l.toArray⟩ (4 * i) * 16777216 + byteAt ⟨l.toArray⟩ (4 * i + 1) * 65536 + byteAt ⟨l.toArray⟩ (4 * i + 2) * 256 + byteAt ⟨l.toArray⟩ (4 * i + 3)) (d : Nat) : ∀ (k i : Nat), i + d = 16 → d + 49 < k → sluicegateref03_words.l0 k (numsB l) (W.take i) (i : Int) = some W := by
  have hnl : (numsB l).length = 64 := by unfold numsB; rw [List.length_map, hl]
  induction d with
  | zero =>
    intro k i hi hk
    obtain ⟨k, rfl⟩ : ∃ m, k = m + 1 := ⟨k - 1, by omega⟩
    have hi16 : ¬ (i : Int) < 16 := by omega
    have h := words_l1 W hW hrec (64 - i) k i (by omega) (by omega) (by omega)
    have hii : (i : Int) = 16 := by omega
    rw [hii] at h
    simp only [sluicegateref03_words.l0]
    rw [if_neg hi16]
    exact h
  | succ d ih =>
    intro k i hi hk
    obtain ⟨k, rfl⟩ : ∃ m, k = m + 1 := ⟨k - 1, by omega⟩
    have hlt : (W.take i).length = i := by rw [List.length_take]; omega
    have e4 : Hid (wrap64 (4 * (i : Int)) = 4 * (i : Int)) := Lib.hid (by unfold wrap64; omega)
    have f1 : Hid (wrap64 (4 * (i : Int) + 1) = 4 * (i : Int) + 1) := Lib.hid (by unfold wrap64; omega)
    have f2 : Hid (wrap64 (4 * (i : Int) + 2) = 4 * (i : Int) + 2) := Lib.hid (by unfold wrap64; omega)
    have f3 : Hid (wrap64 (4 * (i : Int) + 3) = 4 * (i : Int) + 3) := Lib.hid (by unfold wrap64; omega)
    have e1 : Hid (wrap64 ((i : Int) + 1) = ((i + 1 : Nat) : Int)) := Lib.hid (by unfold wrap64; omega)
    have key := hfst i (by omega)
    have hn := take_next W i (by omega)
    have b0 := rd_nums l (4 * (i : Int)) (4 * i) (by omega) (by omega)
    have b1 := rd_nums l (4 * (i : Int) + 1) (4 * i + 1) (by omega) (by omega)
    have b2 := rd_nums l (4 * (i : Int) + 2) (4 * i + 2) (by omega) (by omega)
    have b3 := rd_nums l (4 * (i : Int) + 3) (4 * i + 3) (by omega) (by omega)
    have hw := word_ref _ _ _ _ (byteAt_rng ⟨l.toArray⟩ (4 * i)) (byteAt_rng ⟨l.toArray⟩ (4 * i + 1)) (byteAt_rng ⟨l.toArray⟩ (4 * i + 2)) (byteAt_rng ⟨l.toArray⟩ (4 * i + 3))
    have hih := ih k (i + 1) (by omega) (by omega)
    rw [hn, key, ← hw] at hih
    simp only [sluicegateref03_words.l0]
    rw [e4.out, f1.out, f2.out, f3.out, e1.out, hnl, hlt, b0, b1, b2, b3]
    rw [if_pos (by omega), if_pos (by omega), if_pos (by omega), if_pos (by omega), if_pos (by omega), if_pos (by omega), if_pos (by omega), if_pos (by omega), if_pos (by omega), if_pos (by omega)]
    exact hih
theorem words_f (l : List UInt8) (hl : l.length = 64) : sluicegateref03_words.f 70 (numsB l) = some (wlAll ⟨l.toArray⟩) := by
  have h := words_l0 l hl (wlAll ⟨l.toArray⟩) (wlAll_len _) (fun i h16 hi => by
    have key := wlAll_at ⟨l.toArray⟩ i hi
    unfold wAt at key
    rw [if_neg (by omega), wl_get _ i _ (by omega) (by omega), wl_get _ i _ (by omega) (by omega), wl_get _ i _ (by omega) (by omega), wl_get _ i _ (by omega) (by omega)] at key
    exact key) (fun i hi => by
    have key := wlAll_at ⟨l.toArray⟩ i (by omega)
    unfold wAt at key
    rw [if_pos (by omega), acc4] at key
    exact key) 16 70 0 rfl (by decide)
  rw [List.take_zero] at h
  exact h
end Go.Proofs.YtpgfafpjfdbjmaaDoor
end
section
namespace Go.Proofs.YtpgfafpjfdbjmaaDoor.Q
open Go.RowKit Go.Proofs.YtpgfafpjfdbjmaaDoorW.PrintWords Go.Proofs.YtpgfafpjfdbjmaaDoorW.PrintLast Go.Proofs.YtpgfafpjfdbjmaaDoorW.PrintMore
attribute [local go_sem] max2_int min2_int max_two min_two max_three min_three max_four min_four   -- for this text's walks alone
set_option linter.unusedVariables false
set_option linter.unusedSimpArgs false
theorem eqA23 (d : Nat) (w : World) (x0 y0 : ByteArray) (x1 y1 : ByteArray) :
    (Op.equalIn (d + 2) 23 (.agg #[.string x0, .string x1]) (.agg #[.string y0, .string y1])).run Tryd.prog w = .ok (x0.toList == y0.toList && (x1.toList == y1.toList)) w := by
  refine eqA_of Tryd.underlying23 (by kernel_rfl) ?_
  refine eqf_cons (by rfl) (by go_simp; rfl) (by go_simp; rfl) (by go_simp) ?_
  exact eqf_last (by rfl) (by go_simp; rfl) (by go_simp; rfl) (by go_simp)
end Go.Proofs.YtpgfafpjfdbjmaaDoor.Q
end
section
namespace Go.Proofs.YtpgfafpjfdbjmaaDoor.Q
open Go.RowKit Go.Proofs.YtpgfafpjfdbjmaaDoorW.PrintWords Go.Proofs.YtpgfafpjfdbjmaaDoorW.PrintLast Go.Proofs.YtpgfafpjfdbjmaaDoorW.PrintMore
attribute [local go_sem] max2_int min2_int max_two min_two max_three min_three max_four min_four   -- for this text's walks alone
set_option linter.unusedVariables false
set_option linter.unusedSimpArgs false
attribute [local go_sem high] eqA23
def sluicegateref03_K.f (a0 : Int) : Option (Int) := (some (([1116352408, 1899447441, 3049323471, 3921009573, 961987163, 1508970993, 2453635748, 2870763221, 3624381080, 310598401, 607225278, 1426881987, 1925078388, 2162078206, 2614888103, 3248222580, 3835390401, 4022224774, 264347078, 604807628, 770255983, 1249150122, 1555081692, 1996064986, 2554220882, 2821834349, 2952996808, 3210313671, 3336571891, 3584528711, 113926993, 338241895, 666307205, 773529912, 1294757372, 1396182291, 1695183700, 1986661051, 2177026350, 2456956037, 2730485921, 2820302411, 3259730800, 3345764771, 3516065817, 3600352804, 4094571909, 275423344, 430227734, 506948616, 659060556, 883997877, 958139571, 1322822218, 1537002063, 1747873779, 1955562222, 2024104815, 2227730452, 2361852424, 2428436474, 2756734187, 3204031479, 3329325298] : List Int) : List Int)).bind fun y235 => (if 0 ≤ a0 then (if a0 < (y235.length : Int) then (some (rd y235 a0)) else (none)) else (none))
set_option maxHeartbeats 8000000 in
set_option maxRecDepth 100000 in
theorem sluicegateref03_K.calls (a0 : Int) (r : Int) (w : World) (h : sluicegateref03_K.f a0 = some r) :
    Calls Tryd.prog 79 #[.int .i64 a0] w fun e w' => e = .returned (.int .u32 r) ∧ Below w.heap.size w w' := by
  have HB := Aside0.mk (Below.refl w.heap.size w)
  have H : ((some (([1116352408, 1899447441, 3049323471, 3921009573, 961987163, 1508970993, 2453635748, 2870763221, 3624381080, 310598401, 607225278, 1426881987, 1925078388, 2162078206, 2614888103, 3248222580, 3835390401, 4022224774, 264347078, 604807628, 770255983, 1249150122, 1555081692, 1996064986, 2554220882, 2821834349, 2952996808, 3210313671, 3336571891, 3584528711, 113926993, 338241895, 666307205, 773529912, 1294757372, 1396182291, 1695183700, 1986661051, 2177026350, 2456956037, 2730485921, 2820302411, 3259730800, 3345764771, 3516065817, 3600352804, 4094571909, 275423344, 430227734, 506948616, 659060556, 883997877, 958139571, 1322822218, 1537002063, 1747873779, 1955562222, 2024104815, 2227730452, 2361852424, 2428436474, 2756734187, 3204031479, 3329325298] : List Int) : List Int)).bind fun y235 => (if 0 ≤ a0 then (if a0 < (y235.length : Int) then (some (rd y235 a0)) else (none)) else (none))) = some r := h
  clear h
  obtain ⟨y235, hy235⟩ : ∃ y_ : List Int, y_ = (([1116352408, 1899447441, 3049323471, 3921009573, 961987163, 1508970993, 2453635748, 2870763221, 3624381080, 310598401, 607225278, 1426881987, 1925078388, 2162078206, 2614888103, 3248222580, 3835390401, 4022224774, 264347078, 604807628, 770255983, 1249150122, 1555081692, 1996064986, 2554220882, 2821834349, 2952996808, 3210313671, 3336571891, 3584528711, 113926993, 338241895, 666307205, 773529912, 1294757372, 1396182291, 1695183700, 1986661051, 2177026350, 2456956037, 2730485921, 2820302411, 3259730800, 3345764771, 3516065817, 3600352804, 4094571909, 275423344, 430227734, 506948616, 659060556, 883997877, 958139571, 1322822218, 1537002063, 1747873779, 1955562222, 2024104815, 2227730452, 2361852424, 2428436474, 2756734187, 3204031479, 3329325298] : List Int)) := ⟨_, rfl⟩
  replace H : (if 0 ≤ a0 then (if a0 < (y235.length : Int) then (some (rd y235 a0)) else (none)) else (none)) = some r := by first | (rw [hy235]; with_reducible exact H) | (have H2_ := (Option.bind_some _ _).symm.trans H; rw [hy235]; with_reducible exact H2_) | (have H2_ := (Option.bind_some _ _).symm.trans H; with_reducible exact H2_) | with_reducible exact H | (rw [hy235]; exact H) | exact H
  have Ny235 := Aside0.mk hy235
  clear hy235
  by_cases c2 : 0 ≤ a0
  · rw [if_pos c2] at H
    have c2b0 : decide (0 ≤ a0) = true := decide_eq_true c2
    clear c2
    by_cases c3 : a0 < (y235.length : Int)
    · rw [if_pos c3] at H
      have c3b0 : decide (a0 < (y235.length : Int)) = true := decide_eq_true c3
      clear c3
      obtain rfl := Option.some.inj H
      go_enter Tryd.func79, Tryd.ntmps79
      go_wp2_with (first | ((with_reducible refine gate_dst (N := 4) rfl ?_); refine Kd.R_lit (Kd.int .u32) _ 91 ?hg (N := 4) ?hd (xs := ([1116352408, 1899447441, 3049323471, 3921009573, 961987163, 1508970993, 2453635748, 2870763221, 3624381080, 310598401, 607225278, 1426881987, 1925078388, 2162078206, 2614888103, 3248222580, 3835390401, 4022224774, 264347078, 604807628, 770255983, 1249150122, 1555081692, 1996064986, 2554220882, 2821834349, 2952996808, 3210313671, 3336571891, 3584528711, 113926993, 338241895, 666307205, 773529912, 1294757372, 1396182291, 1695183700, 1986661051, 2177026350, 2456956037, 2730485921, 2820302411, 3259730800, 3345764771, 3516065817, 3600352804, 4094571909, 275423344, 430227734, 506948616, 659060556, 883997877, 958139571, 1322822218, 1537002063, 1747873779, 1955562222, 2024104815, 2227730452, 2361852424, 2428436474, 2756734187, 3204031479, 3329325298] : List Int)) (inner := [.int .u32 1116352408, .int .u32 1899447441, .int .u32 3049323471, .int .u32 3921009573, .int .u32 961987163, .int .u32 1508970993, .int .u32 2453635748, .int .u32 2870763221, .int .u32 3624381080, .int .u32 310598401, .int .u32 607225278, .int .u32 1426881987, .int .u32 1925078388, .int .u32 2162078206, .int .u32 2614888103, .int .u32 3248222580, .int .u32 3835390401, .int .u32 4022224774, .int .u32 264347078, .int .u32 604807628, .int .u32 770255983, .int .u32 1249150122, .int .u32 1555081692, .int .u32 1996064986, .int .u32 2554220882, .int .u32 2821834349, .int .u32 2952996808, .int .u32 3210313671, .int .u32 3336571891, .int .u32 3584528711, .int .u32 113926993, .int .u32 338241895, .int .u32 666307205, .int .u32 773529912, .int .u32 1294757372, .int .u32 1396182291, .int .u32 1695183700, .int .u32 1986661051, .int .u32 2177026350, .int .u32 2456956037, .int .u32 2730485921, .int .u32 2820302411, .int .u32 3259730800, .int .u32 3345764771, .int .u32 3516065817, .int .u32 3600352804, .int .u32 4094571909, .int .u32 275423344, .int .u32 430227734, .int .u32 506948616, .int .u32 659060556, .int .u32 883997877, .int .u32 958139571, .int .u32 1322822218, .int .u32 1537002063, .int .u32 1747873779, .int .u32 1955562222, .int .u32 2024104815, .int .u32 2227730452, .int .u32 2361852424, .int .u32 2428436474, .int .u32 2756734187, .int .u32 3204031479, .int .u32 3329325298]) (ok := fun _ => True) (okp := fun _ => True) ?hr ?hp (fun _ hk => hk) trivial (Below.refl _ _) (Nat.le_refl _) (by simp) ?_; (case hd => rfl); (case hg => rfl); (case hr => first | (go_simp; done) | (go_simp; rfl)); (case hp => exact (Reps.one (show Kd.M (Kd.int .u32) _ _ _ 1116352408 [.int .u32 1116352408] from rfl) (Reps.one (show Kd.M (Kd.int .u32) _ _ _ 1899447441 [.int .u32 1899447441] from rfl) (Reps.one (show Kd.M (Kd.int .u32) _ _ _ 3049323471 [.int .u32 3049323471] from rfl) (Reps.one (show Kd.M (Kd.int .u32) _ _ _ 3921009573 [.int .u32 3921009573] from rfl) (Reps.one (show Kd.M (Kd.int .u32) _ _ _ 961987163 [.int .u32 961987163] from rfl) (Reps.one (show Kd.M (Kd.int .u32) _ _ _ 1508970993 [.int .u32 1508970993] from rfl) (Reps.one (show Kd.M (Kd.int .u32) _ _ _ 2453635748 [.int .u32 2453635748] from rfl) (Reps.one (show Kd.M (Kd.int .u32) _ _ _ 2870763221 [.int .u32 2870763221] from rfl) (Reps.one (show Kd.M (Kd.int .u32) _ _ _ 3624381080 [.int .u32 3624381080] from rfl) (Reps.one (show Kd.M (Kd.int .u32) _ _ _ 310598401 [.int .u32 310598401] from rfl) (Reps.one (show Kd.M (Kd.int .u32) _ _ _ 607225278 [.int .u32 607225278] from rfl) (Reps.one (show Kd.M (Kd.int .u32) _ _ _ 1426881987 [.int .u32 1426881987] from rfl) (Reps.one (show Kd.M (Kd.int .u32) _ _ _ 1925078388 [.int .u32 1925078388] from rfl) (Reps.one (show Kd.M (Kd.int .u32) _ _ _ 2162078206 [.int .u32 2162078206] from rfl) (Reps.one (show Kd.M (Kd.int .u32) _ _ _ 2614888103 [.int .u32 2614888103] from rfl) (Reps.one (show Kd.M (Kd.int .u32) _ _ _ 3248222580 [.int .u32 3248222580] from rfl) (Reps.one (show Kd.M (Kd.int .u32) _ _ _ 3835390401 [.int .u32 3835390401] from rfl) (Reps.one (show Kd.M (Kd.int .u32) _ _ _ 4022224774 [.int .u32 4022224774] from rfl) (Reps.one (show Kd.M (Kd.int .u32) _ _ _ 264347078 [.int .u32 264347078] from rfl) (Reps.one (show Kd.M (Kd.int .u32) _ _ _ 604807628 [.int .u32 604807628] from rfl) (Reps.one (show Kd.M (Kd.int .u32) _ _ _ 770255983 [.int .u32 770255983] from rfl) (Reps.one (show Kd.M (Kd.int .u32) _ _ _ 1249150122 [.int .u32 1249150122] from rfl) (Reps.one (show Kd.M (Kd.int .u32) _ _ _ 1555081692 [.int .u32 1555081692] from rfl) (Reps.one (show Kd.M (Kd.int .u32) _ _ _ 1996064986 [.int .u32 1996064986] from rfl) (Reps.one (show Kd.M (Kd.int .u32) _ _ _ 2554220882 [.int .u32 2554220882] from rfl) (Reps.one (show Kd.M (Kd.int .u32) _ _ _ 2821834349 [.int .u32 2821834349] from rfl) (Reps.one (show Kd.M (Kd.int .u32) _ _ _ 2952996808 [.int .u32 2952996808] from rfl) (Reps.one (show Kd.M (Kd.int .u32) _ _ _ 3210313671 [.int .u32 3210313671] from rfl) (Reps.one (show Kd.M (Kd.int .u32) _ _ _ 3336571891 [.int .u32 3336571891] from rfl) (Reps.one (show Kd.M (Kd.int .u32) _ _ _ 3584528711 [.int .u32 3584528711] from rfl) (Reps.one (show Kd.M (Kd.int .u32) _ _ _ 113926993 [.int .u32 113926993] from rfl) (Reps.one (show Kd.M (Kd.int .u32) _ _ _ 338241895 [.int .u32 338241895] from rfl) (Reps.one (show Kd.M (Kd.int .u32) _ _ _ 666307205 [.int .u32 666307205] from rfl) (Reps.one (show Kd.M (Kd.int .u32) _ _ _ 773529912 [.int .u32 773529912] from rfl) (Reps.one (show Kd.M (Kd.int .u32) _ _ _ 1294757372 [.int .u32 1294757372] from rfl) (Reps.one (show Kd.M (Kd.int .u32) _ _ _ 1396182291 [.int .u32 1396182291] from rfl) (Reps.one (show Kd.M (Kd.int .u32) _ _ _ 1695183700 [.int .u32 1695183700] from rfl) (Reps.one (show Kd.M (Kd.int .u32) _ _ _ 1986661051 [.int .u32 1986661051] from rfl) (Reps.one (show Kd.M (Kd.int .u32) _ _ _ 2177026350 [.int .u32 2177026350] from rfl) (Reps.one (show Kd.M (Kd.int .u32) _ _ _ 2456956037 [.int .u32 2456956037] from rfl) (Reps.one (show Kd.M (Kd.int .u32) _ _ _ 2730485921 [.int .u32 2730485921] from rfl) (Reps.one (show Kd.M (Kd.int .u32) _ _ _ 2820302411 [.int .u32 2820302411] from rfl) (Reps.one (show Kd.M (Kd.int .u32) _ _ _ 3259730800 [.int .u32 3259730800] from rfl) (Reps.one (show Kd.M (Kd.int .u32) _ _ _ 3345764771 [.int .u32 3345764771] from rfl) (Reps.one (show Kd.M (Kd.int .u32) _ _ _ 3516065817 [.int .u32 3516065817] from rfl) (Reps.one (show Kd.M (Kd.int .u32) _ _ _ 3600352804 [.int .u32 3600352804] from rfl) (Reps.one (show Kd.M (Kd.int .u32) _ _ _ 4094571909 [.int .u32 4094571909] from rfl) (Reps.one (show Kd.M (Kd.int .u32) _ _ _ 275423344 [.int .u32 275423344] from rfl) (Reps.one (show Kd.M (Kd.int .u32) _ _ _ 430227734 [.int .u32 430227734] from rfl) (Reps.one (show Kd.M (Kd.int .u32) _ _ _ 506948616 [.int .u32 506948616] from rfl) (Reps.one (show Kd.M (Kd.int .u32) _ _ _ 659060556 [.int .u32 659060556] from rfl) (Reps.one (show Kd.M (Kd.int .u32) _ _ _ 883997877 [.int .u32 883997877] from rfl) (Reps.one (show Kd.M (Kd.int .u32) _ _ _ 958139571 [.int .u32 958139571] from rfl) (Reps.one (show Kd.M (Kd.int .u32) _ _ _ 1322822218 [.int .u32 1322822218] from rfl) (Reps.one (show Kd.M (Kd.int .u32) _ _ _ 1537002063 [.int .u32 1537002063] from rfl) (Reps.one (show Kd.M (Kd.int .u32) _ _ _ 1747873779 [.int .u32 1747873779] from rfl) (Reps.one (show Kd.M (Kd.int .u32) _ _ _ 1955562222 [.int .u32 1955562222] from rfl) (Reps.one (show Kd.M (Kd.int .u32) _ _ _ 2024104815 [.int .u32 2024104815] from rfl) (Reps.one (show Kd.M (Kd.int .u32) _ _ _ 2227730452 [.int .u32 2227730452] from rfl) (Reps.one (show Kd.M (Kd.int .u32) _ _ _ 2361852424 [.int .u32 2361852424] from rfl) (Reps.one (show Kd.M (Kd.int .u32) _ _ _ 2428436474 [.int .u32 2428436474] from rfl) (Reps.one (show Kd.M (Kd.int .u32) _ _ _ 2756734187 [.int .u32 2756734187] from rfl) (Reps.one (show Kd.M (Kd.int .u32) _ _ _ 3204031479 [.int .u32 3204031479] from rfl) (Reps.one (show Kd.M (Kd.int .u32) _ _ _ 3329325298 [.int .u32 3329325298] from rfl) (Reps.none _ _)))))))))))))))))))))))))))))))))))))))))))))))))))))))))))))))))); intro v236 w4 ho5 hb hg_ hnew_; clear hg_ hnew_; (first | rw [← Ny235.out] at ho5 | (simp only [Int.reduceToNat] at ho5; rw [← Ny235.out] at ho5)); have n0_ := Aside0.mk (Kd.R_lower ho5 (below_size (by repeat (first | (with_reducible first | exact HB.out | apply below_alloc | apply pw_below_drewN | apply below_drew1) | exact HB.out)))); have n1_ := Aside0.mk (below_step (by repeat (first | (with_reducible first | exact HB.out | apply below_alloc | apply pw_below_drewN | apply below_drew1) | exact HB.out)) hb); clear HB; have HO237 := n0_; have HB := n1_; clear n0_ n1_; clear hb ho5; obtain ⟨Ao6, co6, eo6⟩ := Kd.R_slice HO237.out; subst eo6; have p238 : 0 ≤ (a0 : Int) := of_decide_eq_true (by first | (with_reducible assumption) | assumption); have q238 : a0 < (y235.length : Int) := of_decide_eq_true (by first | (with_reducible assumption) | assumption); obtain ⟨ad238, e238, hx238_0⟩ := Kd.at_int (Kd.R_reads' HO237.out).2.2 a0 p238 q238; cases e238; replace p238 := eq_true p238; replace q238 := eq_true q238))
      go_ret
      exact ⟨by first | rfl | (simp [errW_none, errW_some] <;> rfl) | (simp [*, errW_none, errW_some] <;> rfl), by repeat (first | (with_reducible first | exact HB.out | apply below_alloc | apply pw_below_drewN | apply below_drew1) | exact HB.out)⟩
    · rw [if_neg c3] at H
      exact absurd H (by simp)
  · rw [if_neg c2] at H
    exact absurd H (by simp)
def IsS70 (w0 W : World) (g : Nat) (f0 : ByteArray) (f1 : Int) : Prop := W.heap[g]? = some (.cells #[.string f0, .int .i64 f1] 70 (0, 0)) ∧ w0.heap.size ≤ g
theorem IsS70.grown {w0 W : World} {g : Nat} {f0 : ByteArray} {f1 : Int} {W1 : World} {row : Option Nat} (h : IsS70 w0 W g f0 f1) (hw : W.grownBy W1 row) (hne : some g ≠ row) : IsS70 w0 W1 g f0 f1 := by
  obtain ⟨hb, hg⟩ := h
  exact ⟨blk_grown hb hw hne, hg⟩
theorem IsS70.fresh {w0 W : World} {g : Nat} {f0 : ByteArray} {f1 : Int} (h : IsS70 w0 W g f0 f1) : ∀ k, W.heap.size ≤ k → k ≠ g := by
  obtain ⟨hb, hg⟩ := h
  exact Kd.freshB hb
theorem IsS70.kept {w0 W : World} {g : Nat} {f0 : ByteArray} {f1 : Int} {W1 : World} {S : Nat → Prop} (h : IsS70 w0 W g f0 f1) (hk : Kept W W1 S) (hne : ¬ S g) : IsS70 w0 W1 g f0 f1 := by
  obtain ⟨hb, hg⟩ := h
  exact ⟨blk_kept hb hk hne, hg⟩
theorem IsS70.below {w0 W : World} {g : Nat} {f0 : ByteArray} {f1 : Int} {W1 : World} (h : IsS70 w0 W g f0 f1) (hw : Below W.heap.size W W1) : IsS70 w0 W1 g f0 f1 := h.grown (grown_of_below hw none) (by simp)
theorem IsS70.alloc {w0 W : World} {g : Nat} {f0 : ByteArray} {f1 : Int} (h : IsS70 w0 W g f0 f1) (o : Obj) : IsS70 w0 (W.alloc o) g f0 f1 := h.below (below_alloc (Below.refl _ _) o)
theorem IsS70.drewN {w0 W : World} {g : Nat} {f0 : ByteArray} {f1 : Int} (h : IsS70 w0 W g f0 f1) (m : Nat) : IsS70 w0 (W.drewN m) g f0 f1 := h
theorem IsS70.drew {w0 W : World} {g : Nat} {f0 : ByteArray} {f1 : Int} (h : IsS70 w0 W g f0 f1) : IsS70 w0 W.drew g f0 f1 := h
theorem IsS70.at_ {w0 W : World} {g : Nat} {f0 : ByteArray} {f1 : Int} {w' : World} {m : Nat} (hq : W.drewN m = w') (h : IsS70 w0 W g f0 f1) : IsS70 w0 w' g f0 f1 := by subst hq; exact IsS70.drewN h m
theorem IsS70.apart {w0 W : World} {g : Nat} {f0 : ByteArray} {f1 : Int} {α : Type} {d : Kd α} {e : Nat} {base : Nat} {ok : Nat → Prop} {v : Value} {xs : List α} (h : IsS70 w0 W g f0 f1) (ho : d.R e W base ok v xs) (ht : ∀ q, q ∈ e :: d.E → q ≠ 70) : d.R e W base (fun k => ok k ∧ k ≠ g) v xs := by
  obtain ⟨hb, hg⟩ := h
  exact Kd.R_types ho hb ht
theorem IsS70.own_ne {w0 W : World} {g : Nat} {f0 : ByteArray} {f1 : Int} {α : Type} {d : Kd α} {e : Nat} {base : Nat} {ok : Nat → Prop} {v : Value} {xs : List α} (h : IsS70 w0 W g f0 f1) (ho : d.R e W base ok v xs) (ht : e ≠ 70) : some g ≠ v.ownBlock := by
  obtain ⟨hb, hg⟩ := h
  exact Kd.R_ne ho hb ht
theorem IsS70.lt {w0 W : World} {g : Nat} {f0 : ByteArray} {f1 : Int} (h : IsS70 w0 W g f0 f1) : g < W.heap.size := by
  obtain ⟨hb, hg⟩ := h
  exact blk_lt hb
theorem IsS70.ge {w0 W : World} {g : Nat} {f0 : ByteArray} {f1 : Int} (h : IsS70 w0 W g f0 f1) : w0.heap.size ≤ g := by
  obtain ⟨hb, hg⟩ := h
  exact hg
theorem IsS70.ne_blk {w0 W : World} {g : Nat} {f0 : ByteArray} {f1 : Int} {a : Nat} {cs : Array Value} {t : TypeId} {fr : Nat × Nat} (h : IsS70 w0 W g f0 f1) (hb2 : W.heap[a]? = some (.cells cs t fr)) (ht : t ≠ 70) : g ≠ a := by
  obtain ⟨hb, hg⟩ := h
  rintro rfl
  rw [hb] at hb2
  injection hb2 with hb2
  injection hb2 with _ ht2
  exact ht ht2.symm
theorem IsS70.far {w0 W : World} {g : Nat} {f0 : ByteArray} {f1 : Int} {p : Addr} (h : IsS70 w0 W g f0 f1) (hne : g ≠ p.block) (u : Value) : IsS70 w0 (W.setCell p u) g f0 f1 := by
  obtain ⟨hb, hg⟩ := h
  exact ⟨blk_far hb hne u, hg⟩
theorem IsS70.set_0 {w0 W : World} {g : Nat} {f0 : ByteArray} {f1 : Int} (h : IsS70 w0 W g f0 f1) (x : ByteArray) : IsS70 w0 (W.setCell ⟨g, 0, none⟩ (.string x)) g x f1 := by
  obtain ⟨hb, hg⟩ := h
  exact ⟨by simpa using blk_set hb 0 (.string x), hg⟩
theorem IsS70.set_1 {w0 W : World} {g : Nat} {f0 : ByteArray} {f1 : Int} (h : IsS70 w0 W g f0 f1) (x : Int) : IsS70 w0 (W.setCell ⟨g, 1, none⟩ (.int .i64 x)) g f0 x := by
  obtain ⟨hb, hg⟩ := h
  exact ⟨by simpa using blk_set hb 1 (.int .i64 x), hg⟩
theorem IsS70.new (w0 W : World) (f0 : ByteArray) (f1 : Int) (hB : Below w0.heap.size w0 W) : IsS70 w0 (W.alloc (.cells #[.string f0, .int .i64 f1] 70)) W.heap.size f0 f1 := ⟨by simpa using heap_alloc_new W _, hB.size⟩
end Go.Proofs.YtpgfafpjfdbjmaaDoor.Q
end
section
namespace Go.Proofs.YtpgfafpjfdbjmaaDoor
open Go.RowKit Q Go.Proofs.YtpgfafpjfdbjmaaDoorW.PrintWords Go.Proofs.YtpgfafpjfdbjmaaDoorW.PrintLast Go.Proofs.YtpgfafpjfdbjmaaDoorW.PrintMore
def H8 : V8 := ⟨1779033703, 3144134277, 1013904242, 2773480762, 1359893119, 2600822924, 528734635, 1541459225⟩
def V8.cells (x : V8) : Array Value := #[.int .u32 x.a, .int .u32 x.b, .int .u32 x.c, .int .u32 x.d, .int .u32 x.e, .int .u32 x.f, .int .u32 x.g, .int .u32 x.h]
def v8 (l : List Int) : V8 := ⟨l.getD 0 0, l.getD 1 0, l.getD 2 0, l.getD 3 0, l.getD 4 0, l.getD 5 0, l.getD 6 0, l.getD 7 0⟩
theorem v8_l (l : List Int) (h : l.length = 8) : (v8 l).l = l := by
  match l, h with
  | [a, b, c, d, e, f, g, i], _ => rfl
def bv (x : V8) (b : ByteArray) : V8 := v8 (blk KL x b)
theorem blk_len (K : List Int) (x : V8) (b : ByteArray) : (blk K x b).length = 8 := by unfold blk; rw [ad_len]; rfl
theorem bv_l (x : V8) (b : ByteArray) : (bv x b).l = blk KL x b := v8_l _ (blk_len _ _ _)
theorem block_any (x : V8) (b : ByteArray) (hb : b.size = 64) (w : World) :
    Calls Tryd.prog 73 #[.agg x.cells, .string b] w fun e w' => e = .returned (.agg (bv x b).cells) ∧ Below w.heap.size w w' := by
  have := block_calls x.a x.b x.c x.d x.e x.f x.g x.h b hb _ (Lib.hid rfl) w
  rw [← bv_l] at this
  exact this
def fd (x : V8) (t : ByteArray) : Nat → V8
  | 0 => x
  | k + 1 => bv (fd x t k) (t.extract (64 * k) (64 * k + 64))
def DSt (w : World) (g : Nat) (x : V8) (r : ByteArray) (n : Int) : Prop := w.heap[g]? = some (.cells #[.int .u32 x.a, .int .u32 x.b, .int .u32 x.c, .int .u32 x.d, .int .u32 x.e, .int .u32 x.f, .int .u32 x.g, .int .u32 x.h, .string r, .int .i64 n] 118 (0, 0))
theorem DSt.lt {w : World} {g : Nat} {x : V8} {r : ByteArray} {n : Int} (h : DSt w g x r n) : g < w.heap.size := (Array.getElem?_eq_some_iff.1 h).1
theorem DSt.c8 {w : World} {g : Nat} {x : V8} {r : ByteArray} {n : Int} (h : DSt w g x r n) : w.cell? ⟨g, 8, none⟩ = some (.string r) := by rw [Lib.cell_of_heap h]; rfl
theorem DSt.c9 {w : World} {g : Nat} {x : V8} {r : ByteArray} {n : Int} (h : DSt w g x r n) : w.cell? ⟨g, 9, none⟩ = some (.int .i64 n) := by rw [Lib.cell_of_heap h]; rfl
theorem DSt.free {w : World} {g : Nat} {x : V8} {r : ByteArray} {n : Int} (h : DSt w g x r n) (i : Nat) : w.frozen? ⟨g, i, none⟩ = false := Lib.frozen_of_heap h i
theorem DSt.set8 {w : World} {g : Nat} {x : V8} {r : ByteArray} {n : Int} (h : DSt w g x r n) (r' : ByteArray) : DSt (w.setCell ⟨g, 8, none⟩ (.string r')) g x r' n := by
  have : w.heap[g]? = _ := h
  simp [DSt, World.setCell, Array.getElem?_modify, this]
theorem DSt.set9 {w : World} {g : Nat} {x : V8} {r : ByteArray} {n : Int} (h : DSt w g x r n) (n' : Int) : DSt (w.setCell ⟨g, 9, none⟩ (.int .i64 n')) g x r n' := by
  have : w.heap[g]? = _ := h
  simp [DSt, World.setCell, Array.getElem?_modify, this]
theorem DSt.keep {w w' : World} {g : Nat} {x : V8} {r : ByteArray} {n : Int} (h : DSt w g x r n) (hb : Below w.heap.size w w') : DSt w' g x r n := (hb.block g h.lt).trans h
theorem DSt.range {w : World} {g : Nat} {x : V8} {r : ByteArray} {n : Int} (h : DSt w g x r n) : w.rangeAt g 0 x.cells.toList := by
  have := World.rangeAt_of_block h 0 8
  exact this
theorem DSt.there {w : World} {g : Nat} {x : V8} {r : ByteArray} {n : Int} (h : DSt w g x r n) : w.there g 0 8 := by
  intro j hj
  refine ⟨?_, h.free _⟩
  rw [Lib.cell_of_heap h, Nat.zero_add, List.getElem?_toArray, List.getElem?_eq_getElem (by simp; omega)]
  rfl
theorem DSt.setAll {w : World} {g : Nat} {x : V8} {r : ByteArray} {n : Int} (h : DSt w g x r n) (y : V8) : DSt (w.setCells g 0 y.cells.toList) g y r n := by
  have : w.heap[g]? = _ := h
  simp [DSt, V8.cells, World.setCells, World.setCell, Array.getElem?_modify, this]
theorem Bf.setCell {B g : Nat} {w w' : World} (h : Bf B g w w') (i : Nat) (v : Value) : Bf B g w (w'.setCell ⟨g, i, none⟩ v) :=
  h.trans ⟨rfl, rfl, rfl, by simp [World.setCell], fun k _ hk => Below.heap_setCell _ _ _ _ (fun e => hk e)⟩
theorem setCells_other (g : Nat) : ∀ (vs : List Value) (o : Nat) (w : World) (k : Nat), k ≠ g → (w.setCells g o vs).heap[k]? = w.heap[k]? ∧ (w.setCells g o vs).heap.size = w.heap.size ∧ (w.setCells g o vs).os = w.os ∧ (w.setCells g o vs).tape = w.tape ∧ (w.setCells g o vs).output = w.output
  | [], _, _, _, _ => ⟨rfl, rfl, rfl, rfl, rfl⟩
  | v :: vs, o, w, k, hk => by
    have := setCells_other g vs (o + 1) (w.setCell ⟨g, o, none⟩ v) k hk
    refine ⟨this.1.trans (Below.heap_setCell _ _ _ _ (fun e => hk e)), this.2.1.trans (by simp [World.setCell]), this.2.2.1, this.2.2.2.1, this.2.2.2.2⟩
theorem Bf.setCells {B g : Nat} {w w' : World} (h : Bf B g w w') (o : Nat) (vs : List Value) : Bf B g w (w'.setCells g o vs) := by
  have h0 := setCells_other g vs o w' (g + 1) (by omega)
  exact h.trans ⟨h0.2.2.1, h0.2.2.2.1, h0.2.2.2.2, by rw [h0.2.1]; exact Nat.le_refl _, fun k _ hk => (setCells_other g vs o w' k hk).1⟩
set_option maxRecDepth 100000 in
set_option maxHeartbeats 400000 in
theorem dnew_calls (w : World) : Calls Tryd.prog 48 #[] w fun e w' => ∃ g, e = .returned (.pointer (some ⟨g, 0, none⟩)) ∧ DSt w' g H8 ⟨#[]⟩ 0 ∧ w.heap.size ≤ g ∧ Below w.heap.size w w' := by
  go_enter Tryd.func48, Tryd.ntmps48
  go_wp2_with fail
  have hh := begin_calls w
  refine Calls.mono hh ?_
  clear hh
  rintro e w1 ⟨rfl, b1⟩
  have HB := Lib.hid b1
  clear b1
  go_wp2_with fail
  go_ret
  refine ⟨w1.heap.size, rfl, ?_, HB.out.size, below_alloc HB.out _⟩
  unfold DSt
  rw [heap_alloc_new]
  simp [arr, H0, H8]
end Go.Proofs.YtpgfafpjfdbjmaaDoor
end
section
namespace Go.Proofs.YtpgfafpjfdbjmaaDoor
open Go.RowKit Q Go.Proofs.YtpgfafpjfdbjmaaDoorW.PrintWords Go.Proofs.YtpgfafpjfdbjmaaDoorW.PrintLast Go.Proofs.YtpgfafpjfdbjmaaDoorW.PrintMore
theorem DSt.load8 {w : World} {g : Nat} {x : V8} {r : ByteArray} {n : Int} (h : DSt w g x r n) : (Instr.loadAt 115 (.pointer (some ⟨g, 0, none⟩))).run Tryd.prog w = .ok (.agg x.cells) w :=
  run_loadAt_mid w g 0 115 x.cells.toList _ h.range Tryd.underlying115 rfl (by rw [size8]; rfl)
theorem load8_run (ev : Operand → Value) (x : Operand) {W : World} {g : Nat} {y : V8} {r : ByteArray} {n : Int} (h : DSt W g y r n) (hx : ev x = .pointer (some ⟨g, 0, none⟩)) {o : Oper} (ho : o.op = .load 115 x) :
    (execOp ev o).run Tryd.prog W = .ok (.value (.agg y.cells)) W := by
  unfold execOp
  simp only [ho, hx, Sem.run_bind, Result.andThen_ok, h.load8, Sem.run_pure]
theorem store8_run (ev : Operand → Value) (x y : Operand) {W : World} {g : Nat} {x0 : V8} {r : ByteArray} {n : Int} (h : DSt W g x0 r n) (z : V8) (hx : ev x = .pointer (some ⟨g, 0, none⟩)) (hy : ev y = .agg z.cells) {o : Oper} (ho : o.op = .store 115 x y) :
    (execOp ev o).run Tryd.prog W = .ok .skip (W.setCells g 0 z.cells.toList) := by
  unfold execOp
  simp only [ho, hx, hy, Sem.run_bind, Result.andThen_ok, run_storeAt_mid W g 0 115 z.cells h.there (by rw [size8]; rfl) (arr_one .u32 z.l), Sem.run_pure]
set_option maxRecDepth 100000 in
set_option maxHeartbeats 1000000 in
theorem dadd_calls (g : Nat) (x : V8) (r s : ByteArray) (n : Nat) (w : World) (h : DSt w g x r n) (hr : r.size ≤ 64) (hs : s.size ≤ 140737488355328) (hn : n ≤ 140737488355328) :
    Calls Tryd.prog 49 #[.pointer (some ⟨g, 0, none⟩), .string s] w fun e w' => e = .returned (.int .i64 (n + s.size : Nat)) ∧ DSt w' g (fd x (r ++ s) ((r ++ s).size / 64)) ((r ++ s).extract (64 * ((r ++ s).size / 64)) (r ++ s).size) (n + s.size : Nat) ∧ Bf w.heap.size g w w' := by
  have HD : Aside0 (DSt ((w.setCell ⟨g, 9, none⟩ (.int .i64 ((n + s.size : Nat) : Int))).setCell ⟨g, 8, none⟩ (.string (r ++ s))) g x (r ++ s) ((n + s.size : Nat) : Int)) := ⟨(h.set9 _).set8 _⟩
  have HF : Aside0 (Bf w.heap.size g w ((w.setCell ⟨g, 9, none⟩ (.int .i64 ((n + s.size : Nat) : Int))).setCell ⟨g, 8, none⟩ (.string (r ++ s)))) := ⟨((Bf.refl _ _ _).setCell _ _).setCell _ _⟩
  have HG := Aside0.mk h.lt
  have c8 := h.c8
  have c9 := h.c9
  have f8 := h.free 8
  have f9 := h.free 9
  have hw9 : IntKind.i64.wrap ((n : Int) + (s.size : Int)) = (n : Int) + (s.size : Int) := IntWalk.i64_in _ (by omega)
  have hsz : r.size + s.size ≤ 9223372036854775807 := by omega
  clear h
  go_enter Tryd.func49, Tryd.ntmps49
  go_wp2_with fail
  rw [show (n : Int) + (s.size : Int) = ((n + s.size : Nat) : Int) by omega]
  clear c8 c9 f8 f9 hw9 hsz
  have hT : (r ++ s).size ≤ 140737488355400 := by rw [ByteArray.size_append]; omega
  generalize (w.setCell ⟨g, 9, none⟩ (.int .i64 ((n + s.size : Nat) : Int))).setCell ⟨g, 8, none⟩ (.string (r ++ s)) = w1 at *
  generalize hN : ((n + s.size : Nat) : Int) = N at *
  generalize ht : r ++ s = t at *
  have HN := Lib.hid hN
  have Ht := Lib.hid ht
  clear hN ht
  go_loopg [] (t.size / 64) (fun m wr => ∃ k : Nat, k + m = t.size / 64 ∧ Aside0 (DSt wr g (fd x t k) (t.extract (64 * k) t.size) N) ∧ Aside0 (Bf w.heap.size g w wr))
  case atStart => exact ⟨0, by omega, ⟨by rw [Nat.mul_zero, ByteArray.extract_zero_size]; exact HD.out⟩, HF⟩
  case round =>
    clear HD HF
    obtain ⟨k, hk, HD, HF⟩ := hrel
    have hq : (t.extract (64 * k) t.size).size = t.size - 64 * k := by rw [ByteArray.size_extract]; omega
    have hx1 : Hid (64 * k + 64 ≤ t.size → bv (fd x t k) ((t.extract (64 * k) t.size).extract 0 64) = fd x t (k + 1)) := Lib.hid (by intro h; rw [fd, ByteArray.extract_extract]; congr 2; omega)
    have hq1 : Hid ((t.extract (64 * k) t.size).extract 64 (t.extract (64 * k) t.size).size = t.extract (64 * (k + 1)) t.size) := Lib.hid (by rw [hq, ByteArray.extract_extract]; congr 1 <;> omega)
    have c8 := HD.out.c8
    have c9 := HD.out.c9
    have HR : Hid (t.extract (64 * k) t.size = t.extract (64 * (t.size / 64)) t.size ∧ fd x t k = fd x t (t.size / 64) ∨ 64 ≤ (t.extract (64 * k) t.size).size) := Lib.hid (by
      rcases Nat.lt_or_ge k (t.size / 64) with h | h
      · right; omega
      · left; have : k = t.size / 64 := by omega
        rw [this]; exact ⟨rfl, rfl⟩)
    generalize fd x t k = y at *
    generalize t.extract (64 * k) t.size = q at *
    have hqm : q.size ≤ 140737488355400 := by omega
    by_cases hge : 64 ≤ q.size
    · have hlt : k + 1 ≤ t.size / 64 := by omega
      clear hq
      go_wp2_with fail
      have hq64 : (q.extract 0 64).size = 64 := by rw [ByteArray.size_extract]; omega
      refine start_ (n := 23) (S := fun w' => w'.cell? ⟨g, 8, none⟩ = some (.string q) ∧ Aside0 (DSt w' g y q N) ∧ Aside0 (Bf w.heap.size g w w')) (ds := [19, 22]) #[false, false, false, false, false, false, false, false, false, false, false, false, false, false, false, false, false, false, false, false, false, false, false] (by kernel_rfl) rfl rfl ⟨DSt.c8 (w := wr.drew) HD.out, ⟨HD.out⟩, ⟨HF.out.trans ⟨rfl, rfl, rfl, Nat.le_refl _, fun _ _ _ => rfl⟩⟩⟩ (fun hHeld => ?_)
      refine pure_ (i := 0) (N := some 30) (v := ?_) (a' := ?_) #[true, false, false, false, false, false, false, false, false, false, false, false, false, false, false, false, false, false, false, false, false, false, false] rfl rfl (by kernel_rfl) (fun _ _ _ h => h) (Or.inl ⟨by rfl, ?_⟩) ?_ ?_
      rotate_left
      · intro w'
        go_simp
        with_reducible rfl
      rotate_left
      · simp only [Act.put, List.setIfInBounds_toArray, List.set_cons_zero, List.set_cons_succ]
        rfl
      refine pure_ (i := 1) (N := some 31) (v := ?_) (a' := ?_) #[true, true, false, false, false, false, false, false, false, false, false, false, false, false, false, false, false, false, false, false, false, false, false] rfl rfl (by kernel_rfl) (fun _ _ _ h => h) (Or.inl ⟨by rfl, ?_⟩) ?_ ?_
      rotate_left
      · intro w'
        go_simp
        with_reducible rfl
      rotate_left
      · simp only [Act.put, List.setIfInBounds_toArray, List.set_cons_zero, List.set_cons_succ]
        rfl
      refine pure_ (i := 2) (N := some 32) (v := ?_) (a' := ?_) #[true, true, true, false, false, false, false, false, false, false, false, false, false, false, false, false, false, false, false, false, false, false, false] rfl rfl (by kernel_rfl) (fun _ _ _ h => h) (Or.inl ⟨by rfl, ?_⟩) ?_ ?_
      rotate_left
      · intro w'
        go_simp
        with_reducible rfl
      rotate_left
      · simp only [Act.put, List.setIfInBounds_toArray, List.set_cons_zero, List.set_cons_succ]
        rfl
      refine pure_ (i := 3) (N := some 33) (v := ?_) (a' := ?_) #[true, true, true, true, false, false, false, false, false, false, false, false, false, false, false, false, false, false, false, false, false, false, false] rfl rfl (by kernel_rfl) (fun _ _ _ h => h) (Or.inl ⟨by rfl, ?_⟩) ?_ ?_
      rotate_left
      · intro w'
        go_simp
        with_reducible rfl
      rotate_left
      · simp only [Act.put, List.setIfInBounds_toArray, List.set_cons_zero, List.set_cons_succ]
        rfl
      refine pure_ (i := 4) (N := some 34) (v := ?_) (a' := ?_) #[true, true, true, true, true, false, false, false, false, false, false, false, false, false, false, false, false, false, false, false, false, false, false] rfl rfl (by kernel_rfl) (fun _ _ _ h => h) (Or.inl ⟨by rfl, ?_⟩) ?_ ?_
      rotate_left
      · intro w'
        go_simp
        with_reducible rfl
      rotate_left
      · simp only [Act.put, List.setIfInBounds_toArray, List.set_cons_zero, List.set_cons_succ]
        rfl
      refine pure_ (i := 6) (N := some 36) (v := ?_) (a' := ?_) #[true, true, true, true, true, false, true, false, false, false, false, false, false, false, false, false, false, false, false, false, false, false, false] rfl rfl (by kernel_rfl) (fun _ _ _ h => h) (Or.inl ⟨by rfl, ?_⟩) ?_ ?_
      rotate_left
      · intro w'
        go_simp
        with_reducible rfl
      rotate_left
      · simp only [Act.put, List.setIfInBounds_toArray, List.set_cons_zero, List.set_cons_succ]
        rfl
      refine pure_ (i := 7) (N := some 37) (v := ?_) (a' := ?_) #[true, true, true, true, true, false, true, true, false, false, false, false, false, false, false, false, false, false, false, false, false, false, false] rfl rfl (by kernel_rfl) (fun _ _ _ h => h) (Or.inl ⟨by rfl, ?_⟩) ?_ ?_
      rotate_left
      · intro w'
        go_simp
        with_reducible rfl
      rotate_left
      · simp only [Act.put, List.setIfInBounds_toArray, List.set_cons_zero, List.set_cons_succ]
        rfl
      refine pure_ (i := 8) (N := some 38) (v := ?_) (a' := ?_) #[true, true, true, true, true, false, true, true, true, false, false, false, false, false, false, false, false, false, false, false, false, false, false] rfl rfl (by kernel_rfl) (fun _ _ _ h => h) (Or.inl ⟨by rfl, ?_⟩) ?_ ?_
      rotate_left
      · intro w'
        go_simp
        with_reducible rfl
      rotate_left
      · simp only [Act.put, List.setIfInBounds_toArray, List.set_cons_zero, List.set_cons_succ]
        rfl
      refine pure_ (i := 12) (N := some 42) (v := ?_) (a' := ?_) #[true, true, true, true, true, false, true, true, true, false, false, false, true, false, false, false, false, false, false, false, false, false, false] rfl rfl (by kernel_rfl) (fun _ _ _ h => h) (Or.inl ⟨by rfl, ?_⟩) ?_ ?_
      rotate_left
      · intro w'
        go_simp
        with_reducible rfl
      rotate_left
      · simp only [Act.put, List.setIfInBounds_toArray, List.set_cons_zero, List.set_cons_succ]
        rfl
      refine pure_ (i := 13) (N := some 43) (v := ?_) (a' := ?_) #[true, true, true, true, true, false, true, true, true, false, false, false, true, true, false, false, false, false, false, false, false, false, false] rfl rfl (by kernel_rfl) (fun _ _ _ h => h) (Or.inl ⟨by rfl, ?_⟩) ?_ ?_
      rotate_left
      · intro w'
        go_simp
        with_reducible rfl
      rotate_left
      · simp only [Act.put, List.setIfInBounds_toArray, List.set_cons_zero, List.set_cons_succ]
        rfl
      refine pure_ (i := 14) (N := some 44) (v := ?_) (a' := ?_) #[true, true, true, true, true, false, true, true, true, false, false, false, true, true, true, false, false, false, false, false, false, false, false] rfl rfl (by kernel_rfl) (fun _ _ _ h => h) (Or.inl ⟨by rfl, ?_⟩) ?_ ?_
      rotate_left
      · intro w'
        go_simp
        with_reducible rfl
      rotate_left
      · simp only [Act.put, List.setIfInBounds_toArray, List.set_cons_zero, List.set_cons_succ]
        rfl
      refine take_ (i := 5) (N := some 35) (v := ?_) (a' := ?_) #[true, true, true, true, true, true, true, true, true, false, false, false, true, true, true, false, false, false, false, false, false, false, false] rfl rfl (by kernel_rfl) (fun _ _ _ h => h) (Or.inl ⟨by rfl, ?_⟩) hHeld ?_ ?_
      rotate_left
      · rintro w' ⟨s0, s1, s2⟩
        refine load8_run _ (.tmp 34) s1.out ?_ ?_ <;> rfl
      rotate_left
      · simp only [Act.put, List.setIfInBounds_toArray, List.set_cons_zero, List.set_cons_succ]
        rfl
      refine take_ (i := 9) (N := some 39) (v := ?_) (a' := ?_) #[true, true, true, true, true, true, true, true, true, true, false, false, true, true, true, false, false, false, false, false, false, false, false] rfl rfl (by kernel_rfl) (fun _ _ _ h => h) (Or.inl ⟨by rfl, ?_⟩) hHeld ?_ ?_
      rotate_left
      · rintro w' ⟨s0, s1, s2⟩
        go_simp
        with_reducible rfl
      rotate_left
      · simp only [Act.put, List.setIfInBounds_toArray, List.set_cons_zero, List.set_cons_succ]
        rfl
      refine pure_ (i := 10) (N := some 40) (v := ?_) (a' := ?_) #[true, true, true, true, true, true, true, true, true, true, true, false, true, true, true, false, false, false, false, false, false, false, false] rfl rfl (by kernel_rfl) (fun _ _ _ h => h) (Or.inl ⟨by rfl, ?_⟩) ?_ ?_
      rotate_left
      · intro w'
        go_simp
        with_reducible rfl
      rotate_left
      · simp only [Act.put, List.setIfInBounds_toArray, List.set_cons_zero, List.set_cons_succ]
        rfl
      refine take_ (i := 15) (N := some 45) (v := ?_) (a' := ?_) #[true, true, true, true, true, true, true, true, true, true, true, false, true, true, true, true, false, false, false, false, false, false, false] rfl rfl (by kernel_rfl) (fun _ _ _ h => h) (Or.inl ⟨by rfl, ?_⟩) hHeld ?_ ?_
      rotate_left
      · rintro w' ⟨s0, s1, s2⟩
        go_simp
        with_reducible rfl
      rotate_left
      · simp only [Act.put, List.setIfInBounds_toArray, List.set_cons_zero, List.set_cons_succ]
        rfl
      refine pure_ (i := 16) (N := some 46) (v := ?_) (a' := ?_) #[true, true, true, true, true, true, true, true, true, true, true, false, true, true, true, true, true, false, false, false, false, false, false] rfl rfl (by kernel_rfl) (fun _ _ _ h => h) (Or.inl ⟨by rfl, ?_⟩) ?_ ?_
      rotate_left
      · intro w'
        go_simp
        with_reducible rfl
      rotate_left
      · simp only [Act.put, List.setIfInBounds_toArray, List.set_cons_zero, List.set_cons_succ]
        rfl
      refine one_ (i := 11) (N := some 41) #[true, true, true, true, true, true, true, true, true, true, true, true, true, true, true, true, true, false, false, false, false, false, false] rfl rfl (by kernel_rfl) (by decide) (fun K hK => ?_)
      refine goes_ Tryd.func73 (by kernel_rfl) rfl #[.agg y.cells, .string (q.extract 0 64)] (by rfl) rfl rfl (by simp only [List.map_toArray, List.map_cons, List.map_nil]; rfl) ?_
      with_reducible refine (block_any y _ hq64 _).mono ?_
      rintro e w3 ⟨rfl, hb⟩
      refine ⟨_, rfl, ?_⟩
      have HD3 := hHeld.2.1.out.keep hb
      have HF3 := hHeld.2.2.out.trans (Bf.of_below hb hHeld.2.2.out.size)
      refine hK.out _ _ ⟨HD3.c8, ⟨HD3⟩, ⟨HF3⟩⟩ (fun hHeld => ?_)
      clear hK K
      refine norm_ (a' := ?_) ?_ ?_
      rotate_left
      · show Act.put _ (some 41) _ = _
        simp only [Act.put, List.setIfInBounds_toArray, List.set_cons_zero, List.set_cons_succ]
        rfl
      refine pure_ (i := 17) (N := some 47) (v := ?_) (a' := ?_) #[true, true, true, true, true, true, true, true, true, true, true, true, true, true, true, true, true, true, false, false, false, false, false] rfl rfl (by kernel_rfl) (fun _ _ _ h => h) (Or.inl ⟨by rfl, ?_⟩) ?_ ?_
      rotate_left
      · intro w'
        go_simp
        with_reducible rfl
      rotate_left
      · simp only [Act.put, List.setIfInBounds_toArray, List.set_cons_zero, List.set_cons_succ]
        rfl
      refine pure_ (i := 18) (N := some 48) (v := ?_) (a' := ?_) #[true, true, true, true, true, true, true, true, true, true, true, true, true, true, true, true, true, true, true, false, false, false, false] rfl rfl (by kernel_rfl) (fun _ _ _ h => h) (Or.inl ⟨by rfl, ?_⟩) ?_ ?_
      rotate_left
      · intro w'
        go_simp
        with_reducible rfl
      rotate_left
      · simp only [Act.put, List.setIfInBounds_toArray, List.set_cons_zero, List.set_cons_succ]
        rfl
      refine last_ (i := 19) (N := none) #[true, true, true, true, true, true, true, true, true, true, true, true, true, true, true, true, true, true, true, true, false, false, false] rfl rfl (by kernel_rfl) (by decide) (fun K hK => ?_)
      refine skip_ (by rfl) rfl (store8_run _ (.tmp 48) (.tmp 41) hHeld.2.1.out (bv y (q.extract 0 64)) rfl rfl rfl) ?_
      have HD4 := hHeld.2.1.out.setAll (bv y (q.extract 0 64))
      have HF4 := hHeld.2.2.out.setCells 0 (bv y (q.extract 0 64)).cells.toList
      clear hHeld HD3 HF3 hb
      generalize w3.setCells g 0 (bv y (q.extract 0 64)).cells.toList = w4 at *
      have c84 := HD4.c8
      have f84 := HD4.free 8
      have HD5 := Aside0.mk HD4
      have HF5 := Aside0.mk HF4
      clear HD4 HF4
      refine hK.out _ _ ?_
      clear hK K
      refine pure_ (i := 20) (N := some 49) (v := ?_) (a' := ?_) #[true, true, true, true, true, true, true, true, true, true, true, true, true, true, true, true, true, true, true, true, true, false, false] rfl rfl (by kernel_rfl) (fun _ _ _ h => h) (Or.inl ⟨by rfl, ?_⟩) ?_ ?_
      rotate_left
      · intro w'
        go_simp
        with_reducible rfl
      rotate_left
      · simp only [Act.put, List.setIfInBounds_toArray, List.set_cons_zero, List.set_cons_succ]
        rfl
      refine pure_ (i := 21) (N := some 50) (v := ?_) (a' := ?_) #[true, true, true, true, true, true, true, true, true, true, true, true, true, true, true, true, true, true, true, true, true, true, false] rfl rfl (by kernel_rfl) (fun _ _ _ h => h) (Or.inl ⟨by rfl, ?_⟩) ?_ ?_
      rotate_left
      · intro w'
        go_simp
        with_reducible rfl
      rotate_left
      · simp only [Act.put, List.setIfInBounds_toArray, List.set_cons_zero, List.set_cons_succ]
        rfl
      refine last_ (i := 22) (N := none) #[true, true, true, true, true, true, true, true, true, true, true, true, true, true, true, true, true, true, true, true, true, true, true] rfl rfl (by kernel_rfl) (by decide) (fun K hK => ?_)
      refine skip_ (w1 := ?_) (by rfl) rfl ?_ ?_
      rotate_left
      · go_simp
        rfl
      refine hK.out _ _ ?_
      clear hK K
      refine done_ (by kernel_rfl) ?_

      go_wp2_with fail
      obtain ⟨m, rfl⟩ : ∃ m, gk = m + 1 := ⟨gk - 1, by omega⟩
      go_roundg m
      case measure => omega
      case rel =>
        have h1 := HD5.out.set8 (q.extract 64 q.size)
        have h2 := HF5.out.setCell 8 (.string (q.extract 64 q.size))
        have e1 := hx1.out (by omega)
        have e2 := hq1.out
        refine ⟨k + 1, by omega, ⟨?_⟩, ⟨h2⟩⟩
        rw [← e1, ← e2]
        exact h1
    · go_wp2_with fail
      go_ret
      rcases HR.out with ⟨h1, h2⟩ | h1
      · have h3 := HD.out
        rw [h1, h2, ← Ht.out, ← HN.out] at h3
        exact ⟨by rw [HN.out]; rfl, h3, HF.out⟩
      · exact absurd h1 hge
end Go.Proofs.YtpgfafpjfdbjmaaDoor
end
section
namespace Go.Proofs.YtpgfafpjfdbjmaaDoor
open Go.RowKit
section
variable {P : Program}
def RowB (B : Nat) (E : TypeId) (v : Value) (l : List UInt8) (w : World) : Prop :=
  (v = .slice none 0 0 ∧ l = []) ∨
  ∃ g cap cur fz, v = .slice (some ⟨g, 0, none⟩) l.length cap ∧ B ≤ g ∧ w.heap[g]? = some (.cells cur E fz) ∧ (∀ i, l.length ≤ i → i < cap → fz.1 ≤ i → fz.2 ≤ i) ∧ l.length ≤ cap ∧ cap ≤ maxLen ∧ cur.size = cap ∧ cur.toList.take l.length = Lib.byteCells l
theorem RowB.lt {B : Nat} {E : TypeId} {v : Value} {l : List UInt8} {w : World} (h : RowB B E v l w) : ∀ k, v.ownBlock = some k → B ≤ k ∧ k < w.heap.size := by
  intro k hk
  rcases h with ⟨rfl, _⟩ | ⟨g, cap, cur, fz, rfl, hb, hg, _⟩
  · simp [Value.ownBlock] at hk
  · simp [Value.ownBlock] at hk
    subst hk
    exact ⟨hb, (Array.getElem?_eq_some_iff.1 hg).1⟩
theorem RowB.keep {B : Nat} {E : TypeId} {v : Value} {l : List UInt8} {w w' : World} (h : RowB B E v l w) (hk : ∀ g, v.ownBlock = some g → w'.heap[g]? = w.heap[g]?) : RowB B E v l w' := by
  rcases h with h | ⟨g, cap, cur, fz, rfl, hb, hg, rest⟩
  · exact .inl h
  · exact .inr ⟨g, cap, cur, fz, rfl, hb, (hk g rfl).trans hg, rest⟩
theorem RowB.below {B : Nat} {E : TypeId} {v : Value} {l : List UInt8} {w w' : World} (h : RowB B E v l w) (hb : Below w.heap.size w w') : RowB B E v l w' :=
  h.keep (fun g hg => hb.block g (h.lt g hg).2)
theorem RowB.alloc {B : Nat} {E : TypeId} {v : Value} {l : List UInt8} {w : World} (h : RowB B E v l w) (o : Obj) : RowB B E v l (w.alloc o) :=
  h.keep (fun g hg => Lib.alloc_old w o g (h.lt g hg).2)
theorem RowB.grown {B : Nat} {E : TypeId} {v : Value} {l : List UInt8} {w w' : World} {row : Option Nat} (h : RowB B E v l w) (hg : w.grownBy w' row) (hne : ∀ g, v.ownBlock = some g → some g ≠ row) : RowB B E v l w' :=
  h.keep (fun g hk => hg.block g (h.lt g hk).2 (hne g hk))
theorem RowB.raise {B B' : Nat} {E : TypeId} {v : Value} {l : List UInt8} {w : World} (h : RowB B E v l w) (hB : B' ≤ B) : RowB B' E v l w := by
  rcases h with h | ⟨g, cap, cur, fz, rfl, hb, hg, rest⟩
  · exact .inl h
  · exact .inr ⟨g, cap, cur, fz, rfl, by omega, hg, rest⟩
theorem RowB.cells {B : Nat} {E : TypeId} {v : Value} {l : List UInt8} {w : World} (h : RowB B E v l w) {g : Nat} (hg : v.ownBlock = some g) : ∀ j x, l[j]? = some x → w.cell? ⟨g, j, none⟩ = some (.int .u8 (x.toNat : Int)) := by
  intro j x hx
  rcases h with ⟨rfl, _⟩ | ⟨g', cap, cur, fz, rfl, _, hgg, _, _, _, _, htake⟩
  · simp [Value.ownBlock] at hg
  · simp [Value.ownBlock] at hg
    subst hg
    have hu : (Lib.byteCells l)[j]? = some (.int .u8 (x.toNat : Int)) := by simp [Lib.byteCells, hx]
    rw [cell_of_row w g' j cur E fz hgg]
    rw [← htake, List.getElem?_take] at hu
    split at hu
    · simpa using hu
    · cases hu
theorem RowB.ne {B : Nat} {E : TypeId} {v : Value} {l : List UInt8} {w : World} (h : RowB B E v l w) (h0 : l ≠ []) : ∃ g cap, v = .slice (some ⟨g, 0, none⟩) l.length cap ∧ B ≤ g ∧ g < w.heap.size ∧ l.length ≤ cap ∧ cap ≤ maxLen := by
  rcases h with ⟨_, h⟩ | ⟨g, cap, cur, fz, rfl, hb, hgg, _, h1, h2, _⟩
  · exact absurd h h0
  · exact ⟨g, cap, rfl, hb, (Array.getElem?_eq_some_iff.1 hgg).1, h1, h2⟩
theorem byteCells_one (l : List UInt8) : ∀ u ∈ Lib.byteCells l, u.oneCell' = true := by
  intro u hu
  simp only [Lib.byteCells, List.mem_map] at hu
  obtain ⟨x, _, rfl⟩ := hu
  rfl
theorem RowB.bytes (w : World) (E : TypeId) (s : ByteArray) (hs : s.size ≤ maxLen) : RowB w.heap.size E (.slice (some ⟨w.heap.size, 0, none⟩) s.size (grownCap w s.size 0 E)) s.data.toList (Lib.bytesWorld w E s) := by
  have hge := grownCap_ge w s.size 0 E
  have hle := grownCap_le_maxLen w s.size 0 E hs
  have hl : s.data.toList.length = s.size := Array.length_toList
  have hc : (Lib.bytesCells w E s).size = grownCap w s.size 0 E := by
    unfold Lib.bytesCells
    rw [Array.size_append, Array.size_map, Array.size_replicate]
    have : s.data.size = s.size := rfl
    omega
  refine .inr ⟨w.heap.size, _, _, _, by rw [hl], Nat.le_refl _, Lib.bytesWorld_at_new w E s, fun i h1 h2 h3 => ?_, by rw [hl]; exact hge, hle, hc, ?_⟩
  · rw [hc] at h3; simp only at h3; omega
  · unfold Lib.bytesCells Lib.byteCells
    rw [Array.toList_append, Array.toList_map]
    rw [List.take_append_of_le_length (by simp)]
    rw [List.take_of_length_le (by simp)]
theorem RowB.bytesBelow (w : World) (E : TypeId) (s : ByteArray) : Below w.heap.size w (Lib.bytesWorld w E s) :=
  ⟨rfl, rfl, rfl, by rw [Lib.bytesWorld_size]; omega, fun i hi => Lib.bytesWorld_at_old _ _ _ _ hi⟩
theorem run_storeCells_free (g : Nat) (t : TypeId) (fz : Nat × Nat) : ∀ (vs : List Value) (o i : Nat) (cur : Array Value) (w : World), w.heap[g]? = some (.cells cur t fz) → (∀ k, o + i ≤ k → k < o + i + vs.length → fz.1 ≤ k → fz.2 ≤ k) → o + i + vs.length ≤ cur.size → (∀ v ∈ vs, v.oneCell' = true) →
    (storeCells ⟨g, o, none⟩ vs i).run P w = .ok () (w.setRow g (cur.toList.take (o + i) ++ vs ++ cur.toList.drop (o + i + vs.length)).toArray)
  | [], o, i, cur, w, hg, _, _, _ => by
    simp only [storeCells, List.append_nil, List.length_nil, Nat.add_zero, List.take_append_drop, Array.toArray_toList]
    rw [setRow_self w g cur t fz hg]
    rfl
  | v :: rest, o, i, cur, w, hg, hfz, hl, h1 => by
    have hi : o + i < cur.size := by simp at hl; omega
    have hadd : (⟨g, o, none⟩ : Addr).add i = ⟨g, o + i, none⟩ := by unfold Addr.add; split <;> simp_all
    have hcell : w.cell? ⟨g, o + i, none⟩ = some cur[o + i] := by simp [World.cell?, hg, hi]
    have hfro : w.frozen? ⟨g, o + i, none⟩ = false := by
      have := hfz (o + i) (Nat.le_refl _) (by simp)
      obtain ⟨lo, hi'⟩ := fz
      simp only [World.frozen?, hg, Bool.and_eq_false_iff, decide_eq_false_iff_not]
      simp only at this
      omega
    have hst : (store ((⟨g, o, none⟩ : Addr).add i) v).run P w = .ok () (w.setRow g (cur.setIfInBounds (o + i) v)) := by
      rw [hadd, run_store P w _ v _ (h1 v (by simp)), hcell]
      simp [hfro, setCell_eq_setRow w g (o + i) cur t fz v hg]
    have ih := run_storeCells_free g t fz rest o (i + 1) (cur.setIfInBounds (o + i) v) (w.setRow g (cur.setIfInBounds (o + i) v)) (setRow_heap w g cur _ t _ hg) (fun k hk1 hk2 => hfz k (by omega) (by simp at hk2 ⊢; omega)) (by simp at hl ⊢; omega) (fun x hx => h1 x (by simp [hx]))
    simp only [storeCells, Sem.run_bind, hst, Result.andThen_ok, ih, setRow_setRow]
    congr 3
    have e := list_seg_step cur.toList (o + i) v rest (by simp at hl ⊢; omega)
    simpa [Array.toList_setIfInBounds, Nat.add_assoc] using e
theorem run_append_rowB (w : World) (B : Nat) (t ty E : TypeId) (i : TypeInfo) (ht : P.underlying t = some (.slice E)) (hi : P.info? E = some i) (hz : i.zero = some (.int .u8 0)) (hsize : i.size = 1) (hby : i.bytes = 1)
    (v : Value) (l m : List UInt8) (hown : RowB B E v l w) (a : Addr) (c : Nat) (hnews : ∀ j x, m[j]? = some x → w.cell? (a.add j) = some (.int .u8 (x.toNat : Int)))
    (hlen : l.length + m.length ≤ 140737488355328) (hbase : B ≤ w.heap.size) :
    ∃ v' w', (Builtin.append_ #[t, t] ty #[v, .slice (some a) m.length c]).run P w = .ok v' w' ∧ RowB B E v' (l ++ m) w' ∧ w.grownBy w' v.ownBlock := by
  have hm63 : l.length + m.length ≤ maxLen := by unfold maxLen; omega
  have hnews' : ∀ j u, (Lib.byteCells m)[j]? = some u → w.cell? (a.add j) = some u := by
    intro j u hj
    simp only [Lib.byteCells, List.getElem?_map, Option.map_eq_some_iff] at hj
    obtain ⟨x, hx, rfl⟩ := hj
    exact hnews j x hx
  rcases hown with ⟨rfl, rfl⟩ | ⟨g, cap, cur, fz, rfl, hbg, hg, hfz, hnc, hcm, hcs, htake⟩
  · obtain ⟨v', w', r1, r2, r3, _⟩ := run_append_own (P := P) w B t ty E i (.int .u8 0) 1 1 ht hi hz hsize hby rfl (by decide) (.slice none 0 0) 0 [] ⟨rfl, .inl ⟨rfl, rfl⟩⟩ a m.length c (Lib.byteCells m) (by rw [Lib.byteCells_length, Nat.mul_one]) hnews' (byteCells_one m) (by simpa using hm63) (by simp at hlen; omega) hbase
    refine ⟨v', w', r1, ?_, r3⟩
    rcases r2.2 with ⟨rfl, h0⟩ | ⟨g, cap, cur, hv, hb, hg, hnc, hcm, hcs, htk⟩
    · exact .inl ⟨rfl, List.eq_nil_of_length_eq_zero (by simpa using h0)⟩
    · refine .inr ⟨g, cap, cur, (0, 0), by simpa using hv, hb, hg, fun _ _ _ _ => by omega, by simpa using hnc, hcm, by simpa using hcs, ?_⟩
      simpa using htk
  · have hsmall : l.length + m.length ≤ 9223372036854775807 := by omega
    by_cases hroom : l.length + m.length ≤ cap
    · have hf := run_firstCells_some (P := P) w 1 m.length a m.length c (Lib.byteCells m) (by rw [Lib.byteCells_length, Nat.mul_one]) hnews'
      have hst := run_storeCells_free (P := P) g E fz (Lib.byteCells m) (l.length * 1) 0 cur w hg (fun k hk1 hk2 => hfz k (by omega) (by rw [Lib.byteCells_length] at hk2; omega)) (by rw [Lib.byteCells_length]; omega) (byteCells_one m)
      simp only [Nat.add_zero, Nat.mul_one] at hst hf
      have hr : (Builtin.append_ #[t, t] ty #[.slice (some ⟨g, 0, none⟩) l.length cap, .slice (some a) m.length c]).run P w = .ok (.slice (some ⟨g, 0, none⟩) (l.length + m.length) cap) (w.setRow g (cur.toList.take l.length ++ Lib.byteCells m ++ cur.toList.drop (l.length + (Lib.byteCells m).length)).toArray) := by
        simp [Builtin.append_, run_underlying ht, sizeOf, typeInfo, hi, hsize, Builtin.lenOf, hroom, hf, Addr.add_lit, hst]
      refine ⟨_, _, hr, .inr ⟨g, cap, _, fz, by rw [List.length_append], hbg, setRow_heap w g cur _ E _ hg, fun k hk1 hk2 => hfz k (by rw [List.length_append] at hk1; omega) hk2, by rw [List.length_append]; exact hroom, hcm, ?_, ?_⟩, ⟨rfl, rfl, rfl, by simp, fun k _ hk => setRow_other w g k _ (fun e => hk (by simp [Value.ownBlock, e]))⟩⟩
      · simp only [List.size_toArray, List.length_append, List.length_take, List.length_drop, Array.length_toList, Lib.byteCells_length]
        omega
      · rw [htake, Lib.byteCells_append]
        have : (l ++ m).length = (Lib.byteCells l ++ Lib.byteCells m).length := by simp [Lib.byteCells_length]
        rw [this]
        exact List.take_left
    · have holds : ∀ j u, (Lib.byteCells l)[j]? = some u → w.cell? ((⟨g, 0, none⟩ : Addr).add j) = some u := by
        intro j u hj
        simp only [Lib.byteCells, List.getElem?_map, Option.map_eq_some_iff] at hj
        obtain ⟨x, hx, rfl⟩ := hj
        have hadd : (⟨g, 0, none⟩ : Addr).add j = ⟨g, j, none⟩ := by unfold Addr.add; split <;> simp_all
        rw [hadd]
        exact RowB.cells (B := B) (E := E) (v := .slice (some ⟨g, 0, none⟩) l.length cap) (.inr ⟨g, cap, cur, fz, rfl, hbg, hg, hfz, hnc, hcm, hcs, htake⟩) rfl j x hx
      have hr := run_append_grow (P := P) w t ty E i (.int .u8 0) ht hi hz ⟨g, 0, none⟩ l.length cap (Lib.byteCells l) (by rw [Lib.byteCells_length, hsize, Nat.mul_one]) holds a m.length c (Lib.byteCells m) (by rw [Lib.byteCells_length, hsize, Nat.mul_one]) hnews' (by omega) (by omega) (growslice_fits (by omega) (by rw [hby]; omega))
      have hge := grownCap_ge w (l.length + m.length) cap E
      have hcm2 : grownCap w (l.length + m.length) cap E ≤ maxLen := grownCap_le_maxLen w (l.length + m.length) cap E hm63
      refine ⟨_, _, hr, .inr ⟨w.heap.size, _, _, (0, 0), by rw [List.length_append], hbase, heap_alloc_new w.drew _, fun _ _ _ _ => by omega, by rw [List.length_append]; exact hge, hcm2, ?_, ?_⟩, ⟨rfl, rfl, rfl, by simp, fun k hk _ => Lib.alloc_old w.drew _ k hk⟩⟩
      · simp only [Array.size_append, List.size_toArray, size_zeroCells, Lib.byteCells_length]
        have : (Value.int IntKind.u8 0).cells.size = 1 := rfl
        rw [this]
        omega
      · simp only [Array.toList_append, List.append_assoc]
        rw [← List.append_assoc, ← Lib.byteCells_append]
        have : (l ++ m).length = (Lib.byteCells (l ++ m)).length := by rw [Lib.byteCells_length]
        rw [this]
        exact List.take_left
theorem wpList_append_rowB {ops : Array Oper} {rest : List Oper} {o : Oper} {a : Act} {w : World} {Q : Exit → Act → World → Prop} (hgd : o.guard = none) (s x : Operand) (t : TypeId)
    (ho : o.op = .call { callee := .builtin .append, args := #[s, x], argTypes := #[t, t] })
    (B : Nat) (E : TypeId) (i : TypeInfo) (ht : P.underlying t = some (.slice E)) (hi : P.info? E = some i) (hz : i.zero = some (.int .u8 0)) (hsize : i.size = 1) (hby : i.bytes = 1)
    (v : Value) (l m : List UInt8) (hs : a.eval s = v) (hown : RowB B E v l w) (ad : Addr) (c : Nat) (hx : a.eval x = .slice (some ad) m.length c) (hnews : ∀ j x, m[j]? = some x → w.cell? (ad.add j) = some (.int .u8 (x.toNat : Int)))
    (hlen : l.length + m.length ≤ 140737488355328) (hbase : B ≤ w.heap.size)
    (h : ∀ v' w', RowB B E v' (l ++ m) w' → w.grownBy w' v.ownBlock → wpList P ops Q rest (a.put o.dst v') w') : wpList P ops Q (o :: rest) a w := by
  refine wpList_plain hgd fun K hK => ?_
  obtain ⟨v', w', hr, h2, h3⟩ := run_append_rowB (P := P) w B t o.type E i ht hi hz hsize hby v l m hown ad c hnews hlen hbase
  unfold Oper.wp execOp
  simp only [ho, resolve, invoke, builtin, Sem.run_bind, Sem.run_pure, Result.andThen_ok, List.map_toArray, List.map_cons, List.map_nil, hs, hx, hr]
  exact hK _ _ (h v' w' h2 h3)
theorem run_string_bytes (w : World) (src dst E : TypeId) (hs : P.underlying src = some (.slice E)) (he : P.underlying E = some (.int .u8)) (hd : P.underlying dst = some .string) (g off cap : Nat) (l : List UInt8)
    (hc : ∀ j x, l[j]? = some x → w.cell? ⟨g, off + j, none⟩ = some (.int .u8 (x.toNat : Int))) :
    (convert src dst (.slice (some ⟨g, off, none⟩) l.length cap)).run P w = .ok (.string ⟨l.toArray⟩) w := by
  rw [run_convert_bytes_arg (P := P) w src E hs he g off l.length cap (l.map fun x => (x.toNat : Int)) (by simp) (fun i hi => by
    rw [hc i l[i] (List.getElem?_eq_getElem hi)]
    simp [List.getD_eq_getElem?_getD, List.getElem?_map, List.getElem?_eq_getElem hi]) dst hd]
  congr 3
  unfold strOfNums
  rw [List.map_map]
  exact congrArg (fun z : List UInt8 => (⟨z.toArray⟩ : ByteArray)) ((List.map_congr_left (fun x _ => by simp)).trans (List.map_id l))
end
end Go.Proofs.YtpgfafpjfdbjmaaDoor
end
section
namespace Go.Proofs.YtpgfafpjfdbjmaaDoor
open Go.RowKit
set_option maxHeartbeats 2000000 in
set_option maxRecDepth 100000 in
theorem bWrite (B b : Nat) (l m : List UInt8) (ad : Addr) (cp : Nat) (w : World) (h : Bd B b l w) (hm : ∀ (j : Nat) (x : UInt8), m[j]? = some x → w.cell? (ad.add j) = some (.int .u8 (x.toNat : Int))) (had : ad.block ≠ b) (hm0 : m ≠ []) (hlen : l.length + m.length ≤ 140737488355328) (hB : B ≤ w.heap.size) :
    Calls Tryd.prog 74 #[.pointer (some ⟨b, 0, none⟩), .slice (some ad) m.length cp] w fun e w' => e = .returned (.tuple #[.int .i64 m.length, .nilIface]) ∧ Bd B b (l ++ m) w' ∧ Bf B b w w' := by
  obtain ⟨i0, hi, hz0, hz1, hz2⟩ := info8
  have HH := Lib.hid h
  have HL := Lib.hid hlen
  have HB := Lib.hid hB
  have HM := Lib.hid hm
  have H0 := Lib.hid hm0
  have HD := Lib.hid had
  clear h hlen hB hm hm0 had
  go_enter Tryd.func74, Tryd.ntmps74
  go_wp2_with (go_at_call 80; refine (bcc B b l _ HH.out).mono ?_)
  rintro e w1 ⟨rfl, ⟨v, hA⟩, hcf⟩
  obtain ⟨T, hT, hbk, hown, hne, h00⟩ := hA
  have HA : Hid (BdAt B b (.pointer (some ⟨b, 0, none⟩)) v l w1) := Lib.hid ⟨T, hT, hbk, hown, hne, h00⟩
  have HCF := Lib.hid hcf
  clear hcf h00
  have c0 : w1.cell? ⟨b, 0, none⟩ = some (.pointer (some ⟨b, 0, none⟩)) := by rw [Lib.cell_of_heap hbk]; rfl
  have c1 : w1.cell? ⟨b, 1, none⟩ = some v := by rw [Lib.cell_of_heap hbk]; rfl
  go_wp2_with (at_builtin; refine wpList_append_ownF _ rfl _ _ 59 rfl B 5 i0 (.int .u8 0) 1 1 (by kernel_rfl) hi hz0 hz1 hz2 rfl (by decide) _ _ _ rfl hown ad m.length cp (Lib.byteCells m) rfl (by rw [Lib.byteCells_length, Nat.mul_one]) ?c1 ?c2 ?c3 ?c4 ?c5 ?_)
  case c1 =>
    intro j u hj
    have hcell : ∃ x, m[j]? = some x ∧ u = .int .u8 (x.toNat : Int) := by
      simp only [Lib.byteCells, List.getElem?_map, Option.map_eq_some_iff] at hj
      obtain ⟨x, hx, rfl⟩ := hj
      exact ⟨x, hx, rfl⟩
    obtain ⟨x, hx, rfl⟩ := hcell
    have h1 := HM.out j x hx
    have hb : (ad.add j).block = ad.block := by unfold Addr.add; split <;> rfl
    exact (World.cell?_of_block (HCF.out.block _ (by rw [hb]; exact HD.out))).trans h1
  case c2 => intro u hu; simp only [Lib.byteCells, List.mem_map] at hu; obtain ⟨x, _, rfl⟩ := hu; rfl
  case c3 => have := HL.out; unfold maxLen; omega
  case c4 => have := HL.out; omega
  case c5 => have := HB.out; have := HCF.out.size; omega
  intro v' w2 hown' hgrow hv'
  have hlt : b < w1.heap.size := (Array.getElem?_eq_some_iff.1 hbk).1
  have hb2 : w2.heap[b]? = some (.cells #[.pointer (some ⟨b, 0, none⟩), v] T (0, 0)) := by
    rw [hgrow.block b (by omega) (fun e => hne e.symm)]
    exact hbk
  have d0 : w2.cell? ⟨b, 0, none⟩ = some (.pointer (some ⟨b, 0, none⟩)) := by rw [Lib.cell_of_heap hb2]; rfl
  have d1 : w2.cell? ⟨b, 1, none⟩ = some v := by rw [Lib.cell_of_heap hb2]; rfl
  have f1 : w2.frozen? ⟨b, 1, none⟩ = false := Lib.frozen_of_heap hb2 1
  have hm1 : m.length ≠ 0 := by have := H0.out; simpa using this
  have HP : Hid (BdAt B b (.pointer (some ⟨b, 0, none⟩)) v' (l ++ m) (w2.setCell ⟨b, 1, none⟩ v')) := Lib.hid (BdAt.put hT hb2 (by rw [List.length_append, Lib.byteCells_append]; exact hown') (by intro e; exact absurd (List.append_eq_nil_iff.1 e).2 H0.out))
  have HQ : Hid (Bf B b w (w2.setCell ⟨b, 1, none⟩ v')) := Lib.hid (Bf.write (l := l) HCF.out HB.out (Below.refl _ _) hown hgrow)
  obtain ⟨g, cap, rfl⟩ : ∃ g cap, v' = .slice (some ⟨g, 0, none⟩) (l.length + m.length) cap := by
    rcases hown'.2 with ⟨_, h0⟩ | ⟨g, cap, cur, fz, hv, _⟩
    · omega
    · exact ⟨g, cap, hv⟩
  clear hv' hgrow hown' hown hbk hb2 hm1
  go_wp2
  go_ret2
  exact ⟨rfl, ⟨_, _, .inr rfl, HP.out⟩, HQ.out⟩
end Go.Proofs.YtpgfafpjfdbjmaaDoor
end
section
namespace Go.Proofs.YtpgfafpjfdbjmaaDoor
def B (l : List UInt8) : ByteArray := ⟨l.toArray⟩
theorem B_data (l : List UInt8) : (B l).data.toList = l := rfl
theorem B_eta (s : ByteArray) : B s.data.toList = s := by cases s; simp [B]
theorem B_size (l : List UInt8) : (B l).size = l.length := by simp [B, ByteArray.size]
theorem B_toList (l : List UInt8) : (B l).toList = l := by rw [ByteArray.toList_eq]; rfl
theorem eq_of_data {s t : ByteArray} (h : s.data.toList = t.data.toList) : s = t := by rw [← B_eta s, h, B_eta]
theorem size_data (s : ByteArray) : s.data.toList.length = s.size := Array.length_toList
theorem B_append (a b : List UInt8) : B a ++ B b = B (a ++ b) := by
  apply eq_of_data
  rw [B_data]
  show (ByteArray.append (B a) (B b)).data.toList = _
  simp [B]
theorem B_extract (l : List UInt8) (a b : Nat) : (B l).extract a b = B ((l.drop a).take (b - a)) := by
  apply eq_of_data
  rw [Lib.extract_data, B_data, B_data]
theorem exB (s : ByteArray) : ∃ l, s = B l := ⟨s.data.toList, (B_eta s).symm⟩
end Go.Proofs.YtpgfafpjfdbjmaaDoor
end
