/- Functions of the translation told as plain Lean functions, and that the calls come to just these. Written by a program of this session, which drives print.py; not a text of print.sh. -/
import Derived.Test.YteccjhiafnnnlaaQx0
namespace Go.Proofs.Yteccjhiafnnnlaa.Q
open Go.RowKit Go.Proofs.YteccjhiafnnnlaaW.PrintWords Go.Proofs.YteccjhiafnnnlaaW.PrintLast Go.Proofs.YteccjhiafnnnlaaW.PrintMore
attribute [local go_sem] max2_int min2_int max_two min_two max_three min_three max_four min_four   -- for this text's walks alone
set_option linter.unusedVariables false
set_option linter.unusedSimpArgs false

-- NOT PRINTED: function 10 (field_New)

-- NOT PRINTED: function 18 (field_Table_Power)

-- NOT PRINTED: function 11 (field_Table_Over)

/-! ### sluicegateref01_Times: function 14 -/
mutual
def sluicegateref01_Times.l0 : Nat → Int → Int → Int → Int → Option (Int)
  | 0, _, _, _, _ => none
  | k + 1, x0, x1, x5, x6 => if x6 < 8 then (if 0 ≤ (IntKind.u64.wrap (x6)) then (if (Int.tmod (shr .i64 (wrap64 (x1)) (IntKind.u64.wrap (x6))) 2) = 1 then (sluicegateref01_Times.l0 k x0 x1 (Go.bits .xor .i64 x5 (shl .i64 (wrap64 (x0)) (IntKind.u64.wrap (x6)))) (wrap64 (x6 + 1))) else (sluicegateref01_Times.l0 k x0 x1 x5 (wrap64 (x6 + 1)))) else (none)) else (sluicegateref01_Times.l1 k x5 14)
def sluicegateref01_Times.l1 : Nat → Int → Int → Option (Int)
  | 0, _, _ => none
  | k + 1, x5, x7 => if x7 ≥ 8 then (if 0 ≤ (IntKind.u64.wrap (x7)) then (if (Int.tmod (shr .i64 x5 (IntKind.u64.wrap (x7))) 2) = 1 then (if 0 ≤ (IntKind.u64.wrap (wrap64 (x7 - 8))) then (sluicegateref01_Times.l1 k (Go.bits .xor .i64 x5 (shl .i64 285 (IntKind.u64.wrap (wrap64 (x7 - 8))))) (wrap64 (x7 - 1))) else (none)) else (sluicegateref01_Times.l1 k x5 (wrap64 (x7 - 1)))) else (none)) else (some ((x5) % 256))
end
def sluicegateref01_Times.f (k : Nat) (a0 : Int) (a1 : Int) : Option (Int) := sluicegateref01_Times.l0 k a0 a1 0 0
theorem sluicegateref01_Times.mono_l : ∀ k, (∀ y0 y1 y2 y3, LeO (sluicegateref01_Times.l0 k y0 y1 y2 y3) (sluicegateref01_Times.l0 (k + 1) y0 y1 y2 y3)) ∧ (∀ y0 y1, LeO (sluicegateref01_Times.l1 k y0 y1) (sluicegateref01_Times.l1 (k + 1) y0 y1))
  | 0 => ⟨fun _ _ _ _ r h => by simp [sluicegateref01_Times.l0] at h, fun _ _ r h => by simp [sluicegateref01_Times.l1] at h⟩
  | k + 1 => by
    obtain ⟨ih0, ih1⟩ := sluicegateref01_Times.mono_l k
    refine ⟨?_, ?_⟩
    · intro y0 y1 y2 y3
      unfold sluicegateref01_Times.l0
      repeat' first
      | (with_reducible exact ih0 _ _ _ _)
      | (with_reducible exact ih1 _ _)
      | (with_reducible exact LeO.refl _)
      | (with_reducible exact LeO.none _)
      | (with_reducible refine LeO.ite ?_ ?_)
      | (with_reducible refine LeO.bind ?_ (fun _ => ?_))
      | exact ih0 _ _ _ _
      | exact ih1 _ _
      | exact LeO.none _
      | refine LeO.ite ?_ ?_
      | refine LeO.bind ?_ (fun _ => ?_)
    · intro y0 y1
      unfold sluicegateref01_Times.l1
      repeat' first
      | (with_reducible exact ih0 _ _ _ _)
      | (with_reducible exact ih1 _ _)
      | (with_reducible exact LeO.refl _)
      | (with_reducible exact LeO.none _)
      | (with_reducible refine LeO.ite ?_ ?_)
      | (with_reducible refine LeO.bind ?_ (fun _ => ?_))
      | exact ih0 _ _ _ _
      | exact ih1 _ _
      | exact LeO.none _
      | refine LeO.ite ?_ ?_
      | refine LeO.bind ?_ (fun _ => ?_)
theorem sluicegateref01_Times.mono : ∀ a0 a1 k, LeO (sluicegateref01_Times.f k a0 a1) (sluicegateref01_Times.f (k + 1) a0 a1) := by
  intro a0 a1 k
  obtain ⟨ih0, ih1⟩ := sluicegateref01_Times.mono_l k
  unfold sluicegateref01_Times.f
  repeat' first
      | (with_reducible exact ih0 _ _ _ _)
      | (with_reducible exact ih1 _ _)
      | (with_reducible exact LeO.refl _)
      | (with_reducible exact LeO.none _)
      | (with_reducible refine LeO.ite ?_ ?_)
      | (with_reducible refine LeO.bind ?_ (fun _ => ?_))
      | exact ih0 _ _ _ _
      | exact ih1 _ _
      | exact LeO.none _
      | refine LeO.ite ?_ ?_
      | refine LeO.bind ?_ (fun _ => ?_)
set_option maxHeartbeats 8000000 in
set_option maxRecDepth 100000 in
theorem sluicegateref01_Times.calls (k : Nat) (a0 : Int) (a1 : Int) (r : Int) (w : World) (h : sluicegateref01_Times.f k a0 a1 = some r) :
    Calls Try.prog 14 #[.int .u8 a0, .int .u8 a1] w fun e w' => e = .returned (.int .u8 r) ∧ Drawn0 w w' := by
  have H : (sluicegateref01_Times.l0 k a0 a1 0 0) = some r := h
  clear h
  have H' := Aside0.mk H
  clear H
  go_enter Try.func14, Try.ntmps14
  go_wp2
  go_loopg [5, 6] k (fun kq v5 v6 w' => ∃ (x5_1 : Int) (x6_1 : Int), v5 = .int .i64 x5_1 ∧ v6 = .int .i64 x6_1 ∧ Aside0 (sluicegateref01_Times.l0 kq a0 a1 x5_1 x6_1 = some r) ∧ Aside0 (kq ≤ k) ∧ Drawn0 w w')
  case atStart => exact ⟨(0), (0), (by first | rfl | (simp; done) | (simp [*]; done)), (by first | rfl | (simp; done) | (simp [*]; done)), H', ⟨Nat.le_refl _⟩, by repeat (first | exact Drawn0.refl _ | apply Drawn0.step)⟩
  case round =>
    clear H'
    try clear c1
    try clear p2
    obtain ⟨x5_1, x6_1, rfl, rfl, HA, HK1, ⟨m1, rfl⟩⟩ := hrel
    cases gk with
    | zero => exact absurd HA.out (by simp [sluicegateref01_Times.l0])
    | succ k1 =>
      have H := HA.out
      clear HA
      simp only [sluicegateref01_Times.l0] at H
      by_cases c3 : x6_1 < 8
      · rw [if_pos c3] at H
        have c3b0 : decide (x6_1 < 8) = true := decide_eq_true c3
        clear c3
        obtain ⟨ji4, hji4⟩ : ∃ j_ : Int, (IntKind.u64.wrap (x6_1)) = j_ := ⟨_, rfl⟩
        replace H : (if 0 ≤ (ji4) then (if (Int.tmod (shr .i64 (wrap64 (a1)) (ji4)) 2) = 1 then (sluicegateref01_Times.l0 k1 a0 a1 (Go.bits .xor .i64 x5_1 (shl .i64 (wrap64 (a0)) (ji4))) (wrap64 (x6_1 + 1))) else (sluicegateref01_Times.l0 k1 a0 a1 x5_1 (wrap64 (x6_1 + 1)))) else (none)) = some r := by first | (rw [hji4] at H; exact H) | (simp only [hji4] at H ⊢; exact H)
        by_cases c5 : 0 ≤ (ji4)
        · rw [if_pos c5] at H
          have c5b0 := eq_true c5
          have c5b1 : decide (0 ≤ (ji4)) = true := decide_eq_true c5
          clear c5
          obtain ⟨ji6, hji6⟩ : ∃ j_ : Int, (shr .i64 (wrap64 (a1)) (ji4)) = j_ := ⟨_, rfl⟩
          replace H : (if (Int.tmod (ji6) 2) = 1 then (sluicegateref01_Times.l0 k1 a0 a1 (Go.bits .xor .i64 x5_1 (shl .i64 (wrap64 (a0)) (ji4))) (wrap64 (x6_1 + 1))) else (sluicegateref01_Times.l0 k1 a0 a1 x5_1 (wrap64 (x6_1 + 1)))) = some r := by first | (rw [hji6] at H; exact H) | (simp only [hji6] at H ⊢; exact H)
          have hji6_ : ((wrap64 (a1)) / 2 ^ min (ji4).toNat 64) = ji6 := hji6
          have hji6z : (ji4) ≤ 64 → ((wrap64 (a1)) / 2 ^ (ji4).toNat) = ji6 := shr_small hji6
          by_cases c7 : (Int.tmod (ji6) 2) = 1
          · rw [if_pos c7] at H
            have c7b0 : ((Int.tmod (ji6) 2) == 1) = true := beq_iff_eq.mpr c7
            have c7b1 : ((Int.tmod (ji6) 2) != 1) = false := bne_eq_false_iff_eq.mpr c7
            clear c7
            have c8b0 := eq_true (of_decide_eq_true (by first | (with_reducible assumption) | assumption) : 0 ≤ (ji4))
            obtain ⟨ji9, hji9⟩ : ∃ j_ : Int, (shl .i64 (wrap64 (a0)) (ji4)) = j_ := ⟨_, rfl⟩
            replace H : (sluicegateref01_Times.l0 k1 a0 a1 (Go.bits .xor .i64 x5_1 (ji9)) (wrap64 (x6_1 + 1))) = some r := by first | (rw [hji9] at H; exact H) | (simp only [hji9] at H ⊢; exact H)
            have hji9_ : (IntKind.i64.wrap ((wrap64 (a0)) * 2 ^ min (ji4).toNat 64)) = ji9 := hji9
            have hji9z : (ji4) ≤ 64 → (IntKind.i64.wrap ((wrap64 (a0)) * 2 ^ (ji4).toNat)) = ji9 := shl_small hji9
            have hji9y : (wrap64 ((wrap64 (a0)) * 2 ^ min (ji4).toNat 64)) = ji9 := (i64_w _).symm.trans hji9_
            have hji9x : (ji4) ≤ 64 → (wrap64 ((wrap64 (a0)) * 2 ^ (ji4).toNat)) = ji9 := fun h_ => (i64_w _).symm.trans (hji9z h_)
            have H' := Aside0.mk H
            clear H
            go_wp2
            go_roundg k1
            case measure => have := HK1.out; omega
            case rel => exact ⟨(Go.bits .xor .i64 x5_1 (ji9)), (wrap64 (x6_1 + 1)), (by first | rfl | (simp; done) | (simp only [← hji9] <;> (first | rfl | simp)) | (simp [*]; done)), (by first | rfl | (simp; done) | (simp [*]; done)), H', ⟨by have := HK1.out; omega⟩, by repeat (first | exact Drawn0.refl _ | apply Drawn0.step)⟩
          · rw [if_neg c7] at H
            have c7b0 : ((Int.tmod (ji6) 2) == 1) = false := beq_eq_false_iff_ne.mpr c7
            have c7b1 : ((Int.tmod (ji6) 2) != 1) = true := bne_iff_ne.mpr c7
            have H' := Aside0.mk H
            clear H
            go_wp2
            go_roundg k1
            case measure => have := HK1.out; omega
            case rel => exact ⟨(x5_1), (wrap64 (x6_1 + 1)), (by first | rfl | (simp; done) | (simp [*]; done)), (by first | rfl | (simp; done) | (simp [*]; done)), H', ⟨by have := HK1.out; omega⟩, by repeat (first | exact Drawn0.refl _ | apply Drawn0.step)⟩
        · rw [if_neg c5] at H
          exact absurd H (by simp)
      · rw [if_neg c3] at H
        have c3b0 : decide (x6_1 < 8) = false := decide_eq_false c3
        clear c3
        have H' := Aside0.mk H
        clear H
        go_wp2
        go_loopg [5, 7] k1 (fun kq v5 v7 w' => ∃ (x5_2 : Int) (x7_2 : Int), v5 = .int .i64 x5_2 ∧ v7 = .int .i64 x7_2 ∧ Aside0 (sluicegateref01_Times.l1 kq x5_2 x7_2 = some r) ∧ Aside0 (kq ≤ k1) ∧ Drawn0 w w')
        case atStart => exact ⟨(x5_1), (14), (by first | rfl | (simp; done) | (simp [*]; done)), (by first | rfl | (simp; done) | (simp [*]; done)), H', ⟨Nat.le_refl _⟩, by repeat (first | exact Drawn0.refl _ | apply Drawn0.step)⟩
        case round =>
          clear H'
          try clear c1
          try clear p2
          try clear c3
          try clear c3b0
          try clear c5
          try clear c5b0
          try clear c5b1
          try clear p6
          try clear c7
          try clear c7b0
          try clear c7b1
          try clear c8
          try clear c8b0
          try clear p2
          obtain ⟨x5_2, x7_2, rfl, rfl, HA, HK2, ⟨m2, rfl⟩⟩ := hrel
          cases gk with
          | zero => exact absurd HA.out (by simp [sluicegateref01_Times.l1])
          | succ k2 =>
            have H := HA.out
            clear HA
            simp only [sluicegateref01_Times.l1] at H
            by_cases c10 : x7_2 ≥ 8
            · rw [if_pos c10] at H
              have c10b0 : decide (8 ≤ x7_2) = true := decide_eq_true c10
              clear c10
              obtain ⟨ji11, hji11⟩ : ∃ j_ : Int, (IntKind.u64.wrap (x7_2)) = j_ := ⟨_, rfl⟩
              replace H : (if 0 ≤ (ji11) then (if (Int.tmod (shr .i64 x5_2 (ji11)) 2) = 1 then (if 0 ≤ (IntKind.u64.wrap (wrap64 (x7_2 - 8))) then (sluicegateref01_Times.l1 k2 (Go.bits .xor .i64 x5_2 (shl .i64 285 (IntKind.u64.wrap (wrap64 (x7_2 - 8))))) (wrap64 (x7_2 - 1))) else (none)) else (sluicegateref01_Times.l1 k2 x5_2 (wrap64 (x7_2 - 1)))) else (none)) = some r := by first | (rw [hji11] at H; exact H) | (simp only [hji11] at H ⊢; exact H)
              by_cases c12 : 0 ≤ (ji11)
              · rw [if_pos c12] at H
                have c12b0 := eq_true c12
                have c12b1 : decide (0 ≤ (ji11)) = true := decide_eq_true c12
                clear c12
                obtain ⟨ji13, hji13⟩ : ∃ j_ : Int, (shr .i64 x5_2 (ji11)) = j_ := ⟨_, rfl⟩
                replace H : (if (Int.tmod (ji13) 2) = 1 then (if 0 ≤ (IntKind.u64.wrap (wrap64 (x7_2 - 8))) then (sluicegateref01_Times.l1 k2 (Go.bits .xor .i64 x5_2 (shl .i64 285 (IntKind.u64.wrap (wrap64 (x7_2 - 8))))) (wrap64 (x7_2 - 1))) else (none)) else (sluicegateref01_Times.l1 k2 x5_2 (wrap64 (x7_2 - 1)))) = some r := by first | (rw [hji13] at H; exact H) | (simp only [hji13] at H ⊢; exact H)
                have hji13_ : (x5_2 / 2 ^ min (ji11).toNat 64) = ji13 := hji13
                have hji13z : (ji11) ≤ 64 → (x5_2 / 2 ^ (ji11).toNat) = ji13 := shr_small hji13
                by_cases c14 : (Int.tmod (ji13) 2) = 1
                · rw [if_pos c14] at H
                  have c14b0 : ((Int.tmod (ji13) 2) == 1) = true := beq_iff_eq.mpr c14
                  have c14b1 : ((Int.tmod (ji13) 2) != 1) = false := bne_eq_false_iff_eq.mpr c14
                  clear c14
                  obtain ⟨ji15, hji15⟩ : ∃ j_ : Int, (IntKind.u64.wrap (wrap64 (x7_2 - 8))) = j_ := ⟨_, rfl⟩
                  replace H : (if 0 ≤ (ji15) then (sluicegateref01_Times.l1 k2 (Go.bits .xor .i64 x5_2 (shl .i64 285 (ji15))) (wrap64 (x7_2 - 1))) else (none)) = some r := by first | (rw [hji15] at H; exact H) | (simp only [hji15] at H ⊢; exact H)
                  by_cases c16 : 0 ≤ (ji15)
                  · rw [if_pos c16] at H
                    have c16b0 := eq_true c16
                    have c16b1 : decide (0 ≤ (ji15)) = true := decide_eq_true c16
                    clear c16
                    obtain ⟨ji17, hji17⟩ : ∃ j_ : Int, (shl .i64 285 (ji15)) = j_ := ⟨_, rfl⟩
                    replace H : (sluicegateref01_Times.l1 k2 (Go.bits .xor .i64 x5_2 (ji17)) (wrap64 (x7_2 - 1))) = some r := by first | (rw [hji17] at H; exact H) | (simp only [hji17] at H ⊢; exact H)
                    have hji17_ : (IntKind.i64.wrap (285 * 2 ^ min (ji15).toNat 64)) = ji17 := hji17
                    have hji17z : (ji15) ≤ 64 → (IntKind.i64.wrap (285 * 2 ^ (ji15).toNat)) = ji17 := shl_small hji17
                    have hji17y : (wrap64 (285 * 2 ^ min (ji15).toNat 64)) = ji17 := (i64_w _).symm.trans hji17_
                    have hji17x : (ji15) ≤ 64 → (wrap64 (285 * 2 ^ (ji15).toNat)) = ji17 := fun h_ => (i64_w _).symm.trans (hji17z h_)
                    have H' := Aside0.mk H
                    clear H
                    go_wp2
                    go_roundg k2
                    case measure => have := HK1.out; have := HK2.out; omega
                    case rel => exact ⟨(Go.bits .xor .i64 x5_2 (ji17)), (wrap64 (x7_2 - 1)), (by first | rfl | (simp; done) | (simp only [← hji17] <;> (first | rfl | simp)) | (simp [*]; done)), (by first | rfl | (simp; done) | (simp [*]; done)), H', ⟨by have := HK1.out; have := HK2.out; omega⟩, by repeat (first | exact Drawn0.refl _ | apply Drawn0.step)⟩
                  · rw [if_neg c16] at H
                    exact absurd H (by simp)
                · rw [if_neg c14] at H
                  have c14b0 : ((Int.tmod (ji13) 2) == 1) = false := beq_eq_false_iff_ne.mpr c14
                  have c14b1 : ((Int.tmod (ji13) 2) != 1) = true := bne_iff_ne.mpr c14
                  have H' := Aside0.mk H
                  clear H
                  go_wp2
                  go_roundg k2
                  case measure => have := HK1.out; have := HK2.out; omega
                  case rel => exact ⟨(x5_2), (wrap64 (x7_2 - 1)), (by first | rfl | (simp; done) | (simp [*]; done)), (by first | rfl | (simp; done) | (simp [*]; done)), H', ⟨by have := HK1.out; have := HK2.out; omega⟩, by repeat (first | exact Drawn0.refl _ | apply Drawn0.step)⟩
              · rw [if_neg c12] at H
                exact absurd H (by simp)
            · rw [if_neg c10] at H
              have c10b0 : decide (8 ≤ x7_2) = false := decide_eq_false c10
              clear c10
              obtain rfl := Option.some.inj H
              go_wp2
              go_ret
              exact ⟨by first | rfl | (simp; done) | (simp [*]; done), by repeat (first | exact Drawn0.refl _ | apply Drawn0.step)⟩

/-! ### sluicegateref01_Over: function 12 -/
def sluicegateref01_Over.l0 : Nat → Int → Int → Int → Option (Int × Int)
  | 0, _, _, _ => none
  | k + 1, x0, x1, x6 => if x6 < 256 then ((sluicegateref01_Times.f k ((x6) % 256) x1).bind fun t101 => (if t101 = x0 then (some ((x6) % 256, 0)) else (sluicegateref01_Over.l0 k x0 x1 (wrap64 (x6 + 1))))) else (some (0, 1))
def sluicegateref01_Over.f (k : Nat) (a0 : Int) (a1 : Int) : Option (Int × Int) := if a1 = 0 then (some (0, 1)) else (sluicegateref01_Over.l0 k a0 a1 0)
theorem sluicegateref01_Over.mono_l : ∀ k, (∀ y0 y1 y2, LeO (sluicegateref01_Over.l0 k y0 y1 y2) (sluicegateref01_Over.l0 (k + 1) y0 y1 y2))
  | 0 => fun _ _ _ r h => by simp [sluicegateref01_Over.l0] at h
  | k + 1 => by
    have ih0 := sluicegateref01_Over.mono_l k
    · intro y0 y1 y2
      unfold sluicegateref01_Over.l0
      repeat' first
      | (with_reducible exact ih0 _ _ _)
      | (with_reducible exact sluicegateref01_Times.mono _ _ _)
      | (with_reducible exact LeO.refl _)
      | (with_reducible exact LeO.none _)
      | (with_reducible refine LeO.ite ?_ ?_)
      | (with_reducible refine LeO.bind ?_ (fun _ => ?_))
      | exact ih0 _ _ _
      | exact sluicegateref01_Times.mono _ _ _
      | exact LeO.none _
      | refine LeO.ite ?_ ?_
      | refine LeO.bind ?_ (fun _ => ?_)
theorem sluicegateref01_Over.mono : ∀ a0 a1 k, LeO (sluicegateref01_Over.f k a0 a1) (sluicegateref01_Over.f (k + 1) a0 a1) := by
  intro a0 a1 k
  have ih0 := sluicegateref01_Over.mono_l k
  unfold sluicegateref01_Over.f
  repeat' first
      | (with_reducible exact ih0 _ _ _)
      | (with_reducible exact sluicegateref01_Times.mono _ _ _)
      | (with_reducible exact LeO.refl _)
      | (with_reducible exact LeO.none _)
      | (with_reducible refine LeO.ite ?_ ?_)
      | (with_reducible refine LeO.bind ?_ (fun _ => ?_))
      | exact ih0 _ _ _
      | exact sluicegateref01_Times.mono _ _ _
      | exact LeO.none _
      | refine LeO.ite ?_ ?_
      | refine LeO.bind ?_ (fun _ => ?_)
set_option maxHeartbeats 8000000 in
set_option maxRecDepth 100000 in
theorem sluicegateref01_Over.calls (k : Nat) (a0 : Int) (a1 : Int) (r1 : Int) (r2 : Int) (w : World) (h : sluicegateref01_Over.f k a0 a1 = some (r1, r2)) :
    Calls Try.prog 12 #[.int .u8 a0, .int .u8 a1] w fun e w' => e = .returned (.tuple #[.int .u8 r1, .int .i64 r2]) ∧ Drawn0 w w' := by
  have H : (if a1 = 0 then (some (0, 1)) else (sluicegateref01_Over.l0 k a0 a1 0)) = some (r1, r2) := h
  clear h
  by_cases c3 : a1 = 0
  · rw [if_pos c3] at H
    have c3b0 : (a1 == 0) = true := beq_iff_eq.mpr c3
    have c3b1 : (a1 != 0) = false := bne_eq_false_iff_eq.mpr c3
    clear c3
    simp only [Option.some.injEq, Prod.mk.injEq] at H
    obtain ⟨rfl, rfl⟩ := H
    go_enter Try.func12, Try.ntmps12
    go_wp2
    go_ret2
    exact ⟨by first | rfl | (simp; done) | (simp [*]; done), by repeat (first | exact Drawn0.refl _ | apply Drawn0.step)⟩
  · rw [if_neg c3] at H
    have c3b0 : (a1 == 0) = false := beq_eq_false_iff_ne.mpr c3
    have c3b1 : (a1 != 0) = true := bne_iff_ne.mpr c3
    have H' := Aside0.mk H
    clear H
    go_enter Try.func12, Try.ntmps12
    go_wp2
    go_loopg [6] k (fun kq v6 w' => ∃ (x6_1 : Int), v6 = .int .i64 x6_1 ∧ Aside0 (sluicegateref01_Over.l0 kq a0 a1 x6_1 = some (r1, r2)) ∧ Aside0 (kq ≤ k) ∧ Drawn0 w w')
    case atStart => exact ⟨(0), (by first | rfl | (simp; done) | (simp [*]; done)), H', ⟨Nat.le_refl _⟩, by repeat (first | exact Drawn0.refl _ | apply Drawn0.step)⟩
    case round =>
      clear H'
      try clear c1
      try clear p2
      try clear c3
      try clear c3b0
      try clear c3b1
      obtain ⟨x6_1, rfl, HA, HK1, ⟨m1, rfl⟩⟩ := hrel
      cases gk with
      | zero => exact absurd HA.out (by simp [sluicegateref01_Over.l0])
      | succ k1 =>
        have H := HA.out
        clear HA
        simp only [sluicegateref01_Over.l0] at H
        by_cases c4 : x6_1 < 256
        · rw [if_pos c4] at H
          have c4b0 : decide (x6_1 < 256) = true := decide_eq_true c4
          clear c4
          replace H := Option.bind_eq_some_iff.mp H
          obtain ⟨t101, A50, H⟩ := H
          replace H : (if t101 = a0 then (some ((x6_1) % 256, 0)) else (sluicegateref01_Over.l0 k1 a0 a1 (wrap64 (x6_1 + 1)))) = some (r1, r2) := H
          have A5 := Aside0.mk A50
          clear A50
          by_cases c6 : t101 = a0
          · rw [if_pos c6] at H
            have c6b0 : (t101 == a0) = true := beq_iff_eq.mpr c6
            have c6b1 : (t101 != a0) = false := bne_eq_false_iff_eq.mpr c6
            clear c6
            simp only [Option.some.injEq, Prod.mk.injEq] at H
            obtain ⟨rfl, rfl⟩ := H
            go_wp2_with (first | ((with_reducible refine gate_callee (f := 14) rfl ?_); refine goesL_ (some 16) rfl rfl Try.func14 (by kernel_rfl) rfl #[.int .u8 ((x6_1) % 256), .int .u8 a1] rfl (by (try simp only [List.map_toArray, List.map_cons, List.map_nil]); first | done | rfl | (simp only [List.length_drop, List.length_take]; rfl)) ?_; (with_reducible refine (sluicegateref01_Times.calls k1 ((x6_1) % 256) a1 t101 _ A5.out).mono ?_); rintro e w' ⟨rfl, ⟨nd, rfl⟩⟩; refine ⟨_, rfl, ?_⟩))
            go_ret2
            exact ⟨by first | rfl | (simp; done) | (simp [*]; done), by repeat (first | exact Drawn0.refl _ | apply Drawn0.step)⟩
          · rw [if_neg c6] at H
            have c6b0 : (t101 == a0) = false := beq_eq_false_iff_ne.mpr c6
            have c6b1 : (t101 != a0) = true := bne_iff_ne.mpr c6
            have H' := Aside0.mk H
            clear H
            go_wp2_with (first | ((with_reducible refine gate_callee (f := 14) rfl ?_); refine goesL_ (some 16) rfl rfl Try.func14 (by kernel_rfl) rfl #[.int .u8 ((x6_1) % 256), .int .u8 a1] rfl (by (try simp only [List.map_toArray, List.map_cons, List.map_nil]); first | done | rfl | (simp only [List.length_drop, List.length_take]; rfl)) ?_; (with_reducible refine (sluicegateref01_Times.calls k1 ((x6_1) % 256) a1 t101 _ A5.out).mono ?_); rintro e w' ⟨rfl, ⟨nd, rfl⟩⟩; refine ⟨_, rfl, ?_⟩))
            go_roundg k1
            case measure => have := HK1.out; omega
            case rel => exact ⟨(wrap64 (x6_1 + 1)), (by first | rfl | (simp; done) | (simp [*]; done)), H', ⟨by have := HK1.out; omega⟩, by repeat (first | exact Drawn0.refl _ | apply Drawn0.step)⟩
        · rw [if_neg c4] at H
          have c4b0 : decide (x6_1 < 256) = false := decide_eq_false c4
          clear c4
          simp only [Option.some.injEq, Prod.mk.injEq] at H
          obtain ⟨rfl, rfl⟩ := H
          go_wp2
          go_ret2
          exact ⟨by first | rfl | (simp; done) | (simp [*]; done), by repeat (first | exact Drawn0.refl _ | apply Drawn0.step)⟩

-- NOT PRINTED: function 13 (field_Table_Times)

-- NOT PRINTED: function 16 (field_Table_Which)

-- NOT PRINTED: function 15 (sluicegatelaw01_live)

-- NOT PRINTED: function 3 (sluicegatelaw01_FieldTimes)

/-! ### sluicegateref01_Power: function 19 -/
mutual
def sluicegateref01_Power.j0 : Nat → Int → Option (Int)
  | 0, _ => none
  | k + 1, x0 => sluicegateref01_Power.l0 k x0 1 0
def sluicegateref01_Power.l0 : Nat → Int → Int → Int → Option (Int)
  | 0, _, _, _ => none
  | k + 1, x0, x3, x4 => if x4 < x0 then ((sluicegateref01_Times.f k x3 2).bind fun t102 => (sluicegateref01_Power.l0 k x0 t102 (wrap64 (x4 + 1)))) else (some x3)
end
def sluicegateref01_Power.f (k : Nat) (a0 : Int) : Option (Int) := if (Int.tmod a0 255) < 0 then (sluicegateref01_Power.j0 k (wrap64 ((Int.tmod a0 255) + 255))) else (sluicegateref01_Power.j0 k (Int.tmod a0 255))
theorem sluicegateref01_Power.mono_l : ∀ k, (∀ y0, LeO (sluicegateref01_Power.j0 k y0) (sluicegateref01_Power.j0 (k + 1) y0)) ∧ (∀ y0 y1 y2, LeO (sluicegateref01_Power.l0 k y0 y1 y2) (sluicegateref01_Power.l0 (k + 1) y0 y1 y2))
  | 0 => ⟨fun _ r h => by simp [sluicegateref01_Power.j0] at h, fun _ _ _ r h => by simp [sluicegateref01_Power.l0] at h⟩
  | k + 1 => by
    obtain ⟨ih0, ih1⟩ := sluicegateref01_Power.mono_l k
    refine ⟨?_, ?_⟩
    · intro y0
      unfold sluicegateref01_Power.j0
      repeat' first
      | (with_reducible exact ih0 _)
      | (with_reducible exact ih1 _ _ _)
      | (with_reducible exact sluicegateref01_Times.mono _ _ _)
      | (with_reducible exact LeO.refl _)
      | (with_reducible exact LeO.none _)
      | (with_reducible refine LeO.ite ?_ ?_)
      | (with_reducible refine LeO.bind ?_ (fun _ => ?_))
      | exact ih0 _
      | exact ih1 _ _ _
      | exact sluicegateref01_Times.mono _ _ _
      | exact LeO.none _
      | refine LeO.ite ?_ ?_
      | refine LeO.bind ?_ (fun _ => ?_)
    · intro y0 y1 y2
      unfold sluicegateref01_Power.l0
      repeat' first
      | (with_reducible exact ih0 _)
      | (with_reducible exact ih1 _ _ _)
      | (with_reducible exact sluicegateref01_Times.mono _ _ _)
      | (with_reducible exact LeO.refl _)
      | (with_reducible exact LeO.none _)
      | (with_reducible refine LeO.ite ?_ ?_)
      | (with_reducible refine LeO.bind ?_ (fun _ => ?_))
      | exact ih0 _
      | exact ih1 _ _ _
      | exact sluicegateref01_Times.mono _ _ _
      | exact LeO.none _
      | refine LeO.ite ?_ ?_
      | refine LeO.bind ?_ (fun _ => ?_)
theorem sluicegateref01_Power.mono : ∀ a0 k, LeO (sluicegateref01_Power.f k a0) (sluicegateref01_Power.f (k + 1) a0) := by
  intro a0 k
  obtain ⟨ih0, ih1⟩ := sluicegateref01_Power.mono_l k
  unfold sluicegateref01_Power.f
  repeat' first
      | (with_reducible exact ih0 _)
      | (with_reducible exact ih1 _ _ _)
      | (with_reducible exact sluicegateref01_Times.mono _ _ _)
      | (with_reducible exact LeO.refl _)
      | (with_reducible exact LeO.none _)
      | (with_reducible refine LeO.ite ?_ ?_)
      | (with_reducible refine LeO.bind ?_ (fun _ => ?_))
      | exact ih0 _
      | exact ih1 _ _ _
      | exact sluicegateref01_Times.mono _ _ _
      | exact LeO.none _
      | refine LeO.ite ?_ ?_
      | refine LeO.bind ?_ (fun _ => ?_)
set_option maxHeartbeats 8000000 in
set_option maxRecDepth 100000 in
theorem sluicegateref01_Power.calls (k : Nat) (a0 : Int) (r : Int) (w : World) (h : sluicegateref01_Power.f k a0 = some r) :
    Calls Try.prog 19 #[.int .i64 a0] w fun e w' => e = .returned (.int .u8 r) ∧ Drawn0 w w' := by
  have H : (if (Int.tmod a0 255) < 0 then (sluicegateref01_Power.j0 k (wrap64 ((Int.tmod a0 255) + 255))) else (sluicegateref01_Power.j0 k (Int.tmod a0 255))) = some r := h
  clear h
  have HC2 := Aside0.mk H
  clear H
  go_enter Try.func19, Try.ntmps19
  go_upto_if 8 with (fail)
  go_cut [0] (fun v0 wc => ∃ (kq : Nat) (x0_1 : Int), v0 = .int .i64 x0_1 ∧ Aside0 (sluicegateref01_Power.j0 kq x0_1 = some r) ∧ Aside0 (kq ≤ k) ∧ Drawn0 w wc)
  case first =>
    have H := HC2.out
    clear HC2
    by_cases c3 : (Int.tmod a0 255) < 0
    · rw [if_pos c3] at H
      have c3b0 : decide ((Int.tmod a0 255) < 0) = true := decide_eq_true c3
      clear c3
      (first | rw [c3b0] | (simp only [i64_w, i32_w]; rw [c3b0]) | skip)
      have H' := Aside0.mk H
      clear H
      go_wp2
      go_meet
      case rel => exact ⟨_, (wrap64 ((Int.tmod a0 255) + 255)), (by first | rfl | (simp; done) | (simp [*]; done)), H', ⟨by first | omega | exact Nat.le_refl _⟩, by repeat (first | exact Drawn0.refl _ | apply Drawn0.step)⟩
    · rw [if_neg c3] at H
      have c3b0 : decide ((Int.tmod a0 255) < 0) = false := decide_eq_false c3
      clear c3
      (first | rw [c3b0] | (simp only [i64_w, i32_w]; rw [c3b0]) | skip)
      have H' := Aside0.mk H
      clear H
      go_wp2
      go_meet
      case rel => exact ⟨_, (Int.tmod a0 255), (by first | rfl | (simp; done) | (simp [*]; done)), H', ⟨by first | omega | exact Nat.le_refl _⟩, by repeat (first | exact Drawn0.refl _ | apply Drawn0.step)⟩
  case rest =>
    clear HC2
    try clear c1
    try clear p2
    try clear c3
    try clear c3b0
    obtain ⟨kq, x0_1, rfl, HA, HJ1, ⟨mc1, rfl⟩⟩ := hcut
    cases kq with
    | zero => exact absurd HA.out (by simp [sluicegateref01_Power.j0])
    | succ kj1 =>
      have H := HA.out
      clear HA
      simp only [sluicegateref01_Power.j0] at H
      have H' := Aside0.mk H
      clear H
      go_wp2
      go_loopg [3, 4] kj1 (fun kq v3 v4 w' => ∃ (x3_2 : Int) (x4_2 : Int), v3 = .int .u8 x3_2 ∧ v4 = .int .i64 x4_2 ∧ Aside0 (sluicegateref01_Power.l0 kq x0_1 x3_2 x4_2 = some r) ∧ Aside0 (kq ≤ kj1) ∧ Drawn0 w w')
      case atStart => exact ⟨(1), (0), (by first | rfl | (simp; done) | (simp [*]; done)), (by first | rfl | (simp; done) | (simp [*]; done)), H', ⟨Nat.le_refl _⟩, by repeat (first | exact Drawn0.refl _ | apply Drawn0.step)⟩
      case round =>
        clear H'
        try clear c1
        try clear p2
        try clear c3
        try clear c3b0
        try clear p2
        obtain ⟨x3_2, x4_2, rfl, rfl, HA, HK2, ⟨m2, rfl⟩⟩ := hrel
        cases gk with
        | zero => exact absurd HA.out (by simp [sluicegateref01_Power.l0])
        | succ k2 =>
          have H := HA.out
          clear HA
          simp only [sluicegateref01_Power.l0] at H
          by_cases c4 : x4_2 < x0_1
          · rw [if_pos c4] at H
            have c4b0 : decide (x4_2 < x0_1) = true := decide_eq_true c4
            clear c4
            replace H := Option.bind_eq_some_iff.mp H
            obtain ⟨t102, A50, H⟩ := H
            replace H : (sluicegateref01_Power.l0 k2 x0_1 t102 (wrap64 (x4_2 + 1))) = some r := H
            have A5 := Aside0.mk A50
            clear A50
            have H' := Aside0.mk H
            clear H
            go_wp2_with (first | ((with_reducible refine gate_callee (f := 14) rfl ?_); refine goesL_ (some 17) rfl rfl Try.func14 (by kernel_rfl) rfl #[.int .u8 x3_2, .int .u8 2] rfl (by (try simp only [List.map_toArray, List.map_cons, List.map_nil]); first | done | rfl | (simp only [List.length_drop, List.length_take]; rfl)) ?_; (with_reducible refine (sluicegateref01_Times.calls k2 x3_2 2 t102 _ A5.out).mono ?_); rintro e w' ⟨rfl, ⟨nd, rfl⟩⟩; refine ⟨_, rfl, ?_⟩))
            go_roundg k2
            case measure => have := HJ1.out; have := HK2.out; omega
            case rel => exact ⟨(t102), (wrap64 (x4_2 + 1)), (by first | rfl | (simp; done) | (simp [*]; done)), (by first | rfl | (simp; done) | (simp [*]; done)), H', ⟨by have := HJ1.out; have := HK2.out; omega⟩, by repeat (first | exact Drawn0.refl _ | apply Drawn0.step)⟩
          · rw [if_neg c4] at H
            have c4b0 : decide (x4_2 < x0_1) = false := decide_eq_false c4
            clear c4
            obtain rfl := Option.some.inj H
            go_wp2
            go_ret
            exact ⟨by first | rfl | (simp; done) | (simp [*]; done), by repeat (first | exact Drawn0.refl _ | apply Drawn0.step)⟩

/-! ### sluicegateref01_Which: function 17 -/
def sluicegateref01_Which.l0 : Nat → Int → Int → Option (Int × Int)
  | 0, _, _ => none
  | k + 1, x0, x4 => if x4 < 255 then ((sluicegateref01_Power.f k x4).bind fun t103 => (if t103 = x0 then (some (x4, 0)) else (sluicegateref01_Which.l0 k x0 (wrap64 (x4 + 1))))) else (some (0, 1))
def sluicegateref01_Which.f (k : Nat) (a0 : Int) : Option (Int × Int) := sluicegateref01_Which.l0 k a0 0
theorem sluicegateref01_Which.mono_l : ∀ k, (∀ y0 y1, LeO (sluicegateref01_Which.l0 k y0 y1) (sluicegateref01_Which.l0 (k + 1) y0 y1))
  | 0 => fun _ _ r h => by simp [sluicegateref01_Which.l0] at h
  | k + 1 => by
    have ih0 := sluicegateref01_Which.mono_l k
    · intro y0 y1
      unfold sluicegateref01_Which.l0
      repeat' first
      | (with_reducible exact ih0 _ _)
      | (with_reducible exact sluicegateref01_Power.mono _ _)
      | (with_reducible exact LeO.refl _)
      | (with_reducible exact LeO.none _)
      | (with_reducible refine LeO.ite ?_ ?_)
      | (with_reducible refine LeO.bind ?_ (fun _ => ?_))
      | exact ih0 _ _
      | exact sluicegateref01_Power.mono _ _
      | exact LeO.none _
      | refine LeO.ite ?_ ?_
      | refine LeO.bind ?_ (fun _ => ?_)
theorem sluicegateref01_Which.mono : ∀ a0 k, LeO (sluicegateref01_Which.f k a0) (sluicegateref01_Which.f (k + 1) a0) := by
  intro a0 k
  have ih0 := sluicegateref01_Which.mono_l k
  unfold sluicegateref01_Which.f
  repeat' first
      | (with_reducible exact ih0 _ _)
      | (with_reducible exact sluicegateref01_Power.mono _ _)
      | (with_reducible exact LeO.refl _)
      | (with_reducible exact LeO.none _)
      | (with_reducible refine LeO.ite ?_ ?_)
      | (with_reducible refine LeO.bind ?_ (fun _ => ?_))
      | exact ih0 _ _
      | exact sluicegateref01_Power.mono _ _
      | exact LeO.none _
      | refine LeO.ite ?_ ?_
      | refine LeO.bind ?_ (fun _ => ?_)
set_option maxHeartbeats 8000000 in
set_option maxRecDepth 100000 in
theorem sluicegateref01_Which.calls (k : Nat) (a0 : Int) (r1 : Int) (r2 : Int) (w : World) (h : sluicegateref01_Which.f k a0 = some (r1, r2)) :
    Calls Try.prog 17 #[.int .u8 a0] w fun e w' => e = .returned (.tuple #[.int .i64 r1, .int .i64 r2]) ∧ Drawn0 w w' := by
  have H : (sluicegateref01_Which.l0 k a0 0) = some (r1, r2) := h
  clear h
  have H' := Aside0.mk H
  clear H
  go_enter Try.func17, Try.ntmps17
  go_wp2
  go_loopg [4] k (fun kq v4 w' => ∃ (x4_1 : Int), v4 = .int .i64 x4_1 ∧ Aside0 (sluicegateref01_Which.l0 kq a0 x4_1 = some (r1, r2)) ∧ Aside0 (kq ≤ k) ∧ Drawn0 w w')
  case atStart => exact ⟨(0), (by first | rfl | (simp; done) | (simp [*]; done)), H', ⟨Nat.le_refl _⟩, by repeat (first | exact Drawn0.refl _ | apply Drawn0.step)⟩
  case round =>
    clear H'
    try clear c1
    obtain ⟨x4_1, rfl, HA, HK1, ⟨m1, rfl⟩⟩ := hrel
    cases gk with
    | zero => exact absurd HA.out (by simp [sluicegateref01_Which.l0])
    | succ k1 =>
      have H := HA.out
      clear HA
      simp only [sluicegateref01_Which.l0] at H
      by_cases c2 : x4_1 < 255
      · rw [if_pos c2] at H
        have c2b0 : decide (x4_1 < 255) = true := decide_eq_true c2
        clear c2
        replace H := Option.bind_eq_some_iff.mp H
        obtain ⟨t103, A30, H⟩ := H
        replace H : (if t103 = a0 then (some (x4_1, 0)) else (sluicegateref01_Which.l0 k1 a0 (wrap64 (x4_1 + 1)))) = some (r1, r2) := H
        have A3 := Aside0.mk A30
        clear A30
        by_cases c4 : t103 = a0
        · rw [if_pos c4] at H
          have c4b0 : (t103 == a0) = true := beq_iff_eq.mpr c4
          have c4b1 : (t103 != a0) = false := bne_eq_false_iff_eq.mpr c4
          clear c4
          simp only [Option.some.injEq, Prod.mk.injEq] at H
          obtain ⟨rfl, rfl⟩ := H
          go_wp2_with (first | ((with_reducible refine gate_callee (f := 19) rfl ?_); refine goesL_ (some 10) rfl rfl Try.func19 (by kernel_rfl) rfl #[.int .i64 x4_1] rfl (by (try simp only [List.map_toArray, List.map_cons, List.map_nil]); first | done | rfl | (simp only [List.length_drop, List.length_take]; rfl)) ?_; (with_reducible refine (sluicegateref01_Power.calls k1 x4_1 t103 _ A3.out).mono ?_); rintro e w' ⟨rfl, ⟨nd, rfl⟩⟩; refine ⟨_, rfl, ?_⟩))
          go_ret2
          exact ⟨by first | rfl | (simp; done) | (simp [*]; done), by repeat (first | exact Drawn0.refl _ | apply Drawn0.step)⟩
        · rw [if_neg c4] at H
          have c4b0 : (t103 == a0) = false := beq_eq_false_iff_ne.mpr c4
          have c4b1 : (t103 != a0) = true := bne_iff_ne.mpr c4
          have H' := Aside0.mk H
          clear H
          go_wp2_with (first | ((with_reducible refine gate_callee (f := 19) rfl ?_); refine goesL_ (some 10) rfl rfl Try.func19 (by kernel_rfl) rfl #[.int .i64 x4_1] rfl (by (try simp only [List.map_toArray, List.map_cons, List.map_nil]); first | done | rfl | (simp only [List.length_drop, List.length_take]; rfl)) ?_; (with_reducible refine (sluicegateref01_Power.calls k1 x4_1 t103 _ A3.out).mono ?_); rintro e w' ⟨rfl, ⟨nd, rfl⟩⟩; refine ⟨_, rfl, ?_⟩))
          go_roundg k1
          case measure => have := HK1.out; omega
          case rel => exact ⟨(wrap64 (x4_1 + 1)), (by first | rfl | (simp; done) | (simp [*]; done)), H', ⟨by have := HK1.out; omega⟩, by repeat (first | exact Drawn0.refl _ | apply Drawn0.step)⟩
      · rw [if_neg c2] at H
        have c2b0 : decide (x4_1 < 255) = false := decide_eq_false c2
        clear c2
        simp only [Option.some.injEq, Prod.mk.injEq] at H
        obtain ⟨rfl, rfl⟩ := H
        go_wp2
        go_ret2
        exact ⟨by first | rfl | (simp; done) | (simp [*]; done), by repeat (first | exact Drawn0.refl _ | apply Drawn0.step)⟩

-- NOT PRINTED: function 4 (sluicegatelaw01_FieldPowers)

-- NOT PRINTED: function 5 (sluicegatelaw01_FieldRules)

-- NOT PRINTED: function 6 (sluicegatelaw01_FieldBack)

-- NOT PRINTED: function 7 (sluicegatelaw01_FieldAdds)

-- NOT PRINTED: function 8 (sluicegatelaw01_FieldNil)

-- NOT PRINTED: function 9 (sluicegatelaw01_FieldEach)

end Go.Proofs.Yteccjhiafnnnlaa.Q
