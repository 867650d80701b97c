/- Functions of the translation told as plain Lean functions, and that the calls come to just these. Written by a program of this session, which drives print.py; not a text of print.sh. -/
import Derived.Test.YtamjiofhfoedgaaQx0
namespace Go.Proofs.Ytamjiofhfoedgaa.Q
open Go.RowKit Go.Proofs.YtamjiofhfoedgaaW.PrintWords Go.Proofs.YtamjiofhfoedgaaW.PrintLast Go.Proofs.YtamjiofhfoedgaaW.PrintMore
attribute [local go_sem] max2_int min2_int max_two min_two max_three min_three max_four min_four   -- for this text's walks alone
set_option linter.unusedVariables false
set_option linter.unusedSimpArgs false

/-! ### sluicegateref05_Take: function 27 -/
mutual
def sluicegateref05_Take.l0 : Nat → ByteArray → Int → Int → Option (Int × ByteArray × Int)
  | 0, _, _, _ => none
  | k + 1, x0, x5, x6 => if x6 < (x0.size : Int) then (if x6 = 7 then (if 0 ≤ x6 then (sluicegateref05_Take.j1 k x0 x5 x6 (decide ((bt x0 x6) ≥ 128))) else (none)) else (sluicegateref05_Take.j1 k x0 x5 x6 false)) else (some (0, (⟨#[]⟩ : ByteArray), 3))
def sluicegateref05_Take.j1 : Nat → ByteArray → Int → Int → Bool → Option (Int × ByteArray × Int)
  | 0, _, _, _, _ => none
  | k + 1, x0, x5, x6, x20 => if x20 = true then (some (0, (⟨#[]⟩ : ByteArray), 4)) else (if 0 ≤ x6 then (if x6 < (x0.size : Int) then (if 0 ≤ (IntKind.u64.wrap (wrap64 (7 * x6))) then (if (bt x0 x6) < 128 then (if (bt x0 x6) = 0 then (if x6 > 0 then (some (0, (⟨#[]⟩ : ByteArray), 4)) else (if 0 ≤ (wrap64 (x6 + 1)) then (if (wrap64 (x6 + 1)) ≤ (x0.size : Int) then (some (wrap64 (x5 + (shl .i64 (wrap64 (Int.tmod (bt x0 x6) 128)) (IntKind.u64.wrap (wrap64 (7 * x6))))), x0.extract ((wrap64 (x6 + 1)) : Int).toNat x0.size, 0)) else (none)) else (none))) else (if 0 ≤ (wrap64 (x6 + 1)) then (if (wrap64 (x6 + 1)) ≤ (x0.size : Int) then (some (wrap64 (x5 + (shl .i64 (wrap64 (Int.tmod (bt x0 x6) 128)) (IntKind.u64.wrap (wrap64 (7 * x6))))), x0.extract ((wrap64 (x6 + 1)) : Int).toNat x0.size, 0)) else (none)) else (none))) else (sluicegateref05_Take.l0 k x0 (wrap64 (x5 + (shl .i64 (wrap64 (Int.tmod (bt x0 x6) 128)) (IntKind.u64.wrap (wrap64 (7 * x6)))))) (wrap64 (x6 + 1)))) else (none)) else (none)) else (none))
end
def sluicegateref05_Take.f (k : Nat) (a0 : ByteArray) : Option (Int × ByteArray × Int) := sluicegateref05_Take.l0 k a0 0 0
theorem sluicegateref05_Take.mono_l : ∀ k, (∀ y0 y1 y2, LeO (sluicegateref05_Take.l0 k y0 y1 y2) (sluicegateref05_Take.l0 (k + 1) y0 y1 y2)) ∧ (∀ y0 y1 y2 y3, LeO (sluicegateref05_Take.j1 k y0 y1 y2 y3) (sluicegateref05_Take.j1 (k + 1) y0 y1 y2 y3))
  | 0 => ⟨fun _ _ _ r h => by simp [sluicegateref05_Take.l0] at h, fun _ _ _ _ r h => by simp [sluicegateref05_Take.j1] at h⟩
  | k + 1 => by
    obtain ⟨ih0, ih1⟩ := sluicegateref05_Take.mono_l k
    refine ⟨?_, ?_⟩
    · intro y0 y1 y2
      unfold sluicegateref05_Take.l0
      repeat' first
      | (with_reducible exact ih0 _ _ _)
      | (with_reducible exact ih1 _ _ _ _)
      | (with_reducible exact LeO.refl _)
      | (with_reducible exact LeO.none _)
      | (with_reducible refine LeO.ite ?_ ?_)
      | (with_reducible refine LeO.bind ?_ (fun _ => ?_))
      | exact ih0 _ _ _
      | exact ih1 _ _ _ _
      | exact LeO.none _
      | refine LeO.ite ?_ ?_
      | refine LeO.bind ?_ (fun _ => ?_)
    · intro y0 y1 y2 y3
      unfold sluicegateref05_Take.j1
      repeat' first
      | (with_reducible exact ih0 _ _ _)
      | (with_reducible exact ih1 _ _ _ _)
      | (with_reducible exact LeO.refl _)
      | (with_reducible exact LeO.none _)
      | (with_reducible refine LeO.ite ?_ ?_)
      | (with_reducible refine LeO.bind ?_ (fun _ => ?_))
      | exact ih0 _ _ _
      | exact ih1 _ _ _ _
      | exact LeO.none _
      | refine LeO.ite ?_ ?_
      | refine LeO.bind ?_ (fun _ => ?_)
theorem sluicegateref05_Take.mono : ∀ a0 k, LeO (sluicegateref05_Take.f k a0) (sluicegateref05_Take.f (k + 1) a0) := by
  intro a0 k
  obtain ⟨ih0, ih1⟩ := sluicegateref05_Take.mono_l k
  unfold sluicegateref05_Take.f
  repeat' first
      | (with_reducible exact ih0 _ _ _)
      | (with_reducible exact ih1 _ _ _ _)
      | (with_reducible exact LeO.refl _)
      | (with_reducible exact LeO.none _)
      | (with_reducible refine LeO.ite ?_ ?_)
      | (with_reducible refine LeO.bind ?_ (fun _ => ?_))
      | exact ih0 _ _ _
      | exact ih1 _ _ _ _
      | exact LeO.none _
      | refine LeO.ite ?_ ?_
      | refine LeO.bind ?_ (fun _ => ?_)
set_option maxHeartbeats 8000000 in
set_option maxRecDepth 100000 in
theorem sluicegateref05_Take.calls (k : Nat) (a0 : ByteArray) (r1 : Int) (r2 : ByteArray) (r3 : Int) (w : World) (h : sluicegateref05_Take.f k a0 = some (r1, r2, r3)) :
    Calls Try.prog 27 #[.string a0] w fun e w' => e = .returned (.tuple #[.int .i64 r1, .string r2, .int .i64 r3]) ∧ Drawn0 w w' := by
  have H : (sluicegateref05_Take.l0 k a0 0 0) = some (r1, r2, r3) := h
  clear h
  have H' := Aside0.mk H
  clear H
  go_enter Try.func27, Try.ntmps27
  go_wp2
  repeat (go_quiet (fail); try go_wp2)
  go_loopg [5, 6] k (fun kq v5 v6 w' => ∃ (x5_1 : Int) (x6_1 : Int), v5 = .int .i64 x5_1 ∧ v6 = .int .i64 x6_1 ∧ Aside0 (sluicegateref05_Take.l0 kq a0 x5_1 x6_1 = some (r1, r2, r3)) ∧ Aside0 (kq ≤ k) ∧ Drawn0 w w')
  case atStart => exact ⟨(0), (0), (by first | rfl | (simp; done) | (simp [*]; done)), (by first | rfl | (simp; done) | (simp [*]; done)), H', ⟨Nat.le_refl _⟩, by repeat (first | exact Drawn0.refl _ | apply Drawn0.step)⟩
  case round =>
    clear H'
    obtain ⟨x5_1, x6_1, rfl, rfl, HA, HK1, ⟨m1, rfl⟩⟩ := hrel
    cases gk with
    | zero => exact absurd HA.out (by simp [sluicegateref05_Take.l0])
    | succ k1 =>
      have H := HA.out
      clear HA
      simp only [sluicegateref05_Take.l0] at H
      by_cases c2 : x6_1 < (a0.size : Int)
      · rw [if_pos c2] at H
        have c2b0 : decide (x6_1 < (a0.size : Int)) = true := decide_eq_true c2
        clear c2
        have HC3 := Aside0.mk H
        clear H
        go_upto_region 5 with (fail)
        repeat (go_quiet (fail); go_upto_region 5 with (fail))
        go_cut [20] (fun v20 wc => ∃ (kq : Nat) (x20_2 : Bool), v20 = .bool x20_2 ∧ Aside0 (sluicegateref05_Take.j1 kq a0 x5_1 x6_1 x20_2 = some (r1, r2, r3)) ∧ Aside0 (kq ≤ k1) ∧ Drawn0 w wc)
        case first =>
          have H := HC3.out
          clear HC3
          by_cases c4 : x6_1 = 7
          · rw [if_pos c4] at H
            have c4b0 : (x6_1 == 7) = true := beq_iff_eq.mpr c4
            have c4b1 : (x6_1 != 7) = false := bne_eq_false_iff_eq.mpr c4
            clear c4
            (first | rw [c4b0] | (simp only [i64_w, i32_w]; rw [c4b0]) | skip)
            by_cases c5 : 0 ≤ x6_1
            · rw [if_pos c5] at H
              have c5b0 : decide (0 ≤ x6_1) = true := decide_eq_true c5
              clear c5
              have H' := Aside0.mk H
              clear H
              have p6 : 0 ≤ (x6_1 : Int) := of_decide_eq_true (by first | (with_reducible assumption) | assumption)
              have q6 : x6_1 < (a0.size : Int) := of_decide_eq_true (by first | (with_reducible assumption) | assumption)
              have hx6 := bt_at a0 x6_1
              replace p6 := eq_true p6
              replace q6 := eq_true q6
              go_wp2
              repeat (go_quiet (fail); try go_wp2)
              go_meet
              case rel => exact ⟨_, (decide ((bt a0 x6_1) ≥ 128)), (by first | rfl | (simp; done) | (simp [*]; done)), H', ⟨by have := HK1.out; first | omega | exact Nat.le_refl _⟩, by repeat (first | exact Drawn0.refl _ | apply Drawn0.step)⟩
            · rw [if_neg c5] at H
              exact absurd H (by simp)
          · rw [if_neg c4] at H
            have c4b0 : (x6_1 == 7) = false := beq_eq_false_iff_ne.mpr c4
            have c4b1 : (x6_1 != 7) = true := bne_iff_ne.mpr c4
            (first | rw [c4b0] | (simp only [i64_w, i32_w]; rw [c4b0]) | skip)
            have H' := Aside0.mk H
            clear H
            go_wp2
            repeat (go_quiet (fail); try go_wp2)
            go_meet
            case rel => exact ⟨_, (false), (by first | rfl | (simp; done) | (simp [*]; done)), H', ⟨by have := HK1.out; first | omega | exact Nat.le_refl _⟩, by repeat (first | exact Drawn0.refl _ | apply Drawn0.step)⟩
        case rest =>
          clear HC3
          try clear c2
          try clear c2b0
          try clear p2
          try clear c4
          try clear c4b0
          try clear c4b1
          try clear c5
          try clear c5b0
          try clear p6
          try clear q6
          try clear hx6
          try clear p6
          try clear q6
          obtain ⟨kq, x20_2, rfl, HA, HJ2, ⟨mc2, rfl⟩⟩ := hcut
          cases kq with
          | zero => exact absurd HA.out (by simp [sluicegateref05_Take.j1])
          | succ kj2 =>
            have H := HA.out
            clear HA
            simp only [sluicegateref05_Take.j1] at H
            by_cases c7 : x20_2 = true
            · subst c7
              have H1 : (some (0, (⟨#[]⟩ : ByteArray), 4)) = some (r1, r2, r3) := by rw [if_pos rfl] at H; exact H
              clear H
              have H := H1
              clear H1
              simp only [Option.some.injEq, Prod.mk.injEq] at H
              obtain ⟨rfl, rfl, rfl⟩ := H
              go_wp2
              repeat (go_quiet (fail); try go_wp2)
              go_ret3
              exact ⟨by first | rfl | (simp; done) | (simp [*]; done), by repeat (first | exact Drawn0.refl _ | apply Drawn0.step)⟩
            · replace c7 := Bool.eq_false_iff.mpr c7
              subst c7
              have H1 : (if 0 ≤ x6_1 then (if x6_1 < (a0.size : Int) then (if 0 ≤ (IntKind.u64.wrap (wrap64 (7 * x6_1))) then (if (bt a0 x6_1) < 128 then (if (bt a0 x6_1) = 0 then (if x6_1 > 0 then (some (0, (⟨#[]⟩ : ByteArray), 4)) else (if 0 ≤ (wrap64 (x6_1 + 1)) then (if (wrap64 (x6_1 + 1)) ≤ (a0.size : Int) then (some (wrap64 (x5_1 + (shl .i64 (wrap64 (Int.tmod (bt a0 x6_1) 128)) (IntKind.u64.wrap (wrap64 (7 * x6_1))))), a0.extract ((wrap64 (x6_1 + 1)) : Int).toNat a0.size, 0)) else (none)) else (none))) else (if 0 ≤ (wrap64 (x6_1 + 1)) then (if (wrap64 (x6_1 + 1)) ≤ (a0.size : Int) then (some (wrap64 (x5_1 + (shl .i64 (wrap64 (Int.tmod (bt a0 x6_1) 128)) (IntKind.u64.wrap (wrap64 (7 * x6_1))))), a0.extract ((wrap64 (x6_1 + 1)) : Int).toNat a0.size, 0)) else (none)) else (none))) else (sluicegateref05_Take.l0 kj2 a0 (wrap64 (x5_1 + (shl .i64 (wrap64 (Int.tmod (bt a0 x6_1) 128)) (IntKind.u64.wrap (wrap64 (7 * x6_1)))))) (wrap64 (x6_1 + 1)))) else (none)) else (none)) else (none)) = some (r1, r2, r3) := by rw [if_neg (show ¬ (false = true) by decide)] at H; exact H
              clear H
              have H := H1
              clear H1
              by_cases c8 : 0 ≤ x6_1
              · rw [if_pos c8] at H
                have c8b0 : decide (0 ≤ x6_1) = true := decide_eq_true c8
                clear c8
                by_cases c9 : x6_1 < (a0.size : Int)
                · rw [if_pos c9] at H
                  have c9b0 : decide (x6_1 < (a0.size : Int)) = true := decide_eq_true c9
                  clear c9
                  obtain ⟨ji11, hji11⟩ : ∃ j_ : Int, (IntKind.u64.wrap (wrap64 (7 * x6_1))) = j_ := ⟨_, rfl⟩
                  replace H : (if 0 ≤ (ji11) then (if (bt a0 x6_1) < 128 then (if (bt a0 x6_1) = 0 then (if x6_1 > 0 then (some (0, (⟨#[]⟩ : ByteArray), 4)) else (if 0 ≤ (wrap64 (x6_1 + 1)) then (if (wrap64 (x6_1 + 1)) ≤ (a0.size : Int) then (some (wrap64 (x5_1 + (shl .i64 (wrap64 (Int.tmod (bt a0 x6_1) 128)) (ji11))), a0.extract ((wrap64 (x6_1 + 1)) : Int).toNat a0.size, 0)) else (none)) else (none))) else (if 0 ≤ (wrap64 (x6_1 + 1)) then (if (wrap64 (x6_1 + 1)) ≤ (a0.size : Int) then (some (wrap64 (x5_1 + (shl .i64 (wrap64 (Int.tmod (bt a0 x6_1) 128)) (ji11))), a0.extract ((wrap64 (x6_1 + 1)) : Int).toNat a0.size, 0)) else (none)) else (none))) else (sluicegateref05_Take.l0 kj2 a0 (wrap64 (x5_1 + (shl .i64 (wrap64 (Int.tmod (bt a0 x6_1) 128)) (ji11)))) (wrap64 (x6_1 + 1)))) else (none)) = some (r1, r2, r3) := by first | (rw [hji11] at H; exact H) | (simp only [hji11] at H ⊢; exact H)
                  by_cases c12 : 0 ≤ (ji11)
                  · rw [if_pos c12] at H
                    have c12b0 := eq_true c12
                    have c12b1 : decide (0 ≤ (ji11)) = true := decide_eq_true c12
                    clear c12
                    obtain ⟨ji13, hji13⟩ : ∃ j_ : Int, (shl .i64 (wrap64 (Int.tmod (bt a0 x6_1) 128)) (ji11)) = j_ := ⟨_, rfl⟩
                    replace H : (if (bt a0 x6_1) < 128 then (if (bt a0 x6_1) = 0 then (if x6_1 > 0 then (some (0, (⟨#[]⟩ : ByteArray), 4)) else (if 0 ≤ (wrap64 (x6_1 + 1)) then (if (wrap64 (x6_1 + 1)) ≤ (a0.size : Int) then (some (wrap64 (x5_1 + (ji13)), a0.extract ((wrap64 (x6_1 + 1)) : Int).toNat a0.size, 0)) else (none)) else (none))) else (if 0 ≤ (wrap64 (x6_1 + 1)) then (if (wrap64 (x6_1 + 1)) ≤ (a0.size : Int) then (some (wrap64 (x5_1 + (ji13)), a0.extract ((wrap64 (x6_1 + 1)) : Int).toNat a0.size, 0)) else (none)) else (none))) else (sluicegateref05_Take.l0 kj2 a0 (wrap64 (x5_1 + (ji13))) (wrap64 (x6_1 + 1)))) = some (r1, r2, r3) := by first | (rw [hji13] at H; exact H) | (simp only [hji13] at H ⊢; exact H)
                    have hji13_ : (IntKind.i64.wrap ((wrap64 (Int.tmod (bt a0 x6_1) 128)) * 2 ^ min (ji11).toNat 64)) = ji13 := hji13
                    have hji13z : (ji11) ≤ 64 → (IntKind.i64.wrap ((wrap64 (Int.tmod (bt a0 x6_1) 128)) * 2 ^ (ji11).toNat)) = ji13 := shl_small hji13
                    have hji13y : (wrap64 ((wrap64 (Int.tmod (bt a0 x6_1) 128)) * 2 ^ min (ji11).toNat 64)) = ji13 := (i64_w _).symm.trans hji13_
                    have hji13x : (ji11) ≤ 64 → (wrap64 ((wrap64 (Int.tmod (bt a0 x6_1) 128)) * 2 ^ (ji11).toNat)) = ji13 := fun h_ => (i64_w _).symm.trans (hji13z h_)
                    by_cases c15 : (bt a0 x6_1) < 128
                    · rw [if_pos c15] at H
                      have c15b0 : decide ((bt a0 x6_1) < 128) = true := decide_eq_true c15
                      clear c15
                      by_cases c17 : (bt a0 x6_1) = 0
                      · rw [if_pos c17] at H
                        have c17b0 : ((bt a0 x6_1) == 0) = true := beq_iff_eq.mpr c17
                        have c17b1 : ((bt a0 x6_1) != 0) = false := bne_eq_false_iff_eq.mpr c17
                        clear c17
                        by_cases c18 : x6_1 > 0
                        · rw [if_pos c18] at H
                          have c18b0 : decide (0 < x6_1) = true := decide_eq_true c18
                          clear c18
                          simp only [Option.some.injEq, Prod.mk.injEq] at H
                          obtain ⟨rfl, rfl, rfl⟩ := H
                          have p10 : 0 ≤ (x6_1 : Int) := of_decide_eq_true (by first | (with_reducible assumption) | assumption)
                          have q10 : x6_1 < (a0.size : Int) := of_decide_eq_true (by first | (with_reducible assumption) | assumption)
                          have hx10 := bt_at a0 x6_1
                          replace p10 := eq_true p10
                          replace q10 := eq_true q10
                          have p14 : 0 ≤ (x6_1 : Int) := of_decide_eq_true (by first | (with_reducible assumption) | assumption)
                          have q14 : x6_1 < (a0.size : Int) := of_decide_eq_true (by first | (with_reducible assumption) | assumption)
                          have hx14 := bt_at a0 x6_1
                          replace p14 := eq_true p14
                          replace q14 := eq_true q14
                          have p16 : 0 ≤ (x6_1 : Int) := of_decide_eq_true (by first | (with_reducible assumption) | assumption)
                          have q16 : x6_1 < (a0.size : Int) := of_decide_eq_true (by first | (with_reducible assumption) | assumption)
                          have hx16 := bt_at a0 x6_1
                          replace p16 := eq_true p16
                          replace q16 := eq_true q16
                          go_wp2
                          repeat (go_quiet (fail); try go_wp2)
                          go_ret3
                          exact ⟨by first | rfl | (simp; done) | (simp only [← hji11, ← hji13] <;> (first | rfl | simp)) | (simp [*]; done), by repeat (first | exact Drawn0.refl _ | apply Drawn0.step)⟩
                        · rw [if_neg c18] at H
                          have c18b0 : decide (0 < x6_1) = false := decide_eq_false c18
                          clear c18
                          obtain ⟨ji19, hji19⟩ : ∃ j_ : Int, (wrap64 (x6_1 + 1)) = j_ := ⟨_, rfl⟩
                          replace H : (if 0 ≤ (ji19) then (if (ji19) ≤ (a0.size : Int) then (some (wrap64 (x5_1 + (ji13)), a0.extract ((ji19) : Int).toNat a0.size, 0)) else (none)) else (none)) = some (r1, r2, r3) := by first | (rw [hji19] at H; exact H) | (simp only [hji19] at H ⊢; exact H)
                          have hji19w : (IntKind.i64.wrap (x6_1 + 1)) = ji19 := (i64_w _).trans hji19
                          by_cases c20 : 0 ≤ (ji19)
                          · rw [if_pos c20] at H
                            have c20b0 := eq_true c20
                            have c20b1 : decide (0 ≤ (ji19)) = true := decide_eq_true c20
                            clear c20
                            by_cases c21 : (ji19) ≤ (a0.size : Int)
                            · rw [if_pos c21] at H
                              have c21b0 := eq_true c21
                              have c21b1 : decide ((ji19) ≤ (a0.size : Int)) = true := decide_eq_true c21
                              clear c21
                              simp only [Option.some.injEq, Prod.mk.injEq] at H
                              obtain ⟨rfl, rfl, rfl⟩ := H
                              have p10 : 0 ≤ (x6_1 : Int) := of_decide_eq_true (by first | (with_reducible assumption) | assumption)
                              have q10 : x6_1 < (a0.size : Int) := of_decide_eq_true (by first | (with_reducible assumption) | assumption)
                              have hx10 := bt_at a0 x6_1
                              replace p10 := eq_true p10
                              replace q10 := eq_true q10
                              have p14 : 0 ≤ (x6_1 : Int) := of_decide_eq_true (by first | (with_reducible assumption) | assumption)
                              have q14 : x6_1 < (a0.size : Int) := of_decide_eq_true (by first | (with_reducible assumption) | assumption)
                              have hx14 := bt_at a0 x6_1
                              replace p14 := eq_true p14
                              replace q14 := eq_true q14
                              have p16 : 0 ≤ (x6_1 : Int) := of_decide_eq_true (by first | (with_reducible assumption) | assumption)
                              have q16 : x6_1 < (a0.size : Int) := of_decide_eq_true (by first | (with_reducible assumption) | assumption)
                              have hx16 := bt_at a0 x6_1
                              replace p16 := eq_true p16
                              replace q16 := eq_true q16
                              go_wp2
                              repeat (go_quiet (fail); try go_wp2)
                              go_ret3
                              exact ⟨by first | rfl | (simp; done) | (simp only [← hji11, ← hji13, ← hji19] <;> (first | rfl | simp)) | (simp [*]; done), by repeat (first | exact Drawn0.refl _ | apply Drawn0.step)⟩
                            · rw [if_neg c21] at H
                              exact absurd H (by simp)
                          · rw [if_neg c20] at H
                            exact absurd H (by simp)
                      · rw [if_neg c17] at H
                        have c17b0 : ((bt a0 x6_1) == 0) = false := beq_eq_false_iff_ne.mpr c17
                        have c17b1 : ((bt a0 x6_1) != 0) = true := bne_iff_ne.mpr c17
                        obtain ⟨ji22, hji22⟩ : ∃ j_ : Int, (wrap64 (x6_1 + 1)) = j_ := ⟨_, rfl⟩
                        replace H : (if 0 ≤ (ji22) then (if (ji22) ≤ (a0.size : Int) then (some (wrap64 (x5_1 + (ji13)), a0.extract ((ji22) : Int).toNat a0.size, 0)) else (none)) else (none)) = some (r1, r2, r3) := by first | (rw [hji22] at H; exact H) | (simp only [hji22] at H ⊢; exact H)
                        have hji22w : (IntKind.i64.wrap (x6_1 + 1)) = ji22 := (i64_w _).trans hji22
                        by_cases c23 : 0 ≤ (ji22)
                        · rw [if_pos c23] at H
                          have c23b0 := eq_true c23
                          have c23b1 : decide (0 ≤ (ji22)) = true := decide_eq_true c23
                          clear c23
                          by_cases c24 : (ji22) ≤ (a0.size : Int)
                          · rw [if_pos c24] at H
                            have c24b0 := eq_true c24
                            have c24b1 : decide ((ji22) ≤ (a0.size : Int)) = true := decide_eq_true c24
                            clear c24
                            simp only [Option.some.injEq, Prod.mk.injEq] at H
                            obtain ⟨rfl, rfl, rfl⟩ := H
                            have p10 : 0 ≤ (x6_1 : Int) := of_decide_eq_true (by first | (with_reducible assumption) | assumption)
                            have q10 : x6_1 < (a0.size : Int) := of_decide_eq_true (by first | (with_reducible assumption) | assumption)
                            have hx10 := bt_at a0 x6_1
                            replace p10 := eq_true p10
                            replace q10 := eq_true q10
                            have p14 : 0 ≤ (x6_1 : Int) := of_decide_eq_true (by first | (with_reducible assumption) | assumption)
                            have q14 : x6_1 < (a0.size : Int) := of_decide_eq_true (by first | (with_reducible assumption) | assumption)
                            have hx14 := bt_at a0 x6_1
                            replace p14 := eq_true p14
                            replace q14 := eq_true q14
                            have p16 : 0 ≤ (x6_1 : Int) := of_decide_eq_true (by first | (with_reducible assumption) | assumption)
                            have q16 : x6_1 < (a0.size : Int) := of_decide_eq_true (by first | (with_reducible assumption) | assumption)
                            have hx16 := bt_at a0 x6_1
                            replace p16 := eq_true p16
                            replace q16 := eq_true q16
                            go_wp2
                            repeat (go_quiet (fail); try go_wp2)
                            go_ret3
                            exact ⟨by first | rfl | (simp; done) | (simp only [← hji11, ← hji13, ← hji22] <;> (first | rfl | simp)) | (simp [*]; done), by repeat (first | exact Drawn0.refl _ | apply Drawn0.step)⟩
                          · rw [if_neg c24] at H
                            exact absurd H (by simp)
                        · rw [if_neg c23] at H
                          exact absurd H (by simp)
                    · rw [if_neg c15] at H
                      have c15b0 : decide ((bt a0 x6_1) < 128) = false := decide_eq_false c15
                      clear c15
                      have H' := Aside0.mk H
                      clear H
                      have p10 : 0 ≤ (x6_1 : Int) := of_decide_eq_true (by first | (with_reducible assumption) | assumption)
                      have q10 : x6_1 < (a0.size : Int) := of_decide_eq_true (by first | (with_reducible assumption) | assumption)
                      have hx10 := bt_at a0 x6_1
                      replace p10 := eq_true p10
                      replace q10 := eq_true q10
                      have p14 : 0 ≤ (x6_1 : Int) := of_decide_eq_true (by first | (with_reducible assumption) | assumption)
                      have q14 : x6_1 < (a0.size : Int) := of_decide_eq_true (by first | (with_reducible assumption) | assumption)
                      have hx14 := bt_at a0 x6_1
                      replace p14 := eq_true p14
                      replace q14 := eq_true q14
                      go_wp2
                      repeat (go_quiet (fail); try go_wp2)
                      go_roundg kj2
                      case measure => have := HK1.out; have := HJ2.out; omega
                      case rel => exact ⟨(wrap64 (x5_1 + (ji13))), (wrap64 (x6_1 + 1)), (by first | rfl | (simp; done) | (simp only [← hji13] <;> (first | rfl | simp)) | (simp [*]; done)), (by first | rfl | (simp; done) | (simp [*]; done)), H', ⟨by have := HK1.out; have := HJ2.out; omega⟩, by repeat (first | exact Drawn0.refl _ | apply Drawn0.step)⟩
                  · rw [if_neg c12] at H
                    exact absurd H (by simp)
                · rw [if_neg c9] at H
                  exact absurd H (by simp)
              · rw [if_neg c8] at H
                exact absurd H (by simp)
      · rw [if_neg c2] at H
        have c2b0 : decide (x6_1 < (a0.size : Int)) = false := decide_eq_false c2
        clear c2
        simp only [Option.some.injEq, Prod.mk.injEq] at H
        obtain ⟨rfl, rfl, rfl⟩ := H
        go_wp2
        repeat (go_quiet (fail); try go_wp2)
        go_ret3
        exact ⟨by first | rfl | (simp; done) | (simp [*]; done), by repeat (first | exact Drawn0.refl _ | apply Drawn0.step)⟩

/-- A state of type 32 at block g of W; what its slices lead to came in by w0. -/
def IsS32 (w0 W : World) (g : Nat) (f0 : ByteArray) (f1 : Int) : Prop := W.heap[g]? = some (.cells #[.string f0, .int .i64 f1] 32 (0, 0)) ∧ w0.heap.size ≤ g
theorem IsS32.grown {w0 W : World} {g : Nat} {f0 : ByteArray} {f1 : Int} {W1 : World} {row : Option Nat} (h : IsS32 w0 W g f0 f1) (hw : W.grownBy W1 row) (hne : some g ≠ row) : IsS32 w0 W1 g f0 f1 := by
  obtain ⟨hb, hg⟩ := h
  exact ⟨blk_grown hb hw hne, hg⟩
theorem IsS32.own_neN {w0 W : World} {g : Nat} {f0 : ByteArray} {f1 : Int} {α : Type} {d : Kd α} {e : Nat} {base : Nat} {ok : Nat → Prop} {v : Value} {xs : List α} (h : IsS32 w0 W g f0 f1) (ho : Kd.N d e W base ok v xs) (ht : e ≠ 32) : some g ≠ v.ownBlock := by
  obtain ⟨hb, hg⟩ := h
  exact Kd.N_ne ho hb ht
theorem IsS32.fresh {w0 W : World} {g : Nat} {f0 : ByteArray} {f1 : Int} (h : IsS32 w0 W g f0 f1) : ∀ k, W.heap.size ≤ k → k ≠ g := by
  obtain ⟨hb, hg⟩ := h
  exact Kd.freshB hb
theorem IsS32.kept {w0 W : World} {g : Nat} {f0 : ByteArray} {f1 : Int} {W1 : World} {S : Nat → Prop} (h : IsS32 w0 W g f0 f1) (hk : Kept W W1 S) (hne : ¬ S g) : IsS32 w0 W1 g f0 f1 := by
  obtain ⟨hb, hg⟩ := h
  exact ⟨blk_kept hb hk hne, hg⟩
theorem IsS32.below {w0 W : World} {g : Nat} {f0 : ByteArray} {f1 : Int} {W1 : World} (h : IsS32 w0 W g f0 f1) (hw : Below W.heap.size W W1) : IsS32 w0 W1 g f0 f1 := h.grown (grown_of_below hw none) (by simp)
theorem IsS32.alloc {w0 W : World} {g : Nat} {f0 : ByteArray} {f1 : Int} (h : IsS32 w0 W g f0 f1) (o : Obj) : IsS32 w0 (W.alloc o) g f0 f1 := h.below (below_alloc (Below.refl _ _) o)
theorem IsS32.drewN {w0 W : World} {g : Nat} {f0 : ByteArray} {f1 : Int} (h : IsS32 w0 W g f0 f1) (m : Nat) : IsS32 w0 (W.drewN m) g f0 f1 := h
theorem IsS32.drew {w0 W : World} {g : Nat} {f0 : ByteArray} {f1 : Int} (h : IsS32 w0 W g f0 f1) : IsS32 w0 W.drew g f0 f1 := h
theorem IsS32.at_ {w0 W : World} {g : Nat} {f0 : ByteArray} {f1 : Int} {w' : World} {m : Nat} (hq : W.drewN m = w') (h : IsS32 w0 W g f0 f1) : IsS32 w0 w' g f0 f1 := by subst hq; exact IsS32.drewN h m
theorem IsS32.apart {w0 W : World} {g : Nat} {f0 : ByteArray} {f1 : Int} {α : Type} {d : Kd α} {e : Nat} {base : Nat} {ok : Nat → Prop} {v : Value} {xs : List α} (h : IsS32 w0 W g f0 f1) (ho : d.R e W base ok v xs) (ht : ∀ q, q ∈ e :: d.E → q ≠ 32) : d.R e W base (fun k => ok k ∧ k ≠ g) v xs := by
  obtain ⟨hb, hg⟩ := h
  exact Kd.R_types ho hb ht
theorem IsS32.own_ne {w0 W : World} {g : Nat} {f0 : ByteArray} {f1 : Int} {α : Type} {d : Kd α} {e : Nat} {base : Nat} {ok : Nat → Prop} {v : Value} {xs : List α} (h : IsS32 w0 W g f0 f1) (ho : d.R e W base ok v xs) (ht : e ≠ 32) : some g ≠ v.ownBlock := by
  obtain ⟨hb, hg⟩ := h
  exact Kd.R_ne ho hb ht
theorem IsS32.apartQ {w0 W : World} {g : Nat} {f0 : ByteArray} {f1 : Int} {α : Type} {d : Kd α} {e : Nat} {base : Nat} {ok : Nat → Prop} {v : Value} {xs : List α} (h : IsS32 w0 W g f0 f1) (ho : d.Q e W base ok v xs) (ht : ∀ q, q ∈ e :: d.E → q ≠ 32) : d.Q e W base (fun k => ok k ∧ k ≠ g) v xs := by
  obtain ⟨hb, hg⟩ := h
  exact Kd.Q_types ho hb ht
theorem IsS32.own_neQ {w0 W : World} {g : Nat} {f0 : ByteArray} {f1 : Int} {α : Type} {d : Kd α} {e : Nat} {base : Nat} {ok : Nat → Prop} {v : Value} {xs : List α} (h : IsS32 w0 W g f0 f1) (ho : d.Q e W base ok v xs) (ht : e ≠ 32) : some g ≠ v.ownBlock := by
  obtain ⟨hb, hg⟩ := h
  exact Kd.Q_ne ho hb ht
theorem IsS32.apartS {w0 W : World} {g : Nat} {f0 : ByteArray} {f1 : Int} {α : Type} {d : Kd α} {e : Nat} {base : Nat} {ok : Nat → Prop} {v : Value} {xs : List α} (h : IsS32 w0 W g f0 f1) (ho : d.S e W base ok v xs) (ht : ∀ q, q ∈ e :: d.E → q ≠ 32) : d.S e W base (fun k => ok k ∧ k ≠ g) v xs := by
  obtain ⟨hb, hg⟩ := h
  exact Kd.S_types ho hb ht
theorem IsS32.own_neS {w0 W : World} {g : Nat} {f0 : ByteArray} {f1 : Int} {α : Type} {d : Kd α} {e : Nat} {base : Nat} {ok : Nat → Prop} {v : Value} {xs : List α} (h : IsS32 w0 W g f0 f1) (ho : d.S e W base ok v xs) (ht : e ≠ 32) : some g ≠ v.ownBlock := by
  obtain ⟨hb, hg⟩ := h
  exact Kd.S_ne ho hb ht
theorem IsS32.lt {w0 W : World} {g : Nat} {f0 : ByteArray} {f1 : Int} (h : IsS32 w0 W g f0 f1) : g < W.heap.size := by
  obtain ⟨hb, hg⟩ := h
  exact blk_lt hb
theorem IsS32.ge {w0 W : World} {g : Nat} {f0 : ByteArray} {f1 : Int} (h : IsS32 w0 W g f0 f1) : w0.heap.size ≤ g := by
  obtain ⟨hb, hg⟩ := h
  exact hg
theorem IsS32.ne_blk {w0 W : World} {g : Nat} {f0 : ByteArray} {f1 : Int} {a : Nat} {cs : Array Value} {t : TypeId} {fr : Nat × Nat} (h : IsS32 w0 W g f0 f1) (hb2 : W.heap[a]? = some (.cells cs t fr)) (ht : t ≠ 32) : g ≠ a := by
  obtain ⟨hb, hg⟩ := h
  rintro rfl
  rw [hb] at hb2
  injection hb2 with hb2
  injection hb2 with _ ht2
  exact ht ht2.symm
theorem IsS32.far {w0 W : World} {g : Nat} {f0 : ByteArray} {f1 : Int} {p : Addr} (h : IsS32 w0 W g f0 f1) (hne : g ≠ p.block) (u : Value) : IsS32 w0 (W.setCell p u) g f0 f1 := by
  obtain ⟨hb, hg⟩ := h
  exact ⟨blk_far hb hne u, hg⟩
theorem cellS32_0 {W : World} {g : Nat} {f0 : ByteArray} {f1 : Int} (h : W.heap[g]? = some (.cells #[.string f0, .int .i64 f1] 32 (0, 0))) : W.cell? ⟨g, 0, none⟩ = some (.string f0) := (blk_cell h 0).trans rfl
theorem IsS32.set_0 {w0 W : World} {g : Nat} {f0 : ByteArray} {f1 : Int} (h : IsS32 w0 W g f0 f1) (x : ByteArray) : IsS32 w0 (W.setCell ⟨g, 0, none⟩ (.string x)) g x f1 := by
  obtain ⟨hb, hg⟩ := h
  exact ⟨by simpa using blk_set hb 0 (.string x), hg⟩
theorem cellS32_1 {W : World} {g : Nat} {f0 : ByteArray} {f1 : Int} (h : W.heap[g]? = some (.cells #[.string f0, .int .i64 f1] 32 (0, 0))) : W.cell? ⟨g, 1, none⟩ = some (.int .i64 f1) := (blk_cell h 1).trans rfl
theorem IsS32.set_1 {w0 W : World} {g : Nat} {f0 : ByteArray} {f1 : Int} (h : IsS32 w0 W g f0 f1) (x : Int) : IsS32 w0 (W.setCell ⟨g, 1, none⟩ (.int .i64 x)) g f0 x := by
  obtain ⟨hb, hg⟩ := h
  exact ⟨by simpa using blk_set hb 1 (.int .i64 x), hg⟩
theorem IsS32.new (w0 W : World) (f0 : ByteArray) (f1 : Int) (hB : Below w0.heap.size w0 W) : IsS32 w0 (W.alloc (.cells #[.string f0, .int .i64 f1] 32)) W.heap.size f0 f1 := ⟨by simpa using heap_alloc_new W _, hB.size⟩

end Go.Proofs.Ytamjiofhfoedgaa.Q
