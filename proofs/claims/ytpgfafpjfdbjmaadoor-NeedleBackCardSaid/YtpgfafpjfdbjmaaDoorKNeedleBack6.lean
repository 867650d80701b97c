/- Lemmas for the law NeedleBack, merged out of several texts and cut down to what it names, by a program of this session (some of the first ones are of the words that print.sh wrote for this claim). -/
import Derived.Test.YtpgfafpjfdbjmaaDoorKNeedleBack1
import Derived.Test.YtpgfafpjfdbjmaaDoorKNeedleBack2
import Derived.Test.YtpgfafpjfdbjmaaDoorKNeedleBack3
import Derived.Test.YtpgfafpjfdbjmaaDoorKNeedleBack4
import Derived.Test.YtpgfafpjfdbjmaaDoorKNeedleBack5
set_option linter.unusedVariables false
set_option linter.unusedSimpArgs false
section
namespace Go.Proofs.YtpgfafpjfdbjmaaDoor.Q
open Go.RowKit Go.Proofs.YtpgfafpjfdbjmaaDoorW.PrintWords Go.Proofs.YtpgfafpjfdbjmaaDoorW.PrintLast Go.Proofs.YtpgfafpjfdbjmaaDoorW.PrintMore
attribute [local go_sem] max2_int min2_int max_two min_two max_three min_three max_four min_four   -- for this text's walks alone
set_option linter.unusedVariables false
set_option linter.unusedSimpArgs false
mutual
def sluicegatelaw08_NeedleBack.l0 : Nat → List (S23) → ByteArray → List Int → Int → Option (Bool)
  | 0, _, _, _, _ => none
  | k + 1, x0, x3, x4, x5 => if x5 < (x0.length : Int) then (if 0 ≤ x5 then (if (((rd_T23 x0 x5).f0).size : Int) > 100 then (sluicegatelaw08_NeedleBack.j1 k x0 x3 x4 x5 true) else (sluicegatelaw08_NeedleBack.j1 k x0 x3 x4 x5 (decide ((((rd_T23 x0 x5).f1).size : Int) > 1000)))) else (none)) else ((needle_All.f x3).bind fun bt353 => ((sluicegatelaw08_told.f k bt353.1).bind fun t360 => ((sluicegateref08_Same.f k t360 x0).bind fun t363 => (if t363 = true then ((sluicegateref06_Ints.f k bt353.2.1 x4).bind fun t364 => (if t364 = true then (sluicegatelaw08_NeedleBack.j2 k x3 (bt353.2.2 != 0)) else (sluicegatelaw08_NeedleBack.j2 k x3 true))) else (sluicegatelaw08_NeedleBack.j2 k x3 true)))))
def sluicegatelaw08_NeedleBack.j1 : Nat → List (S23) → ByteArray → List Int → Int → Bool → Option (Bool)
  | 0, _, _, _, _, _ => none
  | k + 1, x0, x3, x4, x5, x39 => if x39 = true then ((sluicegatelaw08_live.f k).bind fun t343 => (some t343)) else (if 0 ≤ x5 then (if x5 < (x0.length : Int) then ((sluicegatelaw08_own.f ((rd_T23 x0 x5).f0) ((rd_T23 x0 x5).f1)).bind fun bt345 => ((needle_Write.f k bt345.1 bt345.2).bind fun bt347 => (if bt347.2 = 0 then (if x4.length < 17592186044416 then (if x3.size + bt347.1.size ≤ 9223372036854775807 then (sluicegatelaw08_NeedleBack.l0 k x0 (x3 ++ bt347.1) (x4 ++ [(x3.size : Int)]) (wrap64 (x5 + 1))) else (none)) else (none)) else (if bt347.1.toList = ([] : List UInt8) then ((sluicegatelaw08_live.f k).bind fun t352 => (some t352)) else (some false))))) else (none)) else (none))
def sluicegatelaw08_NeedleBack.j2 : Nat → ByteArray → Bool → Option (Bool)
  | 0, _, _ => none
  | k + 1, x3, x85 => if x85 = true then (some false) else (if x3.toList = ([] : List UInt8) then ((sluicegatelaw08_live.f k).bind fun t365 => (some t365)) else (if 0 ≤ (wrap64 ((x3.size : Int) - 1)) then (if (wrap64 ((x3.size : Int) - 1)) ≤ (x3.size : Int) then ((needle_All.f (x3.extract 0 ((wrap64 ((x3.size : Int) - 1)) : Int).toNat)).bind fun bt366 => (if (bt366.1.length : Int) = 0 then (if bt366.2.2 = 3 then ((sluicegatelaw08_live.f k).bind fun t373 => (some t373)) else (some false)) else (some false))) else (none)) else (none)))
end
def sluicegatelaw08_NeedleBack.f (k : Nat) (l0 : List (S23)) : Option (Bool) := if (l0.length : Int) > 8 then ((sluicegatelaw08_live.f k).bind fun t340 => (some t340)) else (sluicegatelaw08_NeedleBack.l0 k l0 (⟨#[]⟩ : ByteArray) ([] : List Int) 0)
set_option maxHeartbeats 8000000 in
set_option maxRecDepth 100000 in
theorem sluicegatelaw08_NeedleBack.calls (k : Nat) (A0 : Option Addr) (c0 : Nat) (l0 : List (S23)) (r : Bool) (w : World) (hr0 : Kd.C k23 w A0 l0.length l0) (hc0 : l0.length ≤ c0) (h : sluicegatelaw08_NeedleBack.f k l0 = some r) :
    Calls Tryd.prog 6 #[.slice A0 l0.length c0] w fun e w' => e = .returned (.bool r) ∧ Below w.heap.size w w' := by
  have hu23 := Tryd.underlying23
  have HR0 := Aside0.mk hr0
  have HC0 := Aside0.mk hc0
  clear hr0 hc0
  have HB := Aside0.mk (Below.refl w.heap.size w)
  have H : (if (l0.length : Int) > 8 then ((sluicegatelaw08_live.f k).bind fun t340 => (some t340)) else (sluicegatelaw08_NeedleBack.l0 k l0 (⟨#[]⟩ : ByteArray) ([] : List Int) 0)) = some r := h
  clear h
  by_cases c2 : (l0.length : Int) > 8
  · rw [if_pos c2] at H
    have c2b0 : decide (8 < (l0.length : Int)) = true := decide_eq_true c2
    have c2b1 : decide (8 < l0.length) = true := decide_eq_true (by omega)
    clear c2
    replace H := Option.bind_eq_some_iff.mp H
    obtain ⟨t340, A30, H⟩ := H
    replace H : (some t340) = some r := H
    have A3 := Aside0.mk A30
    clear A30
    obtain rfl := Option.some.inj H
    go_enter Tryd.func6, Tryd.ntmps6
    go_wp2_with (first | ((with_reducible refine gate_callee (f := 9) rfl ?_); refine goesL_ (some 17) rfl rfl Tryd.func9 (by kernel_rfl) rfl #[] rfl (by (try simp only [List.map_toArray, List.map_cons, List.map_nil]); first | done | rfl | (simp only [List.length_drop, List.length_take]; rfl)) ?_; (with_reducible refine (sluicegatelaw08_live.calls k  t340 _ A3.out).mono ?_); rintro e w4 ⟨rfl, hb⟩; refine ⟨_, rfl, ?_⟩; have n0_ := Aside0.mk (below_step (by repeat (first | (with_reducible first | exact HB.out | apply below_alloc | apply pw_below_drewN | apply below_drew1) | exact HB.out)) hb); clear HB; have HB := n0_; clear n0_; (try clear hb); (try clear hb2); (try clear hk); (try clear hi)))
    go_ret
    exact ⟨by first | rfl | (simp [errW_none, errW_some] <;> rfl) | (simp [*, errW_none, errW_some] <;> rfl), by repeat (first | (with_reducible first | exact HB.out | apply below_alloc | apply pw_below_drewN | apply below_drew1) | exact HB.out)⟩
  · rw [if_neg c2] at H
    have c2b0 : decide (8 < (l0.length : Int)) = false := decide_eq_false c2
    have c2b1 : decide (8 < l0.length) = false := decide_eq_false (by omega)
    clear c2
    have H' := Aside0.mk H
    clear H
    go_enter Tryd.func6, Tryd.ntmps6
    go_wp2
    go_loopg [3, 4, 5] k (fun kq v3 v4 v5 w' => ∃ (x3_1 : ByteArray) (x4_1 : List Int) (x5_1 : Int), v3 = .string x3_1 ∧ v5 = .int .i64 x5_1 ∧ Aside0 (sluicegatelaw08_NeedleBack.l0 kq l0 x3_1 x4_1 x5_1 = some r) ∧ Aside0 (kq ≤ k) ∧ Aside0 (Kd.R (Kd.int .i64) 3 w' w.heap.size (fun _ => True) v4 x4_1) ∧ Aside0 (Below w.heap.size w w'))
    case atStart => exact ⟨((⟨#[]⟩ : ByteArray)), (([] : List Int)), (0), (by first | rfl | (simp; done) | (simp [*]; done)), (by first | rfl | (simp; done) | (simp [*]; done)), H', ⟨Nat.le_refl _⟩, ⟨by first | exact Kd.R_nil _ _ _ _ _ | exact Kd.N_nil _ _ _ _ _ | exact Kd.V_nil _ _ _ _ _ | exact Kd.Q_nil _ _ _ _ _ | exact Kd.S_nil _ _ _ _ _⟩, ⟨by repeat (first | (with_reducible first | exact HB.out | apply below_alloc | apply pw_below_drewN | apply below_drew1) | exact HB.out)⟩⟩
    case round =>
      clear H'
      try clear c2
      try clear c2b0
      try clear c2b1
      try clear p2
      obtain ⟨x3_1, x4_1, x5_1, rfl, rfl, HA, HK1, HO_4, HB⟩ := hrel
      cases gk with
      | zero => exact absurd HA.out (by simp [sluicegatelaw08_NeedleBack.l0])
      | succ k1 =>
        have H := HA.out
        clear HA
        simp only [sluicegatelaw08_NeedleBack.l0] at H
        by_cases c5 : x5_1 < (l0.length : Int)
        · rw [if_pos c5] at H
          have c5b0 : decide (x5_1 < (l0.length : Int)) = true := decide_eq_true c5
          clear c5
          have HC6 := Aside0.mk H
          clear H
          go_upto_region 8 with (fail)
          go_cut [39] (fun v39 wc => ∃ (kq : Nat) (x39_5 : Bool), v39 = .bool x39_5 ∧ Aside0 (sluicegatelaw08_NeedleBack.j1 kq l0 x3_1 x4_1 x5_1 x39_5 = some r) ∧ Aside0 (kq ≤ k1) ∧ Aside0 (Kd.R (Kd.int .i64) 3 wc w.heap.size (fun _ => True) u4 x4_1) ∧ Aside0 (Below w.heap.size w wc))
          case first =>
            have H := HC6.out
            clear HC6
            by_cases c7 : 0 ≤ x5_1
            · rw [if_pos c7] at H
              have c7b0 : decide (0 ≤ x5_1) = true := decide_eq_true c7
              clear c7
              (first | rw [c7b0] | (simp only [i64_w, i32_w]; rw [c7b0]) | skip)
              by_cases c8 : (((rd_T23 l0 x5_1).f0).size : Int) > 100
              · rw [if_pos c8] at H
                have c8b0 : decide (100 < (((rd_T23 l0 x5_1).f0).size : Int)) = true := decide_eq_true c8
                have c8b1 : decide (100 < ((rd_T23 l0 x5_1).f0).size) = true := decide_eq_true (by omega)
                clear c8
                have H' := Aside0.mk H
                clear H
                have p341 : 0 ≤ (x5_1 : Int) := of_decide_eq_true (by first | (with_reducible assumption) | assumption)
                have q341 : x5_1 < (l0.length : Int) := of_decide_eq_true (by first | (with_reducible assumption) | assumption)
                obtain ⟨ad341, e341, hx341_0, hx341_1⟩ := at_T23 HR0.out x5_1 p341 q341
                cases e341
                replace hx341_0 := (HB.out.cell (World.block_lt_of_cell? w _ hx341_0)).trans hx341_0
                replace hx341_1 := (HB.out.cell (World.block_lt_of_cell? w _ hx341_1)).trans hx341_1
                replace p341 := eq_true p341
                replace q341 := eq_true q341
                go_wp2
                go_meet
                case rel => exact ⟨_, (true), (by first | rfl | (simp; done) | (simp [*]; done)), H', ⟨by have := HK1.out; first | omega | exact Nat.le_refl _⟩, ⟨by (with_reducible repeat (first | apply Kd.R_alloc | apply Kd.R_drewN | apply Kd.R_drew)); exact HO_4.out⟩, ⟨by repeat (first | (with_reducible first | exact HB.out | apply below_alloc | apply pw_below_drewN | apply below_drew1) | exact HB.out)⟩⟩
              · rw [if_neg c8] at H
                have c8b0 : decide (100 < (((rd_T23 l0 x5_1).f0).size : Int)) = false := decide_eq_false c8
                have c8b1 : decide (100 < ((rd_T23 l0 x5_1).f0).size) = false := decide_eq_false (by omega)
                clear c8
                have H' := Aside0.mk H
                clear H
                have p341 : 0 ≤ (x5_1 : Int) := of_decide_eq_true (by first | (with_reducible assumption) | assumption)
                have q341 : x5_1 < (l0.length : Int) := of_decide_eq_true (by first | (with_reducible assumption) | assumption)
                obtain ⟨ad341, e341, hx341_0, hx341_1⟩ := at_T23 HR0.out x5_1 p341 q341
                cases e341
                replace hx341_0 := (HB.out.cell (World.block_lt_of_cell? w _ hx341_0)).trans hx341_0
                replace hx341_1 := (HB.out.cell (World.block_lt_of_cell? w _ hx341_1)).trans hx341_1
                replace p341 := eq_true p341
                replace q341 := eq_true q341
                have p342 : 0 ≤ (x5_1 : Int) := of_decide_eq_true (by first | (with_reducible assumption) | assumption)
                have q342 : x5_1 < (l0.length : Int) := of_decide_eq_true (by first | (with_reducible assumption) | assumption)
                obtain ⟨ad342, e342, hx342_0, hx342_1⟩ := at_T23 HR0.out x5_1 p342 q342
                obtain rfl : ad341 = ad342 := (by injection e342)
                replace hx342_0 := (HB.out.cell (World.block_lt_of_cell? w _ hx342_0)).trans hx342_0
                replace hx342_1 := (HB.out.cell (World.block_lt_of_cell? w _ hx342_1)).trans hx342_1
                replace p342 := eq_true p342
                replace q342 := eq_true q342
                go_wp2
                go_meet
                case rel => exact ⟨_, (decide ((((rd_T23 l0 x5_1).f1).size : Int) > 1000)), (by first | rfl | (simp; done) | (simp [*]; done)), H', ⟨by have := HK1.out; first | omega | exact Nat.le_refl _⟩, ⟨by (with_reducible repeat (first | apply Kd.R_alloc | apply Kd.R_drewN | apply Kd.R_drew)); exact HO_4.out⟩, ⟨by repeat (first | (with_reducible first | exact HB.out | apply below_alloc | apply pw_below_drewN | apply below_drew1) | exact HB.out)⟩⟩
            · rw [if_neg c7] at H
              exact absurd H (by simp)
          case rest =>
            clear HC6
            try clear c2
            try clear c2b0
            try clear c2b1
            try clear p2
            try clear p3
            try clear q3
            try clear hx3
            try clear c5
            try clear c5b0
            try clear c6
            try clear c7
            try clear c7b0
            try clear c8
            try clear c8b0
            try clear c8b1
            try clear hx341_0
            try clear hx341_1
            try clear hx342_0
            try clear hx342_1
            try clear p2
            try clear p341
            try clear p342
            try clear q341
            try clear q342
            obtain ⟨kq, x39_5, rfl, HA, HJ5, HO_4, HB⟩ := hcut
            cases kq with
            | zero => exact absurd HA.out (by simp [sluicegatelaw08_NeedleBack.j1])
            | succ kj5 =>
              have H := HA.out
              clear HA
              simp only [sluicegatelaw08_NeedleBack.j1] at H
              by_cases c9 : x39_5 = true
              · subst c9
                have H1 : ((sluicegatelaw08_live.f kj5).bind fun t343 => (some t343)) = some r := by rw [if_pos rfl] at H; exact H
                clear H
                have H := H1
                clear H1
                replace H := Option.bind_eq_some_iff.mp H
                obtain ⟨t343, A100, H⟩ := H
                replace H : (some t343) = some r := H
                have A10 := Aside0.mk A100
                clear A100
                obtain rfl := Option.some.inj H
                go_wp2_with (first | ((with_reducible refine gate_callee (f := 9) rfl ?_); refine goesL_ (some 40) rfl rfl Tryd.func9 (by kernel_rfl) rfl #[] rfl (by (try simp only [List.map_toArray, List.map_cons, List.map_nil]); first | done | rfl | (simp only [List.length_drop, List.length_take]; rfl)) ?_; (with_reducible refine (sluicegatelaw08_live.calls kj5  t343 _ A10.out).mono ?_); rintro e w11 ⟨rfl, hb⟩; refine ⟨_, rfl, ?_⟩; have n0_ := Aside0.mk (Kd.R_below (by (with_reducible repeat (first | apply Kd.R_alloc | apply Kd.R_drewN | apply Kd.R_drew)); exact HO_4.out) hb); have n1_ := Aside0.mk (below_step (by repeat (first | (with_reducible first | exact HB.out | apply below_alloc | apply pw_below_drewN | apply below_drew1) | exact HB.out)) hb); clear HO_4; clear HB; have HO_4 := n0_; have HB := n1_; clear n0_ n1_; (try clear hb); (try clear hb2); (try clear hk); (try clear hi)))
                go_ret
                exact ⟨by first | rfl | (simp [errW_none, errW_some] <;> rfl) | (simp [*, errW_none, errW_some] <;> rfl), by repeat (first | (with_reducible first | exact HB.out | apply below_alloc | apply pw_below_drewN | apply below_drew1) | exact HB.out)⟩
              · replace c9 := Bool.eq_false_iff.mpr c9
                subst c9
                have H1 : (if 0 ≤ x5_1 then (if x5_1 < (l0.length : Int) then ((sluicegatelaw08_own.f ((rd_T23 l0 x5_1).f0) ((rd_T23 l0 x5_1).f1)).bind fun bt345 => ((needle_Write.f kj5 bt345.1 bt345.2).bind fun bt347 => (if bt347.2 = 0 then (if x4_1.length < 17592186044416 then (if x3_1.size + bt347.1.size ≤ 9223372036854775807 then (sluicegatelaw08_NeedleBack.l0 kj5 l0 (x3_1 ++ bt347.1) (x4_1 ++ [(x3_1.size : Int)]) (wrap64 (x5_1 + 1))) else (none)) else (none)) else (if bt347.1.toList = ([] : List UInt8) then ((sluicegatelaw08_live.f kj5).bind fun t352 => (some t352)) else (some false))))) else (none)) else (none)) = some r := by rw [if_neg (show ¬ (false = true) by decide)] at H; exact H
                clear H
                have H := H1
                clear H1
                by_cases c12 : 0 ≤ x5_1
                · rw [if_pos c12] at H
                  have c12b0 : decide (0 ≤ x5_1) = true := decide_eq_true c12
                  clear c12
                  by_cases c13 : x5_1 < (l0.length : Int)
                  · rw [if_pos c13] at H
                    have c13b0 : decide (x5_1 < (l0.length : Int)) = true := decide_eq_true c13
                    clear c13
                    replace H := Option.bind_eq_some_iff.mp H
                    obtain ⟨⟨t345, t346⟩, A140, H⟩ := H
                    replace H : ((needle_Write.f kj5 t345 t346).bind fun bt347 => (if bt347.2 = 0 then (if x4_1.length < 17592186044416 then (if x3_1.size + bt347.1.size ≤ 9223372036854775807 then (sluicegatelaw08_NeedleBack.l0 kj5 l0 (x3_1 ++ bt347.1) (x4_1 ++ [(x3_1.size : Int)]) (wrap64 (x5_1 + 1))) else (none)) else (none)) else (if bt347.1.toList = ([] : List UInt8) then ((sluicegatelaw08_live.f kj5).bind fun t352 => (some t352)) else (some false)))) = some r := H
                    have A14 := Aside0.mk A140
                    clear A140
                    replace H := Option.bind_eq_some_iff.mp H
                    obtain ⟨⟨t347, t348⟩, A150, H⟩ := H
                    replace H : (if t348 = 0 then (if x4_1.length < 17592186044416 then (if x3_1.size + t347.size ≤ 9223372036854775807 then (sluicegatelaw08_NeedleBack.l0 kj5 l0 (x3_1 ++ t347) (x4_1 ++ [(x3_1.size : Int)]) (wrap64 (x5_1 + 1))) else (none)) else (none)) else (if t347.toList = ([] : List UInt8) then ((sluicegatelaw08_live.f kj5).bind fun t352 => (some t352)) else (some false))) = some r := H
                    have A15 := Aside0.mk A150
                    clear A150
                    by_cases c16 : t348 = 0
                    · rw [if_pos c16] at H
                      have c16b0 : (t348 == 0) = true := beq_iff_eq.mpr c16
                      have c16b1 : (t348 != 0) = false := bne_eq_false_iff_eq.mpr c16
                      clear c16
                      by_cases c17 : x4_1.length < 17592186044416
                      · rw [if_pos c17] at H
                        have LMc17 := Aside0.mk c17
                        clear c17
                        obtain ⟨y349, hy349⟩ : ∃ y_ : List Int, y_ = (x4_1 ++ [(x3_1.size : Int)]) := ⟨_, rfl⟩
                        replace H : (if x3_1.size + t347.size ≤ 9223372036854775807 then (sluicegatelaw08_NeedleBack.l0 kj5 l0 (x3_1 ++ t347) y349 (wrap64 (x5_1 + 1))) else (none)) = some r := by first | (rw [hy349]; with_reducible exact H) | (have H2_ := (Option.bind_some _ _).symm.trans H; rw [hy349]; with_reducible exact H2_) | (have H2_ := (Option.bind_some _ _).symm.trans H; with_reducible exact H2_) | with_reducible exact H | (rw [hy349]; exact H) | exact H
                        have Ny349 := Aside0.mk hy349
                        clear hy349
                        by_cases c18 : x3_1.size + t347.size ≤ 9223372036854775807
                        · rw [if_pos c18] at H
                          have c18b0 := eq_true c18
                          have c18b1 : decide (x3_1.size + t347.size ≤ 9223372036854775807) = true := decide_eq_true c18
                          try have c18b2 : (9223372036854775807 < x3_1.size + t347.size) = False := eq_false (Nat.not_lt.2 c18)
                          have H' := Aside0.mk H
                          clear H
                          have p344 : 0 ≤ (x5_1 : Int) := of_decide_eq_true (by first | (with_reducible assumption) | assumption)
                          have q344 : x5_1 < (l0.length : Int) := of_decide_eq_true (by first | (with_reducible assumption) | assumption)
                          obtain ⟨ad344, e344, hx344_0, hx344_1⟩ := at_T23 HR0.out x5_1 p344 q344
                          cases e344
                          replace hx344_0 := (HB.out.cell (World.block_lt_of_cell? w _ hx344_0)).trans hx344_0
                          replace hx344_1 := (HB.out.cell (World.block_lt_of_cell? w _ hx344_1)).trans hx344_1
                          replace p344 := eq_true p344
                          replace q344 := eq_true q344
                          go_wp2_with (first | ((with_reducible refine gate_callee (f := 11) rfl ?_); refine goesL_ (some 46) rfl rfl Tryd.func11 (by kernel_rfl) rfl #[.agg #[.string ((rd_T23 l0 x5_1).f0), .string ((rd_T23 l0 x5_1).f1)]] rfl (by (try simp only [List.map_toArray, List.map_cons, List.map_nil]); first | done | rfl | (simp only [List.length_drop, List.length_take]; rfl)) ?_; (with_reducible refine (sluicegatelaw08_own.calls ((rd_T23 l0 x5_1).f0) ((rd_T23 l0 x5_1).f1) t345 t346 _ A14.out).mono ?_); rintro e w19 ⟨rfl, hb⟩; refine ⟨_, rfl, ?_⟩; have n0_ := Aside0.mk (Kd.R_below (by (with_reducible repeat (first | apply Kd.R_alloc | apply Kd.R_drewN | apply Kd.R_drew)); exact HO_4.out) hb); have n1_ := Aside0.mk (below_step (by repeat (first | (with_reducible first | exact HB.out | apply below_alloc | apply pw_below_drewN | apply below_drew1) | exact HB.out)) hb); clear HO_4; clear HB; have HO_4 := n0_; have HB := n1_; clear n0_ n1_; (try clear hb); (try clear hb2); (try clear hk); (try clear hi)) | ((with_reducible refine gate_callee (f := 10) rfl ?_); refine goesL_ (some 47) rfl rfl Tryd.func10 (by kernel_rfl) rfl #[.agg #[.string t345, .string t346]] rfl (by (try simp only [List.map_toArray, List.map_cons, List.map_nil]); first | done | rfl | (simp only [List.length_drop, List.length_take]; rfl)) ?_; (with_reducible refine (needle_Write.calls kj5 t345 t346 t347 t348 _ A15.out).mono ?_); rintro e w20 ⟨rfl, hb⟩; refine ⟨_, rfl, ?_⟩; have n0_ := Aside0.mk (Kd.R_below (by (with_reducible repeat (first | apply Kd.R_alloc | apply Kd.R_drewN | apply Kd.R_drew)); exact HO_4.out) hb); have n1_ := Aside0.mk (below_step (by repeat (first | (with_reducible first | exact HB.out | apply below_alloc | apply pw_below_drewN | apply below_drew1) | exact HB.out)) hb); clear HO_4; clear HB; have HO_4 := n0_; have HB := n1_; clear n0_ n1_; (try clear hb); (try clear hb2); (try clear hk); (try clear hi)) | ((with_reducible refine gate_builtin (b := .append) (xs := #[.tmp 57, .tmp 60]) rfl ?_); (try (refine gate_guard (by rfl) ?_; dsimp only)); at_builtin; refine Kd.R_append (Kd.int .i64) (w0 := w) w.heap.size rfl (.tmp 57) (.tmp 60) 39 3 (.int .i64 0) 8 rfl Tryd.underlying39 info3 rfl (by decide) (by omega) u4 x4_1 (x3_1.size : Int) [.int .i64 (x3_1.size : Int)] (fun _ => True) (fun _ => False) rfl rfl ?aP (fun _ hk => hk.elim) ?aF ?aO ?aB ?aS ?aL ?_; (case aP => exact rfl); (case aB => exact (by repeat (first | (with_reducible first | exact HB.out | apply below_alloc | apply pw_below_drewN | apply below_drew1) | exact HB.out))); (case aF => exact (fun _ _ => trivial)); (case aO => exact (by (with_reducible repeat (first | apply Kd.R_alloc | apply Kd.R_drewN | apply Kd.R_drew)); exact HO_4.out)); (case aS => exact (below_size (by repeat (first | (with_reducible first | exact HB.out | apply below_alloc | apply pw_below_drewN | apply below_drew1) | exact HB.out)))); (case aL => have := LMc17.out; omega); intro v350 w21 ho hb hg hat; rw [← Ny349.out] at ho; have n0_ := Aside0.mk (hb); have n1_ := Aside0.mk (ho); clear HB; clear HO_4; have HB := n0_; have HO351 := n1_; clear n0_ n1_; clear ho hb hg hat))
                          go_roundg kj5
                          case measure => have := HK1.out; have := HJ5.out; omega
                          case rel => exact ⟨(x3_1 ++ t347), (y349), (wrap64 (x5_1 + 1)), (by first | rfl | (simp; done) | (simp [*]; done)), (by first | rfl | (simp; done) | (simp [*]; done)), H', ⟨by have := HK1.out; have := HJ5.out; omega⟩, ⟨by (with_reducible repeat (first | apply Kd.R_alloc | apply Kd.R_drewN | apply Kd.R_drew)); exact HO351.out⟩, ⟨by repeat (first | (with_reducible first | exact HB.out | apply below_alloc | apply pw_below_drewN | apply below_drew1) | exact HB.out)⟩⟩
                        · rw [if_neg c18] at H
                          exact absurd H (by simp)
                      · rw [if_neg c17] at H
                        exact absurd H (by simp)
                    · rw [if_neg c16] at H
                      have c16b0 : (t348 == 0) = false := beq_eq_false_iff_ne.mpr c16
                      have c16b1 : (t348 != 0) = true := bne_iff_ne.mpr c16
                      by_cases c22 : t347.toList = ([] : List UInt8)
                      · rw [if_pos c22] at H
                        have c22b0 : (t347.toList == ([] : List UInt8)) = true := beq_iff_eq.mpr c22
                        have c22b1 : (t347.toList != ([] : List UInt8)) = false := bne_eq_false_iff_eq.mpr c22
                        clear c22
                        replace H := Option.bind_eq_some_iff.mp H
                        obtain ⟨t352, A230, H⟩ := H
                        replace H : (some t352) = some r := H
                        have A23 := Aside0.mk A230
                        clear A230
                        obtain rfl := Option.some.inj H
                        have p344 : 0 ≤ (x5_1 : Int) := of_decide_eq_true (by first | (with_reducible assumption) | assumption)
                        have q344 : x5_1 < (l0.length : Int) := of_decide_eq_true (by first | (with_reducible assumption) | assumption)
                        obtain ⟨ad344, e344, hx344_0, hx344_1⟩ := at_T23 HR0.out x5_1 p344 q344
                        cases e344
                        replace hx344_0 := (HB.out.cell (World.block_lt_of_cell? w _ hx344_0)).trans hx344_0
                        replace hx344_1 := (HB.out.cell (World.block_lt_of_cell? w _ hx344_1)).trans hx344_1
                        replace p344 := eq_true p344
                        replace q344 := eq_true q344
                        go_wp2_with (first | ((with_reducible refine gate_callee (f := 11) rfl ?_); refine goesL_ (some 46) rfl rfl Tryd.func11 (by kernel_rfl) rfl #[.agg #[.string ((rd_T23 l0 x5_1).f0), .string ((rd_T23 l0 x5_1).f1)]] rfl (by (try simp only [List.map_toArray, List.map_cons, List.map_nil]); first | done | rfl | (simp only [List.length_drop, List.length_take]; rfl)) ?_; (with_reducible refine (sluicegatelaw08_own.calls ((rd_T23 l0 x5_1).f0) ((rd_T23 l0 x5_1).f1) t345 t346 _ A14.out).mono ?_); rintro e w24 ⟨rfl, hb⟩; refine ⟨_, rfl, ?_⟩; have n0_ := Aside0.mk (Kd.R_below (by (with_reducible repeat (first | apply Kd.R_alloc | apply Kd.R_drewN | apply Kd.R_drew)); exact HO_4.out) hb); have n1_ := Aside0.mk (below_step (by repeat (first | (with_reducible first | exact HB.out | apply below_alloc | apply pw_below_drewN | apply below_drew1) | exact HB.out)) hb); clear HO_4; clear HB; have HO_4 := n0_; have HB := n1_; clear n0_ n1_; (try clear hb); (try clear hb2); (try clear hk); (try clear hi)) | ((with_reducible refine gate_callee (f := 10) rfl ?_); refine goesL_ (some 47) rfl rfl Tryd.func10 (by kernel_rfl) rfl #[.agg #[.string t345, .string t346]] rfl (by (try simp only [List.map_toArray, List.map_cons, List.map_nil]); first | done | rfl | (simp only [List.length_drop, List.length_take]; rfl)) ?_; (with_reducible refine (needle_Write.calls kj5 t345 t346 t347 t348 _ A15.out).mono ?_); rintro e w25 ⟨rfl, hb⟩; refine ⟨_, rfl, ?_⟩; have n0_ := Aside0.mk (Kd.R_below (by (with_reducible repeat (first | apply Kd.R_alloc | apply Kd.R_drewN | apply Kd.R_drew)); exact HO_4.out) hb); have n1_ := Aside0.mk (below_step (by repeat (first | (with_reducible first | exact HB.out | apply below_alloc | apply pw_below_drewN | apply below_drew1) | exact HB.out)) hb); clear HO_4; clear HB; have HO_4 := n0_; have HB := n1_; clear n0_ n1_; (try clear hb); (try clear hb2); (try clear hk); (try clear hi)) | (go_at_call 9; (with_reducible refine (sluicegatelaw08_live.calls kj5  t352 _ A23.out).mono ?_); rintro e w26 ⟨rfl, hb⟩; have n0_ := Aside0.mk (Kd.R_below (by (with_reducible repeat (first | apply Kd.R_alloc | apply Kd.R_drewN | apply Kd.R_drew)); exact HO_4.out) hb); have n1_ := Aside0.mk (below_step (by repeat (first | (with_reducible first | exact HB.out | apply below_alloc | apply pw_below_drewN | apply below_drew1) | exact HB.out)) hb); clear HO_4; clear HB; have HO_4 := n0_; have HB := n1_; clear n0_ n1_; (try clear hb); (try clear hb2); (try clear hk); (try clear hi)))
                        go_ret
                        exact ⟨by first | rfl | (simp [errW_none, errW_some] <;> rfl) | (simp [*, errW_none, errW_some] <;> rfl), by repeat (first | (with_reducible first | exact HB.out | apply below_alloc | apply pw_below_drewN | apply below_drew1) | exact HB.out)⟩
                      · rw [if_neg c22] at H
                        have c22b0 : (t347.toList == ([] : List UInt8)) = false := beq_eq_false_iff_ne.mpr c22
                        have c22b1 : (t347.toList != ([] : List UInt8)) = true := bne_iff_ne.mpr c22
                        obtain rfl := Option.some.inj H
                        have p344 : 0 ≤ (x5_1 : Int) := of_decide_eq_true (by first | (with_reducible assumption) | assumption)
                        have q344 : x5_1 < (l0.length : Int) := of_decide_eq_true (by first | (with_reducible assumption) | assumption)
                        obtain ⟨ad344, e344, hx344_0, hx344_1⟩ := at_T23 HR0.out x5_1 p344 q344
                        cases e344
                        replace hx344_0 := (HB.out.cell (World.block_lt_of_cell? w _ hx344_0)).trans hx344_0
                        replace hx344_1 := (HB.out.cell (World.block_lt_of_cell? w _ hx344_1)).trans hx344_1
                        replace p344 := eq_true p344
                        replace q344 := eq_true q344
                        go_wp2_with (first | ((with_reducible refine gate_callee (f := 11) rfl ?_); refine goesL_ (some 46) rfl rfl Tryd.func11 (by kernel_rfl) rfl #[.agg #[.string ((rd_T23 l0 x5_1).f0), .string ((rd_T23 l0 x5_1).f1)]] rfl (by (try simp only [List.map_toArray, List.map_cons, List.map_nil]); first | done | rfl | (simp only [List.length_drop, List.length_take]; rfl)) ?_; (with_reducible refine (sluicegatelaw08_own.calls ((rd_T23 l0 x5_1).f0) ((rd_T23 l0 x5_1).f1) t345 t346 _ A14.out).mono ?_); rintro e w27 ⟨rfl, hb⟩; refine ⟨_, rfl, ?_⟩; have n0_ := Aside0.mk (Kd.R_below (by (with_reducible repeat (first | apply Kd.R_alloc | apply Kd.R_drewN | apply Kd.R_drew)); exact HO_4.out) hb); have n1_ := Aside0.mk (below_step (by repeat (first | (with_reducible first | exact HB.out | apply below_alloc | apply pw_below_drewN | apply below_drew1) | exact HB.out)) hb); clear HO_4; clear HB; have HO_4 := n0_; have HB := n1_; clear n0_ n1_; (try clear hb); (try clear hb2); (try clear hk); (try clear hi)) | ((with_reducible refine gate_callee (f := 10) rfl ?_); refine goesL_ (some 47) rfl rfl Tryd.func10 (by kernel_rfl) rfl #[.agg #[.string t345, .string t346]] rfl (by (try simp only [List.map_toArray, List.map_cons, List.map_nil]); first | done | rfl | (simp only [List.length_drop, List.length_take]; rfl)) ?_; (with_reducible refine (needle_Write.calls kj5 t345 t346 t347 t348 _ A15.out).mono ?_); rintro e w28 ⟨rfl, hb⟩; refine ⟨_, rfl, ?_⟩; have n0_ := Aside0.mk (Kd.R_below (by (with_reducible repeat (first | apply Kd.R_alloc | apply Kd.R_drewN | apply Kd.R_drew)); exact HO_4.out) hb); have n1_ := Aside0.mk (below_step (by repeat (first | (with_reducible first | exact HB.out | apply below_alloc | apply pw_below_drewN | apply below_drew1) | exact HB.out)) hb); clear HO_4; clear HB; have HO_4 := n0_; have HB := n1_; clear n0_ n1_; (try clear hb); (try clear hb2); (try clear hk); (try clear hi)))
                        go_ret
                        exact ⟨by first | rfl | (simp [errW_none, errW_some] <;> rfl) | (simp [*, errW_none, errW_some] <;> rfl), by repeat (first | (with_reducible first | exact HB.out | apply below_alloc | apply pw_below_drewN | apply below_drew1) | exact HB.out)⟩
                  · rw [if_neg c13] at H
                    exact absurd H (by simp)
                · rw [if_neg c12] at H
                  exact absurd H (by simp)
        · rw [if_neg c5] at H
          have c5b0 : decide (x5_1 < (l0.length : Int)) = false := decide_eq_false c5
          clear c5
          replace H := Option.bind_eq_some_iff.mp H
          obtain ⟨⟨t353, t354, t355⟩, A290, H⟩ := H
          replace H : ((sluicegatelaw08_told.f k1 t353).bind fun t360 => ((sluicegateref08_Same.f k1 t360 l0).bind fun t363 => (if t363 = true then ((sluicegateref06_Ints.f k1 t354 x4_1).bind fun t364 => (if t364 = true then (sluicegatelaw08_NeedleBack.j2 k1 x3_1 (t355 != 0)) else (sluicegatelaw08_NeedleBack.j2 k1 x3_1 true))) else (sluicegatelaw08_NeedleBack.j2 k1 x3_1 true)))) = some r := H
          have A29 := Aside0.mk A290
          clear A290
          have HC30 := Aside0.mk H
          clear H
          go_upto_region 16 with (first | ((with_reducible refine gate_callee (f := 17) rfl ?_); refine goesL_ (some 67) rfl rfl Tryd.func17 (by kernel_rfl) rfl #[.string x3_1] rfl (by (try simp only [List.map_toArray, List.map_cons, List.map_nil]); first | done | rfl | (simp only [List.length_drop, List.length_take]; rfl)) ?_; (with_reducible refine (needle_All.calls x3_1 t353 t354 t355 _ A29.out).mono ?_); rintro e w31 ⟨v356, v358, rfl, ho0, ho1, hb⟩; refine ⟨_, rfl, ?_⟩; have n0_ := Aside0.mk (Kd.R_elder' (by (with_reducible repeat (first | apply Kd.R_alloc | apply Kd.R_drewN | apply Kd.R_drew)); exact HO_4.out) (Kd.R_base ho1) hb); have n1_ := Aside0.mk (Kd.R_lower ho0 (below_size (by repeat (first | (with_reducible first | exact HB.out | apply below_alloc | apply pw_below_drewN | apply below_drew1) | exact HB.out)))); have n2_ := Aside0.mk (Kd.R_lower (Kd.R_new' ho1 (Kd.R_lt (by (with_reducible repeat (first | apply Kd.R_alloc | apply Kd.R_drewN | apply Kd.R_drew)); exact HO_4.out))) (below_size (by repeat (first | (with_reducible first | exact HB.out | apply below_alloc | apply pw_below_drewN | apply below_drew1) | exact HB.out)))); have n3_ := Aside0.mk (below_step (by repeat (first | (with_reducible first | exact HB.out | apply below_alloc | apply pw_below_drewN | apply below_drew1) | exact HB.out)) hb); clear HO_4; clear HB; have HO_4 := n0_; have HO357 := n1_; have HO359 := n2_; have HB := n3_; clear n0_ n1_ n2_ n3_; (try clear hb); (try clear hb2); (try clear hk); (try clear hi); (try clear ho0); (try clear ho1)))
          (try simp only [Act.put, List.setIfInBounds_toArray, List.set_cons_zero, List.set_cons_succ])
          go_cut [85] (fun v85 wc => ∃ (kq : Nat) (x85_29 : Bool), v85 = .bool x85_29 ∧ Aside0 (sluicegatelaw08_NeedleBack.j2 kq x3_1 x85_29 = some r) ∧ Aside0 (kq ≤ k1) ∧ Aside0 (Below w.heap.size w wc))
          case first =>
            have H := HC30.out
            clear HC30
            replace H := Option.bind_eq_some_iff.mp H
            obtain ⟨t360, A320, H⟩ := H
            replace H : ((sluicegateref08_Same.f k1 t360 l0).bind fun t363 => (if t363 = true then ((sluicegateref06_Ints.f k1 t354 x4_1).bind fun t364 => (if t364 = true then (sluicegatelaw08_NeedleBack.j2 k1 x3_1 (t355 != 0)) else (sluicegatelaw08_NeedleBack.j2 k1 x3_1 true))) else (sluicegatelaw08_NeedleBack.j2 k1 x3_1 true))) = some r := H
            have A32 := Aside0.mk A320
            clear A320
            replace H := Option.bind_eq_some_iff.mp H
            obtain ⟨t363, A330, H⟩ := H
            replace H : (if t363 = true then ((sluicegateref06_Ints.f k1 t354 x4_1).bind fun t364 => (if t364 = true then (sluicegatelaw08_NeedleBack.j2 k1 x3_1 (t355 != 0)) else (sluicegatelaw08_NeedleBack.j2 k1 x3_1 true))) else (sluicegatelaw08_NeedleBack.j2 k1 x3_1 true)) = some r := H
            have A33 := Aside0.mk A330
            clear A330
            by_cases c34 : t363 = true
            · subst c34
              have H1 : ((sluicegateref06_Ints.f k1 t354 x4_1).bind fun t364 => (if t364 = true then (sluicegatelaw08_NeedleBack.j2 k1 x3_1 (t355 != 0)) else (sluicegatelaw08_NeedleBack.j2 k1 x3_1 true))) = some r := by rw [if_pos rfl] at H; exact H
              clear H
              have H := H1
              clear H1
              replace H := Option.bind_eq_some_iff.mp H
              obtain ⟨t364, A350, H⟩ := H
              replace H : (if t364 = true then (sluicegatelaw08_NeedleBack.j2 k1 x3_1 (t355 != 0)) else (sluicegatelaw08_NeedleBack.j2 k1 x3_1 true)) = some r := H
              have A35 := Aside0.mk A350
              clear A350
              by_cases c36 : t364 = true
              · subst c36
                have H1 : (sluicegatelaw08_NeedleBack.j2 k1 x3_1 (t355 != 0)) = some r := by rw [if_pos rfl] at H; exact H
                clear H
                have H := H1
                clear H1
                have H' := Aside0.mk H
                clear H
                obtain ⟨Ao37, co37, eo37⟩ := Kd.R_slice HO357.out
                subst eo37
                go_wp2_with (first | ((with_reducible refine gate_callee (f := 20) rfl ?_); refine goesL_ (some 72) rfl rfl Tryd.func20 (by kernel_rfl) rfl #[.slice Ao37 t353.length co37] rfl (by (try simp only [List.map_toArray, List.map_cons, List.map_nil]); first | done | rfl | (simp only [List.length_drop, List.length_take]; rfl)) ?_; (with_reducible refine (sluicegatelaw08_told.calls k1 _ _ t353 t360 _ ?side1 ?side2 A32.out).mono ?_); (case side1 => repeat (first | exact (Kd.R_reads' HO357.out).2.2 | (with_reducible refine Kd.C_alloc ?_ _) | (with_reducible refine Kd.C_drewN ?_ _) | (with_reducible refine Kd.C_drew ?_))); (case side2 => exact (Kd.R_reads' HO357.out).2.1); rintro e w38 ⟨v361, rfl, ho0, hb⟩; refine ⟨_, rfl, ?_⟩; have n0_ := Aside0.mk (Kd.R_below (by (with_reducible repeat (first | apply Kd.R_alloc | apply Kd.R_drewN | apply Kd.R_drew)); exact HO_4.out) hb); have n1_ := Aside0.mk (Kd.R_below (by (with_reducible repeat (first | apply Kd.R_alloc | apply Kd.R_drewN | apply Kd.R_drew)); exact HO357.out) hb); have n2_ := Aside0.mk (Kd.R_below (by (with_reducible repeat (first | apply Kd.R_alloc | apply Kd.R_drewN | apply Kd.R_drew)); exact HO359.out) hb); have n3_ := Aside0.mk (Kd.R_lower ho0 (below_size (by repeat (first | (with_reducible first | exact HB.out | apply below_alloc | apply pw_below_drewN | apply below_drew1) | exact HB.out)))); have n4_ := Aside0.mk (below_step (by repeat (first | (with_reducible first | exact HB.out | apply below_alloc | apply pw_below_drewN | apply below_drew1) | exact HB.out)) hb); clear HO_4; clear HO357; clear HO359; clear HB; have HO_4 := n0_; have HO357 := n1_; have HO359 := n2_; have HO362 := n3_; have HB := n4_; clear n0_ n1_ n2_ n3_ n4_; (try clear hb); (try clear hb2); (try clear hk); (try clear hi); (try clear ho0); obtain ⟨Ao39, co39, eo39⟩ := Kd.R_slice HO362.out; subst eo39) | ((with_reducible refine gate_callee (f := 19) rfl ?_); refine goesL_ (some 74) rfl rfl Tryd.func19 (by kernel_rfl) rfl #[.slice Ao39 t360.length co39, .slice A0 l0.length c0] rfl (by (try simp only [List.map_toArray, List.map_cons, List.map_nil]); first | done | rfl | (simp only [List.length_drop, List.length_take]; rfl)) ?_; (with_reducible refine (sluicegateref08_Same.calls k1 _ _ t360 _ _ l0 true _ ?side1 ?side2 ?side3 ?side4 A33.out).mono ?_); (case side1 => repeat (first | exact (Kd.R_reads' HO362.out).2.2 | (with_reducible refine Kd.C_alloc ?_ _) | (with_reducible refine Kd.C_drewN ?_ _) | (with_reducible refine Kd.C_drew ?_))); (case side2 => exact (Kd.R_reads' HO362.out).2.1); (case side3 => repeat (first | exact (Kd.C_below HR0.out HB.out) | (with_reducible refine Kd.C_alloc ?_ _) | (with_reducible refine Kd.C_drewN ?_ _) | (with_reducible refine Kd.C_drew ?_))); (case side4 => exact HC0.out); rintro e w' ⟨rfl, ⟨nd, rfl⟩⟩; refine ⟨_, rfl, ?_⟩; obtain ⟨Ao40, co40, eo40⟩ := Kd.R_slice HO359.out; subst eo40; obtain ⟨Ao41, co41, eo41⟩ := Kd.R_slice HO_4.out; subst eo41) | (go_at_call 21; (with_reducible refine (sluicegateref06_Ints.calls k1 _ _ t354 _ _ x4_1 true _ ?side1 ?side2 ?side3 ?side4 A35.out).mono ?_); (case side1 => repeat (first | exact (Kd.R_reads' HO359.out).2.2 | (with_reducible refine Kd.C_alloc ?_ _) | (with_reducible refine Kd.C_drewN ?_ _) | (with_reducible refine Kd.C_drew ?_))); (case side2 => exact (Kd.R_reads' HO359.out).2.1); (case side3 => repeat (first | exact (Kd.R_reads' HO_4.out).2.2 | (with_reducible refine Kd.C_alloc ?_ _) | (with_reducible refine Kd.C_drewN ?_ _) | (with_reducible refine Kd.C_drew ?_))); (case side4 => exact (Kd.R_reads' HO_4.out).2.1); rintro e w' ⟨rfl, ⟨nd, rfl⟩⟩))
                go_meet
                case rel => exact ⟨_, ((t355 != 0)), (by first | rfl | (simp; done) | (simp [*]; done)), H', ⟨by have := HK1.out; first | omega | exact Nat.le_refl _⟩, ⟨by repeat (first | (with_reducible first | exact HB.out | apply below_alloc | apply pw_below_drewN | apply below_drew1) | exact HB.out)⟩⟩
              · replace c36 := Bool.eq_false_iff.mpr c36
                subst c36
                have H1 : (sluicegatelaw08_NeedleBack.j2 k1 x3_1 true) = some r := by rw [if_neg (show ¬ (false = true) by decide)] at H; exact H
                clear H
                have H := H1
                clear H1
                have H' := Aside0.mk H
                clear H
                obtain ⟨Ao42, co42, eo42⟩ := Kd.R_slice HO357.out
                subst eo42
                go_wp2_with (first | ((with_reducible refine gate_callee (f := 20) rfl ?_); refine goesL_ (some 72) rfl rfl Tryd.func20 (by kernel_rfl) rfl #[.slice Ao42 t353.length co42] rfl (by (try simp only [List.map_toArray, List.map_cons, List.map_nil]); first | done | rfl | (simp only [List.length_drop, List.length_take]; rfl)) ?_; (with_reducible refine (sluicegatelaw08_told.calls k1 _ _ t353 t360 _ ?side1 ?side2 A32.out).mono ?_); (case side1 => repeat (first | exact (Kd.R_reads' HO357.out).2.2 | (with_reducible refine Kd.C_alloc ?_ _) | (with_reducible refine Kd.C_drewN ?_ _) | (with_reducible refine Kd.C_drew ?_))); (case side2 => exact (Kd.R_reads' HO357.out).2.1); rintro e w43 ⟨v361, rfl, ho0, hb⟩; refine ⟨_, rfl, ?_⟩; have n0_ := Aside0.mk (Kd.R_below (by (with_reducible repeat (first | apply Kd.R_alloc | apply Kd.R_drewN | apply Kd.R_drew)); exact HO_4.out) hb); have n1_ := Aside0.mk (Kd.R_below (by (with_reducible repeat (first | apply Kd.R_alloc | apply Kd.R_drewN | apply Kd.R_drew)); exact HO357.out) hb); have n2_ := Aside0.mk (Kd.R_below (by (with_reducible repeat (first | apply Kd.R_alloc | apply Kd.R_drewN | apply Kd.R_drew)); exact HO359.out) hb); have n3_ := Aside0.mk (Kd.R_lower ho0 (below_size (by repeat (first | (with_reducible first | exact HB.out | apply below_alloc | apply pw_below_drewN | apply below_drew1) | exact HB.out)))); have n4_ := Aside0.mk (below_step (by repeat (first | (with_reducible first | exact HB.out | apply below_alloc | apply pw_below_drewN | apply below_drew1) | exact HB.out)) hb); clear HO_4; clear HO357; clear HO359; clear HB; have HO_4 := n0_; have HO357 := n1_; have HO359 := n2_; have HO362 := n3_; have HB := n4_; clear n0_ n1_ n2_ n3_ n4_; (try clear hb); (try clear hb2); (try clear hk); (try clear hi); (try clear ho0); obtain ⟨Ao44, co44, eo44⟩ := Kd.R_slice HO362.out; subst eo44) | ((with_reducible refine gate_callee (f := 19) rfl ?_); refine goesL_ (some 74) rfl rfl Tryd.func19 (by kernel_rfl) rfl #[.slice Ao44 t360.length co44, .slice A0 l0.length c0] rfl (by (try simp only [List.map_toArray, List.map_cons, List.map_nil]); first | done | rfl | (simp only [List.length_drop, List.length_take]; rfl)) ?_; (with_reducible refine (sluicegateref08_Same.calls k1 _ _ t360 _ _ l0 true _ ?side1 ?side2 ?side3 ?side4 A33.out).mono ?_); (case side1 => repeat (first | exact (Kd.R_reads' HO362.out).2.2 | (with_reducible refine Kd.C_alloc ?_ _) | (with_reducible refine Kd.C_drewN ?_ _) | (with_reducible refine Kd.C_drew ?_))); (case side2 => exact (Kd.R_reads' HO362.out).2.1); (case side3 => repeat (first | exact (Kd.C_below HR0.out HB.out) | (with_reducible refine Kd.C_alloc ?_ _) | (with_reducible refine Kd.C_drewN ?_ _) | (with_reducible refine Kd.C_drew ?_))); (case side4 => exact HC0.out); rintro e w' ⟨rfl, ⟨nd, rfl⟩⟩; refine ⟨_, rfl, ?_⟩; obtain ⟨Ao45, co45, eo45⟩ := Kd.R_slice HO359.out; subst eo45; obtain ⟨Ao46, co46, eo46⟩ := Kd.R_slice HO_4.out; subst eo46) | (go_at_call 21; (with_reducible refine (sluicegateref06_Ints.calls k1 _ _ t354 _ _ x4_1 false _ ?side1 ?side2 ?side3 ?side4 A35.out).mono ?_); (case side1 => repeat (first | exact (Kd.R_reads' HO359.out).2.2 | (with_reducible refine Kd.C_alloc ?_ _) | (with_reducible refine Kd.C_drewN ?_ _) | (with_reducible refine Kd.C_drew ?_))); (case side2 => exact (Kd.R_reads' HO359.out).2.1); (case side3 => repeat (first | exact (Kd.R_reads' HO_4.out).2.2 | (with_reducible refine Kd.C_alloc ?_ _) | (with_reducible refine Kd.C_drewN ?_ _) | (with_reducible refine Kd.C_drew ?_))); (case side4 => exact (Kd.R_reads' HO_4.out).2.1); rintro e w' ⟨rfl, ⟨nd, rfl⟩⟩))
                go_meet
                case rel => exact ⟨_, (true), (by first | rfl | (simp; done) | (simp [*]; done)), H', ⟨by have := HK1.out; first | omega | exact Nat.le_refl _⟩, ⟨by repeat (first | (with_reducible first | exact HB.out | apply below_alloc | apply pw_below_drewN | apply below_drew1) | exact HB.out)⟩⟩
            · replace c34 := Bool.eq_false_iff.mpr c34
              subst c34
              have H1 : (sluicegatelaw08_NeedleBack.j2 k1 x3_1 true) = some r := by rw [if_neg (show ¬ (false = true) by decide)] at H; exact H
              clear H
              have H := H1
              clear H1
              have H' := Aside0.mk H
              clear H
              obtain ⟨Ao47, co47, eo47⟩ := Kd.R_slice HO357.out
              subst eo47
              go_wp2_with (first | ((with_reducible refine gate_callee (f := 20) rfl ?_); refine goesL_ (some 72) rfl rfl Tryd.func20 (by kernel_rfl) rfl #[.slice Ao47 t353.length co47] rfl (by (try simp only [List.map_toArray, List.map_cons, List.map_nil]); first | done | rfl | (simp only [List.length_drop, List.length_take]; rfl)) ?_; (with_reducible refine (sluicegatelaw08_told.calls k1 _ _ t353 t360 _ ?side1 ?side2 A32.out).mono ?_); (case side1 => repeat (first | exact (Kd.R_reads' HO357.out).2.2 | (with_reducible refine Kd.C_alloc ?_ _) | (with_reducible refine Kd.C_drewN ?_ _) | (with_reducible refine Kd.C_drew ?_))); (case side2 => exact (Kd.R_reads' HO357.out).2.1); rintro e w48 ⟨v361, rfl, ho0, hb⟩; refine ⟨_, rfl, ?_⟩; have n0_ := Aside0.mk (Kd.R_below (by (with_reducible repeat (first | apply Kd.R_alloc | apply Kd.R_drewN | apply Kd.R_drew)); exact HO_4.out) hb); have n1_ := Aside0.mk (Kd.R_below (by (with_reducible repeat (first | apply Kd.R_alloc | apply Kd.R_drewN | apply Kd.R_drew)); exact HO357.out) hb); have n2_ := Aside0.mk (Kd.R_below (by (with_reducible repeat (first | apply Kd.R_alloc | apply Kd.R_drewN | apply Kd.R_drew)); exact HO359.out) hb); have n3_ := Aside0.mk (Kd.R_lower ho0 (below_size (by repeat (first | (with_reducible first | exact HB.out | apply below_alloc | apply pw_below_drewN | apply below_drew1) | exact HB.out)))); have n4_ := Aside0.mk (below_step (by repeat (first | (with_reducible first | exact HB.out | apply below_alloc | apply pw_below_drewN | apply below_drew1) | exact HB.out)) hb); clear HO_4; clear HO357; clear HO359; clear HB; have HO_4 := n0_; have HO357 := n1_; have HO359 := n2_; have HO362 := n3_; have HB := n4_; clear n0_ n1_ n2_ n3_ n4_; (try clear hb); (try clear hb2); (try clear hk); (try clear hi); (try clear ho0); obtain ⟨Ao49, co49, eo49⟩ := Kd.R_slice HO362.out; subst eo49) | ((with_reducible refine gate_callee (f := 19) rfl ?_); refine goesL_ (some 74) rfl rfl Tryd.func19 (by kernel_rfl) rfl #[.slice Ao49 t360.length co49, .slice A0 l0.length c0] rfl (by (try simp only [List.map_toArray, List.map_cons, List.map_nil]); first | done | rfl | (simp only [List.length_drop, List.length_take]; rfl)) ?_; (with_reducible refine (sluicegateref08_Same.calls k1 _ _ t360 _ _ l0 false _ ?side1 ?side2 ?side3 ?side4 A33.out).mono ?_); (case side1 => repeat (first | exact (Kd.R_reads' HO362.out).2.2 | (with_reducible refine Kd.C_alloc ?_ _) | (with_reducible refine Kd.C_drewN ?_ _) | (with_reducible refine Kd.C_drew ?_))); (case side2 => exact (Kd.R_reads' HO362.out).2.1); (case side3 => repeat (first | exact (Kd.C_below HR0.out HB.out) | (with_reducible refine Kd.C_alloc ?_ _) | (with_reducible refine Kd.C_drewN ?_ _) | (with_reducible refine Kd.C_drew ?_))); (case side4 => exact HC0.out); rintro e w' ⟨rfl, ⟨nd, rfl⟩⟩; refine ⟨_, rfl, ?_⟩))
              go_meet
              case rel => exact ⟨_, (true), (by first | rfl | (simp; done) | (simp [*]; done)), H', ⟨by have := HK1.out; first | omega | exact Nat.le_refl _⟩, ⟨by repeat (first | (with_reducible first | exact HB.out | apply below_alloc | apply pw_below_drewN | apply below_drew1) | exact HB.out)⟩⟩
          case rest =>
            clear HC30
            try clear c1
            try clear c2
            try clear c2b0
            try clear c2b1
            try clear p2
            try clear c3
            try clear p3
            try clear q3
            try clear hx3
            try clear c5
            try clear c5b0
            try clear c6
            try clear p6
            try clear c7
            try clear c7b0
            try clear c8
            try clear c8b0
            try clear c8b1
            try clear c9
            try clear c10
            try clear c11
            try clear c12
            try clear c12b0
            try clear c13
            try clear c13b0
            try clear c16
            try clear c16b0
            try clear c16b1
            try clear c17
            try clear c18
            try clear c18b0
            try clear c18b1
            try clear c18b2
            try clear c19
            try clear c20
            try clear c22
            try clear c22b0
            try clear c22b1
            try clear c34
            try clear p34
            try clear q34
            try clear hx34
            try clear c36
            try clear hx341_0
            try clear hx341_1
            try clear hx342_0
            try clear hx342_1
            try clear hx344_0
            try clear hx344_1
            try clear p2
            try clear p3
            try clear p341
            try clear p342
            try clear p344
            try clear q3
            try clear q341
            try clear q342
            try clear q344
            obtain ⟨kq, x85_29, rfl, HA, HJ29, HB⟩ := hcut
            cases kq with
            | zero => exact absurd HA.out (by simp [sluicegatelaw08_NeedleBack.j2])
            | succ kj29 =>
              have H := HA.out
              clear HA
              simp only [sluicegatelaw08_NeedleBack.j2] at H
              by_cases c50 : x85_29 = true
              · subst c50
                have H1 : (some false) = some r := by rw [if_pos rfl] at H; exact H
                clear H
                have H := H1
                clear H1
                obtain rfl := Option.some.inj H
                go_wp2
                go_ret
                exact ⟨by first | rfl | (simp [errW_none, errW_some] <;> rfl) | (simp [*, errW_none, errW_some] <;> rfl), by repeat (first | (with_reducible first | exact HB.out | apply below_alloc | apply pw_below_drewN | apply below_drew1) | exact HB.out)⟩
              · replace c50 := Bool.eq_false_iff.mpr c50
                subst c50
                have H1 : (if x3_1.toList = ([] : List UInt8) then ((sluicegatelaw08_live.f kj29).bind fun t365 => (some t365)) else (if 0 ≤ (wrap64 ((x3_1.size : Int) - 1)) then (if (wrap64 ((x3_1.size : Int) - 1)) ≤ (x3_1.size : Int) then ((needle_All.f (x3_1.extract 0 ((wrap64 ((x3_1.size : Int) - 1)) : Int).toNat)).bind fun bt366 => (if (bt366.1.length : Int) = 0 then (if bt366.2.2 = 3 then ((sluicegatelaw08_live.f kj29).bind fun t373 => (some t373)) else (some false)) else (some false))) else (none)) else (none))) = some r := by rw [if_neg (show ¬ (false = true) by decide)] at H; exact H
                clear H
                have H := H1
                clear H1
                by_cases c51 : x3_1.toList = ([] : List UInt8)
                · rw [if_pos c51] at H
                  have c51b0 : (x3_1.toList == ([] : List UInt8)) = true := beq_iff_eq.mpr c51
                  have c51b1 : (x3_1.toList != ([] : List UInt8)) = false := bne_eq_false_iff_eq.mpr c51
                  clear c51
                  replace H := Option.bind_eq_some_iff.mp H
                  obtain ⟨t365, A520, H⟩ := H
                  replace H : (some t365) = some r := H
                  have A52 := Aside0.mk A520
                  clear A520
                  obtain rfl := Option.some.inj H
                  go_wp2_with (first | ((with_reducible refine gate_callee (f := 9) rfl ?_); refine goesL_ (some 88) rfl rfl Tryd.func9 (by kernel_rfl) rfl #[] rfl (by (try simp only [List.map_toArray, List.map_cons, List.map_nil]); first | done | rfl | (simp only [List.length_drop, List.length_take]; rfl)) ?_; (with_reducible refine (sluicegatelaw08_live.calls kj29  t365 _ A52.out).mono ?_); rintro e w53 ⟨rfl, hb⟩; refine ⟨_, rfl, ?_⟩; have n0_ := Aside0.mk (below_step (by repeat (first | (with_reducible first | exact HB.out | apply below_alloc | apply pw_below_drewN | apply below_drew1) | exact HB.out)) hb); clear HB; have HB := n0_; clear n0_; (try clear hb); (try clear hb2); (try clear hk); (try clear hi)))
                  go_ret
                  exact ⟨by first | rfl | (simp [errW_none, errW_some] <;> rfl) | (simp [*, errW_none, errW_some] <;> rfl), by repeat (first | (with_reducible first | exact HB.out | apply below_alloc | apply pw_below_drewN | apply below_drew1) | exact HB.out)⟩
                · rw [if_neg c51] at H
                  have c51b0 : (x3_1.toList == ([] : List UInt8)) = false := beq_eq_false_iff_ne.mpr c51
                  have c51b1 : (x3_1.toList != ([] : List UInt8)) = true := bne_iff_ne.mpr c51
                  obtain ⟨ji54, hji54⟩ : ∃ j_ : Int, (wrap64 ((x3_1.size : Int) - 1)) = j_ := ⟨_, rfl⟩
                  replace H : (if 0 ≤ (ji54) then (if (ji54) ≤ (x3_1.size : Int) then ((needle_All.f (x3_1.extract 0 ((ji54) : Int).toNat)).bind fun bt366 => (if (bt366.1.length : Int) = 0 then (if bt366.2.2 = 3 then ((sluicegatelaw08_live.f kj29).bind fun t373 => (some t373)) else (some false)) else (some false))) else (none)) else (none)) = some r := by first | (rw [hji54] at H; exact H) | (simp only [hji54] at H ⊢; exact H)
                  have hji54w : (IntKind.i64.wrap ((x3_1.size : Int) - 1)) = ji54 := (i64_w _).trans hji54
                  by_cases c55 : 0 ≤ (ji54)
                  · rw [if_pos c55] at H
                    have c55b0 := eq_true c55
                    have c55b1 : decide (0 ≤ (ji54)) = true := decide_eq_true c55
                    clear c55
                    by_cases c56 : (ji54) ≤ (x3_1.size : Int)
                    · rw [if_pos c56] at H
                      have c56b0 := eq_true c56
                      have c56b1 : decide ((ji54) ≤ (x3_1.size : Int)) = true := decide_eq_true c56
                      clear c56
                      replace H := Option.bind_eq_some_iff.mp H
                      obtain ⟨⟨t366, t367, t368⟩, A570, H⟩ := H
                      replace H : (if (t366.length : Int) = 0 then (if t368 = 3 then ((sluicegatelaw08_live.f kj29).bind fun t373 => (some t373)) else (some false)) else (some false)) = some r := H
                      have A57 := Aside0.mk A570
                      clear A570
                      by_cases c58 : (t366.length : Int) = 0
                      · rw [if_pos c58] at H
                        have c58b0 : ((t366.length : Int) == 0) = true := beq_iff_eq.mpr c58
                        have c58b1 : ((t366.length : Int) != 0) = false := bne_eq_false_iff_eq.mpr c58
                        clear c58
                        by_cases c59 : t368 = 3
                        · rw [if_pos c59] at H
                          have c59b0 : (t368 == 3) = true := beq_iff_eq.mpr c59
                          have c59b1 : (t368 != 3) = false := bne_eq_false_iff_eq.mpr c59
                          clear c59
                          replace H := Option.bind_eq_some_iff.mp H
                          obtain ⟨t373, A600, H⟩ := H
                          replace H : (some t373) = some r := H
                          have A60 := Aside0.mk A600
                          clear A600
                          obtain rfl := Option.some.inj H
                          go_wp2_with (first | ((with_reducible refine gate_callee (f := 17) rfl ?_); refine goesL_ (some 95) rfl rfl Tryd.func17 (by kernel_rfl) rfl #[.string (x3_1.extract 0 ((ji54) : Int).toNat)] rfl (by (try simp only [List.map_toArray, List.map_cons, List.map_nil]); first | done | (simp only [hji54]; rfl) | rfl | (simp only [List.length_drop, List.length_take]; rfl)) ?_; (with_reducible refine (needle_All.calls (x3_1.extract 0 ((ji54) : Int).toNat) t366 t367 t368 _ A57.out).mono ?_); rintro e w61 ⟨v369, v371, rfl, ho0, ho1, hb⟩; refine ⟨_, rfl, ?_⟩; have n0_ := Aside0.mk (Kd.R_lower ho0 (below_size (by repeat (first | (with_reducible first | exact HB.out | apply below_alloc | apply pw_below_drewN | apply below_drew1) | exact HB.out)))); have n1_ := Aside0.mk (Kd.R_lower ho1 (below_size (by repeat (first | (with_reducible first | exact HB.out | apply below_alloc | apply pw_below_drewN | apply below_drew1) | exact HB.out)))); have n2_ := Aside0.mk (below_step (by repeat (first | (with_reducible first | exact HB.out | apply below_alloc | apply pw_below_drewN | apply below_drew1) | exact HB.out)) hb); clear HB; have HO370 := n0_; have HO372 := n1_; have HB := n2_; clear n0_ n1_ n2_; (try clear hb); (try clear hb2); (try clear hk); (try clear hi); (try clear ho0); (try clear ho1); obtain ⟨Ao62, co62, eo62⟩ := Kd.R_slice HO370.out; subst eo62) | (go_at_call 9; (with_reducible refine (sluicegatelaw08_live.calls kj29  t373 _ A60.out).mono ?_); rintro e w63 ⟨rfl, hb⟩; have n0_ := Aside0.mk (Kd.R_below (by (with_reducible repeat (first | apply Kd.R_alloc | apply Kd.R_drewN | apply Kd.R_drew)); exact HO370.out) hb); have n1_ := Aside0.mk (Kd.R_below (by (with_reducible repeat (first | apply Kd.R_alloc | apply Kd.R_drewN | apply Kd.R_drew)); exact HO372.out) hb); have n2_ := Aside0.mk (below_step (by repeat (first | (with_reducible first | exact HB.out | apply below_alloc | apply pw_below_drewN | apply below_drew1) | exact HB.out)) hb); clear HO370; clear HO372; clear HB; have HO370 := n0_; have HO372 := n1_; have HB := n2_; clear n0_ n1_ n2_; (try clear hb); (try clear hb2); (try clear hk); (try clear hi)))
                          go_ret
                          exact ⟨by first | rfl | (simp [errW_none, errW_some] <;> rfl) | (simp only [← hji54]; first | rfl | (simp [errW_none, errW_some] <;> rfl)) | (simp [*, errW_none, errW_some] <;> rfl), by repeat (first | (with_reducible first | exact HB.out | apply below_alloc | apply pw_below_drewN | apply below_drew1) | exact HB.out)⟩
                        · rw [if_neg c59] at H
                          have c59b0 : (t368 == 3) = false := beq_eq_false_iff_ne.mpr c59
                          have c59b1 : (t368 != 3) = true := bne_iff_ne.mpr c59
                          obtain rfl := Option.some.inj H
                          go_wp2_with (first | ((with_reducible refine gate_callee (f := 17) rfl ?_); refine goesL_ (some 95) rfl rfl Tryd.func17 (by kernel_rfl) rfl #[.string (x3_1.extract 0 ((ji54) : Int).toNat)] rfl (by (try simp only [List.map_toArray, List.map_cons, List.map_nil]); first | done | (simp only [hji54]; rfl) | rfl | (simp only [List.length_drop, List.length_take]; rfl)) ?_; (with_reducible refine (needle_All.calls (x3_1.extract 0 ((ji54) : Int).toNat) t366 t367 t368 _ A57.out).mono ?_); rintro e w64 ⟨v369, v371, rfl, ho0, ho1, hb⟩; refine ⟨_, rfl, ?_⟩; have n0_ := Aside0.mk (Kd.R_lower ho0 (below_size (by repeat (first | (with_reducible first | exact HB.out | apply below_alloc | apply pw_below_drewN | apply below_drew1) | exact HB.out)))); have n1_ := Aside0.mk (Kd.R_lower ho1 (below_size (by repeat (first | (with_reducible first | exact HB.out | apply below_alloc | apply pw_below_drewN | apply below_drew1) | exact HB.out)))); have n2_ := Aside0.mk (below_step (by repeat (first | (with_reducible first | exact HB.out | apply below_alloc | apply pw_below_drewN | apply below_drew1) | exact HB.out)) hb); clear HB; have HO370 := n0_; have HO372 := n1_; have HB := n2_; clear n0_ n1_ n2_; (try clear hb); (try clear hb2); (try clear hk); (try clear hi); (try clear ho0); (try clear ho1); obtain ⟨Ao65, co65, eo65⟩ := Kd.R_slice HO370.out; subst eo65))
                          go_ret
                          exact ⟨by first | rfl | (simp [errW_none, errW_some] <;> rfl) | (simp only [← hji54]; first | rfl | (simp [errW_none, errW_some] <;> rfl)) | (simp [*, errW_none, errW_some] <;> rfl), by repeat (first | (with_reducible first | exact HB.out | apply below_alloc | apply pw_below_drewN | apply below_drew1) | exact HB.out)⟩
                      · rw [if_neg c58] at H
                        have c58b0 : ((t366.length : Int) == 0) = false := beq_eq_false_iff_ne.mpr c58
                        have c58b1 : ((t366.length : Int) != 0) = true := bne_iff_ne.mpr c58
                        have c58b2 : ¬ (t366 = []) := fun h_ => c58 (by rw [h_]; rfl)
                        obtain rfl := Option.some.inj H
                        go_wp2_with (first | ((with_reducible refine gate_callee (f := 17) rfl ?_); refine goesL_ (some 95) rfl rfl Tryd.func17 (by kernel_rfl) rfl #[.string (x3_1.extract 0 ((ji54) : Int).toNat)] rfl (by (try simp only [List.map_toArray, List.map_cons, List.map_nil]); first | done | (simp only [hji54]; rfl) | rfl | (simp only [List.length_drop, List.length_take]; rfl)) ?_; (with_reducible refine (needle_All.calls (x3_1.extract 0 ((ji54) : Int).toNat) t366 t367 t368 _ A57.out).mono ?_); rintro e w66 ⟨v369, v371, rfl, ho0, ho1, hb⟩; refine ⟨_, rfl, ?_⟩; have n0_ := Aside0.mk (Kd.R_lower ho0 (below_size (by repeat (first | (with_reducible first | exact HB.out | apply below_alloc | apply pw_below_drewN | apply below_drew1) | exact HB.out)))); have n1_ := Aside0.mk (Kd.R_lower ho1 (below_size (by repeat (first | (with_reducible first | exact HB.out | apply below_alloc | apply pw_below_drewN | apply below_drew1) | exact HB.out)))); have n2_ := Aside0.mk (below_step (by repeat (first | (with_reducible first | exact HB.out | apply below_alloc | apply pw_below_drewN | apply below_drew1) | exact HB.out)) hb); clear HB; have HO370 := n0_; have HO372 := n1_; have HB := n2_; clear n0_ n1_ n2_; (try clear hb); (try clear hb2); (try clear hk); (try clear hi); (try clear ho0); (try clear ho1); obtain ⟨Ao67, co67, eo67⟩ := Kd.R_slice HO370.out; subst eo67))
                        go_ret
                        exact ⟨by first | rfl | (simp [errW_none, errW_some] <;> rfl) | (simp only [← hji54]; first | rfl | (simp [errW_none, errW_some] <;> rfl)) | (simp [*, errW_none, errW_some] <;> rfl), by repeat (first | (with_reducible first | exact HB.out | apply below_alloc | apply pw_below_drewN | apply below_drew1) | exact HB.out)⟩
                    · rw [if_neg c56] at H
                      exact absurd H (by simp)
                  · rw [if_neg c55] at H
                    exact absurd H (by simp)
end Go.Proofs.YtpgfafpjfdbjmaaDoor.Q
end
section
namespace Go.Proofs.YtpgfafpjfdbjmaaDoor
open Go.RowKit Q Go.Proofs.YtpgfafpjfdbjmaaDoorW.PrintWords Go.Proofs.YtpgfafpjfdbjmaaDoorW.PrintLast Go.Proofs.YtpgfafpjfdbjmaaDoorW.PrintMore
abbrev P2 := List UInt8 × List UInt8
def catN : List P2 → List UInt8
  | [] => []
  | p :: r => wrN p.1 p.2 ++ catN r
def offs : Nat → List P2 → List Int
  | _, [] => []
  | o, p :: r => (o : Int) :: offs (o + (wrN p.1 p.2).length) r
theorem wr_ne (k v r : List UInt8) : wrN k v ++ r ≠ [] := fun h => by
  have h1 := congrArg List.length h
  have h2 := wrN_len k v
  rw [List.length_append, List.length_nil] at h1
  omega
theorem allN_cat (n : Nat) : ∀ (ps : List P2) (o : Nat) (l : List P2) (a : List Int) , (∀ p ∈ ps, chkN p.1 p.2 = 0) → o + (catN ps).length = n → allN n l a (catN ps) = (l ++ ps, a ++ offs o ps, 0)
  | [], o, l, a, _, _ => by
    show allN n l a [] = _
    rw [allN_nil]
    simp [offs]
  | p :: r, o, l, a, h, hn => by
    have hp := rdN_wr p.1 p.2 (catN r) (h p (List.mem_cons_self ..))
    show allN n l a (wrN p.1 p.2 ++ catN r) = _
    rw [allN_ok (wr_ne _ _ _) (by rw [hp]), hp]
    have hlen : (catN (p :: r)).length = (wrN p.1 p.2).length + (catN r).length := by
      show (wrN p.1 p.2 ++ catN r).length = _
      rw [List.length_append]
    simp only
    rw [allN_cat n r (o + (wrN p.1 p.2).length) _ _ (fun q hq => h q (List.mem_cons_of_mem _ hq)) (by omega)]
    have ho : (n : Int) - ((wrN p.1 p.2 ++ catN r).length : Int) = (o : Int) := by
      rw [List.length_append]
      omega
    rw [ho, List.append_assoc, List.append_assoc]
    rfl
theorem catN_append : ∀ (ps qs : List P2), catN (ps ++ qs) = catN ps ++ catN qs
  | [], _ => rfl
  | p :: r, qs => by
    show wrN p.1 p.2 ++ catN (r ++ qs) = _
    rw [catN_append r qs, ← List.append_assoc]
    rfl
theorem allN_cut (n : Nat) (p : P2) (hp : chkN p.1 p.2 = 0) : ∀ (ps : List P2) (l : List P2) (a : List Int), (∀ q ∈ ps, chkN q.1 q.2 = 0) → allN n l a (catN ps ++ (wrN p.1 p.2).take ((wrN p.1 p.2).length - 1)) = ([], [], 3)
  | [], l, a, _ => by
    have hc := rdN_cut p.1 p.2 hp
    have hl := wrN_len p.1 p.2
    have hne : (wrN p.1 p.2).take ((wrN p.1 p.2).length - 1) ≠ [] := fun h => by
      have h1 := congrArg List.length h
      rw [List.length_take, List.length_nil] at h1
      omega
    show allN n l a ((wrN p.1 p.2).take ((wrN p.1 p.2).length - 1)) = _
    rw [allN_bad hne (by rw [hc]; decide), hc]
  | q :: r, l, a, h => by
    have hq := rdN_wr q.1 q.2 (catN r ++ (wrN p.1 p.2).take ((wrN p.1 p.2).length - 1)) (h q (List.mem_cons_self ..))
    show allN n l a (wrN q.1 q.2 ++ catN r ++ _) = _
    rw [List.append_assoc, allN_ok (wr_ne _ _ _) (by rw [hq]), hq]
    exact allN_cut n p hp r _ _ (fun z hz => h z (List.mem_cons_of_mem _ hz))
theorem six_parts (L : List UInt8) (h : L.length = 384) : ((L.drop (64 * 0)).take 64) ++ (((L.drop (64 * 1)).take 64) ++ (((L.drop (64 * 2)).take 64) ++ (((L.drop (64 * 3)).take 64) ++ (((L.drop (64 * 4)).take 64) ++ ((L.drop (64 * 5)).take 64))))) = L := by
  have s : ∀ k, (L.drop (64 * k)).take 64 ++ L.drop (64 * (k + 1)) = L.drop (64 * k) := fun k => by
    have := List.take_append_drop 64 (L.drop (64 * k))
    rw [List.drop_drop] at this
    rw [show 64 * (k + 1) = 64 * k + 64 by omega]
    exact this
  have s5 : (L.drop (64 * 5)).take 64 = L.drop (64 * 5) := List.take_of_length_le (by rw [List.length_drop, h]; decide)
  rw [s5, s 4, s 3, s 2, s 1, s 0]
  rfl
theorem flat_parts (s : List UInt8) (h : s.length ≤ 384) : flatN ([0, 1, 2, 3, 4, 5].map (partN s)) = padN s := by
  have := six_parts (padN s) (padN_len s h)
  unfold flatN
  simp only [List.map_cons, List.map_nil, List.flatten_cons, List.flatten_nil, List.append_nil, partN, B_data]
  exact this
theorem part_size (s : List UInt8) (h : s.length ≤ 384) (i : Nat) (hi : i < 6) : (partN s i).size = 64 := by
  unfold partN
  rw [B_size, List.length_take, List.length_drop, padN_len s h]
  omega
theorem all64_parts (s : List UInt8) (h : s.length ≤ 384) : all64 ([0, 1, 2, 3, 4, 5].map (partN s)) = true := by
  unfold all64
  simp [part_size s h]
theorem join_parts (s : List UInt8) (h : s.length ≤ 384) (n : Nat) (hn : n ≤ 384) : joinR ([0, 1, 2, 3, 4, 5].map (partN s)) (n : Int) = if zeroB ((padN s).drop n) = true then (B ((padN s).take n), 0) else (⟨#[]⟩, 4) := by
  unfold joinR
  rw [if_pos ⟨rfl, by omega, by omega, all64_parts s h⟩, flat_parts s h, Int.toNat_natCast]
theorem chk_a : chkN [97] [] = 0 := by
  unfold chkN
  rw [if_neg (by decide), if_neg (by simp [txt, enc_lt])]
theorem chk_ab : chkN [97, 32, 98] [] = 11 := by
  unfold chkN
  rw [if_pos (by decide)]
theorem chk_big : chkN [97] (List.replicate 349 0) = 12 := by
  unfold chkN
  have e1 : (txt [97]).length = 2 := by simp [txt, enc_lt]
  have e3 : (enc 349).length = 2 := by simp [enc_ge, enc_lt]
  have e2 : (txt (List.replicate 349 0)).length = 351 := by
    unfold txt
    rw [List.length_append, List.length_replicate, e3]
  rw [if_neg (by decide), if_pos (by rw [e1, e2]; decide)]
theorem wr_a : (wrN [97] []).length = 35 := by
  unfold wrN
  rw [List.length_append, List.length_append, SHA_len]
  simp [txt, enc_lt]
theorem ints_self (l : List Int) (hl : l.length ≤ 140737488355328) : ∀ (d i k : Nat), l.length - i = d → i ≤ l.length → d < k → sluicegateref06_Ints.l0 k l l (i : Int) = some true := by
  intro d
  induction d with
  | zero =>
    intro i k hd hi hk
    obtain ⟨k, rfl⟩ : ∃ j, k = j + 1 := ⟨k - 1, by omega⟩
    simp only [sluicegateref06_Ints.l0]
    rw [if_neg (by omega)]
  | succ d ih =>
    intro i k hd hi hk
    obtain ⟨k, rfl⟩ : ∃ j, k = j + 1 := ⟨k - 1, by omega⟩
    simp only [sluicegateref06_Ints.l0]
    rw [if_pos (by omega), if_pos (by omega), if_pos (by omega), if_pos trivial, nwrap_k i (by omega)]
    exact ih (i + 1) k (by omega) (by omega) (by omega)
theorem ints_f (l : List Int) (hl : l.length ≤ 140737488355328) (k : Nat) (hk : l.length < k) : sluicegateref06_Ints.f k l l = some true := by
  unfold sluicegateref06_Ints.f
  rw [if_pos rfl]
  exact ints_self l hl _ 0 k rfl (Nat.zero_le _) (by omega)
theorem same8_self (l : List S23) (hl : l.length ≤ 140737488355328) : ∀ (d i k : Nat), l.length - i = d → i ≤ l.length → d < k → sluicegateref08_Same.l0 k l l (i : Int) = some true := by
  intro d
  induction d with
  | zero =>
    intro i k hd hi hk
    obtain ⟨k, rfl⟩ : ∃ j, k = j + 1 := ⟨k - 1, by omega⟩
    simp only [sluicegateref08_Same.l0]
    rw [if_neg (by omega)]
  | succ d ih =>
    intro i k hd hi hk
    obtain ⟨k, rfl⟩ : ∃ j, k = j + 1 := ⟨k - 1, by omega⟩
    simp only [sluicegateref08_Same.l0]
    rw [if_pos (by omega), if_pos (by omega), if_pos (by omega), if_neg (by simp), nwrap_k i (by omega)]
    exact ih (i + 1) k (by omega) (by omega) (by omega)
theorem same8_f (l : List S23) (hl : l.length ≤ 140737488355328) (k : Nat) (hk : l.length < k) : sluicegateref08_Same.f k l l = some true := by
  unfold sluicegateref08_Same.f
  rw [if_pos rfl]
  exact same8_self l hl _ 0 k rfl (Nat.zero_le _) (by omega)
def rndP (p : P2) : S23 := ⟨B p.1, B p.2⟩
theorem told_self (ps : List P2) (hl : ps.length ≤ 1048576) : ∀ (d i k : Nat), ps.length - i = d → i ≤ ps.length → d < k → sluicegatelaw08_told.l0 k (ps.map ndP) ((ps.take i).map rndP) (i : Int) = some (ps.map rndP) := by
  intro d
  induction d with
  | zero =>
    intro i k hd hi hk
    obtain ⟨k, rfl⟩ : ∃ j, k = j + 1 := ⟨k - 1, by omega⟩
    simp only [sluicegatelaw08_told.l0]
    rw [List.length_map, if_neg (by omega), List.take_of_length_le (by omega)]
  | succ d ih =>
    intro i k hd hi hk
    obtain ⟨k, rfl⟩ : ∃ j, k = j + 1 := ⟨k - 1, by omega⟩
    have hlt : i < ps.length := by omega
    simp only [sluicegatelaw08_told.l0]
    rw [List.length_map, if_pos (by omega), if_pos (by omega), if_pos (by rw [List.length_map, List.length_take]; omega), nwrap_k i (by omega)]
    have hrd : rd_T28 (ps.map ndP) (i : Int) = ndP ps[i] := by
      unfold rd_T28
      rw [Int.toNat_natCast, List.getD_eq_getElem?_getD, List.getElem?_map, List.getElem?_eq_getElem hlt]
      rfl
    rw [hrd]
    have hs : (ps.take i).map rndP ++ [(⟨(ndP ps[i]).f0, (ndP ps[i]).f1⟩ : S23)] = (ps.take (i + 1)).map rndP := by
      rw [List.take_succ_eq_append_getElem hlt, List.map_append]
      rfl
    rw [hs]
    exact ih (i + 1) k (by omega) (by omega) (by omega)
theorem told_f (ps : List P2) (hl : ps.length ≤ 1048576) (k : Nat) (hk : ps.length < k) : sluicegatelaw08_told.f k (ps.map ndP) = some (ps.map rndP) := by
  unfold sluicegatelaw08_told.f
  exact told_self ps hl _ 0 k rfl (Nat.zero_le _) (by omega)
end Go.Proofs.YtpgfafpjfdbjmaaDoor
end
section
namespace Go.Proofs.YtpgfafpjfdbjmaaDoor
open Go.RowKit Q Go.Proofs.YtpgfafpjfdbjmaaDoorW.PrintWords Go.Proofs.YtpgfafpjfdbjmaaDoorW.PrintLast Go.Proofs.YtpgfafpjfdbjmaaDoorW.PrintMore
theorem nb_zeros (n : Nat) : nb (List.replicate n 0) = List.replicate n 0 := by
  unfold nb
  rw [List.map_replicate]
  rfl
theorem zero_tail : zeroB ((padN [97, 98, 99]).drop 3) = true := by
  unfold padN zeroB
  rw [show ([97, 98, 99] : List UInt8) ++ List.replicate (384 - ([97, 98, 99] : List UInt8).length) 0 = [97, 98, 99] ++ List.replicate 381 0 from rfl, List.drop_append_of_le_length (by decide), show ([97, 98, 99] : List UInt8).drop 3 = [] from rfl, List.nil_append, List.all_eq_true]
  intro x hx
  rw [List.eq_of_mem_replicate hx]
  rfl
theorem two_all : allN 70 [] [] (wrN [97] [] ++ wrN [97] []) = ([([97], []), ([97], [])], [0, 35], 0) := by
  have hw := wr_a
  have h := allN_cat 70 [([97], []), ([97], [])] 0 [] [] (fun p hp => by
    simp only [List.mem_cons, List.not_mem_nil, or_false, or_self] at hp
    subst hp
    exact chk_a) (by simp only [catN, List.append_nil, List.length_append]; omega)
  simp only [catN, List.append_nil, List.nil_append, offs] at h
  rw [h, hw]
  rfl
theorem live08 (k : Nat) (hk : 40 ≤ k) : sluicegatelaw08_live.f k = some true := by
  have hw := wr_a
  have e1 : needle_Write.f k (⟨#[97]⟩ : ByteArray) (⟨#[]⟩ : ByteArray) = some (B (wrN [97] []), 0) := by
    have := nwrite_f [97] [] (by decide) (by decide) k (by omega)
    unfold wroteN at this
    rw [if_pos chk_a] at this
    exact this
  have e2 : needle_Read.f k (B (wrN [97] []) ++ (⟨#[120]⟩ : ByteArray)) = some (B [97], B [], B [120], 0) := by
    have := nread_f (wrN [97] [] ++ [120]) (by rw [List.length_append, hw]; decide) k (by omega)
    rw [rdN_wr [97] [] [120] chk_a] at this
    rw [show (⟨#[120]⟩ : ByteArray) = B [120] from rfl, B_append]
    exact this
  have e3 : needle_Write.f k (⟨#[97, 32, 98]⟩ : ByteArray) (⟨#[]⟩ : ByteArray) = some (⟨#[]⟩, 11) := by
    have := nwrite_f [97, 32, 98] [] (by decide) (by decide) k (by omega)
    unfold wroteN at this
    rw [chk_ab, if_neg (by decide)] at this
    exact this
  have e4 : needle_Write.f k (⟨#[97]⟩ : ByteArray) (strOfNums (List.replicate 349 0)) = some (⟨#[]⟩, 12) := by
    have := nwrite_f [97] (List.replicate 349 0) (by decide) (by rw [List.length_replicate]; decide) k (by omega)
    unfold wroteN at this
    rw [chk_big, if_neg (by decide)] at this
    rw [← nb_zeros, strOfNums_nb]
    exact this
  have e5 : needle_Shards.f (⟨#[97, 98, 99]⟩ : ByteArray) = some ([0, 1, 2, 3, 4, 5].map (partN [97, 98, 99]), 0) := rfl
  have e6 : needle_Join.f ([0, 1, 2, 3, 4, 5].map (partN [97, 98, 99])) 3 = some (B [97, 98, 99], 0) := by
    have := join_parts [97, 98, 99] (by decide) 3 (by decide)
    rw [zero_tail, if_pos rfl] at this
    unfold needle_Join.f
    rw [show (3 : Int) = ((3 : Nat) : Int) from rfl, this]
    rfl
  have e7 : needle_All.f (B (wrN [97] []) ++ B (wrN [97] [])) = some ([⟨B [97], B []⟩, ⟨B [97], B []⟩], [0, 35], 0) := by
    rw [B_append]
    unfold needle_All.f
    rw [B_data, B_size, List.length_append, hw, if_pos (by decide), two_all]
    rfl
  have e8 := ints_f [0, 35] (by decide) k (by show 2 < k; omega)
  unfold sluicegatelaw08_live.f
  rw [e1, Option.bind_some]
  simp only
  rw [if_pos (by rw [B_size, hw]; decide), e2, Option.bind_some, e3, Option.bind_some, if_pos (by decide), e4, Option.bind_some, e5, Option.bind_some]
  simp only
  rw [e6, Option.bind_some, if_pos (by rw [B_size, hw]; decide), e7, Option.bind_some]
  simp only
  rw [if_pos (by rw [B_size, hw]; rfl), if_pos trivial, if_pos (by rw [B_toList, B_toList]; rfl), if_pos (by rw [B_toList]), if_pos trivial, if_pos trivial, if_pos trivial, if_pos (by rfl), if_pos trivial, if_pos (by rw [B_toList]), if_pos trivial, if_pos (by rfl), e8, Option.bind_some, if_pos rfl]
  rfl
end Go.Proofs.YtpgfafpjfdbjmaaDoor
end
section
namespace Go.Proofs.YtpgfafpjfdbjmaaDoor
open Go.RowKit Q Go.Proofs.YtpgfafpjfdbjmaaDoorW.PrintWords Go.Proofs.YtpgfafpjfdbjmaaDoorW.PrintLast Go.Proofs.YtpgfafpjfdbjmaaDoorW.PrintMore
def npOf (n : S23) : P2 := (n.f0.data.toList, n.f1.data.toList)
theorem rndP_np (n : S23) : rndP (npOf n) = n := by
  cases n
  simp [rndP, npOf, B_eta]
theorem rnd_map (l : List S23) : (l.map npOf).map rndP = l := by
  rw [List.map_map]
  conv => rhs; rw [← List.map_id l]
  exact List.map_congr_left fun n _ => rndP_np n
theorem offs_append : ∀ (o : Nat) (ps qs : List P2), offs o (ps ++ qs) = offs o ps ++ offs (o + (catN ps).length) qs
  | o, [], qs => rfl
  | o, p :: r, qs => by
    show (o : Int) :: offs (o + (wrN p.1 p.2).length) (r ++ qs) = _
    rw [offs_append _ r qs]
    show _ = (o : Int) :: (offs (o + (wrN p.1 p.2).length) r ++ offs (o + (wrN p.1 p.2 ++ catN r).length) qs)
    rw [List.length_append, Nat.add_assoc]
theorem offs_len : ∀ (o : Nat) (ps : List P2), (offs o ps).length = ps.length
  | _, [] => rfl
  | o, p :: r => by
    show (offs _ r).length + 1 = _
    rw [offs_len _ r]
    rfl
theorem catN_le : ∀ (ps : List P2), (∀ p ∈ ps, chkN p.1 p.2 = 0) → (catN ps).length ≤ 384 * ps.length
  | [], _ => Nat.le_refl _
  | p :: r, h => by
    have h1 := (chkN_small (h p (List.mem_cons_self ..))).2.2.1
    have h2 := catN_le r fun q hq => h q (List.mem_cons_of_mem _ hq)
    show (wrN p.1 p.2 ++ catN r).length ≤ 384 * (r.length + 1)
    rw [List.length_append]
    omega
theorem back_end (l : List S23) (hl : l.length ≤ 8) (hok : ∀ p ∈ l.map npOf, chkN p.1 p.2 = 0) (k : Nat) (hk : 60 ≤ k) : sluicegatelaw08_NeedleBack.l0 (k + 1) l (B (catN (l.map npOf))) (offs 0 (l.map npOf)) (l.length : Int) = some true := by
  have hlen := catN_le _ hok
  rw [List.length_map] at hlen
  have hall := allN_cat (catN (l.map npOf)).length (l.map npOf) 0 [] [] hok (by omega)
  simp only [List.nil_append] at hall
  have e1 : needle_All.f (B (catN (l.map npOf))) = some ((l.map npOf).map ndP, offs 0 (l.map npOf), 0) := by
    unfold needle_All.f
    rw [B_data, B_size, if_pos (by omega), hall]
  have e2 := told_f (l.map npOf) (by rw [List.length_map]; omega) k (by rw [List.length_map]; omega)
  rw [rnd_map] at e2
  have e3 := same8_f l (by omega) k (by omega)
  have e4 := ints_f (offs 0 (l.map npOf)) (by rw [offs_len, List.length_map]; omega) k (by rw [offs_len, List.length_map]; omega)
  rw [sluicegatelaw08_NeedleBack.l0]
  rw [if_neg (by omega), e1, Option.bind_some]
  simp only
  rw [e2, Option.bind_some, e3, Option.bind_some, if_pos rfl, e4, Option.bind_some, if_pos rfl, show ((0 : Int) != 0) = false from rfl]
  obtain ⟨k, rfl⟩ : ∃ j, k = j + 1 := ⟨k - 1, by omega⟩
  have hL := live08 k (by omega)
  rw [sluicegatelaw08_NeedleBack.j2]
  rw [if_neg (by simp), B_toList, B_size]
  by_cases h0 : catN (l.map npOf) = []
  · rw [if_pos h0, hL]; rfl
  rw [if_neg h0]
  have hpos : 0 < (catN (l.map npOf)).length := List.length_pos_iff.2 h0
  have hw : wrap64 (((catN (l.map npOf)).length : Int) - 1) = (((catN (l.map npOf)).length - 1 : Nat) : Int) := by unfold wrap64; omega
  rw [hw, if_pos (by omega), if_pos (by omega), Int.toNat_natCast, B_extract, List.drop_zero, Nat.sub_zero]
  have hne : l.map npOf ≠ [] := fun h => h0 (by rw [h]; rfl)
  obtain ⟨ps, p, hp⟩ : ∃ ps p, l.map npOf = ps ++ [p] := ⟨_, _, (List.dropLast_concat_getLast hne).symm⟩
  rw [hp] at hok ⊢
  have hcut := allN_cut ((catN (ps ++ [p])).length - 1) p (hok p (by simp)) ps [] [] (fun q hq => hok q (by simp [hq]))
  have hcat : catN (ps ++ [p]) = catN ps ++ wrN p.1 p.2 := by
    rw [catN_append]
    show catN ps ++ (wrN p.1 p.2 ++ []) = _
    rw [List.append_nil]
  have hwl := wrN_len p.1 p.2
  have htk : (catN (ps ++ [p])).take ((catN (ps ++ [p])).length - 1) = catN ps ++ (wrN p.1 p.2).take ((wrN p.1 p.2).length - 1) := by
    rw [hcat, List.length_append, List.take_append, List.take_of_length_le (by omega)]
    congr 2
    omega
  have hlt : ((catN (ps ++ [p])).take ((catN (ps ++ [p])).length - 1)).length = (catN (ps ++ [p])).length - 1 := by rw [List.length_take]; omega
  rw [hp] at hlen
  have e5 : needle_All.f (B ((catN (ps ++ [p])).take ((catN (ps ++ [p])).length - 1))) = some ([], [], 3) := by
    unfold needle_All.f
    rw [B_data, B_size, if_pos (by omega), hlt, htk, hcut]
    rfl
  rw [e5, Option.bind_some]
  simp only
  rw [if_pos (by rfl), if_pos trivial, hL]
  rfl
theorem back_loop (l : List S23) (hl : l.length ≤ 8) : ∀ (d i k : Nat), l.length - i = d → i ≤ l.length → 3 * d + 100 ≤ k → (∀ p ∈ (l.take i).map npOf, chkN p.1 p.2 = 0) → sluicegatelaw08_NeedleBack.l0 k l (B (catN ((l.take i).map npOf))) (offs 0 ((l.take i).map npOf)) (i : Int) = some true := by
  intro d
  induction d with
  | zero =>
    intro i k hd hi hk hok
    obtain ⟨k, rfl⟩ : ∃ j, k = j + 1 := ⟨k - 1, by omega⟩
    obtain rfl : i = l.length := by omega
    rw [List.take_length] at hok ⊢
    exact back_end l hl hok k (by omega)
  | succ d ih =>
    intro i k hd hi hk hok
    obtain ⟨k, rfl⟩ : ∃ j, k = j + 1 + 1 := ⟨k - 2, by omega⟩
    have hlt : i < l.length := by omega
    have hL := live08 k (by omega)
    have hrd : rd_T23 l (i : Int) = rndP (npOf l[i]) := by
      unfold rd_T23
      rw [Int.toNat_natCast, List.getD_eq_getElem?_getD, List.getElem?_eq_getElem hlt, rndP_np]
      rfl
    have hJ : sluicegatelaw08_NeedleBack.j1 (k + 1) l (B (catN ((l.take i).map npOf))) (offs 0 ((l.take i).map npOf)) (i : Int) true = some true := by
      rw [sluicegatelaw08_NeedleBack.j1]
      rw [if_pos rfl, hL]
      rfl
    have hlen := catN_le _ hok
    rw [List.length_map, List.length_take] at hlen
    rw [sluicegatelaw08_NeedleBack.l0]
    rw [if_pos (by omega), if_pos (by omega), hrd]
    have hsp : (l.take (i + 1)).map npOf = (l.take i).map npOf ++ [npOf l[i]] := by
      rw [List.take_succ_eq_append_getElem hlt, List.map_append]
      rfl
    generalize npOf l[i] = p at hrd hsp ⊢
    have r0 : (rndP p).f0 = B p.1 := rfl
    have r1 : (rndP p).f1 = B p.2 := rfl
    rw [r0, r1, B_size, B_size]
    by_cases h1 : (p.1.length : Int) > 100
    · rw [if_pos h1]; exact hJ
    rw [if_neg h1]
    by_cases h2 : (p.2.length : Int) > 1000
    · rw [decide_eq_true h2]; exact hJ
    rw [decide_eq_false h2, sluicegatelaw08_NeedleBack.j1]
    rw [if_neg (by simp), if_pos (by omega), if_pos (by omega), hrd, r0, r1]
    simp only [sluicegatelaw08_own.f, Option.bind_some]
    rw [nwrite_f p.1 p.2 (by omega) (by omega) k (by omega), Option.bind_some]
    unfold wroteN
    by_cases hc : chkN p.1 p.2 = 0
    · rw [if_pos hc]
      simp only
      have hw384 := (chkN_small hc).2.2.1
      rw [if_pos trivial, if_pos (by rw [offs_len, List.length_map, List.length_take]; omega), if_pos (by rw [B_size, B_size]; omega), nwrap_k i (by omega), B_append, B_size]
      have hok2 : ∀ q ∈ (l.take (i + 1)).map npOf, chkN q.1 q.2 = 0 := by
        rw [hsp]
        intro q hq
        rcases List.mem_append.1 hq with h | h
        · exact hok q h
        · rw [List.mem_singleton.1 h]; exact hc
      have hc2 : catN ((l.take i).map npOf) ++ wrN p.1 p.2 = catN ((l.take (i + 1)).map npOf) := by
        rw [hsp, catN_append]
        show _ = _ ++ (wrN p.1 p.2 ++ [])
        rw [List.append_nil]
      have ho2 : offs 0 ((l.take i).map npOf) ++ [((catN ((l.take i).map npOf)).length : Int)] = offs 0 ((l.take (i + 1)).map npOf) := by
        rw [hsp, offs_append 0, Nat.zero_add]
        rfl
      rw [hc2, ho2]
      exact ih (i + 1) k (by omega) (by omega) (by omega) hok2
    · rw [if_neg hc]
      simp only
      rw [if_neg hc, if_pos (show (⟨#[]⟩ : ByteArray).toList = [] from B_toList []), hL]
      rfl
theorem Pure.NeedleBack (l0 : List S23) (_ : ∀ x_ ∈ l0, (x_.f0.size ≤ maxLen) ∧ (x_.f1.size ≤ maxLen)) : ∃ k, sluicegatelaw08_NeedleBack.f k l0 = some true := by
  refine ⟨200, ?_⟩
  unfold sluicegatelaw08_NeedleBack.f
  by_cases h : (l0.length : Int) > 8
  · rw [if_pos h, live08 200 (by decide)]
    rfl
  · rw [if_neg h]
    exact back_loop l0 (by omega) l0.length 0 200 rfl (Nat.zero_le _) (by omega) (fun p hp => by simp at hp)
end Go.Proofs.YtpgfafpjfdbjmaaDoor
end
