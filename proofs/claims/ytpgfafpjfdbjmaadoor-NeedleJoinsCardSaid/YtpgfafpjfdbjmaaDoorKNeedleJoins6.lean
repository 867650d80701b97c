/- Lemmas for the law NeedleJoins, merged out of several texts and cut down to what it names, by a program of this session (some of the first ones are of the words that print.sh wrote for this claim). -/
import Derived.Test.YtpgfafpjfdbjmaaDoorKNeedleJoins1
import Derived.Test.YtpgfafpjfdbjmaaDoorKNeedleJoins2
import Derived.Test.YtpgfafpjfdbjmaaDoorKNeedleJoins3
import Derived.Test.YtpgfafpjfdbjmaaDoorKNeedleJoins4
import Derived.Test.YtpgfafpjfdbjmaaDoorKNeedleJoins5
set_option linter.unusedVariables false
set_option linter.unusedSimpArgs false
section
namespace Go.Proofs.YtpgfafpjfdbjmaaDoor.Q
open Go.RowKit Go.Proofs.YtpgfafpjfdbjmaaDoorW.PrintWords Go.Proofs.YtpgfafpjfdbjmaaDoorW.PrintLast Go.Proofs.YtpgfafpjfdbjmaaDoorW.PrintMore
attribute [local go_sem] max2_int min2_int max_two min_two max_three min_three max_four min_four   -- for this text's walks alone
set_option linter.unusedVariables false
set_option linter.unusedSimpArgs false
mutual
def sluicegatelaw08_NeedleJoins.j0 : Nat → ByteArray → Int → List ByteArray → ByteArray → Int → Bool → Option (Bool)
  | 0, _, _, _, _, _, _ => none
  | k + 1, x0, x1, x5, x7, x8, x52 => if x52 = true then (if x7.toList = x0.toList then (if x8 = 0 then ((sluicegatelaw08_live.f k).bind fun t381 => (some t381)) else (some false)) else (some false)) else ((needle_Join.f x5 x1).bind fun bt382 => (sluicegatelaw08_NeedleJoins.l0 k x0 x1 bt382.1 bt382.2 true x1))
def sluicegatelaw08_NeedleJoins.l0 : Nat → ByteArray → Int → ByteArray → Int → Bool → Int → Option (Bool)
  | 0, _, _, _, _, _, _ => none
  | k + 1, x0, x1, x9, x10, x11, x12 => if x12 < (x0.size : Int) then (if x11 = true then (if 0 ≤ x12 then (sluicegatelaw08_NeedleJoins.l0 k x0 x1 x9 x10 ((bt x0 x12) == 0) (wrap64 (x12 + 1))) else (none)) else (sluicegatelaw08_NeedleJoins.l0 k x0 x1 x9 x10 false (wrap64 (x12 + 1)))) else (if ((x10 == 0) == x11) = true then (if x10 = 0 then (if (x9.size : Int) = x1 then ((sluicegatelaw08_live.f k).bind fun t384 => (some t384)) else (some false)) else ((sluicegatelaw08_live.f k).bind fun t385 => (some t385))) else (some false))
end
def sluicegatelaw08_NeedleJoins.f (k : Nat) (a0 : ByteArray) (a1 : Int) : Option (Bool) := (needle_Shards.f a0).bind fun bt374 => (if (a0.size : Int) > 384 then (if bt374.2 = 12 then (if (bt374.1.length : Int) = 0 then ((sluicegatelaw08_live.f k).bind fun t378 => (some t378)) else (some false)) else (some false)) else ((needle_Join.f bt374.1 (a0.size : Int)).bind fun bt379 => (if bt379.1.toList = a0.toList then (if bt379.2 = 0 then (if a1 < 0 then (sluicegatelaw08_NeedleJoins.j0 k a0 a1 bt374.1 bt379.1 bt379.2 true) else (sluicegatelaw08_NeedleJoins.j0 k a0 a1 bt374.1 bt379.1 bt379.2 (decide (a1 > 384)))) else (sluicegatelaw08_NeedleJoins.j0 k a0 a1 bt374.1 bt379.1 bt379.2 true)) else (sluicegatelaw08_NeedleJoins.j0 k a0 a1 bt374.1 bt379.1 bt379.2 true))))
set_option maxHeartbeats 8000000 in
set_option maxRecDepth 100000 in
theorem sluicegatelaw08_NeedleJoins.calls (k : Nat) (a0 : ByteArray) (a1 : Int) (r : Bool) (w : World) (h : sluicegatelaw08_NeedleJoins.f k a0 a1 = some r) :
    Calls Tryd.prog 7 #[.string a0, .int .i64 a1] w fun e w' => e = .returned (.bool r) ∧ Below w.heap.size w w' := by
  have HB := Aside0.mk (Below.refl w.heap.size w)
  have H : ((needle_Shards.f a0).bind fun bt374 => (if (a0.size : Int) > 384 then (if bt374.2 = 12 then (if (bt374.1.length : Int) = 0 then ((sluicegatelaw08_live.f k).bind fun t378 => (some t378)) else (some false)) else (some false)) else ((needle_Join.f bt374.1 (a0.size : Int)).bind fun bt379 => (if bt379.1.toList = a0.toList then (if bt379.2 = 0 then (if a1 < 0 then (sluicegatelaw08_NeedleJoins.j0 k a0 a1 bt374.1 bt379.1 bt379.2 true) else (sluicegatelaw08_NeedleJoins.j0 k a0 a1 bt374.1 bt379.1 bt379.2 (decide (a1 > 384)))) else (sluicegatelaw08_NeedleJoins.j0 k a0 a1 bt374.1 bt379.1 bt379.2 true)) else (sluicegatelaw08_NeedleJoins.j0 k a0 a1 bt374.1 bt379.1 bt379.2 true))))) = some r := h
  clear h
  replace H := Option.bind_eq_some_iff.mp H
  obtain ⟨⟨t374, t375⟩, A30, H⟩ := H
  replace H : (if (a0.size : Int) > 384 then (if t375 = 12 then (if (t374.length : Int) = 0 then ((sluicegatelaw08_live.f k).bind fun t378 => (some t378)) else (some false)) else (some false)) else ((needle_Join.f t374 (a0.size : Int)).bind fun bt379 => (if bt379.1.toList = a0.toList then (if bt379.2 = 0 then (if a1 < 0 then (sluicegatelaw08_NeedleJoins.j0 k a0 a1 t374 bt379.1 bt379.2 true) else (sluicegatelaw08_NeedleJoins.j0 k a0 a1 t374 bt379.1 bt379.2 (decide (a1 > 384)))) else (sluicegatelaw08_NeedleJoins.j0 k a0 a1 t374 bt379.1 bt379.2 true)) else (sluicegatelaw08_NeedleJoins.j0 k a0 a1 t374 bt379.1 bt379.2 true)))) = some r := H
  have A3 := Aside0.mk A30
  clear A30
  by_cases c4 : (a0.size : Int) > 384
  · rw [if_pos c4] at H
    have c4b0 : decide (384 < (a0.size : Int)) = true := decide_eq_true c4
    have c4b1 : decide (384 < a0.size) = true := decide_eq_true (by omega)
    clear c4
    by_cases c5 : t375 = 12
    · rw [if_pos c5] at H
      have c5b0 : (t375 == 12) = true := beq_iff_eq.mpr c5
      have c5b1 : (t375 != 12) = false := bne_eq_false_iff_eq.mpr c5
      clear c5
      by_cases c6 : (t374.length : Int) = 0
      · rw [if_pos c6] at H
        have c6b0 : ((t374.length : Int) == 0) = true := beq_iff_eq.mpr c6
        have c6b1 : ((t374.length : Int) != 0) = false := bne_eq_false_iff_eq.mpr c6
        clear c6
        replace H := Option.bind_eq_some_iff.mp H
        obtain ⟨t378, A70, H⟩ := H
        replace H : (some t378) = some r := H
        have A7 := Aside0.mk A70
        clear A70
        obtain rfl := Option.some.inj H
        go_enter Tryd.func7, Tryd.ntmps7
        go_wp2_with (first | ((with_reducible refine gate_callee (f := 23) rfl ?_); refine goesL_ (some 15) rfl rfl Tryd.func23 (by kernel_rfl) rfl #[.string a0] rfl (by (try simp only [List.map_toArray, List.map_cons, List.map_nil]); first | done | rfl | (simp only [List.length_drop, List.length_take]; rfl)) ?_; (with_reducible refine (needle_Shards.calls a0 t374 t375 _ A3.out).mono ?_); rintro e w8 ⟨v376, rfl, ho0, hb⟩; refine ⟨_, rfl, ?_⟩; have n0_ := Aside0.mk (Kd.R_lower ho0 (below_size (by repeat (first | (with_reducible first | exact HB.out | apply below_alloc | apply pw_below_drewN | apply below_drew1) | exact HB.out)))); have n1_ := Aside0.mk (below_step (by repeat (first | (with_reducible first | exact HB.out | apply below_alloc | apply pw_below_drewN | apply below_drew1) | exact HB.out)) hb); clear HB; have HO377 := n0_; have HB := n1_; clear n0_ n1_; (try clear hb); (try clear hb2); (try clear hk); (try clear hi); (try clear ho0); obtain ⟨Ao9, co9, eo9⟩ := Kd.R_slice HO377.out; subst eo9) | (go_at_call 9; (with_reducible refine (sluicegatelaw08_live.calls k  t378 _ A7.out).mono ?_); rintro e w10 ⟨rfl, hb⟩; have n0_ := Aside0.mk (Kd.R_below (by (with_reducible repeat (first | apply Kd.R_alloc | apply Kd.R_drewN | apply Kd.R_drew)); exact HO377.out) hb); have n1_ := Aside0.mk (below_step (by repeat (first | (with_reducible first | exact HB.out | apply below_alloc | apply pw_below_drewN | apply below_drew1) | exact HB.out)) hb); clear HO377; clear HB; have HO377 := n0_; have HB := n1_; clear n0_ n1_; (try clear hb); (try clear hb2); (try clear hk); (try clear hi)))
        go_ret
        exact ⟨by first | rfl | (simp [errW_none, errW_some] <;> rfl) | (simp [*, errW_none, errW_some] <;> rfl), by repeat (first | (with_reducible first | exact HB.out | apply below_alloc | apply pw_below_drewN | apply below_drew1) | exact HB.out)⟩
      · rw [if_neg c6] at H
        have c6b0 : ((t374.length : Int) == 0) = false := beq_eq_false_iff_ne.mpr c6
        have c6b1 : ((t374.length : Int) != 0) = true := bne_iff_ne.mpr c6
        have c6b2 : ¬ (t374 = []) := fun h_ => c6 (by rw [h_]; rfl)
        obtain rfl := Option.some.inj H
        go_enter Tryd.func7, Tryd.ntmps7
        go_wp2_with (first | ((with_reducible refine gate_callee (f := 23) rfl ?_); refine goesL_ (some 15) rfl rfl Tryd.func23 (by kernel_rfl) rfl #[.string a0] rfl (by (try simp only [List.map_toArray, List.map_cons, List.map_nil]); first | done | rfl | (simp only [List.length_drop, List.length_take]; rfl)) ?_; (with_reducible refine (needle_Shards.calls a0 t374 t375 _ A3.out).mono ?_); rintro e w11 ⟨v376, rfl, ho0, hb⟩; refine ⟨_, rfl, ?_⟩; have n0_ := Aside0.mk (Kd.R_lower ho0 (below_size (by repeat (first | (with_reducible first | exact HB.out | apply below_alloc | apply pw_below_drewN | apply below_drew1) | exact HB.out)))); have n1_ := Aside0.mk (below_step (by repeat (first | (with_reducible first | exact HB.out | apply below_alloc | apply pw_below_drewN | apply below_drew1) | exact HB.out)) hb); clear HB; have HO377 := n0_; have HB := n1_; clear n0_ n1_; (try clear hb); (try clear hb2); (try clear hk); (try clear hi); (try clear ho0); obtain ⟨Ao12, co12, eo12⟩ := Kd.R_slice HO377.out; subst eo12))
        go_ret
        exact ⟨by first | rfl | (simp [errW_none, errW_some] <;> rfl) | (simp [*, errW_none, errW_some] <;> rfl), by repeat (first | (with_reducible first | exact HB.out | apply below_alloc | apply pw_below_drewN | apply below_drew1) | exact HB.out)⟩
    · rw [if_neg c5] at H
      have c5b0 : (t375 == 12) = false := beq_eq_false_iff_ne.mpr c5
      have c5b1 : (t375 != 12) = true := bne_iff_ne.mpr c5
      obtain rfl := Option.some.inj H
      go_enter Tryd.func7, Tryd.ntmps7
      go_wp2_with (first | ((with_reducible refine gate_callee (f := 23) rfl ?_); refine goesL_ (some 15) rfl rfl Tryd.func23 (by kernel_rfl) rfl #[.string a0] rfl (by (try simp only [List.map_toArray, List.map_cons, List.map_nil]); first | done | rfl | (simp only [List.length_drop, List.length_take]; rfl)) ?_; (with_reducible refine (needle_Shards.calls a0 t374 t375 _ A3.out).mono ?_); rintro e w13 ⟨v376, rfl, ho0, hb⟩; refine ⟨_, rfl, ?_⟩; have n0_ := Aside0.mk (Kd.R_lower ho0 (below_size (by repeat (first | (with_reducible first | exact HB.out | apply below_alloc | apply pw_below_drewN | apply below_drew1) | exact HB.out)))); have n1_ := Aside0.mk (below_step (by repeat (first | (with_reducible first | exact HB.out | apply below_alloc | apply pw_below_drewN | apply below_drew1) | exact HB.out)) hb); clear HB; have HO377 := n0_; have HB := n1_; clear n0_ n1_; (try clear hb); (try clear hb2); (try clear hk); (try clear hi); (try clear ho0)))
      go_ret
      exact ⟨by first | rfl | (simp [errW_none, errW_some] <;> rfl) | (simp [*, errW_none, errW_some] <;> rfl), by repeat (first | (with_reducible first | exact HB.out | apply below_alloc | apply pw_below_drewN | apply below_drew1) | exact HB.out)⟩
  · rw [if_neg c4] at H
    have c4b0 : decide (384 < (a0.size : Int)) = false := decide_eq_false c4
    have c4b1 : decide (384 < a0.size) = false := decide_eq_false (by omega)
    clear c4
    replace H := Option.bind_eq_some_iff.mp H
    obtain ⟨⟨t379, t380⟩, A140, H⟩ := H
    replace H : (if t379.toList = a0.toList then (if t380 = 0 then (if a1 < 0 then (sluicegatelaw08_NeedleJoins.j0 k a0 a1 t374 t379 t380 true) else (sluicegatelaw08_NeedleJoins.j0 k a0 a1 t374 t379 t380 (decide (a1 > 384)))) else (sluicegatelaw08_NeedleJoins.j0 k a0 a1 t374 t379 t380 true)) else (sluicegatelaw08_NeedleJoins.j0 k a0 a1 t374 t379 t380 true)) = some r := H
    have A14 := Aside0.mk A140
    clear A140
    have HC15 := Aside0.mk H
    clear H
    go_enter Tryd.func7, Tryd.ntmps7
    go_upto_region 5 with (first | ((with_reducible refine gate_callee (f := 23) rfl ?_); refine goesL_ (some 15) rfl rfl Tryd.func23 (by kernel_rfl) rfl #[.string a0] rfl (by (try simp only [List.map_toArray, List.map_cons, List.map_nil]); first | done | rfl | (simp only [List.length_drop, List.length_take]; rfl)) ?_; (with_reducible refine (needle_Shards.calls a0 t374 t375 _ A3.out).mono ?_); rintro e w16 ⟨v376, rfl, ho0, hb⟩; refine ⟨_, rfl, ?_⟩; have n0_ := Aside0.mk (Kd.R_lower ho0 (below_size (by repeat (first | (with_reducible first | exact HB.out | apply below_alloc | apply pw_below_drewN | apply below_drew1) | exact HB.out)))); have n1_ := Aside0.mk (below_step (by repeat (first | (with_reducible first | exact HB.out | apply below_alloc | apply pw_below_drewN | apply below_drew1) | exact HB.out)) hb); clear HB; have HO377 := n0_; have HB := n1_; clear n0_ n1_; (try clear hb); (try clear hb2); (try clear hk); (try clear hi); (try clear ho0); obtain ⟨Ao17, co17, eo17⟩ := Kd.R_slice HO377.out; subst eo17) | ((with_reducible refine gate_callee (f := 25) rfl ?_); refine goesL_ (some 35) rfl rfl Tryd.func25 (by kernel_rfl) rfl #[.slice Ao17 t374.length co17, .int .i64 (a0.size : Int)] rfl (by (try simp only [List.map_toArray, List.map_cons, List.map_nil]); first | done | rfl | (simp only [List.length_drop, List.length_take]; rfl)) ?_; (with_reducible refine (needle_Join.calls _ _ t374 (a0.size : Int) t379 t380 _ ?side1 ?side2 A14.out).mono ?_); (case side1 => repeat (first | exact (Kd.R_reads' HO377.out).2.2 | (with_reducible refine Kd.C_alloc ?_ _) | (with_reducible refine Kd.C_drewN ?_ _) | (with_reducible refine Kd.C_drew ?_))); (case side2 => exact (Kd.R_reads' HO377.out).2.1); rintro e w18 ⟨rfl, hb⟩; refine ⟨_, rfl, ?_⟩; have n0_ := Aside0.mk (Kd.R_below (by (with_reducible repeat (first | apply Kd.R_alloc | apply Kd.R_drewN | apply Kd.R_drew)); exact HO377.out) hb); have n1_ := Aside0.mk (below_step (by repeat (first | (with_reducible first | exact HB.out | apply below_alloc | apply pw_below_drewN | apply below_drew1) | exact HB.out)) hb); clear HO377; clear HB; have HO377 := n0_; have HB := n1_; clear n0_ n1_; (try clear hb); (try clear hb2); (try clear hk); (try clear hi)))
    (try simp only [Act.put, List.setIfInBounds_toArray, List.set_cons_zero, List.set_cons_succ])
    go_cut [52] (fun v52 wc => ∃ (kq : Nat) (x52_14 : Bool), v52 = .bool x52_14 ∧ Aside0 (sluicegatelaw08_NeedleJoins.j0 kq a0 a1 t374 t379 t380 x52_14 = some r) ∧ Aside0 (kq ≤ k) ∧ Aside0 (Kd.R Kd.string 9 wc w.heap.size (fun _ => True) (.slice Ao17 t374.length co17) t374) ∧ Aside0 (Below w.heap.size w wc))
    case first =>
      have H := HC15.out
      clear HC15
      by_cases c19 : t379.toList = a0.toList
      · rw [if_pos c19] at H
        have c19b0 : (t379.toList == a0.toList) = true := beq_iff_eq.mpr c19
        have c19b1 : (t379.toList != a0.toList) = false := bne_eq_false_iff_eq.mpr c19
        clear c19
        (first | rw [c19b0] | (simp only [i64_w, i32_w]; rw [c19b0]) | skip)
        by_cases c20 : t380 = 0
        · rw [if_pos c20] at H
          have c20b0 : (t380 == 0) = true := beq_iff_eq.mpr c20
          have c20b1 : (t380 != 0) = false := bne_eq_false_iff_eq.mpr c20
          clear c20
          by_cases c21 : a1 < 0
          · rw [if_pos c21] at H
            have c21b0 : decide (a1 < 0) = true := decide_eq_true c21
            clear c21
            have H' := Aside0.mk H
            clear H
            go_wp2
            go_meet
            case rel => exact ⟨_, (true), (by first | rfl | (simp; done) | (simp [*]; done)), H', ⟨by first | omega | exact Nat.le_refl _⟩, ⟨by (with_reducible repeat (first | apply Kd.R_alloc | apply Kd.R_drewN | apply Kd.R_drew)); exact HO377.out⟩, ⟨by repeat (first | (with_reducible first | exact HB.out | apply below_alloc | apply pw_below_drewN | apply below_drew1) | exact HB.out)⟩⟩
          · rw [if_neg c21] at H
            have c21b0 : decide (a1 < 0) = false := decide_eq_false c21
            clear c21
            have H' := Aside0.mk H
            clear H
            go_wp2
            go_meet
            case rel => exact ⟨_, (decide (a1 > 384)), (by first | rfl | (simp; done) | (simp [*]; done)), H', ⟨by first | omega | exact Nat.le_refl _⟩, ⟨by (with_reducible repeat (first | apply Kd.R_alloc | apply Kd.R_drewN | apply Kd.R_drew)); exact HO377.out⟩, ⟨by repeat (first | (with_reducible first | exact HB.out | apply below_alloc | apply pw_below_drewN | apply below_drew1) | exact HB.out)⟩⟩
        · rw [if_neg c20] at H
          have c20b0 : (t380 == 0) = false := beq_eq_false_iff_ne.mpr c20
          have c20b1 : (t380 != 0) = true := bne_iff_ne.mpr c20
          have H' := Aside0.mk H
          clear H
          go_wp2
          go_meet
          case rel => exact ⟨_, (true), (by first | rfl | (simp; done) | (simp [*]; done)), H', ⟨by first | omega | exact Nat.le_refl _⟩, ⟨by (with_reducible repeat (first | apply Kd.R_alloc | apply Kd.R_drewN | apply Kd.R_drew)); exact HO377.out⟩, ⟨by repeat (first | (with_reducible first | exact HB.out | apply below_alloc | apply pw_below_drewN | apply below_drew1) | exact HB.out)⟩⟩
      · rw [if_neg c19] at H
        have c19b0 : (t379.toList == a0.toList) = false := beq_eq_false_iff_ne.mpr c19
        have c19b1 : (t379.toList != a0.toList) = true := bne_iff_ne.mpr c19
        (first | rw [c19b0] | (simp only [i64_w, i32_w]; rw [c19b0]) | skip)
        have H' := Aside0.mk H
        clear H
        go_wp2
        go_meet
        case rel => exact ⟨_, (true), (by first | rfl | (simp; done) | (simp [*]; done)), H', ⟨by first | omega | exact Nat.le_refl _⟩, ⟨by (with_reducible repeat (first | apply Kd.R_alloc | apply Kd.R_drewN | apply Kd.R_drew)); exact HO377.out⟩, ⟨by repeat (first | (with_reducible first | exact HB.out | apply below_alloc | apply pw_below_drewN | apply below_drew1) | exact HB.out)⟩⟩
    case rest =>
      clear HC15
      try clear c1
      try clear c2
      try clear p2
      try clear c4
      try clear c4b0
      try clear c4b1
      try clear c5
      try clear c5b0
      try clear c5b1
      try clear c6
      try clear c6b0
      try clear c6b1
      try clear c6b2
      try clear c7
      try clear c19
      try clear c19b0
      try clear c19b1
      try clear c20
      try clear c20b0
      try clear c20b1
      try clear c21
      try clear c21b0
      obtain ⟨kq, x52_14, rfl, HA, HJ14, HO_5, HB⟩ := hcut
      cases kq with
      | zero => exact absurd HA.out (by simp [sluicegatelaw08_NeedleJoins.j0])
      | succ kj14 =>
        have H := HA.out
        clear HA
        simp only [sluicegatelaw08_NeedleJoins.j0] at H
        by_cases c22 : x52_14 = true
        · subst c22
          have H1 : (if t379.toList = a0.toList then (if t380 = 0 then ((sluicegatelaw08_live.f kj14).bind fun t381 => (some t381)) else (some false)) else (some false)) = some r := by rw [if_pos rfl] at H; exact H
          clear H
          have H := H1
          clear H1
          by_cases c23 : t379.toList = a0.toList
          · rw [if_pos c23] at H
            have c23b0 : (t379.toList == a0.toList) = true := beq_iff_eq.mpr c23
            have c23b1 : (t379.toList != a0.toList) = false := bne_eq_false_iff_eq.mpr c23
            clear c23
            by_cases c24 : t380 = 0
            · rw [if_pos c24] at H
              have c24b0 : (t380 == 0) = true := beq_iff_eq.mpr c24
              have c24b1 : (t380 != 0) = false := bne_eq_false_iff_eq.mpr c24
              clear c24
              replace H := Option.bind_eq_some_iff.mp H
              obtain ⟨t381, A250, H⟩ := H
              replace H : (some t381) = some r := H
              have A25 := Aside0.mk A250
              clear A250
              obtain rfl := Option.some.inj H
              go_wp2_with (first | (go_at_call 9; (with_reducible refine (sluicegatelaw08_live.calls kj14  t381 _ A25.out).mono ?_); rintro e w26 ⟨rfl, hb⟩; have n0_ := Aside0.mk (Kd.R_below (by (with_reducible repeat (first | apply Kd.R_alloc | apply Kd.R_drewN | apply Kd.R_drew)); exact HO_5.out) hb); have n1_ := Aside0.mk (below_step (by repeat (first | (with_reducible first | exact HB.out | apply below_alloc | apply pw_below_drewN | apply below_drew1) | exact HB.out)) hb); clear HO_5; clear HB; have HO_5 := n0_; have HB := n1_; clear n0_ n1_; (try clear hb); (try clear hb2); (try clear hk); (try clear hi)))
              go_ret
              exact ⟨by first | rfl | (simp [errW_none, errW_some] <;> rfl) | (simp [*, errW_none, errW_some] <;> rfl), by repeat (first | (with_reducible first | exact HB.out | apply below_alloc | apply pw_below_drewN | apply below_drew1) | exact HB.out)⟩
            · rw [if_neg c24] at H
              have c24b0 : (t380 == 0) = false := beq_eq_false_iff_ne.mpr c24
              have c24b1 : (t380 != 0) = true := bne_iff_ne.mpr c24
              obtain rfl := Option.some.inj H
              go_wp2
              go_ret
              exact ⟨by first | rfl | (simp [errW_none, errW_some] <;> rfl) | (simp [*, errW_none, errW_some] <;> rfl), by repeat (first | (with_reducible first | exact HB.out | apply below_alloc | apply pw_below_drewN | apply below_drew1) | exact HB.out)⟩
          · rw [if_neg c23] at H
            have c23b0 : (t379.toList == a0.toList) = false := beq_eq_false_iff_ne.mpr c23
            have c23b1 : (t379.toList != a0.toList) = true := bne_iff_ne.mpr c23
            obtain rfl := Option.some.inj H
            go_wp2
            go_ret
            exact ⟨by first | rfl | (simp [errW_none, errW_some] <;> rfl) | (simp [*, errW_none, errW_some] <;> rfl), by repeat (first | (with_reducible first | exact HB.out | apply below_alloc | apply pw_below_drewN | apply below_drew1) | exact HB.out)⟩
        · replace c22 := Bool.eq_false_iff.mpr c22
          subst c22
          have H1 : ((needle_Join.f t374 a1).bind fun bt382 => (sluicegatelaw08_NeedleJoins.l0 kj14 a0 a1 bt382.1 bt382.2 true a1)) = some r := by rw [if_neg (show ¬ (false = true) by decide)] at H; exact H
          clear H
          have H := H1
          clear H1
          replace H := Option.bind_eq_some_iff.mp H
          obtain ⟨⟨t382, t383⟩, A270, H⟩ := H
          replace H : (sluicegatelaw08_NeedleJoins.l0 kj14 a0 a1 t382 t383 true a1) = some r := H
          have A27 := Aside0.mk A270
          clear A270
          have H' := Aside0.mk H
          clear H
          go_wp2_with (first | ((with_reducible refine gate_callee (f := 25) rfl ?_); refine goesL_ (some 66) rfl rfl Tryd.func25 (by kernel_rfl) rfl #[.slice Ao17 t374.length co17, .int .i64 a1] rfl (by (try simp only [List.map_toArray, List.map_cons, List.map_nil]); first | done | rfl | (simp only [List.length_drop, List.length_take]; rfl)) ?_; (with_reducible refine (needle_Join.calls _ _ t374 a1 t382 t383 _ ?side1 ?side2 A27.out).mono ?_); (case side1 => repeat (first | exact (Kd.R_reads' HO_5.out).2.2 | (with_reducible refine Kd.C_alloc ?_ _) | (with_reducible refine Kd.C_drewN ?_ _) | (with_reducible refine Kd.C_drew ?_))); (case side2 => exact (Kd.R_reads' HO_5.out).2.1); rintro e w28 ⟨rfl, hb⟩; refine ⟨_, rfl, ?_⟩; have n0_ := Aside0.mk (Kd.R_below (by (with_reducible repeat (first | apply Kd.R_alloc | apply Kd.R_drewN | apply Kd.R_drew)); exact HO_5.out) hb); have n1_ := Aside0.mk (below_step (by repeat (first | (with_reducible first | exact HB.out | apply below_alloc | apply pw_below_drewN | apply below_drew1) | exact HB.out)) hb); clear HO_5; clear HB; have HO_5 := n0_; have HB := n1_; clear n0_ n1_; (try clear hb); (try clear hb2); (try clear hk); (try clear hi)))
          go_loopg [11, 12] kj14 (fun kq v11 v12 w' => ∃ (x11_2 : Bool) (x12_2 : Int), v11 = .bool x11_2 ∧ v12 = .int .i64 x12_2 ∧ Aside0 (sluicegatelaw08_NeedleJoins.l0 kq a0 a1 t382 t383 x11_2 x12_2 = some r) ∧ Aside0 (kq ≤ kj14) ∧ Aside0 (Below w.heap.size w w'))
          case atStart => exact ⟨(true), (a1), (by first | rfl | (simp; done) | (simp [*]; done)), (by first | rfl | (simp; done) | (simp [*]; done)), H', ⟨Nat.le_refl _⟩, ⟨by repeat (first | (with_reducible first | exact HB.out | apply below_alloc | apply pw_below_drewN | apply below_drew1) | exact HB.out)⟩⟩
          case round =>
            clear H'
            try clear c1
            try clear c2
            try clear p2
            try clear c4
            try clear c4b0
            try clear c4b1
            try clear c5
            try clear c5b0
            try clear c5b1
            try clear c6
            try clear c6b0
            try clear c6b1
            try clear c6b2
            try clear c7
            try clear c19
            try clear c19b0
            try clear c19b1
            try clear c20
            try clear c20b0
            try clear c20b1
            try clear c21
            try clear c21b0
            try clear c22
            try clear c23
            try clear c23b0
            try clear c23b1
            try clear c24
            try clear c24b0
            try clear c24b1
            try clear c25
            try clear p2
            obtain ⟨x11_2, x12_2, rfl, rfl, HA, HK2, HB⟩ := hrel
            cases gk with
            | zero => exact absurd HA.out (by simp [sluicegatelaw08_NeedleJoins.l0])
            | succ k2 =>
              have H := HA.out
              clear HA
              simp only [sluicegatelaw08_NeedleJoins.l0] at H
              by_cases c29 : x12_2 < (a0.size : Int)
              · rw [if_pos c29] at H
                have c29b0 : decide (x12_2 < (a0.size : Int)) = true := decide_eq_true c29
                clear c29
                by_cases c30 : x11_2 = true
                · subst c30
                  have H1 : (if 0 ≤ x12_2 then (sluicegatelaw08_NeedleJoins.l0 k2 a0 a1 t382 t383 ((bt a0 x12_2) == 0) (wrap64 (x12_2 + 1))) else (none)) = some r := by rw [if_pos rfl] at H; exact H
                  clear H
                  have H := H1
                  clear H1
                  by_cases c31 : 0 ≤ x12_2
                  · rw [if_pos c31] at H
                    have c31b0 : decide (0 ≤ x12_2) = true := decide_eq_true c31
                    clear c31
                    have H' := Aside0.mk H
                    clear H
                    have p32 : 0 ≤ (x12_2 : Int) := of_decide_eq_true (by first | (with_reducible assumption) | assumption)
                    have q32 : x12_2 < (a0.size : Int) := of_decide_eq_true (by first | (with_reducible assumption) | assumption)
                    have hx32 := bt_at a0 x12_2
                    replace p32 := eq_true p32
                    replace q32 := eq_true q32
                    go_wp2
                    go_roundg k2
                    case measure => have := HJ14.out; have := HK2.out; omega
                    case rel => exact ⟨(((bt a0 x12_2) == 0)), (wrap64 (x12_2 + 1)), (by first | rfl | (simp; done) | (simp [*]; done)), (by first | rfl | (simp; done) | (simp [*]; done)), H', ⟨by have := HJ14.out; have := HK2.out; omega⟩, ⟨by repeat (first | (with_reducible first | exact HB.out | apply below_alloc | apply pw_below_drewN | apply below_drew1) | exact HB.out)⟩⟩
                  · rw [if_neg c31] at H
                    exact absurd H (by simp)
                · replace c30 := Bool.eq_false_iff.mpr c30
                  subst c30
                  have H1 : (sluicegatelaw08_NeedleJoins.l0 k2 a0 a1 t382 t383 false (wrap64 (x12_2 + 1))) = some r := by rw [if_neg (show ¬ (false = true) by decide)] at H; exact H
                  clear H
                  have H := H1
                  clear H1
                  have H' := Aside0.mk H
                  clear H
                  go_wp2
                  go_roundg k2
                  case measure => have := HJ14.out; have := HK2.out; omega
                  case rel => exact ⟨(false), (wrap64 (x12_2 + 1)), (by first | rfl | (simp; done) | (simp [*]; done)), (by first | rfl | (simp; done) | (simp [*]; done)), H', ⟨by have := HJ14.out; have := HK2.out; omega⟩, ⟨by repeat (first | (with_reducible first | exact HB.out | apply below_alloc | apply pw_below_drewN | apply below_drew1) | exact HB.out)⟩⟩
              · rw [if_neg c29] at H
                have c29b0 : decide (x12_2 < (a0.size : Int)) = false := decide_eq_false c29
                clear c29
                by_cases c33 : ((t383 == 0) == x11_2) = true
                · rw [if_pos c33] at H
                  have c33b0 : ((t383 == 0) == x11_2) = true := c33
                  (try (have c33b1 : decide ((t383 == 0) = x11_2) = true := by simpa using c33))
                  (try (have c33b2 : ((t383 == 0) == x11_2) = true := by simpa using c33))
                  clear c33
                  by_cases c34 : t383 = 0
                  · rw [if_pos c34] at H
                    have c34b0 : (t383 == 0) = true := beq_iff_eq.mpr c34
                    have c_zz : x11_2 = true := by simpa [c34b0] using c33b0
                    subst c_zz
                    have c34b1 : (t383 != 0) = false := bne_eq_false_iff_eq.mpr c34
                    clear c34
                    by_cases c35 : (t382.size : Int) = a1
                    · rw [if_pos c35] at H
                      have c35b0 : ((t382.size : Int) == a1) = true := beq_iff_eq.mpr c35
                      have c35b1 : ((t382.size : Int) != a1) = false := bne_eq_false_iff_eq.mpr c35
                      clear c35
                      replace H := Option.bind_eq_some_iff.mp H
                      obtain ⟨t384, A360, H⟩ := H
                      replace H : (some t384) = some r := H
                      have A36 := Aside0.mk A360
                      clear A360
                      obtain rfl := Option.some.inj H
                      go_wp2_with (first | (go_at_call 9; (with_reducible refine (sluicegatelaw08_live.calls k2  t384 _ A36.out).mono ?_); rintro e w37 ⟨rfl, hb⟩; have n0_ := Aside0.mk (below_step (by repeat (first | (with_reducible first | exact HB.out | apply below_alloc | apply pw_below_drewN | apply below_drew1) | exact HB.out)) hb); clear HB; have HB := n0_; clear n0_; (try clear hb); (try clear hb2); (try clear hk); (try clear hi)))
                      go_ret
                      exact ⟨by first | rfl | (simp [errW_none, errW_some] <;> rfl) | (simp [*, errW_none, errW_some] <;> rfl), by repeat (first | (with_reducible first | exact HB.out | apply below_alloc | apply pw_below_drewN | apply below_drew1) | exact HB.out)⟩
                    · rw [if_neg c35] at H
                      have c35b0 : ((t382.size : Int) == a1) = false := beq_eq_false_iff_ne.mpr c35
                      have c35b1 : ((t382.size : Int) != a1) = true := bne_iff_ne.mpr c35
                      obtain rfl := Option.some.inj H
                      go_wp2
                      go_ret
                      exact ⟨by first | rfl | (simp [errW_none, errW_some] <;> rfl) | (simp [*, errW_none, errW_some] <;> rfl), by repeat (first | (with_reducible first | exact HB.out | apply below_alloc | apply pw_below_drewN | apply below_drew1) | exact HB.out)⟩
                  · rw [if_neg c34] at H
                    have c34b0 : (t383 == 0) = false := beq_eq_false_iff_ne.mpr c34
                    have c_zz : x11_2 = false := by simpa [c34b0] using c33b0
                    subst c_zz
                    have c34b1 : (t383 != 0) = true := bne_iff_ne.mpr c34
                    replace H := Option.bind_eq_some_iff.mp H
                    obtain ⟨t385, A380, H⟩ := H
                    replace H : (some t385) = some r := H
                    have A38 := Aside0.mk A380
                    clear A380
                    obtain rfl := Option.some.inj H
                    go_wp2_with (first | (go_at_call 9; (with_reducible refine (sluicegatelaw08_live.calls k2  t385 _ A38.out).mono ?_); rintro e w39 ⟨rfl, hb⟩; have n0_ := Aside0.mk (below_step (by repeat (first | (with_reducible first | exact HB.out | apply below_alloc | apply pw_below_drewN | apply below_drew1) | exact HB.out)) hb); clear HB; have HB := n0_; clear n0_; (try clear hb); (try clear hb2); (try clear hk); (try clear hi)))
                    go_ret
                    exact ⟨by first | rfl | (simp [errW_none, errW_some] <;> rfl) | (simp [*, errW_none, errW_some] <;> rfl), by repeat (first | (with_reducible first | exact HB.out | apply below_alloc | apply pw_below_drewN | apply below_drew1) | exact HB.out)⟩
                · rw [if_neg c33] at H
                  have c33b0 : ((t383 == 0) == x11_2) = false := by simpa using c33
                  (try (have c33b1 : decide ((t383 == 0) = x11_2) = false := by simpa using c33))
                  (try (have c33b2 : ((t383 == 0) == x11_2) = false := by simpa using c33))
                  (try (have c33b3 : ¬ ((t383 == 0) = x11_2) := by simpa using c33))
                  clear c33
                  obtain rfl := Option.some.inj H
                  have c_zz : ((t383 == 0) = true ∧ x11_2 = false) ∨ ((t383 == 0) = false ∧ x11_2 = true) := by cases hx_ : x11_2 <;> cases hg_ : (t383 == 0) <;> simp_all
                  rcases c_zz with ⟨q1_, q2_⟩ | ⟨q1_, q2_⟩
                  · subst q2_
                    go_wp2
                    go_ret
                    exact ⟨by first | rfl | (simp [errW_none, errW_some] <;> rfl) | (simp [*, errW_none, errW_some] <;> rfl), by repeat (first | (with_reducible first | exact HB.out | apply below_alloc | apply pw_below_drewN | apply below_drew1) | exact HB.out)⟩
                  · subst q2_
                    go_wp2
                    go_ret
                    exact ⟨by first | rfl | (simp [errW_none, errW_some] <;> rfl) | (simp [*, errW_none, errW_some] <;> rfl), by repeat (first | (with_reducible first | exact HB.out | apply below_alloc | apply pw_below_drewN | apply below_drew1) | exact HB.out)⟩
end Go.Proofs.YtpgfafpjfdbjmaaDoor.Q
end
section
namespace Go.Proofs.YtpgfafpjfdbjmaaDoor
open Go.RowKit Q Go.Proofs.YtpgfafpjfdbjmaaDoorW.PrintWords Go.Proofs.YtpgfafpjfdbjmaaDoorW.PrintLast Go.Proofs.YtpgfafpjfdbjmaaDoorW.PrintMore
abbrev P2 := List UInt8 × List UInt8
def catN : List P2 → List UInt8
  | [] => []
  | p :: r => wrN p.1 p.2 ++ catN r
def offs : Nat → List P2 → List Int
  | _, [] => []
  | o, p :: r => (o : Int) :: offs (o + (wrN p.1 p.2).length) r
theorem wr_ne (k v r : List UInt8) : wrN k v ++ r ≠ [] := fun h => by
  have h1 := congrArg List.length h
  have h2 := wrN_len k v
  rw [List.length_append, List.length_nil] at h1
  omega
theorem allN_cat (n : Nat) : ∀ (ps : List P2) (o : Nat) (l : List P2) (a : List Int) , (∀ p ∈ ps, chkN p.1 p.2 = 0) → o + (catN ps).length = n → allN n l a (catN ps) = (l ++ ps, a ++ offs o ps, 0)
  | [], o, l, a, _, _ => by
    show allN n l a [] = _
    rw [allN_nil]
    simp [offs]
  | p :: r, o, l, a, h, hn => by
    have hp := rdN_wr p.1 p.2 (catN r) (h p (List.mem_cons_self ..))
    show allN n l a (wrN p.1 p.2 ++ catN r) = _
    rw [allN_ok (wr_ne _ _ _) (by rw [hp]), hp]
    have hlen : (catN (p :: r)).length = (wrN p.1 p.2).length + (catN r).length := by
      show (wrN p.1 p.2 ++ catN r).length = _
      rw [List.length_append]
    simp only
    rw [allN_cat n r (o + (wrN p.1 p.2).length) _ _ (fun q hq => h q (List.mem_cons_of_mem _ hq)) (by omega)]
    have ho : (n : Int) - ((wrN p.1 p.2 ++ catN r).length : Int) = (o : Int) := by
      rw [List.length_append]
      omega
    rw [ho, List.append_assoc, List.append_assoc]
    rfl
theorem six_parts (L : List UInt8) (h : L.length = 384) : ((L.drop (64 * 0)).take 64) ++ (((L.drop (64 * 1)).take 64) ++ (((L.drop (64 * 2)).take 64) ++ (((L.drop (64 * 3)).take 64) ++ (((L.drop (64 * 4)).take 64) ++ ((L.drop (64 * 5)).take 64))))) = L := by
  have s : ∀ k, (L.drop (64 * k)).take 64 ++ L.drop (64 * (k + 1)) = L.drop (64 * k) := fun k => by
    have := List.take_append_drop 64 (L.drop (64 * k))
    rw [List.drop_drop] at this
    rw [show 64 * (k + 1) = 64 * k + 64 by omega]
    exact this
  have s5 : (L.drop (64 * 5)).take 64 = L.drop (64 * 5) := List.take_of_length_le (by rw [List.length_drop, h]; decide)
  rw [s5, s 4, s 3, s 2, s 1, s 0]
  rfl
theorem flat_parts (s : List UInt8) (h : s.length ≤ 384) : flatN ([0, 1, 2, 3, 4, 5].map (partN s)) = padN s := by
  have := six_parts (padN s) (padN_len s h)
  unfold flatN
  simp only [List.map_cons, List.map_nil, List.flatten_cons, List.flatten_nil, List.append_nil, partN, B_data]
  exact this
theorem part_size (s : List UInt8) (h : s.length ≤ 384) (i : Nat) (hi : i < 6) : (partN s i).size = 64 := by
  unfold partN
  rw [B_size, List.length_take, List.length_drop, padN_len s h]
  omega
theorem all64_parts (s : List UInt8) (h : s.length ≤ 384) : all64 ([0, 1, 2, 3, 4, 5].map (partN s)) = true := by
  unfold all64
  simp [part_size s h]
theorem join_parts (s : List UInt8) (h : s.length ≤ 384) (n : Nat) (hn : n ≤ 384) : joinR ([0, 1, 2, 3, 4, 5].map (partN s)) (n : Int) = if zeroB ((padN s).drop n) = true then (B ((padN s).take n), 0) else (⟨#[]⟩, 4) := by
  unfold joinR
  rw [if_pos ⟨rfl, by omega, by omega, all64_parts s h⟩, flat_parts s h, Int.toNat_natCast]
theorem chk_a : chkN [97] [] = 0 := by
  unfold chkN
  rw [if_neg (by decide), if_neg (by simp [txt, enc_lt])]
theorem chk_ab : chkN [97, 32, 98] [] = 11 := by
  unfold chkN
  rw [if_pos (by decide)]
theorem chk_big : chkN [97] (List.replicate 349 0) = 12 := by
  unfold chkN
  have e1 : (txt [97]).length = 2 := by simp [txt, enc_lt]
  have e3 : (enc 349).length = 2 := by simp [enc_ge, enc_lt]
  have e2 : (txt (List.replicate 349 0)).length = 351 := by
    unfold txt
    rw [List.length_append, List.length_replicate, e3]
  rw [if_neg (by decide), if_pos (by rw [e1, e2]; decide)]
theorem wr_a : (wrN [97] []).length = 35 := by
  unfold wrN
  rw [List.length_append, List.length_append, SHA_len]
  simp [txt, enc_lt]
theorem ints_self (l : List Int) (hl : l.length ≤ 140737488355328) : ∀ (d i k : Nat), l.length - i = d → i ≤ l.length → d < k → sluicegateref06_Ints.l0 k l l (i : Int) = some true := by
  intro d
  induction d with
  | zero =>
    intro i k hd hi hk
    obtain ⟨k, rfl⟩ : ∃ j, k = j + 1 := ⟨k - 1, by omega⟩
    simp only [sluicegateref06_Ints.l0]
    rw [if_neg (by omega)]
  | succ d ih =>
    intro i k hd hi hk
    obtain ⟨k, rfl⟩ : ∃ j, k = j + 1 := ⟨k - 1, by omega⟩
    simp only [sluicegateref06_Ints.l0]
    rw [if_pos (by omega), if_pos (by omega), if_pos (by omega), if_pos trivial, nwrap_k i (by omega)]
    exact ih (i + 1) k (by omega) (by omega) (by omega)
theorem ints_f (l : List Int) (hl : l.length ≤ 140737488355328) (k : Nat) (hk : l.length < k) : sluicegateref06_Ints.f k l l = some true := by
  unfold sluicegateref06_Ints.f
  rw [if_pos rfl]
  exact ints_self l hl _ 0 k rfl (Nat.zero_le _) (by omega)
end Go.Proofs.YtpgfafpjfdbjmaaDoor
end
section
namespace Go.Proofs.YtpgfafpjfdbjmaaDoor
open Go.RowKit Q Go.Proofs.YtpgfafpjfdbjmaaDoorW.PrintWords Go.Proofs.YtpgfafpjfdbjmaaDoorW.PrintLast Go.Proofs.YtpgfafpjfdbjmaaDoorW.PrintMore
theorem nb_zeros (n : Nat) : nb (List.replicate n 0) = List.replicate n 0 := by
  unfold nb
  rw [List.map_replicate]
  rfl
theorem zero_tail : zeroB ((padN [97, 98, 99]).drop 3) = true := by
  unfold padN zeroB
  rw [show ([97, 98, 99] : List UInt8) ++ List.replicate (384 - ([97, 98, 99] : List UInt8).length) 0 = [97, 98, 99] ++ List.replicate 381 0 from rfl, List.drop_append_of_le_length (by decide), show ([97, 98, 99] : List UInt8).drop 3 = [] from rfl, List.nil_append, List.all_eq_true]
  intro x hx
  rw [List.eq_of_mem_replicate hx]
  rfl
theorem two_all : allN 70 [] [] (wrN [97] [] ++ wrN [97] []) = ([([97], []), ([97], [])], [0, 35], 0) := by
  have hw := wr_a
  have h := allN_cat 70 [([97], []), ([97], [])] 0 [] [] (fun p hp => by
    simp only [List.mem_cons, List.not_mem_nil, or_false, or_self] at hp
    subst hp
    exact chk_a) (by simp only [catN, List.append_nil, List.length_append]; omega)
  simp only [catN, List.append_nil, List.nil_append, offs] at h
  rw [h, hw]
  rfl
theorem live08 (k : Nat) (hk : 40 ≤ k) : sluicegatelaw08_live.f k = some true := by
  have hw := wr_a
  have e1 : needle_Write.f k (⟨#[97]⟩ : ByteArray) (⟨#[]⟩ : ByteArray) = some (B (wrN [97] []), 0) := by
    have := nwrite_f [97] [] (by decide) (by decide) k (by omega)
    unfold wroteN at this
    rw [if_pos chk_a] at this
    exact this
  have e2 : needle_Read.f k (B (wrN [97] []) ++ (⟨#[120]⟩ : ByteArray)) = some (B [97], B [], B [120], 0) := by
    have := nread_f (wrN [97] [] ++ [120]) (by rw [List.length_append, hw]; decide) k (by omega)
    rw [rdN_wr [97] [] [120] chk_a] at this
    rw [show (⟨#[120]⟩ : ByteArray) = B [120] from rfl, B_append]
    exact this
  have e3 : needle_Write.f k (⟨#[97, 32, 98]⟩ : ByteArray) (⟨#[]⟩ : ByteArray) = some (⟨#[]⟩, 11) := by
    have := nwrite_f [97, 32, 98] [] (by decide) (by decide) k (by omega)
    unfold wroteN at this
    rw [chk_ab, if_neg (by decide)] at this
    exact this
  have e4 : needle_Write.f k (⟨#[97]⟩ : ByteArray) (strOfNums (List.replicate 349 0)) = some (⟨#[]⟩, 12) := by
    have := nwrite_f [97] (List.replicate 349 0) (by decide) (by rw [List.length_replicate]; decide) k (by omega)
    unfold wroteN at this
    rw [chk_big, if_neg (by decide)] at this
    rw [← nb_zeros, strOfNums_nb]
    exact this
  have e5 : needle_Shards.f (⟨#[97, 98, 99]⟩ : ByteArray) = some ([0, 1, 2, 3, 4, 5].map (partN [97, 98, 99]), 0) := rfl
  have e6 : needle_Join.f ([0, 1, 2, 3, 4, 5].map (partN [97, 98, 99])) 3 = some (B [97, 98, 99], 0) := by
    have := join_parts [97, 98, 99] (by decide) 3 (by decide)
    rw [zero_tail, if_pos rfl] at this
    unfold needle_Join.f
    rw [show (3 : Int) = ((3 : Nat) : Int) from rfl, this]
    rfl
  have e7 : needle_All.f (B (wrN [97] []) ++ B (wrN [97] [])) = some ([⟨B [97], B []⟩, ⟨B [97], B []⟩], [0, 35], 0) := by
    rw [B_append]
    unfold needle_All.f
    rw [B_data, B_size, List.length_append, hw, if_pos (by decide), two_all]
    rfl
  have e8 := ints_f [0, 35] (by decide) k (by show 2 < k; omega)
  unfold sluicegatelaw08_live.f
  rw [e1, Option.bind_some]
  simp only
  rw [if_pos (by rw [B_size, hw]; decide), e2, Option.bind_some, e3, Option.bind_some, if_pos (by decide), e4, Option.bind_some, e5, Option.bind_some]
  simp only
  rw [e6, Option.bind_some, if_pos (by rw [B_size, hw]; decide), e7, Option.bind_some]
  simp only
  rw [if_pos (by rw [B_size, hw]; rfl), if_pos trivial, if_pos (by rw [B_toList, B_toList]; rfl), if_pos (by rw [B_toList]), if_pos trivial, if_pos trivial, if_pos trivial, if_pos (by rfl), if_pos trivial, if_pos (by rw [B_toList]), if_pos trivial, if_pos (by rfl), e8, Option.bind_some, if_pos rfl]
  rfl
end Go.Proofs.YtpgfafpjfdbjmaaDoor
end
section
namespace Go.Proofs.YtpgfafpjfdbjmaaDoor
open Go.RowKit Q Go.Proofs.YtpgfafpjfdbjmaaDoorW.PrintWords Go.Proofs.YtpgfafpjfdbjmaaDoorW.PrintLast Go.Proofs.YtpgfafpjfdbjmaaDoorW.PrintMore
theorem zero_app (a b : List UInt8) : zeroB (a ++ b) = (zeroB a && zeroB b) := by
  unfold zeroB
  rw [List.all_append]
theorem zero_rep (n : Nat) : zeroB (List.replicate n 0) = true := by
  unfold zeroB
  rw [List.all_eq_true]
  intro x hx
  rw [List.eq_of_mem_replicate hx]
  rfl
theorem pad_zero (s : List UInt8) (n : Nat) : zeroB ((padN s).drop n) = zeroB (s.drop n) := by
  unfold padN
  rw [List.drop_append, zero_app, List.drop_replicate, zero_rep, Bool.and_true]
theorem joins_end (s : List UInt8) (n : Int) (x9 : ByteArray) (g : Int) (z : Bool) (k : Nat) (hk : 40 ≤ k) (i : Nat) (hi : s.length ≤ i) (hz : ((g == 0) == z) = true) (hs : g = 0 → (x9.size : Int) = n) : sluicegatelaw08_NeedleJoins.l0 (k + 1) (B s) n x9 g z (i : Int) = some true := by
  rw [sluicegatelaw08_NeedleJoins.l0]
  rw [B_size, if_neg (by omega), if_pos hz]
  by_cases h : g = 0
  · rw [if_pos h, if_pos (hs h), live08 k hk]; rfl
  · rw [if_neg h, live08 k hk]; rfl
theorem joins_loop (s : List UInt8) (hsl : s.length ≤ 384) (n : Int) (x9 : ByteArray) (g : Int) (hs : g = 0 → (x9.size : Int) = n) : ∀ (d : Nat) (z : Bool) (k i : Nat), s.length - i = d → i ≤ s.length → d + 40 ≤ k → ((g == 0) == (z && zeroB (s.drop i))) = true → sluicegatelaw08_NeedleJoins.l0 (k + 1) (B s) n x9 g z (i : Int) = some true := by
  intro d
  induction d with
  | zero =>
    intro z k i hd hi hk hz
    refine joins_end s n x9 g z k (by omega) i (by omega) ?_ hs
    rw [List.drop_of_length_le (by omega)] at hz
    rw [show zeroB [] = true from rfl, Bool.and_true] at hz
    exact hz
  | succ d ih =>
    intro z k i hd hi hk hz
    have hlt : i < s.length := by omega
    obtain ⟨k, rfl⟩ : ∃ j, k = j + 1 := ⟨k - 1, by omega⟩
    have hzd : zeroB (s.drop i) = ((s[i] == 0) && zeroB (s.drop (i + 1))) := by
      rw [List.drop_eq_getElem_cons hlt]
      rfl
    rw [hzd] at hz
    rw [sluicegatelaw08_NeedleJoins.l0]
    rw [B_size, if_pos (by omega)]
    have hb : (bt (B s) (i : Int) == 0) = (s[i] == 0) := by
      rw [nbt_at s i hlt, Bool.eq_iff_iff, beq_iff_eq, beq_iff_eq]
      exact byte0 _
    cases z with
    | true =>
      rw [if_pos rfl, if_pos (by omega), hb, nwrap_k i (by omega)]
      exact ih (s[i] == 0) k (i + 1) (by omega) (by omega) (by omega) (by rw [Bool.true_and] at hz; exact hz)
    | false =>
      rw [if_neg (by simp), nwrap_k i (by omega)]
      exact ih false k (i + 1) (by omega) (by omega) (by omega) (by rw [Bool.false_and] at hz ⊢; exact hz)
theorem Pure.NeedleJoins (a0 : ByteArray) (a1 : Int) (_ : a0.size ≤ 140737488351232) (_ : (Lit.int .i64 a1).wf = true) : ∃ k, sluicegatelaw08_NeedleJoins.f k a0 a1 = some true := by
  refine ⟨500 + 1 + 1, ?_⟩
  have hL := live08 (500 + 1 + 1) (by decide)
  have hL1 := live08 (500 + 1) (by decide)
  obtain ⟨s, rfl⟩ := exB a0
  unfold sluicegatelaw08_NeedleJoins.f
  have e1 : needle_Shards.f (B s) = some (shR s) := rfl
  rw [e1, Option.bind_some, B_size]
  by_cases h : 384 < s.length
  · rw [if_pos (by omega), show shR s = ([], 12) from if_pos h]
    simp only
    rw [if_pos trivial, if_pos (by rfl), hL]
    rfl
  · have hs : s.length ≤ 384 := by omega
    rw [if_neg (by omega), show shR s = ([0, 1, 2, 3, 4, 5].map (partN s), 0) from if_neg h]
    have e2 : needle_Join.f ([0, 1, 2, 3, 4, 5].map (partN s)) (s.length : Int) = some (B s, 0) := by
      unfold needle_Join.f
      rw [join_parts s hs s.length hs, pad_zero, List.drop_length, if_pos (show zeroB [] = true from rfl)]
      have : (padN s).take s.length = s := by
        unfold padN
        rw [List.take_append_of_le_length (Nat.le_refl _), List.take_length]
      rw [this]
    simp only
    rw [e2, Option.bind_some]
    simp only
    rw [if_pos trivial, if_pos trivial]
    have hJ : sluicegatelaw08_NeedleJoins.j0 (500 + 1 + 1) (B s) a1 ([0, 1, 2, 3, 4, 5].map (partN s)) (B s) 0 true = some true := by
      rw [sluicegatelaw08_NeedleJoins.j0]
      rw [if_pos rfl, if_pos rfl, if_pos rfl, hL1]
      rfl
    by_cases h0 : a1 < 0
    · rw [if_pos h0]; exact hJ
    rw [if_neg h0]
    by_cases h3 : a1 > 384
    · rw [decide_eq_true h3]; exact hJ
    rw [decide_eq_false h3]
    obtain ⟨n, rfl⟩ : ∃ n : Nat, a1 = (n : Int) := ⟨a1.toNat, by omega⟩
    rw [sluicegatelaw08_NeedleJoins.j0]
    rw [if_neg (by simp)]
    have e3 : needle_Join.f ([0, 1, 2, 3, 4, 5].map (partN s)) (n : Int) = some (if zeroB (s.drop n) = true then (B ((padN s).take n), 0) else (⟨#[]⟩, 4)) := by
      unfold needle_Join.f
      rw [join_parts s hs n (by omega), pad_zero]
    rw [e3, Option.bind_some]
    have hpl := padN_len s hs
    have hsz : ((if zeroB (s.drop n) = true then (B ((padN s).take n), (0 : Int)) else (⟨#[]⟩, 4)).2 == 0) = zeroB (s.drop n) := by
      cases zeroB (s.drop n) <;> rfl
    have hsx : (if zeroB (s.drop n) = true then (B ((padN s).take n), (0 : Int)) else (⟨#[]⟩, 4)).2 = 0 → ((if zeroB (s.drop n) = true then (B ((padN s).take n), (0 : Int)) else (⟨#[]⟩, 4)).1.size : Int) = (n : Int) := by
      cases zeroB (s.drop n) with
      | true => intro _; simp only [if_true]; rw [B_size, List.length_take, hpl]; omega
      | false => intro h; exact absurd (show (4 : Int) = 0 from h) (by decide)
    by_cases hn : n ≤ s.length
    · exact joins_loop s hs _ _ _ hsx (s.length - n) true 500 n rfl hn (by omega) (by rw [hsz, Bool.true_and]; simp)
    · refine joins_end s _ _ _ true 500 (by decide) n (by omega) ?_ hsx
      rw [hsz, List.drop_of_length_le (by omega)]
      rfl
end Go.Proofs.YtpgfafpjfdbjmaaDoor
end
