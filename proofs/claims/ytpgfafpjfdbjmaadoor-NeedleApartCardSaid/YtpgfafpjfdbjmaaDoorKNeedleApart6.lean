/- Lemmas for the law NeedleApart, merged out of several texts and cut down to what it names, by a program of this session (some of the first ones are of the words that print.sh wrote for this claim). -/
import Derived.Test.YtpgfafpjfdbjmaaDoorKNeedleApart1
import Derived.Test.YtpgfafpjfdbjmaaDoorKNeedleApart2
import Derived.Test.YtpgfafpjfdbjmaaDoorKNeedleApart3
import Derived.Test.YtpgfafpjfdbjmaaDoorKNeedleApart4
import Derived.Test.YtpgfafpjfdbjmaaDoorKNeedleApart5
set_option linter.unusedVariables false
set_option linter.unusedSimpArgs false
section
namespace Go.Proofs.YtpgfafpjfdbjmaaDoor.Q
open Go.RowKit Go.Proofs.YtpgfafpjfdbjmaaDoorW.PrintWords Go.Proofs.YtpgfafpjfdbjmaaDoorW.PrintLast Go.Proofs.YtpgfafpjfdbjmaaDoorW.PrintMore
attribute [local go_sem] max2_int min2_int max_two min_two max_three min_three max_four min_four   -- for this text's walks alone
set_option linter.unusedVariables false
set_option linter.unusedSimpArgs false
attribute [local go_sem high] eqA23
mutual
def sluicegatelaw08_NeedleApart.j0 : Nat → Bool → ByteArray → ByteArray → ByteArray → ByteArray → Option (Bool)
  | 0, _, _, _, _, _ => none
  | k + 1, x31, x387000, x387001, x388000, x388001 => if x31 = true then ((sluicegatelaw08_live.f k).bind fun t388 => (some t388)) else ((sluicegatelaw08_own.f x387000 x387001).bind fun bt389 => ((needle_Write.f k bt389.1 bt389.2).bind fun bt391 => ((sluicegatelaw08_own.f x388000 x388001).bind fun bt393 => ((needle_Write.f k bt393.1 bt393.2).bind fun bt395 => (if bt391.2 = 0 then (sluicegatelaw08_NeedleApart.j1 k bt391.1 bt395.1 (bt395.2 != 0) x387000 x387001 x388000 x388001) else (sluicegatelaw08_NeedleApart.j1 k bt391.1 bt395.1 true x387000 x387001 x388000 x388001))))))
def sluicegatelaw08_NeedleApart.j1 : Nat → ByteArray → ByteArray → Bool → ByteArray → ByteArray → ByteArray → ByteArray → Option (Bool)
  | 0, _, _, _, _, _, _, _ => none
  | k + 1, x5, x7, x50, x387000, x387001, x388000, x388001 => if x50 = true then ((sluicegatelaw08_live.f k).bind fun t397 => (some t397)) else (if (x5.size : Int) ≤ (x7.size : Int) then (if 0 ≤ (x5.size : Int) then (if (((x7.extract 0 x5.size).toList == x5.toList) == (x387000.toList == x388000.toList && (x387001.toList == x388001.toList))) = true then (if (x5.size : Int) ≤ 384 then ((sluicegatelaw08_live.f k).bind fun t398 => (some t398)) else (some false)) else (some false)) else (none)) else (if (false == (x387000.toList == x388000.toList && (x387001.toList == x388001.toList))) = true then (if (x5.size : Int) ≤ 384 then ((sluicegatelaw08_live.f k).bind fun t399 => (some t399)) else (some false)) else (some false)))
end
def sluicegatelaw08_NeedleApart.f (k : Nat) (a0_0 : ByteArray) (a0_1 : ByteArray) (a1_0 : ByteArray) (a1_1 : ByteArray) : Option (Bool) := if (a0_0.size : Int) > 100 then (sluicegatelaw08_NeedleApart.j0 k true a0_0 a0_1 a1_0 a1_1) else (if (a0_1.size : Int) > 1000 then (sluicegatelaw08_NeedleApart.j0 k true a0_0 a0_1 a1_0 a1_1) else (if (a1_0.size : Int) > 100 then (sluicegatelaw08_NeedleApart.j0 k true a0_0 a0_1 a1_0 a1_1) else (sluicegatelaw08_NeedleApart.j0 k (decide ((a1_1.size : Int) > 1000)) a0_0 a0_1 a1_0 a1_1)))
set_option maxHeartbeats 8000000 in
set_option maxRecDepth 100000 in
theorem sluicegatelaw08_NeedleApart.calls (k : Nat) (a0_0 : ByteArray) (a0_1 : ByteArray) (a1_0 : ByteArray) (a1_1 : ByteArray) (r : Bool) (w : World) (h : sluicegatelaw08_NeedleApart.f k a0_0 a0_1 a1_0 a1_1 = some r) :
    Calls Tryd.prog 8 #[.agg #[.string a0_0, .string a0_1], .agg #[.string a1_0, .string a1_1]] w fun e w' => e = .returned (.bool r) ∧ Below w.heap.size w w' := by
  have hu23 := Tryd.underlying23
  have HB := Aside0.mk (Below.refl w.heap.size w)
  have H : (if (a0_0.size : Int) > 100 then (sluicegatelaw08_NeedleApart.j0 k true a0_0 a0_1 a1_0 a1_1) else (if (a0_1.size : Int) > 1000 then (sluicegatelaw08_NeedleApart.j0 k true a0_0 a0_1 a1_0 a1_1) else (if (a1_0.size : Int) > 100 then (sluicegatelaw08_NeedleApart.j0 k true a0_0 a0_1 a1_0 a1_1) else (sluicegatelaw08_NeedleApart.j0 k (decide ((a1_1.size : Int) > 1000)) a0_0 a0_1 a1_0 a1_1)))) = some r := h
  clear h
  have HC3 := Aside0.mk H
  clear H
  go_enter Tryd.func8, Tryd.ntmps8
  go_upto_region 1 with (first | ((with_reducible refine gate_dst (N := 2) rfl ?_); (try (refine gate_guard (by rfl) ?_; dsimp only)); refine box_event ?hg (N := 2) ?hd (cs := #[.string a0_0, .string a0_1]) (t := 23) ?hr ?_; (case hd => rfl); (case hg => rfl); (case hr => first | (go_simp; done) | (go_simp; rfl)); intro gb386 hg w4 hbox hb; have n0_ := Aside0.mk (below_step (by repeat (first | (with_reducible first | exact HB.out | apply below_alloc | apply pw_below_drewN | apply below_drew1) | exact HB.out)) hb); have n1_ := Aside0.mk (hbox); have n2_ := Aside0.mk ((by rw [hg]; exact (below_size (by repeat (first | (with_reducible first | exact HB.out | apply below_alloc | apply pw_below_drewN | apply below_drew1) | exact HB.out))) : w.heap.size ≤ gb386)); have n3_ := Aside0.mk ((by rw [hg]; exact (below_size (by repeat (first | (with_reducible first | exact HB.out | apply below_alloc | apply pw_below_drewN | apply below_drew1) | exact HB.out))) : w.heap.size ≤ gb386)); clear HB; have HB := n0_; have BK386 := n1_; have GW386 := n2_; have GE386 := n3_; clear n0_ n1_ n2_ n3_; clear hb hbox hg) | ((with_reducible refine gate_dst (N := 3) rfl ?_); (try (refine gate_guard (by rfl) ?_; dsimp only)); refine box_event ?hg (N := 3) ?hd (cs := #[.string a1_0, .string a1_1]) (t := 23) ?hr ?_; (case hd => rfl); (case hg => rfl); (case hr => first | (go_simp; done) | (go_simp; rfl)); intro gb387 hg w5 hbox hb; have n0_ := Aside0.mk (blk_below (g := gb386) (o := .cells #[.string a0_0, .string a0_1] 23 (0, 0)) (by (with_reducible repeat (first | refine blk_drewN ?_ _ | refine blk_drew ?_ | refine blk_alloc ?_ _)); exact BK386.out) hb); have n1_ := Aside0.mk (below_step (by repeat (first | (with_reducible first | exact HB.out | apply below_alloc | apply pw_below_drewN | apply below_drew1 | refine below_set ?_ GE386.out) | exact HB.out)) hb); have n2_ := Aside0.mk (hbox); have n3_ := Aside0.mk ((by rw [hg]; exact (below_size (by repeat (first | (with_reducible first | exact HB.out | apply below_alloc | apply pw_below_drewN | apply below_drew1 | refine below_set ?_ GE386.out) | exact HB.out))) : w.heap.size ≤ gb387)); have n4_ := Aside0.mk ((by rw [hg]; exact (below_size (by repeat (first | (with_reducible first | exact HB.out | apply below_alloc | apply pw_below_drewN | apply below_drew1 | refine below_set ?_ GE386.out) | exact HB.out))) : w.heap.size ≤ gb387)); have n5_ := Aside0.mk ((by rw [hg]; exact Nat.ne_of_lt (blk_lt (g := gb386) (o := .cells #[.string a0_0, .string a0_1] 23 (0, 0)) (by (with_reducible repeat (first | refine blk_drewN ?_ _ | refine blk_drew ?_ | refine blk_alloc ?_ _)); exact BK386.out)) : gb386 ≠ gb387)); have n6_ := Aside0.mk ((by rw [hg]; exact Nat.ne_of_gt (blk_lt (g := gb386) (o := .cells #[.string a0_0, .string a0_1] 23 (0, 0)) (by (with_reducible repeat (first | refine blk_drewN ?_ _ | refine blk_drew ?_ | refine blk_alloc ?_ _)); exact BK386.out)) : gb387 ≠ gb386)); clear BK386; clear HB; have BK386 := n0_; have HB := n1_; have BK387 := n2_; have GW387 := n3_; have GE387 := n4_; have NB386_387 := n5_; have NB387_386 := n6_; clear n0_ n1_ n2_ n3_ n4_ n5_ n6_; clear hb hbox hg))
  (try simp only [Act.put, List.setIfInBounds_toArray, List.set_cons_zero, List.set_cons_succ])
  go_cut [31] (fun v31 wc => ∃ (kq : Nat) (x31_2 : Bool), v31 = .bool x31_2 ∧ Aside0 (sluicegatelaw08_NeedleApart.j0 kq x31_2 a0_0 a0_1 a1_0 a1_1 = some r) ∧ Aside0 (kq ≤ k) ∧ Aside0 (wc.heap[gb386]? = some (.cells #[.string a0_0, .string a0_1] 23 (0, 0))) ∧ Aside0 (wc.heap[gb387]? = some (.cells #[.string a1_0, .string a1_1] 23 (0, 0))) ∧ Aside0 (Below w.heap.size w wc))
  case first =>
    have H := HC3.out
    clear HC3
    by_cases c6 : (a0_0.size : Int) > 100
    · rw [if_pos c6] at H
      have c6b0 : decide (100 < (a0_0.size : Int)) = true := decide_eq_true c6
      have c6b1 : decide (100 < a0_0.size) = true := decide_eq_true (by omega)
      clear c6
      (first | rw [c6b0] | (simp only [i64_w, i32_w]; rw [c6b0]) | skip)
      have H' := Aside0.mk H
      clear H
      have hnb7 := NB386_387.out
      have hnc7 := NB387_386.out
      have hcz8_0 : w5.cell? ⟨gb386, 0, none⟩ = some (.string a0_0) := (blk_cell BK386.out 0).trans rfl
      have hcz8_1 : w5.cell? ⟨gb386, 1, none⟩ = some (.string a0_1) := (blk_cell BK386.out 1).trans rfl
      have hfz8_0 := blk_frozen BK386.out 0
      have hfz8_1 := blk_frozen BK386.out 1
      go_wp2
      go_meet
      case rel => exact ⟨_, (true), (by first | rfl | (simp; done) | (simp [*]; done)), H', ⟨by first | omega | exact Nat.le_refl _⟩, ⟨by (with_reducible repeat (first | refine blk_drewN ?_ _ | refine blk_drew ?_ | refine blk_alloc ?_ _)); exact BK386.out⟩, ⟨by (with_reducible repeat (first | refine blk_drewN ?_ _ | refine blk_drew ?_ | refine blk_alloc ?_ _)); exact BK387.out⟩, ⟨by repeat (first | (with_reducible first | exact HB.out | apply below_alloc | apply pw_below_drewN | apply below_drew1 | refine below_set ?_ GE386.out | refine below_set ?_ GE387.out) | exact HB.out)⟩⟩
    · rw [if_neg c6] at H
      have c6b0 : decide (100 < (a0_0.size : Int)) = false := decide_eq_false c6
      have c6b1 : decide (100 < a0_0.size) = false := decide_eq_false (by omega)
      clear c6
      (first | rw [c6b0] | (simp only [i64_w, i32_w]; rw [c6b0]) | skip)
      by_cases c9 : (a0_1.size : Int) > 1000
      · rw [if_pos c9] at H
        have c9b0 : decide (1000 < (a0_1.size : Int)) = true := decide_eq_true c9
        have c9b1 : decide (1000 < a0_1.size) = true := decide_eq_true (by omega)
        clear c9
        have H' := Aside0.mk H
        clear H
        have hnb10 := NB386_387.out
        have hnc10 := NB387_386.out
        have hcz11_0 : w5.cell? ⟨gb386, 0, none⟩ = some (.string a0_0) := (blk_cell BK386.out 0).trans rfl
        have hcz11_1 : w5.cell? ⟨gb386, 1, none⟩ = some (.string a0_1) := (blk_cell BK386.out 1).trans rfl
        have hfz11_0 := blk_frozen BK386.out 0
        have hfz11_1 := blk_frozen BK386.out 1
        go_wp2
        go_meet
        case rel => exact ⟨_, (true), (by first | rfl | (simp; done) | (simp [*]; done)), H', ⟨by first | omega | exact Nat.le_refl _⟩, ⟨by (with_reducible repeat (first | refine blk_drewN ?_ _ | refine blk_drew ?_ | refine blk_alloc ?_ _)); exact BK386.out⟩, ⟨by (with_reducible repeat (first | refine blk_drewN ?_ _ | refine blk_drew ?_ | refine blk_alloc ?_ _)); exact BK387.out⟩, ⟨by repeat (first | (with_reducible first | exact HB.out | apply below_alloc | apply pw_below_drewN | apply below_drew1 | refine below_set ?_ GE386.out | refine below_set ?_ GE387.out) | exact HB.out)⟩⟩
      · rw [if_neg c9] at H
        have c9b0 : decide (1000 < (a0_1.size : Int)) = false := decide_eq_false c9
        have c9b1 : decide (1000 < a0_1.size) = false := decide_eq_false (by omega)
        clear c9
        by_cases c12 : (a1_0.size : Int) > 100
        · rw [if_pos c12] at H
          have c12b0 : decide (100 < (a1_0.size : Int)) = true := decide_eq_true c12
          have c12b1 : decide (100 < a1_0.size) = true := decide_eq_true (by omega)
          clear c12
          have H' := Aside0.mk H
          clear H
          have hnb13 := NB386_387.out
          have hnc13 := NB387_386.out
          have hcz14_0 : w5.cell? ⟨gb386, 0, none⟩ = some (.string a0_0) := (blk_cell BK386.out 0).trans rfl
          have hcz14_1 : w5.cell? ⟨gb386, 1, none⟩ = some (.string a0_1) := (blk_cell BK386.out 1).trans rfl
          have hfz14_0 := blk_frozen BK386.out 0
          have hfz14_1 := blk_frozen BK386.out 1
          have hcz15_0 : w5.cell? ⟨gb387, 0, none⟩ = some (.string a1_0) := (blk_cell BK387.out 0).trans rfl
          have hcz15_1 : w5.cell? ⟨gb387, 1, none⟩ = some (.string a1_1) := (blk_cell BK387.out 1).trans rfl
          have hfz15_0 := blk_frozen BK387.out 0
          have hfz15_1 := blk_frozen BK387.out 1
          go_wp2
          go_meet
          case rel => exact ⟨_, (true), (by first | rfl | (simp; done) | (simp [*]; done)), H', ⟨by first | omega | exact Nat.le_refl _⟩, ⟨by (with_reducible repeat (first | refine blk_drewN ?_ _ | refine blk_drew ?_ | refine blk_alloc ?_ _)); exact BK386.out⟩, ⟨by (with_reducible repeat (first | refine blk_drewN ?_ _ | refine blk_drew ?_ | refine blk_alloc ?_ _)); exact BK387.out⟩, ⟨by repeat (first | (with_reducible first | exact HB.out | apply below_alloc | apply pw_below_drewN | apply below_drew1 | refine below_set ?_ GE386.out | refine below_set ?_ GE387.out) | exact HB.out)⟩⟩
        · rw [if_neg c12] at H
          have c12b0 : decide (100 < (a1_0.size : Int)) = false := decide_eq_false c12
          have c12b1 : decide (100 < a1_0.size) = false := decide_eq_false (by omega)
          clear c12
          have H' := Aside0.mk H
          clear H
          have hnb16 := NB386_387.out
          have hnc16 := NB387_386.out
          have hcz17_0 : w5.cell? ⟨gb386, 0, none⟩ = some (.string a0_0) := (blk_cell BK386.out 0).trans rfl
          have hcz17_1 : w5.cell? ⟨gb386, 1, none⟩ = some (.string a0_1) := (blk_cell BK386.out 1).trans rfl
          have hfz17_0 := blk_frozen BK386.out 0
          have hfz17_1 := blk_frozen BK386.out 1
          have hcz18_0 : w5.cell? ⟨gb387, 0, none⟩ = some (.string a1_0) := (blk_cell BK387.out 0).trans rfl
          have hcz18_1 : w5.cell? ⟨gb387, 1, none⟩ = some (.string a1_1) := (blk_cell BK387.out 1).trans rfl
          have hfz18_0 := blk_frozen BK387.out 0
          have hfz18_1 := blk_frozen BK387.out 1
          go_wp2
          go_meet
          case rel => exact ⟨_, (decide ((a1_1.size : Int) > 1000)), (by first | rfl | (simp; done) | (simp [*]; done)), H', ⟨by first | omega | exact Nat.le_refl _⟩, ⟨by (with_reducible repeat (first | refine blk_drewN ?_ _ | refine blk_drew ?_ | refine blk_alloc ?_ _)); exact BK386.out⟩, ⟨by (with_reducible repeat (first | refine blk_drewN ?_ _ | refine blk_drew ?_ | refine blk_alloc ?_ _)); exact BK387.out⟩, ⟨by repeat (first | (with_reducible first | exact HB.out | apply below_alloc | apply pw_below_drewN | apply below_drew1 | refine below_set ?_ GE386.out | refine below_set ?_ GE387.out) | exact HB.out)⟩⟩
  case rest =>
    clear HC3
    try clear c1
    try clear p2
    try clear c6
    try clear c6b0
    try clear c6b1
    try clear c7
    try clear c8
    try clear c9
    try clear c9b0
    try clear c9b1
    try clear c10
    try clear c12
    try clear c12b0
    try clear c12b1
    try clear c13
    try clear c16
    try clear hcz11_0
    try clear hcz11_1
    try clear hcz14_0
    try clear hcz14_1
    try clear hcz15_0
    try clear hcz15_1
    try clear hcz17_0
    try clear hcz17_1
    try clear hcz18_0
    try clear hcz18_1
    try clear hcz8_0
    try clear hcz8_1
    try clear hfz11_0
    try clear hfz11_1
    try clear hfz14_0
    try clear hfz14_1
    try clear hfz15_0
    try clear hfz15_1
    try clear hfz17_0
    try clear hfz17_1
    try clear hfz18_0
    try clear hfz18_1
    try clear hfz8_0
    try clear hfz8_1
    obtain ⟨kq, x31_2, rfl, HA, HJ2, BK386, BK387, HB⟩ := hcut
    cases kq with
    | zero => exact absurd HA.out (by simp [sluicegatelaw08_NeedleApart.j0])
    | succ kj2 =>
      have H := HA.out
      clear HA
      simp only [sluicegatelaw08_NeedleApart.j0] at H
      by_cases c19 : x31_2 = true
      · subst c19
        have H1 : ((sluicegatelaw08_live.f kj2).bind fun t388 => (some t388)) = some r := by rw [if_pos rfl] at H; exact H
        clear H
        have H := H1
        clear H1
        replace H := Option.bind_eq_some_iff.mp H
        obtain ⟨t388, A200, H⟩ := H
        replace H : (some t388) = some r := H
        have A20 := Aside0.mk A200
        clear A200
        obtain rfl := Option.some.inj H
        go_wp2_with (first | ((with_reducible refine gate_callee (f := 9) rfl ?_); refine goesL_ (some 32) rfl rfl Tryd.func9 (by kernel_rfl) rfl #[] rfl (by (try simp only [List.map_toArray, List.map_cons, List.map_nil]); first | done | rfl | (simp only [List.length_drop, List.length_take]; rfl)) ?_; (with_reducible refine (sluicegatelaw08_live.calls kj2  t388 _ A20.out).mono ?_); rintro e w21 ⟨rfl, hb⟩; refine ⟨_, rfl, ?_⟩; have n0_ := Aside0.mk (blk_below (g := gb386) (o := .cells #[.string a0_0, .string a0_1] 23 (0, 0)) (by (with_reducible repeat (first | refine blk_drewN ?_ _ | refine blk_drew ?_ | refine blk_alloc ?_ _)); exact BK386.out) hb); have n1_ := Aside0.mk (blk_below (g := gb387) (o := .cells #[.string a1_0, .string a1_1] 23 (0, 0)) (by (with_reducible repeat (first | refine blk_drewN ?_ _ | refine blk_drew ?_ | refine blk_alloc ?_ _)); exact BK387.out) hb); have n2_ := Aside0.mk (below_step (by repeat (first | (with_reducible first | exact HB.out | apply below_alloc | apply pw_below_drewN | apply below_drew1 | refine below_set ?_ GE386.out | refine below_set ?_ GE387.out) | exact HB.out)) hb); clear BK386; clear BK387; clear HB; have BK386 := n0_; have BK387 := n1_; have HB := n2_; clear n0_ n1_ n2_; (try clear hb); (try clear hb2); (try clear hk); (try clear hi)))
        go_ret
        exact ⟨by first | rfl | (simp [errW_none, errW_some] <;> rfl) | (simp [*, errW_none, errW_some] <;> rfl), by repeat (first | (with_reducible first | exact HB.out | apply below_alloc | apply pw_below_drewN | apply below_drew1 | refine below_set ?_ GE386.out | refine below_set ?_ GE387.out) | exact HB.out)⟩
      · replace c19 := Bool.eq_false_iff.mpr c19
        subst c19
        have H1 : ((sluicegatelaw08_own.f a0_0 a0_1).bind fun bt389 => ((needle_Write.f kj2 bt389.1 bt389.2).bind fun bt391 => ((sluicegatelaw08_own.f a1_0 a1_1).bind fun bt393 => ((needle_Write.f kj2 bt393.1 bt393.2).bind fun bt395 => (if bt391.2 = 0 then (sluicegatelaw08_NeedleApart.j1 kj2 bt391.1 bt395.1 (bt395.2 != 0) a0_0 a0_1 a1_0 a1_1) else (sluicegatelaw08_NeedleApart.j1 kj2 bt391.1 bt395.1 true a0_0 a0_1 a1_0 a1_1)))))) = some r := by rw [if_neg (show ¬ (false = true) by decide)] at H; exact H
        clear H
        have H := H1
        clear H1
        replace H := Option.bind_eq_some_iff.mp H
        obtain ⟨⟨t389, t390⟩, A220, H⟩ := H
        replace H : ((needle_Write.f kj2 t389 t390).bind fun bt391 => ((sluicegatelaw08_own.f a1_0 a1_1).bind fun bt393 => ((needle_Write.f kj2 bt393.1 bt393.2).bind fun bt395 => (if bt391.2 = 0 then (sluicegatelaw08_NeedleApart.j1 kj2 bt391.1 bt395.1 (bt395.2 != 0) a0_0 a0_1 a1_0 a1_1) else (sluicegatelaw08_NeedleApart.j1 kj2 bt391.1 bt395.1 true a0_0 a0_1 a1_0 a1_1))))) = some r := H
        have A22 := Aside0.mk A220
        clear A220
        replace H := Option.bind_eq_some_iff.mp H
        obtain ⟨⟨t391, t392⟩, A230, H⟩ := H
        replace H : ((sluicegatelaw08_own.f a1_0 a1_1).bind fun bt393 => ((needle_Write.f kj2 bt393.1 bt393.2).bind fun bt395 => (if t392 = 0 then (sluicegatelaw08_NeedleApart.j1 kj2 t391 bt395.1 (bt395.2 != 0) a0_0 a0_1 a1_0 a1_1) else (sluicegatelaw08_NeedleApart.j1 kj2 t391 bt395.1 true a0_0 a0_1 a1_0 a1_1)))) = some r := H
        have A23 := Aside0.mk A230
        clear A230
        replace H := Option.bind_eq_some_iff.mp H
        obtain ⟨⟨t393, t394⟩, A240, H⟩ := H
        replace H : ((needle_Write.f kj2 t393 t394).bind fun bt395 => (if t392 = 0 then (sluicegatelaw08_NeedleApart.j1 kj2 t391 bt395.1 (bt395.2 != 0) a0_0 a0_1 a1_0 a1_1) else (sluicegatelaw08_NeedleApart.j1 kj2 t391 bt395.1 true a0_0 a0_1 a1_0 a1_1))) = some r := H
        have A24 := Aside0.mk A240
        clear A240
        replace H := Option.bind_eq_some_iff.mp H
        obtain ⟨⟨t395, t396⟩, A250, H⟩ := H
        replace H : (if t392 = 0 then (sluicegatelaw08_NeedleApart.j1 kj2 t391 t395 (t396 != 0) a0_0 a0_1 a1_0 a1_1) else (sluicegatelaw08_NeedleApart.j1 kj2 t391 t395 true a0_0 a0_1 a1_0 a1_1)) = some r := H
        have A25 := Aside0.mk A250
        clear A250
        have HC26 := Aside0.mk H
        clear H
        have hnb27 := NB386_387.out
        have hnc27 := NB387_386.out
        have hcz28_0 : wc.cell? ⟨gb386, 0, none⟩ = some (.string a0_0) := (blk_cell BK386.out 0).trans rfl
        have hcz28_1 : wc.cell? ⟨gb386, 1, none⟩ = some (.string a0_1) := (blk_cell BK386.out 1).trans rfl
        have hfz28_0 := blk_frozen BK386.out 0
        have hfz28_1 := blk_frozen BK386.out 1
        go_upto_region 5 with (first | ((with_reducible refine gate_callee (f := 11) rfl ?_); refine goesL_ (some 35) rfl rfl Tryd.func11 (by kernel_rfl) rfl #[.agg #[.string a0_0, .string a0_1]] rfl (by (try simp only [List.map_toArray, List.map_cons, List.map_nil]); first | done | rfl | (simp only [List.length_drop, List.length_take]; rfl)) ?_; (with_reducible refine (sluicegatelaw08_own.calls a0_0 a0_1 t389 t390 _ A22.out).mono ?_); rintro e w29 ⟨rfl, hb⟩; refine ⟨_, rfl, ?_⟩; have n0_ := Aside0.mk (blk_below (g := gb386) (o := .cells #[.string a0_0, .string a0_1] 23 (0, 0)) (by (with_reducible repeat (first | refine blk_drewN ?_ _ | refine blk_drew ?_ | refine blk_alloc ?_ _)); exact BK386.out) hb); have n1_ := Aside0.mk (blk_below (g := gb387) (o := .cells #[.string a1_0, .string a1_1] 23 (0, 0)) (by (with_reducible repeat (first | refine blk_drewN ?_ _ | refine blk_drew ?_ | refine blk_alloc ?_ _)); exact BK387.out) hb); have n2_ := Aside0.mk (below_step (by repeat (first | (with_reducible first | exact HB.out | apply below_alloc | apply pw_below_drewN | apply below_drew1 | refine below_set ?_ GE386.out | refine below_set ?_ GE387.out) | exact HB.out)) hb); clear BK386; clear BK387; clear HB; have BK386 := n0_; have BK387 := n1_; have HB := n2_; clear n0_ n1_ n2_; (try clear hb); (try clear hb2); (try clear hk); (try clear hi)) | ((with_reducible refine gate_callee (f := 10) rfl ?_); refine goesL_ (some 36) rfl rfl Tryd.func10 (by kernel_rfl) rfl #[.agg #[.string t389, .string t390]] rfl (by (try simp only [List.map_toArray, List.map_cons, List.map_nil]); first | done | rfl | (simp only [List.length_drop, List.length_take]; rfl)) ?_; (with_reducible refine (needle_Write.calls kj2 t389 t390 t391 t392 _ A23.out).mono ?_); rintro e w30 ⟨rfl, hb⟩; refine ⟨_, rfl, ?_⟩; have n0_ := Aside0.mk (blk_below (g := gb386) (o := .cells #[.string a0_0, .string a0_1] 23 (0, 0)) (by (with_reducible repeat (first | refine blk_drewN ?_ _ | refine blk_drew ?_ | refine blk_alloc ?_ _)); exact BK386.out) hb); have n1_ := Aside0.mk (blk_below (g := gb387) (o := .cells #[.string a1_0, .string a1_1] 23 (0, 0)) (by (with_reducible repeat (first | refine blk_drewN ?_ _ | refine blk_drew ?_ | refine blk_alloc ?_ _)); exact BK387.out) hb); have n2_ := Aside0.mk (below_step (by repeat (first | (with_reducible first | exact HB.out | apply below_alloc | apply pw_below_drewN | apply below_drew1 | refine below_set ?_ GE386.out | refine below_set ?_ GE387.out) | exact HB.out)) hb); clear BK386; clear BK387; clear HB; have BK386 := n0_; have BK387 := n1_; have HB := n2_; clear n0_ n1_ n2_; (try clear hb); (try clear hb2); (try clear hk); (try clear hi); have hcz31_0 : w30.cell? ⟨gb387, 0, none⟩ = some (.string a1_0) := (blk_cell BK387.out 0).trans rfl; have hcz31_1 : w30.cell? ⟨gb387, 1, none⟩ = some (.string a1_1) := (blk_cell BK387.out 1).trans rfl; have hfz31_0 := blk_frozen BK387.out 0; have hfz31_1 := blk_frozen BK387.out 1) | ((with_reducible refine gate_callee (f := 11) rfl ?_); refine goesL_ (some 41) rfl rfl Tryd.func11 (by kernel_rfl) rfl #[.agg #[.string a1_0, .string a1_1]] rfl (by (try simp only [List.map_toArray, List.map_cons, List.map_nil]); first | done | rfl | (simp only [List.length_drop, List.length_take]; rfl)) ?_; (with_reducible refine (sluicegatelaw08_own.calls a1_0 a1_1 t393 t394 _ A24.out).mono ?_); rintro e w32 ⟨rfl, hb⟩; refine ⟨_, rfl, ?_⟩; have n0_ := Aside0.mk (blk_below (g := gb386) (o := .cells #[.string a0_0, .string a0_1] 23 (0, 0)) (by (with_reducible repeat (first | refine blk_drewN ?_ _ | refine blk_drew ?_ | refine blk_alloc ?_ _)); exact BK386.out) hb); have n1_ := Aside0.mk (blk_below (g := gb387) (o := .cells #[.string a1_0, .string a1_1] 23 (0, 0)) (by (with_reducible repeat (first | refine blk_drewN ?_ _ | refine blk_drew ?_ | refine blk_alloc ?_ _)); exact BK387.out) hb); have n2_ := Aside0.mk (below_step (by repeat (first | (with_reducible first | exact HB.out | apply below_alloc | apply pw_below_drewN | apply below_drew1 | refine below_set ?_ GE386.out | refine below_set ?_ GE387.out) | exact HB.out)) hb); clear BK386; clear BK387; clear HB; have BK386 := n0_; have BK387 := n1_; have HB := n2_; clear n0_ n1_ n2_; (try clear hb); (try clear hb2); (try clear hk); (try clear hi)) | ((with_reducible refine gate_callee (f := 10) rfl ?_); refine goesL_ (some 42) rfl rfl Tryd.func10 (by kernel_rfl) rfl #[.agg #[.string t393, .string t394]] rfl (by (try simp only [List.map_toArray, List.map_cons, List.map_nil]); first | done | rfl | (simp only [List.length_drop, List.length_take]; rfl)) ?_; (with_reducible refine (needle_Write.calls kj2 t393 t394 t395 t396 _ A25.out).mono ?_); rintro e w33 ⟨rfl, hb⟩; refine ⟨_, rfl, ?_⟩; have n0_ := Aside0.mk (blk_below (g := gb386) (o := .cells #[.string a0_0, .string a0_1] 23 (0, 0)) (by (with_reducible repeat (first | refine blk_drewN ?_ _ | refine blk_drew ?_ | refine blk_alloc ?_ _)); exact BK386.out) hb); have n1_ := Aside0.mk (blk_below (g := gb387) (o := .cells #[.string a1_0, .string a1_1] 23 (0, 0)) (by (with_reducible repeat (first | refine blk_drewN ?_ _ | refine blk_drew ?_ | refine blk_alloc ?_ _)); exact BK387.out) hb); have n2_ := Aside0.mk (below_step (by repeat (first | (with_reducible first | exact HB.out | apply below_alloc | apply pw_below_drewN | apply below_drew1 | refine below_set ?_ GE386.out | refine below_set ?_ GE387.out) | exact HB.out)) hb); clear BK386; clear BK387; clear HB; have BK386 := n0_; have BK387 := n1_; have HB := n2_; clear n0_ n1_ n2_; (try clear hb); (try clear hb2); (try clear hk); (try clear hi)))
        (try simp only [Act.put, List.setIfInBounds_toArray, List.set_cons_zero, List.set_cons_succ])
        go_cut [50] (fun v50 wc => ∃ (kq : Nat) (x50_25 : Bool), v50 = .bool x50_25 ∧ Aside0 (sluicegatelaw08_NeedleApart.j1 kq t391 t395 x50_25 a0_0 a0_1 a1_0 a1_1 = some r) ∧ Aside0 (kq ≤ kj2) ∧ Aside0 (wc.heap[gb386]? = some (.cells #[.string a0_0, .string a0_1] 23 (0, 0))) ∧ Aside0 (wc.heap[gb387]? = some (.cells #[.string a1_0, .string a1_1] 23 (0, 0))) ∧ Aside0 (Below w.heap.size w wc))
        case first =>
          have H := HC26.out
          clear HC26
          by_cases c34 : t392 = 0
          · rw [if_pos c34] at H
            have c34b0 : (t392 == 0) = true := beq_iff_eq.mpr c34
            have c34b1 : (t392 != 0) = false := bne_eq_false_iff_eq.mpr c34
            clear c34
            (first | rw [c34b0] | (simp only [i64_w, i32_w]; rw [c34b0]) | skip)
            have H' := Aside0.mk H
            clear H
            go_wp2
            go_meet
            case rel => exact ⟨_, ((t396 != 0)), (by first | rfl | (simp; done) | (simp [*]; done)), H', ⟨by have := HJ2.out; first | omega | exact Nat.le_refl _⟩, ⟨by (with_reducible repeat (first | refine blk_drewN ?_ _ | refine blk_drew ?_ | refine blk_alloc ?_ _)); exact BK386.out⟩, ⟨by (with_reducible repeat (first | refine blk_drewN ?_ _ | refine blk_drew ?_ | refine blk_alloc ?_ _)); exact BK387.out⟩, ⟨by repeat (first | (with_reducible first | exact HB.out | apply below_alloc | apply pw_below_drewN | apply below_drew1 | refine below_set ?_ GE386.out | refine below_set ?_ GE387.out) | exact HB.out)⟩⟩
          · rw [if_neg c34] at H
            have c34b0 : (t392 == 0) = false := beq_eq_false_iff_ne.mpr c34
            have c34b1 : (t392 != 0) = true := bne_iff_ne.mpr c34
            (first | rw [c34b0] | (simp only [i64_w, i32_w]; rw [c34b0]) | skip)
            have H' := Aside0.mk H
            clear H
            go_wp2
            go_meet
            case rel => exact ⟨_, (true), (by first | rfl | (simp; done) | (simp [*]; done)), H', ⟨by have := HJ2.out; first | omega | exact Nat.le_refl _⟩, ⟨by (with_reducible repeat (first | refine blk_drewN ?_ _ | refine blk_drew ?_ | refine blk_alloc ?_ _)); exact BK386.out⟩, ⟨by (with_reducible repeat (first | refine blk_drewN ?_ _ | refine blk_drew ?_ | refine blk_alloc ?_ _)); exact BK387.out⟩, ⟨by repeat (first | (with_reducible first | exact HB.out | apply below_alloc | apply pw_below_drewN | apply below_drew1 | refine below_set ?_ GE386.out | refine below_set ?_ GE387.out) | exact HB.out)⟩⟩
        case rest =>
          clear HC26
          try clear c1
          try clear c2
          try clear p2
          try clear c3
          try clear c6
          try clear c6b0
          try clear c6b1
          try clear c7
          try clear c8
          try clear c9
          try clear c9b0
          try clear c9b1
          try clear c10
          try clear c11
          try clear c12
          try clear c12b0
          try clear c12b1
          try clear c13
          try clear c16
          try clear c19
          try clear c27
          try clear c34
          try clear c34b0
          try clear c34b1
          try clear hcz11_0
          try clear hcz11_1
          try clear hcz14_0
          try clear hcz14_1
          try clear hcz15_0
          try clear hcz15_1
          try clear hcz17_0
          try clear hcz17_1
          try clear hcz18_0
          try clear hcz18_1
          try clear hcz28_0
          try clear hcz28_1
          try clear hcz31_0
          try clear hcz31_1
          try clear hcz8_0
          try clear hcz8_1
          try clear hfz11_0
          try clear hfz11_1
          try clear hfz14_0
          try clear hfz14_1
          try clear hfz15_0
          try clear hfz15_1
          try clear hfz17_0
          try clear hfz17_1
          try clear hfz18_0
          try clear hfz18_1
          try clear hfz28_0
          try clear hfz28_1
          try clear hfz31_0
          try clear hfz31_1
          try clear hfz8_0
          try clear hfz8_1
          try clear p2
          obtain ⟨kq, x50_25, rfl, HA, HJ25, BK386, BK387, HB⟩ := hcut
          cases kq with
          | zero => exact absurd HA.out (by simp [sluicegatelaw08_NeedleApart.j1])
          | succ kj25 =>
            have H := HA.out
            clear HA
            simp only [sluicegatelaw08_NeedleApart.j1] at H
            by_cases c35 : x50_25 = true
            · subst c35
              have H1 : ((sluicegatelaw08_live.f kj25).bind fun t397 => (some t397)) = some r := by rw [if_pos rfl] at H; exact H
              clear H
              have H := H1
              clear H1
              replace H := Option.bind_eq_some_iff.mp H
              obtain ⟨t397, A360, H⟩ := H
              replace H : (some t397) = some r := H
              have A36 := Aside0.mk A360
              clear A360
              obtain rfl := Option.some.inj H
              go_wp2_with (first | ((with_reducible refine gate_callee (f := 9) rfl ?_); refine goesL_ (some 51) rfl rfl Tryd.func9 (by kernel_rfl) rfl #[] rfl (by (try simp only [List.map_toArray, List.map_cons, List.map_nil]); first | done | rfl | (simp only [List.length_drop, List.length_take]; rfl)) ?_; (with_reducible refine (sluicegatelaw08_live.calls kj25  t397 _ A36.out).mono ?_); rintro e w37 ⟨rfl, hb⟩; refine ⟨_, rfl, ?_⟩; have n0_ := Aside0.mk (blk_below (g := gb386) (o := .cells #[.string a0_0, .string a0_1] 23 (0, 0)) (by (with_reducible repeat (first | refine blk_drewN ?_ _ | refine blk_drew ?_ | refine blk_alloc ?_ _)); exact BK386.out) hb); have n1_ := Aside0.mk (blk_below (g := gb387) (o := .cells #[.string a1_0, .string a1_1] 23 (0, 0)) (by (with_reducible repeat (first | refine blk_drewN ?_ _ | refine blk_drew ?_ | refine blk_alloc ?_ _)); exact BK387.out) hb); have n2_ := Aside0.mk (below_step (by repeat (first | (with_reducible first | exact HB.out | apply below_alloc | apply pw_below_drewN | apply below_drew1 | refine below_set ?_ GE386.out | refine below_set ?_ GE387.out) | exact HB.out)) hb); clear BK386; clear BK387; clear HB; have BK386 := n0_; have BK387 := n1_; have HB := n2_; clear n0_ n1_ n2_; (try clear hb); (try clear hb2); (try clear hk); (try clear hi)))
              go_ret
              exact ⟨by first | rfl | (simp [errW_none, errW_some] <;> rfl) | (simp [*, errW_none, errW_some] <;> rfl), by repeat (first | (with_reducible first | exact HB.out | apply below_alloc | apply pw_below_drewN | apply below_drew1 | refine below_set ?_ GE386.out | refine below_set ?_ GE387.out) | exact HB.out)⟩
            · replace c35 := Bool.eq_false_iff.mpr c35
              subst c35
              have H1 : (if (t391.size : Int) ≤ (t395.size : Int) then (if 0 ≤ (t391.size : Int) then (if (((t395.extract 0 t391.size).toList == t391.toList) == (a0_0.toList == a1_0.toList && (a0_1.toList == a1_1.toList))) = true then (if (t391.size : Int) ≤ 384 then ((sluicegatelaw08_live.f kj25).bind fun t398 => (some t398)) else (some false)) else (some false)) else (none)) else (if (false == (a0_0.toList == a1_0.toList && (a0_1.toList == a1_1.toList))) = true then (if (t391.size : Int) ≤ 384 then ((sluicegatelaw08_live.f kj25).bind fun t399 => (some t399)) else (some false)) else (some false))) = some r := by rw [if_neg (show ¬ (false = true) by decide)] at H; exact H
              clear H
              have H := H1
              clear H1
              by_cases c38 : (t391.size : Int) ≤ (t395.size : Int)
              · rw [if_pos c38] at H
                have c38b0 : decide ((t391.size : Int) ≤ (t395.size : Int)) = true := decide_eq_true c38
                have c38b1 : decide (t391.size ≤ t395.size) = true := decide_eq_true (Int.ofNat_le.mp c38)
                clear c38
                by_cases c39 : 0 ≤ (t391.size : Int)
                · rw [if_pos c39] at H
                  have c39b0 := eq_true c39
                  have c39b1 : decide (0 ≤ (t391.size : Int)) = true := decide_eq_true c39
                  clear c39
                  have c40b0 := eq_true (of_decide_eq_true (by first | (with_reducible assumption) | assumption) : (t391.size : Int) ≤ (t395.size : Int))
                  by_cases c41 : (((t395.extract 0 t391.size).toList == t391.toList) == (a0_0.toList == a1_0.toList && (a0_1.toList == a1_1.toList))) = true
                  · rw [if_pos c41] at H
                    have c41b0 : (((t395.extract 0 t391.size).toList == t391.toList) == (a0_0.toList == a1_0.toList && (a0_1.toList == a1_1.toList))) = true := c41
                    (try (have c41b1 : decide (((t395.extract 0 t391.size).toList == t391.toList) = (a0_0.toList == a1_0.toList && (a0_1.toList == a1_1.toList))) = true := by simpa using c41))
                    (try (have c41b2 : (((t395.extract 0 t391.size).toList == t391.toList) == (a0_0.toList == a1_0.toList && (a0_1.toList == a1_1.toList))) = true := by simpa using c41))
                    clear c41
                    by_cases c42 : (t391.size : Int) ≤ 384
                    · rw [if_pos c42] at H
                      have c42b0 : decide ((t391.size : Int) ≤ 384) = true := decide_eq_true c42
                      have c42b1 : decide (t391.size ≤ 384) = true := decide_eq_true (by omega)
                      clear c42
                      replace H := Option.bind_eq_some_iff.mp H
                      obtain ⟨t398, A430, H⟩ := H
                      replace H : (some t398) = some r := H
                      have A43 := Aside0.mk A430
                      clear A430
                      obtain rfl := Option.some.inj H
                      have hnb44 := NB386_387.out
                      have hnc44 := NB387_386.out
                      have hcz45_0 : wc.cell? ⟨gb386, 0, none⟩ = some (.string a0_0) := (blk_cell BK386.out 0).trans rfl
                      have hcz45_1 : wc.cell? ⟨gb386, 1, none⟩ = some (.string a0_1) := (blk_cell BK386.out 1).trans rfl
                      have hfz45_0 := blk_frozen BK386.out 0
                      have hfz45_1 := blk_frozen BK386.out 1
                      have hcz46_0 : wc.cell? ⟨gb387, 0, none⟩ = some (.string a1_0) := (blk_cell BK387.out 0).trans rfl
                      have hcz46_1 : wc.cell? ⟨gb387, 1, none⟩ = some (.string a1_1) := (blk_cell BK387.out 1).trans rfl
                      have hfz46_0 := blk_frozen BK387.out 0
                      have hfz46_1 := blk_frozen BK387.out 1
                      go_wp2_with (first | (go_at_call 9; (with_reducible refine (sluicegatelaw08_live.calls kj25  t398 _ A43.out).mono ?_); rintro e w47 ⟨rfl, hb⟩; have n0_ := Aside0.mk (blk_below (g := gb386) (o := .cells #[.string a0_0, .string a0_1] 23 (0, 0)) (by (with_reducible repeat (first | refine blk_drewN ?_ _ | refine blk_drew ?_ | refine blk_alloc ?_ _)); exact BK386.out) hb); have n1_ := Aside0.mk (blk_below (g := gb387) (o := .cells #[.string a1_0, .string a1_1] 23 (0, 0)) (by (with_reducible repeat (first | refine blk_drewN ?_ _ | refine blk_drew ?_ | refine blk_alloc ?_ _)); exact BK387.out) hb); have n2_ := Aside0.mk (below_step (by repeat (first | (with_reducible first | exact HB.out | apply below_alloc | apply pw_below_drewN | apply below_drew1 | refine below_set ?_ GE386.out | refine below_set ?_ GE387.out) | exact HB.out)) hb); clear BK386; clear BK387; clear HB; have BK386 := n0_; have BK387 := n1_; have HB := n2_; clear n0_ n1_ n2_; (try clear hb); (try clear hb2); (try clear hk); (try clear hi)))
                      go_ret
                      exact ⟨by first | rfl | (simp [errW_none, errW_some] <;> rfl) | (simp [*, errW_none, errW_some] <;> rfl), by repeat (first | (with_reducible first | exact HB.out | apply below_alloc | apply pw_below_drewN | apply below_drew1 | refine below_set ?_ GE386.out | refine below_set ?_ GE387.out) | exact HB.out)⟩
                    · rw [if_neg c42] at H
                      have c42b0 : decide ((t391.size : Int) ≤ 384) = false := decide_eq_false c42
                      have c42b1 : decide (t391.size ≤ 384) = false := decide_eq_false (by omega)
                      clear c42
                      obtain rfl := Option.some.inj H
                      have hnb48 := NB386_387.out
                      have hnc48 := NB387_386.out
                      have hcz49_0 : wc.cell? ⟨gb386, 0, none⟩ = some (.string a0_0) := (blk_cell BK386.out 0).trans rfl
                      have hcz49_1 : wc.cell? ⟨gb386, 1, none⟩ = some (.string a0_1) := (blk_cell BK386.out 1).trans rfl
                      have hfz49_0 := blk_frozen BK386.out 0
                      have hfz49_1 := blk_frozen BK386.out 1
                      have hcz50_0 : wc.cell? ⟨gb387, 0, none⟩ = some (.string a1_0) := (blk_cell BK387.out 0).trans rfl
                      have hcz50_1 : wc.cell? ⟨gb387, 1, none⟩ = some (.string a1_1) := (blk_cell BK387.out 1).trans rfl
                      have hfz50_0 := blk_frozen BK387.out 0
                      have hfz50_1 := blk_frozen BK387.out 1
                      go_wp2
                      go_ret
                      exact ⟨by first | rfl | (simp [errW_none, errW_some] <;> rfl) | (simp [*, errW_none, errW_some] <;> rfl), by repeat (first | (with_reducible first | exact HB.out | apply below_alloc | apply pw_below_drewN | apply below_drew1 | refine below_set ?_ GE386.out | refine below_set ?_ GE387.out) | exact HB.out)⟩
                  · rw [if_neg c41] at H
                    have c41b0 : (((t395.extract 0 t391.size).toList == t391.toList) == (a0_0.toList == a1_0.toList && (a0_1.toList == a1_1.toList))) = false := by simpa using c41
                    (try (have c41b1 : decide (((t395.extract 0 t391.size).toList == t391.toList) = (a0_0.toList == a1_0.toList && (a0_1.toList == a1_1.toList))) = false := by simpa using c41))
                    (try (have c41b2 : (((t395.extract 0 t391.size).toList == t391.toList) == (a0_0.toList == a1_0.toList && (a0_1.toList == a1_1.toList))) = false := by simpa using c41))
                    (try (have c41b3 : ¬ (((t395.extract 0 t391.size).toList == t391.toList) = (a0_0.toList == a1_0.toList && (a0_1.toList == a1_1.toList))) := by simpa using c41))
                    clear c41
                    obtain rfl := Option.some.inj H
                    have hnb51 := NB386_387.out
                    have hnc51 := NB387_386.out
                    have hcz52_0 : wc.cell? ⟨gb386, 0, none⟩ = some (.string a0_0) := (blk_cell BK386.out 0).trans rfl
                    have hcz52_1 : wc.cell? ⟨gb386, 1, none⟩ = some (.string a0_1) := (blk_cell BK386.out 1).trans rfl
                    have hfz52_0 := blk_frozen BK386.out 0
                    have hfz52_1 := blk_frozen BK386.out 1
                    have hcz53_0 : wc.cell? ⟨gb387, 0, none⟩ = some (.string a1_0) := (blk_cell BK387.out 0).trans rfl
                    have hcz53_1 : wc.cell? ⟨gb387, 1, none⟩ = some (.string a1_1) := (blk_cell BK387.out 1).trans rfl
                    have hfz53_0 := blk_frozen BK387.out 0
                    have hfz53_1 := blk_frozen BK387.out 1
                    go_wp2
                    go_ret
                    exact ⟨by first | rfl | (simp [errW_none, errW_some] <;> rfl) | (simp [*, errW_none, errW_some] <;> rfl), by repeat (first | (with_reducible first | exact HB.out | apply below_alloc | apply pw_below_drewN | apply below_drew1 | refine below_set ?_ GE386.out | refine below_set ?_ GE387.out) | exact HB.out)⟩
                · rw [if_neg c39] at H
                  exact absurd H (by simp)
              · rw [if_neg c38] at H
                have c38b0 : decide ((t391.size : Int) ≤ (t395.size : Int)) = false := decide_eq_false c38
                have c38b1 : decide (t391.size ≤ t395.size) = false := decide_eq_false (fun h => c38 (Int.ofNat_le.mpr h))
                clear c38
                by_cases c54 : (false == (a0_0.toList == a1_0.toList && (a0_1.toList == a1_1.toList))) = true
                · rw [if_pos c54] at H
                  have c54b0 : (false == (a0_0.toList == a1_0.toList && (a0_1.toList == a1_1.toList))) = true := c54
                  (try (have c54b1 : decide (false = (a0_0.toList == a1_0.toList && (a0_1.toList == a1_1.toList))) = true := by simpa using c54))
                  (try (have c54b2 : (false == (a0_0.toList == a1_0.toList && (a0_1.toList == a1_1.toList))) = true := by simpa using c54))
                  clear c54
                  by_cases c55 : (t391.size : Int) ≤ 384
                  · rw [if_pos c55] at H
                    have c55b0 : decide ((t391.size : Int) ≤ 384) = true := decide_eq_true c55
                    have c55b1 : decide (t391.size ≤ 384) = true := decide_eq_true (by omega)
                    clear c55
                    replace H := Option.bind_eq_some_iff.mp H
                    obtain ⟨t399, A560, H⟩ := H
                    replace H : (some t399) = some r := H
                    have A56 := Aside0.mk A560
                    clear A560
                    obtain rfl := Option.some.inj H
                    have hnb57 := NB386_387.out
                    have hnc57 := NB387_386.out
                    have hcz58_0 : wc.cell? ⟨gb386, 0, none⟩ = some (.string a0_0) := (blk_cell BK386.out 0).trans rfl
                    have hcz58_1 : wc.cell? ⟨gb386, 1, none⟩ = some (.string a0_1) := (blk_cell BK386.out 1).trans rfl
                    have hfz58_0 := blk_frozen BK386.out 0
                    have hfz58_1 := blk_frozen BK386.out 1
                    have hcz59_0 : wc.cell? ⟨gb387, 0, none⟩ = some (.string a1_0) := (blk_cell BK387.out 0).trans rfl
                    have hcz59_1 : wc.cell? ⟨gb387, 1, none⟩ = some (.string a1_1) := (blk_cell BK387.out 1).trans rfl
                    have hfz59_0 := blk_frozen BK387.out 0
                    have hfz59_1 := blk_frozen BK387.out 1
                    go_wp2_with (first | (go_at_call 9; (with_reducible refine (sluicegatelaw08_live.calls kj25  t399 _ A56.out).mono ?_); rintro e w60 ⟨rfl, hb⟩; have n0_ := Aside0.mk (blk_below (g := gb386) (o := .cells #[.string a0_0, .string a0_1] 23 (0, 0)) (by (with_reducible repeat (first | refine blk_drewN ?_ _ | refine blk_drew ?_ | refine blk_alloc ?_ _)); exact BK386.out) hb); have n1_ := Aside0.mk (blk_below (g := gb387) (o := .cells #[.string a1_0, .string a1_1] 23 (0, 0)) (by (with_reducible repeat (first | refine blk_drewN ?_ _ | refine blk_drew ?_ | refine blk_alloc ?_ _)); exact BK387.out) hb); have n2_ := Aside0.mk (below_step (by repeat (first | (with_reducible first | exact HB.out | apply below_alloc | apply pw_below_drewN | apply below_drew1 | refine below_set ?_ GE386.out | refine below_set ?_ GE387.out) | exact HB.out)) hb); clear BK386; clear BK387; clear HB; have BK386 := n0_; have BK387 := n1_; have HB := n2_; clear n0_ n1_ n2_; (try clear hb); (try clear hb2); (try clear hk); (try clear hi)))
                    go_ret
                    exact ⟨by first | rfl | (simp [errW_none, errW_some] <;> rfl) | (simp [*, errW_none, errW_some] <;> rfl), by repeat (first | (with_reducible first | exact HB.out | apply below_alloc | apply pw_below_drewN | apply below_drew1 | refine below_set ?_ GE386.out | refine below_set ?_ GE387.out) | exact HB.out)⟩
                  · rw [if_neg c55] at H
                    have c55b0 : decide ((t391.size : Int) ≤ 384) = false := decide_eq_false c55
                    have c55b1 : decide (t391.size ≤ 384) = false := decide_eq_false (by omega)
                    clear c55
                    obtain rfl := Option.some.inj H
                    have hnb61 := NB386_387.out
                    have hnc61 := NB387_386.out
                    have hcz62_0 : wc.cell? ⟨gb386, 0, none⟩ = some (.string a0_0) := (blk_cell BK386.out 0).trans rfl
                    have hcz62_1 : wc.cell? ⟨gb386, 1, none⟩ = some (.string a0_1) := (blk_cell BK386.out 1).trans rfl
                    have hfz62_0 := blk_frozen BK386.out 0
                    have hfz62_1 := blk_frozen BK386.out 1
                    have hcz63_0 : wc.cell? ⟨gb387, 0, none⟩ = some (.string a1_0) := (blk_cell BK387.out 0).trans rfl
                    have hcz63_1 : wc.cell? ⟨gb387, 1, none⟩ = some (.string a1_1) := (blk_cell BK387.out 1).trans rfl
                    have hfz63_0 := blk_frozen BK387.out 0
                    have hfz63_1 := blk_frozen BK387.out 1
                    go_wp2
                    go_ret
                    exact ⟨by first | rfl | (simp [errW_none, errW_some] <;> rfl) | (simp [*, errW_none, errW_some] <;> rfl), by repeat (first | (with_reducible first | exact HB.out | apply below_alloc | apply pw_below_drewN | apply below_drew1 | refine below_set ?_ GE386.out | refine below_set ?_ GE387.out) | exact HB.out)⟩
                · rw [if_neg c54] at H
                  have c54b0 : (false == (a0_0.toList == a1_0.toList && (a0_1.toList == a1_1.toList))) = false := by simpa using c54
                  (try (have c54b1 : decide (false = (a0_0.toList == a1_0.toList && (a0_1.toList == a1_1.toList))) = false := by simpa using c54))
                  (try (have c54b2 : (false == (a0_0.toList == a1_0.toList && (a0_1.toList == a1_1.toList))) = false := by simpa using c54))
                  (try (have c54b3 : ¬ (false = (a0_0.toList == a1_0.toList && (a0_1.toList == a1_1.toList))) := by simpa using c54))
                  clear c54
                  obtain rfl := Option.some.inj H
                  have hnb64 := NB386_387.out
                  have hnc64 := NB387_386.out
                  have hcz65_0 : wc.cell? ⟨gb386, 0, none⟩ = some (.string a0_0) := (blk_cell BK386.out 0).trans rfl
                  have hcz65_1 : wc.cell? ⟨gb386, 1, none⟩ = some (.string a0_1) := (blk_cell BK386.out 1).trans rfl
                  have hfz65_0 := blk_frozen BK386.out 0
                  have hfz65_1 := blk_frozen BK386.out 1
                  have hcz66_0 : wc.cell? ⟨gb387, 0, none⟩ = some (.string a1_0) := (blk_cell BK387.out 0).trans rfl
                  have hcz66_1 : wc.cell? ⟨gb387, 1, none⟩ = some (.string a1_1) := (blk_cell BK387.out 1).trans rfl
                  have hfz66_0 := blk_frozen BK387.out 0
                  have hfz66_1 := blk_frozen BK387.out 1
                  go_wp2
                  go_ret
                  exact ⟨by first | rfl | (simp [errW_none, errW_some] <;> rfl) | (simp [*, errW_none, errW_some] <;> rfl), by repeat (first | (with_reducible first | exact HB.out | apply below_alloc | apply pw_below_drewN | apply below_drew1 | refine below_set ?_ GE386.out | refine below_set ?_ GE387.out) | exact HB.out)⟩
end Go.Proofs.YtpgfafpjfdbjmaaDoor.Q
end
section
namespace Go.Proofs.YtpgfafpjfdbjmaaDoor
open Go.RowKit Q Go.Proofs.YtpgfafpjfdbjmaaDoorW.PrintWords Go.Proofs.YtpgfafpjfdbjmaaDoorW.PrintLast Go.Proofs.YtpgfafpjfdbjmaaDoorW.PrintMore
abbrev P2 := List UInt8 × List UInt8
def catN : List P2 → List UInt8
  | [] => []
  | p :: r => wrN p.1 p.2 ++ catN r
def offs : Nat → List P2 → List Int
  | _, [] => []
  | o, p :: r => (o : Int) :: offs (o + (wrN p.1 p.2).length) r
theorem wr_ne (k v r : List UInt8) : wrN k v ++ r ≠ [] := fun h => by
  have h1 := congrArg List.length h
  have h2 := wrN_len k v
  rw [List.length_append, List.length_nil] at h1
  omega
theorem allN_cat (n : Nat) : ∀ (ps : List P2) (o : Nat) (l : List P2) (a : List Int) , (∀ p ∈ ps, chkN p.1 p.2 = 0) → o + (catN ps).length = n → allN n l a (catN ps) = (l ++ ps, a ++ offs o ps, 0)
  | [], o, l, a, _, _ => by
    show allN n l a [] = _
    rw [allN_nil]
    simp [offs]
  | p :: r, o, l, a, h, hn => by
    have hp := rdN_wr p.1 p.2 (catN r) (h p (List.mem_cons_self ..))
    show allN n l a (wrN p.1 p.2 ++ catN r) = _
    rw [allN_ok (wr_ne _ _ _) (by rw [hp]), hp]
    have hlen : (catN (p :: r)).length = (wrN p.1 p.2).length + (catN r).length := by
      show (wrN p.1 p.2 ++ catN r).length = _
      rw [List.length_append]
    simp only
    rw [allN_cat n r (o + (wrN p.1 p.2).length) _ _ (fun q hq => h q (List.mem_cons_of_mem _ hq)) (by omega)]
    have ho : (n : Int) - ((wrN p.1 p.2 ++ catN r).length : Int) = (o : Int) := by
      rw [List.length_append]
      omega
    rw [ho, List.append_assoc, List.append_assoc]
    rfl
theorem six_parts (L : List UInt8) (h : L.length = 384) : ((L.drop (64 * 0)).take 64) ++ (((L.drop (64 * 1)).take 64) ++ (((L.drop (64 * 2)).take 64) ++ (((L.drop (64 * 3)).take 64) ++ (((L.drop (64 * 4)).take 64) ++ ((L.drop (64 * 5)).take 64))))) = L := by
  have s : ∀ k, (L.drop (64 * k)).take 64 ++ L.drop (64 * (k + 1)) = L.drop (64 * k) := fun k => by
    have := List.take_append_drop 64 (L.drop (64 * k))
    rw [List.drop_drop] at this
    rw [show 64 * (k + 1) = 64 * k + 64 by omega]
    exact this
  have s5 : (L.drop (64 * 5)).take 64 = L.drop (64 * 5) := List.take_of_length_le (by rw [List.length_drop, h]; decide)
  rw [s5, s 4, s 3, s 2, s 1, s 0]
  rfl
theorem flat_parts (s : List UInt8) (h : s.length ≤ 384) : flatN ([0, 1, 2, 3, 4, 5].map (partN s)) = padN s := by
  have := six_parts (padN s) (padN_len s h)
  unfold flatN
  simp only [List.map_cons, List.map_nil, List.flatten_cons, List.flatten_nil, List.append_nil, partN, B_data]
  exact this
theorem part_size (s : List UInt8) (h : s.length ≤ 384) (i : Nat) (hi : i < 6) : (partN s i).size = 64 := by
  unfold partN
  rw [B_size, List.length_take, List.length_drop, padN_len s h]
  omega
theorem all64_parts (s : List UInt8) (h : s.length ≤ 384) : all64 ([0, 1, 2, 3, 4, 5].map (partN s)) = true := by
  unfold all64
  simp [part_size s h]
theorem join_parts (s : List UInt8) (h : s.length ≤ 384) (n : Nat) (hn : n ≤ 384) : joinR ([0, 1, 2, 3, 4, 5].map (partN s)) (n : Int) = if zeroB ((padN s).drop n) = true then (B ((padN s).take n), 0) else (⟨#[]⟩, 4) := by
  unfold joinR
  rw [if_pos ⟨rfl, by omega, by omega, all64_parts s h⟩, flat_parts s h, Int.toNat_natCast]
theorem chk_a : chkN [97] [] = 0 := by
  unfold chkN
  rw [if_neg (by decide), if_neg (by simp [txt, enc_lt])]
theorem chk_ab : chkN [97, 32, 98] [] = 11 := by
  unfold chkN
  rw [if_pos (by decide)]
theorem chk_big : chkN [97] (List.replicate 349 0) = 12 := by
  unfold chkN
  have e1 : (txt [97]).length = 2 := by simp [txt, enc_lt]
  have e3 : (enc 349).length = 2 := by simp [enc_ge, enc_lt]
  have e2 : (txt (List.replicate 349 0)).length = 351 := by
    unfold txt
    rw [List.length_append, List.length_replicate, e3]
  rw [if_neg (by decide), if_pos (by rw [e1, e2]; decide)]
theorem wr_a : (wrN [97] []).length = 35 := by
  unfold wrN
  rw [List.length_append, List.length_append, SHA_len]
  simp [txt, enc_lt]
theorem ints_self (l : List Int) (hl : l.length ≤ 140737488355328) : ∀ (d i k : Nat), l.length - i = d → i ≤ l.length → d < k → sluicegateref06_Ints.l0 k l l (i : Int) = some true := by
  intro d
  induction d with
  | zero =>
    intro i k hd hi hk
    obtain ⟨k, rfl⟩ : ∃ j, k = j + 1 := ⟨k - 1, by omega⟩
    simp only [sluicegateref06_Ints.l0]
    rw [if_neg (by omega)]
  | succ d ih =>
    intro i k hd hi hk
    obtain ⟨k, rfl⟩ : ∃ j, k = j + 1 := ⟨k - 1, by omega⟩
    simp only [sluicegateref06_Ints.l0]
    rw [if_pos (by omega), if_pos (by omega), if_pos (by omega), if_pos trivial, nwrap_k i (by omega)]
    exact ih (i + 1) k (by omega) (by omega) (by omega)
theorem ints_f (l : List Int) (hl : l.length ≤ 140737488355328) (k : Nat) (hk : l.length < k) : sluicegateref06_Ints.f k l l = some true := by
  unfold sluicegateref06_Ints.f
  rw [if_pos rfl]
  exact ints_self l hl _ 0 k rfl (Nat.zero_le _) (by omega)
end Go.Proofs.YtpgfafpjfdbjmaaDoor
end
section
namespace Go.Proofs.YtpgfafpjfdbjmaaDoor
open Go.RowKit Q Go.Proofs.YtpgfafpjfdbjmaaDoorW.PrintWords Go.Proofs.YtpgfafpjfdbjmaaDoorW.PrintLast Go.Proofs.YtpgfafpjfdbjmaaDoorW.PrintMore
theorem nb_zeros (n : Nat) : nb (List.replicate n 0) = List.replicate n 0 := by
  unfold nb
  rw [List.map_replicate]
  rfl
theorem zero_tail : zeroB ((padN [97, 98, 99]).drop 3) = true := by
  unfold padN zeroB
  rw [show ([97, 98, 99] : List UInt8) ++ List.replicate (384 - ([97, 98, 99] : List UInt8).length) 0 = [97, 98, 99] ++ List.replicate 381 0 from rfl, List.drop_append_of_le_length (by decide), show ([97, 98, 99] : List UInt8).drop 3 = [] from rfl, List.nil_append, List.all_eq_true]
  intro x hx
  rw [List.eq_of_mem_replicate hx]
  rfl
theorem two_all : allN 70 [] [] (wrN [97] [] ++ wrN [97] []) = ([([97], []), ([97], [])], [0, 35], 0) := by
  have hw := wr_a
  have h := allN_cat 70 [([97], []), ([97], [])] 0 [] [] (fun p hp => by
    simp only [List.mem_cons, List.not_mem_nil, or_false, or_self] at hp
    subst hp
    exact chk_a) (by simp only [catN, List.append_nil, List.length_append]; omega)
  simp only [catN, List.append_nil, List.nil_append, offs] at h
  rw [h, hw]
  rfl
theorem live08 (k : Nat) (hk : 40 ≤ k) : sluicegatelaw08_live.f k = some true := by
  have hw := wr_a
  have e1 : needle_Write.f k (⟨#[97]⟩ : ByteArray) (⟨#[]⟩ : ByteArray) = some (B (wrN [97] []), 0) := by
    have := nwrite_f [97] [] (by decide) (by decide) k (by omega)
    unfold wroteN at this
    rw [if_pos chk_a] at this
    exact this
  have e2 : needle_Read.f k (B (wrN [97] []) ++ (⟨#[120]⟩ : ByteArray)) = some (B [97], B [], B [120], 0) := by
    have := nread_f (wrN [97] [] ++ [120]) (by rw [List.length_append, hw]; decide) k (by omega)
    rw [rdN_wr [97] [] [120] chk_a] at this
    rw [show (⟨#[120]⟩ : ByteArray) = B [120] from rfl, B_append]
    exact this
  have e3 : needle_Write.f k (⟨#[97, 32, 98]⟩ : ByteArray) (⟨#[]⟩ : ByteArray) = some (⟨#[]⟩, 11) := by
    have := nwrite_f [97, 32, 98] [] (by decide) (by decide) k (by omega)
    unfold wroteN at this
    rw [chk_ab, if_neg (by decide)] at this
    exact this
  have e4 : needle_Write.f k (⟨#[97]⟩ : ByteArray) (strOfNums (List.replicate 349 0)) = some (⟨#[]⟩, 12) := by
    have := nwrite_f [97] (List.replicate 349 0) (by decide) (by rw [List.length_replicate]; decide) k (by omega)
    unfold wroteN at this
    rw [chk_big, if_neg (by decide)] at this
    rw [← nb_zeros, strOfNums_nb]
    exact this
  have e5 : needle_Shards.f (⟨#[97, 98, 99]⟩ : ByteArray) = some ([0, 1, 2, 3, 4, 5].map (partN [97, 98, 99]), 0) := rfl
  have e6 : needle_Join.f ([0, 1, 2, 3, 4, 5].map (partN [97, 98, 99])) 3 = some (B [97, 98, 99], 0) := by
    have := join_parts [97, 98, 99] (by decide) 3 (by decide)
    rw [zero_tail, if_pos rfl] at this
    unfold needle_Join.f
    rw [show (3 : Int) = ((3 : Nat) : Int) from rfl, this]
    rfl
  have e7 : needle_All.f (B (wrN [97] []) ++ B (wrN [97] [])) = some ([⟨B [97], B []⟩, ⟨B [97], B []⟩], [0, 35], 0) := by
    rw [B_append]
    unfold needle_All.f
    rw [B_data, B_size, List.length_append, hw, if_pos (by decide), two_all]
    rfl
  have e8 := ints_f [0, 35] (by decide) k (by show 2 < k; omega)
  unfold sluicegatelaw08_live.f
  rw [e1, Option.bind_some]
  simp only
  rw [if_pos (by rw [B_size, hw]; decide), e2, Option.bind_some, e3, Option.bind_some, if_pos (by decide), e4, Option.bind_some, e5, Option.bind_some]
  simp only
  rw [e6, Option.bind_some, if_pos (by rw [B_size, hw]; decide), e7, Option.bind_some]
  simp only
  rw [if_pos (by rw [B_size, hw]; rfl), if_pos trivial, if_pos (by rw [B_toList, B_toList]; rfl), if_pos (by rw [B_toList]), if_pos trivial, if_pos trivial, if_pos trivial, if_pos (by rfl), if_pos trivial, if_pos (by rw [B_toList]), if_pos trivial, if_pos (by rfl), e8, Option.bind_some, if_pos rfl]
  rfl
end Go.Proofs.YtpgfafpjfdbjmaaDoor
end
section
namespace Go.Proofs.YtpgfafpjfdbjmaaDoor
open Go.RowKit Q Go.Proofs.YtpgfafpjfdbjmaaDoorW.PrintWords Go.Proofs.YtpgfafpjfdbjmaaDoorW.PrintLast Go.Proofs.YtpgfafpjfdbjmaaDoorW.PrintMore
theorem wr_begins {a b c d : List UInt8} (h1 : chkN a b = 0) (h2 : chkN c d = 0) (hb : (wrN c d).take (wrN a b).length = wrN a b) : a = c ∧ b = d := by
  obtain ⟨ha, hbl, _, _⟩ := chkN_small h1
  obtain ⟨hc, hdl, _, _⟩ := chkN_small h2
  have e : wrN c d = wrN a b ++ (wrN c d).drop (wrN a b).length := by
    conv => lhs; rw [← List.take_append_drop (wrN a b).length (wrN c d), hb]
  unfold wrN at e
  simp only [List.append_assoc] at e
  obtain ⟨e1, e2⟩ := txt_pre (by omega) (by omega) e
  obtain ⟨e3, _⟩ := txt_pre (by omega) (by omega) e2
  exact ⟨e1.symm, e3.symm⟩
theorem Pure.NeedleApart (a0_0 a0_1 a1_0 a1_1 : ByteArray) (_ : a0_0.size ≤ maxLen) (_ : a0_1.size ≤ maxLen) (_ : a1_0.size ≤ maxLen) (_ : a1_1.size ≤ maxLen) : ∃ k, sluicegatelaw08_NeedleApart.f k a0_0 a0_1 a1_0 a1_1 = some true := by
  refine ⟨200 + 1 + 1, ?_⟩
  have hL := live08 200 (by decide)
  have hL1 := live08 (200 + 1) (by decide)
  obtain ⟨a, rfl⟩ := exB a0_0
  obtain ⟨b, rfl⟩ := exB a0_1
  obtain ⟨c, rfl⟩ := exB a1_0
  obtain ⟨d, rfl⟩ := exB a1_1
  have hJ : sluicegatelaw08_NeedleApart.j0 (200 + 1 + 1) true (B a) (B b) (B c) (B d) = some true := by
    rw [sluicegatelaw08_NeedleApart.j0]
    rw [if_pos rfl, hL1]
    rfl
  have hJ1 : ∀ x y, sluicegatelaw08_NeedleApart.j1 (200 + 1) x y true (B a) (B b) (B c) (B d) = some true := fun x y => by
    rw [sluicegatelaw08_NeedleApart.j1]
    rw [if_pos rfl, hL]
    rfl
  unfold sluicegatelaw08_NeedleApart.f
  by_cases h1 : ((B a).size : Int) > 100
  · rw [if_pos h1]; exact hJ
  rw [if_neg h1]
  by_cases h2 : ((B b).size : Int) > 1000
  · rw [if_pos h2]; exact hJ
  rw [if_neg h2]
  by_cases h3 : ((B c).size : Int) > 100
  · rw [if_pos h3]; exact hJ
  rw [if_neg h3]
  by_cases h4 : ((B d).size : Int) > 1000
  · rw [decide_eq_true h4]; exact hJ
  rw [decide_eq_false h4]
  rw [B_size] at h1 h2 h3 h4
  have e1 := nwrite_f a b (by omega) (by omega) (200 + 1) (by decide)
  have e2 := nwrite_f c d (by omega) (by omega) (200 + 1) (by decide)
  rw [sluicegatelaw08_NeedleApart.j0]
  rw [if_neg (by simp)]
  simp only [sluicegatelaw08_own.f, Option.bind_some]
  rw [e1, Option.bind_some, e2, Option.bind_some]
  unfold wroteN
  by_cases c1 : chkN a b = 0
  · rw [if_pos c1]
    by_cases c2 : chkN c d = 0
    · rw [if_pos c2]
      simp only
      rw [if_pos trivial, show ((0 : Int) != 0) = false from rfl, sluicegatelaw08_NeedleApart.j1]
      obtain ⟨_, _, h384, _⟩ := chkN_small c1
      rw [if_neg (by simp), B_size, B_size]
      by_cases hle : ((wrN a b).length : Int) ≤ ((wrN c d).length : Int)
      · rw [if_pos hle, if_pos (by omega)]
        have hx : (B (wrN c d)).extract 0 (wrN a b).length = B ((wrN c d).take (wrN a b).length) := by rw [B_extract, List.drop_zero, Nat.sub_zero]
        simp only [hx, B_toList]
        have hb : (((wrN c d).take (wrN a b).length == wrN a b) == (a == c && (b == d))) = true := by
          by_cases he : a = c ∧ b = d
          · obtain ⟨rfl, rfl⟩ := he
            simp
          · have hn : ¬ (wrN c d).take (wrN a b).length = wrN a b := fun h => he (wr_begins c1 c2 h)
            rw [show ((wrN c d).take (wrN a b).length == wrN a b) = false from beq_eq_false_iff_ne.mpr hn]
            have : (a == c && (b == d)) = false := by
              rw [Bool.eq_false_iff]
              intro h
              rw [Bool.and_eq_true, beq_iff_eq, beq_iff_eq] at h
              exact he h
            rw [this]
            rfl
        rw [if_pos hb, if_pos (by omega), hL]
        rfl
      · rw [if_neg hle]
        simp only [B_toList]
        have hb : (false == (a == c && (b == d))) = true := by
          have : (a == c && (b == d)) = false := by
            rw [Bool.eq_false_iff]
            intro h
            rw [Bool.and_eq_true, beq_iff_eq, beq_iff_eq] at h
            obtain ⟨rfl, rfl⟩ := h
            omega
          rw [this]
          rfl
        rw [if_pos hb, if_pos (by omega), hL]
        rfl
    · rw [if_neg c2]
      simp only
      rw [if_pos trivial, show (chkN c d != 0) = true from bne_iff_ne.mpr c2]
      exact hJ1 _ _
  · rw [if_neg c1]
    simp only
    rw [if_neg c1]
    exact hJ1 _ _
end Go.Proofs.YtpgfafpjfdbjmaaDoor
end
