/- Functions of the translation told as plain Lean functions, and that the calls come to just these. Written by a program of this session, which drives print.py; not a text of print.sh. -/
import Derived.Test.YtoakibpgmjebeaaQx0
import Derived.Test.YtoakibpgmjebeaaQx2
import Derived.Test.YtoakibpgmjebeaaQx5
import Derived.Test.YtoakibpgmjebeaaLive07
import Derived.Test.YtoakibpgmjebeaaSecWrite
namespace Go.Proofs.Ytoakibpgmjebeaa.Q
open Go.RowKit Go.Proofs.YtoakibpgmjebeaaW.PrintWords Go.Proofs.YtoakibpgmjebeaaW.PrintLast Go.Proofs.YtoakibpgmjebeaaW.PrintMore
attribute [local go_sem] max2_int min2_int max_two min_two max_three min_three max_four min_four   -- for this text's walks alone
set_option linter.unusedVariables false
set_option linter.unusedSimpArgs false

attribute [local go_sem high] eqA25
/-! ### sluicegatelaw07_SectorApart: function 8 -/
mutual
def sluicegatelaw07_SectorApart.j0 : Nat → Bool → Int → Int → Int → Int → Int → ByteArray → Int → Int → Int → Int → Int → ByteArray → Option (Bool)
  | 0, _, _, _, _, _, _, _, _, _, _, _, _, _ => none
  | k + 1, x18, x319000, x319001, x319002, x319003, x319004, x319005, x320000, x320001, x320002, x320003, x320004, x320005 => if x18 = true then ((sluicegatelaw07_live.f).bind fun t320 => (some t320)) else ((sluicegatelaw07_own.f x319000 x319001 x319002 x319003 x319004 x319005).bind fun bt321 => ((sector_Write.f bt321.1 bt321.2.1 bt321.2.2.1 bt321.2.2.2.1 bt321.2.2.2.2.1 bt321.2.2.2.2.2).bind fun bt327 => ((sluicegatelaw07_own.f x320000 x320001 x320002 x320003 x320004 x320005).bind fun bt329 => ((sector_Write.f bt329.1 bt329.2.1 bt329.2.2.1 bt329.2.2.2.1 bt329.2.2.2.2.1 bt329.2.2.2.2.2).bind fun bt335 => (if bt327.2 = 0 then (sluicegatelaw07_SectorApart.j1 k bt327.1 bt335.1 (bt335.2 != 0) x319000 x319001 x319002 x319003 x319004 x319005 x320000 x320001 x320002 x320003 x320004 x320005) else (sluicegatelaw07_SectorApart.j1 k bt327.1 bt335.1 true x319000 x319001 x319002 x319003 x319004 x319005 x320000 x320001 x320002 x320003 x320004 x320005))))))
def sluicegatelaw07_SectorApart.j1 : Nat → ByteArray → ByteArray → Bool → Int → Int → Int → Int → Int → ByteArray → Int → Int → Int → Int → Int → ByteArray → Option (Bool)
  | 0, _, _, _, _, _, _, _, _, _, _, _, _, _, _, _ => none
  | k + 1, x5, x7, x37, x319000, x319001, x319002, x319003, x319004, x319005, x320000, x320001, x320002, x320003, x320004, x320005 => if x37 = true then ((sluicegatelaw07_live.f).bind fun t337 => (some t337)) else (if ((x5.toList == x7.toList) == (x319000 == x320000 && (x319001 == x320001 && (x319002 == x320002 && ((x319003 == x320003 && (x319004 == x320004)) && (x319005.toList == x320005.toList)))))) = true then (if (x5.size : Int) ≤ 200 then ((sluicegatelaw07_live.f).bind fun t338 => (some t338)) else (some false)) else (some false))
end
def sluicegatelaw07_SectorApart.f (k : Nat) (a0_0 : Int) (a0_1 : Int) (a0_2 : Int) (a0_3 : Int) (a0_4 : Int) (a0_5 : ByteArray) (a1_0 : Int) (a1_1 : Int) (a1_2 : Int) (a1_3 : Int) (a1_4 : Int) (a1_5 : ByteArray) : Option (Bool) := if (a0_5.size : Int) > 200 then (sluicegatelaw07_SectorApart.j0 k true a0_0 a0_1 a0_2 a0_3 a0_4 a0_5 a1_0 a1_1 a1_2 a1_3 a1_4 a1_5) else (sluicegatelaw07_SectorApart.j0 k (decide ((a1_5.size : Int) > 200)) a0_0 a0_1 a0_2 a0_3 a0_4 a0_5 a1_0 a1_1 a1_2 a1_3 a1_4 a1_5)
theorem sluicegatelaw07_SectorApart.mono_l : ∀ k, (∀ y0 y1 y2 y3 y4 y5 y6 y7 y8 y9 y10 y11 y12, LeO (sluicegatelaw07_SectorApart.j0 k y0 y1 y2 y3 y4 y5 y6 y7 y8 y9 y10 y11 y12) (sluicegatelaw07_SectorApart.j0 (k + 1) y0 y1 y2 y3 y4 y5 y6 y7 y8 y9 y10 y11 y12)) ∧ (∀ y0 y1 y2 y3 y4 y5 y6 y7 y8 y9 y10 y11 y12 y13 y14, LeO (sluicegatelaw07_SectorApart.j1 k y0 y1 y2 y3 y4 y5 y6 y7 y8 y9 y10 y11 y12 y13 y14) (sluicegatelaw07_SectorApart.j1 (k + 1) y0 y1 y2 y3 y4 y5 y6 y7 y8 y9 y10 y11 y12 y13 y14))
  | 0 => ⟨fun _ _ _ _ _ _ _ _ _ _ _ _ _ r h => by simp [sluicegatelaw07_SectorApart.j0] at h, fun _ _ _ _ _ _ _ _ _ _ _ _ _ _ _ r h => by simp [sluicegatelaw07_SectorApart.j1] at h⟩
  | k + 1 => by
    obtain ⟨ih0, ih1⟩ := sluicegatelaw07_SectorApart.mono_l k
    refine ⟨?_, ?_⟩
    · intro y0 y1 y2 y3 y4 y5 y6 y7 y8 y9 y10 y11 y12
      unfold sluicegatelaw07_SectorApart.j0
      repeat' first
      | (with_reducible exact ih0 _ _ _ _ _ _ _ _ _ _ _ _ _)
      | (with_reducible exact ih1 _ _ _ _ _ _ _ _ _ _ _ _ _ _ _)
      | (with_reducible exact LeO.refl _)
      | (with_reducible exact LeO.none _)
      | (with_reducible refine LeO.ite ?_ ?_)
      | (with_reducible refine LeO.bind ?_ (fun _ => ?_))
      | exact ih0 _ _ _ _ _ _ _ _ _ _ _ _ _
      | exact ih1 _ _ _ _ _ _ _ _ _ _ _ _ _ _ _
      | exact LeO.none _
      | refine LeO.ite ?_ ?_
      | refine LeO.bind ?_ (fun _ => ?_)
    · intro y0 y1 y2 y3 y4 y5 y6 y7 y8 y9 y10 y11 y12 y13 y14
      unfold sluicegatelaw07_SectorApart.j1
      repeat' first
      | (with_reducible exact ih0 _ _ _ _ _ _ _ _ _ _ _ _ _)
      | (with_reducible exact ih1 _ _ _ _ _ _ _ _ _ _ _ _ _ _ _)
      | (with_reducible exact LeO.refl _)
      | (with_reducible exact LeO.none _)
      | (with_reducible refine LeO.ite ?_ ?_)
      | (with_reducible refine LeO.bind ?_ (fun _ => ?_))
      | exact ih0 _ _ _ _ _ _ _ _ _ _ _ _ _
      | exact ih1 _ _ _ _ _ _ _ _ _ _ _ _ _ _ _
      | exact LeO.none _
      | refine LeO.ite ?_ ?_
      | refine LeO.bind ?_ (fun _ => ?_)
theorem sluicegatelaw07_SectorApart.mono : ∀ a0 a1 a2 a3 a4 a5 a6 a7 a8 a9 a10 a11 k, LeO (sluicegatelaw07_SectorApart.f k a0 a1 a2 a3 a4 a5 a6 a7 a8 a9 a10 a11) (sluicegatelaw07_SectorApart.f (k + 1) a0 a1 a2 a3 a4 a5 a6 a7 a8 a9 a10 a11) := by
  intro a0 a1 a2 a3 a4 a5 a6 a7 a8 a9 a10 a11 k
  obtain ⟨ih0, ih1⟩ := sluicegatelaw07_SectorApart.mono_l k
  unfold sluicegatelaw07_SectorApart.f
  repeat' first
      | (with_reducible exact ih0 _ _ _ _ _ _ _ _ _ _ _ _ _)
      | (with_reducible exact ih1 _ _ _ _ _ _ _ _ _ _ _ _ _ _ _)
      | (with_reducible exact LeO.refl _)
      | (with_reducible exact LeO.none _)
      | (with_reducible refine LeO.ite ?_ ?_)
      | (with_reducible refine LeO.bind ?_ (fun _ => ?_))
      | exact ih0 _ _ _ _ _ _ _ _ _ _ _ _ _
      | exact ih1 _ _ _ _ _ _ _ _ _ _ _ _ _ _ _
      | exact LeO.none _
      | refine LeO.ite ?_ ?_
      | refine LeO.bind ?_ (fun _ => ?_)
set_option maxHeartbeats 8000000 in
set_option maxRecDepth 100000 in
theorem sluicegatelaw07_SectorApart.calls (k : Nat) (a0_0 : Int) (a0_1 : Int) (a0_2 : Int) (a0_3 : Int) (a0_4 : Int) (a0_5 : ByteArray) (a1_0 : Int) (a1_1 : Int) (a1_2 : Int) (a1_3 : Int) (a1_4 : Int) (a1_5 : ByteArray) (r : Bool) (w : World) (h : sluicegatelaw07_SectorApart.f k a0_0 a0_1 a0_2 a0_3 a0_4 a0_5 a1_0 a1_1 a1_2 a1_3 a1_4 a1_5 = some r) :
    Calls Try.prog 8 #[.agg #[.int .i64 a0_0, .int .i64 a0_1, .int .i64 a0_2, .int .i64 a0_3, .int .i64 a0_4, .string a0_5], .agg #[.int .i64 a1_0, .int .i64 a1_1, .int .i64 a1_2, .int .i64 a1_3, .int .i64 a1_4, .string a1_5]] w fun e w' => e = .returned (.bool r) ∧ Below w.heap.size w w' := by
  have hu25 := Try.underlying25
  have HB := Aside0.mk (Below.refl w.heap.size w)
  have H : (if (a0_5.size : Int) > 200 then (sluicegatelaw07_SectorApart.j0 k true a0_0 a0_1 a0_2 a0_3 a0_4 a0_5 a1_0 a1_1 a1_2 a1_3 a1_4 a1_5) else (sluicegatelaw07_SectorApart.j0 k (decide ((a1_5.size : Int) > 200)) a0_0 a0_1 a0_2 a0_3 a0_4 a0_5 a1_0 a1_1 a1_2 a1_3 a1_4 a1_5)) = some r := h
  clear h
  have HC3 := Aside0.mk H
  clear H
  go_enter Try.func8, Try.ntmps8
  go_upto_region 1 with (first | ((with_reducible refine gate_dst (N := 2) rfl ?_); (try (refine gate_guard (by rfl) ?_; dsimp only)); refine box_event ?hg (N := 2) ?hd (cs := #[.int .i64 a0_0, .int .i64 a0_1, .int .i64 a0_2, .int .i64 a0_3, .int .i64 a0_4, .string a0_5]) (t := 25) ?hr ?_; (case hd => rfl); (case hg => rfl); (case hr => first | (go_simp; done) | (go_simp; rfl)); intro gb318 hg w4 hbox hb; have n0_ := Aside0.mk (below_step (by repeat (first | (with_reducible first | exact HB.out | apply below_alloc | apply pw_below_drewN | apply below_drew1) | exact HB.out)) hb); have n1_ := Aside0.mk (hbox); have n2_ := Aside0.mk ((by rw [hg]; exact (below_size (by repeat (first | (with_reducible first | exact HB.out | apply below_alloc | apply pw_below_drewN | apply below_drew1) | exact HB.out))) : w.heap.size ≤ gb318)); have n3_ := Aside0.mk ((by rw [hg]; exact (below_size (by repeat (first | (with_reducible first | exact HB.out | apply below_alloc | apply pw_below_drewN | apply below_drew1) | exact HB.out))) : w.heap.size ≤ gb318)); clear HB; have HB := n0_; have BK318 := n1_; have GW318 := n2_; have GE318 := n3_; clear n0_ n1_ n2_ n3_; clear hb hbox hg) | ((with_reducible refine gate_dst (N := 3) rfl ?_); (try (refine gate_guard (by rfl) ?_; dsimp only)); refine box_event ?hg (N := 3) ?hd (cs := #[.int .i64 a1_0, .int .i64 a1_1, .int .i64 a1_2, .int .i64 a1_3, .int .i64 a1_4, .string a1_5]) (t := 25) ?hr ?_; (case hd => rfl); (case hg => rfl); (case hr => first | (go_simp; done) | (go_simp; rfl)); intro gb319 hg w5 hbox hb; have n0_ := Aside0.mk (blk_below (g := gb318) (o := .cells #[.int .i64 a0_0, .int .i64 a0_1, .int .i64 a0_2, .int .i64 a0_3, .int .i64 a0_4, .string a0_5] 25 (0, 0)) (by (with_reducible repeat (first | refine blk_drewN ?_ _ | refine blk_drew ?_ | refine blk_alloc ?_ _)); exact BK318.out) hb); have n1_ := Aside0.mk (below_step (by repeat (first | (with_reducible first | exact HB.out | apply below_alloc | apply pw_below_drewN | apply below_drew1 | refine below_set ?_ GE318.out) | exact HB.out)) hb); have n2_ := Aside0.mk (hbox); have n3_ := Aside0.mk ((by rw [hg]; exact (below_size (by repeat (first | (with_reducible first | exact HB.out | apply below_alloc | apply pw_below_drewN | apply below_drew1 | refine below_set ?_ GE318.out) | exact HB.out))) : w.heap.size ≤ gb319)); have n4_ := Aside0.mk ((by rw [hg]; exact (below_size (by repeat (first | (with_reducible first | exact HB.out | apply below_alloc | apply pw_below_drewN | apply below_drew1 | refine below_set ?_ GE318.out) | exact HB.out))) : w.heap.size ≤ gb319)); have n5_ := Aside0.mk ((by rw [hg]; exact Nat.ne_of_lt (blk_lt (g := gb318) (o := .cells #[.int .i64 a0_0, .int .i64 a0_1, .int .i64 a0_2, .int .i64 a0_3, .int .i64 a0_4, .string a0_5] 25 (0, 0)) (by (with_reducible repeat (first | refine blk_drewN ?_ _ | refine blk_drew ?_ | refine blk_alloc ?_ _)); exact BK318.out)) : gb318 ≠ gb319)); have n6_ := Aside0.mk ((by rw [hg]; exact Nat.ne_of_gt (blk_lt (g := gb318) (o := .cells #[.int .i64 a0_0, .int .i64 a0_1, .int .i64 a0_2, .int .i64 a0_3, .int .i64 a0_4, .string a0_5] 25 (0, 0)) (by (with_reducible repeat (first | refine blk_drewN ?_ _ | refine blk_drew ?_ | refine blk_alloc ?_ _)); exact BK318.out)) : gb319 ≠ gb318)); clear BK318; clear HB; have BK318 := n0_; have HB := n1_; have BK319 := n2_; have GW319 := n3_; have GE319 := n4_; have NB318_319 := n5_; have NB319_318 := n6_; clear n0_ n1_ n2_ n3_ n4_ n5_ n6_; clear hb hbox hg))
  (try simp only [Act.put, List.setIfInBounds_toArray, List.set_cons_zero, List.set_cons_succ])
  go_cut [18] (fun v18 wc => ∃ (kq : Nat) (x18_2 : Bool), v18 = .bool x18_2 ∧ Aside0 (sluicegatelaw07_SectorApart.j0 kq x18_2 a0_0 a0_1 a0_2 a0_3 a0_4 a0_5 a1_0 a1_1 a1_2 a1_3 a1_4 a1_5 = some r) ∧ Aside0 (kq ≤ k) ∧ Aside0 (wc.heap[gb318]? = some (.cells #[.int .i64 a0_0, .int .i64 a0_1, .int .i64 a0_2, .int .i64 a0_3, .int .i64 a0_4, .string a0_5] 25 (0, 0))) ∧ Aside0 (wc.heap[gb319]? = some (.cells #[.int .i64 a1_0, .int .i64 a1_1, .int .i64 a1_2, .int .i64 a1_3, .int .i64 a1_4, .string a1_5] 25 (0, 0))) ∧ Aside0 (Below w.heap.size w wc))
  case first =>
    have H := HC3.out
    clear HC3
    by_cases c6 : (a0_5.size : Int) > 200
    · rw [if_pos c6] at H
      have c6b0 : decide (200 < (a0_5.size : Int)) = true := decide_eq_true c6
      have c6b1 : decide (200 < a0_5.size) = true := decide_eq_true (by omega)
      clear c6
      (first | rw [c6b0] | (simp only [i64_w, i32_w]; rw [c6b0]) | skip)
      have H' := Aside0.mk H
      clear H
      have hnb7 := NB318_319.out
      have hnc7 := NB319_318.out
      have hcz8_0 : w5.cell? ⟨gb318, 0, none⟩ = some (.int .i64 a0_0) := (blk_cell BK318.out 0).trans rfl
      have hcz8_1 : w5.cell? ⟨gb318, 1, none⟩ = some (.int .i64 a0_1) := (blk_cell BK318.out 1).trans rfl
      have hcz8_2 : w5.cell? ⟨gb318, 2, none⟩ = some (.int .i64 a0_2) := (blk_cell BK318.out 2).trans rfl
      have hcz8_3 : w5.cell? ⟨gb318, 3, none⟩ = some (.int .i64 a0_3) := (blk_cell BK318.out 3).trans rfl
      have hcz8_4 : w5.cell? ⟨gb318, 4, none⟩ = some (.int .i64 a0_4) := (blk_cell BK318.out 4).trans rfl
      have hcz8_5 : w5.cell? ⟨gb318, 5, none⟩ = some (.string a0_5) := (blk_cell BK318.out 5).trans rfl
      have hfz8_0 := blk_frozen BK318.out 0
      have hfz8_1 := blk_frozen BK318.out 1
      have hfz8_2 := blk_frozen BK318.out 2
      have hfz8_3 := blk_frozen BK318.out 3
      have hfz8_4 := blk_frozen BK318.out 4
      have hfz8_5 := blk_frozen BK318.out 5
      go_wp2
      go_meet
      case rel => exact ⟨_, (true), (by first | rfl | (simp; done) | (simp [*]; done)), H', ⟨by first | omega | exact Nat.le_refl _⟩, ⟨by (with_reducible repeat (first | refine blk_drewN ?_ _ | refine blk_drew ?_ | refine blk_alloc ?_ _)); exact BK318.out⟩, ⟨by (with_reducible repeat (first | refine blk_drewN ?_ _ | refine blk_drew ?_ | refine blk_alloc ?_ _)); exact BK319.out⟩, ⟨by repeat (first | (with_reducible first | exact HB.out | apply below_alloc | apply pw_below_drewN | apply below_drew1 | refine below_set ?_ GE318.out | refine below_set ?_ GE319.out) | exact HB.out)⟩⟩
    · rw [if_neg c6] at H
      have c6b0 : decide (200 < (a0_5.size : Int)) = false := decide_eq_false c6
      have c6b1 : decide (200 < a0_5.size) = false := decide_eq_false (by omega)
      clear c6
      (first | rw [c6b0] | (simp only [i64_w, i32_w]; rw [c6b0]) | skip)
      have H' := Aside0.mk H
      clear H
      have hnb9 := NB318_319.out
      have hnc9 := NB319_318.out
      have hcz10_0 : w5.cell? ⟨gb318, 0, none⟩ = some (.int .i64 a0_0) := (blk_cell BK318.out 0).trans rfl
      have hcz10_1 : w5.cell? ⟨gb318, 1, none⟩ = some (.int .i64 a0_1) := (blk_cell BK318.out 1).trans rfl
      have hcz10_2 : w5.cell? ⟨gb318, 2, none⟩ = some (.int .i64 a0_2) := (blk_cell BK318.out 2).trans rfl
      have hcz10_3 : w5.cell? ⟨gb318, 3, none⟩ = some (.int .i64 a0_3) := (blk_cell BK318.out 3).trans rfl
      have hcz10_4 : w5.cell? ⟨gb318, 4, none⟩ = some (.int .i64 a0_4) := (blk_cell BK318.out 4).trans rfl
      have hcz10_5 : w5.cell? ⟨gb318, 5, none⟩ = some (.string a0_5) := (blk_cell BK318.out 5).trans rfl
      have hfz10_0 := blk_frozen BK318.out 0
      have hfz10_1 := blk_frozen BK318.out 1
      have hfz10_2 := blk_frozen BK318.out 2
      have hfz10_3 := blk_frozen BK318.out 3
      have hfz10_4 := blk_frozen BK318.out 4
      have hfz10_5 := blk_frozen BK318.out 5
      have hcz11_0 : w5.cell? ⟨gb319, 0, none⟩ = some (.int .i64 a1_0) := (blk_cell BK319.out 0).trans rfl
      have hcz11_1 : w5.cell? ⟨gb319, 1, none⟩ = some (.int .i64 a1_1) := (blk_cell BK319.out 1).trans rfl
      have hcz11_2 : w5.cell? ⟨gb319, 2, none⟩ = some (.int .i64 a1_2) := (blk_cell BK319.out 2).trans rfl
      have hcz11_3 : w5.cell? ⟨gb319, 3, none⟩ = some (.int .i64 a1_3) := (blk_cell BK319.out 3).trans rfl
      have hcz11_4 : w5.cell? ⟨gb319, 4, none⟩ = some (.int .i64 a1_4) := (blk_cell BK319.out 4).trans rfl
      have hcz11_5 : w5.cell? ⟨gb319, 5, none⟩ = some (.string a1_5) := (blk_cell BK319.out 5).trans rfl
      have hfz11_0 := blk_frozen BK319.out 0
      have hfz11_1 := blk_frozen BK319.out 1
      have hfz11_2 := blk_frozen BK319.out 2
      have hfz11_3 := blk_frozen BK319.out 3
      have hfz11_4 := blk_frozen BK319.out 4
      have hfz11_5 := blk_frozen BK319.out 5
      go_wp2
      go_meet
      case rel => exact ⟨_, (decide ((a1_5.size : Int) > 200)), (by first | rfl | (simp; done) | (simp [*]; done)), H', ⟨by first | omega | exact Nat.le_refl _⟩, ⟨by (with_reducible repeat (first | refine blk_drewN ?_ _ | refine blk_drew ?_ | refine blk_alloc ?_ _)); exact BK318.out⟩, ⟨by (with_reducible repeat (first | refine blk_drewN ?_ _ | refine blk_drew ?_ | refine blk_alloc ?_ _)); exact BK319.out⟩, ⟨by repeat (first | (with_reducible first | exact HB.out | apply below_alloc | apply pw_below_drewN | apply below_drew1 | refine below_set ?_ GE318.out | refine below_set ?_ GE319.out) | exact HB.out)⟩⟩
  case rest =>
    clear HC3
    try clear p2
    try clear c6
    try clear c6b0
    try clear c6b1
    try clear c7
    try clear c8
    try clear c9
    try clear hcz10_0
    try clear hcz10_1
    try clear hcz10_2
    try clear hcz10_3
    try clear hcz10_4
    try clear hcz10_5
    try clear hcz11_0
    try clear hcz11_1
    try clear hcz11_2
    try clear hcz11_3
    try clear hcz11_4
    try clear hcz11_5
    try clear hcz8_0
    try clear hcz8_1
    try clear hcz8_2
    try clear hcz8_3
    try clear hcz8_4
    try clear hcz8_5
    try clear hfz10_0
    try clear hfz10_1
    try clear hfz10_2
    try clear hfz10_3
    try clear hfz10_4
    try clear hfz10_5
    try clear hfz11_0
    try clear hfz11_1
    try clear hfz11_2
    try clear hfz11_3
    try clear hfz11_4
    try clear hfz11_5
    try clear hfz8_0
    try clear hfz8_1
    try clear hfz8_2
    try clear hfz8_3
    try clear hfz8_4
    try clear hfz8_5
    obtain ⟨kq, x18_2, rfl, HA, HJ2, BK318, BK319, HB⟩ := hcut
    cases kq with
    | zero => exact absurd HA.out (by simp [sluicegatelaw07_SectorApart.j0])
    | succ kj2 =>
      have H := HA.out
      clear HA
      simp only [sluicegatelaw07_SectorApart.j0] at H
      by_cases c12 : x18_2 = true
      · subst c12
        have H1 : ((sluicegatelaw07_live.f).bind fun t320 => (some t320)) = some r := by rw [if_pos rfl] at H; exact H
        clear H
        have H := H1
        clear H1
        replace H := Option.bind_eq_some_iff.mp H
        obtain ⟨t320, A130, H⟩ := H
        replace H : (some t320) = some r := H
        have A13 := Aside0.mk A130
        clear A130
        obtain rfl := Option.some.inj H
        go_wp2_with (first | ((with_reducible refine gate_callee (f := 10) rfl ?_); refine goesL_ (some 19) rfl rfl Try.func10 (by kernel_rfl) rfl #[] rfl (by (try simp only [List.map_toArray, List.map_cons, List.map_nil]); first | done | rfl | (simp only [List.length_drop, List.length_take]; rfl)) ?_; (with_reducible refine (sluicegatelaw07_live.calls  t320 _ A13.out).mono ?_); rintro e w14 ⟨rfl, hb⟩; refine ⟨_, rfl, ?_⟩; have n0_ := Aside0.mk (blk_below (g := gb318) (o := .cells #[.int .i64 a0_0, .int .i64 a0_1, .int .i64 a0_2, .int .i64 a0_3, .int .i64 a0_4, .string a0_5] 25 (0, 0)) (by (with_reducible repeat (first | refine blk_drewN ?_ _ | refine blk_drew ?_ | refine blk_alloc ?_ _)); exact BK318.out) hb); have n1_ := Aside0.mk (blk_below (g := gb319) (o := .cells #[.int .i64 a1_0, .int .i64 a1_1, .int .i64 a1_2, .int .i64 a1_3, .int .i64 a1_4, .string a1_5] 25 (0, 0)) (by (with_reducible repeat (first | refine blk_drewN ?_ _ | refine blk_drew ?_ | refine blk_alloc ?_ _)); exact BK319.out) hb); have n2_ := Aside0.mk (below_step (by repeat (first | (with_reducible first | exact HB.out | apply below_alloc | apply pw_below_drewN | apply below_drew1 | refine below_set ?_ GE318.out | refine below_set ?_ GE319.out) | exact HB.out)) hb); clear BK318; clear BK319; clear HB; have BK318 := n0_; have BK319 := n1_; have HB := n2_; clear n0_ n1_ n2_; (try clear hb); (try clear hb2); (try clear hk); (try clear hi)))
        go_ret
        exact ⟨by first | rfl | (simp [errW_none, errW_some] <;> rfl) | (simp [*, errW_none, errW_some] <;> rfl), by repeat (first | (with_reducible first | exact HB.out | apply below_alloc | apply pw_below_drewN | apply below_drew1 | refine below_set ?_ GE318.out | refine below_set ?_ GE319.out) | exact HB.out)⟩
      · replace c12 := Bool.eq_false_iff.mpr c12
        subst c12
        have H1 : ((sluicegatelaw07_own.f a0_0 a0_1 a0_2 a0_3 a0_4 a0_5).bind fun bt321 => ((sector_Write.f bt321.1 bt321.2.1 bt321.2.2.1 bt321.2.2.2.1 bt321.2.2.2.2.1 bt321.2.2.2.2.2).bind fun bt327 => ((sluicegatelaw07_own.f a1_0 a1_1 a1_2 a1_3 a1_4 a1_5).bind fun bt329 => ((sector_Write.f bt329.1 bt329.2.1 bt329.2.2.1 bt329.2.2.2.1 bt329.2.2.2.2.1 bt329.2.2.2.2.2).bind fun bt335 => (if bt327.2 = 0 then (sluicegatelaw07_SectorApart.j1 kj2 bt327.1 bt335.1 (bt335.2 != 0) a0_0 a0_1 a0_2 a0_3 a0_4 a0_5 a1_0 a1_1 a1_2 a1_3 a1_4 a1_5) else (sluicegatelaw07_SectorApart.j1 kj2 bt327.1 bt335.1 true a0_0 a0_1 a0_2 a0_3 a0_4 a0_5 a1_0 a1_1 a1_2 a1_3 a1_4 a1_5)))))) = some r := by rw [if_neg (show ¬ (false = true) by decide)] at H; exact H
        clear H
        have H := H1
        clear H1
        replace H := Option.bind_eq_some_iff.mp H
        obtain ⟨⟨t321, t322, t323, t324, t325, t326⟩, A150, H⟩ := H
        replace H : ((sector_Write.f t321 t322 t323 t324 t325 t326).bind fun bt327 => ((sluicegatelaw07_own.f a1_0 a1_1 a1_2 a1_3 a1_4 a1_5).bind fun bt329 => ((sector_Write.f bt329.1 bt329.2.1 bt329.2.2.1 bt329.2.2.2.1 bt329.2.2.2.2.1 bt329.2.2.2.2.2).bind fun bt335 => (if bt327.2 = 0 then (sluicegatelaw07_SectorApart.j1 kj2 bt327.1 bt335.1 (bt335.2 != 0) a0_0 a0_1 a0_2 a0_3 a0_4 a0_5 a1_0 a1_1 a1_2 a1_3 a1_4 a1_5) else (sluicegatelaw07_SectorApart.j1 kj2 bt327.1 bt335.1 true a0_0 a0_1 a0_2 a0_3 a0_4 a0_5 a1_0 a1_1 a1_2 a1_3 a1_4 a1_5))))) = some r := H
        have A15 := Aside0.mk A150
        clear A150
        replace H := Option.bind_eq_some_iff.mp H
        obtain ⟨⟨t327, t328⟩, A160, H⟩ := H
        replace H : ((sluicegatelaw07_own.f a1_0 a1_1 a1_2 a1_3 a1_4 a1_5).bind fun bt329 => ((sector_Write.f bt329.1 bt329.2.1 bt329.2.2.1 bt329.2.2.2.1 bt329.2.2.2.2.1 bt329.2.2.2.2.2).bind fun bt335 => (if t328 = 0 then (sluicegatelaw07_SectorApart.j1 kj2 t327 bt335.1 (bt335.2 != 0) a0_0 a0_1 a0_2 a0_3 a0_4 a0_5 a1_0 a1_1 a1_2 a1_3 a1_4 a1_5) else (sluicegatelaw07_SectorApart.j1 kj2 t327 bt335.1 true a0_0 a0_1 a0_2 a0_3 a0_4 a0_5 a1_0 a1_1 a1_2 a1_3 a1_4 a1_5)))) = some r := H
        have A16 := Aside0.mk A160
        clear A160
        replace H := Option.bind_eq_some_iff.mp H
        obtain ⟨⟨t329, t330, t331, t332, t333, t334⟩, A170, H⟩ := H
        replace H : ((sector_Write.f t329 t330 t331 t332 t333 t334).bind fun bt335 => (if t328 = 0 then (sluicegatelaw07_SectorApart.j1 kj2 t327 bt335.1 (bt335.2 != 0) a0_0 a0_1 a0_2 a0_3 a0_4 a0_5 a1_0 a1_1 a1_2 a1_3 a1_4 a1_5) else (sluicegatelaw07_SectorApart.j1 kj2 t327 bt335.1 true a0_0 a0_1 a0_2 a0_3 a0_4 a0_5 a1_0 a1_1 a1_2 a1_3 a1_4 a1_5))) = some r := H
        have A17 := Aside0.mk A170
        clear A170
        replace H := Option.bind_eq_some_iff.mp H
        obtain ⟨⟨t335, t336⟩, A180, H⟩ := H
        replace H : (if t328 = 0 then (sluicegatelaw07_SectorApart.j1 kj2 t327 t335 (t336 != 0) a0_0 a0_1 a0_2 a0_3 a0_4 a0_5 a1_0 a1_1 a1_2 a1_3 a1_4 a1_5) else (sluicegatelaw07_SectorApart.j1 kj2 t327 t335 true a0_0 a0_1 a0_2 a0_3 a0_4 a0_5 a1_0 a1_1 a1_2 a1_3 a1_4 a1_5)) = some r := H
        have A18 := Aside0.mk A180
        clear A180
        have HC19 := Aside0.mk H
        clear H
        have hnb20 := NB318_319.out
        have hnc20 := NB319_318.out
        have hcz21_0 : wc.cell? ⟨gb318, 0, none⟩ = some (.int .i64 a0_0) := (blk_cell BK318.out 0).trans rfl
        have hcz21_1 : wc.cell? ⟨gb318, 1, none⟩ = some (.int .i64 a0_1) := (blk_cell BK318.out 1).trans rfl
        have hcz21_2 : wc.cell? ⟨gb318, 2, none⟩ = some (.int .i64 a0_2) := (blk_cell BK318.out 2).trans rfl
        have hcz21_3 : wc.cell? ⟨gb318, 3, none⟩ = some (.int .i64 a0_3) := (blk_cell BK318.out 3).trans rfl
        have hcz21_4 : wc.cell? ⟨gb318, 4, none⟩ = some (.int .i64 a0_4) := (blk_cell BK318.out 4).trans rfl
        have hcz21_5 : wc.cell? ⟨gb318, 5, none⟩ = some (.string a0_5) := (blk_cell BK318.out 5).trans rfl
        have hfz21_0 := blk_frozen BK318.out 0
        have hfz21_1 := blk_frozen BK318.out 1
        have hfz21_2 := blk_frozen BK318.out 2
        have hfz21_3 := blk_frozen BK318.out 3
        have hfz21_4 := blk_frozen BK318.out 4
        have hfz21_5 := blk_frozen BK318.out 5
        go_upto_region 5 with (first | ((with_reducible refine gate_callee (f := 12) rfl ?_); refine goesL_ (some 22) rfl rfl Try.func12 (by kernel_rfl) rfl #[.agg #[.int .i64 a0_0, .int .i64 a0_1, .int .i64 a0_2, .int .i64 a0_3, .int .i64 a0_4, .string a0_5]] rfl (by (try simp only [List.map_toArray, List.map_cons, List.map_nil]); first | done | rfl | (simp only [List.length_drop, List.length_take]; rfl)) ?_; (with_reducible refine (sluicegatelaw07_own.calls a0_0 a0_1 a0_2 a0_3 a0_4 a0_5 t321 t322 t323 t324 t325 t326 _ A15.out).mono ?_); rintro e w22 ⟨rfl, hb⟩; refine ⟨_, rfl, ?_⟩; have n0_ := Aside0.mk (blk_below (g := gb318) (o := .cells #[.int .i64 a0_0, .int .i64 a0_1, .int .i64 a0_2, .int .i64 a0_3, .int .i64 a0_4, .string a0_5] 25 (0, 0)) (by (with_reducible repeat (first | refine blk_drewN ?_ _ | refine blk_drew ?_ | refine blk_alloc ?_ _)); exact BK318.out) hb); have n1_ := Aside0.mk (blk_below (g := gb319) (o := .cells #[.int .i64 a1_0, .int .i64 a1_1, .int .i64 a1_2, .int .i64 a1_3, .int .i64 a1_4, .string a1_5] 25 (0, 0)) (by (with_reducible repeat (first | refine blk_drewN ?_ _ | refine blk_drew ?_ | refine blk_alloc ?_ _)); exact BK319.out) hb); have n2_ := Aside0.mk (below_step (by repeat (first | (with_reducible first | exact HB.out | apply below_alloc | apply pw_below_drewN | apply below_drew1 | refine below_set ?_ GE318.out | refine below_set ?_ GE319.out) | exact HB.out)) hb); clear BK318; clear BK319; clear HB; have BK318 := n0_; have BK319 := n1_; have HB := n2_; clear n0_ n1_ n2_; (try clear hb); (try clear hb2); (try clear hk); (try clear hi)) | ((with_reducible refine gate_callee (f := 11) rfl ?_); refine goesL_ (some 23) rfl rfl Try.func11 (by kernel_rfl) rfl #[.agg #[.int .i64 t321, .int .i64 t322, .int .i64 t323, .int .i64 t324, .int .i64 t325, .string t326]] rfl (by (try simp only [List.map_toArray, List.map_cons, List.map_nil]); first | done | rfl | (simp only [List.length_drop, List.length_take]; rfl)) ?_; (with_reducible refine (sector_Write.calls t321 t322 t323 t324 t325 t326 t327 t328 _ A16.out).mono ?_); rintro e w23 ⟨rfl, hb⟩; refine ⟨_, rfl, ?_⟩; have n0_ := Aside0.mk (blk_below (g := gb318) (o := .cells #[.int .i64 a0_0, .int .i64 a0_1, .int .i64 a0_2, .int .i64 a0_3, .int .i64 a0_4, .string a0_5] 25 (0, 0)) (by (with_reducible repeat (first | refine blk_drewN ?_ _ | refine blk_drew ?_ | refine blk_alloc ?_ _)); exact BK318.out) hb); have n1_ := Aside0.mk (blk_below (g := gb319) (o := .cells #[.int .i64 a1_0, .int .i64 a1_1, .int .i64 a1_2, .int .i64 a1_3, .int .i64 a1_4, .string a1_5] 25 (0, 0)) (by (with_reducible repeat (first | refine blk_drewN ?_ _ | refine blk_drew ?_ | refine blk_alloc ?_ _)); exact BK319.out) hb); have n2_ := Aside0.mk (below_step (by repeat (first | (with_reducible first | exact HB.out | apply below_alloc | apply pw_below_drewN | apply below_drew1 | refine below_set ?_ GE318.out | refine below_set ?_ GE319.out) | exact HB.out)) hb); clear BK318; clear BK319; clear HB; have BK318 := n0_; have BK319 := n1_; have HB := n2_; clear n0_ n1_ n2_; (try clear hb); (try clear hb2); (try clear hk); (try clear hi); have hcz24_0 : w23.cell? ⟨gb319, 0, none⟩ = some (.int .i64 a1_0) := (blk_cell BK319.out 0).trans rfl; have hcz24_1 : w23.cell? ⟨gb319, 1, none⟩ = some (.int .i64 a1_1) := (blk_cell BK319.out 1).trans rfl; have hcz24_2 : w23.cell? ⟨gb319, 2, none⟩ = some (.int .i64 a1_2) := (blk_cell BK319.out 2).trans rfl; have hcz24_3 : w23.cell? ⟨gb319, 3, none⟩ = some (.int .i64 a1_3) := (blk_cell BK319.out 3).trans rfl; have hcz24_4 : w23.cell? ⟨gb319, 4, none⟩ = some (.int .i64 a1_4) := (blk_cell BK319.out 4).trans rfl; have hcz24_5 : w23.cell? ⟨gb319, 5, none⟩ = some (.string a1_5) := (blk_cell BK319.out 5).trans rfl; have hfz24_0 := blk_frozen BK319.out 0; have hfz24_1 := blk_frozen BK319.out 1; have hfz24_2 := blk_frozen BK319.out 2; have hfz24_3 := blk_frozen BK319.out 3; have hfz24_4 := blk_frozen BK319.out 4; have hfz24_5 := blk_frozen BK319.out 5) | ((with_reducible refine gate_callee (f := 12) rfl ?_); refine goesL_ (some 28) rfl rfl Try.func12 (by kernel_rfl) rfl #[.agg #[.int .i64 a1_0, .int .i64 a1_1, .int .i64 a1_2, .int .i64 a1_3, .int .i64 a1_4, .string a1_5]] rfl (by (try simp only [List.map_toArray, List.map_cons, List.map_nil]); first | done | rfl | (simp only [List.length_drop, List.length_take]; rfl)) ?_; (with_reducible refine (sluicegatelaw07_own.calls a1_0 a1_1 a1_2 a1_3 a1_4 a1_5 t329 t330 t331 t332 t333 t334 _ A17.out).mono ?_); rintro e w25 ⟨rfl, hb⟩; refine ⟨_, rfl, ?_⟩; have n0_ := Aside0.mk (blk_below (g := gb318) (o := .cells #[.int .i64 a0_0, .int .i64 a0_1, .int .i64 a0_2, .int .i64 a0_3, .int .i64 a0_4, .string a0_5] 25 (0, 0)) (by (with_reducible repeat (first | refine blk_drewN ?_ _ | refine blk_drew ?_ | refine blk_alloc ?_ _)); exact BK318.out) hb); have n1_ := Aside0.mk (blk_below (g := gb319) (o := .cells #[.int .i64 a1_0, .int .i64 a1_1, .int .i64 a1_2, .int .i64 a1_3, .int .i64 a1_4, .string a1_5] 25 (0, 0)) (by (with_reducible repeat (first | refine blk_drewN ?_ _ | refine blk_drew ?_ | refine blk_alloc ?_ _)); exact BK319.out) hb); have n2_ := Aside0.mk (below_step (by repeat (first | (with_reducible first | exact HB.out | apply below_alloc | apply pw_below_drewN | apply below_drew1 | refine below_set ?_ GE318.out | refine below_set ?_ GE319.out) | exact HB.out)) hb); clear BK318; clear BK319; clear HB; have BK318 := n0_; have BK319 := n1_; have HB := n2_; clear n0_ n1_ n2_; (try clear hb); (try clear hb2); (try clear hk); (try clear hi)) | ((with_reducible refine gate_callee (f := 11) rfl ?_); refine goesL_ (some 29) rfl rfl Try.func11 (by kernel_rfl) rfl #[.agg #[.int .i64 t329, .int .i64 t330, .int .i64 t331, .int .i64 t332, .int .i64 t333, .string t334]] rfl (by (try simp only [List.map_toArray, List.map_cons, List.map_nil]); first | done | rfl | (simp only [List.length_drop, List.length_take]; rfl)) ?_; (with_reducible refine (sector_Write.calls t329 t330 t331 t332 t333 t334 t335 t336 _ A18.out).mono ?_); rintro e w26 ⟨rfl, hb⟩; refine ⟨_, rfl, ?_⟩; have n0_ := Aside0.mk (blk_below (g := gb318) (o := .cells #[.int .i64 a0_0, .int .i64 a0_1, .int .i64 a0_2, .int .i64 a0_3, .int .i64 a0_4, .string a0_5] 25 (0, 0)) (by (with_reducible repeat (first | refine blk_drewN ?_ _ | refine blk_drew ?_ | refine blk_alloc ?_ _)); exact BK318.out) hb); have n1_ := Aside0.mk (blk_below (g := gb319) (o := .cells #[.int .i64 a1_0, .int .i64 a1_1, .int .i64 a1_2, .int .i64 a1_3, .int .i64 a1_4, .string a1_5] 25 (0, 0)) (by (with_reducible repeat (first | refine blk_drewN ?_ _ | refine blk_drew ?_ | refine blk_alloc ?_ _)); exact BK319.out) hb); have n2_ := Aside0.mk (below_step (by repeat (first | (with_reducible first | exact HB.out | apply below_alloc | apply pw_below_drewN | apply below_drew1 | refine below_set ?_ GE318.out | refine below_set ?_ GE319.out) | exact HB.out)) hb); clear BK318; clear BK319; clear HB; have BK318 := n0_; have BK319 := n1_; have HB := n2_; clear n0_ n1_ n2_; (try clear hb); (try clear hb2); (try clear hk); (try clear hi)))
        (try simp only [Act.put, List.setIfInBounds_toArray, List.set_cons_zero, List.set_cons_succ])
        go_cut [37] (fun v37 wc => ∃ (kq : Nat) (x37_18 : Bool), v37 = .bool x37_18 ∧ Aside0 (sluicegatelaw07_SectorApart.j1 kq t327 t335 x37_18 a0_0 a0_1 a0_2 a0_3 a0_4 a0_5 a1_0 a1_1 a1_2 a1_3 a1_4 a1_5 = some r) ∧ Aside0 (kq ≤ kj2) ∧ Aside0 (wc.heap[gb318]? = some (.cells #[.int .i64 a0_0, .int .i64 a0_1, .int .i64 a0_2, .int .i64 a0_3, .int .i64 a0_4, .string a0_5] 25 (0, 0))) ∧ Aside0 (wc.heap[gb319]? = some (.cells #[.int .i64 a1_0, .int .i64 a1_1, .int .i64 a1_2, .int .i64 a1_3, .int .i64 a1_4, .string a1_5] 25 (0, 0))) ∧ Aside0 (Below w.heap.size w wc))
        case first =>
          have H := HC19.out
          clear HC19
          by_cases c27 : t328 = 0
          · rw [if_pos c27] at H
            have c27b0 : (t328 == 0) = true := beq_iff_eq.mpr c27
            have c27b1 : (t328 != 0) = false := bne_eq_false_iff_eq.mpr c27
            clear c27
            (first | rw [c27b0] | (simp only [i64_w, i32_w]; rw [c27b0]) | skip)
            have H' := Aside0.mk H
            clear H
            go_wp2
            go_meet
            case rel => exact ⟨_, ((t336 != 0)), (by first | rfl | (simp; done) | (simp [*]; done)), H', ⟨by have := HJ2.out; first | omega | exact Nat.le_refl _⟩, ⟨by (with_reducible repeat (first | refine blk_drewN ?_ _ | refine blk_drew ?_ | refine blk_alloc ?_ _)); exact BK318.out⟩, ⟨by (with_reducible repeat (first | refine blk_drewN ?_ _ | refine blk_drew ?_ | refine blk_alloc ?_ _)); exact BK319.out⟩, ⟨by repeat (first | (with_reducible first | exact HB.out | apply below_alloc | apply pw_below_drewN | apply below_drew1 | refine below_set ?_ GE318.out | refine below_set ?_ GE319.out) | exact HB.out)⟩⟩
          · rw [if_neg c27] at H
            have c27b0 : (t328 == 0) = false := beq_eq_false_iff_ne.mpr c27
            have c27b1 : (t328 != 0) = true := bne_iff_ne.mpr c27
            (first | rw [c27b0] | (simp only [i64_w, i32_w]; rw [c27b0]) | skip)
            have H' := Aside0.mk H
            clear H
            go_wp2
            go_meet
            case rel => exact ⟨_, (true), (by first | rfl | (simp; done) | (simp [*]; done)), H', ⟨by have := HJ2.out; first | omega | exact Nat.le_refl _⟩, ⟨by (with_reducible repeat (first | refine blk_drewN ?_ _ | refine blk_drew ?_ | refine blk_alloc ?_ _)); exact BK318.out⟩, ⟨by (with_reducible repeat (first | refine blk_drewN ?_ _ | refine blk_drew ?_ | refine blk_alloc ?_ _)); exact BK319.out⟩, ⟨by repeat (first | (with_reducible first | exact HB.out | apply below_alloc | apply pw_below_drewN | apply below_drew1 | refine below_set ?_ GE318.out | refine below_set ?_ GE319.out) | exact HB.out)⟩⟩
        case rest =>
          clear HC19
          try clear c1
          try clear c2
          try clear p2
          try clear c6
          try clear c6b0
          try clear c6b1
          try clear c7
          try clear c8
          try clear c9
          try clear c10
          try clear c11
          try clear c12
          try clear c20
          try clear c27
          try clear c27b0
          try clear c27b1
          try clear hcz10_0
          try clear hcz10_1
          try clear hcz10_2
          try clear hcz10_3
          try clear hcz10_4
          try clear hcz10_5
          try clear hcz11_0
          try clear hcz11_1
          try clear hcz11_2
          try clear hcz11_3
          try clear hcz11_4
          try clear hcz11_5
          try clear hcz21_0
          try clear hcz21_1
          try clear hcz21_2
          try clear hcz21_3
          try clear hcz21_4
          try clear hcz21_5
          try clear hcz24_0
          try clear hcz24_1
          try clear hcz24_2
          try clear hcz24_3
          try clear hcz24_4
          try clear hcz24_5
          try clear hcz8_0
          try clear hcz8_1
          try clear hcz8_2
          try clear hcz8_3
          try clear hcz8_4
          try clear hcz8_5
          try clear hfz10_0
          try clear hfz10_1
          try clear hfz10_2
          try clear hfz10_3
          try clear hfz10_4
          try clear hfz10_5
          try clear hfz11_0
          try clear hfz11_1
          try clear hfz11_2
          try clear hfz11_3
          try clear hfz11_4
          try clear hfz11_5
          try clear hfz21_0
          try clear hfz21_1
          try clear hfz21_2
          try clear hfz21_3
          try clear hfz21_4
          try clear hfz21_5
          try clear hfz24_0
          try clear hfz24_1
          try clear hfz24_2
          try clear hfz24_3
          try clear hfz24_4
          try clear hfz24_5
          try clear hfz8_0
          try clear hfz8_1
          try clear hfz8_2
          try clear hfz8_3
          try clear hfz8_4
          try clear hfz8_5
          try clear p2
          obtain ⟨kq, x37_18, rfl, HA, HJ18, BK318, BK319, HB⟩ := hcut
          cases kq with
          | zero => exact absurd HA.out (by simp [sluicegatelaw07_SectorApart.j1])
          | succ kj18 =>
            have H := HA.out
            clear HA
            simp only [sluicegatelaw07_SectorApart.j1] at H
            by_cases c28 : x37_18 = true
            · subst c28
              have H1 : ((sluicegatelaw07_live.f).bind fun t337 => (some t337)) = some r := by rw [if_pos rfl] at H; exact H
              clear H
              have H := H1
              clear H1
              replace H := Option.bind_eq_some_iff.mp H
              obtain ⟨t337, A290, H⟩ := H
              replace H : (some t337) = some r := H
              have A29 := Aside0.mk A290
              clear A290
              obtain rfl := Option.some.inj H
              go_wp2_with (first | ((with_reducible refine gate_callee (f := 10) rfl ?_); refine goesL_ (some 38) rfl rfl Try.func10 (by kernel_rfl) rfl #[] rfl (by (try simp only [List.map_toArray, List.map_cons, List.map_nil]); first | done | rfl | (simp only [List.length_drop, List.length_take]; rfl)) ?_; (with_reducible refine (sluicegatelaw07_live.calls  t337 _ A29.out).mono ?_); rintro e w30 ⟨rfl, hb⟩; refine ⟨_, rfl, ?_⟩; have n0_ := Aside0.mk (blk_below (g := gb318) (o := .cells #[.int .i64 a0_0, .int .i64 a0_1, .int .i64 a0_2, .int .i64 a0_3, .int .i64 a0_4, .string a0_5] 25 (0, 0)) (by (with_reducible repeat (first | refine blk_drewN ?_ _ | refine blk_drew ?_ | refine blk_alloc ?_ _)); exact BK318.out) hb); have n1_ := Aside0.mk (blk_below (g := gb319) (o := .cells #[.int .i64 a1_0, .int .i64 a1_1, .int .i64 a1_2, .int .i64 a1_3, .int .i64 a1_4, .string a1_5] 25 (0, 0)) (by (with_reducible repeat (first | refine blk_drewN ?_ _ | refine blk_drew ?_ | refine blk_alloc ?_ _)); exact BK319.out) hb); have n2_ := Aside0.mk (below_step (by repeat (first | (with_reducible first | exact HB.out | apply below_alloc | apply pw_below_drewN | apply below_drew1 | refine below_set ?_ GE318.out | refine below_set ?_ GE319.out) | exact HB.out)) hb); clear BK318; clear BK319; clear HB; have BK318 := n0_; have BK319 := n1_; have HB := n2_; clear n0_ n1_ n2_; (try clear hb); (try clear hb2); (try clear hk); (try clear hi)))
              go_ret
              exact ⟨by first | rfl | (simp [errW_none, errW_some] <;> rfl) | (simp [*, errW_none, errW_some] <;> rfl), by repeat (first | (with_reducible first | exact HB.out | apply below_alloc | apply pw_below_drewN | apply below_drew1 | refine below_set ?_ GE318.out | refine below_set ?_ GE319.out) | exact HB.out)⟩
            · replace c28 := Bool.eq_false_iff.mpr c28
              subst c28
              have H1 : (if ((t327.toList == t335.toList) == (a0_0 == a1_0 && (a0_1 == a1_1 && (a0_2 == a1_2 && ((a0_3 == a1_3 && (a0_4 == a1_4)) && (a0_5.toList == a1_5.toList)))))) = true then (if (t327.size : Int) ≤ 200 then ((sluicegatelaw07_live.f).bind fun t338 => (some t338)) else (some false)) else (some false)) = some r := by rw [if_neg (show ¬ (false = true) by decide)] at H; exact H
              clear H
              have H := H1
              clear H1
              by_cases c31 : ((t327.toList == t335.toList) == (a0_0 == a1_0 && (a0_1 == a1_1 && (a0_2 == a1_2 && ((a0_3 == a1_3 && (a0_4 == a1_4)) && (a0_5.toList == a1_5.toList)))))) = true
              · rw [if_pos c31] at H
                have c31b0 : ((t327.toList == t335.toList) == (a0_0 == a1_0 && (a0_1 == a1_1 && (a0_2 == a1_2 && ((a0_3 == a1_3 && (a0_4 == a1_4)) && (a0_5.toList == a1_5.toList)))))) = true := c31
                (try (have c31b1 : decide ((t327.toList == t335.toList) = (a0_0 == a1_0 && (a0_1 == a1_1 && (a0_2 == a1_2 && ((a0_3 == a1_3 && (a0_4 == a1_4)) && (a0_5.toList == a1_5.toList)))))) = true := by simpa using c31))
                (try (have c31b2 : ((t327.toList == t335.toList) == (a0_0 == a1_0 && (a0_1 == a1_1 && (a0_2 == a1_2 && ((a0_3 == a1_3 && (a0_4 == a1_4)) && (a0_5.toList == a1_5.toList)))))) = true := by simpa using c31))
                clear c31
                by_cases c32 : (t327.size : Int) ≤ 200
                · rw [if_pos c32] at H
                  have c32b0 : decide ((t327.size : Int) ≤ 200) = true := decide_eq_true c32
                  have c32b1 : decide (t327.size ≤ 200) = true := decide_eq_true (by omega)
                  clear c32
                  replace H := Option.bind_eq_some_iff.mp H
                  obtain ⟨t338, A330, H⟩ := H
                  replace H : (some t338) = some r := H
                  have A33 := Aside0.mk A330
                  clear A330
                  obtain rfl := Option.some.inj H
                  have hnb34 := NB318_319.out
                  have hnc34 := NB319_318.out
                  have hcz35_0 : wc.cell? ⟨gb318, 0, none⟩ = some (.int .i64 a0_0) := (blk_cell BK318.out 0).trans rfl
                  have hcz35_1 : wc.cell? ⟨gb318, 1, none⟩ = some (.int .i64 a0_1) := (blk_cell BK318.out 1).trans rfl
                  have hcz35_2 : wc.cell? ⟨gb318, 2, none⟩ = some (.int .i64 a0_2) := (blk_cell BK318.out 2).trans rfl
                  have hcz35_3 : wc.cell? ⟨gb318, 3, none⟩ = some (.int .i64 a0_3) := (blk_cell BK318.out 3).trans rfl
                  have hcz35_4 : wc.cell? ⟨gb318, 4, none⟩ = some (.int .i64 a0_4) := (blk_cell BK318.out 4).trans rfl
                  have hcz35_5 : wc.cell? ⟨gb318, 5, none⟩ = some (.string a0_5) := (blk_cell BK318.out 5).trans rfl
                  have hfz35_0 := blk_frozen BK318.out 0
                  have hfz35_1 := blk_frozen BK318.out 1
                  have hfz35_2 := blk_frozen BK318.out 2
                  have hfz35_3 := blk_frozen BK318.out 3
                  have hfz35_4 := blk_frozen BK318.out 4
                  have hfz35_5 := blk_frozen BK318.out 5
                  have hcz36_0 : wc.cell? ⟨gb319, 0, none⟩ = some (.int .i64 a1_0) := (blk_cell BK319.out 0).trans rfl
                  have hcz36_1 : wc.cell? ⟨gb319, 1, none⟩ = some (.int .i64 a1_1) := (blk_cell BK319.out 1).trans rfl
                  have hcz36_2 : wc.cell? ⟨gb319, 2, none⟩ = some (.int .i64 a1_2) := (blk_cell BK319.out 2).trans rfl
                  have hcz36_3 : wc.cell? ⟨gb319, 3, none⟩ = some (.int .i64 a1_3) := (blk_cell BK319.out 3).trans rfl
                  have hcz36_4 : wc.cell? ⟨gb319, 4, none⟩ = some (.int .i64 a1_4) := (blk_cell BK319.out 4).trans rfl
                  have hcz36_5 : wc.cell? ⟨gb319, 5, none⟩ = some (.string a1_5) := (blk_cell BK319.out 5).trans rfl
                  have hfz36_0 := blk_frozen BK319.out 0
                  have hfz36_1 := blk_frozen BK319.out 1
                  have hfz36_2 := blk_frozen BK319.out 2
                  have hfz36_3 := blk_frozen BK319.out 3
                  have hfz36_4 := blk_frozen BK319.out 4
                  have hfz36_5 := blk_frozen BK319.out 5
                  go_wp2_with (first | (go_at_call 10; (with_reducible refine (sluicegatelaw07_live.calls  t338 _ A33.out).mono ?_); rintro e w37 ⟨rfl, hb⟩; have n0_ := Aside0.mk (blk_below (g := gb318) (o := .cells #[.int .i64 a0_0, .int .i64 a0_1, .int .i64 a0_2, .int .i64 a0_3, .int .i64 a0_4, .string a0_5] 25 (0, 0)) (by (with_reducible repeat (first | refine blk_drewN ?_ _ | refine blk_drew ?_ | refine blk_alloc ?_ _)); exact BK318.out) hb); have n1_ := Aside0.mk (blk_below (g := gb319) (o := .cells #[.int .i64 a1_0, .int .i64 a1_1, .int .i64 a1_2, .int .i64 a1_3, .int .i64 a1_4, .string a1_5] 25 (0, 0)) (by (with_reducible repeat (first | refine blk_drewN ?_ _ | refine blk_drew ?_ | refine blk_alloc ?_ _)); exact BK319.out) hb); have n2_ := Aside0.mk (below_step (by repeat (first | (with_reducible first | exact HB.out | apply below_alloc | apply pw_below_drewN | apply below_drew1 | refine below_set ?_ GE318.out | refine below_set ?_ GE319.out) | exact HB.out)) hb); clear BK318; clear BK319; clear HB; have BK318 := n0_; have BK319 := n1_; have HB := n2_; clear n0_ n1_ n2_; (try clear hb); (try clear hb2); (try clear hk); (try clear hi)))
                  go_ret
                  exact ⟨by first | rfl | (simp [errW_none, errW_some] <;> rfl) | (simp [*, errW_none, errW_some] <;> rfl), by repeat (first | (with_reducible first | exact HB.out | apply below_alloc | apply pw_below_drewN | apply below_drew1 | refine below_set ?_ GE318.out | refine below_set ?_ GE319.out) | exact HB.out)⟩
                · rw [if_neg c32] at H
                  have c32b0 : decide ((t327.size : Int) ≤ 200) = false := decide_eq_false c32
                  have c32b1 : decide (t327.size ≤ 200) = false := decide_eq_false (by omega)
                  clear c32
                  obtain rfl := Option.some.inj H
                  have hnb38 := NB318_319.out
                  have hnc38 := NB319_318.out
                  have hcz39_0 : wc.cell? ⟨gb318, 0, none⟩ = some (.int .i64 a0_0) := (blk_cell BK318.out 0).trans rfl
                  have hcz39_1 : wc.cell? ⟨gb318, 1, none⟩ = some (.int .i64 a0_1) := (blk_cell BK318.out 1).trans rfl
                  have hcz39_2 : wc.cell? ⟨gb318, 2, none⟩ = some (.int .i64 a0_2) := (blk_cell BK318.out 2).trans rfl
                  have hcz39_3 : wc.cell? ⟨gb318, 3, none⟩ = some (.int .i64 a0_3) := (blk_cell BK318.out 3).trans rfl
                  have hcz39_4 : wc.cell? ⟨gb318, 4, none⟩ = some (.int .i64 a0_4) := (blk_cell BK318.out 4).trans rfl
                  have hcz39_5 : wc.cell? ⟨gb318, 5, none⟩ = some (.string a0_5) := (blk_cell BK318.out 5).trans rfl
                  have hfz39_0 := blk_frozen BK318.out 0
                  have hfz39_1 := blk_frozen BK318.out 1
                  have hfz39_2 := blk_frozen BK318.out 2
                  have hfz39_3 := blk_frozen BK318.out 3
                  have hfz39_4 := blk_frozen BK318.out 4
                  have hfz39_5 := blk_frozen BK318.out 5
                  have hcz40_0 : wc.cell? ⟨gb319, 0, none⟩ = some (.int .i64 a1_0) := (blk_cell BK319.out 0).trans rfl
                  have hcz40_1 : wc.cell? ⟨gb319, 1, none⟩ = some (.int .i64 a1_1) := (blk_cell BK319.out 1).trans rfl
                  have hcz40_2 : wc.cell? ⟨gb319, 2, none⟩ = some (.int .i64 a1_2) := (blk_cell BK319.out 2).trans rfl
                  have hcz40_3 : wc.cell? ⟨gb319, 3, none⟩ = some (.int .i64 a1_3) := (blk_cell BK319.out 3).trans rfl
                  have hcz40_4 : wc.cell? ⟨gb319, 4, none⟩ = some (.int .i64 a1_4) := (blk_cell BK319.out 4).trans rfl
                  have hcz40_5 : wc.cell? ⟨gb319, 5, none⟩ = some (.string a1_5) := (blk_cell BK319.out 5).trans rfl
                  have hfz40_0 := blk_frozen BK319.out 0
                  have hfz40_1 := blk_frozen BK319.out 1
                  have hfz40_2 := blk_frozen BK319.out 2
                  have hfz40_3 := blk_frozen BK319.out 3
                  have hfz40_4 := blk_frozen BK319.out 4
                  have hfz40_5 := blk_frozen BK319.out 5
                  go_wp2
                  go_ret
                  exact ⟨by first | rfl | (simp [errW_none, errW_some] <;> rfl) | (simp [*, errW_none, errW_some] <;> rfl), by repeat (first | (with_reducible first | exact HB.out | apply below_alloc | apply pw_below_drewN | apply below_drew1 | refine below_set ?_ GE318.out | refine below_set ?_ GE319.out) | exact HB.out)⟩
              · rw [if_neg c31] at H
                have c31b0 : ((t327.toList == t335.toList) == (a0_0 == a1_0 && (a0_1 == a1_1 && (a0_2 == a1_2 && ((a0_3 == a1_3 && (a0_4 == a1_4)) && (a0_5.toList == a1_5.toList)))))) = false := by simpa using c31
                (try (have c31b1 : decide ((t327.toList == t335.toList) = (a0_0 == a1_0 && (a0_1 == a1_1 && (a0_2 == a1_2 && ((a0_3 == a1_3 && (a0_4 == a1_4)) && (a0_5.toList == a1_5.toList)))))) = false := by simpa using c31))
                (try (have c31b2 : ((t327.toList == t335.toList) == (a0_0 == a1_0 && (a0_1 == a1_1 && (a0_2 == a1_2 && ((a0_3 == a1_3 && (a0_4 == a1_4)) && (a0_5.toList == a1_5.toList)))))) = false := by simpa using c31))
                (try (have c31b3 : ¬ ((t327.toList == t335.toList) = (a0_0 == a1_0 && (a0_1 == a1_1 && (a0_2 == a1_2 && ((a0_3 == a1_3 && (a0_4 == a1_4)) && (a0_5.toList == a1_5.toList)))))) := by simpa using c31))
                clear c31
                obtain rfl := Option.some.inj H
                have hnb41 := NB318_319.out
                have hnc41 := NB319_318.out
                have hcz42_0 : wc.cell? ⟨gb318, 0, none⟩ = some (.int .i64 a0_0) := (blk_cell BK318.out 0).trans rfl
                have hcz42_1 : wc.cell? ⟨gb318, 1, none⟩ = some (.int .i64 a0_1) := (blk_cell BK318.out 1).trans rfl
                have hcz42_2 : wc.cell? ⟨gb318, 2, none⟩ = some (.int .i64 a0_2) := (blk_cell BK318.out 2).trans rfl
                have hcz42_3 : wc.cell? ⟨gb318, 3, none⟩ = some (.int .i64 a0_3) := (blk_cell BK318.out 3).trans rfl
                have hcz42_4 : wc.cell? ⟨gb318, 4, none⟩ = some (.int .i64 a0_4) := (blk_cell BK318.out 4).trans rfl
                have hcz42_5 : wc.cell? ⟨gb318, 5, none⟩ = some (.string a0_5) := (blk_cell BK318.out 5).trans rfl
                have hfz42_0 := blk_frozen BK318.out 0
                have hfz42_1 := blk_frozen BK318.out 1
                have hfz42_2 := blk_frozen BK318.out 2
                have hfz42_3 := blk_frozen BK318.out 3
                have hfz42_4 := blk_frozen BK318.out 4
                have hfz42_5 := blk_frozen BK318.out 5
                have hcz43_0 : wc.cell? ⟨gb319, 0, none⟩ = some (.int .i64 a1_0) := (blk_cell BK319.out 0).trans rfl
                have hcz43_1 : wc.cell? ⟨gb319, 1, none⟩ = some (.int .i64 a1_1) := (blk_cell BK319.out 1).trans rfl
                have hcz43_2 : wc.cell? ⟨gb319, 2, none⟩ = some (.int .i64 a1_2) := (blk_cell BK319.out 2).trans rfl
                have hcz43_3 : wc.cell? ⟨gb319, 3, none⟩ = some (.int .i64 a1_3) := (blk_cell BK319.out 3).trans rfl
                have hcz43_4 : wc.cell? ⟨gb319, 4, none⟩ = some (.int .i64 a1_4) := (blk_cell BK319.out 4).trans rfl
                have hcz43_5 : wc.cell? ⟨gb319, 5, none⟩ = some (.string a1_5) := (blk_cell BK319.out 5).trans rfl
                have hfz43_0 := blk_frozen BK319.out 0
                have hfz43_1 := blk_frozen BK319.out 1
                have hfz43_2 := blk_frozen BK319.out 2
                have hfz43_3 := blk_frozen BK319.out 3
                have hfz43_4 := blk_frozen BK319.out 4
                have hfz43_5 := blk_frozen BK319.out 5
                go_wp2
                go_ret
                exact ⟨by first | rfl | (simp [errW_none, errW_some] <;> rfl) | (simp [*, errW_none, errW_some] <;> rfl), by repeat (first | (with_reducible first | exact HB.out | apply below_alloc | apply pw_below_drewN | apply below_drew1 | refine below_set ?_ GE318.out | refine below_set ?_ GE319.out) | exact HB.out)⟩

end Go.Proofs.Ytoakibpgmjebeaa.Q
