/- Lemmas for the law RecordCut, merged out of several texts and cut down to what it names, by a program of this session (some of the first ones are of the words that print.sh wrote for this claim). -/
import Derived.Laws.BitsLemmas
import Derived.Lib.Hide
import Derived.WalkSpells
import Derived.WalkLawsBesides
import Derived.Test.YtkceobahefjlnaaProg
import Derived.Below
import Derived.WalkKit
import Derived.Lib.Builder
import Derived.Laws.Tables
import Derived.Maps.OwnSet
import Derived.StillTail
import Derived.Deep.QuietTactic
import Derived.BigQuiet
import Derived.Test.YtkceobahefjlnaaKRecordCut1
import Derived.Test.YtkceobahefjlnaaKRecordCut2
set_option linter.unusedVariables false
set_option linter.unusedSimpArgs false
section
/- Functions of the translation told as plain Lean functions, and that the calls come to just these. Written by a program of this session, which drives print.py; not a text of print.sh. -/
namespace Go.Proofs.Ytkceobahefjlnaa.Q
open Go.RowKit Go.Proofs.YtkceobahefjlnaaW.PrintWords Go.Proofs.YtkceobahefjlnaaW.PrintLast Go.Proofs.YtkceobahefjlnaaW.PrintMore
attribute [local go_sem] max2_int min2_int max_two min_two max_three min_three max_four min_four   -- for this text's walks alone
set_option linter.unusedVariables false
set_option linter.unusedSimpArgs false
attribute [local go_sem high] eqA67
/-! ### sluicegateref11_Volume: function 17 -/
mutual
def sluicegateref11_Volume.j0 : Nat → Bool → Int → Int → Int → List (S67) → Option (Bool)
  | 0, _, _, _, _, _ => none
  | k + 1, x30, x302000, x302001, x302002, x302003 => if x30 = true then (some false) else (sluicegateref11_Volume.l0 k 0 x302000 x302001 x302002 x302003)
def sluicegateref11_Volume.l0 : Nat → Int → Int → Int → Int → List (S67) → Option (Bool)
  | 0, _, _, _, _, _ => none
  | k + 1, x3, x302000, x302001, x302002, x302003 => if x3 < 9 then (if 0 ≤ x3 then (if x3 < (x302003.length : Int) then ((sluicegateref10_Is.f ((rd_T67 x302003 x3).f0) ((rd_T67 x302003 x3).f1)).bind fun t305 => (if t305 = true then (sluicegateref11_Volume.l1 k x3 0 x302000 x302001 x302002 x302003) else (some false))) else (none)) else (none)) else (some true)
def sluicegateref11_Volume.l1 : Nat → Int → Int → Int → Int → Int → List (S67) → Option (Bool)
  | 0, _, _, _, _, _, _ => none
  | k + 1, x3, x4, x302000, x302001, x302002, x302003 => if x4 < x3 then (if 0 ≤ x4 then (if x4 < (x302003.length : Int) then (if 0 ≤ x3 then (if x3 < (x302003.length : Int) then (if ((rd_T67 x302003 x4).f0) = ((rd_T67 x302003 x3).f0) then (some false) else (sluicegateref11_Volume.l1 k x3 (wrap64 (x4 + 1)) x302000 x302001 x302002 x302003)) else (none)) else (none)) else (none)) else (none)) else (sluicegateref11_Volume.l0 k (wrap64 (x3 + 1)) x302000 x302001 x302002 x302003)
end
def sluicegateref11_Volume.f (k : Nat) (a0_0 : Int) (a0_1 : Int) (a0_2 : Int) (l0_3 : List (S67)) : Option (Bool) := (sluicegateref11_number.f a0_0).bind fun t302 => (if t302 = true then ((sluicegateref11_number.f a0_1).bind fun t303 => (if t303 = true then (if a0_2 < 0 then (sluicegateref11_Volume.j0 k true a0_0 a0_1 a0_2 l0_3) else (if a0_2 > 384 then (sluicegateref11_Volume.j0 k true a0_0 a0_1 a0_2 l0_3) else (sluicegateref11_Volume.j0 k ((l0_3.length : Int) != 9) a0_0 a0_1 a0_2 l0_3))) else (sluicegateref11_Volume.j0 k true a0_0 a0_1 a0_2 l0_3))) else (sluicegateref11_Volume.j0 k true a0_0 a0_1 a0_2 l0_3))
theorem sluicegateref11_Volume.mono_l : ∀ k, (∀ y0 y1 y2 y3 y4, LeO (sluicegateref11_Volume.j0 k y0 y1 y2 y3 y4) (sluicegateref11_Volume.j0 (k + 1) y0 y1 y2 y3 y4)) ∧ (∀ y0 y1 y2 y3 y4, LeO (sluicegateref11_Volume.l0 k y0 y1 y2 y3 y4) (sluicegateref11_Volume.l0 (k + 1) y0 y1 y2 y3 y4)) ∧ (∀ y0 y1 y2 y3 y4 y5, LeO (sluicegateref11_Volume.l1 k y0 y1 y2 y3 y4 y5) (sluicegateref11_Volume.l1 (k + 1) y0 y1 y2 y3 y4 y5))
  | 0 => ⟨fun _ _ _ _ _ r h => by simp [sluicegateref11_Volume.j0] at h, fun _ _ _ _ _ r h => by simp [sluicegateref11_Volume.l0] at h, fun _ _ _ _ _ _ r h => by simp [sluicegateref11_Volume.l1] at h⟩
  | k + 1 => by
    obtain ⟨ih0, ih1, ih2⟩ := sluicegateref11_Volume.mono_l k
    refine ⟨?_, ?_, ?_⟩
    · intro y0 y1 y2 y3 y4
      unfold sluicegateref11_Volume.j0
      repeat' first
      | (with_reducible exact ih0 _ _ _ _ _)
      | (with_reducible exact ih1 _ _ _ _ _)
      | (with_reducible exact ih2 _ _ _ _ _ _)
      | (with_reducible exact LeO.refl _)
      | (with_reducible exact LeO.none _)
      | (with_reducible refine LeO.ite ?_ ?_)
      | (with_reducible refine LeO.bind ?_ (fun _ => ?_))
      | exact ih0 _ _ _ _ _
      | exact ih1 _ _ _ _ _
      | exact ih2 _ _ _ _ _ _
      | exact LeO.none _
      | refine LeO.ite ?_ ?_
      | refine LeO.bind ?_ (fun _ => ?_)
    · intro y0 y1 y2 y3 y4
      unfold sluicegateref11_Volume.l0
      repeat' first
      | (with_reducible exact ih0 _ _ _ _ _)
      | (with_reducible exact ih1 _ _ _ _ _)
      | (with_reducible exact ih2 _ _ _ _ _ _)
      | (with_reducible exact LeO.refl _)
      | (with_reducible exact LeO.none _)
      | (with_reducible refine LeO.ite ?_ ?_)
      | (with_reducible refine LeO.bind ?_ (fun _ => ?_))
      | exact ih0 _ _ _ _ _
      | exact ih1 _ _ _ _ _
      | exact ih2 _ _ _ _ _ _
      | exact LeO.none _
      | refine LeO.ite ?_ ?_
      | refine LeO.bind ?_ (fun _ => ?_)
    · intro y0 y1 y2 y3 y4 y5
      unfold sluicegateref11_Volume.l1
      repeat' first
      | (with_reducible exact ih0 _ _ _ _ _)
      | (with_reducible exact ih1 _ _ _ _ _)
      | (with_reducible exact ih2 _ _ _ _ _ _)
      | (with_reducible exact LeO.refl _)
      | (with_reducible exact LeO.none _)
      | (with_reducible refine LeO.ite ?_ ?_)
      | (with_reducible refine LeO.bind ?_ (fun _ => ?_))
      | exact ih0 _ _ _ _ _
      | exact ih1 _ _ _ _ _
      | exact ih2 _ _ _ _ _ _
      | exact LeO.none _
      | refine LeO.ite ?_ ?_
      | refine LeO.bind ?_ (fun _ => ?_)
theorem sluicegateref11_Volume.mono : ∀ a0 a1 a2 a3 k, LeO (sluicegateref11_Volume.f k a0 a1 a2 a3) (sluicegateref11_Volume.f (k + 1) a0 a1 a2 a3) := by
  intro a0 a1 a2 a3 k
  obtain ⟨ih0, ih1, ih2⟩ := sluicegateref11_Volume.mono_l k
  unfold sluicegateref11_Volume.f
  repeat' first
      | (with_reducible exact ih0 _ _ _ _ _)
      | (with_reducible exact ih1 _ _ _ _ _)
      | (with_reducible exact ih2 _ _ _ _ _ _)
      | (with_reducible exact LeO.refl _)
      | (with_reducible exact LeO.none _)
      | (with_reducible refine LeO.ite ?_ ?_)
      | (with_reducible refine LeO.bind ?_ (fun _ => ?_))
      | exact ih0 _ _ _ _ _
      | exact ih1 _ _ _ _ _
      | exact ih2 _ _ _ _ _ _
      | exact LeO.none _
      | refine LeO.ite ?_ ?_
      | refine LeO.bind ?_ (fun _ => ?_)
set_option maxHeartbeats 8000000 in
set_option maxRecDepth 100000 in
theorem sluicegateref11_Volume.calls (k : Nat) (a0_0 : Int) (a0_1 : Int) (a0_2 : Int) (A0_3 : Option Addr) (c0_3 : Nat) (l0_3 : List (S67)) (r : Bool) (w : World) (hr0_3 : Kd.C k67 w A0_3 l0_3.length l0_3) (hc0_3 : l0_3.length ≤ c0_3) (h : sluicegateref11_Volume.f k a0_0 a0_1 a0_2 l0_3 = some r) :
    Calls Try.prog 17 #[.agg #[.int .i64 a0_0, .int .i64 a0_1, .int .i64 a0_2, .slice A0_3 l0_3.length c0_3]] w fun e w' => e = .returned (.bool r) ∧ Below w.heap.size w w' := by
  have hu24 := Try.underlying24
  have hu67 := Try.underlying67
  have HR0_3 := Aside0.mk hr0_3
  have HC0_3 := Aside0.mk hc0_3
  clear hr0_3 hc0_3
  have HB := Aside0.mk (Below.refl w.heap.size w)
  have H : ((sluicegateref11_number.f a0_0).bind fun t302 => (if t302 = true then ((sluicegateref11_number.f a0_1).bind fun t303 => (if t303 = true then (if a0_2 < 0 then (sluicegateref11_Volume.j0 k true a0_0 a0_1 a0_2 l0_3) else (if a0_2 > 384 then (sluicegateref11_Volume.j0 k true a0_0 a0_1 a0_2 l0_3) else (sluicegateref11_Volume.j0 k ((l0_3.length : Int) != 9) a0_0 a0_1 a0_2 l0_3))) else (sluicegateref11_Volume.j0 k true a0_0 a0_1 a0_2 l0_3))) else (sluicegateref11_Volume.j0 k true a0_0 a0_1 a0_2 l0_3))) = some r := h
  clear h
  have HC2 := Aside0.mk H
  clear H
  go_enter Try.func17, Try.ntmps17
  go_upto_region 1 with (first | ((with_reducible refine gate_dst (N := 1) rfl ?_); (try (refine gate_guard (by rfl) ?_; dsimp only)); refine box_event ?hg (N := 1) ?hd (cs := #[.int .i64 a0_0, .int .i64 a0_1, .int .i64 a0_2, .slice A0_3 l0_3.length c0_3]) (t := 24) ?hr ?_; (case hd => rfl); (case hg => rfl); (case hr => first | (go_simp; done) | (go_simp; rfl)); intro gb301 hg w3 hbox hb; have n0_ := Aside0.mk (below_step (by repeat (first | (with_reducible first | exact HB.out | apply below_alloc | apply pw_below_drewN | apply below_drew1) | exact HB.out)) hb); have n1_ := Aside0.mk (hbox); have n2_ := Aside0.mk ((by rw [hg]; exact (below_size (by repeat (first | (with_reducible first | exact HB.out | apply below_alloc | apply pw_below_drewN | apply below_drew1) | exact HB.out))) : w.heap.size ≤ gb301)); have n3_ := Aside0.mk ((by rw [hg]; exact (below_size (by repeat (first | (with_reducible first | exact HB.out | apply below_alloc | apply pw_below_drewN | apply below_drew1) | exact HB.out))) : w.heap.size ≤ gb301)); clear HB; have HB := n0_; have BK301 := n1_; have GW301 := n2_; have GE301 := n3_; clear n0_ n1_ n2_ n3_; clear hb hbox hg))
  repeat (go_quiet (first | ((with_reducible refine gate_dst (N := 1) rfl ?_); (try (refine gate_guard (by rfl) ?_; dsimp only)); refine box_event ?hg (N := 1) ?hd (cs := #[.int .i64 a0_0, .int .i64 a0_1, .int .i64 a0_2, .slice A0_3 l0_3.length c0_3]) (t := 24) ?hr ?_; (case hd => rfl); (case hg => rfl); (case hr => first | (go_simp; done) | (go_simp; rfl)); intro gb301 hg w3 hbox hb; have n0_ := Aside0.mk (below_step (by repeat (first | (with_reducible first | exact HB.out | apply below_alloc | apply pw_below_drewN | apply below_drew1) | exact HB.out)) hb); have n1_ := Aside0.mk (hbox); have n2_ := Aside0.mk ((by rw [hg]; exact (below_size (by repeat (first | (with_reducible first | exact HB.out | apply below_alloc | apply pw_below_drewN | apply below_drew1) | exact HB.out))) : w.heap.size ≤ gb301)); have n3_ := Aside0.mk ((by rw [hg]; exact (below_size (by repeat (first | (with_reducible first | exact HB.out | apply below_alloc | apply pw_below_drewN | apply below_drew1) | exact HB.out))) : w.heap.size ≤ gb301)); clear HB; have HB := n0_; have BK301 := n1_; have GW301 := n2_; have GE301 := n3_; clear n0_ n1_ n2_ n3_; clear hb hbox hg)); go_upto_region 1 with (first | ((with_reducible refine gate_dst (N := 1) rfl ?_); (try (refine gate_guard (by rfl) ?_; dsimp only)); refine box_event ?hg (N := 1) ?hd (cs := #[.int .i64 a0_0, .int .i64 a0_1, .int .i64 a0_2, .slice A0_3 l0_3.length c0_3]) (t := 24) ?hr ?_; (case hd => rfl); (case hg => rfl); (case hr => first | (go_simp; done) | (go_simp; rfl)); intro gb301 hg w3 hbox hb; have n0_ := Aside0.mk (below_step (by repeat (first | (with_reducible first | exact HB.out | apply below_alloc | apply pw_below_drewN | apply below_drew1) | exact HB.out)) hb); have n1_ := Aside0.mk (hbox); have n2_ := Aside0.mk ((by rw [hg]; exact (below_size (by repeat (first | (with_reducible first | exact HB.out | apply below_alloc | apply pw_below_drewN | apply below_drew1) | exact HB.out))) : w.heap.size ≤ gb301)); have n3_ := Aside0.mk ((by rw [hg]; exact (below_size (by repeat (first | (with_reducible first | exact HB.out | apply below_alloc | apply pw_below_drewN | apply below_drew1) | exact HB.out))) : w.heap.size ≤ gb301)); clear HB; have HB := n0_; have BK301 := n1_; have GW301 := n2_; have GE301 := n3_; clear n0_ n1_ n2_ n3_; clear hb hbox hg)))
  (try simp only [Act.put, List.setIfInBounds_toArray, List.set_cons_zero, List.set_cons_succ])
  go_cut [30] (fun v30 wc => ∃ (kq : Nat) (x30_1 : Bool), v30 = .bool x30_1 ∧ Aside0 (sluicegateref11_Volume.j0 kq x30_1 a0_0 a0_1 a0_2 l0_3 = some r) ∧ Aside0 (kq ≤ k) ∧ Aside0 (wc.heap[gb301]? = some (.cells #[.int .i64 a0_0, .int .i64 a0_1, .int .i64 a0_2, (.slice A0_3 l0_3.length c0_3)] 24 (0, 0))) ∧ Aside0 (Below w.heap.size w wc))
  case first =>
    have H := HC2.out
    clear HC2
    replace H := Option.bind_eq_some_iff.mp H
    obtain ⟨t302, A40, H⟩ := H
    replace H : (if t302 = true then ((sluicegateref11_number.f a0_1).bind fun t303 => (if t303 = true then (if a0_2 < 0 then (sluicegateref11_Volume.j0 k true a0_0 a0_1 a0_2 l0_3) else (if a0_2 > 384 then (sluicegateref11_Volume.j0 k true a0_0 a0_1 a0_2 l0_3) else (sluicegateref11_Volume.j0 k ((l0_3.length : Int) != 9) a0_0 a0_1 a0_2 l0_3))) else (sluicegateref11_Volume.j0 k true a0_0 a0_1 a0_2 l0_3))) else (sluicegateref11_Volume.j0 k true a0_0 a0_1 a0_2 l0_3)) = some r := H
    have A4 := Aside0.mk A40
    clear A40
    by_cases c5 : t302 = true
    · subst c5
      have H1 : ((sluicegateref11_number.f a0_1).bind fun t303 => (if t303 = true then (if a0_2 < 0 then (sluicegateref11_Volume.j0 k true a0_0 a0_1 a0_2 l0_3) else (if a0_2 > 384 then (sluicegateref11_Volume.j0 k true a0_0 a0_1 a0_2 l0_3) else (sluicegateref11_Volume.j0 k ((l0_3.length : Int) != 9) a0_0 a0_1 a0_2 l0_3))) else (sluicegateref11_Volume.j0 k true a0_0 a0_1 a0_2 l0_3))) = some r := by rw [if_pos rfl] at H; exact H
      clear H
      have H := H1
      clear H1
      replace H := Option.bind_eq_some_iff.mp H
      obtain ⟨t303, A60, H⟩ := H
      replace H : (if t303 = true then (if a0_2 < 0 then (sluicegateref11_Volume.j0 k true a0_0 a0_1 a0_2 l0_3) else (if a0_2 > 384 then (sluicegateref11_Volume.j0 k true a0_0 a0_1 a0_2 l0_3) else (sluicegateref11_Volume.j0 k ((l0_3.length : Int) != 9) a0_0 a0_1 a0_2 l0_3))) else (sluicegateref11_Volume.j0 k true a0_0 a0_1 a0_2 l0_3)) = some r := H
      have A6 := Aside0.mk A60
      clear A60
      by_cases c7 : t303 = true
      · subst c7
        have H1 : (if a0_2 < 0 then (sluicegateref11_Volume.j0 k true a0_0 a0_1 a0_2 l0_3) else (if a0_2 > 384 then (sluicegateref11_Volume.j0 k true a0_0 a0_1 a0_2 l0_3) else (sluicegateref11_Volume.j0 k ((l0_3.length : Int) != 9) a0_0 a0_1 a0_2 l0_3))) = some r := by rw [if_pos rfl] at H; exact H
        clear H
        have H := H1
        clear H1
        by_cases c8 : a0_2 < 0
        · rw [if_pos c8] at H
          have c8b0 : decide (a0_2 < 0) = true := decide_eq_true c8
          clear c8
          (first | rw [c8b0] | (simp only [i64_w, i32_w]; rw [c8b0]) | skip)
          have H' := Aside0.mk H
          clear H
          have hcz9_0 : w3.cell? ⟨gb301, 0, none⟩ = some (.int .i64 a0_0) := (blk_cell BK301.out 0).trans rfl
          have hcz9_1 : w3.cell? ⟨gb301, 1, none⟩ = some (.int .i64 a0_1) := (blk_cell BK301.out 1).trans rfl
          have hcz9_2 : w3.cell? ⟨gb301, 2, none⟩ = some (.int .i64 a0_2) := (blk_cell BK301.out 2).trans rfl
          have hcz9_3 : w3.cell? ⟨gb301, 3, none⟩ = some (.slice A0_3 l0_3.length c0_3) := (blk_cell BK301.out 3).trans rfl
          have hfz9_0 := blk_frozen BK301.out 0
          have hfz9_1 := blk_frozen BK301.out 1
          have hfz9_2 := blk_frozen BK301.out 2
          have hfz9_3 := blk_frozen BK301.out 3
          go_wp2_with (first | (go_at_call 35; (with_reducible refine (sluicegateref11_number.calls a0_0 true _ A4.out).mono ?_); rintro e w' ⟨rfl, ⟨nd, rfl⟩⟩; (try first | exact ⟨rfl, _, World.drewN_drewN _ _ _⟩ | exact ⟨rfl, _, Eq.trans (World.drewN_drewN _ _ _) (congrArg (World.drewN _) (Nat.add_assoc _ _ _))⟩)) | (go_at_call 35; (with_reducible refine (sluicegateref11_number.calls a0_1 true _ A6.out).mono ?_); rintro e w' ⟨rfl, ⟨nd, rfl⟩⟩; (try first | exact ⟨rfl, _, World.drewN_drewN _ _ _⟩ | exact ⟨rfl, _, Eq.trans (World.drewN_drewN _ _ _) (congrArg (World.drewN _) (Nat.add_assoc _ _ _))⟩)))
          repeat (go_quiet (first | (go_at_call 35; (with_reducible refine (sluicegateref11_number.calls a0_0 true _ A4.out).mono ?_); rintro e w' ⟨rfl, ⟨nd, rfl⟩⟩; (try first | exact ⟨rfl, _, World.drewN_drewN _ _ _⟩ | exact ⟨rfl, _, Eq.trans (World.drewN_drewN _ _ _) (congrArg (World.drewN _) (Nat.add_assoc _ _ _))⟩)) | (go_at_call 35; (with_reducible refine (sluicegateref11_number.calls a0_1 true _ A6.out).mono ?_); rintro e w' ⟨rfl, ⟨nd, rfl⟩⟩; (try first | exact ⟨rfl, _, World.drewN_drewN _ _ _⟩ | exact ⟨rfl, _, Eq.trans (World.drewN_drewN _ _ _) (congrArg (World.drewN _) (Nat.add_assoc _ _ _))⟩))); try go_wp2_with (first | (go_at_call 35; (with_reducible refine (sluicegateref11_number.calls a0_0 true _ A4.out).mono ?_); rintro e w' ⟨rfl, ⟨nd, rfl⟩⟩; (try first | exact ⟨rfl, _, World.drewN_drewN _ _ _⟩ | exact ⟨rfl, _, Eq.trans (World.drewN_drewN _ _ _) (congrArg (World.drewN _) (Nat.add_assoc _ _ _))⟩)) | (go_at_call 35; (with_reducible refine (sluicegateref11_number.calls a0_1 true _ A6.out).mono ?_); rintro e w' ⟨rfl, ⟨nd, rfl⟩⟩; (try first | exact ⟨rfl, _, World.drewN_drewN _ _ _⟩ | exact ⟨rfl, _, Eq.trans (World.drewN_drewN _ _ _) (congrArg (World.drewN _) (Nat.add_assoc _ _ _))⟩))))
          go_meet
          case rel => exact ⟨_, (true), (by first | rfl | (simp; done) | (simp [*]; done)), H', ⟨by first | omega | exact Nat.le_refl _⟩, ⟨by (with_reducible repeat (first | refine blk_drewN ?_ _ | refine blk_drew ?_ | refine blk_alloc ?_ _)); exact BK301.out⟩, ⟨by repeat (first | (with_reducible first | exact HB.out | apply below_alloc | apply pw_below_drewN | apply below_drew1 | refine below_set ?_ GE301.out) | exact HB.out)⟩⟩
        · rw [if_neg c8] at H
          have c8b0 : decide (a0_2 < 0) = false := decide_eq_false c8
          clear c8
          (first | rw [c8b0] | (simp only [i64_w, i32_w]; rw [c8b0]) | skip)
          by_cases c10 : a0_2 > 384
          · rw [if_pos c10] at H
            have c10b0 : decide (384 < a0_2) = true := decide_eq_true c10
            clear c10
            have H' := Aside0.mk H
            clear H
            have hcz11_0 : w3.cell? ⟨gb301, 0, none⟩ = some (.int .i64 a0_0) := (blk_cell BK301.out 0).trans rfl
            have hcz11_1 : w3.cell? ⟨gb301, 1, none⟩ = some (.int .i64 a0_1) := (blk_cell BK301.out 1).trans rfl
            have hcz11_2 : w3.cell? ⟨gb301, 2, none⟩ = some (.int .i64 a0_2) := (blk_cell BK301.out 2).trans rfl
            have hcz11_3 : w3.cell? ⟨gb301, 3, none⟩ = some (.slice A0_3 l0_3.length c0_3) := (blk_cell BK301.out 3).trans rfl
            have hfz11_0 := blk_frozen BK301.out 0
            have hfz11_1 := blk_frozen BK301.out 1
            have hfz11_2 := blk_frozen BK301.out 2
            have hfz11_3 := blk_frozen BK301.out 3
            go_wp2_with (first | (go_at_call 35; (with_reducible refine (sluicegateref11_number.calls a0_0 true _ A4.out).mono ?_); rintro e w' ⟨rfl, ⟨nd, rfl⟩⟩; (try first | exact ⟨rfl, _, World.drewN_drewN _ _ _⟩ | exact ⟨rfl, _, Eq.trans (World.drewN_drewN _ _ _) (congrArg (World.drewN _) (Nat.add_assoc _ _ _))⟩)) | (go_at_call 35; (with_reducible refine (sluicegateref11_number.calls a0_1 true _ A6.out).mono ?_); rintro e w' ⟨rfl, ⟨nd, rfl⟩⟩; (try first | exact ⟨rfl, _, World.drewN_drewN _ _ _⟩ | exact ⟨rfl, _, Eq.trans (World.drewN_drewN _ _ _) (congrArg (World.drewN _) (Nat.add_assoc _ _ _))⟩)))
            repeat (go_quiet (first | (go_at_call 35; (with_reducible refine (sluicegateref11_number.calls a0_0 true _ A4.out).mono ?_); rintro e w' ⟨rfl, ⟨nd, rfl⟩⟩; (try first | exact ⟨rfl, _, World.drewN_drewN _ _ _⟩ | exact ⟨rfl, _, Eq.trans (World.drewN_drewN _ _ _) (congrArg (World.drewN _) (Nat.add_assoc _ _ _))⟩)) | (go_at_call 35; (with_reducible refine (sluicegateref11_number.calls a0_1 true _ A6.out).mono ?_); rintro e w' ⟨rfl, ⟨nd, rfl⟩⟩; (try first | exact ⟨rfl, _, World.drewN_drewN _ _ _⟩ | exact ⟨rfl, _, Eq.trans (World.drewN_drewN _ _ _) (congrArg (World.drewN _) (Nat.add_assoc _ _ _))⟩))); try go_wp2_with (first | (go_at_call 35; (with_reducible refine (sluicegateref11_number.calls a0_0 true _ A4.out).mono ?_); rintro e w' ⟨rfl, ⟨nd, rfl⟩⟩; (try first | exact ⟨rfl, _, World.drewN_drewN _ _ _⟩ | exact ⟨rfl, _, Eq.trans (World.drewN_drewN _ _ _) (congrArg (World.drewN _) (Nat.add_assoc _ _ _))⟩)) | (go_at_call 35; (with_reducible refine (sluicegateref11_number.calls a0_1 true _ A6.out).mono ?_); rintro e w' ⟨rfl, ⟨nd, rfl⟩⟩; (try first | exact ⟨rfl, _, World.drewN_drewN _ _ _⟩ | exact ⟨rfl, _, Eq.trans (World.drewN_drewN _ _ _) (congrArg (World.drewN _) (Nat.add_assoc _ _ _))⟩))))
            go_meet
            case rel => exact ⟨_, (true), (by first | rfl | (simp; done) | (simp [*]; done)), H', ⟨by first | omega | exact Nat.le_refl _⟩, ⟨by (with_reducible repeat (first | refine blk_drewN ?_ _ | refine blk_drew ?_ | refine blk_alloc ?_ _)); exact BK301.out⟩, ⟨by repeat (first | (with_reducible first | exact HB.out | apply below_alloc | apply pw_below_drewN | apply below_drew1 | refine below_set ?_ GE301.out) | exact HB.out)⟩⟩
          · rw [if_neg c10] at H
            have c10b0 : decide (384 < a0_2) = false := decide_eq_false c10
            clear c10
            have H' := Aside0.mk H
            clear H
            have hcz12_0 : w3.cell? ⟨gb301, 0, none⟩ = some (.int .i64 a0_0) := (blk_cell BK301.out 0).trans rfl
            have hcz12_1 : w3.cell? ⟨gb301, 1, none⟩ = some (.int .i64 a0_1) := (blk_cell BK301.out 1).trans rfl
            have hcz12_2 : w3.cell? ⟨gb301, 2, none⟩ = some (.int .i64 a0_2) := (blk_cell BK301.out 2).trans rfl
            have hcz12_3 : w3.cell? ⟨gb301, 3, none⟩ = some (.slice A0_3 l0_3.length c0_3) := (blk_cell BK301.out 3).trans rfl
            have hfz12_0 := blk_frozen BK301.out 0
            have hfz12_1 := blk_frozen BK301.out 1
            have hfz12_2 := blk_frozen BK301.out 2
            have hfz12_3 := blk_frozen BK301.out 3
            go_wp2_with (first | (go_at_call 35; (with_reducible refine (sluicegateref11_number.calls a0_0 true _ A4.out).mono ?_); rintro e w' ⟨rfl, ⟨nd, rfl⟩⟩; (try first | exact ⟨rfl, _, World.drewN_drewN _ _ _⟩ | exact ⟨rfl, _, Eq.trans (World.drewN_drewN _ _ _) (congrArg (World.drewN _) (Nat.add_assoc _ _ _))⟩)) | (go_at_call 35; (with_reducible refine (sluicegateref11_number.calls a0_1 true _ A6.out).mono ?_); rintro e w' ⟨rfl, ⟨nd, rfl⟩⟩; (try first | exact ⟨rfl, _, World.drewN_drewN _ _ _⟩ | exact ⟨rfl, _, Eq.trans (World.drewN_drewN _ _ _) (congrArg (World.drewN _) (Nat.add_assoc _ _ _))⟩)))
            repeat (go_quiet (first | (go_at_call 35; (with_reducible refine (sluicegateref11_number.calls a0_0 true _ A4.out).mono ?_); rintro e w' ⟨rfl, ⟨nd, rfl⟩⟩; (try first | exact ⟨rfl, _, World.drewN_drewN _ _ _⟩ | exact ⟨rfl, _, Eq.trans (World.drewN_drewN _ _ _) (congrArg (World.drewN _) (Nat.add_assoc _ _ _))⟩)) | (go_at_call 35; (with_reducible refine (sluicegateref11_number.calls a0_1 true _ A6.out).mono ?_); rintro e w' ⟨rfl, ⟨nd, rfl⟩⟩; (try first | exact ⟨rfl, _, World.drewN_drewN _ _ _⟩ | exact ⟨rfl, _, Eq.trans (World.drewN_drewN _ _ _) (congrArg (World.drewN _) (Nat.add_assoc _ _ _))⟩))); try go_wp2_with (first | (go_at_call 35; (with_reducible refine (sluicegateref11_number.calls a0_0 true _ A4.out).mono ?_); rintro e w' ⟨rfl, ⟨nd, rfl⟩⟩; (try first | exact ⟨rfl, _, World.drewN_drewN _ _ _⟩ | exact ⟨rfl, _, Eq.trans (World.drewN_drewN _ _ _) (congrArg (World.drewN _) (Nat.add_assoc _ _ _))⟩)) | (go_at_call 35; (with_reducible refine (sluicegateref11_number.calls a0_1 true _ A6.out).mono ?_); rintro e w' ⟨rfl, ⟨nd, rfl⟩⟩; (try first | exact ⟨rfl, _, World.drewN_drewN _ _ _⟩ | exact ⟨rfl, _, Eq.trans (World.drewN_drewN _ _ _) (congrArg (World.drewN _) (Nat.add_assoc _ _ _))⟩))))
            go_meet
            case rel => exact ⟨_, (((l0_3.length : Int) != 9)), (by first | rfl | (simp; done) | (simp [*]; done)), H', ⟨by first | omega | exact Nat.le_refl _⟩, ⟨by (with_reducible repeat (first | refine blk_drewN ?_ _ | refine blk_drew ?_ | refine blk_alloc ?_ _)); exact BK301.out⟩, ⟨by repeat (first | (with_reducible first | exact HB.out | apply below_alloc | apply pw_below_drewN | apply below_drew1 | refine below_set ?_ GE301.out) | exact HB.out)⟩⟩
      · replace c7 := Bool.eq_false_iff.mpr c7
        subst c7
        have H1 : (sluicegateref11_Volume.j0 k true a0_0 a0_1 a0_2 l0_3) = some r := by rw [if_neg (show ¬ (false = true) by decide)] at H; exact H
        clear H
        have H := H1
        clear H1
        have H' := Aside0.mk H
        clear H
        have hcz13_0 : w3.cell? ⟨gb301, 0, none⟩ = some (.int .i64 a0_0) := (blk_cell BK301.out 0).trans rfl
        have hcz13_1 : w3.cell? ⟨gb301, 1, none⟩ = some (.int .i64 a0_1) := (blk_cell BK301.out 1).trans rfl
        have hcz13_2 : w3.cell? ⟨gb301, 2, none⟩ = some (.int .i64 a0_2) := (blk_cell BK301.out 2).trans rfl
        have hcz13_3 : w3.cell? ⟨gb301, 3, none⟩ = some (.slice A0_3 l0_3.length c0_3) := (blk_cell BK301.out 3).trans rfl
        have hfz13_0 := blk_frozen BK301.out 0
        have hfz13_1 := blk_frozen BK301.out 1
        have hfz13_2 := blk_frozen BK301.out 2
        have hfz13_3 := blk_frozen BK301.out 3
        go_wp2_with (first | (go_at_call 35; (with_reducible refine (sluicegateref11_number.calls a0_0 true _ A4.out).mono ?_); rintro e w' ⟨rfl, ⟨nd, rfl⟩⟩; (try first | exact ⟨rfl, _, World.drewN_drewN _ _ _⟩ | exact ⟨rfl, _, Eq.trans (World.drewN_drewN _ _ _) (congrArg (World.drewN _) (Nat.add_assoc _ _ _))⟩)) | (go_at_call 35; (with_reducible refine (sluicegateref11_number.calls a0_1 false _ A6.out).mono ?_); rintro e w' ⟨rfl, ⟨nd, rfl⟩⟩; (try first | exact ⟨rfl, _, World.drewN_drewN _ _ _⟩ | exact ⟨rfl, _, Eq.trans (World.drewN_drewN _ _ _) (congrArg (World.drewN _) (Nat.add_assoc _ _ _))⟩)))
        repeat (go_quiet (first | (go_at_call 35; (with_reducible refine (sluicegateref11_number.calls a0_0 true _ A4.out).mono ?_); rintro e w' ⟨rfl, ⟨nd, rfl⟩⟩; (try first | exact ⟨rfl, _, World.drewN_drewN _ _ _⟩ | exact ⟨rfl, _, Eq.trans (World.drewN_drewN _ _ _) (congrArg (World.drewN _) (Nat.add_assoc _ _ _))⟩)) | (go_at_call 35; (with_reducible refine (sluicegateref11_number.calls a0_1 false _ A6.out).mono ?_); rintro e w' ⟨rfl, ⟨nd, rfl⟩⟩; (try first | exact ⟨rfl, _, World.drewN_drewN _ _ _⟩ | exact ⟨rfl, _, Eq.trans (World.drewN_drewN _ _ _) (congrArg (World.drewN _) (Nat.add_assoc _ _ _))⟩))); try go_wp2_with (first | (go_at_call 35; (with_reducible refine (sluicegateref11_number.calls a0_0 true _ A4.out).mono ?_); rintro e w' ⟨rfl, ⟨nd, rfl⟩⟩; (try first | exact ⟨rfl, _, World.drewN_drewN _ _ _⟩ | exact ⟨rfl, _, Eq.trans (World.drewN_drewN _ _ _) (congrArg (World.drewN _) (Nat.add_assoc _ _ _))⟩)) | (go_at_call 35; (with_reducible refine (sluicegateref11_number.calls a0_1 false _ A6.out).mono ?_); rintro e w' ⟨rfl, ⟨nd, rfl⟩⟩; (try first | exact ⟨rfl, _, World.drewN_drewN _ _ _⟩ | exact ⟨rfl, _, Eq.trans (World.drewN_drewN _ _ _) (congrArg (World.drewN _) (Nat.add_assoc _ _ _))⟩))))
        go_meet
        case rel => exact ⟨_, (true), (by first | rfl | (simp; done) | (simp [*]; done)), H', ⟨by first | omega | exact Nat.le_refl _⟩, ⟨by (with_reducible repeat (first | refine blk_drewN ?_ _ | refine blk_drew ?_ | refine blk_alloc ?_ _)); exact BK301.out⟩, ⟨by repeat (first | (with_reducible first | exact HB.out | apply below_alloc | apply pw_below_drewN | apply below_drew1 | refine below_set ?_ GE301.out) | exact HB.out)⟩⟩
    · replace c5 := Bool.eq_false_iff.mpr c5
      subst c5
      have H1 : (sluicegateref11_Volume.j0 k true a0_0 a0_1 a0_2 l0_3) = some r := by rw [if_neg (show ¬ (false = true) by decide)] at H; exact H
      clear H
      have H := H1
      clear H1
      have H' := Aside0.mk H
      clear H
      have hcz14_0 : w3.cell? ⟨gb301, 0, none⟩ = some (.int .i64 a0_0) := (blk_cell BK301.out 0).trans rfl
      have hcz14_1 : w3.cell? ⟨gb301, 1, none⟩ = some (.int .i64 a0_1) := (blk_cell BK301.out 1).trans rfl
      have hcz14_2 : w3.cell? ⟨gb301, 2, none⟩ = some (.int .i64 a0_2) := (blk_cell BK301.out 2).trans rfl
      have hcz14_3 : w3.cell? ⟨gb301, 3, none⟩ = some (.slice A0_3 l0_3.length c0_3) := (blk_cell BK301.out 3).trans rfl
      have hfz14_0 := blk_frozen BK301.out 0
      have hfz14_1 := blk_frozen BK301.out 1
      have hfz14_2 := blk_frozen BK301.out 2
      have hfz14_3 := blk_frozen BK301.out 3
      go_wp2_with (first | (go_at_call 35; (with_reducible refine (sluicegateref11_number.calls a0_0 false _ A4.out).mono ?_); rintro e w' ⟨rfl, ⟨nd, rfl⟩⟩; (try first | exact ⟨rfl, _, World.drewN_drewN _ _ _⟩ | exact ⟨rfl, _, Eq.trans (World.drewN_drewN _ _ _) (congrArg (World.drewN _) (Nat.add_assoc _ _ _))⟩)))
      repeat (go_quiet (first | (go_at_call 35; (with_reducible refine (sluicegateref11_number.calls a0_0 false _ A4.out).mono ?_); rintro e w' ⟨rfl, ⟨nd, rfl⟩⟩; (try first | exact ⟨rfl, _, World.drewN_drewN _ _ _⟩ | exact ⟨rfl, _, Eq.trans (World.drewN_drewN _ _ _) (congrArg (World.drewN _) (Nat.add_assoc _ _ _))⟩))); try go_wp2_with (first | (go_at_call 35; (with_reducible refine (sluicegateref11_number.calls a0_0 false _ A4.out).mono ?_); rintro e w' ⟨rfl, ⟨nd, rfl⟩⟩; (try first | exact ⟨rfl, _, World.drewN_drewN _ _ _⟩ | exact ⟨rfl, _, Eq.trans (World.drewN_drewN _ _ _) (congrArg (World.drewN _) (Nat.add_assoc _ _ _))⟩))))
      go_meet
      case rel => exact ⟨_, (true), (by first | rfl | (simp; done) | (simp [*]; done)), H', ⟨by first | omega | exact Nat.le_refl _⟩, ⟨by (with_reducible repeat (first | refine blk_drewN ?_ _ | refine blk_drew ?_ | refine blk_alloc ?_ _)); exact BK301.out⟩, ⟨by repeat (first | (with_reducible first | exact HB.out | apply below_alloc | apply pw_below_drewN | apply below_drew1 | refine below_set ?_ GE301.out) | exact HB.out)⟩⟩
  case rest =>
    clear HC2
    try clear c1
    try clear p2
    try clear c5
    try clear c7
    try clear c8
    try clear c8b0
    try clear c10
    try clear c10b0
    try clear hcz11_0
    try clear hcz11_1
    try clear hcz11_2
    try clear hcz11_3
    try clear hcz12_0
    try clear hcz12_1
    try clear hcz12_2
    try clear hcz12_3
    try clear hcz13_0
    try clear hcz13_1
    try clear hcz13_2
    try clear hcz13_3
    try clear hcz14_0
    try clear hcz14_1
    try clear hcz14_2
    try clear hcz14_3
    try clear hcz9_0
    try clear hcz9_1
    try clear hcz9_2
    try clear hcz9_3
    try clear hfz11_0
    try clear hfz11_1
    try clear hfz11_2
    try clear hfz11_3
    try clear hfz12_0
    try clear hfz12_1
    try clear hfz12_2
    try clear hfz12_3
    try clear hfz13_0
    try clear hfz13_1
    try clear hfz13_2
    try clear hfz13_3
    try clear hfz14_0
    try clear hfz14_1
    try clear hfz14_2
    try clear hfz14_3
    try clear hfz9_0
    try clear hfz9_1
    try clear hfz9_2
    try clear hfz9_3
    obtain ⟨kq, x30_1, rfl, HA, HJ1, BK301, HB⟩ := hcut
    cases kq with
    | zero => exact absurd HA.out (by simp [sluicegateref11_Volume.j0])
    | succ kj1 =>
      have H := HA.out
      clear HA
      simp only [sluicegateref11_Volume.j0] at H
      by_cases c15 : x30_1 = true
      · subst c15
        have H1 : (some false) = some r := by rw [if_pos rfl] at H; exact H
        clear H
        have H := H1
        clear H1
        obtain rfl := Option.some.inj H
        go_wp2
        repeat (go_quiet (fail); try go_wp2)
        go_ret
        exact ⟨by first | rfl | (simp [errW_none, errW_some] <;> rfl) | (simp [*, errW_none, errW_some] <;> rfl), by repeat (first | (with_reducible first | exact HB.out | apply below_alloc | apply pw_below_drewN | apply below_drew1 | refine below_set ?_ GE301.out) | exact HB.out)⟩
      · replace c15 := Bool.eq_false_iff.mpr c15
        subst c15
        have H1 : (sluicegateref11_Volume.l0 kj1 0 a0_0 a0_1 a0_2 l0_3) = some r := by rw [if_neg (show ¬ (false = true) by decide)] at H; exact H
        clear H
        have H := H1
        clear H1
        have H' := Aside0.mk H
        clear H
        go_wp2
        repeat (go_quiet (fail); try go_wp2)
        go_loopg [3] kj1 (fun kq v3 w' => ∃ (x3_2 : Int), v3 = .int .i64 x3_2 ∧ Aside0 (sluicegateref11_Volume.l0 kq x3_2 a0_0 a0_1 a0_2 l0_3 = some r) ∧ Aside0 (kq ≤ kj1) ∧ Aside0 (w'.heap[gb301]? = some (.cells #[.int .i64 a0_0, .int .i64 a0_1, .int .i64 a0_2, (.slice A0_3 l0_3.length c0_3)] 24 (0, 0))) ∧ Aside0 (Below w.heap.size w w'))
        case atStart => exact ⟨(0), (by first | rfl | (simp; done) | (simp [*]; done)), H', ⟨Nat.le_refl _⟩, ⟨by (with_reducible repeat (first | refine blk_drewN ?_ _ | refine blk_drew ?_ | refine blk_alloc ?_ _)); exact BK301.out⟩, ⟨by repeat (first | (with_reducible first | exact HB.out | apply below_alloc | apply pw_below_drewN | apply below_drew1 | refine below_set ?_ GE301.out) | exact HB.out)⟩⟩
        case round =>
          clear H'
          try clear c1
          try clear p2
          try clear c5
          try clear c7
          try clear c8
          try clear c8b0
          try clear c10
          try clear c10b0
          try clear c15
          try clear hcz11_0
          try clear hcz11_1
          try clear hcz11_2
          try clear hcz11_3
          try clear hcz12_0
          try clear hcz12_1
          try clear hcz12_2
          try clear hcz12_3
          try clear hcz13_0
          try clear hcz13_1
          try clear hcz13_2
          try clear hcz13_3
          try clear hcz14_0
          try clear hcz14_1
          try clear hcz14_2
          try clear hcz14_3
          try clear hcz9_0
          try clear hcz9_1
          try clear hcz9_2
          try clear hcz9_3
          try clear hfz11_0
          try clear hfz11_1
          try clear hfz11_2
          try clear hfz11_3
          try clear hfz12_0
          try clear hfz12_1
          try clear hfz12_2
          try clear hfz12_3
          try clear hfz13_0
          try clear hfz13_1
          try clear hfz13_2
          try clear hfz13_3
          try clear hfz14_0
          try clear hfz14_1
          try clear hfz14_2
          try clear hfz14_3
          try clear hfz9_0
          try clear hfz9_1
          try clear hfz9_2
          try clear hfz9_3
          try clear p2
          obtain ⟨x3_2, rfl, HA, HK2, BK301, HB⟩ := hrel
          cases gk with
          | zero => exact absurd HA.out (by simp [sluicegateref11_Volume.l0])
          | succ k2 =>
            have H := HA.out
            clear HA
            simp only [sluicegateref11_Volume.l0] at H
            by_cases c16 : x3_2 < 9
            · rw [if_pos c16] at H
              have c16b0 : decide (x3_2 < 9) = true := decide_eq_true c16
              clear c16
              by_cases c17 : 0 ≤ x3_2
              · rw [if_pos c17] at H
                have c17b0 : decide (0 ≤ x3_2) = true := decide_eq_true c17
                clear c17
                by_cases c18 : x3_2 < (l0_3.length : Int)
                · rw [if_pos c18] at H
                  have c18b0 : decide (x3_2 < (l0_3.length : Int)) = true := decide_eq_true c18
                  clear c18
                  replace H := Option.bind_eq_some_iff.mp H
                  obtain ⟨t305, A190, H⟩ := H
                  replace H : (if t305 = true then (sluicegateref11_Volume.l1 k2 x3_2 0 a0_0 a0_1 a0_2 l0_3) else (some false)) = some r := H
                  have A19 := Aside0.mk A190
                  clear A190
                  by_cases c20 : t305 = true
                  · subst c20
                    have H1 : (sluicegateref11_Volume.l1 k2 x3_2 0 a0_0 a0_1 a0_2 l0_3) = some r := by rw [if_pos rfl] at H; exact H
                    clear H
                    have H := H1
                    clear H1
                    have H' := Aside0.mk H
                    clear H
                    have hcz21_0 : wr.cell? ⟨gb301, 0, none⟩ = some (.int .i64 a0_0) := (blk_cell BK301.out 0).trans rfl
                    have hcz21_1 : wr.cell? ⟨gb301, 1, none⟩ = some (.int .i64 a0_1) := (blk_cell BK301.out 1).trans rfl
                    have hcz21_2 : wr.cell? ⟨gb301, 2, none⟩ = some (.int .i64 a0_2) := (blk_cell BK301.out 2).trans rfl
                    have hcz21_3 : wr.cell? ⟨gb301, 3, none⟩ = some (.slice A0_3 l0_3.length c0_3) := (blk_cell BK301.out 3).trans rfl
                    have hfz21_0 := blk_frozen BK301.out 0
                    have hfz21_1 := blk_frozen BK301.out 1
                    have hfz21_2 := blk_frozen BK301.out 2
                    have hfz21_3 := blk_frozen BK301.out 3
                    have p304 : 0 ≤ (x3_2 : Int) := of_decide_eq_true (by first | (with_reducible assumption) | assumption)
                    have q304 : x3_2 < (l0_3.length : Int) := of_decide_eq_true (by first | (with_reducible assumption) | assumption)
                    obtain ⟨ad304, e304, hx304_0, hx304_1⟩ := at_T67 HR0_3.out x3_2 p304 q304
                    cases e304
                    replace hx304_0 := (HB.out.cell (World.block_lt_of_cell? w _ hx304_0)).trans hx304_0
                    replace hx304_1 := (HB.out.cell (World.block_lt_of_cell? w _ hx304_1)).trans hx304_1
                    replace p304 := eq_true p304
                    replace q304 := eq_true q304
                    go_wp2_with (first | (go_at_call 37; (with_reducible refine (sluicegateref10_Is.calls ((rd_T67 l0_3 x3_2).f0) ((rd_T67 l0_3 x3_2).f1) true _ A19.out).mono ?_); rintro e w22 ⟨rfl, hb⟩; have n0_ := Aside0.mk (blk_below (g := gb301) (o := .cells #[.int .i64 a0_0, .int .i64 a0_1, .int .i64 a0_2, .slice (some ad304) l0_3.length c0_3] 24 (0, 0)) (by (with_reducible repeat (first | refine blk_drewN ?_ _ | refine blk_drew ?_ | refine blk_alloc ?_ _)); exact BK301.out) hb); have n1_ := Aside0.mk (below_step (by repeat (first | (with_reducible first | exact HB.out | apply below_alloc | apply pw_below_drewN | apply below_drew1 | refine below_set ?_ GE301.out) | exact HB.out)) hb); clear BK301; clear HB; have BK301 := n0_; have HB := n1_; clear n0_ n1_; (try clear hb); (try clear hb2); (try clear hk); (try clear hi)))
                    repeat (go_quiet (first | (go_at_call 37; (with_reducible refine (sluicegateref10_Is.calls ((rd_T67 l0_3 x3_2).f0) ((rd_T67 l0_3 x3_2).f1) true _ A19.out).mono ?_); rintro e w22 ⟨rfl, hb⟩; have n0_ := Aside0.mk (blk_below (g := gb301) (o := .cells #[.int .i64 a0_0, .int .i64 a0_1, .int .i64 a0_2, .slice (some ad304) l0_3.length c0_3] 24 (0, 0)) (by (with_reducible repeat (first | refine blk_drewN ?_ _ | refine blk_drew ?_ | refine blk_alloc ?_ _)); exact BK301.out) hb); have n1_ := Aside0.mk (below_step (by repeat (first | (with_reducible first | exact HB.out | apply below_alloc | apply pw_below_drewN | apply below_drew1 | refine below_set ?_ GE301.out) | exact HB.out)) hb); clear BK301; clear HB; have BK301 := n0_; have HB := n1_; clear n0_ n1_; (try clear hb); (try clear hb2); (try clear hk); (try clear hi))); try go_wp2_with (first | (go_at_call 37; (with_reducible refine (sluicegateref10_Is.calls ((rd_T67 l0_3 x3_2).f0) ((rd_T67 l0_3 x3_2).f1) true _ A19.out).mono ?_); rintro e w22 ⟨rfl, hb⟩; have n0_ := Aside0.mk (blk_below (g := gb301) (o := .cells #[.int .i64 a0_0, .int .i64 a0_1, .int .i64 a0_2, .slice (some ad304) l0_3.length c0_3] 24 (0, 0)) (by (with_reducible repeat (first | refine blk_drewN ?_ _ | refine blk_drew ?_ | refine blk_alloc ?_ _)); exact BK301.out) hb); have n1_ := Aside0.mk (below_step (by repeat (first | (with_reducible first | exact HB.out | apply below_alloc | apply pw_below_drewN | apply below_drew1 | refine below_set ?_ GE301.out) | exact HB.out)) hb); clear BK301; clear HB; have BK301 := n0_; have HB := n1_; clear n0_ n1_; (try clear hb); (try clear hb2); (try clear hk); (try clear hi))))
                    go_loopg [4] k2 (fun kq v4 w' => ∃ (x4_3 : Int), v4 = .int .i64 x4_3 ∧ Aside0 (sluicegateref11_Volume.l1 kq x3_2 x4_3 a0_0 a0_1 a0_2 l0_3 = some r) ∧ Aside0 (kq ≤ k2) ∧ Aside0 (w'.heap[gb301]? = some (.cells #[.int .i64 a0_0, .int .i64 a0_1, .int .i64 a0_2, (.slice (some ad304) l0_3.length c0_3)] 24 (0, 0))) ∧ Aside0 (Below w.heap.size w w'))
                    case atStart => exact ⟨(0), (by first | rfl | (simp; done) | (simp [*]; done)), H', ⟨Nat.le_refl _⟩, ⟨by (with_reducible repeat (first | refine blk_drewN ?_ _ | refine blk_drew ?_ | refine blk_alloc ?_ _)); exact BK301.out⟩, ⟨by repeat (first | (with_reducible first | exact HB.out | apply below_alloc | apply pw_below_drewN | apply below_drew1 | refine below_set ?_ GE301.out) | exact HB.out)⟩⟩
                    case round =>
                      clear H'
                      try clear c1
                      try clear c2
                      try clear p2
                      try clear p3
                      try clear q3
                      try clear hx3
                      try clear c5
                      try clear c7
                      try clear c8
                      try clear c8b0
                      try clear c10
                      try clear c10b0
                      try clear c15
                      try clear c16
                      try clear c16b0
                      try clear c17
                      try clear c17b0
                      try clear c18
                      try clear c18b0
                      try clear c20
                      try clear hcz11_0
                      try clear hcz11_1
                      try clear hcz11_2
                      try clear hcz11_3
                      try clear hcz12_0
                      try clear hcz12_1
                      try clear hcz12_2
                      try clear hcz12_3
                      try clear hcz13_0
                      try clear hcz13_1
                      try clear hcz13_2
                      try clear hcz13_3
                      try clear hcz14_0
                      try clear hcz14_1
                      try clear hcz14_2
                      try clear hcz14_3
                      try clear hcz21_0
                      try clear hcz21_1
                      try clear hcz21_2
                      try clear hcz21_3
                      try clear hcz9_0
                      try clear hcz9_1
                      try clear hcz9_2
                      try clear hcz9_3
                      try clear hfz11_0
                      try clear hfz11_1
                      try clear hfz11_2
                      try clear hfz11_3
                      try clear hfz12_0
                      try clear hfz12_1
                      try clear hfz12_2
                      try clear hfz12_3
                      try clear hfz13_0
                      try clear hfz13_1
                      try clear hfz13_2
                      try clear hfz13_3
                      try clear hfz14_0
                      try clear hfz14_1
                      try clear hfz14_2
                      try clear hfz14_3
                      try clear hfz21_0
                      try clear hfz21_1
                      try clear hfz21_2
                      try clear hfz21_3
                      try clear hfz9_0
                      try clear hfz9_1
                      try clear hfz9_2
                      try clear hfz9_3
                      try clear hx304_0
                      try clear hx304_1
                      try clear p2
                      try clear p304
                      try clear q304
                      obtain ⟨x4_3, rfl, HA, HK3, BK301, HB⟩ := hrel
                      cases gk with
                      | zero => exact absurd HA.out (by simp [sluicegateref11_Volume.l1])
                      | succ k3 =>
                        have H := HA.out
                        clear HA
                        simp only [sluicegateref11_Volume.l1] at H
                        by_cases c23 : x4_3 < x3_2
                        · rw [if_pos c23] at H
                          have c23b0 : decide (x4_3 < x3_2) = true := decide_eq_true c23
                          clear c23
                          by_cases c24 : 0 ≤ x4_3
                          · rw [if_pos c24] at H
                            have c24b0 : decide (0 ≤ x4_3) = true := decide_eq_true c24
                            clear c24
                            by_cases c25 : x4_3 < (l0_3.length : Int)
                            · rw [if_pos c25] at H
                              have c25b0 : decide (x4_3 < (l0_3.length : Int)) = true := decide_eq_true c25
                              clear c25
                              by_cases c26 : 0 ≤ x3_2
                              · rw [if_pos c26] at H
                                have c26b0 : decide (0 ≤ x3_2) = true := decide_eq_true c26
                                clear c26
                                by_cases c27 : x3_2 < (l0_3.length : Int)
                                · rw [if_pos c27] at H
                                  have c27b0 : decide (x3_2 < (l0_3.length : Int)) = true := decide_eq_true c27
                                  clear c27
                                  by_cases c28 : ((rd_T67 l0_3 x4_3).f0) = ((rd_T67 l0_3 x3_2).f0)
                                  · rw [if_pos c28] at H
                                    have c28b0 : (((rd_T67 l0_3 x4_3).f0) == ((rd_T67 l0_3 x3_2).f0)) = true := beq_iff_eq.mpr c28
                                    have c28b1 : (((rd_T67 l0_3 x4_3).f0) != ((rd_T67 l0_3 x3_2).f0)) = false := bne_eq_false_iff_eq.mpr c28
                                    clear c28
                                    obtain rfl := Option.some.inj H
                                    have hcz29_0 : wr.cell? ⟨gb301, 0, none⟩ = some (.int .i64 a0_0) := (blk_cell BK301.out 0).trans rfl
                                    have hcz29_1 : wr.cell? ⟨gb301, 1, none⟩ = some (.int .i64 a0_1) := (blk_cell BK301.out 1).trans rfl
                                    have hcz29_2 : wr.cell? ⟨gb301, 2, none⟩ = some (.int .i64 a0_2) := (blk_cell BK301.out 2).trans rfl
                                    have hcz29_3 : wr.cell? ⟨gb301, 3, none⟩ = some (.slice (some ad304) l0_3.length c0_3) := (blk_cell BK301.out 3).trans rfl
                                    have hfz29_0 := blk_frozen BK301.out 0
                                    have hfz29_1 := blk_frozen BK301.out 1
                                    have hfz29_2 := blk_frozen BK301.out 2
                                    have hfz29_3 := blk_frozen BK301.out 3
                                    have p306 : 0 ≤ (x4_3 : Int) := of_decide_eq_true (by first | (with_reducible assumption) | assumption)
                                    have q306 : x4_3 < (l0_3.length : Int) := of_decide_eq_true (by first | (with_reducible assumption) | assumption)
                                    obtain ⟨ad306, e306, hx306_0, hx306_1⟩ := at_T67 HR0_3.out x4_3 p306 q306
                                    obtain rfl : ad304 = ad306 := (by injection e306)
                                    replace hx306_0 := (HB.out.cell (World.block_lt_of_cell? w _ hx306_0)).trans hx306_0
                                    replace hx306_1 := (HB.out.cell (World.block_lt_of_cell? w _ hx306_1)).trans hx306_1
                                    replace p306 := eq_true p306
                                    replace q306 := eq_true q306
                                    have p307 : 0 ≤ (x3_2 : Int) := of_decide_eq_true (by first | (with_reducible assumption) | assumption)
                                    have q307 : x3_2 < (l0_3.length : Int) := of_decide_eq_true (by first | (with_reducible assumption) | assumption)
                                    obtain ⟨ad307, e307, hx307_0, hx307_1⟩ := at_T67 HR0_3.out x3_2 p307 q307
                                    obtain rfl : ad304 = ad307 := (by injection e307)
                                    replace hx307_0 := (HB.out.cell (World.block_lt_of_cell? w _ hx307_0)).trans hx307_0
                                    replace hx307_1 := (HB.out.cell (World.block_lt_of_cell? w _ hx307_1)).trans hx307_1
                                    replace p307 := eq_true p307
                                    replace q307 := eq_true q307
                                    go_wp2
                                    repeat (go_quiet (fail); try go_wp2)
                                    go_ret
                                    exact ⟨by first | rfl | (simp [errW_none, errW_some] <;> rfl) | (simp [*, errW_none, errW_some] <;> rfl), by repeat (first | (with_reducible first | exact HB.out | apply below_alloc | apply pw_below_drewN | apply below_drew1 | refine below_set ?_ GE301.out) | exact HB.out)⟩
                                  · rw [if_neg c28] at H
                                    have c28b0 : (((rd_T67 l0_3 x4_3).f0) == ((rd_T67 l0_3 x3_2).f0)) = false := beq_eq_false_iff_ne.mpr c28
                                    have c28b1 : (((rd_T67 l0_3 x4_3).f0) != ((rd_T67 l0_3 x3_2).f0)) = true := bne_iff_ne.mpr c28
                                    have H' := Aside0.mk H
                                    clear H
                                    have hcz30_0 : wr.cell? ⟨gb301, 0, none⟩ = some (.int .i64 a0_0) := (blk_cell BK301.out 0).trans rfl
                                    have hcz30_1 : wr.cell? ⟨gb301, 1, none⟩ = some (.int .i64 a0_1) := (blk_cell BK301.out 1).trans rfl
                                    have hcz30_2 : wr.cell? ⟨gb301, 2, none⟩ = some (.int .i64 a0_2) := (blk_cell BK301.out 2).trans rfl
                                    have hcz30_3 : wr.cell? ⟨gb301, 3, none⟩ = some (.slice (some ad304) l0_3.length c0_3) := (blk_cell BK301.out 3).trans rfl
                                    have hfz30_0 := blk_frozen BK301.out 0
                                    have hfz30_1 := blk_frozen BK301.out 1
                                    have hfz30_2 := blk_frozen BK301.out 2
                                    have hfz30_3 := blk_frozen BK301.out 3
                                    have p306 : 0 ≤ (x4_3 : Int) := of_decide_eq_true (by first | (with_reducible assumption) | assumption)
                                    have q306 : x4_3 < (l0_3.length : Int) := of_decide_eq_true (by first | (with_reducible assumption) | assumption)
                                    obtain ⟨ad306, e306, hx306_0, hx306_1⟩ := at_T67 HR0_3.out x4_3 p306 q306
                                    obtain rfl : ad304 = ad306 := (by injection e306)
                                    replace hx306_0 := (HB.out.cell (World.block_lt_of_cell? w _ hx306_0)).trans hx306_0
                                    replace hx306_1 := (HB.out.cell (World.block_lt_of_cell? w _ hx306_1)).trans hx306_1
                                    replace p306 := eq_true p306
                                    replace q306 := eq_true q306
                                    have p307 : 0 ≤ (x3_2 : Int) := of_decide_eq_true (by first | (with_reducible assumption) | assumption)
                                    have q307 : x3_2 < (l0_3.length : Int) := of_decide_eq_true (by first | (with_reducible assumption) | assumption)
                                    obtain ⟨ad307, e307, hx307_0, hx307_1⟩ := at_T67 HR0_3.out x3_2 p307 q307
                                    obtain rfl : ad304 = ad307 := (by injection e307)
                                    replace hx307_0 := (HB.out.cell (World.block_lt_of_cell? w _ hx307_0)).trans hx307_0
                                    replace hx307_1 := (HB.out.cell (World.block_lt_of_cell? w _ hx307_1)).trans hx307_1
                                    replace p307 := eq_true p307
                                    replace q307 := eq_true q307
                                    go_wp2
                                    repeat (go_quiet (fail); try go_wp2)
                                    go_roundg k3
                                    case measure => have := HJ1.out; have := HK2.out; have := HK3.out; omega
                                    case rel => exact ⟨(wrap64 (x4_3 + 1)), (by first | rfl | (simp; done) | (simp [*]; done)), H', ⟨by have := HJ1.out; have := HK2.out; have := HK3.out; omega⟩, ⟨by (with_reducible repeat (first | refine blk_drewN ?_ _ | refine blk_drew ?_ | refine blk_alloc ?_ _)); exact BK301.out⟩, ⟨by repeat (first | (with_reducible first | exact HB.out | apply below_alloc | apply pw_below_drewN | apply below_drew1 | refine below_set ?_ GE301.out) | exact HB.out)⟩⟩
                                · rw [if_neg c27] at H
                                  exact absurd H (by simp)
                              · rw [if_neg c26] at H
                                exact absurd H (by simp)
                            · rw [if_neg c25] at H
                              exact absurd H (by simp)
                          · rw [if_neg c24] at H
                            exact absurd H (by simp)
                        · rw [if_neg c23] at H
                          have c23b0 : decide (x4_3 < x3_2) = false := decide_eq_false c23
                          clear c23
                          have H' := Aside0.mk H
                          clear H
                          go_wp2
                          repeat (go_quiet (fail); try go_wp2)
                          go_roundg k3
                          case measure => have := HJ1.out; have := HK2.out; have := HK3.out; omega
                          case rel => exact ⟨(wrap64 (x3_2 + 1)), (by first | rfl | (simp; done) | (simp [*]; done)), H', ⟨by have := HJ1.out; have := HK2.out; have := HK3.out; omega⟩, ⟨by (with_reducible repeat (first | refine blk_drewN ?_ _ | refine blk_drew ?_ | refine blk_alloc ?_ _)); exact BK301.out⟩, ⟨by repeat (first | (with_reducible first | exact HB.out | apply below_alloc | apply pw_below_drewN | apply below_drew1 | refine below_set ?_ GE301.out) | exact HB.out)⟩⟩
                  · replace c20 := Bool.eq_false_iff.mpr c20
                    subst c20
                    have H1 : (some false) = some r := by rw [if_neg (show ¬ (false = true) by decide)] at H; exact H
                    clear H
                    have H := H1
                    clear H1
                    obtain rfl := Option.some.inj H
                    have hcz31_0 : wr.cell? ⟨gb301, 0, none⟩ = some (.int .i64 a0_0) := (blk_cell BK301.out 0).trans rfl
                    have hcz31_1 : wr.cell? ⟨gb301, 1, none⟩ = some (.int .i64 a0_1) := (blk_cell BK301.out 1).trans rfl
                    have hcz31_2 : wr.cell? ⟨gb301, 2, none⟩ = some (.int .i64 a0_2) := (blk_cell BK301.out 2).trans rfl
                    have hcz31_3 : wr.cell? ⟨gb301, 3, none⟩ = some (.slice A0_3 l0_3.length c0_3) := (blk_cell BK301.out 3).trans rfl
                    have hfz31_0 := blk_frozen BK301.out 0
                    have hfz31_1 := blk_frozen BK301.out 1
                    have hfz31_2 := blk_frozen BK301.out 2
                    have hfz31_3 := blk_frozen BK301.out 3
                    have p304 : 0 ≤ (x3_2 : Int) := of_decide_eq_true (by first | (with_reducible assumption) | assumption)
                    have q304 : x3_2 < (l0_3.length : Int) := of_decide_eq_true (by first | (with_reducible assumption) | assumption)
                    obtain ⟨ad304, e304, hx304_0, hx304_1⟩ := at_T67 HR0_3.out x3_2 p304 q304
                    cases e304
                    replace hx304_0 := (HB.out.cell (World.block_lt_of_cell? w _ hx304_0)).trans hx304_0
                    replace hx304_1 := (HB.out.cell (World.block_lt_of_cell? w _ hx304_1)).trans hx304_1
                    replace p304 := eq_true p304
                    replace q304 := eq_true q304
                    go_wp2_with (first | (go_at_call 37; (with_reducible refine (sluicegateref10_Is.calls ((rd_T67 l0_3 x3_2).f0) ((rd_T67 l0_3 x3_2).f1) false _ A19.out).mono ?_); rintro e w32 ⟨rfl, hb⟩; have n0_ := Aside0.mk (blk_below (g := gb301) (o := .cells #[.int .i64 a0_0, .int .i64 a0_1, .int .i64 a0_2, .slice (some ad304) l0_3.length c0_3] 24 (0, 0)) (by (with_reducible repeat (first | refine blk_drewN ?_ _ | refine blk_drew ?_ | refine blk_alloc ?_ _)); exact BK301.out) hb); have n1_ := Aside0.mk (below_step (by repeat (first | (with_reducible first | exact HB.out | apply below_alloc | apply pw_below_drewN | apply below_drew1 | refine below_set ?_ GE301.out) | exact HB.out)) hb); clear BK301; clear HB; have BK301 := n0_; have HB := n1_; clear n0_ n1_; (try clear hb); (try clear hb2); (try clear hk); (try clear hi)))
                    repeat (go_quiet (first | (go_at_call 37; (with_reducible refine (sluicegateref10_Is.calls ((rd_T67 l0_3 x3_2).f0) ((rd_T67 l0_3 x3_2).f1) false _ A19.out).mono ?_); rintro e w32 ⟨rfl, hb⟩; have n0_ := Aside0.mk (blk_below (g := gb301) (o := .cells #[.int .i64 a0_0, .int .i64 a0_1, .int .i64 a0_2, .slice (some ad304) l0_3.length c0_3] 24 (0, 0)) (by (with_reducible repeat (first | refine blk_drewN ?_ _ | refine blk_drew ?_ | refine blk_alloc ?_ _)); exact BK301.out) hb); have n1_ := Aside0.mk (below_step (by repeat (first | (with_reducible first | exact HB.out | apply below_alloc | apply pw_below_drewN | apply below_drew1 | refine below_set ?_ GE301.out) | exact HB.out)) hb); clear BK301; clear HB; have BK301 := n0_; have HB := n1_; clear n0_ n1_; (try clear hb); (try clear hb2); (try clear hk); (try clear hi))); try go_wp2_with (first | (go_at_call 37; (with_reducible refine (sluicegateref10_Is.calls ((rd_T67 l0_3 x3_2).f0) ((rd_T67 l0_3 x3_2).f1) false _ A19.out).mono ?_); rintro e w32 ⟨rfl, hb⟩; have n0_ := Aside0.mk (blk_below (g := gb301) (o := .cells #[.int .i64 a0_0, .int .i64 a0_1, .int .i64 a0_2, .slice (some ad304) l0_3.length c0_3] 24 (0, 0)) (by (with_reducible repeat (first | refine blk_drewN ?_ _ | refine blk_drew ?_ | refine blk_alloc ?_ _)); exact BK301.out) hb); have n1_ := Aside0.mk (below_step (by repeat (first | (with_reducible first | exact HB.out | apply below_alloc | apply pw_below_drewN | apply below_drew1 | refine below_set ?_ GE301.out) | exact HB.out)) hb); clear BK301; clear HB; have BK301 := n0_; have HB := n1_; clear n0_ n1_; (try clear hb); (try clear hb2); (try clear hk); (try clear hi))))
                    go_ret
                    exact ⟨by first | rfl | (simp [errW_none, errW_some] <;> rfl) | (simp [*, errW_none, errW_some] <;> rfl), by repeat (first | (with_reducible first | exact HB.out | apply below_alloc | apply pw_below_drewN | apply below_drew1 | refine below_set ?_ GE301.out) | exact HB.out)⟩
                · rw [if_neg c18] at H
                  exact absurd H (by simp)
              · rw [if_neg c17] at H
                exact absurd H (by simp)
            · rw [if_neg c16] at H
              have c16b0 : decide (x3_2 < 9) = false := decide_eq_false c16
              clear c16
              obtain rfl := Option.some.inj H
              go_wp2
              repeat (go_quiet (fail); try go_wp2)
              go_ret
              exact ⟨by first | rfl | (simp [errW_none, errW_some] <;> rfl) | (simp [*, errW_none, errW_some] <;> rfl), by repeat (first | (with_reducible first | exact HB.out | apply below_alloc | apply pw_below_drewN | apply below_drew1 | refine below_set ?_ GE301.out) | exact HB.out)⟩
/-! ### sluicegateref10_Same: function 65 -/
def sluicegateref10_Same.l0 : Nat → List (S67) → List (S67) → Int → Option (Bool)
  | 0, _, _, _ => none
  | k + 1, x0, x1, x5 => if x5 < (x0.length : Int) then (if 0 ≤ x5 then (if x5 < (x1.length : Int) then (if (!(((rd_T67 x0 x5).f0) == ((rd_T67 x1 x5).f0)) || (!(((rd_T67 x0 x5).f1) == ((rd_T67 x1 x5).f1)))) = true then (some false) else (sluicegateref10_Same.l0 k x0 x1 (wrap64 (x5 + 1)))) else (none)) else (none)) else (some true)
def sluicegateref10_Same.f (k : Nat) (l0 : List (S67)) (l1 : List (S67)) : Option (Bool) := if (l0.length : Int) = (l1.length : Int) then (sluicegateref10_Same.l0 k l0 l1 0) else (some false)
theorem sluicegateref10_Same.mono_l : ∀ k, (∀ y0 y1 y2, LeO (sluicegateref10_Same.l0 k y0 y1 y2) (sluicegateref10_Same.l0 (k + 1) y0 y1 y2))
  | 0 => fun _ _ _ r h => by simp [sluicegateref10_Same.l0] at h
  | k + 1 => by
    have ih0 := sluicegateref10_Same.mono_l k
    · intro y0 y1 y2
      unfold sluicegateref10_Same.l0
      repeat' first
      | (with_reducible exact ih0 _ _ _)
      | (with_reducible exact LeO.refl _)
      | (with_reducible exact LeO.none _)
      | (with_reducible refine LeO.ite ?_ ?_)
      | (with_reducible refine LeO.bind ?_ (fun _ => ?_))
      | exact ih0 _ _ _
      | exact LeO.none _
      | refine LeO.ite ?_ ?_
      | refine LeO.bind ?_ (fun _ => ?_)
theorem sluicegateref10_Same.mono : ∀ a0 a1 k, LeO (sluicegateref10_Same.f k a0 a1) (sluicegateref10_Same.f (k + 1) a0 a1) := by
  intro a0 a1 k
  have ih0 := sluicegateref10_Same.mono_l k
  unfold sluicegateref10_Same.f
  repeat' first
      | (with_reducible exact ih0 _ _ _)
      | (with_reducible exact LeO.refl _)
      | (with_reducible exact LeO.none _)
      | (with_reducible refine LeO.ite ?_ ?_)
      | (with_reducible refine LeO.bind ?_ (fun _ => ?_))
      | exact ih0 _ _ _
      | exact LeO.none _
      | refine LeO.ite ?_ ?_
      | refine LeO.bind ?_ (fun _ => ?_)
set_option maxHeartbeats 8000000 in
set_option maxRecDepth 100000 in
theorem sluicegateref10_Same.calls (k : Nat) (A0 : Option Addr) (c0 : Nat) (l0 : List (S67)) (A1 : Option Addr) (c1 : Nat) (l1 : List (S67)) (r : Bool) (w : World) (hr0 : Kd.C k67 w A0 l0.length l0) (hc0 : l0.length ≤ c0) (hr1 : Kd.C k67 w A1 l1.length l1) (hc1 : l1.length ≤ c1) (h : sluicegateref10_Same.f k l0 l1 = some r) :
    Calls Try.prog 65 #[.slice A0 l0.length c0, .slice A1 l1.length c1] w fun e w' => e = .returned (.bool r) ∧ Drawn0 w w' := by
  have hu67 := Try.underlying67
  have HR0 := Aside0.mk hr0
  have HC0 := Aside0.mk hc0
  clear hr0 hc0
  have HR1 := Aside0.mk hr1
  have HC1 := Aside0.mk hc1
  clear hr1 hc1
  have H : (if (l0.length : Int) = (l1.length : Int) then (sluicegateref10_Same.l0 k l0 l1 0) else (some false)) = some r := h
  clear h
  by_cases c3 : (l0.length : Int) = (l1.length : Int)
  · rw [if_pos c3] at H
    have c3b0 : ((l0.length : Int) == (l1.length : Int)) = true := beq_iff_eq.mpr c3
    have c3b1 : ((l0.length : Int) != (l1.length : Int)) = false := bne_eq_false_iff_eq.mpr c3
    have c3b2 : (l0.length == l1.length) = true := by first | simpa using c3 | (simp at c3 ⊢; omega)
    clear c3
    have H' := Aside0.mk H
    clear H
    go_enter Try.func65, Try.ntmps65
    go_wp2
    repeat (go_quiet (fail); try go_wp2)
    go_loopg [5] k (fun kq v5 w' => ∃ (x5_1 : Int), v5 = .int .i64 x5_1 ∧ Aside0 (sluicegateref10_Same.l0 kq l0 l1 x5_1 = some r) ∧ Aside0 (kq ≤ k) ∧ Drawn0 w w')
    case atStart => exact ⟨(0), (by first | rfl | (simp; done) | (simp [*]; done)), H', ⟨Nat.le_refl _⟩, by repeat (first | exact Drawn0.refl _ | apply Drawn0.step)⟩
    case round =>
      clear H'
      try clear c1
      try clear p2
      try clear c3
      try clear c3b0
      try clear c3b1
      try clear c3b2
      obtain ⟨x5_1, rfl, HA, HK1, ⟨m1, rfl⟩⟩ := hrel
      cases gk with
      | zero => exact absurd HA.out (by simp [sluicegateref10_Same.l0])
      | succ k1 =>
        have H := HA.out
        clear HA
        simp only [sluicegateref10_Same.l0] at H
        by_cases c4 : x5_1 < (l0.length : Int)
        · rw [if_pos c4] at H
          have c4b0 : decide (x5_1 < (l0.length : Int)) = true := decide_eq_true c4
          clear c4
          by_cases c5 : 0 ≤ x5_1
          · rw [if_pos c5] at H
            have c5b0 : decide (0 ≤ x5_1) = true := decide_eq_true c5
            clear c5
            by_cases c6 : x5_1 < (l1.length : Int)
            · rw [if_pos c6] at H
              have c6b0 : decide (x5_1 < (l1.length : Int)) = true := decide_eq_true c6
              clear c6
              by_cases c7 : (!(((rd_T67 l0 x5_1).f0) == ((rd_T67 l1 x5_1).f0)) || (!(((rd_T67 l0 x5_1).f1) == ((rd_T67 l1 x5_1).f1)))) = true
              · rw [if_pos c7] at H
                have c7b0 : (!(((rd_T67 l0 x5_1).f0) == ((rd_T67 l1 x5_1).f0)) || (!(((rd_T67 l0 x5_1).f1) == ((rd_T67 l1 x5_1).f1)))) = true := c7
                clear c7
                obtain rfl := Option.some.inj H
                have p308 : 0 ≤ (x5_1 : Int) := of_decide_eq_true (by first | (with_reducible assumption) | assumption)
                have q308 : x5_1 < (l0.length : Int) := of_decide_eq_true (by first | (with_reducible assumption) | assumption)
                obtain ⟨ad308, e308, hx308_0, hx308_1⟩ := at_T67 HR0.out x5_1 p308 q308
                cases e308
                replace p308 := eq_true p308
                replace q308 := eq_true q308
                have p309 : 0 ≤ (x5_1 : Int) := of_decide_eq_true (by first | (with_reducible assumption) | assumption)
                have q309 : x5_1 < (l1.length : Int) := of_decide_eq_true (by first | (with_reducible assumption) | assumption)
                obtain ⟨ad309, e309, hx309_0, hx309_1⟩ := at_T67 HR1.out x5_1 p309 q309
                cases e309
                replace p309 := eq_true p309
                replace q309 := eq_true q309
                go_wp2
                repeat (go_quiet (fail); try go_wp2)
                go_ret
                exact ⟨by first | rfl | (simp; done) | (simp [*]; done), by repeat (first | exact Drawn0.refl _ | apply Drawn0.step)⟩
              · rw [if_neg c7] at H
                have c7b0 : (!(((rd_T67 l0 x5_1).f0) == ((rd_T67 l1 x5_1).f0)) || (!(((rd_T67 l0 x5_1).f1) == ((rd_T67 l1 x5_1).f1)))) = false := by simpa using c7
                clear c7
                have H' := Aside0.mk H
                clear H
                have p308 : 0 ≤ (x5_1 : Int) := of_decide_eq_true (by first | (with_reducible assumption) | assumption)
                have q308 : x5_1 < (l0.length : Int) := of_decide_eq_true (by first | (with_reducible assumption) | assumption)
                obtain ⟨ad308, e308, hx308_0, hx308_1⟩ := at_T67 HR0.out x5_1 p308 q308
                cases e308
                replace p308 := eq_true p308
                replace q308 := eq_true q308
                have p309 : 0 ≤ (x5_1 : Int) := of_decide_eq_true (by first | (with_reducible assumption) | assumption)
                have q309 : x5_1 < (l1.length : Int) := of_decide_eq_true (by first | (with_reducible assumption) | assumption)
                obtain ⟨ad309, e309, hx309_0, hx309_1⟩ := at_T67 HR1.out x5_1 p309 q309
                cases e309
                replace p309 := eq_true p309
                replace q309 := eq_true q309
                go_wp2
                repeat (go_quiet (fail); try go_wp2)
                go_roundg k1
                case measure => have := HK1.out; omega
                case rel => exact ⟨(wrap64 (x5_1 + 1)), (by first | rfl | (simp; done) | (simp [*]; done)), H', ⟨by have := HK1.out; omega⟩, by repeat (first | exact Drawn0.refl _ | apply Drawn0.step)⟩
            · rw [if_neg c6] at H
              exact absurd H (by simp)
          · rw [if_neg c5] at H
            exact absurd H (by simp)
        · rw [if_neg c4] at H
          have c4b0 : decide (x5_1 < (l0.length : Int)) = false := decide_eq_false c4
          clear c4
          obtain rfl := Option.some.inj H
          go_wp2
          repeat (go_quiet (fail); try go_wp2)
          go_ret
          exact ⟨by first | rfl | (simp; done) | (simp [*]; done), by repeat (first | exact Drawn0.refl _ | apply Drawn0.step)⟩
  · rw [if_neg c3] at H
    have c3b0 : ((l0.length : Int) == (l1.length : Int)) = false := beq_eq_false_iff_ne.mpr c3
    have c3b1 : ((l0.length : Int) != (l1.length : Int)) = true := bne_iff_ne.mpr c3
    have c3b2 : (l0.length == l1.length) = false := by first | simpa using c3 | (simp at c3 ⊢; omega)
    obtain rfl := Option.some.inj H
    go_enter Try.func65, Try.ntmps65
    go_wp2
    repeat (go_quiet (fail); try go_wp2)
    go_ret
    exact ⟨by first | rfl | (simp; done) | (simp [*]; done), by repeat (first | exact Drawn0.refl _ | apply Drawn0.step)⟩
/-! ### sluicegateref11_Volumes: function 53 -/
def sluicegateref11_Volumes.f (k : Nat) (a0_0 : Int) (a0_1 : Int) (a0_2 : Int) (l0_3 : List (S67)) (a1_0 : Int) (a1_1 : Int) (a1_2 : Int) (l1_3 : List (S67)) : Option (Bool) := if a0_0 = a1_0 then (if a0_1 = a1_1 then (if a0_2 = a1_2 then ((sluicegateref10_Same.f k l0_3 l1_3).bind fun t312 => (some t312)) else (some false)) else (some false)) else (some false)
theorem sluicegateref11_Volumes.mono : ∀ a0 a1 a2 a3 a4 a5 a6 a7 k, LeO (sluicegateref11_Volumes.f k a0 a1 a2 a3 a4 a5 a6 a7) (sluicegateref11_Volumes.f (k + 1) a0 a1 a2 a3 a4 a5 a6 a7) := by
  intro a0 a1 a2 a3 a4 a5 a6 a7 k
  unfold sluicegateref11_Volumes.f
  repeat' first
      | (with_reducible exact sluicegateref10_Same.mono _ _ _)
      | (with_reducible exact LeO.refl _)
      | (with_reducible exact LeO.none _)
      | (with_reducible refine LeO.ite ?_ ?_)
      | (with_reducible refine LeO.bind ?_ (fun _ => ?_))
      | exact sluicegateref10_Same.mono _ _ _
      | exact LeO.none _
      | refine LeO.ite ?_ ?_
      | refine LeO.bind ?_ (fun _ => ?_)
set_option maxHeartbeats 8000000 in
set_option maxRecDepth 100000 in
theorem sluicegateref11_Volumes.calls (k : Nat) (a0_0 : Int) (a0_1 : Int) (a0_2 : Int) (A0_3 : Option Addr) (c0_3 : Nat) (l0_3 : List (S67)) (a1_0 : Int) (a1_1 : Int) (a1_2 : Int) (A1_3 : Option Addr) (c1_3 : Nat) (l1_3 : List (S67)) (r : Bool) (w : World) (hr0_3 : Kd.C k67 w A0_3 l0_3.length l0_3) (hc0_3 : l0_3.length ≤ c0_3) (hr1_3 : Kd.C k67 w A1_3 l1_3.length l1_3) (hc1_3 : l1_3.length ≤ c1_3) (h : sluicegateref11_Volumes.f k a0_0 a0_1 a0_2 l0_3 a1_0 a1_1 a1_2 l1_3 = some r) :
    Calls Try.prog 53 #[.agg #[.int .i64 a0_0, .int .i64 a0_1, .int .i64 a0_2, .slice A0_3 l0_3.length c0_3], .agg #[.int .i64 a1_0, .int .i64 a1_1, .int .i64 a1_2, .slice A1_3 l1_3.length c1_3]] w fun e w' => e = .returned (.bool r) ∧ Below w.heap.size w w' := by
  have hu24 := Try.underlying24
  have HR0_3 := Aside0.mk hr0_3
  have HC0_3 := Aside0.mk hc0_3
  clear hr0_3 hc0_3
  have HR1_3 := Aside0.mk hr1_3
  have HC1_3 := Aside0.mk hc1_3
  clear hr1_3 hc1_3
  have HB := Aside0.mk (Below.refl w.heap.size w)
  have H : (if a0_0 = a1_0 then (if a0_1 = a1_1 then (if a0_2 = a1_2 then ((sluicegateref10_Same.f k l0_3 l1_3).bind fun t312 => (some t312)) else (some false)) else (some false)) else (some false)) = some r := h
  clear h
  by_cases c3 : a0_0 = a1_0
  · rw [if_pos c3] at H
    have c3b0 : (a0_0 == a1_0) = true := beq_iff_eq.mpr c3
    have c3b1 : (a0_0 != a1_0) = false := bne_eq_false_iff_eq.mpr c3
    clear c3
    by_cases c4 : a0_1 = a1_1
    · rw [if_pos c4] at H
      have c4b0 : (a0_1 == a1_1) = true := beq_iff_eq.mpr c4
      have c4b1 : (a0_1 != a1_1) = false := bne_eq_false_iff_eq.mpr c4
      clear c4
      by_cases c5 : a0_2 = a1_2
      · rw [if_pos c5] at H
        have c5b0 : (a0_2 == a1_2) = true := beq_iff_eq.mpr c5
        have c5b1 : (a0_2 != a1_2) = false := bne_eq_false_iff_eq.mpr c5
        clear c5
        replace H := Option.bind_eq_some_iff.mp H
        obtain ⟨t312, A60, H⟩ := H
        replace H : (some t312) = some r := H
        have A6 := Aside0.mk A60
        clear A60
        obtain rfl := Option.some.inj H
        go_enter Try.func53, Try.ntmps53
        go_wp2_with (first | ((with_reducible refine gate_dst (N := 2) rfl ?_); refine box_event ?hg (N := 2) ?hd (cs := #[.int .i64 a0_0, .int .i64 a0_1, .int .i64 a0_2, .slice A0_3 l0_3.length c0_3]) (t := 24) ?hr ?_; (case hd => rfl); (case hg => rfl); (case hr => first | (go_simp; done) | (go_simp; rfl)); intro gb310 hg w7 hbox hb; have n0_ := Aside0.mk (below_step (by repeat (first | (with_reducible first | exact HB.out | apply below_alloc | apply pw_below_drewN | apply below_drew1) | exact HB.out)) hb); have n1_ := Aside0.mk (hbox); have n2_ := Aside0.mk ((by rw [hg]; exact (below_size (by repeat (first | (with_reducible first | exact HB.out | apply below_alloc | apply pw_below_drewN | apply below_drew1) | exact HB.out))) : w.heap.size ≤ gb310)); have n3_ := Aside0.mk ((by rw [hg]; exact (below_size (by repeat (first | (with_reducible first | exact HB.out | apply below_alloc | apply pw_below_drewN | apply below_drew1) | exact HB.out))) : w.heap.size ≤ gb310)); clear HB; have HB := n0_; have BK310 := n1_; have GW310 := n2_; have GE310 := n3_; clear n0_ n1_ n2_ n3_; clear hb hbox hg) | ((with_reducible refine gate_dst (N := 3) rfl ?_); refine box_event ?hg (N := 3) ?hd (cs := #[.int .i64 a1_0, .int .i64 a1_1, .int .i64 a1_2, .slice A1_3 l1_3.length c1_3]) (t := 24) ?hr ?_; (case hd => rfl); (case hg => rfl); (case hr => first | (go_simp; done) | (go_simp; rfl)); intro gb311 hg w8 hbox hb; have n0_ := Aside0.mk (blk_below (g := gb310) (o := .cells #[.int .i64 a0_0, .int .i64 a0_1, .int .i64 a0_2, .slice A0_3 l0_3.length c0_3] 24 (0, 0)) (by (with_reducible repeat (first | refine blk_drewN ?_ _ | refine blk_drew ?_ | refine blk_alloc ?_ _)); exact BK310.out) hb); have n1_ := Aside0.mk (below_step (by repeat (first | (with_reducible first | exact HB.out | apply below_alloc | apply pw_below_drewN | apply below_drew1 | refine below_set ?_ GE310.out) | exact HB.out)) hb); have n2_ := Aside0.mk (hbox); have n3_ := Aside0.mk ((by rw [hg]; exact (below_size (by repeat (first | (with_reducible first | exact HB.out | apply below_alloc | apply pw_below_drewN | apply below_drew1 | refine below_set ?_ GE310.out) | exact HB.out))) : w.heap.size ≤ gb311)); have n4_ := Aside0.mk ((by rw [hg]; exact (below_size (by repeat (first | (with_reducible first | exact HB.out | apply below_alloc | apply pw_below_drewN | apply below_drew1 | refine below_set ?_ GE310.out) | exact HB.out))) : w.heap.size ≤ gb311)); have n5_ := Aside0.mk ((by rw [hg]; exact Nat.ne_of_lt (blk_lt (g := gb310) (o := .cells #[.int .i64 a0_0, .int .i64 a0_1, .int .i64 a0_2, .slice A0_3 l0_3.length c0_3] 24 (0, 0)) (by (with_reducible repeat (first | refine blk_drewN ?_ _ | refine blk_drew ?_ | refine blk_alloc ?_ _)); exact BK310.out)) : gb310 ≠ gb311)); have n6_ := Aside0.mk ((by rw [hg]; exact Nat.ne_of_gt (blk_lt (g := gb310) (o := .cells #[.int .i64 a0_0, .int .i64 a0_1, .int .i64 a0_2, .slice A0_3 l0_3.length c0_3] 24 (0, 0)) (by (with_reducible repeat (first | refine blk_drewN ?_ _ | refine blk_drew ?_ | refine blk_alloc ?_ _)); exact BK310.out)) : gb311 ≠ gb310)); clear BK310; clear HB; have BK310 := n0_; have HB := n1_; have BK311 := n2_; have GW311 := n3_; have GE311 := n4_; have NB310_311 := n5_; have NB311_310 := n6_; clear n0_ n1_ n2_ n3_ n4_ n5_ n6_; clear hb hbox hg; have hnb9 := NB310_311.out; have hnc9 := NB311_310.out; have hcz10_0 : w8.cell? ⟨gb310, 0, none⟩ = some (.int .i64 a0_0) := (blk_cell BK310.out 0).trans rfl; have hcz10_1 : w8.cell? ⟨gb310, 1, none⟩ = some (.int .i64 a0_1) := (blk_cell BK310.out 1).trans rfl; have hcz10_2 : w8.cell? ⟨gb310, 2, none⟩ = some (.int .i64 a0_2) := (blk_cell BK310.out 2).trans rfl; have hcz10_3 : w8.cell? ⟨gb310, 3, none⟩ = some (.slice A0_3 l0_3.length c0_3) := (blk_cell BK310.out 3).trans rfl; have hfz10_0 := blk_frozen BK310.out 0; have hfz10_1 := blk_frozen BK310.out 1; have hfz10_2 := blk_frozen BK310.out 2; have hfz10_3 := blk_frozen BK310.out 3; have hcz11_0 : w8.cell? ⟨gb311, 0, none⟩ = some (.int .i64 a1_0) := (blk_cell BK311.out 0).trans rfl; have hcz11_1 : w8.cell? ⟨gb311, 1, none⟩ = some (.int .i64 a1_1) := (blk_cell BK311.out 1).trans rfl; have hcz11_2 : w8.cell? ⟨gb311, 2, none⟩ = some (.int .i64 a1_2) := (blk_cell BK311.out 2).trans rfl; have hcz11_3 : w8.cell? ⟨gb311, 3, none⟩ = some (.slice A1_3 l1_3.length c1_3) := (blk_cell BK311.out 3).trans rfl; have hfz11_0 := blk_frozen BK311.out 0; have hfz11_1 := blk_frozen BK311.out 1; have hfz11_2 := blk_frozen BK311.out 2; have hfz11_3 := blk_frozen BK311.out 3) | (go_at_call 65; (with_reducible refine (sluicegateref10_Same.calls k _ _ l0_3 _ _ l1_3 t312 _ ?side1 ?side2 ?side3 ?side4 A6.out).mono ?_); (case side1 => repeat (first | exact (Kd.C_below HR0_3.out HB.out) | (with_reducible refine Kd.C_alloc ?_ _) | (with_reducible refine Kd.C_drewN ?_ _) | (with_reducible refine Kd.C_drew ?_))); (case side2 => exact HC0_3.out); (case side3 => repeat (first | exact (Kd.C_below HR1_3.out HB.out) | (with_reducible refine Kd.C_alloc ?_ _) | (with_reducible refine Kd.C_drewN ?_ _) | (with_reducible refine Kd.C_drew ?_))); (case side4 => exact HC1_3.out); rintro e w' ⟨rfl, ⟨nd, rfl⟩⟩))
        go_ret
        exact ⟨by first | rfl | (simp [errW_none, errW_some] <;> rfl) | (simp [*, errW_none, errW_some] <;> rfl), by repeat (first | (with_reducible first | exact HB.out | apply below_alloc | apply pw_below_drewN | apply below_drew1 | refine below_set ?_ GE310.out | refine below_set ?_ GE311.out) | exact HB.out)⟩
      · rw [if_neg c5] at H
        have c5b0 : (a0_2 == a1_2) = false := beq_eq_false_iff_ne.mpr c5
        have c5b1 : (a0_2 != a1_2) = true := bne_iff_ne.mpr c5
        obtain rfl := Option.some.inj H
        go_enter Try.func53, Try.ntmps53
        go_wp2_with (first | ((with_reducible refine gate_dst (N := 2) rfl ?_); refine box_event ?hg (N := 2) ?hd (cs := #[.int .i64 a0_0, .int .i64 a0_1, .int .i64 a0_2, .slice A0_3 l0_3.length c0_3]) (t := 24) ?hr ?_; (case hd => rfl); (case hg => rfl); (case hr => first | (go_simp; done) | (go_simp; rfl)); intro gb310 hg w12 hbox hb; have n0_ := Aside0.mk (below_step (by repeat (first | (with_reducible first | exact HB.out | apply below_alloc | apply pw_below_drewN | apply below_drew1) | exact HB.out)) hb); have n1_ := Aside0.mk (hbox); have n2_ := Aside0.mk ((by rw [hg]; exact (below_size (by repeat (first | (with_reducible first | exact HB.out | apply below_alloc | apply pw_below_drewN | apply below_drew1) | exact HB.out))) : w.heap.size ≤ gb310)); have n3_ := Aside0.mk ((by rw [hg]; exact (below_size (by repeat (first | (with_reducible first | exact HB.out | apply below_alloc | apply pw_below_drewN | apply below_drew1) | exact HB.out))) : w.heap.size ≤ gb310)); clear HB; have HB := n0_; have BK310 := n1_; have GW310 := n2_; have GE310 := n3_; clear n0_ n1_ n2_ n3_; clear hb hbox hg) | ((with_reducible refine gate_dst (N := 3) rfl ?_); refine box_event ?hg (N := 3) ?hd (cs := #[.int .i64 a1_0, .int .i64 a1_1, .int .i64 a1_2, .slice A1_3 l1_3.length c1_3]) (t := 24) ?hr ?_; (case hd => rfl); (case hg => rfl); (case hr => first | (go_simp; done) | (go_simp; rfl)); intro gb311 hg w13 hbox hb; have n0_ := Aside0.mk (blk_below (g := gb310) (o := .cells #[.int .i64 a0_0, .int .i64 a0_1, .int .i64 a0_2, .slice A0_3 l0_3.length c0_3] 24 (0, 0)) (by (with_reducible repeat (first | refine blk_drewN ?_ _ | refine blk_drew ?_ | refine blk_alloc ?_ _)); exact BK310.out) hb); have n1_ := Aside0.mk (below_step (by repeat (first | (with_reducible first | exact HB.out | apply below_alloc | apply pw_below_drewN | apply below_drew1 | refine below_set ?_ GE310.out) | exact HB.out)) hb); have n2_ := Aside0.mk (hbox); have n3_ := Aside0.mk ((by rw [hg]; exact (below_size (by repeat (first | (with_reducible first | exact HB.out | apply below_alloc | apply pw_below_drewN | apply below_drew1 | refine below_set ?_ GE310.out) | exact HB.out))) : w.heap.size ≤ gb311)); have n4_ := Aside0.mk ((by rw [hg]; exact (below_size (by repeat (first | (with_reducible first | exact HB.out | apply below_alloc | apply pw_below_drewN | apply below_drew1 | refine below_set ?_ GE310.out) | exact HB.out))) : w.heap.size ≤ gb311)); have n5_ := Aside0.mk ((by rw [hg]; exact Nat.ne_of_lt (blk_lt (g := gb310) (o := .cells #[.int .i64 a0_0, .int .i64 a0_1, .int .i64 a0_2, .slice A0_3 l0_3.length c0_3] 24 (0, 0)) (by (with_reducible repeat (first | refine blk_drewN ?_ _ | refine blk_drew ?_ | refine blk_alloc ?_ _)); exact BK310.out)) : gb310 ≠ gb311)); have n6_ := Aside0.mk ((by rw [hg]; exact Nat.ne_of_gt (blk_lt (g := gb310) (o := .cells #[.int .i64 a0_0, .int .i64 a0_1, .int .i64 a0_2, .slice A0_3 l0_3.length c0_3] 24 (0, 0)) (by (with_reducible repeat (first | refine blk_drewN ?_ _ | refine blk_drew ?_ | refine blk_alloc ?_ _)); exact BK310.out)) : gb311 ≠ gb310)); clear BK310; clear HB; have BK310 := n0_; have HB := n1_; have BK311 := n2_; have GW311 := n3_; have GE311 := n4_; have NB310_311 := n5_; have NB311_310 := n6_; clear n0_ n1_ n2_ n3_ n4_ n5_ n6_; clear hb hbox hg; have hnb14 := NB310_311.out; have hnc14 := NB311_310.out; have hcz15_0 : w13.cell? ⟨gb310, 0, none⟩ = some (.int .i64 a0_0) := (blk_cell BK310.out 0).trans rfl; have hcz15_1 : w13.cell? ⟨gb310, 1, none⟩ = some (.int .i64 a0_1) := (blk_cell BK310.out 1).trans rfl; have hcz15_2 : w13.cell? ⟨gb310, 2, none⟩ = some (.int .i64 a0_2) := (blk_cell BK310.out 2).trans rfl; have hcz15_3 : w13.cell? ⟨gb310, 3, none⟩ = some (.slice A0_3 l0_3.length c0_3) := (blk_cell BK310.out 3).trans rfl; have hfz15_0 := blk_frozen BK310.out 0; have hfz15_1 := blk_frozen BK310.out 1; have hfz15_2 := blk_frozen BK310.out 2; have hfz15_3 := blk_frozen BK310.out 3; have hcz16_0 : w13.cell? ⟨gb311, 0, none⟩ = some (.int .i64 a1_0) := (blk_cell BK311.out 0).trans rfl; have hcz16_1 : w13.cell? ⟨gb311, 1, none⟩ = some (.int .i64 a1_1) := (blk_cell BK311.out 1).trans rfl; have hcz16_2 : w13.cell? ⟨gb311, 2, none⟩ = some (.int .i64 a1_2) := (blk_cell BK311.out 2).trans rfl; have hcz16_3 : w13.cell? ⟨gb311, 3, none⟩ = some (.slice A1_3 l1_3.length c1_3) := (blk_cell BK311.out 3).trans rfl; have hfz16_0 := blk_frozen BK311.out 0; have hfz16_1 := blk_frozen BK311.out 1; have hfz16_2 := blk_frozen BK311.out 2; have hfz16_3 := blk_frozen BK311.out 3))
        go_ret
        exact ⟨by first | rfl | (simp [errW_none, errW_some] <;> rfl) | (simp [*, errW_none, errW_some] <;> rfl), by repeat (first | (with_reducible first | exact HB.out | apply below_alloc | apply pw_below_drewN | apply below_drew1 | refine below_set ?_ GE310.out | refine below_set ?_ GE311.out) | exact HB.out)⟩
    · rw [if_neg c4] at H
      have c4b0 : (a0_1 == a1_1) = false := beq_eq_false_iff_ne.mpr c4
      have c4b1 : (a0_1 != a1_1) = true := bne_iff_ne.mpr c4
      obtain rfl := Option.some.inj H
      go_enter Try.func53, Try.ntmps53
      go_wp2_with (first | ((with_reducible refine gate_dst (N := 2) rfl ?_); refine box_event ?hg (N := 2) ?hd (cs := #[.int .i64 a0_0, .int .i64 a0_1, .int .i64 a0_2, .slice A0_3 l0_3.length c0_3]) (t := 24) ?hr ?_; (case hd => rfl); (case hg => rfl); (case hr => first | (go_simp; done) | (go_simp; rfl)); intro gb310 hg w17 hbox hb; have n0_ := Aside0.mk (below_step (by repeat (first | (with_reducible first | exact HB.out | apply below_alloc | apply pw_below_drewN | apply below_drew1) | exact HB.out)) hb); have n1_ := Aside0.mk (hbox); have n2_ := Aside0.mk ((by rw [hg]; exact (below_size (by repeat (first | (with_reducible first | exact HB.out | apply below_alloc | apply pw_below_drewN | apply below_drew1) | exact HB.out))) : w.heap.size ≤ gb310)); have n3_ := Aside0.mk ((by rw [hg]; exact (below_size (by repeat (first | (with_reducible first | exact HB.out | apply below_alloc | apply pw_below_drewN | apply below_drew1) | exact HB.out))) : w.heap.size ≤ gb310)); clear HB; have HB := n0_; have BK310 := n1_; have GW310 := n2_; have GE310 := n3_; clear n0_ n1_ n2_ n3_; clear hb hbox hg) | ((with_reducible refine gate_dst (N := 3) rfl ?_); refine box_event ?hg (N := 3) ?hd (cs := #[.int .i64 a1_0, .int .i64 a1_1, .int .i64 a1_2, .slice A1_3 l1_3.length c1_3]) (t := 24) ?hr ?_; (case hd => rfl); (case hg => rfl); (case hr => first | (go_simp; done) | (go_simp; rfl)); intro gb311 hg w18 hbox hb; have n0_ := Aside0.mk (blk_below (g := gb310) (o := .cells #[.int .i64 a0_0, .int .i64 a0_1, .int .i64 a0_2, .slice A0_3 l0_3.length c0_3] 24 (0, 0)) (by (with_reducible repeat (first | refine blk_drewN ?_ _ | refine blk_drew ?_ | refine blk_alloc ?_ _)); exact BK310.out) hb); have n1_ := Aside0.mk (below_step (by repeat (first | (with_reducible first | exact HB.out | apply below_alloc | apply pw_below_drewN | apply below_drew1 | refine below_set ?_ GE310.out) | exact HB.out)) hb); have n2_ := Aside0.mk (hbox); have n3_ := Aside0.mk ((by rw [hg]; exact (below_size (by repeat (first | (with_reducible first | exact HB.out | apply below_alloc | apply pw_below_drewN | apply below_drew1 | refine below_set ?_ GE310.out) | exact HB.out))) : w.heap.size ≤ gb311)); have n4_ := Aside0.mk ((by rw [hg]; exact (below_size (by repeat (first | (with_reducible first | exact HB.out | apply below_alloc | apply pw_below_drewN | apply below_drew1 | refine below_set ?_ GE310.out) | exact HB.out))) : w.heap.size ≤ gb311)); have n5_ := Aside0.mk ((by rw [hg]; exact Nat.ne_of_lt (blk_lt (g := gb310) (o := .cells #[.int .i64 a0_0, .int .i64 a0_1, .int .i64 a0_2, .slice A0_3 l0_3.length c0_3] 24 (0, 0)) (by (with_reducible repeat (first | refine blk_drewN ?_ _ | refine blk_drew ?_ | refine blk_alloc ?_ _)); exact BK310.out)) : gb310 ≠ gb311)); have n6_ := Aside0.mk ((by rw [hg]; exact Nat.ne_of_gt (blk_lt (g := gb310) (o := .cells #[.int .i64 a0_0, .int .i64 a0_1, .int .i64 a0_2, .slice A0_3 l0_3.length c0_3] 24 (0, 0)) (by (with_reducible repeat (first | refine blk_drewN ?_ _ | refine blk_drew ?_ | refine blk_alloc ?_ _)); exact BK310.out)) : gb311 ≠ gb310)); clear BK310; clear HB; have BK310 := n0_; have HB := n1_; have BK311 := n2_; have GW311 := n3_; have GE311 := n4_; have NB310_311 := n5_; have NB311_310 := n6_; clear n0_ n1_ n2_ n3_ n4_ n5_ n6_; clear hb hbox hg; have hnb19 := NB310_311.out; have hnc19 := NB311_310.out; have hcz20_0 : w18.cell? ⟨gb310, 0, none⟩ = some (.int .i64 a0_0) := (blk_cell BK310.out 0).trans rfl; have hcz20_1 : w18.cell? ⟨gb310, 1, none⟩ = some (.int .i64 a0_1) := (blk_cell BK310.out 1).trans rfl; have hcz20_2 : w18.cell? ⟨gb310, 2, none⟩ = some (.int .i64 a0_2) := (blk_cell BK310.out 2).trans rfl; have hcz20_3 : w18.cell? ⟨gb310, 3, none⟩ = some (.slice A0_3 l0_3.length c0_3) := (blk_cell BK310.out 3).trans rfl; have hfz20_0 := blk_frozen BK310.out 0; have hfz20_1 := blk_frozen BK310.out 1; have hfz20_2 := blk_frozen BK310.out 2; have hfz20_3 := blk_frozen BK310.out 3; have hcz21_0 : w18.cell? ⟨gb311, 0, none⟩ = some (.int .i64 a1_0) := (blk_cell BK311.out 0).trans rfl; have hcz21_1 : w18.cell? ⟨gb311, 1, none⟩ = some (.int .i64 a1_1) := (blk_cell BK311.out 1).trans rfl; have hcz21_2 : w18.cell? ⟨gb311, 2, none⟩ = some (.int .i64 a1_2) := (blk_cell BK311.out 2).trans rfl; have hcz21_3 : w18.cell? ⟨gb311, 3, none⟩ = some (.slice A1_3 l1_3.length c1_3) := (blk_cell BK311.out 3).trans rfl; have hfz21_0 := blk_frozen BK311.out 0; have hfz21_1 := blk_frozen BK311.out 1; have hfz21_2 := blk_frozen BK311.out 2; have hfz21_3 := blk_frozen BK311.out 3))
      go_ret
      exact ⟨by first | rfl | (simp [errW_none, errW_some] <;> rfl) | (simp [*, errW_none, errW_some] <;> rfl), by repeat (first | (with_reducible first | exact HB.out | apply below_alloc | apply pw_below_drewN | apply below_drew1 | refine below_set ?_ GE310.out | refine below_set ?_ GE311.out) | exact HB.out)⟩
  · rw [if_neg c3] at H
    have c3b0 : (a0_0 == a1_0) = false := beq_eq_false_iff_ne.mpr c3
    have c3b1 : (a0_0 != a1_0) = true := bne_iff_ne.mpr c3
    obtain rfl := Option.some.inj H
    go_enter Try.func53, Try.ntmps53
    go_wp2_with (first | ((with_reducible refine gate_dst (N := 2) rfl ?_); refine box_event ?hg (N := 2) ?hd (cs := #[.int .i64 a0_0, .int .i64 a0_1, .int .i64 a0_2, .slice A0_3 l0_3.length c0_3]) (t := 24) ?hr ?_; (case hd => rfl); (case hg => rfl); (case hr => first | (go_simp; done) | (go_simp; rfl)); intro gb310 hg w22 hbox hb; have n0_ := Aside0.mk (below_step (by repeat (first | (with_reducible first | exact HB.out | apply below_alloc | apply pw_below_drewN | apply below_drew1) | exact HB.out)) hb); have n1_ := Aside0.mk (hbox); have n2_ := Aside0.mk ((by rw [hg]; exact (below_size (by repeat (first | (with_reducible first | exact HB.out | apply below_alloc | apply pw_below_drewN | apply below_drew1) | exact HB.out))) : w.heap.size ≤ gb310)); have n3_ := Aside0.mk ((by rw [hg]; exact (below_size (by repeat (first | (with_reducible first | exact HB.out | apply below_alloc | apply pw_below_drewN | apply below_drew1) | exact HB.out))) : w.heap.size ≤ gb310)); clear HB; have HB := n0_; have BK310 := n1_; have GW310 := n2_; have GE310 := n3_; clear n0_ n1_ n2_ n3_; clear hb hbox hg) | ((with_reducible refine gate_dst (N := 3) rfl ?_); refine box_event ?hg (N := 3) ?hd (cs := #[.int .i64 a1_0, .int .i64 a1_1, .int .i64 a1_2, .slice A1_3 l1_3.length c1_3]) (t := 24) ?hr ?_; (case hd => rfl); (case hg => rfl); (case hr => first | (go_simp; done) | (go_simp; rfl)); intro gb311 hg w23 hbox hb; have n0_ := Aside0.mk (blk_below (g := gb310) (o := .cells #[.int .i64 a0_0, .int .i64 a0_1, .int .i64 a0_2, .slice A0_3 l0_3.length c0_3] 24 (0, 0)) (by (with_reducible repeat (first | refine blk_drewN ?_ _ | refine blk_drew ?_ | refine blk_alloc ?_ _)); exact BK310.out) hb); have n1_ := Aside0.mk (below_step (by repeat (first | (with_reducible first | exact HB.out | apply below_alloc | apply pw_below_drewN | apply below_drew1 | refine below_set ?_ GE310.out) | exact HB.out)) hb); have n2_ := Aside0.mk (hbox); have n3_ := Aside0.mk ((by rw [hg]; exact (below_size (by repeat (first | (with_reducible first | exact HB.out | apply below_alloc | apply pw_below_drewN | apply below_drew1 | refine below_set ?_ GE310.out) | exact HB.out))) : w.heap.size ≤ gb311)); have n4_ := Aside0.mk ((by rw [hg]; exact (below_size (by repeat (first | (with_reducible first | exact HB.out | apply below_alloc | apply pw_below_drewN | apply below_drew1 | refine below_set ?_ GE310.out) | exact HB.out))) : w.heap.size ≤ gb311)); have n5_ := Aside0.mk ((by rw [hg]; exact Nat.ne_of_lt (blk_lt (g := gb310) (o := .cells #[.int .i64 a0_0, .int .i64 a0_1, .int .i64 a0_2, .slice A0_3 l0_3.length c0_3] 24 (0, 0)) (by (with_reducible repeat (first | refine blk_drewN ?_ _ | refine blk_drew ?_ | refine blk_alloc ?_ _)); exact BK310.out)) : gb310 ≠ gb311)); have n6_ := Aside0.mk ((by rw [hg]; exact Nat.ne_of_gt (blk_lt (g := gb310) (o := .cells #[.int .i64 a0_0, .int .i64 a0_1, .int .i64 a0_2, .slice A0_3 l0_3.length c0_3] 24 (0, 0)) (by (with_reducible repeat (first | refine blk_drewN ?_ _ | refine blk_drew ?_ | refine blk_alloc ?_ _)); exact BK310.out)) : gb311 ≠ gb310)); clear BK310; clear HB; have BK310 := n0_; have HB := n1_; have BK311 := n2_; have GW311 := n3_; have GE311 := n4_; have NB310_311 := n5_; have NB311_310 := n6_; clear n0_ n1_ n2_ n3_ n4_ n5_ n6_; clear hb hbox hg; have hnb24 := NB310_311.out; have hnc24 := NB311_310.out; have hcz25_0 : w23.cell? ⟨gb310, 0, none⟩ = some (.int .i64 a0_0) := (blk_cell BK310.out 0).trans rfl; have hcz25_1 : w23.cell? ⟨gb310, 1, none⟩ = some (.int .i64 a0_1) := (blk_cell BK310.out 1).trans rfl; have hcz25_2 : w23.cell? ⟨gb310, 2, none⟩ = some (.int .i64 a0_2) := (blk_cell BK310.out 2).trans rfl; have hcz25_3 : w23.cell? ⟨gb310, 3, none⟩ = some (.slice A0_3 l0_3.length c0_3) := (blk_cell BK310.out 3).trans rfl; have hfz25_0 := blk_frozen BK310.out 0; have hfz25_1 := blk_frozen BK310.out 1; have hfz25_2 := blk_frozen BK310.out 2; have hfz25_3 := blk_frozen BK310.out 3; have hcz26_0 : w23.cell? ⟨gb311, 0, none⟩ = some (.int .i64 a1_0) := (blk_cell BK311.out 0).trans rfl; have hcz26_1 : w23.cell? ⟨gb311, 1, none⟩ = some (.int .i64 a1_1) := (blk_cell BK311.out 1).trans rfl; have hcz26_2 : w23.cell? ⟨gb311, 2, none⟩ = some (.int .i64 a1_2) := (blk_cell BK311.out 2).trans rfl; have hcz26_3 : w23.cell? ⟨gb311, 3, none⟩ = some (.slice A1_3 l1_3.length c1_3) := (blk_cell BK311.out 3).trans rfl; have hfz26_0 := blk_frozen BK311.out 0; have hfz26_1 := blk_frozen BK311.out 1; have hfz26_2 := blk_frozen BK311.out 2; have hfz26_3 := blk_frozen BK311.out 3))
    go_ret
    exact ⟨by first | rfl | (simp [errW_none, errW_some] <;> rfl) | (simp [*, errW_none, errW_some] <;> rfl), by repeat (first | (with_reducible first | exact HB.out | apply below_alloc | apply pw_below_drewN | apply below_drew1 | refine below_set ?_ GE310.out | refine below_set ?_ GE311.out) | exact HB.out)⟩
end Go.Proofs.Ytkceobahefjlnaa.Q
end
section
/- Functions of the translation told as plain Lean functions, and that the calls come to just these. Written by a program of this session, which drives print.py; not a text of print.sh. -/
namespace Go.Proofs.Ytkceobahefjlnaa.Q
open Go.RowKit Go.Proofs.YtkceobahefjlnaaW.PrintWords Go.Proofs.YtkceobahefjlnaaW.PrintLast Go.Proofs.YtkceobahefjlnaaW.PrintMore
attribute [local go_sem] max2_int min2_int max_two min_two max_three min_three max_four min_four   -- for this text's walks alone
set_option linter.unusedVariables false
set_option linter.unusedSimpArgs false
/-! ### sluicegateref08_Key: function 34 -/
def sluicegateref08_Key.l0 : Nat → ByteArray → Int → Option (Bool)
  | 0, _, _ => none
  | k + 1, x0, x3 => if x3 < (x0.size : Int) then (if 0 ≤ x3 then (if (bt x0 x3) < 33 then (some false) else (if (bt x0 x3) > 126 then (some false) else (sluicegateref08_Key.l0 k x0 (wrap64 (x3 + 1))))) else (none)) else (if (x0.size : Int) ≥ 1 then (some (decide ((x0.size : Int) ≤ 32))) else (some false))
def sluicegateref08_Key.f (k : Nat) (a0 : ByteArray) : Option (Bool) := sluicegateref08_Key.l0 k a0 0
theorem sluicegateref08_Key.mono_l : ∀ k, (∀ y0 y1, LeO (sluicegateref08_Key.l0 k y0 y1) (sluicegateref08_Key.l0 (k + 1) y0 y1))
  | 0 => fun _ _ r h => by simp [sluicegateref08_Key.l0] at h
  | k + 1 => by
    have ih0 := sluicegateref08_Key.mono_l k
    · intro y0 y1
      unfold sluicegateref08_Key.l0
      repeat' first
      | (with_reducible exact ih0 _ _)
      | (with_reducible exact LeO.refl _)
      | (with_reducible exact LeO.none _)
      | (with_reducible refine LeO.ite ?_ ?_)
      | (with_reducible refine LeO.bind ?_ (fun _ => ?_))
      | exact ih0 _ _
      | exact LeO.none _
      | refine LeO.ite ?_ ?_
      | refine LeO.bind ?_ (fun _ => ?_)
theorem sluicegateref08_Key.mono : ∀ a0 k, LeO (sluicegateref08_Key.f k a0) (sluicegateref08_Key.f (k + 1) a0) := by
  intro a0 k
  have ih0 := sluicegateref08_Key.mono_l k
  unfold sluicegateref08_Key.f
  repeat' first
      | (with_reducible exact ih0 _ _)
      | (with_reducible exact LeO.refl _)
      | (with_reducible exact LeO.none _)
      | (with_reducible refine LeO.ite ?_ ?_)
      | (with_reducible refine LeO.bind ?_ (fun _ => ?_))
      | exact ih0 _ _
      | exact LeO.none _
      | refine LeO.ite ?_ ?_
      | refine LeO.bind ?_ (fun _ => ?_)
set_option maxHeartbeats 8000000 in
set_option maxRecDepth 100000 in
theorem sluicegateref08_Key.calls (k : Nat) (a0 : ByteArray) (r : Bool) (w : World) (h : sluicegateref08_Key.f k a0 = some r) :
    Calls Try.prog 34 #[.string a0] w fun e w' => e = .returned (.bool r) ∧ Drawn0 w w' := by
  have H : (sluicegateref08_Key.l0 k a0 0) = some r := h
  clear h
  have H' := Aside0.mk H
  clear H
  go_enter Try.func34, Try.ntmps34
  go_wp2
  go_loopg [3] k (fun kq v3 w' => ∃ (x3_1 : Int), v3 = .int .i64 x3_1 ∧ Aside0 (sluicegateref08_Key.l0 kq a0 x3_1 = some r) ∧ Aside0 (kq ≤ k) ∧ Drawn0 w w')
  case atStart => exact ⟨(0), (by first | rfl | (simp; done) | (simp [*]; done)), H', ⟨Nat.le_refl _⟩, by repeat (first | exact Drawn0.refl _ | apply Drawn0.step)⟩
  case round =>
    clear H'
    obtain ⟨x3_1, rfl, HA, HK1, ⟨m1, rfl⟩⟩ := hrel
    cases gk with
    | zero => exact absurd HA.out (by simp [sluicegateref08_Key.l0])
    | succ k1 =>
      have H := HA.out
      clear HA
      simp only [sluicegateref08_Key.l0] at H
      by_cases c2 : x3_1 < (a0.size : Int)
      · rw [if_pos c2] at H
        have c2b0 : decide (x3_1 < (a0.size : Int)) = true := decide_eq_true c2
        clear c2
        by_cases c3 : 0 ≤ x3_1
        · rw [if_pos c3] at H
          have c3b0 : decide (0 ≤ x3_1) = true := decide_eq_true c3
          clear c3
          by_cases c5 : (bt a0 x3_1) < 33
          · rw [if_pos c5] at H
            have c5b0 : decide ((bt a0 x3_1) < 33) = true := decide_eq_true c5
            clear c5
            obtain rfl := Option.some.inj H
            have p4 : 0 ≤ (x3_1 : Int) := of_decide_eq_true (by first | (with_reducible assumption) | assumption)
            have q4 : x3_1 < (a0.size : Int) := of_decide_eq_true (by first | (with_reducible assumption) | assumption)
            have hx4 := bt_at a0 x3_1
            replace p4 := eq_true p4
            replace q4 := eq_true q4
            go_wp2
            go_ret
            exact ⟨by first | rfl | (simp; done) | (simp [*]; done), by repeat (first | exact Drawn0.refl _ | apply Drawn0.step)⟩
          · rw [if_neg c5] at H
            have c5b0 : decide ((bt a0 x3_1) < 33) = false := decide_eq_false c5
            clear c5
            by_cases c7 : (bt a0 x3_1) > 126
            · rw [if_pos c7] at H
              have c7b0 : decide (126 < (bt a0 x3_1)) = true := decide_eq_true c7
              clear c7
              obtain rfl := Option.some.inj H
              have p4 : 0 ≤ (x3_1 : Int) := of_decide_eq_true (by first | (with_reducible assumption) | assumption)
              have q4 : x3_1 < (a0.size : Int) := of_decide_eq_true (by first | (with_reducible assumption) | assumption)
              have hx4 := bt_at a0 x3_1
              replace p4 := eq_true p4
              replace q4 := eq_true q4
              have p6 : 0 ≤ (x3_1 : Int) := of_decide_eq_true (by first | (with_reducible assumption) | assumption)
              have q6 : x3_1 < (a0.size : Int) := of_decide_eq_true (by first | (with_reducible assumption) | assumption)
              have hx6 := bt_at a0 x3_1
              replace p6 := eq_true p6
              replace q6 := eq_true q6
              go_wp2
              go_ret
              exact ⟨by first | rfl | (simp; done) | (simp [*]; done), by repeat (first | exact Drawn0.refl _ | apply Drawn0.step)⟩
            · rw [if_neg c7] at H
              have c7b0 : decide (126 < (bt a0 x3_1)) = false := decide_eq_false c7
              clear c7
              have H' := Aside0.mk H
              clear H
              have p4 : 0 ≤ (x3_1 : Int) := of_decide_eq_true (by first | (with_reducible assumption) | assumption)
              have q4 : x3_1 < (a0.size : Int) := of_decide_eq_true (by first | (with_reducible assumption) | assumption)
              have hx4 := bt_at a0 x3_1
              replace p4 := eq_true p4
              replace q4 := eq_true q4
              have p6 : 0 ≤ (x3_1 : Int) := of_decide_eq_true (by first | (with_reducible assumption) | assumption)
              have q6 : x3_1 < (a0.size : Int) := of_decide_eq_true (by first | (with_reducible assumption) | assumption)
              have hx6 := bt_at a0 x3_1
              replace p6 := eq_true p6
              replace q6 := eq_true q6
              go_wp2
              go_roundg k1
              case measure => have := HK1.out; omega
              case rel => exact ⟨(wrap64 (x3_1 + 1)), (by first | rfl | (simp; done) | (simp [*]; done)), H', ⟨by have := HK1.out; omega⟩, by repeat (first | exact Drawn0.refl _ | apply Drawn0.step)⟩
        · rw [if_neg c3] at H
          exact absurd H (by simp)
      · rw [if_neg c2] at H
        have c2b0 : decide (x3_1 < (a0.size : Int)) = false := decide_eq_false c2
        clear c2
        by_cases c8 : (a0.size : Int) ≥ 1
        · rw [if_pos c8] at H
          have c8b0 : decide (1 ≤ (a0.size : Int)) = true := decide_eq_true c8
          have c8b1 : decide (1 ≤ a0.size) = true := decide_eq_true (by omega)
          clear c8
          obtain rfl := Option.some.inj H
          go_wp2
          go_ret
          exact ⟨by first | rfl | (simp; done) | (simp [*]; done), by repeat (first | exact Drawn0.refl _ | apply Drawn0.step)⟩
        · rw [if_neg c8] at H
          have c8b0 : decide (1 ≤ (a0.size : Int)) = false := decide_eq_false c8
          have c8b1 : decide (1 ≤ a0.size) = false := decide_eq_false (by omega)
          clear c8
          obtain rfl := Option.some.inj H
          go_wp2
          go_ret
          exact ⟨by first | rfl | (simp; done) | (simp [*]; done), by repeat (first | exact Drawn0.refl _ | apply Drawn0.step)⟩
/-! ### sluicegateref05_Most: function 59 -/
def sluicegateref05_Most.f  : Option (Int) := some 72057594037927935
set_option maxHeartbeats 8000000 in
set_option maxRecDepth 100000 in
theorem sluicegateref05_Most.calls  (r : Int) (w : World) (h : sluicegateref05_Most.f  = some r) :
    Calls Try.prog 59 #[] w fun e w' => e = .returned (.int .i64 r) ∧ Drawn0 w w' := by
  have H : (some 72057594037927935) = some r := h
  clear h
  obtain rfl := Option.some.inj H
  go_enter Try.func59, Try.ntmps59
  go_wp2
  go_ret
  exact ⟨by first | rfl | (simp; done) | (simp [*]; done), by repeat (first | exact Drawn0.refl _ | apply Drawn0.step)⟩
/-! ### sluicegateref05_Number: function 29 -/
mutual
def sluicegateref05_Number.j0 : Nat → Int → Bool → Option (ByteArray)
  | 0, _, _ => none
  | k + 1, x0, x9 => if x9 = true then (some (⟨#[]⟩ : ByteArray)) else (if x0 < 128 then (some (strOfNums (([(x0) % 256] : List Int)))) else ((some (([(wrap64 (128 + (Int.tmod x0 128))) % 256] : List Int) : List Int)).bind fun y317 => ((sluicegateref05_Number.f k (wrap64 (Int.tdiv x0 128))).bind fun t320 => (if (strOfNums y317).size + t320.size ≤ 9223372036854775807 then (some ((strOfNums y317) ++ t320)) else (none)))))
def sluicegateref05_Number.f : Nat → Int → Option (ByteArray)
  | 0, _ => none
  | k + 1, a0 => if a0 < 0 then (sluicegateref05_Number.j0 k a0 true) else ((sluicegateref05_Most.f).bind fun t313 => (sluicegateref05_Number.j0 k a0 (decide (a0 > t313))))
end
theorem sluicegateref05_Number.mono_l : ∀ k, (∀ y0, LeO (sluicegateref05_Number.f k y0) (sluicegateref05_Number.f (k + 1) y0)) ∧ (∀ y0 y1, LeO (sluicegateref05_Number.j0 k y0 y1) (sluicegateref05_Number.j0 (k + 1) y0 y1))
  | 0 => ⟨fun _ r h => by simp [sluicegateref05_Number.f] at h, fun _ _ r h => by simp [sluicegateref05_Number.j0] at h⟩
  | k + 1 => by
    obtain ⟨ih0, ih1⟩ := sluicegateref05_Number.mono_l k
    refine ⟨?_, ?_⟩
    · intro y0
      unfold sluicegateref05_Number.f
      repeat' first
      | (with_reducible exact ih0 _)
      | (with_reducible exact ih1 _ _)
      | (with_reducible exact LeO.refl _)
      | (with_reducible exact LeO.none _)
      | (with_reducible refine LeO.ite ?_ ?_)
      | (with_reducible refine LeO.bind ?_ (fun _ => ?_))
      | exact ih0 _
      | exact ih1 _ _
      | exact LeO.none _
      | refine LeO.ite ?_ ?_
      | refine LeO.bind ?_ (fun _ => ?_)
    · intro y0 y1
      unfold sluicegateref05_Number.j0
      repeat' first
      | (with_reducible exact ih0 _)
      | (with_reducible exact ih1 _ _)
      | (with_reducible exact LeO.refl _)
      | (with_reducible exact LeO.none _)
      | (with_reducible refine LeO.ite ?_ ?_)
      | (with_reducible refine LeO.bind ?_ (fun _ => ?_))
      | exact ih0 _
      | exact ih1 _ _
      | exact LeO.none _
      | refine LeO.ite ?_ ?_
      | refine LeO.bind ?_ (fun _ => ?_)
theorem sluicegateref05_Number.mono : ∀ a0 k, LeO (sluicegateref05_Number.f k a0) (sluicegateref05_Number.f (k + 1) a0) := by
  intro a0 k
  obtain ⟨ih0, ih1⟩ := sluicegateref05_Number.mono_l k
  exact ih0 a0
def sluicegateref05_Number.T5 : Bool × List (List Nat × List Nat) := (true, [([], []), ([0], [0]), ([1], [1]), ([2], [2]), ([3], [3]), ([4], [4]), ([], []), ([6], [6]), ([7], [7]), ([5, 8], [5, 8]), ([9, 8, 0, 1, 2, 3, 4, 5, 6, 7, 8, 9], [9])])
def sluicegateref05_Number.B5 : List Nat := [0, 1, 3, 7, 15, 31, 0, 64, 192, 511, 1023]
theorem sluicegateref05_Number.tab5 : rtab .any (opsOf Try.f29 5) = sluicegateref05_Number.T5 := by kernel_rfl
theorem sluicegateref05_Number.bits5 : waitsOk sluicegateref05_Number.T5.2 sluicegateref05_Number.B5 = true := by kernel_rfl
set_option maxHeartbeats 8000000 in
set_option maxRecDepth 100000 in
theorem sluicegateref05_Number.calls (k : Nat) : ∀ (a0 : Int) (r : ByteArray) (w : World) (h : sluicegateref05_Number.f k a0 = some r),
    Calls Try.prog 29 #[.int .i64 a0] w fun e w' => e = .returned (.string r) ∧ Below w.heap.size w w' := by
  induction k using Nat.strongRecOn with
  | _ k ih =>
  intro a0 r w h
  cases k with
  | zero => exact absurd h (by simp [sluicegateref05_Number.f])
  | succ k =>
  simp only [sluicegateref05_Number.f] at h
  have HB := Aside0.mk (Below.refl w.heap.size w)
  have H : (if a0 < 0 then (sluicegateref05_Number.j0 k a0 true) else ((sluicegateref05_Most.f).bind fun t313 => (sluicegateref05_Number.j0 k a0 (decide (a0 > t313))))) = some r := h
  clear h
  have HC2 := Aside0.mk H
  clear H
  go_enter Try.func29, Try.ntmps29
  go_upto_region 1 with (fail)
  go_cut [9] (fun v9 wc => ∃ (kq : Nat) (x9_1 : Bool), v9 = .bool x9_1 ∧ Aside0 (sluicegateref05_Number.j0 kq a0 x9_1 = some r) ∧ Aside0 (kq ≤ k) ∧ Aside0 (Below w.heap.size w wc))
  case first =>
    have H := HC2.out
    clear HC2
    by_cases c3 : a0 < 0
    · rw [if_pos c3] at H
      have c3b0 : decide (a0 < 0) = true := decide_eq_true c3
      clear c3
      (first | rw [c3b0] | (simp only [i64_w, i32_w]; rw [c3b0]) | skip)
      have H' := Aside0.mk H
      clear H
      go_wp2
      go_meet
      case rel => exact ⟨_, (true), (by first | rfl | (simp; done) | (simp [*]; done)), H', ⟨by first | omega | exact Nat.le_refl _⟩, ⟨by repeat (first | (with_reducible first | exact HB.out | apply below_alloc | apply pw_below_drewN | apply below_drew1) | exact HB.out)⟩⟩
    · rw [if_neg c3] at H
      have c3b0 : decide (a0 < 0) = false := decide_eq_false c3
      clear c3
      (first | rw [c3b0] | (simp only [i64_w, i32_w]; rw [c3b0]) | skip)
      replace H := Option.bind_eq_some_iff.mp H
      obtain ⟨t313, A40, H⟩ := H
      replace H : (sluicegateref05_Number.j0 k a0 (decide (a0 > t313))) = some r := H
      have A4 := Aside0.mk A40
      clear A40
      have H' := Aside0.mk H
      clear H
      go_wp2_with (first | (go_at_call 59; (with_reducible refine (sluicegateref05_Most.calls  t313 _ A4.out).mono ?_); rintro e w' ⟨rfl, ⟨nd, rfl⟩⟩))
      go_meet
      case rel => exact ⟨_, (decide (a0 > t313)), (by first | rfl | (simp; done) | (simp [*]; done)), H', ⟨by first | omega | exact Nat.le_refl _⟩, ⟨by repeat (first | (with_reducible first | exact HB.out | apply below_alloc | apply pw_below_drewN | apply below_drew1) | exact HB.out)⟩⟩
  case rest =>
    clear HC2
    try clear c2
    try clear p2
    try clear c3
    try clear c3b0
    obtain ⟨kq, x9_1, rfl, HA, HJ1, HB⟩ := hcut
    cases kq with
    | zero => exact absurd HA.out (by simp [sluicegateref05_Number.j0])
    | succ kj1 =>
      have H := HA.out
      clear HA
      simp only [sluicegateref05_Number.j0] at H
      by_cases c5 : x9_1 = true
      · subst c5
        have H1 : (some (⟨#[]⟩ : ByteArray)) = some r := by rw [if_pos rfl] at H; exact H
        clear H
        have H := H1
        clear H1
        obtain rfl := Option.some.inj H
        go_wp2
        go_ret
        exact ⟨by first | rfl | (simp [errW_none, errW_some] <;> rfl) | (simp [*, errW_none, errW_some] <;> rfl), by repeat (first | (with_reducible first | exact HB.out | apply below_alloc | apply pw_below_drewN | apply below_drew1) | exact HB.out)⟩
      · replace c5 := Bool.eq_false_iff.mpr c5
        subst c5
        have H1 : (if a0 < 128 then (some (strOfNums (([(a0) % 256] : List Int)))) else ((some (([(wrap64 (128 + (Int.tmod a0 128))) % 256] : List Int) : List Int)).bind fun y317 => ((sluicegateref05_Number.f kj1 (wrap64 (Int.tdiv a0 128))).bind fun t320 => (if (strOfNums y317).size + t320.size ≤ 9223372036854775807 then (some ((strOfNums y317) ++ t320)) else (none))))) = some r := by rw [if_neg (show ¬ (false = true) by decide)] at H; exact H
        clear H
        have H := H1
        clear H1
        by_cases c6 : a0 < 128
        · rw [if_pos c6] at H
          have c6b0 : decide (a0 < 128) = true := decide_eq_true c6
          clear c6
          obtain ⟨y314, hy314⟩ : ∃ y_ : List Int, y_ = (([(a0) % 256] : List Int)) := ⟨_, rfl⟩
          replace H : (some (strOfNums y314)) = some r := by first | (rw [hy314]; with_reducible exact H) | (have H2_ := (Option.bind_some _ _).symm.trans H; rw [hy314]; with_reducible exact H2_) | (have H2_ := (Option.bind_some _ _).symm.trans H; with_reducible exact H2_) | with_reducible exact H | (rw [hy314]; exact H) | exact H
          have Ny314 := Aside0.mk hy314
          clear hy314
          obtain rfl := Option.some.inj H
          go_wp2_with (first | ((with_reducible refine gate_dst (N := 14) rfl ?_); refine Kd.R_lit (Kd.int .u8) _ 5 ?hg (N := 14) ?hd (xs := ([(a0) % 256] : List Int)) (inner := [.int .u8 ((a0) % 256)]) (ok := fun _ => True) (okp := fun _ => True) ?hr ?hp (fun _ hk => hk) trivial (Below.refl _ _) (Nat.le_refl _) (by simp) ?_; (case hd => rfl); (case hg => rfl); (case hr => first | (go_simp; done) | (go_simp; rfl)); (case hp => exact (Reps.one (show Kd.M (Kd.int .u8) _ _ _ ((a0) % 256) [.int .u8 ((a0) % 256)] from rfl) (Reps.none _ _))); intro v315 w7 ho8 hb hg_ hnew_; clear hg_ hnew_; (first | rw [← Ny314.out] at ho8 | (simp only [Int.reduceToNat] at ho8; rw [← Ny314.out] at ho8)); have n0_ := Aside0.mk (Kd.R_lower ho8 (below_size (by repeat (first | (with_reducible first | exact HB.out | apply below_alloc | apply pw_below_drewN | apply below_drew1) | exact HB.out)))); have n1_ := Aside0.mk (below_step (by repeat (first | (with_reducible first | exact HB.out | apply below_alloc | apply pw_below_drewN | apply below_drew1) | exact HB.out)) hb); clear HB; have HO316 := n0_; have HB := n1_; clear n0_ n1_; clear hb ho8; have hcv9 := own_string (P := Try.prog) Try.underlying51 Try.underlying5 Try.underlying9 (Kd.own_of_R HO316.out)))
          go_ret
          exact ⟨by first | rfl | (simp [errW_none, errW_some] <;> rfl) | (simp [*, errW_none, errW_some] <;> rfl), by repeat (first | (with_reducible first | exact HB.out | apply below_alloc | apply pw_below_drewN | apply below_drew1) | exact HB.out)⟩
        · rw [if_neg c6] at H
          have c6b0 : decide (a0 < 128) = false := decide_eq_false c6
          clear c6
          obtain ⟨y317, hy317⟩ : ∃ y_ : List Int, y_ = (([(wrap64 (128 + (Int.tmod a0 128))) % 256] : List Int)) := ⟨_, rfl⟩
          replace H : ((sluicegateref05_Number.f kj1 (wrap64 (Int.tdiv a0 128))).bind fun t320 => (if (strOfNums y317).size + t320.size ≤ 9223372036854775807 then (some ((strOfNums y317) ++ t320)) else (none))) = some r := by first | (rw [hy317]; with_reducible exact H) | (have H2_ := (Option.bind_some _ _).symm.trans H; rw [hy317]; with_reducible exact H2_) | (have H2_ := (Option.bind_some _ _).symm.trans H; with_reducible exact H2_) | with_reducible exact H | (rw [hy317]; exact H) | exact H
          have Ny317 := Aside0.mk hy317
          clear hy317
          replace H := Option.bind_eq_some_iff.mp H
          obtain ⟨t320, A100, H⟩ := H
          replace H : (if (strOfNums y317).size + t320.size ≤ 9223372036854775807 then (some ((strOfNums y317) ++ t320)) else (none)) = some r := H
          have A10 := Aside0.mk A100
          clear A100
          by_cases c11 : (strOfNums y317).size + t320.size ≤ 9223372036854775807
          · rw [if_pos c11] at H
            have c11b0 := eq_true c11
            have c11b1 : decide ((strOfNums y317).size + t320.size ≤ 9223372036854775807) = true := decide_eq_true c11
            try have c11b2 : (9223372036854775807 < (strOfNums y317).size + t320.size) = False := eq_false (Nat.not_lt.2 c11)
            obtain rfl := Option.some.inj H
            try go_wp2
            have n0_ := Aside0.mk (below_drew1 HB.out)
            clear HB
            have HB := n0_
            clear n0_
            refine start_ (n := 11) (S := fun w' => True) (ds := []) #[false, false, false, false, false, false, false, false, false, false, false] (by kernel_rfl) rfl rfl trivial (fun hHeld => ?_); refine with_tabW sluicegateref05_Number.tab5 sluicegateref05_Number.bits5 (fun HT_ HW_ => ?_)
            generalize wc.drew = w12 at HB hHeld ⊢
            refine pure_ (i := 0) (N := some 16) (v := ?_) (a' := ?_) #[true, false, false, false, false, false, false, false, false, false, false] rfl rfl (any_of HT_.out (by kernel_rfl)) (fun _ _ _ h => h) (Or.inl ⟨by rfl, ?_⟩) ?_ ?_
            rotate_left
            · intro w'
              go_simp
              with_reducible rfl
            rotate_left
            · simp only [Act.put, List.setIfInBounds_toArray, List.set_cons_zero, List.set_cons_succ, i64_w, i32_w]
              rfl
            refine pure_ (i := 1) (N := some 17) (v := ?_) (a' := ?_) #[true, true, false, false, false, false, false, false, false, false, false] rfl rfl (any_of HT_.out (by kernel_rfl)) (fun _ _ _ h => h) (Or.inl ⟨by rfl, ?_⟩) ?_ ?_
            rotate_left
            · intro w'
              go_simp
              with_reducible rfl
            rotate_left
            · simp only [Act.put, List.setIfInBounds_toArray, List.set_cons_zero, List.set_cons_succ, i64_w, i32_w]
              rfl
            refine pure_ (i := 2) (N := some 18) (v := ?_) (a' := ?_) #[true, true, true, false, false, false, false, false, false, false, false] rfl rfl (any_of HT_.out (by kernel_rfl)) (fun _ _ _ h => h) (Or.inl ⟨by rfl, ?_⟩) ?_ ?_
            rotate_left
            · intro w'
              go_simp
              with_reducible rfl
            rotate_left
            · simp only [Act.put, List.setIfInBounds_toArray, List.set_cons_zero, List.set_cons_succ, i64_w, i32_w]
              rfl
            refine pure_ (i := 3) (N := some 19) (v := ?_) (a' := ?_) #[true, true, true, true, false, false, false, false, false, false, false] rfl rfl (any_of HT_.out (by kernel_rfl)) (fun _ _ _ h => h) (Or.inl ⟨by rfl, ?_⟩) ?_ ?_
            rotate_left
            · intro w'
              go_simp
              with_reducible rfl
            rotate_left
            · simp only [Act.put, List.setIfInBounds_toArray, List.set_cons_zero, List.set_cons_succ, i64_w, i32_w]
              rfl
            refine pure_ (i := 6) (N := some 22) (v := ?_) (a' := ?_) #[true, true, true, true, false, false, true, false, false, false, false] rfl rfl (any_of HT_.out (by kernel_rfl)) (fun _ _ _ h => h) (Or.inl ⟨by rfl, ?_⟩) ?_ ?_
            rotate_left
            · intro w'
              go_simp
              with_reducible rfl
            rotate_left
            · simp only [Act.put, List.setIfInBounds_toArray, List.set_cons_zero, List.set_cons_succ, i64_w, i32_w]
              rfl
            refine pure_ (i := 7) (N := some 23) (v := ?_) (a' := ?_) #[true, true, true, true, false, false, true, true, false, false, false] rfl rfl (any_of HT_.out (by kernel_rfl)) (fun _ _ _ h => h) (Or.inl ⟨by rfl, ?_⟩) ?_ ?_
            rotate_left
            · intro w'
              go_simp
              with_reducible rfl
            rotate_left
            · simp only [Act.put, List.setIfInBounds_toArray, List.set_cons_zero, List.set_cons_succ, i64_w, i32_w]
              rfl
            refine join_ (σ := Value) 2 #[true, true, true, true, true, true, true, true, true, false, false] (fun s_ => [(20, s_), (21, .string (strOfNums y317)), (24, .string t320)]) (fun s_ w' => (Kd.R (Kd.int .u8) 5 w' w.heap.size (fun _ => True) s_ y317) ∧ (Below w.heap.size w w')) ?_ ?_
            rotate_left
            · intro hCont
              refine two_ (i := 4) (j := 8) (Ni := some 20) (Nj := some 24) #[true, true, true, true, true, false, true, true, false, false, false] #[true, true, true, true, false, false, true, true, true, false, false] rfl rfl rfl rfl (two_of HT_.out (by kernel_rfl)) (by decide) (by decide) (fun K hK => ?_) (fun K hK => ?_)
              · skip
                refine Kd.R_lit_step (Kd.int .u8) _ 5 ?hg (N := 20) ?hd (xs := ([(wrap64 (128 + (Int.tmod a0 128))) % 256] : List Int)) (inner := [.int .u8 ((wrap64 (128 + (Int.tmod a0 128))) % 256)]) (ok := fun _ => True) (okp := fun _ => True) ?hr ?hp (fun _ hk => hk) trivial (Below.refl _ _) (Nat.le_refl _) (by simp) ?_; (case hd => rfl); (case hg => rfl); (case hr => first | (go_simp; done) | (go_simp; rfl)); (case hp => exact (Reps.one (show Kd.M (Kd.int .u8) _ _ _ ((wrap64 (128 + (Int.tmod a0 128))) % 256) [.int .u8 ((wrap64 (128 + (Int.tmod a0 128))) % 256)] from rfl) (Reps.none _ _)))
                intro v318 w13 ho14 hb hg_ hnew_
                clear hg_ hnew_
                (first | rw [← Ny317.out] at ho14 | (simp only [Int.reduceToNat] at ho14; rw [← Ny317.out] at ho14))
                have n0_ := Aside0.mk (Kd.R_lower ho14 (below_size (by repeat (first | (with_reducible first | exact HB.out | apply below_alloc | apply pw_below_drewN | apply below_drew1) | exact HB.out))))
                have n1_ := Aside0.mk (below_step (by repeat (first | (with_reducible first | exact HB.out | apply below_alloc | apply pw_below_drewN | apply below_drew1) | exact HB.out)) hb)
                clear HB
                have HO319 := n0_
                have HB := n1_
                clear n0_ n1_
                clear hb ho14
                refine hK.out _ _ trivial (fun hHeld => ?_)
                clear hK K
                refine norm_ (a' := ?_) ?_ ?_
                rotate_left
                · show Act.put _ (some 20) _ = _
                  simp only [Act.put, List.setIfInBounds_toArray, List.set_cons_zero, List.set_cons_succ, i64_w, i32_w]
                  rfl
                refine two_ (i := 5) (j := 8) (Ni := some 21) (Nj := some 24) #[true, true, true, true, true, true, true, true, false, false, false] #[true, true, true, true, true, false, true, true, true, false, false] rfl rfl rfl rfl (two_of HT_.out (by kernel_rfl)) (by decide) (by decide) (fun K hK => ?_) (fun K hK => ?_)
                · skip
                  have hcv15 := own_string (P := Try.prog) Try.underlying51 Try.underlying5 Try.underlying9 (Kd.own_of_R HO319.out)
                  refine value_ (w1 := ?_) (v := ?_) (by rfl) rfl ?_ ?_
                  rotate_left 2
                  · go_simp
                    constructor
                    · rfl
                    · rfl
                  clear hcv15
                  refine hK.out _ _ trivial (fun hHeld => ?_)
                  clear hK K
                  refine norm_ (a' := ?_) ?_ ?_
                  rotate_left
                  · show Act.put _ (some 21) _ = _
                    simp only [Act.put, List.setIfInBounds_toArray, List.set_cons_zero, List.set_cons_succ, i64_w, i32_w]
                    rfl
                  refine one_ (i := 8) (N := some 24) #[true, true, true, true, true, true, true, true, true, false, false] rfl rfl (one_of HT_.out (by kernel_rfl)) (by decide) (fun K hK => ?_)
                  refine goes_ Try.func29 (by kernel_rfl) rfl #[.int .i64 (wrap64 (Int.tdiv a0 128))] (by rfl) rfl rfl (by (try simp only [List.map_toArray, List.map_cons, List.map_nil]); first | done | rfl | (simp only [List.length_drop, List.length_take]; rfl)) ?_
                  with_reducible refine (ih kj1 (by have := HJ1.out; omega) (wrap64 (Int.tdiv a0 128)) t320 _ A10.out).mono ?_
                  rintro e w16 ⟨rfl, hb⟩
                  refine ⟨_, rfl, ?_⟩
                  have n0_ := Aside0.mk (Kd.R_below (by (with_reducible repeat (first | apply Kd.R_alloc | apply Kd.R_drewN | apply Kd.R_drew)); exact HO319.out) hb)
                  have n1_ := Aside0.mk (below_step (by repeat (first | (with_reducible first | exact HB.out | apply below_alloc | apply pw_below_drewN | apply below_drew1) | exact HB.out)) hb)
                  clear HO319
                  clear HB
                  have HO319 := n0_
                  have HB := n1_
                  clear n0_ n1_
                  (try clear hb)
                  (try clear hb2)
                  (try clear hk)
                  (try clear hi)
                  refine hK.out _ _ trivial (fun hHeld => ?_)
                  clear hK K
                  refine norm_ (a' := ?_) ?_ ?_
                  rotate_left
                  · show Act.put _ (some 24) _ = _
                    simp only [Act.put, List.setIfInBounds_toArray, List.set_cons_zero, List.set_cons_succ, i64_w, i32_w]
                    rfl
                  exact norm_ (by simp only [putAll, Act.put, List.setIfInBounds_toArray, List.set_cons_zero, List.set_cons_succ]) (hCont (v318) _ ⟨(by (with_reducible repeat (first | apply Kd.R_alloc | apply Kd.R_drewN | apply Kd.R_drew)); exact HO319.out), (by repeat (first | (with_reducible first | exact HB.out | apply below_alloc | apply pw_below_drewN | apply below_drew1) | exact HB.out))⟩)
                · skip
                  refine goes_ Try.func29 (by kernel_rfl) rfl #[.int .i64 (wrap64 (Int.tdiv a0 128))] (by rfl) rfl rfl (by (try simp only [List.map_toArray, List.map_cons, List.map_nil]); first | done | rfl | (simp only [List.length_drop, List.length_take]; rfl)) ?_
                  with_reducible refine (ih kj1 (by have := HJ1.out; omega) (wrap64 (Int.tdiv a0 128)) t320 _ A10.out).mono ?_
                  rintro e w15 ⟨rfl, hb⟩
                  refine ⟨_, rfl, ?_⟩
                  have n0_ := Aside0.mk (Kd.R_below (by (with_reducible repeat (first | apply Kd.R_alloc | apply Kd.R_drewN | apply Kd.R_drew)); exact HO319.out) hb)
                  have n1_ := Aside0.mk (below_step (by repeat (first | (with_reducible first | exact HB.out | apply below_alloc | apply pw_below_drewN | apply below_drew1) | exact HB.out)) hb)
                  clear HO319
                  clear HB
                  have HO319 := n0_
                  have HB := n1_
                  clear n0_ n1_
                  (try clear hb)
                  (try clear hb2)
                  (try clear hk)
                  (try clear hi)
                  refine hK.out _ _ trivial (fun hHeld => ?_)
                  clear hK K
                  refine norm_ (a' := ?_) ?_ ?_
                  rotate_left
                  · show Act.put _ (some 24) _ = _
                    simp only [Act.put, List.setIfInBounds_toArray, List.set_cons_zero, List.set_cons_succ, i64_w, i32_w]
                    rfl
                  refine one_ (i := 5) (N := some 21) #[true, true, true, true, true, true, true, true, true, false, false] rfl rfl (one_of HT_.out (by kernel_rfl)) (by decide) (fun K hK => ?_)
                  have hcv16 := own_string (P := Try.prog) Try.underlying51 Try.underlying5 Try.underlying9 (Kd.own_of_R HO319.out)
                  refine value_ (w1 := ?_) (v := ?_) (by rfl) rfl ?_ ?_
                  rotate_left 2
                  · go_simp
                    constructor
                    · rfl
                    · rfl
                  clear hcv16
                  refine hK.out _ _ trivial (fun hHeld => ?_)
                  clear hK K
                  refine norm_ (a' := ?_) ?_ ?_
                  rotate_left
                  · show Act.put _ (some 21) _ = _
                    simp only [Act.put, List.setIfInBounds_toArray, List.set_cons_zero, List.set_cons_succ, i64_w, i32_w]
                    rfl
                  exact norm_ (by simp only [putAll, Act.put, List.setIfInBounds_toArray, List.set_cons_zero, List.set_cons_succ]) (hCont (v318) _ ⟨(by (with_reducible repeat (first | apply Kd.R_alloc | apply Kd.R_drewN | apply Kd.R_drew)); exact HO319.out), (by repeat (first | (with_reducible first | exact HB.out | apply below_alloc | apply pw_below_drewN | apply below_drew1) | exact HB.out))⟩)
              · skip
                refine goes_ Try.func29 (by kernel_rfl) rfl #[.int .i64 (wrap64 (Int.tdiv a0 128))] (by rfl) rfl rfl (by (try simp only [List.map_toArray, List.map_cons, List.map_nil]); first | done | rfl | (simp only [List.length_drop, List.length_take]; rfl)) ?_
                with_reducible refine (ih kj1 (by have := HJ1.out; omega) (wrap64 (Int.tdiv a0 128)) t320 _ A10.out).mono ?_
                rintro e w13 ⟨rfl, hb⟩
                refine ⟨_, rfl, ?_⟩
                have n0_ := Aside0.mk (below_step (by repeat (first | (with_reducible first | exact HB.out | apply below_alloc | apply pw_below_drewN | apply below_drew1) | exact HB.out)) hb)
                clear HB
                have HB := n0_
                clear n0_
                (try clear hb)
                (try clear hb2)
                (try clear hk)
                (try clear hi)
                refine hK.out _ _ trivial (fun hHeld => ?_)
                clear hK K
                refine norm_ (a' := ?_) ?_ ?_
                rotate_left
                · show Act.put _ (some 24) _ = _
                  simp only [Act.put, List.setIfInBounds_toArray, List.set_cons_zero, List.set_cons_succ, i64_w, i32_w]
                  rfl
                refine one_ (i := 4) (N := some 20) #[true, true, true, true, true, false, true, true, true, false, false] rfl rfl (one_of HT_.out (by kernel_rfl)) (by decide) (fun K hK => ?_)
                refine Kd.R_lit_step (Kd.int .u8) _ 5 ?hg (N := 20) ?hd (xs := ([(wrap64 (128 + (Int.tmod a0 128))) % 256] : List Int)) (inner := [.int .u8 ((wrap64 (128 + (Int.tmod a0 128))) % 256)]) (ok := fun _ => True) (okp := fun _ => True) ?hr ?hp (fun _ hk => hk) trivial (Below.refl _ _) (Nat.le_refl _) (by simp) ?_; (case hd => rfl); (case hg => rfl); (case hr => first | (go_simp; done) | (go_simp; rfl)); (case hp => exact (Reps.one (show Kd.M (Kd.int .u8) _ _ _ ((wrap64 (128 + (Int.tmod a0 128))) % 256) [.int .u8 ((wrap64 (128 + (Int.tmod a0 128))) % 256)] from rfl) (Reps.none _ _)))
                intro v318 w14 ho15 hb hg_ hnew_
                clear hg_ hnew_
                (first | rw [← Ny317.out] at ho15 | (simp only [Int.reduceToNat] at ho15; rw [← Ny317.out] at ho15))
                have n0_ := Aside0.mk (Kd.R_lower ho15 (below_size (by repeat (first | (with_reducible first | exact HB.out | apply below_alloc | apply pw_below_drewN | apply below_drew1) | exact HB.out))))
                have n1_ := Aside0.mk (below_step (by repeat (first | (with_reducible first | exact HB.out | apply below_alloc | apply pw_below_drewN | apply below_drew1) | exact HB.out)) hb)
                clear HB
                have HO319 := n0_
                have HB := n1_
                clear n0_ n1_
                clear hb ho15
                refine hK.out _ _ trivial (fun hHeld => ?_)
                clear hK K
                refine norm_ (a' := ?_) ?_ ?_
                rotate_left
                · show Act.put _ (some 20) _ = _
                  simp only [Act.put, List.setIfInBounds_toArray, List.set_cons_zero, List.set_cons_succ, i64_w, i32_w]
                  rfl
                refine one_ (i := 5) (N := some 21) #[true, true, true, true, true, true, true, true, true, false, false] rfl rfl (one_of HT_.out (by kernel_rfl)) (by decide) (fun K hK => ?_)
                have hcv16 := own_string (P := Try.prog) Try.underlying51 Try.underlying5 Try.underlying9 (Kd.own_of_R HO319.out)
                refine value_ (w1 := ?_) (v := ?_) (by rfl) rfl ?_ ?_
                rotate_left 2
                · go_simp
                  constructor
                  · rfl
                  · rfl
                clear hcv16
                refine hK.out _ _ trivial (fun hHeld => ?_)
                clear hK K
                refine norm_ (a' := ?_) ?_ ?_
                rotate_left
                · show Act.put _ (some 21) _ = _
                  simp only [Act.put, List.setIfInBounds_toArray, List.set_cons_zero, List.set_cons_succ, i64_w, i32_w]
                  rfl
                exact norm_ (by simp only [putAll, Act.put, List.setIfInBounds_toArray, List.set_cons_zero, List.set_cons_succ]) (hCont (v318) _ ⟨(by (with_reducible repeat (first | apply Kd.R_alloc | apply Kd.R_drewN | apply Kd.R_drew)); exact HO319.out), (by repeat (first | (with_reducible first | exact HB.out | apply below_alloc | apply pw_below_drewN | apply below_drew1) | exact HB.out))⟩)
            rintro v318 w17 ⟨h0_, h1_⟩
            have n0_ : Aside0 (Kd.R (Kd.int .u8) 5 w17 w.heap.size (fun _ => True) v318 y317) := ⟨h0_⟩
            have n1_ : Aside0 (Below w.heap.size w w17) := ⟨h1_⟩
            clear HB
            clear h0_ h1_
            have HO319 := n0_
            have HB := n1_
            clear n0_ n1_
            have hHeld := trivial
            refine norm_ (a' := ?_) ?_ ?_
            rotate_left
            · simp only [putAll, Act.put, List.setIfInBounds_toArray, List.set_cons_zero, List.set_cons_succ]
              rfl
            refine pure_ (i := 9) (N := some 25) (v := ?_) (a' := ?_) #[true, true, true, true, true, true, true, true, true, true, false] rfl rfl (any_of HT_.out (by kernel_rfl)) (fun _ _ _ h => h) (Or.inl ⟨by rfl, ?_⟩) ?_ ?_
            rotate_left
            · intro w'
              go_simp
              with_reducible rfl
            rotate_left
            · simp only [Act.put, List.setIfInBounds_toArray, List.set_cons_zero, List.set_cons_succ, i64_w, i32_w]
              rfl
            refine pure_ (i := 10) (N := some 2) (v := ?_) (a' := ?_) #[true, true, true, true, true, true, true, true, true, true, true] rfl rfl (any_of HT_.out (by kernel_rfl)) (fun _ _ _ h => h) (Or.inl ⟨by rfl, ?_⟩) ?_ ?_
            rotate_left
            · intro w'
              go_simp
              with_reducible rfl
            rotate_left
            · simp only [Act.put, List.setIfInBounds_toArray, List.set_cons_zero, List.set_cons_succ, i64_w, i32_w]
              rfl
            refine done_ (done_of HT_.out (by kernel_rfl)) ?_
            try go_wp2
            go_ret
            exact ⟨by first | rfl | (simp [errW_none, errW_some] <;> rfl) | (simp [*, errW_none, errW_some] <;> rfl), by repeat (first | (with_reducible first | exact HB.out | apply below_alloc | apply pw_below_drewN | apply below_drew1) | exact HB.out)⟩
          · rw [if_neg c11] at H
            exact absurd H (by simp)
/-! ### sluicegateref05_Text: function 30 -/
def sluicegateref05_Text.f (k : Nat) (a0 : ByteArray) : Option (ByteArray) := (sluicegateref05_Number.f k (a0.size : Int)).bind fun t321 => (if t321.size + a0.size ≤ 9223372036854775807 then (some (t321 ++ a0)) else (none))
theorem sluicegateref05_Text.mono : ∀ a0 k, LeO (sluicegateref05_Text.f k a0) (sluicegateref05_Text.f (k + 1) a0) := by
  intro a0 k
  unfold sluicegateref05_Text.f
  repeat' first
      | (with_reducible exact sluicegateref05_Number.mono _ _)
      | (with_reducible exact LeO.refl _)
      | (with_reducible exact LeO.none _)
      | (with_reducible refine LeO.ite ?_ ?_)
      | (with_reducible refine LeO.bind ?_ (fun _ => ?_))
      | exact sluicegateref05_Number.mono _ _
      | exact LeO.none _
      | refine LeO.ite ?_ ?_
      | refine LeO.bind ?_ (fun _ => ?_)
set_option maxHeartbeats 8000000 in
set_option maxRecDepth 100000 in
theorem sluicegateref05_Text.calls (k : Nat) (a0 : ByteArray) (r : ByteArray) (w : World) (h : sluicegateref05_Text.f k a0 = some r) :
    Calls Try.prog 30 #[.string a0] w fun e w' => e = .returned (.string r) ∧ Below w.heap.size w w' := by
  have HB := Aside0.mk (Below.refl w.heap.size w)
  have H : ((sluicegateref05_Number.f k (a0.size : Int)).bind fun t321 => (if t321.size + a0.size ≤ 9223372036854775807 then (some (t321 ++ a0)) else (none))) = some r := h
  clear h
  replace H := Option.bind_eq_some_iff.mp H
  obtain ⟨t321, A20, H⟩ := H
  replace H : (if t321.size + a0.size ≤ 9223372036854775807 then (some (t321 ++ a0)) else (none)) = some r := H
  have A2 := Aside0.mk A20
  clear A20
  by_cases c3 : t321.size + a0.size ≤ 9223372036854775807
  · rw [if_pos c3] at H
    have c3b0 := eq_true c3
    have c3b1 : decide (t321.size + a0.size ≤ 9223372036854775807) = true := decide_eq_true c3
    try have c3b2 : (9223372036854775807 < t321.size + a0.size) = False := eq_false (Nat.not_lt.2 c3)
    obtain rfl := Option.some.inj H
    go_enter Try.func30, Try.ntmps30
    go_wp2_with (first | ((with_reducible refine gate_callee (f := 29) rfl ?_); refine goesL_ (some 5) rfl rfl Try.func29 (by kernel_rfl) rfl #[.int .i64 (a0.size : Int)] rfl (by (try simp only [List.map_toArray, List.map_cons, List.map_nil]); first | done | rfl | (simp only [List.length_drop, List.length_take]; rfl)) ?_; (with_reducible refine (sluicegateref05_Number.calls k (a0.size : Int) t321 _ A2.out).mono ?_); rintro e w4 ⟨rfl, hb⟩; refine ⟨_, rfl, ?_⟩; have n0_ := Aside0.mk (below_step (by repeat (first | (with_reducible first | exact HB.out | apply below_alloc | apply pw_below_drewN | apply below_drew1) | exact HB.out)) hb); clear HB; have HB := n0_; clear n0_; (try clear hb); (try clear hb2); (try clear hk); (try clear hi)))
    go_ret
    exact ⟨by first | rfl | (simp [errW_none, errW_some] <;> rfl) | (simp [*, errW_none, errW_some] <;> rfl), by repeat (first | (with_reducible first | exact HB.out | apply below_alloc | apply pw_below_drewN | apply below_drew1) | exact HB.out)⟩
  · rw [if_neg c3] at H
    exact absurd H (by simp)
-- NOT PRINTED: function 3 (sluicegatelaw11_RecordWrites)
/-! ### sluicegateref04_Open: function 47 -/
def sluicegateref04_Open.f (a0 : ByteArray) : Option (ByteArray × Int) := if (a0.size : Int) < 4 then (some ((⟨#[]⟩ : ByteArray), 3)) else (if 0 ≤ (wrap64 ((a0.size : Int) - 4)) then (if (wrap64 ((a0.size : Int) - 4)) ≤ (a0.size : Int) then ((sluicegateref04_Seal.f (a0.extract 0 ((wrap64 ((a0.size : Int) - 4)) : Int).toNat)).bind fun t345 => (if t345.toList = a0.toList then (some (a0.extract 0 ((wrap64 ((a0.size : Int) - 4)) : Int).toNat, 0)) else (some ((⟨#[]⟩ : ByteArray), 5)))) else (none)) else (none))
set_option maxHeartbeats 8000000 in
set_option maxRecDepth 100000 in
theorem sluicegateref04_Open.calls (a0 : ByteArray) (r1 : ByteArray) (r2 : Int) (w : World) (h : sluicegateref04_Open.f a0 = some (r1, r2)) :
    Calls Try.prog 47 #[.string a0] w fun e w' => e = .returned (.tuple #[.string r1, .int .i64 r2]) ∧ Below w.heap.size w w' := by
  have HB := Aside0.mk (Below.refl w.heap.size w)
  have H : (if (a0.size : Int) < 4 then (some ((⟨#[]⟩ : ByteArray), 3)) else (if 0 ≤ (wrap64 ((a0.size : Int) - 4)) then (if (wrap64 ((a0.size : Int) - 4)) ≤ (a0.size : Int) then ((sluicegateref04_Seal.f (a0.extract 0 ((wrap64 ((a0.size : Int) - 4)) : Int).toNat)).bind fun t345 => (if t345.toList = a0.toList then (some (a0.extract 0 ((wrap64 ((a0.size : Int) - 4)) : Int).toNat, 0)) else (some ((⟨#[]⟩ : ByteArray), 5)))) else (none)) else (none))) = some (r1, r2) := h
  clear h
  by_cases c2 : (a0.size : Int) < 4
  · rw [if_pos c2] at H
    have c2b0 : decide ((a0.size : Int) < 4) = true := decide_eq_true c2
    have c2b1 : decide (a0.size < 4) = true := decide_eq_true (by omega)
    clear c2
    simp only [Option.some.injEq, Prod.mk.injEq] at H
    obtain ⟨rfl, rfl⟩ := H
    go_enter Try.func47, Try.ntmps47
    go_wp2
    go_ret2
    exact ⟨by first | rfl | (simp [errW_none, errW_some] <;> rfl) | (simp [*, errW_none, errW_some] <;> rfl), by repeat (first | (with_reducible first | exact HB.out | apply below_alloc | apply pw_below_drewN | apply below_drew1) | exact HB.out)⟩
  · rw [if_neg c2] at H
    have c2b0 : decide ((a0.size : Int) < 4) = false := decide_eq_false c2
    have c2b1 : decide (a0.size < 4) = false := decide_eq_false (by omega)
    clear c2
    obtain ⟨ji3, hji3⟩ : ∃ j_ : Int, (wrap64 ((a0.size : Int) - 4)) = j_ := ⟨_, rfl⟩
    replace H : (if 0 ≤ (ji3) then (if (ji3) ≤ (a0.size : Int) then ((sluicegateref04_Seal.f (a0.extract 0 ((ji3) : Int).toNat)).bind fun t345 => (if t345.toList = a0.toList then (some (a0.extract 0 ((ji3) : Int).toNat, 0)) else (some ((⟨#[]⟩ : ByteArray), 5)))) else (none)) else (none)) = some (r1, r2) := by first | (rw [hji3] at H; exact H) | (simp only [hji3] at H ⊢; exact H)
    have hji3w : (IntKind.i64.wrap ((a0.size : Int) - 4)) = ji3 := (i64_w _).trans hji3
    by_cases c4 : 0 ≤ (ji3)
    · rw [if_pos c4] at H
      have c4b0 := eq_true c4
      have c4b1 : decide (0 ≤ (ji3)) = true := decide_eq_true c4
      clear c4
      by_cases c5 : (ji3) ≤ (a0.size : Int)
      · rw [if_pos c5] at H
        have c5b0 := eq_true c5
        have c5b1 : decide ((ji3) ≤ (a0.size : Int)) = true := decide_eq_true c5
        clear c5
        replace H := Option.bind_eq_some_iff.mp H
        obtain ⟨t345, A60, H⟩ := H
        replace H : (if t345.toList = a0.toList then (some (a0.extract 0 ((ji3) : Int).toNat, 0)) else (some ((⟨#[]⟩ : ByteArray), 5))) = some (r1, r2) := H
        have A6 := Aside0.mk A60
        clear A60
        by_cases c7 : t345.toList = a0.toList
        · rw [if_pos c7] at H
          have c7b0 : (t345.toList == a0.toList) = true := beq_iff_eq.mpr c7
          have c7b1 : (t345.toList != a0.toList) = false := bne_eq_false_iff_eq.mpr c7
          clear c7
          simp only [Option.some.injEq, Prod.mk.injEq] at H
          obtain ⟨rfl, rfl⟩ := H
          go_enter Try.func47, Try.ntmps47
          go_wp2_with (first | ((with_reducible refine gate_callee (f := 18) rfl ?_); refine goesL_ (some 14) rfl rfl Try.func18 (by kernel_rfl) rfl #[.string (a0.extract 0 ((ji3) : Int).toNat)] rfl (by (try simp only [List.map_toArray, List.map_cons, List.map_nil]); first | done | (simp only [hji3]; rfl) | rfl | (simp only [List.length_drop, List.length_take]; rfl)) ?_; (with_reducible refine (sluicegateref04_Seal.calls (a0.extract 0 ((ji3) : Int).toNat) t345 _ A6.out).mono ?_); rintro e w8 ⟨rfl, hb⟩; refine ⟨_, rfl, ?_⟩; have n0_ := Aside0.mk (below_step (by repeat (first | (with_reducible first | exact HB.out | apply below_alloc | apply pw_below_drewN | apply below_drew1) | exact HB.out)) hb); clear HB; have HB := n0_; clear n0_; (try clear hb); (try clear hb2); (try clear hk); (try clear hi)))
          go_ret2
          exact ⟨by first | rfl | (simp [errW_none, errW_some] <;> rfl) | (simp only [← hji3]; first | rfl | (simp [errW_none, errW_some] <;> rfl)) | (simp [*, errW_none, errW_some] <;> rfl), by repeat (first | (with_reducible first | exact HB.out | apply below_alloc | apply pw_below_drewN | apply below_drew1) | exact HB.out)⟩
        · rw [if_neg c7] at H
          have c7b0 : (t345.toList == a0.toList) = false := beq_eq_false_iff_ne.mpr c7
          have c7b1 : (t345.toList != a0.toList) = true := bne_iff_ne.mpr c7
          simp only [Option.some.injEq, Prod.mk.injEq] at H
          obtain ⟨rfl, rfl⟩ := H
          go_enter Try.func47, Try.ntmps47
          go_wp2_with (first | ((with_reducible refine gate_callee (f := 18) rfl ?_); refine goesL_ (some 14) rfl rfl Try.func18 (by kernel_rfl) rfl #[.string (a0.extract 0 ((ji3) : Int).toNat)] rfl (by (try simp only [List.map_toArray, List.map_cons, List.map_nil]); first | done | (simp only [hji3]; rfl) | rfl | (simp only [List.length_drop, List.length_take]; rfl)) ?_; (with_reducible refine (sluicegateref04_Seal.calls (a0.extract 0 ((ji3) : Int).toNat) t345 _ A6.out).mono ?_); rintro e w9 ⟨rfl, hb⟩; refine ⟨_, rfl, ?_⟩; have n0_ := Aside0.mk (below_step (by repeat (first | (with_reducible first | exact HB.out | apply below_alloc | apply pw_below_drewN | apply below_drew1) | exact HB.out)) hb); clear HB; have HB := n0_; clear n0_; (try clear hb); (try clear hb2); (try clear hk); (try clear hi)))
          go_ret2
          exact ⟨by first | rfl | (simp [errW_none, errW_some] <;> rfl) | (simp only [← hji3]; first | rfl | (simp [errW_none, errW_some] <;> rfl)) | (simp [*, errW_none, errW_some] <;> rfl), by repeat (first | (with_reducible first | exact HB.out | apply below_alloc | apply pw_below_drewN | apply below_drew1) | exact HB.out)⟩
      · rw [if_neg c5] at H
        exact absurd H (by simp)
    · rw [if_neg c4] at H
      exact absurd H (by simp)
end Go.Proofs.Ytkceobahefjlnaa.Q
end
section
/- Functions of the translation told as plain Lean functions, and that the calls come to just these. Written by a program of this session, which drives print.py; not a text of print.sh. -/
namespace Go.Proofs.Ytkceobahefjlnaa.Q
open Go.RowKit Go.Proofs.YtkceobahefjlnaaW.PrintWords Go.Proofs.YtkceobahefjlnaaW.PrintLast Go.Proofs.YtkceobahefjlnaaW.PrintMore
attribute [local go_sem] max2_int min2_int max_two min_two max_three min_three max_four min_four   -- for this text's walks alone
set_option linter.unusedVariables false
set_option linter.unusedSimpArgs false
/-! ### sluicegateref05_Take: function 64 -/
mutual
def sluicegateref05_Take.l0 : Nat → ByteArray → Int → Int → Option (Int × ByteArray × Int)
  | 0, _, _, _ => none
  | k + 1, x0, x5, x6 => if x6 < (x0.size : Int) then (if x6 = 7 then (if 0 ≤ x6 then (sluicegateref05_Take.j1 k x0 x5 x6 (decide ((bt x0 x6) ≥ 128))) else (none)) else (sluicegateref05_Take.j1 k x0 x5 x6 false)) else (some (0, (⟨#[]⟩ : ByteArray), 3))
def sluicegateref05_Take.j1 : Nat → ByteArray → Int → Int → Bool → Option (Int × ByteArray × Int)
  | 0, _, _, _, _ => none
  | k + 1, x0, x5, x6, x20 => if x20 = true then (some (0, (⟨#[]⟩ : ByteArray), 4)) else (if 0 ≤ x6 then (if x6 < (x0.size : Int) then (if 0 ≤ (IntKind.u64.wrap (wrap64 (7 * x6))) then (if (bt x0 x6) < 128 then (if (bt x0 x6) = 0 then (if x6 > 0 then (some (0, (⟨#[]⟩ : ByteArray), 4)) else (if 0 ≤ (wrap64 (x6 + 1)) then (if (wrap64 (x6 + 1)) ≤ (x0.size : Int) then (some (wrap64 (x5 + (shl .i64 (wrap64 (Int.tmod (bt x0 x6) 128)) (IntKind.u64.wrap (wrap64 (7 * x6))))), x0.extract ((wrap64 (x6 + 1)) : Int).toNat x0.size, 0)) else (none)) else (none))) else (if 0 ≤ (wrap64 (x6 + 1)) then (if (wrap64 (x6 + 1)) ≤ (x0.size : Int) then (some (wrap64 (x5 + (shl .i64 (wrap64 (Int.tmod (bt x0 x6) 128)) (IntKind.u64.wrap (wrap64 (7 * x6))))), x0.extract ((wrap64 (x6 + 1)) : Int).toNat x0.size, 0)) else (none)) else (none))) else (sluicegateref05_Take.l0 k x0 (wrap64 (x5 + (shl .i64 (wrap64 (Int.tmod (bt x0 x6) 128)) (IntKind.u64.wrap (wrap64 (7 * x6)))))) (wrap64 (x6 + 1)))) else (none)) else (none)) else (none))
end
def sluicegateref05_Take.f (k : Nat) (a0 : ByteArray) : Option (Int × ByteArray × Int) := sluicegateref05_Take.l0 k a0 0 0
theorem sluicegateref05_Take.mono_l : ∀ k, (∀ y0 y1 y2, LeO (sluicegateref05_Take.l0 k y0 y1 y2) (sluicegateref05_Take.l0 (k + 1) y0 y1 y2)) ∧ (∀ y0 y1 y2 y3, LeO (sluicegateref05_Take.j1 k y0 y1 y2 y3) (sluicegateref05_Take.j1 (k + 1) y0 y1 y2 y3))
  | 0 => ⟨fun _ _ _ r h => by simp [sluicegateref05_Take.l0] at h, fun _ _ _ _ r h => by simp [sluicegateref05_Take.j1] at h⟩
  | k + 1 => by
    obtain ⟨ih0, ih1⟩ := sluicegateref05_Take.mono_l k
    refine ⟨?_, ?_⟩
    · intro y0 y1 y2
      unfold sluicegateref05_Take.l0
      repeat' first
      | (with_reducible exact ih0 _ _ _)
      | (with_reducible exact ih1 _ _ _ _)
      | (with_reducible exact LeO.refl _)
      | (with_reducible exact LeO.none _)
      | (with_reducible refine LeO.ite ?_ ?_)
      | (with_reducible refine LeO.bind ?_ (fun _ => ?_))
      | exact ih0 _ _ _
      | exact ih1 _ _ _ _
      | exact LeO.none _
      | refine LeO.ite ?_ ?_
      | refine LeO.bind ?_ (fun _ => ?_)
    · intro y0 y1 y2 y3
      unfold sluicegateref05_Take.j1
      repeat' first
      | (with_reducible exact ih0 _ _ _)
      | (with_reducible exact ih1 _ _ _ _)
      | (with_reducible exact LeO.refl _)
      | (with_reducible exact LeO.none _)
      | (with_reducible refine LeO.ite ?_ ?_)
      | (with_reducible refine LeO.bind ?_ (fun _ => ?_))
      | exact ih0 _ _ _
      | exact ih1 _ _ _ _
      | exact LeO.none _
      | refine LeO.ite ?_ ?_
      | refine LeO.bind ?_ (fun _ => ?_)
theorem sluicegateref05_Take.mono : ∀ a0 k, LeO (sluicegateref05_Take.f k a0) (sluicegateref05_Take.f (k + 1) a0) := by
  intro a0 k
  obtain ⟨ih0, ih1⟩ := sluicegateref05_Take.mono_l k
  unfold sluicegateref05_Take.f
  repeat' first
      | (with_reducible exact ih0 _ _ _)
      | (with_reducible exact ih1 _ _ _ _)
      | (with_reducible exact LeO.refl _)
      | (with_reducible exact LeO.none _)
      | (with_reducible refine LeO.ite ?_ ?_)
      | (with_reducible refine LeO.bind ?_ (fun _ => ?_))
      | exact ih0 _ _ _
      | exact ih1 _ _ _ _
      | exact LeO.none _
      | refine LeO.ite ?_ ?_
      | refine LeO.bind ?_ (fun _ => ?_)
set_option maxHeartbeats 8000000 in
set_option maxRecDepth 100000 in
theorem sluicegateref05_Take.calls (k : Nat) (a0 : ByteArray) (r1 : Int) (r2 : ByteArray) (r3 : Int) (w : World) (h : sluicegateref05_Take.f k a0 = some (r1, r2, r3)) :
    Calls Try.prog 64 #[.string a0] w fun e w' => e = .returned (.tuple #[.int .i64 r1, .string r2, .int .i64 r3]) ∧ Drawn0 w w' := by
  have H : (sluicegateref05_Take.l0 k a0 0 0) = some (r1, r2, r3) := h
  clear h
  have H' := Aside0.mk H
  clear H
  go_enter Try.func64, Try.ntmps64
  go_wp2
  repeat (go_quiet (fail); try go_wp2)
  go_loopg [5, 6] k (fun kq v5 v6 w' => ∃ (x5_1 : Int) (x6_1 : Int), v5 = .int .i64 x5_1 ∧ v6 = .int .i64 x6_1 ∧ Aside0 (sluicegateref05_Take.l0 kq a0 x5_1 x6_1 = some (r1, r2, r3)) ∧ Aside0 (kq ≤ k) ∧ Drawn0 w w')
  case atStart => exact ⟨(0), (0), (by first | rfl | (simp; done) | (simp [*]; done)), (by first | rfl | (simp; done) | (simp [*]; done)), H', ⟨Nat.le_refl _⟩, by repeat (first | exact Drawn0.refl _ | apply Drawn0.step)⟩
  case round =>
    clear H'
    obtain ⟨x5_1, x6_1, rfl, rfl, HA, HK1, ⟨m1, rfl⟩⟩ := hrel
    cases gk with
    | zero => exact absurd HA.out (by simp [sluicegateref05_Take.l0])
    | succ k1 =>
      have H := HA.out
      clear HA
      simp only [sluicegateref05_Take.l0] at H
      by_cases c2 : x6_1 < (a0.size : Int)
      · rw [if_pos c2] at H
        have c2b0 : decide (x6_1 < (a0.size : Int)) = true := decide_eq_true c2
        clear c2
        have HC3 := Aside0.mk H
        clear H
        go_upto_region 5 with (fail)
        repeat (go_quiet (fail); go_upto_region 5 with (fail))
        go_cut [20] (fun v20 wc => ∃ (kq : Nat) (x20_2 : Bool), v20 = .bool x20_2 ∧ Aside0 (sluicegateref05_Take.j1 kq a0 x5_1 x6_1 x20_2 = some (r1, r2, r3)) ∧ Aside0 (kq ≤ k1) ∧ Drawn0 w wc)
        case first =>
          have H := HC3.out
          clear HC3
          by_cases c4 : x6_1 = 7
          · rw [if_pos c4] at H
            have c4b0 : (x6_1 == 7) = true := beq_iff_eq.mpr c4
            have c4b1 : (x6_1 != 7) = false := bne_eq_false_iff_eq.mpr c4
            clear c4
            (first | rw [c4b0] | (simp only [i64_w, i32_w]; rw [c4b0]) | skip)
            by_cases c5 : 0 ≤ x6_1
            · rw [if_pos c5] at H
              have c5b0 : decide (0 ≤ x6_1) = true := decide_eq_true c5
              clear c5
              have H' := Aside0.mk H
              clear H
              have p6 : 0 ≤ (x6_1 : Int) := of_decide_eq_true (by first | (with_reducible assumption) | assumption)
              have q6 : x6_1 < (a0.size : Int) := of_decide_eq_true (by first | (with_reducible assumption) | assumption)
              have hx6 := bt_at a0 x6_1
              replace p6 := eq_true p6
              replace q6 := eq_true q6
              go_wp2
              repeat (go_quiet (fail); try go_wp2)
              go_meet
              case rel => exact ⟨_, (decide ((bt a0 x6_1) ≥ 128)), (by first | rfl | (simp; done) | (simp [*]; done)), H', ⟨by have := HK1.out; first | omega | exact Nat.le_refl _⟩, by repeat (first | exact Drawn0.refl _ | apply Drawn0.step)⟩
            · rw [if_neg c5] at H
              exact absurd H (by simp)
          · rw [if_neg c4] at H
            have c4b0 : (x6_1 == 7) = false := beq_eq_false_iff_ne.mpr c4
            have c4b1 : (x6_1 != 7) = true := bne_iff_ne.mpr c4
            (first | rw [c4b0] | (simp only [i64_w, i32_w]; rw [c4b0]) | skip)
            have H' := Aside0.mk H
            clear H
            go_wp2
            repeat (go_quiet (fail); try go_wp2)
            go_meet
            case rel => exact ⟨_, (false), (by first | rfl | (simp; done) | (simp [*]; done)), H', ⟨by have := HK1.out; first | omega | exact Nat.le_refl _⟩, by repeat (first | exact Drawn0.refl _ | apply Drawn0.step)⟩
        case rest =>
          clear HC3
          try clear c2
          try clear c2b0
          try clear p2
          try clear c4
          try clear c4b0
          try clear c4b1
          try clear c5
          try clear c5b0
          try clear c6
          try clear p6
          try clear q6
          try clear hx6
          try clear p6
          try clear q6
          obtain ⟨kq, x20_2, rfl, HA, HJ2, ⟨mc2, rfl⟩⟩ := hcut
          cases kq with
          | zero => exact absurd HA.out (by simp [sluicegateref05_Take.j1])
          | succ kj2 =>
            have H := HA.out
            clear HA
            simp only [sluicegateref05_Take.j1] at H
            by_cases c7 : x20_2 = true
            · subst c7
              have H1 : (some (0, (⟨#[]⟩ : ByteArray), 4)) = some (r1, r2, r3) := by rw [if_pos rfl] at H; exact H
              clear H
              have H := H1
              clear H1
              simp only [Option.some.injEq, Prod.mk.injEq] at H
              obtain ⟨rfl, rfl, rfl⟩ := H
              go_wp2
              repeat (go_quiet (fail); try go_wp2)
              go_ret3
              exact ⟨by first | rfl | (simp; done) | (simp [*]; done), by repeat (first | exact Drawn0.refl _ | apply Drawn0.step)⟩
            · replace c7 := Bool.eq_false_iff.mpr c7
              subst c7
              have H1 : (if 0 ≤ x6_1 then (if x6_1 < (a0.size : Int) then (if 0 ≤ (IntKind.u64.wrap (wrap64 (7 * x6_1))) then (if (bt a0 x6_1) < 128 then (if (bt a0 x6_1) = 0 then (if x6_1 > 0 then (some (0, (⟨#[]⟩ : ByteArray), 4)) else (if 0 ≤ (wrap64 (x6_1 + 1)) then (if (wrap64 (x6_1 + 1)) ≤ (a0.size : Int) then (some (wrap64 (x5_1 + (shl .i64 (wrap64 (Int.tmod (bt a0 x6_1) 128)) (IntKind.u64.wrap (wrap64 (7 * x6_1))))), a0.extract ((wrap64 (x6_1 + 1)) : Int).toNat a0.size, 0)) else (none)) else (none))) else (if 0 ≤ (wrap64 (x6_1 + 1)) then (if (wrap64 (x6_1 + 1)) ≤ (a0.size : Int) then (some (wrap64 (x5_1 + (shl .i64 (wrap64 (Int.tmod (bt a0 x6_1) 128)) (IntKind.u64.wrap (wrap64 (7 * x6_1))))), a0.extract ((wrap64 (x6_1 + 1)) : Int).toNat a0.size, 0)) else (none)) else (none))) else (sluicegateref05_Take.l0 kj2 a0 (wrap64 (x5_1 + (shl .i64 (wrap64 (Int.tmod (bt a0 x6_1) 128)) (IntKind.u64.wrap (wrap64 (7 * x6_1)))))) (wrap64 (x6_1 + 1)))) else (none)) else (none)) else (none)) = some (r1, r2, r3) := by rw [if_neg (show ¬ (false = true) by decide)] at H; exact H
              clear H
              have H := H1
              clear H1
              by_cases c8 : 0 ≤ x6_1
              · rw [if_pos c8] at H
                have c8b0 : decide (0 ≤ x6_1) = true := decide_eq_true c8
                clear c8
                by_cases c9 : x6_1 < (a0.size : Int)
                · rw [if_pos c9] at H
                  have c9b0 : decide (x6_1 < (a0.size : Int)) = true := decide_eq_true c9
                  clear c9
                  obtain ⟨ji11, hji11⟩ : ∃ j_ : Int, (IntKind.u64.wrap (wrap64 (7 * x6_1))) = j_ := ⟨_, rfl⟩
                  replace H : (if 0 ≤ (ji11) then (if (bt a0 x6_1) < 128 then (if (bt a0 x6_1) = 0 then (if x6_1 > 0 then (some (0, (⟨#[]⟩ : ByteArray), 4)) else (if 0 ≤ (wrap64 (x6_1 + 1)) then (if (wrap64 (x6_1 + 1)) ≤ (a0.size : Int) then (some (wrap64 (x5_1 + (shl .i64 (wrap64 (Int.tmod (bt a0 x6_1) 128)) (ji11))), a0.extract ((wrap64 (x6_1 + 1)) : Int).toNat a0.size, 0)) else (none)) else (none))) else (if 0 ≤ (wrap64 (x6_1 + 1)) then (if (wrap64 (x6_1 + 1)) ≤ (a0.size : Int) then (some (wrap64 (x5_1 + (shl .i64 (wrap64 (Int.tmod (bt a0 x6_1) 128)) (ji11))), a0.extract ((wrap64 (x6_1 + 1)) : Int).toNat a0.size, 0)) else (none)) else (none))) else (sluicegateref05_Take.l0 kj2 a0 (wrap64 (x5_1 + (shl .i64 (wrap64 (Int.tmod (bt a0 x6_1) 128)) (ji11)))) (wrap64 (x6_1 + 1)))) else (none)) = some (r1, r2, r3) := by first | (rw [hji11] at H; exact H) | (simp only [hji11] at H ⊢; exact H)
                  by_cases c12 : 0 ≤ (ji11)
                  · rw [if_pos c12] at H
                    have c12b0 := eq_true c12
                    have c12b1 : decide (0 ≤ (ji11)) = true := decide_eq_true c12
                    clear c12
                    obtain ⟨ji13, hji13⟩ : ∃ j_ : Int, (shl .i64 (wrap64 (Int.tmod (bt a0 x6_1) 128)) (ji11)) = j_ := ⟨_, rfl⟩
                    replace H : (if (bt a0 x6_1) < 128 then (if (bt a0 x6_1) = 0 then (if x6_1 > 0 then (some (0, (⟨#[]⟩ : ByteArray), 4)) else (if 0 ≤ (wrap64 (x6_1 + 1)) then (if (wrap64 (x6_1 + 1)) ≤ (a0.size : Int) then (some (wrap64 (x5_1 + (ji13)), a0.extract ((wrap64 (x6_1 + 1)) : Int).toNat a0.size, 0)) else (none)) else (none))) else (if 0 ≤ (wrap64 (x6_1 + 1)) then (if (wrap64 (x6_1 + 1)) ≤ (a0.size : Int) then (some (wrap64 (x5_1 + (ji13)), a0.extract ((wrap64 (x6_1 + 1)) : Int).toNat a0.size, 0)) else (none)) else (none))) else (sluicegateref05_Take.l0 kj2 a0 (wrap64 (x5_1 + (ji13))) (wrap64 (x6_1 + 1)))) = some (r1, r2, r3) := by first | (rw [hji13] at H; exact H) | (simp only [hji13] at H ⊢; exact H)
                    have hji13_ : (IntKind.i64.wrap ((wrap64 (Int.tmod (bt a0 x6_1) 128)) * 2 ^ min (ji11).toNat 64)) = ji13 := hji13
                    have hji13z : (ji11) ≤ 64 → (IntKind.i64.wrap ((wrap64 (Int.tmod (bt a0 x6_1) 128)) * 2 ^ (ji11).toNat)) = ji13 := shl_small hji13
                    have hji13y : (wrap64 ((wrap64 (Int.tmod (bt a0 x6_1) 128)) * 2 ^ min (ji11).toNat 64)) = ji13 := (i64_w _).symm.trans hji13_
                    have hji13x : (ji11) ≤ 64 → (wrap64 ((wrap64 (Int.tmod (bt a0 x6_1) 128)) * 2 ^ (ji11).toNat)) = ji13 := fun h_ => (i64_w _).symm.trans (hji13z h_)
                    by_cases c15 : (bt a0 x6_1) < 128
                    · rw [if_pos c15] at H
                      have c15b0 : decide ((bt a0 x6_1) < 128) = true := decide_eq_true c15
                      clear c15
                      by_cases c17 : (bt a0 x6_1) = 0
                      · rw [if_pos c17] at H
                        have c17b0 : ((bt a0 x6_1) == 0) = true := beq_iff_eq.mpr c17
                        have c17b1 : ((bt a0 x6_1) != 0) = false := bne_eq_false_iff_eq.mpr c17
                        clear c17
                        by_cases c18 : x6_1 > 0
                        · rw [if_pos c18] at H
                          have c18b0 : decide (0 < x6_1) = true := decide_eq_true c18
                          clear c18
                          simp only [Option.some.injEq, Prod.mk.injEq] at H
                          obtain ⟨rfl, rfl, rfl⟩ := H
                          have p10 : 0 ≤ (x6_1 : Int) := of_decide_eq_true (by first | (with_reducible assumption) | assumption)
                          have q10 : x6_1 < (a0.size : Int) := of_decide_eq_true (by first | (with_reducible assumption) | assumption)
                          have hx10 := bt_at a0 x6_1
                          replace p10 := eq_true p10
                          replace q10 := eq_true q10
                          have p14 : 0 ≤ (x6_1 : Int) := of_decide_eq_true (by first | (with_reducible assumption) | assumption)
                          have q14 : x6_1 < (a0.size : Int) := of_decide_eq_true (by first | (with_reducible assumption) | assumption)
                          have hx14 := bt_at a0 x6_1
                          replace p14 := eq_true p14
                          replace q14 := eq_true q14
                          have p16 : 0 ≤ (x6_1 : Int) := of_decide_eq_true (by first | (with_reducible assumption) | assumption)
                          have q16 : x6_1 < (a0.size : Int) := of_decide_eq_true (by first | (with_reducible assumption) | assumption)
                          have hx16 := bt_at a0 x6_1
                          replace p16 := eq_true p16
                          replace q16 := eq_true q16
                          go_wp2
                          repeat (go_quiet (fail); try go_wp2)
                          go_ret3
                          exact ⟨by first | rfl | (simp; done) | (simp only [← hji11, ← hji13] <;> (first | rfl | simp)) | (simp [*]; done), by repeat (first | exact Drawn0.refl _ | apply Drawn0.step)⟩
                        · rw [if_neg c18] at H
                          have c18b0 : decide (0 < x6_1) = false := decide_eq_false c18
                          clear c18
                          obtain ⟨ji19, hji19⟩ : ∃ j_ : Int, (wrap64 (x6_1 + 1)) = j_ := ⟨_, rfl⟩
                          replace H : (if 0 ≤ (ji19) then (if (ji19) ≤ (a0.size : Int) then (some (wrap64 (x5_1 + (ji13)), a0.extract ((ji19) : Int).toNat a0.size, 0)) else (none)) else (none)) = some (r1, r2, r3) := by first | (rw [hji19] at H; exact H) | (simp only [hji19] at H ⊢; exact H)
                          have hji19w : (IntKind.i64.wrap (x6_1 + 1)) = ji19 := (i64_w _).trans hji19
                          by_cases c20 : 0 ≤ (ji19)
                          · rw [if_pos c20] at H
                            have c20b0 := eq_true c20
                            have c20b1 : decide (0 ≤ (ji19)) = true := decide_eq_true c20
                            clear c20
                            by_cases c21 : (ji19) ≤ (a0.size : Int)
                            · rw [if_pos c21] at H
                              have c21b0 := eq_true c21
                              have c21b1 : decide ((ji19) ≤ (a0.size : Int)) = true := decide_eq_true c21
                              clear c21
                              simp only [Option.some.injEq, Prod.mk.injEq] at H
                              obtain ⟨rfl, rfl, rfl⟩ := H
                              have p10 : 0 ≤ (x6_1 : Int) := of_decide_eq_true (by first | (with_reducible assumption) | assumption)
                              have q10 : x6_1 < (a0.size : Int) := of_decide_eq_true (by first | (with_reducible assumption) | assumption)
                              have hx10 := bt_at a0 x6_1
                              replace p10 := eq_true p10
                              replace q10 := eq_true q10
                              have p14 : 0 ≤ (x6_1 : Int) := of_decide_eq_true (by first | (with_reducible assumption) | assumption)
                              have q14 : x6_1 < (a0.size : Int) := of_decide_eq_true (by first | (with_reducible assumption) | assumption)
                              have hx14 := bt_at a0 x6_1
                              replace p14 := eq_true p14
                              replace q14 := eq_true q14
                              have p16 : 0 ≤ (x6_1 : Int) := of_decide_eq_true (by first | (with_reducible assumption) | assumption)
                              have q16 : x6_1 < (a0.size : Int) := of_decide_eq_true (by first | (with_reducible assumption) | assumption)
                              have hx16 := bt_at a0 x6_1
                              replace p16 := eq_true p16
                              replace q16 := eq_true q16
                              go_wp2
                              repeat (go_quiet (fail); try go_wp2)
                              go_ret3
                              exact ⟨by first | rfl | (simp; done) | (simp only [← hji11, ← hji13, ← hji19] <;> (first | rfl | simp)) | (simp [*]; done), by repeat (first | exact Drawn0.refl _ | apply Drawn0.step)⟩
                            · rw [if_neg c21] at H
                              exact absurd H (by simp)
                          · rw [if_neg c20] at H
                            exact absurd H (by simp)
                      · rw [if_neg c17] at H
                        have c17b0 : ((bt a0 x6_1) == 0) = false := beq_eq_false_iff_ne.mpr c17
                        have c17b1 : ((bt a0 x6_1) != 0) = true := bne_iff_ne.mpr c17
                        obtain ⟨ji22, hji22⟩ : ∃ j_ : Int, (wrap64 (x6_1 + 1)) = j_ := ⟨_, rfl⟩
                        replace H : (if 0 ≤ (ji22) then (if (ji22) ≤ (a0.size : Int) then (some (wrap64 (x5_1 + (ji13)), a0.extract ((ji22) : Int).toNat a0.size, 0)) else (none)) else (none)) = some (r1, r2, r3) := by first | (rw [hji22] at H; exact H) | (simp only [hji22] at H ⊢; exact H)
                        have hji22w : (IntKind.i64.wrap (x6_1 + 1)) = ji22 := (i64_w _).trans hji22
                        by_cases c23 : 0 ≤ (ji22)
                        · rw [if_pos c23] at H
                          have c23b0 := eq_true c23
                          have c23b1 : decide (0 ≤ (ji22)) = true := decide_eq_true c23
                          clear c23
                          by_cases c24 : (ji22) ≤ (a0.size : Int)
                          · rw [if_pos c24] at H
                            have c24b0 := eq_true c24
                            have c24b1 : decide ((ji22) ≤ (a0.size : Int)) = true := decide_eq_true c24
                            clear c24
                            simp only [Option.some.injEq, Prod.mk.injEq] at H
                            obtain ⟨rfl, rfl, rfl⟩ := H
                            have p10 : 0 ≤ (x6_1 : Int) := of_decide_eq_true (by first | (with_reducible assumption) | assumption)
                            have q10 : x6_1 < (a0.size : Int) := of_decide_eq_true (by first | (with_reducible assumption) | assumption)
                            have hx10 := bt_at a0 x6_1
                            replace p10 := eq_true p10
                            replace q10 := eq_true q10
                            have p14 : 0 ≤ (x6_1 : Int) := of_decide_eq_true (by first | (with_reducible assumption) | assumption)
                            have q14 : x6_1 < (a0.size : Int) := of_decide_eq_true (by first | (with_reducible assumption) | assumption)
                            have hx14 := bt_at a0 x6_1
                            replace p14 := eq_true p14
                            replace q14 := eq_true q14
                            have p16 : 0 ≤ (x6_1 : Int) := of_decide_eq_true (by first | (with_reducible assumption) | assumption)
                            have q16 : x6_1 < (a0.size : Int) := of_decide_eq_true (by first | (with_reducible assumption) | assumption)
                            have hx16 := bt_at a0 x6_1
                            replace p16 := eq_true p16
                            replace q16 := eq_true q16
                            go_wp2
                            repeat (go_quiet (fail); try go_wp2)
                            go_ret3
                            exact ⟨by first | rfl | (simp; done) | (simp only [← hji11, ← hji13, ← hji22] <;> (first | rfl | simp)) | (simp [*]; done), by repeat (first | exact Drawn0.refl _ | apply Drawn0.step)⟩
                          · rw [if_neg c24] at H
                            exact absurd H (by simp)
                        · rw [if_neg c23] at H
                          exact absurd H (by simp)
                    · rw [if_neg c15] at H
                      have c15b0 : decide ((bt a0 x6_1) < 128) = false := decide_eq_false c15
                      clear c15
                      have H' := Aside0.mk H
                      clear H
                      have p10 : 0 ≤ (x6_1 : Int) := of_decide_eq_true (by first | (with_reducible assumption) | assumption)
                      have q10 : x6_1 < (a0.size : Int) := of_decide_eq_true (by first | (with_reducible assumption) | assumption)
                      have hx10 := bt_at a0 x6_1
                      replace p10 := eq_true p10
                      replace q10 := eq_true q10
                      have p14 : 0 ≤ (x6_1 : Int) := of_decide_eq_true (by first | (with_reducible assumption) | assumption)
                      have q14 : x6_1 < (a0.size : Int) := of_decide_eq_true (by first | (with_reducible assumption) | assumption)
                      have hx14 := bt_at a0 x6_1
                      replace p14 := eq_true p14
                      replace q14 := eq_true q14
                      go_wp2
                      repeat (go_quiet (fail); try go_wp2)
                      go_roundg kj2
                      case measure => have := HK1.out; have := HJ2.out; omega
                      case rel => exact ⟨(wrap64 (x5_1 + (ji13))), (wrap64 (x6_1 + 1)), (by first | rfl | (simp; done) | (simp only [← hji13] <;> (first | rfl | simp)) | (simp [*]; done)), (by first | rfl | (simp; done) | (simp [*]; done)), H', ⟨by have := HK1.out; have := HJ2.out; omega⟩, by repeat (first | exact Drawn0.refl _ | apply Drawn0.step)⟩
                  · rw [if_neg c12] at H
                    exact absurd H (by simp)
                · rw [if_neg c9] at H
                  exact absurd H (by simp)
              · rw [if_neg c8] at H
                exact absurd H (by simp)
      · rw [if_neg c2] at H
        have c2b0 : decide (x6_1 < (a0.size : Int)) = false := decide_eq_false c2
        clear c2
        simp only [Option.some.injEq, Prod.mk.injEq] at H
        obtain ⟨rfl, rfl, rfl⟩ := H
        go_wp2
        repeat (go_quiet (fail); try go_wp2)
        go_ret3
        exact ⟨by first | rfl | (simp; done) | (simp [*]; done), by repeat (first | exact Drawn0.refl _ | apply Drawn0.step)⟩
/-- A state of type 87 at block g of W; what its slices lead to came in by w0. -/
def IsS87 (w0 W : World) (g : Nat) (f0 : ByteArray) (f1 : Int) : Prop := W.heap[g]? = some (.cells #[.string f0, .int .i64 f1] 87 (0, 0)) ∧ w0.heap.size ≤ g
theorem IsS87.grown {w0 W : World} {g : Nat} {f0 : ByteArray} {f1 : Int} {W1 : World} {row : Option Nat} (h : IsS87 w0 W g f0 f1) (hw : W.grownBy W1 row) (hne : some g ≠ row) : IsS87 w0 W1 g f0 f1 := by
  obtain ⟨hb, hg⟩ := h
  exact ⟨blk_grown hb hw hne, hg⟩
theorem IsS87.fresh {w0 W : World} {g : Nat} {f0 : ByteArray} {f1 : Int} (h : IsS87 w0 W g f0 f1) : ∀ k, W.heap.size ≤ k → k ≠ g := by
  obtain ⟨hb, hg⟩ := h
  exact Kd.freshB hb
theorem IsS87.kept {w0 W : World} {g : Nat} {f0 : ByteArray} {f1 : Int} {W1 : World} {S : Nat → Prop} (h : IsS87 w0 W g f0 f1) (hk : Kept W W1 S) (hne : ¬ S g) : IsS87 w0 W1 g f0 f1 := by
  obtain ⟨hb, hg⟩ := h
  exact ⟨blk_kept hb hk hne, hg⟩
theorem IsS87.below {w0 W : World} {g : Nat} {f0 : ByteArray} {f1 : Int} {W1 : World} (h : IsS87 w0 W g f0 f1) (hw : Below W.heap.size W W1) : IsS87 w0 W1 g f0 f1 := h.grown (grown_of_below hw none) (by simp)
theorem IsS87.alloc {w0 W : World} {g : Nat} {f0 : ByteArray} {f1 : Int} (h : IsS87 w0 W g f0 f1) (o : Obj) : IsS87 w0 (W.alloc o) g f0 f1 := h.below (below_alloc (Below.refl _ _) o)
theorem IsS87.drewN {w0 W : World} {g : Nat} {f0 : ByteArray} {f1 : Int} (h : IsS87 w0 W g f0 f1) (m : Nat) : IsS87 w0 (W.drewN m) g f0 f1 := h
theorem IsS87.drew {w0 W : World} {g : Nat} {f0 : ByteArray} {f1 : Int} (h : IsS87 w0 W g f0 f1) : IsS87 w0 W.drew g f0 f1 := h
theorem IsS87.apart {w0 W : World} {g : Nat} {f0 : ByteArray} {f1 : Int} {α : Type} {d : Kd α} {e : Nat} {base : Nat} {ok : Nat → Prop} {v : Value} {xs : List α} (h : IsS87 w0 W g f0 f1) (ho : d.R e W base ok v xs) (ht : ∀ q, q ∈ e :: d.E → q ≠ 87) : d.R e W base (fun k => ok k ∧ k ≠ g) v xs := by
  obtain ⟨hb, hg⟩ := h
  exact Kd.R_types ho hb ht
theorem IsS87.own_ne {w0 W : World} {g : Nat} {f0 : ByteArray} {f1 : Int} {α : Type} {d : Kd α} {e : Nat} {base : Nat} {ok : Nat → Prop} {v : Value} {xs : List α} (h : IsS87 w0 W g f0 f1) (ho : d.R e W base ok v xs) (ht : e ≠ 87) : some g ≠ v.ownBlock := by
  obtain ⟨hb, hg⟩ := h
  exact Kd.R_ne ho hb ht
theorem IsS87.lt {w0 W : World} {g : Nat} {f0 : ByteArray} {f1 : Int} (h : IsS87 w0 W g f0 f1) : g < W.heap.size := by
  obtain ⟨hb, hg⟩ := h
  exact blk_lt hb
theorem IsS87.ge {w0 W : World} {g : Nat} {f0 : ByteArray} {f1 : Int} (h : IsS87 w0 W g f0 f1) : w0.heap.size ≤ g := by
  obtain ⟨hb, hg⟩ := h
  exact hg
theorem IsS87.ne_blk {w0 W : World} {g : Nat} {f0 : ByteArray} {f1 : Int} {a : Nat} {cs : Array Value} {t : TypeId} {fr : Nat × Nat} (h : IsS87 w0 W g f0 f1) (hb2 : W.heap[a]? = some (.cells cs t fr)) (ht : t ≠ 87) : g ≠ a := by
  obtain ⟨hb, hg⟩ := h
  rintro rfl
  rw [hb] at hb2
  injection hb2 with hb2
  injection hb2 with _ ht2
  exact ht ht2.symm
theorem IsS87.far {w0 W : World} {g : Nat} {f0 : ByteArray} {f1 : Int} {p : Addr} (h : IsS87 w0 W g f0 f1) (hne : g ≠ p.block) (u : Value) : IsS87 w0 (W.setCell p u) g f0 f1 := by
  obtain ⟨hb, hg⟩ := h
  exact ⟨blk_far hb hne u, hg⟩
theorem cellS87_0 {W : World} {g : Nat} {f0 : ByteArray} {f1 : Int} (h : W.heap[g]? = some (.cells #[.string f0, .int .i64 f1] 87 (0, 0))) : W.cell? ⟨g, 0, none⟩ = some (.string f0) := (blk_cell h 0).trans rfl
theorem IsS87.set_0 {w0 W : World} {g : Nat} {f0 : ByteArray} {f1 : Int} (h : IsS87 w0 W g f0 f1) (x : ByteArray) : IsS87 w0 (W.setCell ⟨g, 0, none⟩ (.string x)) g x f1 := by
  obtain ⟨hb, hg⟩ := h
  exact ⟨by simpa using blk_set hb 0 (.string x), hg⟩
theorem cellS87_1 {W : World} {g : Nat} {f0 : ByteArray} {f1 : Int} (h : W.heap[g]? = some (.cells #[.string f0, .int .i64 f1] 87 (0, 0))) : W.cell? ⟨g, 1, none⟩ = some (.int .i64 f1) := (blk_cell h 1).trans rfl
theorem IsS87.set_1 {w0 W : World} {g : Nat} {f0 : ByteArray} {f1 : Int} (h : IsS87 w0 W g f0 f1) (x : Int) : IsS87 w0 (W.setCell ⟨g, 1, none⟩ (.int .i64 x)) g f0 x := by
  obtain ⟨hb, hg⟩ := h
  exact ⟨by simpa using blk_set hb 1 (.int .i64 x), hg⟩
theorem IsS87.new (w0 W : World) (f0 : ByteArray) (f1 : Int) (hB : Below w0.heap.size w0 W) : IsS87 w0 (W.alloc (.cells #[.string f0, .int .i64 f1] 87)) W.heap.size f0 f1 := ⟨by simpa using heap_alloc_new W _, hB.size⟩
/-! ### sluicegateref05_Reader_Rest: function 51 -/
def sluicegateref05_Reader_Rest.f (s0_0 : ByteArray) (s0_1 : Int) : Option (ByteArray × ByteArray × Int) := if s0_1 = 0 then (some (s0_0, (⟨#[]⟩ : ByteArray), s0_1)) else (some ((⟨#[]⟩ : ByteArray), (⟨#[]⟩ : ByteArray), s0_1))
set_option maxHeartbeats 8000000 in
set_option maxRecDepth 100000 in
theorem sluicegateref05_Reader_Rest.calls (g : Nat) (s0_0 : ByteArray) (s0_1 : Int) (r1 : ByteArray) (r2 : ByteArray) (r3 : Int) (w0 w : World) (hI : IsS87 w0 w g s0_0 s0_1) (hB : Below w0.heap.size w0 w) (h : sluicegateref05_Reader_Rest.f s0_0 s0_1 = some (r1, r2, r3)) :
    Calls Try.prog 51 #[.pointer (some ⟨g, 0, none⟩)] w fun e w' => e = .returned (.string r1) ∧ IsS87 w0 w' g r2 r3 ∧ Below w0.heap.size w0 w' ∧ KeepBut w w' g none := by
  have HI0 := Aside0.mk hI
  have HK := Aside0.mk (KeepBut.refl w g none)
  have HL := Aside0.mk hB.size
  clear hI
  have HW0 := Aside0.mk hB.size
  have HB := Aside0.mk hB
  clear hB
  have H : (if s0_1 = 0 then (some (s0_0, (⟨#[]⟩ : ByteArray), s0_1)) else (some ((⟨#[]⟩ : ByteArray), (⟨#[]⟩ : ByteArray), s0_1))) = some (r1, r2, r3) := h
  clear h
  by_cases c2 : s0_1 = 0
  · rw [if_pos c2] at H
    have c2b0 : (s0_1 == 0) = true := beq_iff_eq.mpr c2
    have c2b1 : (s0_1 != 0) = false := bne_eq_false_iff_eq.mpr c2
    clear c2
    simp only [Option.some.injEq, Prod.mk.injEq] at H
    obtain ⟨rfl, rfl, rfl⟩ := H
    obtain ⟨HGz3, hgz3⟩ := HI0.out
    have hcz3_0 := cellS87_0 HGz3
    have hcz3_1 := cellS87_1 HGz3
    have hfz3_0 := blk_frozen HGz3 0
    have hfz3_1 := blk_frozen HGz3 1
    clear HGz3 hgz3
    go_enter Try.func51, Try.ntmps51
    go_wp2
    go_ret
    exact ⟨by first | rfl | (simp [errW_none, errW_some] <;> rfl) | (simp [*, errW_none, errW_some] <;> rfl), by repeat (first | (with_reducible first | exact HI0.out | apply IsS87.alloc | apply IsS87.drewN | apply IsS87.drew | apply IsS87.set_0 | apply IsS87.set_1) | exact HI0.out), by repeat (first | (with_reducible first | exact HB.out | apply below_alloc | apply pw_below_drewN | apply below_drew1 | refine below_set ?_ (IsS87.ge HI0.out)) | exact HB.out), by repeat (first | (with_reducible first | exact HK.out | apply KeepBut.set_ | apply keep_drewN | apply keep_drew | apply keep_alloc) | exact HK.out)⟩
  · rw [if_neg c2] at H
    have c2b0 : (s0_1 == 0) = false := beq_eq_false_iff_ne.mpr c2
    have c2b1 : (s0_1 != 0) = true := bne_iff_ne.mpr c2
    simp only [Option.some.injEq, Prod.mk.injEq] at H
    obtain ⟨rfl, rfl, rfl⟩ := H
    obtain ⟨HGz4, hgz4⟩ := HI0.out
    have hcz4_0 := cellS87_0 HGz4
    have hcz4_1 := cellS87_1 HGz4
    have hfz4_0 := blk_frozen HGz4 0
    have hfz4_1 := blk_frozen HGz4 1
    clear HGz4 hgz4
    go_enter Try.func51, Try.ntmps51
    go_wp2
    go_ret
    exact ⟨by first | rfl | (simp [errW_none, errW_some] <;> rfl) | (simp [*, errW_none, errW_some] <;> rfl), by repeat (first | (with_reducible first | exact HI0.out | apply IsS87.alloc | apply IsS87.drewN | apply IsS87.drew | apply IsS87.set_0 | apply IsS87.set_1) | exact HI0.out), by repeat (first | (with_reducible first | exact HB.out | apply below_alloc | apply pw_below_drewN | apply below_drew1 | refine below_set ?_ (IsS87.ge HI0.out)) | exact HB.out), by repeat (first | (with_reducible first | exact HK.out | apply KeepBut.set_ | apply keep_drewN | apply keep_drew | apply keep_alloc) | exact HK.out)⟩
/-! ### sluicegateref05_Reader_End: function 52 -/
def sluicegateref05_Reader_End.f (s0_0 : ByteArray) (s0_1 : Int) : Option (Int × ByteArray × Int) := if s0_1 = 0 then (if s0_0.toList = ([] : List UInt8) then (some (s0_1, s0_0, s0_1)) else (some (4, s0_0, 4))) else (some (s0_1, s0_0, s0_1))
set_option maxHeartbeats 8000000 in
set_option maxRecDepth 100000 in
theorem sluicegateref05_Reader_End.calls (g : Nat) (s0_0 : ByteArray) (s0_1 : Int) (r1 : Int) (r2 : ByteArray) (r3 : Int) (w0 w : World) (hI : IsS87 w0 w g s0_0 s0_1) (hB : Below w0.heap.size w0 w) (h : sluicegateref05_Reader_End.f s0_0 s0_1 = some (r1, r2, r3)) :
    Calls Try.prog 52 #[.pointer (some ⟨g, 0, none⟩)] w fun e w' => e = .returned (.int .i64 r1) ∧ IsS87 w0 w' g r2 r3 ∧ Below w0.heap.size w0 w' ∧ KeepBut w w' g none := by
  have HI0 := Aside0.mk hI
  have HK := Aside0.mk (KeepBut.refl w g none)
  have HL := Aside0.mk hB.size
  clear hI
  have HW0 := Aside0.mk hB.size
  have HB := Aside0.mk hB
  clear hB
  have H : (if s0_1 = 0 then (if s0_0.toList = ([] : List UInt8) then (some (s0_1, s0_0, s0_1)) else (some (4, s0_0, 4))) else (some (s0_1, s0_0, s0_1))) = some (r1, r2, r3) := h
  clear h
  by_cases c2 : s0_1 = 0
  · rw [if_pos c2] at H
    have c2b0 : (s0_1 == 0) = true := beq_iff_eq.mpr c2
    have c2b1 : (s0_1 != 0) = false := bne_eq_false_iff_eq.mpr c2
    clear c2
    by_cases c3 : s0_0.toList = ([] : List UInt8)
    · rw [if_pos c3] at H
      have c3b0 : (s0_0.toList == ([] : List UInt8)) = true := beq_iff_eq.mpr c3
      have c3b1 : (s0_0.toList != ([] : List UInt8)) = false := bne_eq_false_iff_eq.mpr c3
      clear c3
      simp only [Option.some.injEq, Prod.mk.injEq] at H
      obtain ⟨rfl, rfl, rfl⟩ := H
      obtain ⟨HGz4, hgz4⟩ := HI0.out
      have hcz4_0 := cellS87_0 HGz4
      have hcz4_1 := cellS87_1 HGz4
      have hfz4_0 := blk_frozen HGz4 0
      have hfz4_1 := blk_frozen HGz4 1
      clear HGz4 hgz4
      go_enter Try.func52, Try.ntmps52
      go_wp2
      go_ret
      exact ⟨by first | rfl | (simp [errW_none, errW_some] <;> rfl) | (simp [*, errW_none, errW_some] <;> rfl), by repeat (first | (with_reducible first | exact HI0.out | apply IsS87.alloc | apply IsS87.drewN | apply IsS87.drew | apply IsS87.set_0 | apply IsS87.set_1) | exact HI0.out), by repeat (first | (with_reducible first | exact HB.out | apply below_alloc | apply pw_below_drewN | apply below_drew1 | refine below_set ?_ (IsS87.ge HI0.out)) | exact HB.out), by repeat (first | (with_reducible first | exact HK.out | apply KeepBut.set_ | apply keep_drewN | apply keep_drew | apply keep_alloc) | exact HK.out)⟩
    · rw [if_neg c3] at H
      have c3b0 : (s0_0.toList == ([] : List UInt8)) = false := beq_eq_false_iff_ne.mpr c3
      have c3b1 : (s0_0.toList != ([] : List UInt8)) = true := bne_iff_ne.mpr c3
      simp only [Option.some.injEq, Prod.mk.injEq] at H
      obtain ⟨rfl, rfl, rfl⟩ := H
      obtain ⟨HGz5, hgz5⟩ := HI0.out
      have hcz5_0 := cellS87_0 HGz5
      have hcz5_1 := cellS87_1 HGz5
      have hfz5_0 := blk_frozen HGz5 0
      have hfz5_1 := blk_frozen HGz5 1
      clear HGz5 hgz5
      go_enter Try.func52, Try.ntmps52
      go_wp2
      go_ret
      exact ⟨by first | rfl | (simp [errW_none, errW_some] <;> rfl) | (simp [*, errW_none, errW_some] <;> rfl), by repeat (first | (with_reducible first | exact HI0.out | apply IsS87.alloc | apply IsS87.drewN | apply IsS87.drew | apply IsS87.set_0 | apply IsS87.set_1) | exact HI0.out), by repeat (first | (with_reducible first | exact HB.out | apply below_alloc | apply pw_below_drewN | apply below_drew1 | refine below_set ?_ (IsS87.ge HI0.out)) | exact HB.out), by repeat (first | (with_reducible first | exact HK.out | apply KeepBut.set_ | apply keep_drewN | apply keep_drew | apply keep_alloc) | exact HK.out)⟩
  · rw [if_neg c2] at H
    have c2b0 : (s0_1 == 0) = false := beq_eq_false_iff_ne.mpr c2
    have c2b1 : (s0_1 != 0) = true := bne_iff_ne.mpr c2
    simp only [Option.some.injEq, Prod.mk.injEq] at H
    obtain ⟨rfl, rfl, rfl⟩ := H
    obtain ⟨HGz6, hgz6⟩ := HI0.out
    have hcz6_0 := cellS87_0 HGz6
    have hcz6_1 := cellS87_1 HGz6
    have hfz6_0 := blk_frozen HGz6 0
    have hfz6_1 := blk_frozen HGz6 1
    clear HGz6 hgz6
    go_enter Try.func52, Try.ntmps52
    go_wp2
    go_ret
    exact ⟨by first | rfl | (simp [errW_none, errW_some] <;> rfl) | (simp [*, errW_none, errW_some] <;> rfl), by repeat (first | (with_reducible first | exact HI0.out | apply IsS87.alloc | apply IsS87.drewN | apply IsS87.drew | apply IsS87.set_0 | apply IsS87.set_1) | exact HI0.out), by repeat (first | (with_reducible first | exact HB.out | apply below_alloc | apply pw_below_drewN | apply below_drew1 | refine below_set ?_ (IsS87.ge HI0.out)) | exact HB.out), by repeat (first | (with_reducible first | exact HK.out | apply KeepBut.set_ | apply keep_drewN | apply keep_drew | apply keep_alloc) | exact HK.out)⟩
-- NOT PRINTED: function 20 (sluicegateref11_Read)
-- NOT PRINTED: function 4 (sluicegatelaw11_RecordReads)
-- NOT PRINTED: function 5 (sluicegatelaw11_RecordBack)
-- NOT PRINTED: function 6 (sluicegatelaw11_RecordSame)
-- NOT PRINTED: function 7 (sluicegatelaw11_RecordSeen)
-- NOT PRINTED: function 8 (sluicegatelaw11_RecordCut)
end Go.Proofs.Ytkceobahefjlnaa.Q
end
section
/- What the program's pack package answers, said of lists of bytes. -/
namespace Go.Proofs.Ytkceobahefjlnaa
open Go.RowKit Q Go.Proofs.YtkceobahefjlnaaW.PrintWords Go.Proofs.YtkceobahefjlnaaW.PrintLast Go.Proofs.YtkceobahefjlnaaW.PrintMore
theorem or128 : ∀ a : Fin 256, Go.bits .or .u8 (a.val : Int) 128 = ((128 + a.val % 128 : Nat) : Int) := by decide +kernel
theorem or128' (n : Nat) : Go.bits .or .u8 ((n : Int) % 256) 128 = ((128 + n % 128 : Nat) : Int) := by
  have h := or128 ⟨n % 256, Nat.mod_lt _ (by omega)⟩
  simp only at h
  rw [show ((n % 256 : Nat) : Int) = (n : Int) % 256 by omega] at h
  rw [h]
  congr 2
  omega
theorem wraps_i64 (n : Int) (h₀ : 0 ≤ n) (h₁ : n < 2 ^ 63) : IntKind.i64.wrap n = n := by rw [IntKind.wrap_i64]; omega
theorem bits_or_comm (a b : Nat) (ha : a < 2 ^ 63) (hb : b < 2 ^ 63) : Go.bits .or .i64 (a : Int) (b : Int) = Go.bits .or .i64 (b : Int) (a : Int) := by
  rw [(bits_nat .i64 63 (by decide) wraps_i64 a b ha hb).2, (bits_nat .i64 63 (by decide) wraps_i64 b a hb ha).2, Nat.or_comm]
/-- 'n | c<<7i' is a sum, where n has fewer than 7i bits. -/
theorem or_add (n c i : Nat) (hn : n < 2 ^ (7 * i)) (hc : c < 128) (hi : i ≤ 7) : Go.bits .or .i64 (n : Int) (shl .i64 (c : Int) (wrap64 (7 * (i : Int)))) = ((n + c * 2 ^ (7 * i) : Nat) : Int) := by
  have e : wrap64 (7 * (i : Int)) = ((7 * i : Nat) : Int) := by unfold wrap64; omega
  have hp : 2 ^ (7 * i) ≤ 2 ^ 49 := Nat.pow_le_pow_right (by omega) (by omega)
  have hcp : c * 2 ^ (7 * i) ≤ 127 * 2 ^ 49 := Nat.mul_le_mul (by omega) hp
  have h2 : shl .i64 (c : Int) (wrap64 (7 * (i : Int))) = ((c * 2 ^ (7 * i) : Nat) : Int) := by
    unfold shl
    rw [e, Int.toNat_natCast, Nat.min_eq_left (by show 7 * i ≤ 64; omega)]
    have e2 : (c : Int) * 2 ^ (7 * i) = ((c * 2 ^ (7 * i) : Nat) : Int) := by simp
    rw [e2]
    exact wraps_i64 _ (by omega) (by omega)
  rw [h2, bits_or_comm _ _ (by omega) (by omega), bits_join .i64 63 (by decide) wraps_i64 (7 * i) _ _ (by omega) ?_ (by omega) (by omega) (by exact_mod_cast hn) (by omega)]
  · omega
  · have : ((c * 2 ^ (7 * i) : Nat) : Int) = (c : Int) * 2 ^ (7 * i) := by simp
    rw [this]
    exact Int.mul_emod_left _ _
theorem bt_B (l : List UInt8) (i : Nat) : bt (B l) (i : Int) = ((l.getD i 0).toNat : Int) := by
  unfold bt
  rw [Int.toNat_natCast]
  split
  · rename_i h
    have h' : i < l.length := by rw [B_size] at h; exact h
    have e : (B l)[i]'h = l[i] := by show (B l).data[i] = _; simp [B]
    rw [e, List.getD_eq_getElem?_getD, List.getElem?_eq_getElem h']; rfl
  · rename_i h
    have h' : l.length ≤ i := by rw [B_size] at h; omega
    rw [List.getD_eq_getElem?_getD, List.getElem?_eq_none h']; rfl
/-- Bytes as numbers. -/
def nb (l : List UInt8) : List Int := l.map fun c => (c.toNat : Int)
theorem nb_append (a b : List UInt8) : nb (a ++ b) = nb a ++ nb b := by simp [nb]
theorem strOfNums_nb (l : List UInt8) : strOfNums (nb l) = B l := by
  unfold strOfNums B nb
  rw [List.map_map]
  congr 2
  have : ((fun n : Int => UInt8.ofNat n.toNat) ∘ fun c : UInt8 => (c.toNat : Int)) = id := by
    funext c; simp
  rw [this, List.map_id]
theorem nb_one (n : Nat) (h : n < 128) : nb [UInt8.ofNat n] = [(n : Int) % 256] := by
  simp only [nb, List.map_cons, List.map_nil]
  rw [u8_toNat n (by omega), Int.emod_eq_of_lt (by omega) (by omega)]
theorem number_loop (j : Nat) : ∀ (n k : Nat) (acc : List UInt8), n < 128 ^ (j + 1) → j < k → acc.length + j ≤ 1000 → pack_Number.l0 k (n : Int) (nb acc) = some (B (acc ++ enc n)) := by
  induction j with
  | zero =>
    intro n k acc hn hk ha
    obtain ⟨k, rfl⟩ : ∃ m, k = m + 1 := ⟨k - 1, by omega⟩
    simp only [pack_Number.l0]
    have hl : (nb acc).length = acc.length := by simp [nb]
    rw [if_neg (by omega), if_pos (by omega), enc_lt (by omega)]
    have e : nb acc ++ [(n : Int) % 256] = nb (acc ++ [UInt8.ofNat n]) := by
      rw [nb_append, nb_one n (by omega)]
    rw [e, strOfNums_nb]
  | succ j ih =>
    intro n k acc hn hk ha
    obtain ⟨k, rfl⟩ : ∃ m, k = m + 1 := ⟨k - 1, by omega⟩
    have hl : (nb acc).length = acc.length := by simp [nb]
    by_cases h : n < 128
    · exact (by
        simp only [pack_Number.l0]
        rw [if_neg (by omega), if_pos (by omega), enc_lt (by omega)]
        have e : nb acc ++ [(n : Int) % 256] = nb (acc ++ [UInt8.ofNat n]) := by
          rw [nb_append, nb_one n (by omega)]
        rw [e, strOfNums_nb])
    · simp only [pack_Number.l0]
      rw [if_pos (by omega), if_pos (by omega), or128']
      have e : nb acc ++ [((128 + n % 128 : Nat) : Int)] = nb (acc ++ [UInt8.ofNat (128 + n % 128)]) := by
        rw [nb_append]
        congr 1
        simp only [nb, List.map_cons, List.map_nil]
        rw [u8_toNat _ (by omega)]
      have e2 : (n : Int) / 128 = ((n / 128 : Nat) : Int) := by omega
      rw [e, e2, ih (n / 128) k _ ?_ (by omega) (by rw [List.length_append, List.length_singleton]; omega), enc_ge (n := n) (by omega), List.append_assoc, List.singleton_append]
      · rw [Nat.pow_succ] at hn
        exact Nat.div_lt_of_lt_mul (by omega)
theorem number_f (n k : Nat) (h : n < 2 ^ 56) (hk : 20 ≤ k) : pack_Number.f k (n : Int) = some (B (enc n)) := by
  unfold pack_Number.f
  obtain ⟨k, rfl⟩ : ∃ m, k = m + 1 := ⟨k - 1, by omega⟩
  have e : decide ((n : Int) > 72057594037927935) = false := by simp; omega
  rw [if_neg (by omega), e]
  simp only [pack_Number.j0]
  rw [if_neg (by decide)]
  exact number_loop 7 n k [] (by simpa using h) (by omega) (by simp)
theorem text_f (s : List UInt8) (k : Nat) (h : s.length ≤ 140737488355328) (hk : 20 ≤ k) : pack_Text.f k (B s) = some (B (txt s)) := by
  unfold pack_Text.f
  rw [B_size, number_f s.length k (by omega) hk]
  simp only [Option.bind_some]
  have := enc_len8 (m := s.length) (by omega)
  rw [if_pos (by rw [B_size]; omega), B_append]
  rfl
theorem wrap7 (i : Nat) (hi : i ≤ 7) : wrap64 (7 * (i : Int)) = ((7 * i : Nat) : Int) := by unfold wrap64; omega
theorem wrap_succ (i : Nat) (hi : i ≤ 140737488355328) : wrap64 ((i : Int) + 1) = ((i + 1 : Nat) : Int) := by unfold wrap64; omega
theorem wrap_small (i : Nat) (hi : i ≤ 140737488355328) : wrap64 (i : Int) = (i : Int) := by unfold wrap64; omega
theorem rnum_end (l : List UInt8) (_hl : l.length ≤ 140737488355328) (i n c : Nat) (hi : i ≤ 7) (hil : i < l.length) (hn : n < 2 ^ (7 * i)) (hc : c < 128) :
    (if 0 ≤ wrap64 ((i : Int) + 1) then (if wrap64 ((i : Int) + 1) ≤ ((B l).size : Int) then (if 0 ≤ wrap64 (7 * (i : Int)) then (some (Go.bits .or .i64 (n : Int) (shl .i64 (wrap64 (c : Int)) (wrap64 (7 * (i : Int)))), (B l).extract (wrap64 ((i : Int) + 1)).toNat (B l).size, (0 : Int))) else none) else none) else none) = some (((n + c * 2 ^ (7 * i) : Nat) : Int), B (l.drop (i + 1)), (0 : Int)) := by
  rw [wrap_small c (by omega), or_add n c i hn hc hi, wrap_succ i (by omega), if_pos (by omega), if_pos (by rw [B_size]; omega), if_pos (by rw [wrap7 i hi]; omega), Int.toNat_natCast, B_size, B_extract, List.take_of_length_le (by rw [List.length_drop]; omega)]
theorem rnum_loop (l : List UInt8) (hl : l.length ≤ 140737488355328) (d : Nat) : ∀ (k i n : Nat), 8 - i = d → i ≤ 7 → i ≤ l.length → n < 2 ^ (7 * i) → d < k →
    pack_Reader_Number.l0 k (n : Int) (l.length : Int) (i : Int) (B l) 0 = some (((tk (l.drop i) i n).1 : Int), B (tk (l.drop i) i n).2.1, (tk (l.drop i) i n).2.2) := by
  induction d with
  | zero => intro k i n hd hi; omega
  | succ d ih =>
    intro k i n hd hi hil hn hk
    obtain ⟨k, rfl⟩ : ∃ m, k = m + 1 := ⟨k - 1, by omega⟩
    simp only [pack_Reader_Number.l0]
    by_cases h1 : i < l.length
    · rw [if_pos (by omega), if_pos (by omega), if_pos (by rw [B_size]; omega), bt_B]
      have hc : l.drop i = l.getD i 0 :: l.drop (i + 1) := by
        rw [List.drop_eq_getElem_cons h1, List.getD_eq_getElem?_getD, List.getElem?_eq_getElem h1]; rfl
      rw [hc]
      generalize l.getD i 0 = c
      have hc8 := c.toNat_lt
      have e7 : wrap64 (7 * (i : Int)) = ((7 * i : Nat) : Int) := by unfold wrap64; omega
      have e1 : wrap64 ((i : Int) + 1) = ((i + 1 : Nat) : Int) := by unfold wrap64; omega
      by_cases h128 : 128 ≤ c.toNat
      · rw [if_pos (by omega)]
        by_cases h7 : i = 7
        · rw [if_pos (by omega)]
          have : tk (c :: l.drop (i + 1)) i n = (0, [], 4) := by rw [tk, if_pos h128, if_pos h7]
          rw [this]
          rfl
        · rw [if_neg (by omega), if_pos (by rw [e7]; omega)]
          have e3 : ((c.toNat : Int) - 128) % 256 = ((c.toNat - 128 : Nat) : Int) := by omega
          rw [e3, or_add n (c.toNat - 128) i hn (by omega) hi, e1]
          have e4 : tk (c :: l.drop (i + 1)) i n = tk (l.drop (i + 1)) (i + 1) (n + (c.toNat - 128) * 2 ^ (7 * i)) := by rw [tk, if_pos h128, if_neg h7]
          rw [e4]
          refine ih k (i + 1) _ (by omega) (by omega) (by omega) ?_ (by omega)
          rw [pow7 i]
          have : (c.toNat - 128) * 2 ^ (7 * i) ≤ 127 * 2 ^ (7 * i) := Nat.mul_le_mul_right _ (by omega)
          omega
      · rw [if_neg (by omega)]
        have hsh : pack_Reader_wrong.f (B l) 0 4 = some (⟨#[]⟩, 4) := rfl
        have hend := rnum_end l hl i n c.toNat hi h1 hn (by omega)
        by_cases h0 : c.toNat = 0
        · rw [if_pos (by omega)]
          by_cases hi0 : 0 < i
          · rw [if_pos (by omega)]
            have : tk (c :: l.drop (i + 1)) i n = (0, [], 4) := by rw [tk, if_neg h128, if_pos ⟨h0, hi0⟩]
            rw [this]
            rfl
          · rw [if_neg (by omega), hend]
            have : tk (c :: l.drop (i + 1)) i n = (n + c.toNat * 2 ^ (7 * i), l.drop (i + 1), 0) := by rw [tk, if_neg h128, if_neg (by omega)]
            rw [this]
        · rw [if_neg (by omega), hend]
          have : tk (c :: l.drop (i + 1)) i n = (n + c.toNat * 2 ^ (7 * i), l.drop (i + 1), 0) := by rw [tk, if_neg h128, if_neg (by omega)]
          rw [this]
    · rw [if_neg (by omega), List.drop_eq_nil_of_le (by omega)]
      rfl
/-- A number, by a reader without an error. -/
theorem rnum_f (l : List UInt8) (k : Nat) (hl : l.length ≤ 140737488355328) (hk : 20 ≤ k) : pack_Reader_Number.f k (B l) 0 = some (((tk l 0 0).1 : Int), B (tk l 0 0).2.1, (tk l 0 0).2.2) := by
  unfold pack_Reader_Number.f pack_Reader_works.f
  simp only [Option.bind_some]
  rw [if_pos (by rfl), B_size]
  exact rnum_loop l hl 8 k 0 0 rfl (by omega) (by omega) (by simp) (by omega)
theorem rnum_err (s : ByteArray) (e : Int) (k : Nat) (he : e ≠ 0) : pack_Reader_Number.f k s e = some (0, s, e) := by
  unfold pack_Reader_Number.f pack_Reader_works.f
  simp only [Option.bind_some]
  rw [if_neg (by simpa using he)]
theorem rtext_f (l : List UInt8) (k : Nat) (hl : l.length ≤ 140737488355328) (hk : 21 ≤ k) : pack_Reader_Text.f k (B l) 0 = some (B (tkT l).1, B (tkT l).2.1, (tkT l).2.2) := by
  obtain ⟨k, rfl⟩ : ∃ m, k = m + 1 := ⟨k - 1, by omega⟩
  have hle := tk_le l 0 0
  have herr := tk_err l 0 0
  unfold pack_Reader_Text.f
  rw [rnum_f l _ hl (by omega)]
  unfold tkT
  generalize tk l 0 0 = t at hle herr ⊢
  obtain ⟨n, r, e⟩ := t
  simp only [Option.bind_some, pack_Reader_works.f] at *
  by_cases h0 : e = 0
  · subst h0
    rw [if_pos (by rfl), if_neg (by simp)]
    rw [B_size]
    by_cases h1 : r.length < n
    · have hd : decide ((n : Int) > (r.length : Int)) = true := by simp; omega
      rw [hd, if_pos h1]
      simp only [pack_Reader_Text.j0, pack_Reader_wrong.f, pack_Reader_works.f, Option.bind_some]
      rw [if_pos trivial, if_neg (by decide)]
      rfl
    · have hd : decide ((n : Int) > (r.length : Int)) = false := by simp; omega
      rw [hd, if_neg h1]
      simp only [pack_Reader_Text.j0, pack_Reader_wrong.f, pack_Reader_works.f, Option.bind_some]
      rw [if_neg (by decide), if_pos (by decide), if_pos (by omega), if_pos (by rw [B_size]; omega), Int.toNat_natCast, B_size, B_extract, B_extract, List.drop_zero, Nat.sub_zero, List.take_of_length_le (l := r.drop n) (by rw [List.length_drop]; omega)]
  · rw [if_neg (by simpa using h0), if_pos h0]
    simp only [pack_Reader_Text.j0, pack_Reader_wrong.f, pack_Reader_works.f, Option.bind_some]
    rw [if_neg (by decide), if_neg (by simpa using h0)]
    rcases herr with h | h | h
    · exact absurd h h0
    · simp only [Prod.mk.injEq] at h
      obtain ⟨_, rfl, rfl⟩ := h
      rfl
    · simp only [Prod.mk.injEq] at h
      obtain ⟨_, rfl, rfl⟩ := h
      rfl
theorem rtext_err (s : ByteArray) (e : Int) (k : Nat) (he : e ≠ 0) (hk : 1 ≤ k) : pack_Reader_Text.f k s e = some (⟨#[]⟩, s, e) := by
  obtain ⟨k, rfl⟩ : ∃ m, k = m + 1 := ⟨k - 1, by omega⟩
  unfold pack_Reader_Text.f
  rw [rnum_err s e _ he]
  simp only [Option.bind_some, pack_Reader_works.f]
  rw [if_neg (by simpa using he)]
  simp only [pack_Reader_Text.j0, pack_Reader_wrong.f, pack_Reader_works.f, Option.bind_some]
  rw [if_neg (by decide), if_neg (by simpa using he)]
end Go.Proofs.Ytkceobahefjlnaa
end
section
/- The sum of chapter 04 as mathematics: steps of a register of 32 bits; linear, one to one; the program's and the document's sums are the same one. -/
namespace Go.Proofs.Ytkceobahefjlnaa
open Go.RowKit
/-- One step of the register. -/
def S (v : BitVec 32) : BitVec 32 := (v >>> 1) ^^^ (if v.getLsbD 0 then 0x82F63B78#32 else 0#32)
def Sn : Nat → BitVec 32 → BitVec 32
  | 0, v => v
  | k + 1, v => S (Sn k v)
theorem S_xor (a b : BitVec 32) : S (a ^^^ b) = S a ^^^ S b := by
  unfold S
  rw [BitVec.ushiftRight_xor_distrib, BitVec.getLsbD_xor]
  cases a.getLsbD 0 <;> cases b.getLsbD 0 <;> simp
  · rw [BitVec.xor_assoc]
  · rw [BitVec.xor_assoc, BitVec.xor_assoc, BitVec.xor_comm (b >>> 1)]
  · rw [BitVec.xor_assoc, BitVec.xor_comm _ (b >>> 1 ^^^ _), BitVec.xor_assoc, BitVec.xor_self, BitVec.xor_zero]
theorem Sn_xor (k : Nat) (a b : BitVec 32) : Sn k (a ^^^ b) = Sn k a ^^^ Sn k b := by
  induction k with
  | zero => rfl
  | succ k ih => simp only [Sn]; rw [ih, S_xor]
/-- Of a number whose lowest k bits are none, k steps are a shift. -/
theorem Sn_shift (k : Nat) (v : BitVec 32) (h : ∀ i, i < k → v.getLsbD i = false) : Sn k v = v >>> k := by
  induction k with
  | zero => simp [Sn]
  | succ k ih =>
    simp only [Sn]
    rw [ih (fun i hi => h i (by omega))]
    unfold S
    have : (v >>> k).getLsbD 0 = false := by rw [BitVec.getLsbD_ushiftRight]; exact h k (by omega)
    rw [this]
    simp [BitVec.shiftRight_add]
theorem Sn_shl (k : Nat) (v : BitVec 32) (h : v.toNat * 2 ^ k < 2 ^ 32) : Sn k (v <<< k) = v := by
  rw [Sn_shift k _ (fun i hi => by rw [BitVec.getLsbD_shiftLeft]; simp [hi])]
  apply BitVec.eq_of_toNat_eq
  rw [BitVec.toNat_ushiftRight, BitVec.toNat_shiftLeft, Nat.shiftLeft_eq, Nat.mod_eq_of_lt h, Nat.shiftRight_eq_div_pow, Nat.mul_div_cancel _ (Nat.two_pow_pos k)]
/-- A byte, as a register. -/
def c32 (c : UInt8) : BitVec 32 := BitVec.ofNat 32 c.toNat
/-- The register behind one more byte. -/
def stepB (x : BitVec 32) (c : UInt8) : BitVec 32 := Sn 8 (x ^^^ c32 c)
def reg (x : BitVec 32) (l : List UInt8) : BitVec 32 := l.foldl stepB x
def crc (l : List UInt8) : BitVec 32 := ~~~ reg 0xFFFFFFFF#32 l
theorem reg_append (x : BitVec 32) (a b : List UInt8) : reg x (a ++ b) = reg (reg x a) b := by simp [reg]
/-- A word's bytes, the lowest one first. -/
def w4 (v : BitVec 32) : List UInt8 := [UInt8.ofNat (v.toNat % 256), UInt8.ofNat (v.toNat / 256 % 256), UInt8.ofNat (v.toNat / 65536 % 256), UInt8.ofNat (v.toNat / 16777216 % 256)]
theorem w4_len (v : BitVec 32) : (w4 v).length = 4 := rfl
end Go.Proofs.Ytkceobahefjlnaa
end
section
/- The program's sum (ofS) and the document's (rofS) are the mathematical one (crc); a number's four bytes. -/
namespace Go.Proofs.Ytkceobahefjlnaa
open Go.RowKit
theorem ofInt_toNat {n : Nat} (v : BitVec n) : BitVec.ofInt n (v.toNat : Int) = v := by
  rw [BitVec.ofInt_natCast, BitVec.ofNat_toNat, BitVec.setWidth_eq]
theorem wrap_u32_nat (n : Nat) (h : n < 4294967296) : IntKind.u32.wrap (n : Int) = n := by rw [IntKind.wrap_u32]; omega
theorem bits_xor32 (a b : BitVec 32) : Go.bits .xor .u32 (a.toNat : Int) (b.toNat : Int) = ((a ^^^ b).toNat : Int) := by
  show IntKind.u32.wrap ((BitVec.ofInt 32 (a.toNat : Int) ^^^ BitVec.ofInt 32 (b.toNat : Int)).toNat : Int) = _
  rw [ofInt_toNat, ofInt_toNat]
  exact wrap_u32_nat _ (a ^^^ b).isLt
theorem bits_and32 (a b : BitVec 32) : Go.bits .and .u32 (a.toNat : Int) (b.toNat : Int) = ((a &&& b).toNat : Int) := by
  show IntKind.u32.wrap ((BitVec.ofInt 32 (a.toNat : Int) &&& BitVec.ofInt 32 (b.toNat : Int)).toNat : Int) = _
  rw [ofInt_toNat, ofInt_toNat]
  exact wrap_u32_nat _ (a &&& b).isLt
theorem bits_xor8 (a b : BitVec 8) : Go.bits .xor .u8 (a.toNat : Int) (b.toNat : Int) = ((a ^^^ b).toNat : Int) := by
  show IntKind.u8.wrap ((BitVec.ofInt 8 (a.toNat : Int) ^^^ BitVec.ofInt 8 (b.toNat : Int)).toNat : Int) = _
  rw [ofInt_toNat, ofInt_toNat, IntKind.wrap_u8]
  have := (a ^^^ b).isLt
  omega
theorem half_toNat (v : BitVec 32) : (v.toNat : Int) / (2 : Int) = ((v >>> 1).toNat : Int) := by
  rw [BitVec.toNat_ushiftRight, Nat.shiftRight_eq_div_pow]; omega
theorem lsb_toNat (v : BitVec 32) : v.toNat % 2 = if v.getLsbD 0 then 1 else 0 := by
  have : v.getLsbD 0 = decide (v.toNat % 2 = 1) := by
    rw [← BitVec.testBit_toNat, Nat.testBit_zero]
  rw [this]
  by_cases h : v.toNat % 2 = 1
  · simp [h]
  · simp [h]; omega
theorem crcR_eq (v : BitVec 32) : crcR (v.toNat : Int) = ((S v).toNat : Int) := by
  unfold crcR S
  have e1 : Go.bits .and .u32 (v.toNat : Int) 1 = ((v &&& 1#32).toNat : Int) := bits_and32 v 1#32
  have e2 : (v &&& 1#32).toNat = if v.getLsbD 0 then 1 else 0 := by
    rw [BitVec.toNat_and]
    show v.toNat &&& 1 = _
    rw [Nat.and_one_is_mod, lsb_toNat]
  rw [e1, e2, half_toNat]
  cases v.getLsbD 0
  · exact bits_xor32 (v >>> 1) 0#32
  · exact bits_xor32 (v >>> 1) 0x82F63B78#32
theorem crcN_eq (k : Nat) (v : BitVec 32) : crcN k (v.toNat : Int) = ((Sn k v).toNat : Int) := by
  induction k with
  | zero => rfl
  | succ k ih => rw [crcN, ih, crcR_eq]; rfl
theorem shr8_parts (x : BitVec 32) : x = BitVec.ofNat 32 (x.toNat % 256) ^^^ (BitVec.ofNat 32 (x.toNat / 256) <<< 8) := by
  apply BitVec.eq_of_getLsbD_eq
  intro i hi
  simp only [BitVec.getLsbD_xor, BitVec.getLsbD_shiftLeft, BitVec.getLsbD_ofNat]
  have e1 : x.toNat % 256 = x.toNat % 2 ^ 8 := rfl
  have e2 : x.toNat / 256 = x.toNat / 2 ^ 8 := rfl
  rw [e1, e2]
  simp only [Nat.testBit_mod_two_pow, Nat.testBit_div_two_pow]
  rw [← BitVec.testBit_toNat]
  by_cases h1 : i < 8
  · simp [h1, hi]
  · simp [h1, hi, show i - 8 < 32 by omega, show i - 8 + 8 = i by omega]
theorem crcB_eq (x : BitVec 32) (c : UInt8) : crcB (x.toNat : Int) (c.toNat : Int) = ((stepB x c).toNat : Int) := by
  unfold crcB stepB
  have hx := x.isLt
  have hc := c.toNat_lt
  have e1 : Go.bits .xor .u8 ((x.toNat : Int) % 256) (c.toNat : Int) = ((BitVec.ofNat 32 (x.toNat % 256) ^^^ c32 c).toNat : Int) := by
    have h := bits_xor8 (BitVec.ofNat 8 (x.toNat % 256)) (BitVec.ofNat 8 c.toNat)
    simp only [BitVec.toNat_ofNat, BitVec.toNat_xor] at h
    rw [Nat.mod_eq_of_lt (a := x.toNat % 256) (by omega), Nat.mod_eq_of_lt (a := c.toNat) (by omega)] at h
    have e : ((x.toNat % 256 : Nat) : Int) = (x.toNat : Int) % 256 := by omega
    rw [← e, h]
    unfold c32
    simp only [BitVec.toNat_ofNat, BitVec.toNat_xor]
    rw [Nat.mod_eq_of_lt (a := x.toNat % 256) (b := 2 ^ 32) (by omega), Nat.mod_eq_of_lt (a := c.toNat) (b := 2 ^ 32) (by omega)]
  have e2 : (x.toNat : Int) / 256 = ((BitVec.ofNat 32 (x.toNat / 256)).toNat : Int) := by
    rw [BitVec.toNat_ofNat, Nat.mod_eq_of_lt (by omega)]; omega
  rw [e1, e2, crcN_eq, bits_xor32]
  congr 2
  conv => rhs; rw [shr8_parts x]
  have e3 : BitVec.ofNat 32 (x.toNat / 256) = Sn 8 (BitVec.ofNat 32 (x.toNat / 256) <<< 8) := (Sn_shl 8 _ (by rw [BitVec.toNat_ofNat, Nat.mod_eq_of_lt (by omega)]; omega)).symm
  conv => lhs; rw [e3]
  rw [← Sn_xor]
  congr 1
  rw [BitVec.xor_assoc, BitVec.xor_comm (c32 c), BitVec.xor_assoc]
theorem take_succ_getD (l : List UInt8) (k : Nat) (h : k < l.length) : l.take (k + 1) = l.take k ++ [l.getD k 0] := by
  rw [List.take_succ_eq_append_getElem h, List.getD_eq_getElem?_getD, List.getElem?_eq_getElem h]; rfl
theorem toList_len (s : ByteArray) : s.data.toList.length = s.size := Array.length_toList
theorem crcS_eq (s : ByteArray) (k : Nat) (h : k ≤ s.size) : crcS s k = ((reg 0xFFFFFFFF#32 (s.data.toList.take k)).toNat : Int) := by
  induction k with
  | zero => rfl
  | succ k ih =>
    rw [crcS, ih (by omega)]
    unfold byteAt
    rw [crcB_eq, take_succ_getD _ _ (by rw [toList_len]; omega), reg_append]
    rfl
theorem not_toNat (v : BitVec 32) : 0xFFFFFFFF#32 ^^^ v = ~~~ v := by
  rw [show (0xFFFFFFFF#32) = BitVec.allOnes 32 from rfl, BitVec.allOnes_xor]
theorem ofS_eq (s : ByteArray) : ofS s = ((crc s.data.toList).toNat : Int) := by
  unfold ofS crc
  rw [crcS_eq s s.size (Nat.le_refl _), List.take_of_length_le (by rw [toList_len]; exact Nat.le_refl _), ← not_toNat]
  exact bits_xor32 0xFFFFFFFF#32 _
/-- The document's register behind j bits of a byte. -/
theorem refB_eq (x : BitVec 32) (b : Nat) (hb : b < 2) : refB (x.toNat : Int) (b : Int) = ((S (x ^^^ BitVec.ofNat 32 b)).toNat : Int) := by
  unfold refB
  have e1 : Go.bits .xor .u32 ((x.toNat : Int) % 2) (b : Int) = (((BitVec.ofNat 32 (x.toNat % 2)) ^^^ BitVec.ofNat 32 b).toNat : Int) := by
    have h := bits_xor32 (BitVec.ofNat 32 (x.toNat % 2)) (BitVec.ofNat 32 b)
    simp only [BitVec.toNat_ofNat] at h
    rw [Nat.mod_eq_of_lt (a := x.toNat % 2) (by omega), Nat.mod_eq_of_lt (a := b) (by omega)] at h
    have e : ((x.toNat % 2 : Nat) : Int) = (x.toNat : Int) % 2 := by omega
    rw [← e, h]
  rw [e1]
  have hl := lsb_toNat x
  have hS : S (x ^^^ BitVec.ofNat 32 b) = (x >>> 1) ^^^ (if (x.getLsbD 0 ^^ decide (b = 1)) then 0x82F63B78#32 else 0#32) := by
    unfold S
    rw [BitVec.ushiftRight_xor_distrib, BitVec.getLsbD_xor]
    have : b = 0 ∨ b = 1 := by omega
    rcases this with rfl | rfl <;> simp
  rw [hS]
  have : b = 0 ∨ b = 1 := by omega
  rw [half_toNat]
  cases h0 : x.getLsbD 0 <;> rw [h0] at hl <;> rcases this with rfl | rfl <;> simp only [hl] <;> simp
  · simpa using bits_xor32 (x >>> 1) 0x82F63B78#32
  · simpa using bits_xor32 (x >>> 1) 0x82F63B78#32
theorem low_succ (c j : Nat) : BitVec.ofNat 32 (c % 2 ^ (j + 1)) = BitVec.ofNat 32 (c % 2 ^ j) ^^^ (BitVec.ofNat 32 (c / 2 ^ j % 2) <<< j) := by
  apply BitVec.eq_of_getLsbD_eq
  intro i hi
  simp only [BitVec.getLsbD_xor, BitVec.getLsbD_shiftLeft, BitVec.getLsbD_ofNat]
  rw [show c / 2 ^ j % 2 = c / 2 ^ j % 2 ^ 1 from rfl]
  simp only [Nat.testBit_mod_two_pow, Nat.testBit_div_two_pow]
  by_cases h1 : i < j
  · simp [h1, hi, show i < j + 1 by omega]
  · by_cases h2 : i = j
    · subst h2; simp [hi]
    · simp [h1, hi, show ¬ i < j + 1 by omega, show ¬ i - j < 1 by omega]
theorem refS_bits (s : ByteArray) (k : Nat) (x : BitVec 32) (hx : refS s (8 * k) = (x.toNat : Int)) (c : UInt8) (hc : byteAt s k = (c.toNat : Int)) (j : Nat) (hj : j ≤ 8) :
    refS s (8 * k + j) = ((Sn j (x ^^^ BitVec.ofNat 32 (c.toNat % 2 ^ j))).toNat : Int) := by
  induction j with
  | zero => rw [Nat.add_zero, hx]; simp [Sn, Nat.mod_one]
  | succ j ih =>
    rw [← Nat.add_assoc, refS, ih (by omega)]
    have hb : bitAt s (8 * k + j) = ((c.toNat / 2 ^ j % 2 : Nat) : Int) := by
      unfold bitAt
      rw [show (8 * k + j) / 8 = k by omega, show (8 * k + j) % 8 = j by omega, hc]
      simp
    rw [hb, refB_eq _ _ (Nat.mod_lt _ (by omega))]
    have hlt := c.toNat_lt
    have e : BitVec.ofNat 32 (c.toNat / 2 ^ j % 2) = Sn j (BitVec.ofNat 32 (c.toNat / 2 ^ j % 2) <<< j) := by
      refine (Sn_shl j _ ?_).symm
      rw [BitVec.toNat_ofNat]
      have h1 : c.toNat / 2 ^ j % 2 < 2 := Nat.mod_lt _ (by omega)
      have h2 : 2 ^ j ≤ 2 ^ 7 := Nat.pow_le_pow_right (by omega) (by omega)
      rw [Nat.mod_eq_of_lt (by omega)]
      calc c.toNat / 2 ^ j % 2 * 2 ^ j ≤ 1 * 2 ^ 7 := Nat.mul_le_mul (by omega) h2
        _ < 2 ^ 32 := by decide
    rw [e, ← Sn_xor, low_succ, BitVec.xor_assoc]
    rfl
theorem refS_eq (s : ByteArray) (k : Nat) (h : k ≤ s.size) : refS s (8 * k) = ((reg 0xFFFFFFFF#32 (s.data.toList.take k)).toNat : Int) := by
  induction k with
  | zero => rfl
  | succ k ih =>
    have h8 := refS_bits s k _ (ih (by omega)) (s.data.toList.getD k 0) rfl 8 (Nat.le_refl _)
    rw [show 8 * (k + 1) = 8 * k + 8 by omega, h8, take_succ_getD _ _ (by rw [toList_len]; omega), reg_append]
    have hlt := (s.data.toList.getD k 0).toNat_lt
    rw [Nat.mod_eq_of_lt (by omega)]
    rfl
theorem rofS_eq (s : ByteArray) : rofS s = ((crc s.data.toList).toNat : Int) := by
  unfold rofS crc
  rw [refS_eq s s.size (Nat.le_refl _), List.take_of_length_le (by rw [toList_len]; exact Nat.le_refl _), ← not_toNat, BitVec.xor_comm]
  exact bits_xor32 _ 0xFFFFFFFF#32
theorem le4_eq (v : BitVec 32) : strOfNums (le4 (v.toNat : Int)) = ⟨(w4 v).toArray⟩ := by
  unfold strOfNums le4 w4
  congr 1
end Go.Proofs.Ytkceobahefjlnaa
end
section
/- What check.Seal, check.Open (the program's and the document's) answer, said of lists of bytes. -/
namespace Go.Proofs.Ytkceobahefjlnaa
open Go.RowKit
/-- A text, sealed. -/
def sealL (l : List UInt8) : List UInt8 := l ++ w4 (crc l)
theorem sealL_len (l : List UInt8) : (sealL l).length = l.length + 4 := by simp [sealL, w4_len]
/-- Is a text sealed? -/
def sealed (l : List UInt8) : Prop := 4 ≤ l.length ∧ l.drop (l.length - 4) = w4 (crc (l.take (l.length - 4)))
theorem sealed_seal (l : List UInt8) : sealed (sealL l) := by
  refine ⟨by rw [sealL_len]; omega, ?_⟩
  rw [sealL_len, Nat.add_sub_cancel]
  unfold sealL
  rw [List.drop_left, List.take_left]
theorem take_seal (l : List UInt8) : (sealL l).take ((sealL l).length - 4) = l := by
  rw [sealL_len, Nat.add_sub_cancel]
  unfold sealL
  rw [List.take_left]
theorem of_sealed {l : List UInt8} (h : sealed l) : sealL (l.take (l.length - 4)) = l := by
  unfold sealL
  rw [← h.2, List.take_append_drop]
/-- What Open answers. -/
def openL (l : List UInt8) : ByteArray × Int := if l.length < 4 then (B [], 3) else if l.drop (l.length - 4) = w4 (crc (l.take (l.length - 4))) then (B (l.take (l.length - 4)), 0) else (B [], 5)
theorem openL_seal (l : List UInt8) : openL (sealL l) = (B l, 0) := by
  unfold openL
  rw [if_neg (by rw [sealL_len]; omega), if_pos (sealed_seal l).2, take_seal]
theorem openL_cases (m : List UInt8) : (m.length < 4 ∧ openL m = (B [], 3)) ∨ (4 ≤ m.length ∧ ¬ sealed m ∧ openL m = (B [], 5)) ∨ ∃ u, m = sealL u ∧ openL m = (B u, 0) := by
  by_cases h4 : m.length < 4
  · exact .inl ⟨h4, by unfold openL; rw [if_pos h4]⟩
  · by_cases h2 : m.drop (m.length - 4) = w4 (crc (m.take (m.length - 4)))
    · refine .inr (.inr ⟨m.take (m.length - 4), (of_sealed ⟨by omega, h2⟩).symm, ?_⟩)
      unfold openL; rw [if_neg h4, if_pos h2]
    · exact .inr (.inl ⟨by omega, fun h => h2 h.2, by unfold openL; rw [if_neg h4, if_neg h2]⟩)
theorem wrap_sub4 (n : Nat) (h : n ≤ 140737488355328) : wrap64 ((n : Int) - 4) = (n : Int) - 4 := by unfold wrap64; omega
theorem of_f (l : List UInt8) (h : l.length ≤ 140737488355328) : check_Of.f (B l) = some ((crc l).toNat : Int) := by
  unfold check_Of.f
  rw [if_pos (by rw [B_size]; exact h), ofS_eq, B_data]
theorem rof_f (l : List UInt8) (h : l.length ≤ 140737488355328) : sluicegateref04_Of.f (B l) = some ((crc l).toNat : Int) := by
  unfold sluicegateref04_Of.f
  rw [if_pos (by rw [B_size]; exact h), rofS_eq, B_data]
theorem bytes_f (v : BitVec 32) : check_bytes.f (v.toNat : Int) = some (B (w4 v)) := by
  unfold check_bytes.f
  have := v.isLt
  rw [if_pos (by omega), le4_eq]
  rfl
theorem seal_f (l : List UInt8) (h : l.length ≤ 140737488355328) : Q.check_Seal.f (B l) = some (B (sealL l)) := by
  unfold Q.check_Seal.f
  rw [of_f l h]
  simp only [Option.bind_some]
  rw [bytes_f]
  simp only [Option.bind_some]
  rw [if_pos (by rw [B_size, B_size, w4_len]; omega), B_append]
  rfl
theorem open_f (l : List UInt8) (h : l.length ≤ 140737488355328) : Q.check_Open.f (B l) = some (openL l) := by
  unfold openL
  unfold Q.check_Open.f
  rw [B_size, wrap_sub4 _ h]
  by_cases h4 : l.length < 4
  · rw [if_pos (by omega), if_pos h4]; rfl
  · rw [if_neg (by omega), if_pos (by omega), if_pos (by omega), if_neg h4]
    have e : ((l.length : Int) - 4).toNat = l.length - 4 := by omega
    rw [e, B_extract, B_extract, List.drop_zero, Nat.sub_zero, of_f _ (by rw [List.length_take]; omega)]
    simp only [Option.bind_some]
    rw [bytes_f]
    simp only [Option.bind_some]
    rw [B_toList, B_toList, List.take_of_length_le (by rw [List.length_drop]; omega)]
    by_cases h2 : l.drop (l.length - 4) = w4 (crc (l.take (l.length - 4)))
    · rw [if_pos h2, if_pos h2]
    · rw [if_neg h2, if_neg h2]; rfl
theorem rseal_f (l : List UInt8) (h : l.length ≤ 140737488355328) : Q.sluicegateref04_Seal.f (B l) = some (B (sealL l)) := by
  unfold Q.sluicegateref04_Seal.f
  rw [rof_f l h]
  simp only [Option.bind_some]
  have e : strOfNums [((crc l).toNat : Int) % 256, ((crc l).toNat : Int) / 256 % 256, ((crc l).toNat : Int) / 65536 % 256, ((crc l).toNat : Int) / 16777216 % 256] = B (w4 (crc l)) := le4_eq _
  rw [e, if_pos (by rw [B_size, B_size, w4_len]; omega), B_append]
  rfl
end Go.Proofs.Ytkceobahefjlnaa
end
section
namespace Go.Proofs.Ytkceobahefjlnaa
end Go.Proofs.Ytkceobahefjlnaa
end
section
/- The document's reader (sluicegateref05.Reader): Number and Text, told as plain functions; their walks. -/
namespace Go.Proofs.Ytkceobahefjlnaa
open Go.RowKit Q Go.Proofs.YtkceobahefjlnaaW.PrintWords Go.Proofs.YtkceobahefjlnaaW.PrintLast
def sluicegateref05_Reader_Number.f (k : Nat) (s : ByteArray) (e : Int) : Option (Int × ByteArray × Int) := if e = 0 then sluicegateref05_Take.f k s else some (0, s, e)
theorem sluicegateref05_Reader_Number.mono : ∀ s e k, LeO (sluicegateref05_Reader_Number.f k s e) (sluicegateref05_Reader_Number.f (k + 1) s e) := by
  intro s e k
  unfold sluicegateref05_Reader_Number.f
  exact LeO.ite (sluicegateref05_Take.mono _ _) (LeO.refl _)
set_option maxRecDepth 100000 in
set_option maxHeartbeats 400000 in
theorem sluicegateref05_Reader_Number.calls (k : Nat) (g : Nat) (s0_0 : ByteArray) (s0_1 : Int) (r1 : Int) (r2 : ByteArray) (r3 : Int) (w0 w : World) (hI : IsS87 w0 w g s0_0 s0_1) (hB : Below w0.heap.size w0 w) (h : sluicegateref05_Reader_Number.f k s0_0 s0_1 = some (r1, r2, r3)) :
    Calls Try.prog 48 #[.pointer (some ⟨g, 0, none⟩)] w fun e w' => e = .returned (.int .i64 r1) ∧ IsS87 w0 w' g r2 r3 ∧ Below w0.heap.size w0 w' ∧ KeepBut w w' g none := by
  have HI := Lib.hid hI
  have HB := Lib.hid hB
  have c0 := cellS87_0 hI.1
  have c1 := cellS87_1 hI.1
  clear hI hB
  unfold sluicegateref05_Reader_Number.f at h
  by_cases he : s0_1 = 0
  · rw [if_pos he] at h
    subst he
    have H := Lib.hid h
    clear h
    go_enter Try.func48, Try.ntmps48
    go_wp2_with fail
    refine (sluicegateref05_Take.calls k s0_0 r1 r2 r3 _ H.out).mono ?_
    rintro e w1 ⟨rfl, hd⟩
    have I1 := HI.out.below hd.below
    have K1 : KeepBut w w1 g none := KeepBut.of_below hd.below g none
    have B1 := Lib.hid (below_then HB.out HB.out.size hd.below)
    have d0 := cellS87_0 I1.1
    have d1 := cellS87_1 I1.1
    have f0 := blk_frozen I1.1 0
    have f1 := blk_frozen I1.1 1
    have J1 := Lib.hid I1
    have K1 := Lib.hid K1
    clear I1 hd c0 c1
    go_wp2
    go_ret
    exact ⟨rfl, (J1.out.set_0 r2).set_1 r3, below_set (below_set B1.out J1.out.ge) J1.out.ge, (K1.out.set_ 0 _).set_ 1 _⟩
  · rw [if_neg he] at h
    simp only [Option.some.injEq, Prod.mk.injEq] at h
    obtain ⟨rfl, rfl, rfl⟩ := h
    have he1 : (s0_1 != 0) = true := bne_iff_ne.mpr he
    clear he
    go_enter Try.func48, Try.ntmps48
    go_wp2
    go_ret
    exact ⟨rfl, HI.out, HB.out, KeepBut.refl _ _ _⟩
def sluicegateref05_Reader_Text.f (k : Nat) (s : ByteArray) (e : Int) : Option (ByteArray × ByteArray × Int) :=
  (sluicegateref05_Reader_Number.f k s e).bind fun t => if t.2.2 = 0 then (if t.1 > (t.2.1.size : Int) then some (⟨#[]⟩, ⟨#[]⟩, 3) else if 0 ≤ t.1 then some (t.2.1.extract 0 t.1.toNat, t.2.1.extract t.1.toNat t.2.1.size, 0) else none) else some (⟨#[]⟩, ⟨#[]⟩, t.2.2)
theorem sluicegateref05_Reader_Text.mono : ∀ s e k, LeO (sluicegateref05_Reader_Text.f k s e) (sluicegateref05_Reader_Text.f (k + 1) s e) := by
  intro s e k
  unfold sluicegateref05_Reader_Text.f
  exact LeO.bind (sluicegateref05_Reader_Number.mono _ _ _) (fun _ => LeO.refl _)
set_option maxRecDepth 100000 in
set_option maxHeartbeats 400000 in
theorem sluicegateref05_Reader_Text.calls (k : Nat) (g : Nat) (s0_0 : ByteArray) (s0_1 : Int) (r1 : ByteArray) (r2 : ByteArray) (r3 : Int) (w0 w : World) (hI : IsS87 w0 w g s0_0 s0_1) (hB : Below w0.heap.size w0 w) (h : sluicegateref05_Reader_Text.f k s0_0 s0_1 = some (r1, r2, r3)) :
    Calls Try.prog 49 #[.pointer (some ⟨g, 0, none⟩)] w fun e w' => e = .returned (.string r1) ∧ IsS87 w0 w' g r2 r3 ∧ Below w0.heap.size w0 w' ∧ KeepBut w w' g none := by
  unfold sluicegateref05_Reader_Text.f at h
  obtain ⟨⟨n, s, e⟩, hn, h⟩ := Option.bind_eq_some_iff.mp h
  have HI := Lib.hid hI
  have HB := Lib.hid hB
  have HN := Lib.hid hn
  clear hI hB hn
  simp only at h
  by_cases he : e = 0
  · rw [if_pos he] at h
    subst he
    by_cases hgt : n > (s.size : Int)
    · rw [if_pos hgt] at h
      simp only [Option.some.injEq, Prod.mk.injEq] at h
      obtain ⟨rfl, rfl, rfl⟩ := h
      go_enter Try.func49, Try.ntmps49
      go_wp2_with fail
      refine (sluicegateref05_Reader_Number.calls k g _ _ _ _ _ w0 _ HI.out HB.out HN.out).mono ?_
      rintro e w1 ⟨rfl, I1, B1, K1⟩
      have d0 := cellS87_0 I1.1
      have d1 := cellS87_1 I1.1
      have f0 := blk_frozen I1.1 0
      have f1 := blk_frozen I1.1 1
      have J1 := Lib.hid I1
      have K1 := Lib.hid K1
      have B1 := Lib.hid B1
      clear I1
      go_wp2_with fail
      go_ret
      exact ⟨rfl, (J1.out.set_1 3).set_0 _, below_set (below_set B1.out J1.out.ge) J1.out.ge, (K1.out.set_ 1 _).set_ 0 _⟩
    · rw [if_neg hgt] at h
      by_cases h0 : 0 ≤ n
      · rw [if_pos h0] at h
        simp only [Option.some.injEq, Prod.mk.injEq] at h
        obtain ⟨rfl, rfl, rfl⟩ := h
        have hle : n ≤ (s.size : Int) := by omega
        clear hgt
        obtain ⟨n, rfl⟩ := Int.eq_ofNat_of_zero_le h0
        rw [Int.toNat_natCast]
        have hle' : n ≤ s.size := by omega
        go_enter Try.func49, Try.ntmps49
        go_wp2_with fail
        refine (sluicegateref05_Reader_Number.calls k g _ _ _ _ _ w0 _ HI.out HB.out HN.out).mono ?_
        rintro e w1 ⟨rfl, I1, B1, K1⟩
        have d0 := cellS87_0 I1.1
        have d1 := cellS87_1 I1.1
        have f0 := blk_frozen I1.1 0
        have f1 := blk_frozen I1.1 1
        have J1 := Lib.hid I1
        have K1 := Lib.hid K1
        have B1 := Lib.hid B1
        clear I1
        go_wp2_with fail
        go_ret
        exact ⟨rfl, J1.out.set_0 _, below_set B1.out J1.out.ge, K1.out.set_ 0 _⟩
      · rw [if_neg h0] at h
        cases h
  · rw [if_neg he] at h
    simp only [Option.some.injEq, Prod.mk.injEq] at h
    obtain ⟨rfl, rfl, rfl⟩ := h
    have he1 : (e != 0) = true := bne_iff_ne.mpr he
    have he2 : (e == 0) = false := beq_eq_false_iff_ne.mpr he
    clear he
    go_enter Try.func49, Try.ntmps49
    go_wp2_with fail
    refine (sluicegateref05_Reader_Number.calls k g _ _ _ _ _ w0 _ HI.out HB.out HN.out).mono ?_
    rintro e w1 ⟨rfl, I1, B1, K1⟩
    have d0 := cellS87_0 I1.1
    have d1 := cellS87_1 I1.1
    have f0 := blk_frozen I1.1 0
    have f1 := blk_frozen I1.1 1
    have J1 := Lib.hid I1
    have K1 := Lib.hid K1
    have B1 := Lib.hid B1
    clear I1
    go_wp2_with fail
    go_ret
    exact ⟨rfl, J1.out.set_0 _, below_set B1.out J1.out.ge, K1.out.set_ 0 _⟩
end Go.Proofs.Ytkceobahefjlnaa
end
section
/- What both readers take, told as plain functions: numbers, texts, the end. -/
namespace Go.Proofs.Ytkceobahefjlnaa
open Go.RowKit Q Go.Proofs.YtkceobahefjlnaaW.PrintWords Go.Proofs.YtkceobahefjlnaaW.PrintLast Go.Proofs.YtkceobahefjlnaaW.PrintMore
/-- One number taken. -/
def nx (s : List UInt8 × Int) : Nat × List UInt8 × Int := if s.2 = 0 then tk s.1 0 0 else (0, s.1, s.2)
/-- One text taken. -/
def tx (s : List UInt8 × Int) : List UInt8 × List UInt8 × Int := if s.2 = 0 then tkT s.1 else ([], s.1, s.2)
/-- What is left, and the error, behind k numbers. -/
def rdn (l : List UInt8) : Nat → List UInt8 × Int
  | 0 => (l, 0)
  | k + 1 => (nx (rdn l k)).2
def val (l : List UInt8) (k : Nat) : Nat := (nx (rdn l k)).1
/-- The error at the end. -/
def endE (s : List UInt8 × Int) : Int := if s.1 = [] then s.2 else 4
theorem nx_le (s : List UInt8 × Int) : (nx s).2.1.length ≤ s.1.length := by
  unfold nx
  split
  · exact tk_le _ _ _
  · exact Nat.le_refl _
theorem rend_f (s : List UInt8 × Int) : pack_Reader_End.f (B s.1) s.2 = some (endE s, B [], endE s) ∨ pack_Reader_End.f (B s.1) s.2 = some (endE s, B s.1, endE s) := by
  obtain ⟨l, e⟩ := s
  unfold pack_Reader_End.f endE
  simp only
  rw [B_toList]
  by_cases h : l = []
  · rw [if_pos h, if_pos h]
    exact .inr rfl
  · rw [if_neg h, if_neg h]
    exact .inl rfl
theorem nx_inv (s : List UInt8 × Int) (h : (nx s).2.2 = 0) : s.2 = 0 ∧ s.1 = enc (nx s).1 ++ (nx s).2.1 := by
  unfold nx at h ⊢
  by_cases hs : s.2 = 0
  · rw [if_pos hs] at h ⊢
    refine ⟨hs, (tk_inv0 (v := (tk s.1 0 0).1) (r := (tk s.1 0 0).2.1) ?_).1⟩
    rw [← h]
  · rw [if_neg hs] at h
    exact absurd h hs
theorem nx_enc (m : Nat) (r : List UInt8) (h : m < 2 ^ 56) : nx (enc m ++ r, 0) = (m, r, 0) := by
  unfold nx
  simp only [if_true]
  exact tk_zero m r h
end Go.Proofs.Ytkceobahefjlnaa
end
section
/- A block of cells in memory, and what is kept of it: small lemmas for the walks. -/
namespace Go.Proofs.Ytkceobahefjlnaa
open Go.RowKit Go.Proofs.YtkceobahefjlnaaW.PrintWords
theorem below2 {w w1 w2 : World} {B : Nat} (a : Below B w w1) (hB : B ≤ w1.heap.size) (b : Below w1.heap.size w1 w2) : Below B w w2 := a.trans (b.mono hB)
/-- Block g of the world is a block of these cells. -/
def Blk (w : World) (g : Nat) (c : Array Value) (T : TypeId) : Prop := w.heap[g]? = some (.cells c T (0, 0))
theorem Blk.lt {w : World} {g : Nat} {c : Array Value} {T : TypeId} (h : Blk w g c T) : g < w.heap.size := (Array.getElem?_eq_some_iff.1 h).1
theorem Blk.cell {w : World} {g : Nat} {c : Array Value} {T : TypeId} (h : Blk w g c T) {i : Nat} {v : Value} (hi : c[i]? = some v) : w.cell? ⟨g, i, none⟩ = some v := by rw [Lib.cell_of_heap h]; exact hi
theorem Blk.free {w : World} {g : Nat} {c : Array Value} {T : TypeId} (h : Blk w g c T) (i : Nat) : w.frozen? ⟨g, i, none⟩ = false := Lib.frozen_of_heap h i
theorem Blk.set {w : World} {g : Nat} {c : Array Value} {T : TypeId} (h : Blk w g c T) (i : Nat) (v : Value) : Blk (w.setCell ⟨g, i, none⟩ v) g (c.setIfInBounds i v) T := by
  have : w.heap[g]? = _ := h
  simp [Blk, World.setCell, Array.getElem?_modify, this]
theorem Blk.other {w : World} {g g' : Nat} {c : Array Value} {T : TypeId} (h : Blk w g c T) (hne : g ≠ g') (i : Nat) (v : Value) : Blk (w.setCell ⟨g', i, none⟩ v) g c T := (Below.heap_setCell _ _ _ _ (fun e => hne e)).trans h
theorem Blk.keep {w w' : World} {g : Nat} {c : Array Value} {T : TypeId} (h : Blk w g c T) (hb : Below w.heap.size w w') : Blk w' g c T := (hb.block g h.lt).trans h
theorem Blk.alloc {w : World} {g : Nat} {c : Array Value} {T : TypeId} (h : Blk w g c T) (o : Obj) : Blk (w.alloc o) g c T := (Lib.alloc_old w o g h.lt).trans h
theorem Blk.new (w : World) (c : Array Value) (T : TypeId) : Blk (w.alloc (.cells c T)) w.heap.size c T := heap_alloc_new w _
theorem Blk.but {w w' : World} {g g' : Nat} {c : Array Value} {T : TypeId} (h : Blk w g c T) (hk : KeepBut w w' g' none) (hne : g ≠ g') : Blk w' g c T := (hk.2 g h.lt hne (by simp)).trans h
theorem below_setRow' {B : Nat} {w w1 : World} (h : Below B w w1) {g : Nat} (hg : B ≤ g) (c : Array Value) : Below B w (w1.setRow g c) :=
  h.trans ⟨rfl, rfl, rfl, by simp [World.setRow], fun k hk => setRow_other w1 g k c (by omega)⟩
theorem lt_cell {w : World} {ad : Addr} {v : Value} (h : w.cell? ad = some v) : ad.block < w.heap.size := by
  rcases Nat.lt_or_ge ad.block w.heap.size with h1 | h1
  · exact h1
  · exfalso
    have : w.heap[ad.block]? = none := Array.getElem?_eq_none h1
    simp [World.cell?, this] at h
theorem cells14 {w : World} {g : Nat} {T : TypeId} {a0 a1 a2 a3 a4 a5 a6 a7 a8 a9 a10 a11 a12 a13 : Value} (h : Blk w g #[a0, a1, a2, a3, a4, a5, a6, a7, a8, a9, a10, a11, a12, a13] T) : w.cell? ⟨g, 0, none⟩ = some a0 ∧ w.cell? ⟨g, 1, none⟩ = some a1 ∧ w.cell? ⟨g, 2, none⟩ = some a2 ∧ w.cell? ⟨g, 3, none⟩ = some a3 ∧ w.cell? ⟨g, 4, none⟩ = some a4 ∧ w.cell? ⟨g, 5, none⟩ = some a5 ∧ w.cell? ⟨g, 6, none⟩ = some a6 ∧ w.cell? ⟨g, 7, none⟩ = some a7 ∧ w.cell? ⟨g, 8, none⟩ = some a8 ∧ w.cell? ⟨g, 9, none⟩ = some a9 ∧ w.cell? ⟨g, 10, none⟩ = some a10 ∧ w.cell? ⟨g, 11, none⟩ = some a11 ∧ w.cell? ⟨g, 12, none⟩ = some a12 ∧ w.cell? ⟨g, 13, none⟩ = some a13 := ⟨h.cell rfl, h.cell rfl, h.cell rfl, h.cell rfl, h.cell rfl, h.cell rfl, h.cell rfl, h.cell rfl, h.cell rfl, h.cell rfl, h.cell rfl, h.cell rfl, h.cell rfl, h.cell rfl⟩
theorem cells5 {w : World} {g : Nat} {T : TypeId} {a0 a1 a2 a3 a4 : Value} (h : Blk w g #[a0, a1, a2, a3, a4] T) : w.cell? ⟨g, 0, none⟩ = some a0 ∧ w.cell? ⟨g, 1, none⟩ = some a1 ∧ w.cell? ⟨g, 2, none⟩ = some a2 ∧ w.cell? ⟨g, 3, none⟩ = some a3 ∧ w.cell? ⟨g, 4, none⟩ = some a4 := ⟨h.cell rfl, h.cell rfl, h.cell rfl, h.cell rfl, h.cell rfl⟩
theorem cells4 {w : World} {g : Nat} {T : TypeId} {a0 a1 a2 a3 : Value} (h : Blk w g #[a0, a1, a2, a3] T) : w.cell? ⟨g, 0, none⟩ = some a0 ∧ w.cell? ⟨g, 1, none⟩ = some a1 ∧ w.cell? ⟨g, 2, none⟩ = some a2 ∧ w.cell? ⟨g, 3, none⟩ = some a3 := ⟨h.cell rfl, h.cell rfl, h.cell rfl, h.cell rfl⟩
end Go.Proofs.Ytkceobahefjlnaa
end
section
/- record.Volume: whether a volume may be. The disks are counted by a set. -/
namespace Go.Proofs.Ytkceobahefjlnaa
open Go.RowKit Go.Maps Q Go.Proofs.YtkceobahefjlnaaW.PrintWords Go.Proofs.YtkceobahefjlnaaW.PrintLast Go.Proofs.YtkceobahefjlnaaW.PrintMore
/-- Is a number from 0 up to m? -/
def inB (n m : Int) : Bool := decide (0 ≤ n) && decide (n ≤ m)
theorem in_calls (n m : Int) (w : World) : Calls Try.prog 31 #[.int .i64 n, .int .i64 m] w fun e w' => e = .returned (.bool (inB n m)) ∧ Below w.heap.size w w' := by
  have h : record_in.f n m = some (inB n m) := by
    unfold record_in.f inB
    by_cases h : n ≥ 0
    · rw [if_pos h, decide_eq_true (p := 0 ≤ n) h]; rfl
    · rw [if_neg h, decide_eq_false (p := 0 ≤ n) h]; rfl
  refine (record_in.calls n m _ w h).mono ?_
  rintro e w' ⟨rfl, hd⟩
  exact ⟨rfl, hd.below⟩
def locOk (x : S67) : Bool := inB x.f0 11 && inB x.f1 47
def keysL (l : List S67) (k : Nat) : List Lit := (l.take k).map fun x => .int .i64 x.f0
def Sv (l : List S67) (k : Nat) : DataW Unit := setOf (.agg []) (keysL l k)
theorem keysL_succ (l : List S67) (k : Nat) (hk : k < l.length) : keysL l (k + 1) = keysL l k ++ [.int .i64 (rd_T67 l k).f0] := by
  unfold keysL rd_T67
  rw [List.take_add_one, List.map_append]
  simp [List.getD, List.getElem?_eq_getElem hk]
theorem Sv_succ (l : List S67) (k : Nat) (hk : k < l.length) : Sv l (k + 1) = (Sv l k).put (.int .i64 (rd_T67 l k).f0) (.agg []) := by
  unfold Sv
  rw [keysL_succ l k hk, setOf_snoc]
theorem Sv_zero (l : List S67) : Sv l 0 = .map [] := by simp [Sv, keysL, setOf]
/-- May a volume be? -/
def volP (id gen len : Int) (l : List S67) : Bool := l.all locOk && (inB id 1099511627776 && (inB gen 1099511627776 && (inB len 384 && (decide ((l.length : Int) = 9) && decide ((Maps.size (Sv l l.length) : Int) = 9)))))
theorem own_below {P : Program} {H : Type} {k : TypeId} {R : Value → Option (DataW H × List MemPlace)} {b n : Nat} {D : DataW H} {w w' : World} (h : w.ownsMap P k R b n D) (hb : Below w.heap.size w w') : w'.ownsMap P k R b n D := by
  have hlt := h.lt
  obtain ⟨es, clock, h0, F⟩ := h
  exact ⟨es, clock, (hb.block _ hlt).trans h0, F⟩
theorem lawI : Keyed Try.prog 3 := int_keyed Try.underlying3
theorem all_step (l : List S67) (k : Nat) (hk : k < l.length) : (l.take (k + 1)).all locOk = ((l.take k).all locOk && locOk (rd_T67 l k)) := by
  have : l.take (k + 1) = l.take k ++ [rd_T67 l k] := by
    unfold rd_T67
    rw [List.take_add_one]
    simp [List.getD, List.getElem?_eq_getElem hk]
  rw [this, List.all_append]
  simp
theorem all_bad (l : List S67) (k : Nat) (hk : k < l.length) (h : locOk (rd_T67 l k) = false) : l.all locOk = false := by
  have h1 := all_step l k hk
  rw [h, Bool.and_false] at h1
  rw [← List.take_append_drop (k + 1) l, List.all_append, h1, Bool.false_and]
set_option maxHeartbeats 2000000 in
set_option maxRecDepth 100000 in
theorem vol_calls (id gen len : Int) (A : Option Addr) (n c : Nat) (l : List S67) (w : World) (hr : Kd.C k67 w A n l) (hn : n = l.length) (hb : l.length ≤ 1000) : Calls Try.prog 16 #[.agg #[.int .i64 id, .int .i64 gen, .int .i64 len, .slice A n c]] w fun e w' => e = .returned (.bool (volP id gen len l)) ∧ Below w.heap.size w w' := by
  subst hn
  have hmm := @run_makeMap Try.prog
  have hu := Try.underlying24
  have hu23 := Try.underlying67
  have hs : ((w.alloc (.cells #[.int .i64 id, .int .i64 gen, .int .i64 len, .slice A l.length c] 24)).alloc (.map #[] 0)).heap.size = w.heap.size + 1 + 1 := by rw [World.size_alloc, World.size_alloc]
  have HV : Aside0 (Blk ((w.alloc (.cells #[.int .i64 id, .int .i64 gen, .int .i64 len, .slice A l.length c] 24)).alloc (.map #[] 0)) w.heap.size #[.int .i64 id, .int .i64 gen, .int .i64 len, .slice A l.length c] 24) := ⟨(Blk.new w _ _).alloc _⟩
  have HB : Aside0 (Below w.heap.size w ((w.alloc (.cells #[.int .i64 id, .int .i64 gen, .int .i64 len, .slice A l.length c] 24)).alloc (.map #[] 0))) := ⟨below_alloc (below_alloc (Below.refl _ _) _) _⟩
  have HO : Aside0 (((w.alloc (.cells #[.int .i64 id, .int .i64 gen, .int .i64 len, .slice A l.length c] 24)).alloc (.map #[] 0)).ownsMap Try.prog 3 (unitElem (H := Unit)) (w.heap.size + 1) 0 (Sv l 0)) := ⟨by rw [Sv_zero]; have := World.ownsMap_made (w.alloc (.cells #[.int .i64 id, .int .i64 gen, .int .i64 len, .slice A l.length c] 24)) Try.prog 3 (unitElem (H := Unit)); rwa [World.size_alloc] at this⟩
  have HSZ := Lib.hid hs
  clear hs
  go_enter Try.func16, Try.ntmps16
  go_wp2_with fail
  generalize ((w.alloc (.cells #[.int .i64 id, .int .i64 gen, .int .i64 len, .slice A l.length c] 24)).alloc (.map #[] 0)) = W0 at HV HB HO HSZ ⊢
  go_loopw [10] (fun i wr => ∃ k : Nat, k ≤ l.length ∧ i = .int .i64 k ∧ Aside0 ((l.take k).all locOk = true) ∧ Aside0 (wr.ownsMap Try.prog 3 (unitElem (H := Unit)) (w.heap.size + 1) k (Sv l k)) ∧ Aside0 (Blk wr w.heap.size #[.int .i64 id, .int .i64 gen, .int .i64 len, .slice A l.length c] 24) ∧ Aside0 (Below w.heap.size w wr) ∧ Aside0 (w.heap.size + 2 ≤ wr.heap.size)) (fun i _ => l.length - (intOf i).toNat)
  case atStart => exact ⟨0, Nat.zero_le _, rfl, ⟨rfl⟩, HO, HV, HB, ⟨by rw [HSZ.out]; omega⟩⟩
  case round =>
    clear HO HV HB
    obtain ⟨k, hk, rfl, HA, HO, HV, HB, HZ⟩ := hrel
    by_cases hlt : k < l.length
    · obtain ⟨ad, hA, k0, k1⟩ := at_T67 hr k (by omega) (by omega)
      rw [Int.toNat_natCast] at k0 k1
      have hK : (ad.add (k * 2)).block < w.heap.size := lt_cell k0
      have e0 := (HB.out.cell hK).trans k0
      have e1 := (HB.out.cell (lt_cell k1)).trans k1
      clear k0 k1
      subst hA
      have hkl : k < l.length := by omega
      have HX := Aside0.mk (Blk.new wr #[.int .i64 (rd_T67 l k).f0, .int .i64 (rd_T67 l k).f1] 67)
      replace HV := Aside0.mk (HV.out.alloc (.cells #[.int .i64 (rd_T67 l k).f0, .int .i64 (rd_T67 l k).f1] 67))
      replace HB := Aside0.mk (below_alloc HB.out (.cells #[.int .i64 (rd_T67 l k).f0, .int .i64 (rd_T67 l k).f1] 67))
      replace HO := Aside0.mk (HO.out.alloc (.cells #[.int .i64 (rd_T67 l k).f0, .int .i64 (rd_T67 l k).f1] 67))
      cases hb0 : inB (rd_T67 l k).f0 11 with
      | false =>
        have HF := Lib.hid (show volP id gen len l = false by unfold volP; rw [all_bad l k hkl (by unfold locOk; rw [hb0]; rfl)]; rfl)
        go_wp2_with fail
        refine (in_calls _ _ _).mono ?_
        rintro e w1 ⟨rfl, b1⟩
        rw [hb0]
        replace HB := Aside0.mk (below2 HB.out HB.out.size b1)
        replace HV := Aside0.mk (HV.out.keep b1)
        replace HO := Aside0.mk (own_below HO.out b1)
        replace HZ := Aside0.mk (Nat.le_trans HZ.out (Nat.le_trans (by rw [World.size_alloc]; omega) b1.size))
        replace HX := Aside0.mk (HX.out.keep b1)
        clear b1
        go_wp2_with fail
        go_ret
        exact ⟨by rw [HF.out]; rfl, HB.out⟩
      | true =>
        cases hb1 : inB (rd_T67 l k).f1 47 with
        | false =>
          have HF := Lib.hid (show volP id gen len l = false by unfold volP; rw [all_bad l k hkl (by unfold locOk; rw [hb0, hb1]; rfl)]; rfl)
          go_wp2_with fail
          refine (in_calls _ _ _).mono ?_
          rintro e w1 ⟨rfl, b1⟩
          rw [hb0]
          replace HB := Aside0.mk (below2 HB.out HB.out.size b1)
          replace HV := Aside0.mk (HV.out.keep b1)
          replace HO := Aside0.mk (own_below HO.out b1)
          replace HZ := Aside0.mk (Nat.le_trans HZ.out (Nat.le_trans (by rw [World.size_alloc]; omega) b1.size))
          replace HX := Aside0.mk (HX.out.keep b1)
          clear b1
          have d0 := HX.out.cell (i := 0) (v := .int .i64 (rd_T67 l k).f0) rfl
          have d1 := HX.out.cell (i := 1) (v := .int .i64 (rd_T67 l k).f1) rfl
          go_wp2_with fail
          clear d0 d1
          refine (in_calls _ _ _).mono ?_
          rintro e w2 ⟨rfl, b1⟩
          rw [hb1]
          replace HB := Aside0.mk (below2 HB.out HB.out.size b1)
          replace HV := Aside0.mk (HV.out.keep b1)
          replace HO := Aside0.mk (own_below HO.out b1)
          replace HZ := Aside0.mk (Nat.le_trans HZ.out b1.size)
          replace HX := Aside0.mk (HX.out.keep b1)
          clear b1
          go_wp2_with fail
          go_ret
          exact ⟨by rw [HF.out]; rfl, HB.out⟩
        | true =>
          have HA2 := Aside0.mk (show (l.take (k + 1)).all locOk = true by rw [all_step l k hkl, HA.out]; unfold locOk; rw [hb0, hb1]; rfl)
          have hkey := Aside0.mk (show keyOf Try.prog 3 (.int .i64 (rd_T67 l k).f0) = some (.int .i64 (rd_T67 l k).f0) from keyOf_int_mk Try.underlying3 (by unfold inB at hb0; rw [Bool.and_eq_true, decide_eq_true_eq, decide_eq_true_eq] at hb0; simp [Lit.wf, IntKind.min, IntKind.max, IntKind.signed, IntKind.bits]; omega))
          go_wp2_with fail
          refine (in_calls _ _ _).mono ?_
          rintro e w1 ⟨rfl, b1⟩
          rw [hb0]
          replace HB := Aside0.mk (below2 HB.out HB.out.size b1)
          replace HV := Aside0.mk (HV.out.keep b1)
          replace HO := Aside0.mk (own_below HO.out b1)
          replace HZ := Aside0.mk (Nat.le_trans HZ.out (Nat.le_trans (by rw [World.size_alloc]; omega) b1.size))
          replace HX := Aside0.mk (HX.out.keep b1)
          clear b1
          have d0 := HX.out.cell (i := 0) (v := .int .i64 (rd_T67 l k).f0) rfl
          have d1 := HX.out.cell (i := 1) (v := .int .i64 (rd_T67 l k).f1) rfl
          go_wp2_with fail
          clear d0 d1
          refine (in_calls _ _ _).mono ?_
          rintro e w2 ⟨rfl, b1⟩
          rw [hb1]
          replace HB := Aside0.mk (below2 HB.out HB.out.size b1)
          replace HV := Aside0.mk (HV.out.keep b1)
          replace HO := Aside0.mk (own_below HO.out b1)
          replace HZ := Aside0.mk (Nat.le_trans HZ.out b1.size)
          replace HX := Aside0.mk (HX.out.keep b1)
          clear b1
          have d0 := HX.out.cell (i := 0) (v := .int .i64 (rd_T67 l k).f0) rfl
          have hkm := Aside0.mk (show k < maxLen by unfold maxLen; omega)
          go_wp2_with (at_mapUpdate; refine wpList_mapUpdate_own _ rfl _ _ _ 73 rfl 3 74 lawI Try.underlying73 (unitElem (H := Unit)) (w.heap.size + 1) k _ rfl HO.out hkm.out _ _ _ rfl rfl hkey.out _ [] unitElem_mk ?_; intro w9 hown1 hgrow1)
          go_roundw
          case rel =>
            refine ⟨k + 1, by omega, by go_num, HA2, ⟨by rw [Sv_succ l k hkl]; exact hown1⟩, ⟨blk_grown HV.out hgrow1 (by simp)⟩, ⟨HB.out.grown hgrow1 HB.out.size (fun j hj => by cases hj; omega)⟩, ⟨Nat.le_trans HZ.out hgrow1.size⟩⟩
          case measure => simp [intOf]; omega
    · obtain rfl : k = l.length := by omega
      have hall : l.all locOk = true := by rw [← HA.out, List.take_of_length_le (Nat.le_refl _)]
      have HF := Lib.hid (show volP id gen len l = _ by unfold volP; rw [hall])
      clear HA hall
      have HLT := Lib.hid hlt
      have v0 := HV.out.cell (i := 0) (v := .int .i64 id) rfl
      go_wp2_with fail
      cases hc0 : inB id 1099511627776 with
      | false =>
        clear v0
        refine (in_calls _ _ _).mono ?_
        rintro e w3 ⟨rfl, b1⟩
        rw [hc0]
        replace HB := Aside0.mk (below2 HB.out HB.out.size b1)
        replace HV := Aside0.mk (HV.out.keep b1)
        replace HO := Aside0.mk (own_below HO.out b1)
        clear b1
        go_wp2_with fail
        go_ret
        exact ⟨by rw [HF.out, hc0]; rfl, HB.out⟩
      | true =>
        clear v0
        refine (in_calls _ _ _).mono ?_
        rintro e w3 ⟨rfl, b1⟩
        rw [hc0]
        replace HB := Aside0.mk (below2 HB.out HB.out.size b1)
        replace HV := Aside0.mk (HV.out.keep b1)
        replace HO := Aside0.mk (own_below HO.out b1)
        clear b1
        have v0 := HV.out.cell (i := 1) (v := .int .i64 gen) rfl
        go_wp2_with fail
        cases hc1 : inB gen 1099511627776 with
        | false =>
          clear v0
          refine (in_calls _ _ _).mono ?_
          rintro e w4 ⟨rfl, b1⟩
          rw [hc1]
          replace HB := Aside0.mk (below2 HB.out HB.out.size b1)
          replace HV := Aside0.mk (HV.out.keep b1)
          replace HO := Aside0.mk (own_below HO.out b1)
          clear b1
          go_wp2_with fail
          go_ret
          exact ⟨by rw [HF.out, hc0, hc1]; rfl, HB.out⟩
        | true =>
          clear v0
          refine (in_calls _ _ _).mono ?_
          rintro e w4 ⟨rfl, b1⟩
          rw [hc1]
          replace HB := Aside0.mk (below2 HB.out HB.out.size b1)
          replace HV := Aside0.mk (HV.out.keep b1)
          replace HO := Aside0.mk (own_below HO.out b1)
          clear b1
          have v0 := HV.out.cell (i := 2) (v := .int .i64 len) rfl
          go_wp2_with fail
          cases hc2 : inB len 384 with
          | false =>
            clear v0
            refine (in_calls _ _ _).mono ?_
            rintro e w5 ⟨rfl, b1⟩
            rw [hc2]
            replace HB := Aside0.mk (below2 HB.out HB.out.size b1)
            replace HV := Aside0.mk (HV.out.keep b1)
            replace HO := Aside0.mk (own_below HO.out b1)
            clear b1
            go_wp2_with fail
            go_ret
            exact ⟨by rw [HF.out, hc0, hc1, hc2]; rfl, HB.out⟩
          | true =>
            clear v0
            refine (in_calls _ _ _).mono ?_
            rintro e w5 ⟨rfl, b1⟩
            rw [hc2]
            replace HB := Aside0.mk (below2 HB.out HB.out.size b1)
            replace HV := Aside0.mk (HV.out.keep b1)
            replace HO := Aside0.mk (own_below HO.out b1)
            clear b1
            have v0 := HV.out.cell (i := 3) (v := .slice A l.length c) rfl
            obtain ⟨m, hm⟩ : ∃ m, Maps.size (Sv l l.length) = m := ⟨_, rfl⟩
            by_cases h9 : (l.length : Int) = 9
            · have f9 : ((l.length : Int) == 9) = true := by simpa using h9
              by_cases h8 : (m : Int) = 9
              · have f8 : ((m : Int) == 9) = true := by simpa using h8
                replace HF := Lib.hid (HF.out.trans (show _ = true by rw [hc0, hc1, hc2, decide_eq_true h9, hm, decide_eq_true h8]; rfl))
                clear h9 h8
                go_wp2_with (at_len; refine gate_guard (by rfl) ?_; refine wpList_len_own _ rfl _ 73 rfl 3 74 Try.underlying73 _ (w.heap.size + 1) l.length _ rfl HO.out ?_; rw [hm])
                go_ret
                exact ⟨by rw [HF.out]; rfl, HB.out⟩
              · have f8 : ((m : Int) == 9) = false := by simpa using h8
                replace HF := Lib.hid (HF.out.trans (show _ = false by rw [hc0, hc1, hc2, decide_eq_true h9, hm, decide_eq_false h8]; rfl))
                clear h9 h8
                go_wp2_with (at_len; refine gate_guard (by rfl) ?_; refine wpList_len_own _ rfl _ 73 rfl 3 74 Try.underlying73 _ (w.heap.size + 1) l.length _ rfl HO.out ?_; rw [hm])
                go_ret
                exact ⟨by rw [HF.out]; rfl, HB.out⟩
            · have f9 : ((l.length : Int) == 9) = false := by simpa using h9
              replace HF := Lib.hid (HF.out.trans (show _ = false by rw [hc0, hc1, hc2, decide_eq_false h9]; rfl))
              clear h9 hm
              go_wp2_with fail
              go_ret
              exact ⟨by rw [HF.out]; rfl, HB.out⟩
/-- record.Volume, in the form in which its callers take it. -/
def record_Volume.f (a0_0 a0_1 a0_2 : Int) (l0_3 : List S67) : Option Bool := if l0_3.length ≤ 1000 then some (volP a0_0 a0_1 a0_2 l0_3) else none
theorem record_Volume.calls (a0_0 : Int) (a0_1 : Int) (a0_2 : Int) (A0_3 : Option Addr) (c0_3 : Nat) (l0_3 : List S67) (r : Bool) (w : World) (hr0_3 : Kd.C k67 w A0_3 l0_3.length l0_3) (_hc0_3 : l0_3.length ≤ c0_3) (h : record_Volume.f a0_0 a0_1 a0_2 l0_3 = some r) :
    Calls Try.prog 16 #[.agg #[.int .i64 a0_0, .int .i64 a0_1, .int .i64 a0_2, .slice A0_3 l0_3.length c0_3]] w fun e w' => e = .returned (.bool r) ∧ Below w.heap.size w w' := by
  unfold record_Volume.f at h
  split at h
  · rename_i hb
    have := vol_calls a0_0 a0_1 a0_2 A0_3 l0_3.length c0_3 l0_3 w hr0_3 rfl hb
    rw [Option.some.inj h] at this
    exact this
  · cases h
end Go.Proofs.Ytkceobahefjlnaa
end
section
/- A record as a plain structure; when two are the same; that both Same tell just that. -/
namespace Go.Proofs.Ytkceobahefjlnaa
open Go.RowKit Q Go.Proofs.YtkceobahefjlnaaW.PrintWords Go.Proofs.YtkceobahefjlnaaW.PrintLast
structure RecP where
  seq : Int
  kind : Int
  id : Int
  gen : Int
  len : Int
  locs : List S67
  ekey : ByteArray
  evol : Int
  eoff : Int
  elen : Int
  dig : ByteArray
  key : ByteArray
  frm : Int
  til : Int
def locsEq : List S67 → List S67 → Bool
  | [], [] => true
  | x :: xs, y :: ys => ((x.f0 == y.f0) && (x.f1 == y.f1)) && locsEq xs ys
  | _, _ => false
theorem locsEq_iff : ∀ a b : List S67, locsEq a b = true ↔ a = b
  | [], [] => by simp [locsEq]
  | [], _ :: _ => by simp [locsEq]
  | _ :: _, [] => by simp [locsEq]
  | ⟨x0, x1⟩ :: xs, ⟨y0, y1⟩ :: ys => by
    have ih := locsEq_iff xs ys
    simp [locsEq, ih]
def sameB (a b : RecP) : Bool := decide (a.seq = b.seq) && (decide (a.kind = b.kind) && (decide (a.id = b.id) && (decide (a.gen = b.gen) && (decide (a.len = b.len) && (locsEq a.locs b.locs && ((a.ekey.toList == b.ekey.toList && (a.evol == b.evol && (a.eoff == b.eoff && (a.elen == b.elen && (a.dig.toList == b.dig.toList))))) && (decide (a.key.toList = b.key.toList) && (decide (a.frm = b.frm) && (a.til == b.til)))))))))
theorem bytes_iff (a b : ByteArray) : a.toList = b.toList ↔ a = b := ⟨eq_of_toList, fun h => by rw [h]⟩
theorem sameB_iff (a b : RecP) : sameB a b = true ↔ a = b := by
  obtain ⟨a0, a1, a2, a3, a4, a5, a6, a7, a8, a9, a10, a11, a12, a13⟩ := a
  obtain ⟨b0, b1, b2, b3, b4, b5, b6, b7, b8, b9, b10, b11, b12, b13⟩ := b
  unfold sameB
  simp only [Bool.and_eq_true, decide_eq_true_eq, beq_iff_eq, locsEq_iff, bytes_iff, RecP.mk.injEq]
  constructor
  · rintro ⟨h0, h1, h2, h3, h4, h5, ⟨h6, h7, h8, h9, h10⟩, h11, h12, h13⟩
    exact ⟨h0, h1, h2, h3, h4, h5, h6, h7, h8, h9, h10, h11, h12, h13⟩
  · rintro ⟨h0, h1, h2, h3, h4, h5, h6, h7, h8, h9, h10, h11, h12, h13⟩
    exact ⟨h0, h1, h2, h3, h4, h5, ⟨h6, h7, h8, h9, h10⟩, h11, h12, h13⟩
instance : DecidableEq RecP := fun a b => decidable_of_iff (sameB a b = true) (sameB_iff a b)
theorem ite_b (c : Prop) [Decidable c] (y : Bool) : (if c then some y else some false) = some (decide c && y) := by
  by_cases h : c <;> simp [h]
theorem drop_cons' (l : List S67) (i : Nat) (h : i < l.length) : l.drop i = rd_T67 l i :: l.drop (i + 1) := by
  unfold rd_T67
  rw [List.drop_eq_getElem_cons h]
  simp [List.getD, List.getElem?_eq_getElem h]
theorem wrap_s (i : Nat) (h : i ≤ 1000) : wrap64 ((i : Int) + 1) = ((i + 1 : Nat) : Int) := by unfold wrap64; omega
theorem locs_loop (a b : List S67) (hl : a.length = b.length) (h1 : a.length ≤ 1000) (d : Nat) : ∀ (i k : Nat), a.length - i = d → i ≤ a.length → d < k → api_Loc.l0 k a b (a.length : Int) (i : Int) = some (locsEq (a.drop i) (b.drop i)) := by
  induction d with
  | zero =>
    intro i k hd hi hk
    obtain ⟨k, rfl⟩ : ∃ m, k = m + 1 := ⟨k - 1, by omega⟩
    have : i = a.length := by omega
    subst this
    simp only [api_Loc.l0]
    rw [if_neg (by omega), List.drop_of_length_le (Nat.le_refl _), List.drop_of_length_le (by omega)]
    rfl
  | succ d ih =>
    intro i k hd hi hk
    obtain ⟨k, rfl⟩ : ∃ m, k = m + 1 := ⟨k - 1, by omega⟩
    simp only [api_Loc.l0]
    rw [if_pos (by omega), if_pos (by omega), if_pos (by omega), if_pos (by omega), drop_cons' a i (by omega), drop_cons' b i (by omega), wrap_s i (by omega), ih (i + 1) k (by omega) (by omega) (by omega)]
    simp only [locsEq]
    cases (rd_T67 a i).f0 == (rd_T67 b i).f0 <;> cases (rd_T67 a i).f1 == (rd_T67 b i).f1 <;> simp
theorem rlocs_loop (a b : List S67) (hl : a.length = b.length) (h1 : a.length ≤ 1000) (d : Nat) : ∀ (i k : Nat), a.length - i = d → i ≤ a.length → d < k → sluicegateref10_Same.l0 k a b (i : Int) = some (locsEq (a.drop i) (b.drop i)) := by
  induction d with
  | zero =>
    intro i k hd hi hk
    obtain ⟨k, rfl⟩ : ∃ m, k = m + 1 := ⟨k - 1, by omega⟩
    have : i = a.length := by omega
    subst this
    simp only [sluicegateref10_Same.l0]
    rw [if_neg (by omega), List.drop_of_length_le (Nat.le_refl _), List.drop_of_length_le (by omega)]
    rfl
  | succ d ih =>
    intro i k hd hi hk
    obtain ⟨k, rfl⟩ : ∃ m, k = m + 1 := ⟨k - 1, by omega⟩
    simp only [sluicegateref10_Same.l0]
    rw [if_pos (by omega), if_pos (by omega), if_pos (by omega), drop_cons' a i (by omega), drop_cons' b i (by omega), wrap_s i (by omega), ih (i + 1) k (by omega) (by omega) (by omega)]
    simp only [locsEq]
    cases (rd_T67 a i).f0 == (rd_T67 b i).f0 <;> cases (rd_T67 a i).f1 == (rd_T67 b i).f1 <;> simp
theorem locsEq_len : ∀ a b : List S67, a.length ≠ b.length → locsEq a b = false := by
  intro a b h
  cases hq : locsEq a b with
  | false => rfl
  | true => exact absurd (by rw [(locsEq_iff a b).1 hq]) h
theorem locs_f (a b : List S67) (h1 : a.length ≤ 1000) (k : Nat) (hk : 1001 ≤ k) : api_Loc.f k a b = some (locsEq a b) := by
  unfold api_Loc.f
  by_cases h : (a.length : Int) = (b.length : Int)
  · rw [if_pos h]
    exact locs_loop a b (by omega) h1 _ 0 k rfl (Nat.zero_le _) (by omega)
  · rw [if_neg h, locsEq_len a b (by omega)]
theorem rlocs_f (a b : List S67) (h1 : a.length ≤ 1000) (k : Nat) (hk : 1001 ≤ k) : sluicegateref10_Same.f k a b = some (locsEq a b) := by
  unfold sluicegateref10_Same.f
  by_cases h : (a.length : Int) = (b.length : Int)
  · rw [if_pos h]
    exact rlocs_loop a b (by omega) h1 _ 0 k rfl (Nat.zero_le _) (by omega)
  · rw [if_neg h, locsEq_len a b (by omega)]
theorem vols_f (a b : RecP) (h1 : a.locs.length ≤ 1000) (k : Nat) (hk : 1001 ≤ k) : sluicegateref11_Volumes.f k a.id a.gen a.len a.locs b.id b.gen b.len b.locs = some (a.id == b.id && (a.gen == b.gen && (a.len == b.len && locsEq a.locs b.locs))) := by
  unfold sluicegateref11_Volumes.f
  rw [rlocs_f a.locs b.locs h1 k hk]
  simp only [Option.bind_some, ite_b]
  rfl
end Go.Proofs.Ytkceobahefjlnaa
end
section
/- A region that draws its order: quiet operations (reads, quiet calls) first, then a tail in one forced order (a store, an append, ..): one walk of the text's order serves every order. Derived/StillTail.lean's Bools, Derived/Deep/Quiet.lean's class of worlds. -/
namespace Go.Proofs.Ytkceobahefjlnaa
section
variable {P : Program} {ops : Array Oper} {md : Region.Mode} {C : World → Prop}
def headQ (P : Program) (md : Region.Mode) (ops : Array Oper) (C : World → Prop) (n : Nat) (L : Array Bool → Act → Prop) : Nat → Array Bool → Act → Prop
  | 0, listed, a => L listed a
  | f + 1, listed, a => Region.ready md ops listed ≠ [] ∧ ∀ i ∈ Region.ready md ops listed, i < n ∧ qOp P ops C i (headQ P md ops C n L f (listed.setIfInBounds i true)) a
theorem headQ_any {n g : Nat} {L : Array Bool → Act → Prop} {Q : Exit → Act → World → Prop} (hL : ∀ listed a w, C w → L listed a → wpAny P md ops Q g listed a w) :
    ∀ (f : Nat) (listed : Array Bool) (a : Act) (w : World), C w → headQ P md ops C n L f listed a → wpAny P md ops Q (f + g) listed a w
  | 0, _, _, _, hw, h => by rw [Nat.zero_add]; exact hL _ _ _ hw h
  | f + 1, _, _, _, hw, h => by
    rw [show f + 1 + g = (f + g) + 1 by omega]
    exact ⟨fun h0 => absurd h0 h.1, fun i hi => wpOp_of_qOp hw (fun a' w' hw' h' => headQ_any hL f _ a' w' hw' h') (h.2 i hi).2⟩
theorem headQ_first {n i : Nat} {oi : Oper} {v : Value} {L : Array Bool → Act → Prop} (hi : ops[i]? = some oi) (hsel : ∀ (j : Nat) (o : Oper) cs b, ops[j]? = some o → o.op ≠ .select cs b)
    (hs : Region.sinkB md ops n = true) (hc : Region.chainB md ops n = true) (hn : n < ops.size) (hin : i < n)
    (hdone : ∀ listed a, L listed a → ∀ j ∈ Region.ready md ops listed, n ≤ j) :
    ∀ (f : Nat) (listed : Array Bool) (a : Act), HeadInv md ops n listed →
      (∀ j oj, ops[j]? = some oj → j ≠ i → listed.getD j true = false → (∀ e ∈ oj.after, Region.binds md e = true → e.on ≠ i) → oi.apart ops oj = true) →
      i ∈ Region.ready md ops listed → YieldsIn P ops C oi v a →
      headQ P md ops C n L f (listed.setIfInBounds i true) (a.put oi.dst v) → headQ P md ops C n L (f + 1) listed a := by
  intro f
  induction f with
  | zero =>
    intro listed a inv _ hr hy H
    have hun := (mem_ready.1 hr).1
    refine ⟨fun h => (by rw [h] at hr; cases hr), fun j hj => ?_⟩
    have hjn : j < n := by
      rcases Nat.lt_or_ge j n with h | h
      · exact h
      · exact absurd hj (tail_waits hs hc hn inv _ i rfl hin hun j h)
    refine ⟨hjn, ?_⟩
    by_cases hji : j = i
    · subst hji; exact hy.qOp hi H
    · have := hdone _ _ H j (ready_mono hj hji)
      omega
  | succ f ih =>
    intro listed a inv hfree hr hy H
    have hun := (mem_ready.1 hr).1
    refine ⟨fun h => (by rw [h] at hr; cases hr), fun j hj => ?_⟩
    have hjn : j < n := by
      rcases Nat.lt_or_ge j n with h | h
      · exact h
      · exact absurd hj (tail_waits hs hc hn inv _ i rfl hin hun j h)
    refine ⟨hjn, ?_⟩
    by_cases hji : j = i
    · subst hji; exact hy.qOp hi H
    · have h1 := (H.2 j (ready_mono hj hji)).2
      obtain ⟨hjun, oj, hoj, hall⟩ := mem_ready.1 hj
      have hnot : ∀ e ∈ oj.after, Region.binds md e = true → e.on ≠ i := fun e he hb heq => by
        have h1 := hall e he hb
        rw [heq, getD_both hun] at h1
        cases h1
      have h2 := qOp_put hoj (hfree j oj hoj hji hjun hnot) (fun cs b => hsel i oi cs b hi) (fun cs b => hsel j oj cs b hoj) hy h1
      have hfree' : ∀ k ok, ops[k]? = some ok → k ≠ i → (listed.setIfInBounds j true).getD k true = false →
          (∀ e ∈ ok.after, Region.binds md e = true → e.on ≠ i) → oi.apart ops ok = true := fun k ok hk hki hun hno => by
        refine hfree k ok hk hki ?_ hno
        by_cases hjk : j = k
        · subst hjk; exact hjun
        · rw [getD_set_ne true hjk] at hun; exact hun
      refine qOp_mono (fun a' h3 => ih (listed.setIfInBounds j true) a' (inv.set hj hjn) hfree' (ready_mono hr (Ne.symm hji)) h3.1 ?_) h2
      rw [Array.setIfInBounds_comm _ _ hji]
      exact h3.2
theorem headQ_lex {n g : Nat} {Lq : Act → Prop} (hsel : Region.noSelect ops = true) (hs : Region.sinkB md ops n = true) (hc : Region.chainB md ops n = true) (hn : n < ops.size) :
    ∀ (l : List Oper) (k : Nat) (listed : Array Bool) (a : Act), (∀ j, j < l.length → l[j]? = ops[k + j]?) → k + l.length = n → HeadInv md ops n listed →
    Region.lexHead md ops g l.length k listed = true → wpQuiet P ops C Lq l a →
    headQ P md ops C n (fun listed' a' => Region.seqB md ops g n listed' = true ∧ Lq a') l.length listed a
  | [], k, listed, a, _, hk, _, hB, h => by
    have : k = n := by simpa using hk
    subst this
    exact ⟨by simpa [Region.lexHead] using hB, h⟩
  | o :: l, k, listed, a, hl, hk, inv, hB, h => by
    have h0 : ops[k]? = some o := by simpa using (hl 0 (by simp)).symm
    simp only [List.length_cons, Region.lexHead, Bool.and_eq_true] at hB
    obtain ⟨⟨hr, hf⟩, hB'⟩ := hB
    have hkn : k < n := by simp only [List.length_cons] at hk; omega
    have hr' : k ∈ Region.ready md ops listed := by simpa using hr
    have hst : qOp P ops C k (wpQuiet P ops C Lq l) a := by unfold qOp; simp only [h0]; exact h
    obtain ⟨v, hy, hK⟩ := yieldsIn_of_qOp h0 hst
    exact headQ_first h0 (Region.noSelect_spec hsel) hs hc hn hkn (fun listed' a' hL => seqB_ready hL.1) l.length listed a inv (Region.free_spec h0 hf) hr' hy
      (headQ_lex hsel hs hc hn l (k + 1) _ _ (fun j hj => by have := hl (j + 1) (by simp; omega); simpa [Nat.add_assoc, Nat.add_comm 1 j] using this) (by simp only [List.length_cons] at hk; omega) (inv.set hr' hkn) hB' hK)
/-- The same at any class of worlds that holds the drawn world: calls may make memory, as long as they stay in the class. -/
theorem region_class_tail (C : World → Prop) {id : Nat} {Q : Exit → Act → World → Prop} {a : Act} {w : World} {l : List Oper} (n : Nat) (hm : P.follows .mixedOrders = true) (hB : Region.lexTailB .any l.toArray n = true) (hC : C (w.drewN 1))
    (h : wpQuiet P l.toArray C (fun a' => ∀ w', C w' → wpList P l.toArray Q (l.drop n) a' w') (l.take n) a) : (Code.region id l.toArray true).wp P Q a w := by
  simp only [Region.lexTailB, Bool.and_eq_true, decide_eq_true_eq] at hB
  obtain ⟨⟨⟨⟨hsel, hn⟩, hs⟩, hc⟩, hlex⟩ := hB
  have hn' : n < l.length := by simpa using hn
  have htl : (l.take n).length = n := by simp; omega
  have hdl : (l.drop n).length = l.toArray.size - n := by simp
  have inv0 : HeadInv .any l.toArray n (Array.replicate l.toArray.size false) :=
    ⟨by simp, fun j oj _ hl => (by rw [getD_replicate_false] at hl; cases hl), fun t _ ht => getD_in (by simpa using ht) (getD_replicate_false _ _)⟩
  have H := headQ_lex (md := .any) (g := l.toArray.size - n) hsel hs hc hn (l.take n) 0 _ a (fun j hj => by
    have hj' : j < n := by rw [htl] at hj; exact hj
    simp [hj']) (by simpa using htl) inv0 (by rw [htl]; exact hlex) h
  refine wp_region_any hm ?_
  have := headQ_any (Q := Q) (g := l.toArray.size - n) (fun listed a' w' hw' hL => by
    have := wpAny_of_seq (md := .any) (Q' := Q) (l.drop n) n listed a' w' (fun j => by simp [List.getElem?_drop]) (by rw [hdl]; exact hL.1) (hL.2 w' hw')
    rwa [hdl] at this) _ _ _ (w.drewN 1) hC H
  rw [htl, show n + (l.toArray.size - n) = l.toArray.size by omega] at this
  exact this
theorem q_val {o : Oper} {rest : List Oper} {Q : Act → Prop} {a : Act} (v : Value) (N : Option Tmp) (hN : o.dst = N) (hw : Region.wanted o (yielded ops a.tmps) = true) (hrun : ∀ w', C w' → (execOp a.eval o).run P w' = .ok (.value v) w')
    (h : wpQuiet P ops C Q rest (a.put N v)) : wpQuiet P ops C Q (o :: rest) a := by
  subst hN
  refine wpQuiet_step (fun K hK => ?_)
  rw [if_pos hw]
  refine ⟨v, fun w' hw' => ?_, hK _ h⟩
  unfold Oper.quietAt
  rw [hrun w' hw']
  exact ⟨rfl, rfl⟩
theorem q_call {o : Oper} {rest : List Oper} {Q : Act → Prop} {a : Act} (f : FuncId) (args : Array Value) (v : Value) (N : Option Tmp) (hN : o.dst = N) (hw : Region.wanted o (yielded ops a.tmps) = true) (hrun : ∀ w', (execOp a.eval o).run P w' = .ok (.enter f args) w')
    (hc : ∀ w', C w' → Calls P f args w' fun e w'' => e = .returned v ∧ C w'') (h : wpQuiet P ops C Q rest (a.put N v)) : wpQuiet P ops C Q (o :: rest) a := by
  subst hN
  refine wpQuiet_step (fun K hK => ?_)
  rw [if_pos hw]
  refine ⟨v, fun w' hw' => ?_, hK _ h⟩
  unfold Oper.quietAt
  rw [hrun w']
  exact ⟨rfl, hc w' hw'⟩
end
end Go.Proofs.Ytkceobahefjlnaa
/-! A region that draws its order: reads and calls that leave what was there as it was, then a tail in one forced order. The class of worlds is 'below the heap's size of the region's begin'. -/
namespace Go.Proofs.Ytkceobahefjlnaa
open Go.RowKit
section
variable {P : Program} {ops : Array Oper} {W0 : World}
theorem region_below_tail {id : Nat} {Q : Exit → Act → World → Prop} {a : Act} {w : World} {l : List Oper} (n : Nat) (hm : P.follows .mixedOrders = true) (hB : Region.lexTailB .any l.toArray n = true)
    (h : wpQuiet P l.toArray (Below w.heap.size w) (fun a' => ∀ w', Below w.heap.size w w' → wpList P l.toArray Q (l.drop n) a' w') (l.take n) a) : (Code.region id l.toArray true).wp P Q a w :=
  region_class_tail (Below w.heap.size w) n hm hB (Below.drew (Below.refl _ _)) h
theorem q_ld {o : Oper} {rest : List Oper} {Q : Act → Prop} {a : Act} (T : TypeId) (x : Operand) (N : Nat) (ad : Addr) (v : Value) (ho : o.op = .load T x) (hN : o.dst = some N) (hg : o.guard = none) (hx : a.eval x = .pointer (some ad))
    (hT : ∀ (w' : World), w'.cell? ad = some v → (Instr.loadAt T (.pointer (some ad))).run P w' = .ok v w') (hc : W0.cell? ad = some v) (hlt : ad.block < W0.heap.size)
    (h : wpQuiet P ops (Below W0.heap.size W0) Q rest (a.put (some N) v)) : wpQuiet P ops (Below W0.heap.size W0) Q (o :: rest) a := by
  refine q_val v (some N) hN (by unfold Region.wanted; rw [hg]) (fun w' hw' => ?_) h
  have := hT w' ((hw'.cell hlt).trans hc)
  unfold execOp
  simp only [ho, hx, Sem.run_bind, this, Result.andThen_ok, Sem.run_pure]
theorem q_go {o : Oper} {rest : List Oper} {Q : Act → Prop} {a : Act} {f : FuncId} {fn : Func} {ops1 : Array Operand} {ts : Array TypeId} (hf : P.funcs[f]? = some fn) (hname : (fn.name == "runtime.NumGoroutine") = false) (hb : fn.body.isSome = true) (args : Array Value) (v : Value) (N : Nat)
    (hop : o.op = .call { callee := .value (.func f), args := ops1, argTypes := ts }) (hN : o.dst = some N) (hg : o.guard = none) (hargs : ops1.map a.eval = args)
    (hc : ∀ w', Below W0.heap.size W0 w' → Calls P f args w' fun e w'' => e = .returned v ∧ Below w'.heap.size w' w'')
    (h : wpQuiet P ops (Below W0.heap.size W0) Q rest (a.put (some N) v)) : wpQuiet P ops (Below W0.heap.size W0) Q (o :: rest) a := by
  refine q_call f args v (some N) hN (by unfold Region.wanted; rw [hg]) (fun w' => ?_) (fun w' hw' => ?_) h
  · have h1 : fn.name ≠ "runtime.NumGoroutine" := by simpa using hname
    obtain ⟨c, hc'⟩ := Option.isSome_iff_exists.1 hb
    unfold execOp
    simp [hop, resolve, Deferred.ofValue, invoke, Act.eval, hargs, callFunc, hf, h1, hc']
  · refine (hc w' hw').mono ?_
    rintro e w'' ⟨he, hb'⟩
    exact ⟨he, hw'.trans (hb'.mono hw'.size)⟩
theorem q_rdw {o : Oper} {rest : List Oper} {Q : Act → Prop} {a : Act} (T : TypeId) (x : Operand) (N : Nat) (ad : Addr) (v : Value) (ho : o.op = .load T x) (hN : o.dst = some N) (hw : Region.wanted o (yielded ops a.tmps) = true) (hx : a.eval x = .pointer (some ad))
    (hT : ∀ (w' : World), Below W0.heap.size W0 w' → (Instr.loadAt T (.pointer (some ad))).run P w' = .ok v w')
    (h : wpQuiet P ops (Below W0.heap.size W0) Q rest (a.put (some N) v)) : wpQuiet P ops (Below W0.heap.size W0) Q (o :: rest) a := by
  refine q_val v (some N) hN hw (fun w' hw' => ?_) h
  have := hT w' hw'
  unfold execOp
  simp only [ho, hx, Sem.run_bind, this, Result.andThen_ok, Sem.run_pure]
theorem q_gow {o : Oper} {rest : List Oper} {Q : Act → Prop} {a : Act} {f : FuncId} {fn : Func} {ops1 : Array Operand} {ts : Array TypeId} (hf : P.funcs[f]? = some fn) (hname : (fn.name == "runtime.NumGoroutine") = false) (hb : fn.body.isSome = true) (args : Array Value) (v : Value) (N : Nat)
    (hop : o.op = .call { callee := .value (.func f), args := ops1, argTypes := ts }) (hN : o.dst = some N) (hw : Region.wanted o (yielded ops a.tmps) = true) (hargs : ops1.map a.eval = args)
    (hc : ∀ w', Below W0.heap.size W0 w' → Calls P f args w' fun e w'' => e = .returned v ∧ Below w'.heap.size w' w'')
    (h : wpQuiet P ops (Below W0.heap.size W0) Q rest (a.put (some N) v)) : wpQuiet P ops (Below W0.heap.size W0) Q (o :: rest) a := by
  refine q_call f args v (some N) hN hw (fun w' => ?_) (fun w' hw' => ?_) h
  · have h1 : fn.name ≠ "runtime.NumGoroutine" := by simpa using hname
    obtain ⟨c, hc'⟩ := Option.isSome_iff_exists.1 hb
    unfold execOp
    simp [hop, resolve, Deferred.ofValue, invoke, Act.eval, hargs, callFunc, hf, h1, hc']
  · refine (hc w' hw').mono ?_
    rintro e w'' ⟨he, hb'⟩
    exact ⟨he, hw'.trans (hb'.mono hw'.size)⟩
end
/-- A region in the text's own order, by the quiet steps (each looks at its own operation alone: for long regions). -/
theorem quiet_list {P : Program} {ops : Array Oper} {C : World → Prop} {Q : Exit → Act → World → Prop} (tail : List Oper) : ∀ (l : List Oper) (a : Act) (w : World), C w → wpQuiet P ops C (fun a' => ∀ w', C w' → wpList P ops Q tail a' w') l a → wpList P ops Q (l ++ tail) a w
  | [], a, w, hw, h => h w hw
  | o :: rest, a, w, hw, h => by
    unfold wpQuiet at h
    show if Region.wanted o (yielded ops a.tmps) = true then _ else _
    by_cases hn : Region.wanted o (yielded ops a.tmps) = true
    · rw [if_pos hn] at h ⊢
      exact .inl (Oper.wp_of_quiet hw (fun a' w' hw' hk => quiet_list tail rest a' w' hw' hk) h)
    · rw [if_neg hn] at h ⊢
      exact quiet_list tail rest _ w hw h
theorem list_quiet {P : Program} {ops : Array Oper} {Q : Exit → Act → World → Prop} {l : List Oper} {a : Act} {w : World} (h : wpQuiet P ops (Below w.heap.size w) (fun a' => ∀ w', Below w.heap.size w w' → Q .normal a' w') l a) : wpList P ops Q l a w := by
  have := quiet_list (P := P) (ops := ops) (Q := Q) [] l a w (Below.refl _ _) h
  rwa [List.append_nil] at this
theorem ld_int (ad : Addr) (v : Value) (w : World) (h : w.cell? ad = some v) : (Instr.loadAt 3 (.pointer (some ad))).run Try.prog w = .ok v w := by
  go_simp
theorem ld_str (ad : Addr) (v : Value) (w : World) (h : w.cell? ad = some v) : (Instr.loadAt 9 (.pointer (some ad))).run Try.prog w = .ok v w := by
  go_simp
end Go.Proofs.Ytkceobahefjlnaa
end
