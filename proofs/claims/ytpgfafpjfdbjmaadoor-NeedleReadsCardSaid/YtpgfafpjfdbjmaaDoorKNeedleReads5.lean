/- Lemmas for the law NeedleReads, merged out of several texts and cut down to what it names, by a program of this session (some of the first ones are of the words that print.sh wrote for this claim). -/
import Derived.RangeFuncNested
import Derived.Test.YtpgfafpjfdbjmaaDoorProg
import Derived.OrdersIn
import Derived.RangeFuncCalls
import Derived.RangeFuncLeaves
import Derived.Shelf.Abstract
import Derived.OwnWalkIn
import Derived.TacticsInMore
import Derived.LoopNIn
import Derived.LoopIn
import Derived.Laws.Rows
import Derived.Lib.ConvBytes
import Derived.Test.YtpgfafpjfdbjmaaDoorKNeedleReads1
import Derived.Test.YtpgfafpjfdbjmaaDoorKNeedleReads2
import Derived.Test.YtpgfafpjfdbjmaaDoorKNeedleReads3
import Derived.Test.YtpgfafpjfdbjmaaDoorKNeedleReads4
set_option linter.unusedVariables false
set_option linter.unusedSimpArgs false
section
namespace Go.Proofs.YtpgfafpjfdbjmaaDoor.Q
open Go.RowKit Go.Proofs.YtpgfafpjfdbjmaaDoorW.PrintWords Go.Proofs.YtpgfafpjfdbjmaaDoorW.PrintLast Go.Proofs.YtpgfafpjfdbjmaaDoorW.PrintMore
attribute [local go_sem] max2_int min2_int max_two min_two max_three min_three max_four min_four   -- for this text's walks alone
set_option linter.unusedVariables false
set_option linter.unusedSimpArgs false
def needle_Write.f (k : Nat) (a0_0 : ByteArray) (a0_1 : ByteArray) : Option (ByteArray × Int) := (needle_Check.f a0_0 a0_1).bind fun t109 => (if t109 = 0 then ((pack_Text.f k a0_0).bind fun t110 => ((pack_Text.f k a0_1).bind fun t111 => (if t110.size + t111.size ≤ 9223372036854775807 then ((digest_Sum.f a0_1).bind fun t112 => (if (t110 ++ t111).size + t112.size ≤ 9223372036854775807 then (some ((t110 ++ t111) ++ t112, 0)) else (none))) else (none)))) else (some ((⟨#[]⟩ : ByteArray), t109)))
def needle_Write.T4 : Bool × List (List Nat × List Nat) := (true, [([], []), ([0], [0]), ([1], [1]), ([], []), ([3], [3]), ([4, 2], [4]), ([2, 5], [2, 5]), ([], []), ([7], [7]), ([8, 5], [8]), ([6, 9], [6, 9]), ([10, 9, 0, 1, 2, 3, 4, 5, 6, 7, 8, 9, 10], [10]), ([11, 0, 1, 2, 3, 4, 5, 6, 7, 8, 9, 10, 11], [])])
def needle_Write.B4 : List Nat := [0, 1, 3, 0, 8, 31, 63, 0, 128, 447, 1023, 2047, 4095]
theorem needle_Write.tab4 : rtab .any (opsOf Tryd.f10 4) = needle_Write.T4 := by kernel_rfl
theorem needle_Write.bits4 : waitsOk needle_Write.T4.2 needle_Write.B4 = true := by kernel_rfl
set_option maxHeartbeats 8000000 in
set_option maxRecDepth 100000 in
theorem needle_Write.calls (k : Nat) (a0_0 : ByteArray) (a0_1 : ByteArray) (r1 : ByteArray) (r2 : Int) (w : World) (h : needle_Write.f k a0_0 a0_1 = some (r1, r2)) :
    Calls Tryd.prog 10 #[.agg #[.string a0_0, .string a0_1]] w fun e w' => e = .returned (.tuple #[.string r1, .int .i64 r2]) ∧ Below w.heap.size w w' := by
  have hu28 := Tryd.underlying28
  have HB := Aside0.mk (Below.refl w.heap.size w)
  have H : ((needle_Check.f a0_0 a0_1).bind fun t109 => (if t109 = 0 then ((pack_Text.f k a0_0).bind fun t110 => ((pack_Text.f k a0_1).bind fun t111 => (if t110.size + t111.size ≤ 9223372036854775807 then ((digest_Sum.f a0_1).bind fun t112 => (if (t110 ++ t111).size + t112.size ≤ 9223372036854775807 then (some ((t110 ++ t111) ++ t112, 0)) else (none))) else (none)))) else (some ((⟨#[]⟩ : ByteArray), t109)))) = some (r1, r2) := h
  clear h
  replace H := Option.bind_eq_some_iff.mp H
  obtain ⟨t109, A20, H⟩ := H
  replace H : (if t109 = 0 then ((pack_Text.f k a0_0).bind fun t110 => ((pack_Text.f k a0_1).bind fun t111 => (if t110.size + t111.size ≤ 9223372036854775807 then ((digest_Sum.f a0_1).bind fun t112 => (if (t110 ++ t111).size + t112.size ≤ 9223372036854775807 then (some ((t110 ++ t111) ++ t112, 0)) else (none))) else (none)))) else (some ((⟨#[]⟩ : ByteArray), t109))) = some (r1, r2) := H
  have A2 := Aside0.mk A20
  clear A20
  by_cases c3 : t109 = 0
  · rw [if_pos c3] at H
    have c3b0 : (t109 == 0) = true := beq_iff_eq.mpr c3
    have c3b1 : (t109 != 0) = false := bne_eq_false_iff_eq.mpr c3
    clear c3
    replace H := Option.bind_eq_some_iff.mp H
    obtain ⟨t110, A40, H⟩ := H
    replace H : ((pack_Text.f k a0_1).bind fun t111 => (if t110.size + t111.size ≤ 9223372036854775807 then ((digest_Sum.f a0_1).bind fun t112 => (if (t110 ++ t111).size + t112.size ≤ 9223372036854775807 then (some ((t110 ++ t111) ++ t112, 0)) else (none))) else (none))) = some (r1, r2) := H
    have A4 := Aside0.mk A40
    clear A40
    replace H := Option.bind_eq_some_iff.mp H
    obtain ⟨t111, A50, H⟩ := H
    replace H : (if t110.size + t111.size ≤ 9223372036854775807 then ((digest_Sum.f a0_1).bind fun t112 => (if (t110 ++ t111).size + t112.size ≤ 9223372036854775807 then (some ((t110 ++ t111) ++ t112, 0)) else (none))) else (none)) = some (r1, r2) := H
    have A5 := Aside0.mk A50
    clear A50
    by_cases c6 : t110.size + t111.size ≤ 9223372036854775807
    · rw [if_pos c6] at H
      have c6b0 := eq_true c6
      have c6b1 : decide (t110.size + t111.size ≤ 9223372036854775807) = true := decide_eq_true c6
      try have c6b2 : (9223372036854775807 < t110.size + t111.size) = False := eq_false (Nat.not_lt.2 c6)
      replace H := Option.bind_eq_some_iff.mp H
      obtain ⟨t112, A70, H⟩ := H
      replace H : (if (t110 ++ t111).size + t112.size ≤ 9223372036854775807 then (some ((t110 ++ t111) ++ t112, 0)) else (none)) = some (r1, r2) := H
      have A7 := Aside0.mk A70
      clear A70
      by_cases c8 : (t110 ++ t111).size + t112.size ≤ 9223372036854775807
      · rw [if_pos c8] at H
        have c8b0 := eq_true c8
        have c8b1 : decide ((t110 ++ t111).size + t112.size ≤ 9223372036854775807) = true := decide_eq_true c8
        try have c8b2 : (9223372036854775807 < (t110 ++ t111).size + t112.size) = False := eq_false (Nat.not_lt.2 c8)
        have c8b9 := c8b2
        simp only [ByteArray.size_append] at c8b9
        simp only [Option.some.injEq, Prod.mk.injEq] at H
        obtain ⟨rfl, rfl⟩ := H
        go_enter Tryd.func10, Tryd.ntmps10
        try go_wp2_with (first | ((with_reducible refine gate_dst (N := 1) rfl ?_); refine box_event ?hg (N := 1) ?hd (cs := #[.string a0_0, .string a0_1]) (t := 28) ?hr ?_; (case hd => rfl); (case hg => rfl); (case hr => first | (go_simp; done) | (go_simp; rfl)); intro gb108 hg w9 hbox hb; have n0_ := Aside0.mk (below_step (by repeat (first | (with_reducible first | exact HB.out | apply below_alloc | apply pw_below_drewN | apply below_drew1) | exact HB.out)) hb); have n1_ := Aside0.mk (hbox); have n2_ := Aside0.mk ((by rw [hg]; exact (below_size (by repeat (first | (with_reducible first | exact HB.out | apply below_alloc | apply pw_below_drewN | apply below_drew1) | exact HB.out))) : w.heap.size ≤ gb108)); have n3_ := Aside0.mk ((by rw [hg]; exact (below_size (by repeat (first | (with_reducible first | exact HB.out | apply below_alloc | apply pw_below_drewN | apply below_drew1) | exact HB.out))) : w.heap.size ≤ gb108)); clear HB; have HB := n0_; have BK108 := n1_; have GW108 := n2_; have GE108 := n3_; clear n0_ n1_ n2_ n3_; clear hb hbox hg; have hcz10_0 : w9.cell? ⟨gb108, 0, none⟩ = some (.string a0_0) := (blk_cell BK108.out 0).trans rfl; have hcz10_1 : w9.cell? ⟨gb108, 1, none⟩ = some (.string a0_1) := (blk_cell BK108.out 1).trans rfl; have hfz10_0 := blk_frozen BK108.out 0; have hfz10_1 := blk_frozen BK108.out 1) | ((with_reducible refine gate_callee (f := 13) rfl ?_); refine goesL_ (some 6) rfl rfl Tryd.func13 (by kernel_rfl) rfl #[.agg #[.string a0_0, .string a0_1]] rfl (by (try simp only [List.map_toArray, List.map_cons, List.map_nil]); first | done | rfl | (simp only [List.length_drop, List.length_take]; rfl)) ?_; (with_reducible refine (needle_Check.calls a0_0 a0_1 t109 _ A2.out).mono ?_); rintro e w11 ⟨rfl, hb⟩; refine ⟨_, rfl, ?_⟩; have n0_ := Aside0.mk (blk_below (g := gb108) (o := .cells #[.string a0_0, .string a0_1] 28 (0, 0)) (by (with_reducible repeat (first | refine blk_drewN ?_ _ | refine blk_drew ?_ | refine blk_alloc ?_ _)); exact BK108.out) hb); have n1_ := Aside0.mk (below_step (by repeat (first | (with_reducible first | exact HB.out | apply below_alloc | apply pw_below_drewN | apply below_drew1 | refine below_set ?_ GE108.out) | exact HB.out)) hb); clear BK108; clear HB; have BK108 := n0_; have HB := n1_; clear n0_ n1_; (try clear hb); (try clear hb2); (try clear hk); (try clear hi)))
        have n0_ := Aside0.mk (blk_drew BK108.out)
        have n1_ := Aside0.mk (below_drew1 HB.out)
        clear BK108
        clear HB
        have BK108 := n0_
        have HB := n1_
        clear n0_ n1_
        refine start_ (n := 13) (S := fun w' => w'.cell? ⟨gb108, 0, none⟩ = some (.string a0_0) ∧ w'.cell? ⟨gb108, 1, none⟩ = some (.string a0_1)) (ds := []) #[false, false, false, false, false, false, false, false, false, false, false, false, false] (by kernel_rfl) rfl rfl ⟨(blk_cell BK108.out 0).trans rfl, (blk_cell BK108.out 1).trans rfl⟩ (fun hHeld => ?_); refine with_tabW needle_Write.tab4 needle_Write.bits4 (fun HT_ HW_ => ?_)
        generalize w11.drew = w12 at BK108 HB hHeld ⊢
        refine pure_ (i := 0) (N := some 10) (v := ?_) (a' := ?_) #[true, false, false, false, false, false, false, false, false, false, false, false, false] rfl rfl (any_of HT_.out (by kernel_rfl)) (fun _ _ _ h => h) (Or.inl ⟨by rfl, ?_⟩) ?_ ?_
        rotate_left
        · intro w'
          go_simp
          with_reducible rfl
        rotate_left
        · simp only [Act.put, List.setIfInBounds_toArray, List.set_cons_zero, List.set_cons_succ, i64_w, i32_w]
          rfl
        refine pure_ (i := 3) (N := some 13) (v := ?_) (a' := ?_) #[true, false, false, true, false, false, false, false, false, false, false, false, false] rfl rfl (any_of HT_.out (by kernel_rfl)) (fun _ _ _ h => h) (Or.inl ⟨by rfl, ?_⟩) ?_ ?_
        rotate_left
        · intro w'
          go_simp
          with_reducible rfl
        rotate_left
        · simp only [Act.put, List.setIfInBounds_toArray, List.set_cons_zero, List.set_cons_succ, i64_w, i32_w]
          rfl
        refine pure_ (i := 7) (N := some 17) (v := ?_) (a' := ?_) #[true, false, false, true, false, false, false, true, false, false, false, false, false] rfl rfl (any_of HT_.out (by kernel_rfl)) (fun _ _ _ h => h) (Or.inl ⟨by rfl, ?_⟩) ?_ ?_
        rotate_left
        · intro w'
          go_simp
          with_reducible rfl
        rotate_left
        · simp only [Act.put, List.setIfInBounds_toArray, List.set_cons_zero, List.set_cons_succ, i64_w, i32_w]
          rfl
        refine take_ (i := 1) (N := some 11) (v := ?_) (a' := ?_) #[true, true, false, true, false, false, false, true, false, false, false, false, false] rfl rfl (take_ofW HT_.out HW_.out (by kernel_rfl)) (fun _ _ _ h => h) (Or.inl ⟨by rfl, ?_⟩) hHeld ?_ ?_
        rotate_left
        · rintro w' ⟨s0, s1⟩
          go_simp
          with_reducible rfl
        rotate_left
        · simp only [Act.put, List.setIfInBounds_toArray, List.set_cons_zero, List.set_cons_succ, i64_w, i32_w]
          rfl
        refine take_ (i := 4) (N := some 14) (v := ?_) (a' := ?_) #[true, true, false, true, true, false, false, true, false, false, false, false, false] rfl rfl (take_ofW HT_.out HW_.out (by kernel_rfl)) (fun _ _ _ h => h) (Or.inl ⟨by rfl, ?_⟩) hHeld ?_ ?_
        rotate_left
        · rintro w' ⟨s0, s1⟩
          go_simp
          with_reducible rfl
        rotate_left
        · simp only [Act.put, List.setIfInBounds_toArray, List.set_cons_zero, List.set_cons_succ, i64_w, i32_w]
          rfl
        refine take_ (i := 8) (N := some 18) (v := ?_) (a' := ?_) #[true, true, false, true, true, false, false, true, true, false, false, false, false] rfl rfl (take_ofW HT_.out HW_.out (by kernel_rfl)) (fun _ _ _ h => h) (Or.inl ⟨by rfl, ?_⟩) hHeld ?_ ?_
        rotate_left
        · rintro w' ⟨s0, s1⟩
          go_simp
          with_reducible rfl
        rotate_left
        · simp only [Act.put, List.setIfInBounds_toArray, List.set_cons_zero, List.set_cons_succ, i64_w, i32_w]
          rfl
        refine one_ (i := 2) (N := some 12) #[true, true, true, true, true, false, false, true, true, false, false, false, false] rfl rfl (one_of HT_.out (by kernel_rfl)) (by decide) (fun K hK => ?_)
        refine goes_ Tryd.func28 (by kernel_rfl) rfl #[.string a0_0] (by rfl) rfl rfl (by (try simp only [List.map_toArray, List.map_cons, List.map_nil]); first | done | rfl | (simp only [List.length_drop, List.length_take]; rfl)) ?_
        with_reducible refine (pack_Text.calls k a0_0 t110 _ A4.out).mono ?_
        rintro e w13 ⟨rfl, hb⟩
        refine ⟨_, rfl, ?_⟩
        have n0_ := Aside0.mk (blk_below (g := gb108) (o := .cells #[.string a0_0, .string a0_1] 28 (0, 0)) (by (with_reducible repeat (first | refine blk_drewN ?_ _ | refine blk_drew ?_ | refine blk_alloc ?_ _)); exact BK108.out) hb)
        have n1_ := Aside0.mk (below_step (by repeat (first | (with_reducible first | exact HB.out | apply below_alloc | apply pw_below_drewN | apply below_drew1 | refine below_set ?_ GE108.out) | exact HB.out)) hb)
        clear BK108
        clear HB
        have BK108 := n0_
        have HB := n1_
        clear n0_ n1_
        (try clear hb)
        (try clear hb2)
        (try clear hk)
        (try clear hi)
        refine hK.out _ _ ⟨(blk_cell BK108.out 0).trans rfl, (blk_cell BK108.out 1).trans rfl⟩ (fun hHeld => ?_)
        clear hK K
        refine norm_ (a' := ?_) ?_ ?_
        rotate_left
        · show Act.put _ (some 12) _ = _
          simp only [Act.put, List.setIfInBounds_toArray, List.set_cons_zero, List.set_cons_succ, i64_w, i32_w]
          rfl
        refine one_ (i := 5) (N := some 15) #[true, true, true, true, true, true, false, true, true, false, false, false, false] rfl rfl (one_of HT_.out (by kernel_rfl)) (by decide) (fun K hK => ?_)
        refine goes_ Tryd.func28 (by kernel_rfl) rfl #[.string a0_1] (by rfl) rfl rfl (by (try simp only [List.map_toArray, List.map_cons, List.map_nil]); first | done | rfl | (simp only [List.length_drop, List.length_take]; rfl)) ?_
        with_reducible refine (pack_Text.calls k a0_1 t111 _ A5.out).mono ?_
        rintro e w14 ⟨rfl, hb⟩
        refine ⟨_, rfl, ?_⟩
        have n0_ := Aside0.mk (blk_below (g := gb108) (o := .cells #[.string a0_0, .string a0_1] 28 (0, 0)) (by (with_reducible repeat (first | refine blk_drewN ?_ _ | refine blk_drew ?_ | refine blk_alloc ?_ _)); exact BK108.out) hb)
        have n1_ := Aside0.mk (below_step (by repeat (first | (with_reducible first | exact HB.out | apply below_alloc | apply pw_below_drewN | apply below_drew1 | refine below_set ?_ GE108.out) | exact HB.out)) hb)
        clear BK108
        clear HB
        have BK108 := n0_
        have HB := n1_
        clear n0_ n1_
        (try clear hb)
        (try clear hb2)
        (try clear hk)
        (try clear hi)
        refine hK.out _ _ ⟨(blk_cell BK108.out 0).trans rfl, (blk_cell BK108.out 1).trans rfl⟩ (fun hHeld => ?_)
        clear hK K
        refine norm_ (a' := ?_) ?_ ?_
        rotate_left
        · show Act.put _ (some 15) _ = _
          simp only [Act.put, List.setIfInBounds_toArray, List.set_cons_zero, List.set_cons_succ, i64_w, i32_w]
          rfl
        refine pure_ (i := 6) (N := some 16) (v := ?_) (a' := ?_) #[true, true, true, true, true, true, true, true, true, false, false, false, false] rfl rfl (any_of HT_.out (by kernel_rfl)) (fun _ _ _ h => h) (Or.inl ⟨by rfl, ?_⟩) ?_ ?_
        rotate_left
        · intro w'
          go_simp
          with_reducible rfl
        rotate_left
        · simp only [Act.put, List.setIfInBounds_toArray, List.set_cons_zero, List.set_cons_succ, i64_w, i32_w]
          rfl
        refine one_ (i := 9) (N := some 19) #[true, true, true, true, true, true, true, true, true, true, false, false, false] rfl rfl (one_of HT_.out (by kernel_rfl)) (by decide) (fun K hK => ?_)
        refine goes_ Tryd.func29 (by kernel_rfl) rfl #[.string a0_1] (by rfl) rfl rfl (by (try simp only [List.map_toArray, List.map_cons, List.map_nil]); first | done | rfl | (simp only [List.length_drop, List.length_take]; rfl)) ?_
        with_reducible refine (digest_Sum.calls a0_1 t112 _ A7.out).mono ?_
        rintro e w15 ⟨rfl, hb⟩
        refine ⟨_, rfl, ?_⟩
        have n0_ := Aside0.mk (blk_below (g := gb108) (o := .cells #[.string a0_0, .string a0_1] 28 (0, 0)) (by (with_reducible repeat (first | refine blk_drewN ?_ _ | refine blk_drew ?_ | refine blk_alloc ?_ _)); exact BK108.out) hb)
        have n1_ := Aside0.mk (below_step (by repeat (first | (with_reducible first | exact HB.out | apply below_alloc | apply pw_below_drewN | apply below_drew1 | refine below_set ?_ GE108.out) | exact HB.out)) hb)
        clear BK108
        clear HB
        have BK108 := n0_
        have HB := n1_
        clear n0_ n1_
        (try clear hb)
        (try clear hb2)
        (try clear hk)
        (try clear hi)
        refine hK.out _ _ ⟨(blk_cell BK108.out 0).trans rfl, (blk_cell BK108.out 1).trans rfl⟩ (fun hHeld => ?_)
        clear hK K
        refine norm_ (a' := ?_) ?_ ?_
        rotate_left
        · show Act.put _ (some 19) _ = _
          simp only [Act.put, List.setIfInBounds_toArray, List.set_cons_zero, List.set_cons_succ, i64_w, i32_w]
          rfl
        refine pure_ (i := 10) (N := some 20) (v := ?_) (a' := ?_) #[true, true, true, true, true, true, true, true, true, true, true, false, false] rfl rfl (any_of HT_.out (by kernel_rfl)) (fun _ _ _ h => h) (Or.inl ⟨by rfl, ?_⟩) ?_ ?_
        rotate_left
        · intro w'
          go_simp
          with_reducible rfl
        rotate_left
        · simp only [Act.put, List.setIfInBounds_toArray, List.set_cons_zero, List.set_cons_succ, i64_w, i32_w]
          rfl
        refine pure_ (i := 11) (N := some 2) (v := ?_) (a' := ?_) #[true, true, true, true, true, true, true, true, true, true, true, true, false] rfl rfl (any_of HT_.out (by kernel_rfl)) (fun _ _ _ h => h) (Or.inl ⟨by rfl, ?_⟩) ?_ ?_
        rotate_left
        · intro w'
          go_simp
          with_reducible rfl
        rotate_left
        · simp only [Act.put, List.setIfInBounds_toArray, List.set_cons_zero, List.set_cons_succ, i64_w, i32_w]
          rfl
        refine pure_ (i := 12) (N := some 3) (v := ?_) (a' := ?_) #[true, true, true, true, true, true, true, true, true, true, true, true, true] rfl rfl (any_of HT_.out (by kernel_rfl)) (fun _ _ _ h => h) (Or.inl ⟨by rfl, ?_⟩) ?_ ?_
        rotate_left
        · intro w'
          go_simp
          with_reducible rfl
        rotate_left
        · simp only [Act.put, List.setIfInBounds_toArray, List.set_cons_zero, List.set_cons_succ, i64_w, i32_w]
          rfl
        refine done_ (done_of HT_.out (by kernel_rfl)) ?_
        try go_wp2
        go_ret2
        exact ⟨by first | rfl | (simp [errW_none, errW_some] <;> rfl) | (simp [*, errW_none, errW_some] <;> rfl), by repeat (first | (with_reducible first | exact HB.out | apply below_alloc | apply pw_below_drewN | apply below_drew1 | refine below_set ?_ GE108.out) | exact HB.out)⟩
      · rw [if_neg c8] at H
        exact absurd H (by simp)
    · rw [if_neg c6] at H
      exact absurd H (by simp)
  · rw [if_neg c3] at H
    have c3b0 : (t109 == 0) = false := beq_eq_false_iff_ne.mpr c3
    have c3b1 : (t109 != 0) = true := bne_iff_ne.mpr c3
    simp only [Option.some.injEq, Prod.mk.injEq] at H
    obtain ⟨rfl, rfl⟩ := H
    go_enter Tryd.func10, Tryd.ntmps10
    go_wp2_with (first | ((with_reducible refine gate_dst (N := 1) rfl ?_); refine box_event ?hg (N := 1) ?hd (cs := #[.string a0_0, .string a0_1]) (t := 28) ?hr ?_; (case hd => rfl); (case hg => rfl); (case hr => first | (go_simp; done) | (go_simp; rfl)); intro gb108 hg w16 hbox hb; have n0_ := Aside0.mk (below_step (by repeat (first | (with_reducible first | exact HB.out | apply below_alloc | apply pw_below_drewN | apply below_drew1) | exact HB.out)) hb); have n1_ := Aside0.mk (hbox); have n2_ := Aside0.mk ((by rw [hg]; exact (below_size (by repeat (first | (with_reducible first | exact HB.out | apply below_alloc | apply pw_below_drewN | apply below_drew1) | exact HB.out))) : w.heap.size ≤ gb108)); have n3_ := Aside0.mk ((by rw [hg]; exact (below_size (by repeat (first | (with_reducible first | exact HB.out | apply below_alloc | apply pw_below_drewN | apply below_drew1) | exact HB.out))) : w.heap.size ≤ gb108)); clear HB; have HB := n0_; have BK108 := n1_; have GW108 := n2_; have GE108 := n3_; clear n0_ n1_ n2_ n3_; clear hb hbox hg; have hcz17_0 : w16.cell? ⟨gb108, 0, none⟩ = some (.string a0_0) := (blk_cell BK108.out 0).trans rfl; have hcz17_1 : w16.cell? ⟨gb108, 1, none⟩ = some (.string a0_1) := (blk_cell BK108.out 1).trans rfl; have hfz17_0 := blk_frozen BK108.out 0; have hfz17_1 := blk_frozen BK108.out 1) | ((with_reducible refine gate_callee (f := 13) rfl ?_); refine goesL_ (some 6) rfl rfl Tryd.func13 (by kernel_rfl) rfl #[.agg #[.string a0_0, .string a0_1]] rfl (by (try simp only [List.map_toArray, List.map_cons, List.map_nil]); first | done | rfl | (simp only [List.length_drop, List.length_take]; rfl)) ?_; (with_reducible refine (needle_Check.calls a0_0 a0_1 t109 _ A2.out).mono ?_); rintro e w18 ⟨rfl, hb⟩; refine ⟨_, rfl, ?_⟩; have n0_ := Aside0.mk (blk_below (g := gb108) (o := .cells #[.string a0_0, .string a0_1] 28 (0, 0)) (by (with_reducible repeat (first | refine blk_drewN ?_ _ | refine blk_drew ?_ | refine blk_alloc ?_ _)); exact BK108.out) hb); have n1_ := Aside0.mk (below_step (by repeat (first | (with_reducible first | exact HB.out | apply below_alloc | apply pw_below_drewN | apply below_drew1 | refine below_set ?_ GE108.out) | exact HB.out)) hb); clear BK108; clear HB; have BK108 := n0_; have HB := n1_; clear n0_ n1_; (try clear hb); (try clear hb2); (try clear hk); (try clear hi)))
    go_ret2
    exact ⟨by first | rfl | (simp [errW_none, errW_some] <;> rfl) | (simp [*, errW_none, errW_some] <;> rfl), by repeat (first | (with_reducible first | exact HB.out | apply below_alloc | apply pw_below_drewN | apply below_drew1 | refine below_set ?_ GE108.out) | exact HB.out)⟩
def needle_Read.f (k : Nat) (a0 : ByteArray) : Option (ByteArray × ByteArray × ByteArray × Int) := (pack_Read.f a0).bind fun bt143 => ((pack_Reader_Text.f k bt143.1 bt143.2).bind fun bt146 => ((pack_Reader_Text.f k bt146.2.1 bt146.2.2).bind fun bt150 => ((pack_Reader_Rest.f bt150.2.1 bt150.2.2).bind fun bt153 => ((pack_Reader_End.f bt153.2.1 bt153.2.2).bind fun bt156 => (if bt156.1 = 0 then (if (bt153.1.size : Int) < 32 then (some ((⟨#[]⟩ : ByteArray), (⟨#[]⟩ : ByteArray), (⟨#[]⟩ : ByteArray), 3)) else (if 0 ≤ 32 then (if 32 ≤ (bt153.1.size : Int) then ((digest_Sum.f bt150.1).bind fun t159 => (if (bt153.1.extract 0 32).toList = t159.toList then ((needle_Check.f bt146.1 bt150.1).bind fun t160 => (if t160 = 0 then (some (bt146.1, bt150.1, bt153.1.extract 32 bt153.1.size, 0)) else (some ((⟨#[]⟩ : ByteArray), (⟨#[]⟩ : ByteArray), (⟨#[]⟩ : ByteArray), t160)))) else (some ((⟨#[]⟩ : ByteArray), (⟨#[]⟩ : ByteArray), (⟨#[]⟩ : ByteArray), 5)))) else (none)) else (none))) else (some ((⟨#[]⟩ : ByteArray), (⟨#[]⟩ : ByteArray), (⟨#[]⟩ : ByteArray), bt156.1)))))))
set_option maxHeartbeats 8000000 in
set_option maxRecDepth 100000 in
theorem needle_Read.calls (k : Nat) (a0 : ByteArray) (r1 : ByteArray) (r2 : ByteArray) (r3 : ByteArray) (r4 : Int) (w : World) (h : needle_Read.f k a0 = some (r1, r2, r3, r4)) :
    Calls Tryd.prog 15 #[.string a0] w fun e w' => e = .returned (.tuple #[.agg #[.string r1, .string r2], .string r3, .int .i64 r4]) ∧ Below w.heap.size w w' := by
  have hu28 := Tryd.underlying28
  have HB := Aside0.mk (Below.refl w.heap.size w)
  have H : ((pack_Read.f a0).bind fun bt143 => ((pack_Reader_Text.f k bt143.1 bt143.2).bind fun bt146 => ((pack_Reader_Text.f k bt146.2.1 bt146.2.2).bind fun bt150 => ((pack_Reader_Rest.f bt150.2.1 bt150.2.2).bind fun bt153 => ((pack_Reader_End.f bt153.2.1 bt153.2.2).bind fun bt156 => (if bt156.1 = 0 then (if (bt153.1.size : Int) < 32 then (some ((⟨#[]⟩ : ByteArray), (⟨#[]⟩ : ByteArray), (⟨#[]⟩ : ByteArray), 3)) else (if 0 ≤ 32 then (if 32 ≤ (bt153.1.size : Int) then ((digest_Sum.f bt150.1).bind fun t159 => (if (bt153.1.extract 0 32).toList = t159.toList then ((needle_Check.f bt146.1 bt150.1).bind fun t160 => (if t160 = 0 then (some (bt146.1, bt150.1, bt153.1.extract 32 bt153.1.size, 0)) else (some ((⟨#[]⟩ : ByteArray), (⟨#[]⟩ : ByteArray), (⟨#[]⟩ : ByteArray), t160)))) else (some ((⟨#[]⟩ : ByteArray), (⟨#[]⟩ : ByteArray), (⟨#[]⟩ : ByteArray), 5)))) else (none)) else (none))) else (some ((⟨#[]⟩ : ByteArray), (⟨#[]⟩ : ByteArray), (⟨#[]⟩ : ByteArray), bt156.1)))))))) = some (r1, r2, r3, r4) := h
  clear h
  replace H := Option.bind_eq_some_iff.mp H
  obtain ⟨⟨t143, t144⟩, A20, H⟩ := H
  replace H : ((pack_Reader_Text.f k t143 t144).bind fun bt146 => ((pack_Reader_Text.f k bt146.2.1 bt146.2.2).bind fun bt150 => ((pack_Reader_Rest.f bt150.2.1 bt150.2.2).bind fun bt153 => ((pack_Reader_End.f bt153.2.1 bt153.2.2).bind fun bt156 => (if bt156.1 = 0 then (if (bt153.1.size : Int) < 32 then (some ((⟨#[]⟩ : ByteArray), (⟨#[]⟩ : ByteArray), (⟨#[]⟩ : ByteArray), 3)) else (if 0 ≤ 32 then (if 32 ≤ (bt153.1.size : Int) then ((digest_Sum.f bt150.1).bind fun t159 => (if (bt153.1.extract 0 32).toList = t159.toList then ((needle_Check.f bt146.1 bt150.1).bind fun t160 => (if t160 = 0 then (some (bt146.1, bt150.1, bt153.1.extract 32 bt153.1.size, 0)) else (some ((⟨#[]⟩ : ByteArray), (⟨#[]⟩ : ByteArray), (⟨#[]⟩ : ByteArray), t160)))) else (some ((⟨#[]⟩ : ByteArray), (⟨#[]⟩ : ByteArray), (⟨#[]⟩ : ByteArray), 5)))) else (none)) else (none))) else (some ((⟨#[]⟩ : ByteArray), (⟨#[]⟩ : ByteArray), (⟨#[]⟩ : ByteArray), bt156.1))))))) = some (r1, r2, r3, r4) := H
  have A2 := Aside0.mk A20
  clear A20
  replace H := Option.bind_eq_some_iff.mp H
  obtain ⟨⟨t146, t147, t148⟩, A30, H⟩ := H
  replace H : ((pack_Reader_Text.f k t147 t148).bind fun bt150 => ((pack_Reader_Rest.f bt150.2.1 bt150.2.2).bind fun bt153 => ((pack_Reader_End.f bt153.2.1 bt153.2.2).bind fun bt156 => (if bt156.1 = 0 then (if (bt153.1.size : Int) < 32 then (some ((⟨#[]⟩ : ByteArray), (⟨#[]⟩ : ByteArray), (⟨#[]⟩ : ByteArray), 3)) else (if 0 ≤ 32 then (if 32 ≤ (bt153.1.size : Int) then ((digest_Sum.f bt150.1).bind fun t159 => (if (bt153.1.extract 0 32).toList = t159.toList then ((needle_Check.f t146 bt150.1).bind fun t160 => (if t160 = 0 then (some (t146, bt150.1, bt153.1.extract 32 bt153.1.size, 0)) else (some ((⟨#[]⟩ : ByteArray), (⟨#[]⟩ : ByteArray), (⟨#[]⟩ : ByteArray), t160)))) else (some ((⟨#[]⟩ : ByteArray), (⟨#[]⟩ : ByteArray), (⟨#[]⟩ : ByteArray), 5)))) else (none)) else (none))) else (some ((⟨#[]⟩ : ByteArray), (⟨#[]⟩ : ByteArray), (⟨#[]⟩ : ByteArray), bt156.1)))))) = some (r1, r2, r3, r4) := H
  have A3 := Aside0.mk A30
  clear A30
  replace H := Option.bind_eq_some_iff.mp H
  obtain ⟨⟨t150, t151, t152⟩, A40, H⟩ := H
  replace H : ((pack_Reader_Rest.f t151 t152).bind fun bt153 => ((pack_Reader_End.f bt153.2.1 bt153.2.2).bind fun bt156 => (if bt156.1 = 0 then (if (bt153.1.size : Int) < 32 then (some ((⟨#[]⟩ : ByteArray), (⟨#[]⟩ : ByteArray), (⟨#[]⟩ : ByteArray), 3)) else (if 0 ≤ 32 then (if 32 ≤ (bt153.1.size : Int) then ((digest_Sum.f t150).bind fun t159 => (if (bt153.1.extract 0 32).toList = t159.toList then ((needle_Check.f t146 t150).bind fun t160 => (if t160 = 0 then (some (t146, t150, bt153.1.extract 32 bt153.1.size, 0)) else (some ((⟨#[]⟩ : ByteArray), (⟨#[]⟩ : ByteArray), (⟨#[]⟩ : ByteArray), t160)))) else (some ((⟨#[]⟩ : ByteArray), (⟨#[]⟩ : ByteArray), (⟨#[]⟩ : ByteArray), 5)))) else (none)) else (none))) else (some ((⟨#[]⟩ : ByteArray), (⟨#[]⟩ : ByteArray), (⟨#[]⟩ : ByteArray), bt156.1))))) = some (r1, r2, r3, r4) := H
  have A4 := Aside0.mk A40
  clear A40
  replace H := Option.bind_eq_some_iff.mp H
  obtain ⟨⟨t153, t154, t155⟩, A50, H⟩ := H
  replace H : ((pack_Reader_End.f t154 t155).bind fun bt156 => (if bt156.1 = 0 then (if (t153.size : Int) < 32 then (some ((⟨#[]⟩ : ByteArray), (⟨#[]⟩ : ByteArray), (⟨#[]⟩ : ByteArray), 3)) else (if 0 ≤ 32 then (if 32 ≤ (t153.size : Int) then ((digest_Sum.f t150).bind fun t159 => (if (t153.extract 0 32).toList = t159.toList then ((needle_Check.f t146 t150).bind fun t160 => (if t160 = 0 then (some (t146, t150, t153.extract 32 t153.size, 0)) else (some ((⟨#[]⟩ : ByteArray), (⟨#[]⟩ : ByteArray), (⟨#[]⟩ : ByteArray), t160)))) else (some ((⟨#[]⟩ : ByteArray), (⟨#[]⟩ : ByteArray), (⟨#[]⟩ : ByteArray), 5)))) else (none)) else (none))) else (some ((⟨#[]⟩ : ByteArray), (⟨#[]⟩ : ByteArray), (⟨#[]⟩ : ByteArray), bt156.1)))) = some (r1, r2, r3, r4) := H
  have A5 := Aside0.mk A50
  clear A50
  replace H := Option.bind_eq_some_iff.mp H
  obtain ⟨⟨t156, t157, t158⟩, A60, H⟩ := H
  replace H : (if t156 = 0 then (if (t153.size : Int) < 32 then (some ((⟨#[]⟩ : ByteArray), (⟨#[]⟩ : ByteArray), (⟨#[]⟩ : ByteArray), 3)) else (if 0 ≤ 32 then (if 32 ≤ (t153.size : Int) then ((digest_Sum.f t150).bind fun t159 => (if (t153.extract 0 32).toList = t159.toList then ((needle_Check.f t146 t150).bind fun t160 => (if t160 = 0 then (some (t146, t150, t153.extract 32 t153.size, 0)) else (some ((⟨#[]⟩ : ByteArray), (⟨#[]⟩ : ByteArray), (⟨#[]⟩ : ByteArray), t160)))) else (some ((⟨#[]⟩ : ByteArray), (⟨#[]⟩ : ByteArray), (⟨#[]⟩ : ByteArray), 5)))) else (none)) else (none))) else (some ((⟨#[]⟩ : ByteArray), (⟨#[]⟩ : ByteArray), (⟨#[]⟩ : ByteArray), t156))) = some (r1, r2, r3, r4) := H
  have A6 := Aside0.mk A60
  clear A60
  by_cases c7 : t156 = 0
  · rw [if_pos c7] at H
    have c7b0 : (t156 == 0) = true := beq_iff_eq.mpr c7
    have c7b1 : (t156 != 0) = false := bne_eq_false_iff_eq.mpr c7
    clear c7
    by_cases c8 : (t153.size : Int) < 32
    · rw [if_pos c8] at H
      have c8b0 : decide ((t153.size : Int) < 32) = true := decide_eq_true c8
      have c8b1 : decide (t153.size < 32) = true := decide_eq_true (by omega)
      clear c8
      simp only [Option.some.injEq, Prod.mk.injEq] at H
      obtain ⟨rfl, rfl, rfl, rfl⟩ := H
      go_enter Tryd.func15, Tryd.ntmps15
      go_wp2_with (first | ((with_reducible refine gate_dst (N := 2) rfl ?_); refine box_event ?hg (N := 2) ?hd (cs := #[.string (⟨#[]⟩ : ByteArray), .string (⟨#[]⟩ : ByteArray)]) (t := 28) ?hr ?_; (case hd => rfl); (case hg => rfl); (case hr => first | (go_simp; done) | (go_simp; rfl)); intro gb142 hg w9 hbox hb; have n0_ := Aside0.mk (below_step (by repeat (first | (with_reducible first | exact HB.out | apply below_alloc | apply pw_below_drewN | apply below_drew1) | exact HB.out)) hb); have n1_ := Aside0.mk (hbox); have n2_ := Aside0.mk ((by rw [hg]; exact (below_size (by repeat (first | (with_reducible first | exact HB.out | apply below_alloc | apply pw_below_drewN | apply below_drew1) | exact HB.out))) : w.heap.size ≤ gb142)); have n3_ := Aside0.mk ((by rw [hg]; exact (below_size (by repeat (first | (with_reducible first | exact HB.out | apply below_alloc | apply pw_below_drewN | apply below_drew1) | exact HB.out))) : w.heap.size ≤ gb142)); clear HB; have HB := n0_; have BK142 := n1_; have GW142 := n2_; have GE142 := n3_; clear n0_ n1_ n2_ n3_; clear hb hbox hg) | ((with_reducible refine gate_callee (f := 35) rfl ?_); refine goesL_ (some 11) rfl rfl Tryd.func35 (by kernel_rfl) rfl #[.string a0] rfl (by (try simp only [List.map_toArray, List.map_cons, List.map_nil]); first | done | rfl | (simp only [List.length_drop, List.length_take]; rfl)) ?_; (with_reducible refine (pack_Read.calls a0 t143 t144 w _ ?side1 A2.out).mono ?_); (case side1 => repeat (first | (with_reducible first | exact HB.out | apply below_alloc | apply pw_below_drewN | apply below_drew1 | refine below_set ?_ GE142.out) | exact HB.out)); rintro e w10 ⟨g145, rfl, hi, hb, hb2⟩; refine ⟨_, rfl, ?_⟩; have n0_ := Aside0.mk (blk_below (g := gb142) (o := .cells #[.string (⟨#[]⟩ : ByteArray), .string (⟨#[]⟩ : ByteArray)] 28 (0, 0)) (by (with_reducible repeat (first | refine blk_drewN ?_ _ | refine blk_drew ?_ | refine blk_alloc ?_ _)); exact BK142.out) hb2); have n1_ := Aside0.mk (hb); have n2_ := Aside0.mk (hi); have n3_ := Aside0.mk (IsS88.ne_blk hi (blk_below (g := gb142) (o := .cells #[.string (⟨#[]⟩ : ByteArray), .string (⟨#[]⟩ : ByteArray)] 28 (0, 0)) (by (with_reducible repeat (first | refine blk_drewN ?_ _ | refine blk_drew ?_ | refine blk_alloc ?_ _)); exact BK142.out) hb2) (by decide)); have n4_ := Aside0.mk (Ne.symm (IsS88.ne_blk hi (blk_below (g := gb142) (o := .cells #[.string (⟨#[]⟩ : ByteArray), .string (⟨#[]⟩ : ByteArray)] 28 (0, 0)) (by (with_reducible repeat (first | refine blk_drewN ?_ _ | refine blk_drew ?_ | refine blk_alloc ?_ _)); exact BK142.out) hb2) (by decide))); clear BK142; clear HB; have BK142 := n0_; have HB := n1_; have HI145 := n2_; have NB145_142 := n3_; have NB142_145 := n4_; clear n0_ n1_ n2_ n3_ n4_; (try clear hb); (try clear hb2); (try clear hk); (try clear hi)) | ((with_reducible refine gate_callee (f := 36) rfl ?_); refine goesL_ (some 13) rfl rfl Tryd.func36 (by kernel_rfl) rfl #[.pointer (some ⟨g145, 0, none⟩)] rfl (by (try simp only [List.map_toArray, List.map_cons, List.map_nil]); first | done | rfl | (simp only [List.length_drop, List.length_take]; rfl)) ?_; (with_reducible refine (pack_Reader_Text.calls k g145 t143 t144 t146 t147 t148 w _ ?side1 ?side2 A3.out).mono ?_); (case side1 => repeat (first | (with_reducible first | exact HI145.out | apply IsS88.alloc | apply IsS88.drewN | apply IsS88.drew | apply IsS88.set_0 | apply IsS88.set_1 | refine IsS88.far ?_ NB145_142.out _) | exact HI145.out)); (case side2 => repeat (first | (with_reducible first | exact HB.out | apply below_alloc | apply pw_below_drewN | apply below_drew1 | refine below_set ?_ (IsS88.ge HI145.out) | refine below_set ?_ GE142.out) | exact HB.out)); rintro e w11 ⟨rfl, hi, hb, hk⟩; refine ⟨_, rfl, ?_⟩; have n0_ := Aside0.mk (KeepBut.blk hk (g' := gb142) (o := .cells #[.string (⟨#[]⟩ : ByteArray), .string (⟨#[]⟩ : ByteArray)] 28 (0, 0)) (by (with_reducible repeat (first | refine blk_drewN ?_ _ | refine blk_drew ?_ | refine blk_alloc ?_ _)); exact BK142.out) NB142_145.out (by simp)); have n1_ := Aside0.mk (hb); have n2_ := Aside0.mk (hi); clear BK142; clear HB; clear HI145; have BK142 := n0_; have HB := n1_; have HI145 := n2_; clear n0_ n1_ n2_; (try clear hb); (try clear hb2); (try clear hk); (try clear hi)) | ((with_reducible refine gate_dst (N := 6) rfl ?_); refine box_event ?hg (N := 6) ?hd (cs := #[.string (⟨#[]⟩ : ByteArray), .string (⟨#[]⟩ : ByteArray)]) (t := 28) ?hr ?_; (case hd => rfl); (case hg => rfl); (case hr => first | (go_simp; done) | (go_simp; rfl)); intro gb149 hg w12 hbox hb; have n0_ := Aside0.mk (blk_below (g := gb142) (o := .cells #[.string (⟨#[]⟩ : ByteArray), .string (⟨#[]⟩ : ByteArray)] 28 (0, 0)) (by (with_reducible repeat (first | refine blk_drewN ?_ _ | refine blk_drew ?_ | refine blk_alloc ?_ _)); exact BK142.out) hb); have n1_ := Aside0.mk (IsS88.below (by repeat (first | (with_reducible first | exact HI145.out | apply IsS88.alloc | apply IsS88.drewN | apply IsS88.drew | apply IsS88.set_0 | apply IsS88.set_1 | refine IsS88.far ?_ NB145_142.out _) | exact HI145.out)) hb); have n2_ := Aside0.mk (below_step (by repeat (first | (with_reducible first | exact HB.out | apply below_alloc | apply pw_below_drewN | apply below_drew1 | refine below_set ?_ (IsS88.ge HI145.out) | refine below_set ?_ GE142.out) | exact HB.out)) hb); have n3_ := Aside0.mk (hbox); have n4_ := Aside0.mk ((by rw [hg]; exact (below_size (by repeat (first | (with_reducible first | exact HB.out | apply below_alloc | apply pw_below_drewN | apply below_drew1 | refine below_set ?_ (IsS88.ge HI145.out) | refine below_set ?_ GE142.out) | exact HB.out))) : w.heap.size ≤ gb149)); have n5_ := Aside0.mk ((by rw [hg]; exact (below_size (by repeat (first | (with_reducible first | exact HB.out | apply below_alloc | apply pw_below_drewN | apply below_drew1 | refine below_set ?_ (IsS88.ge HI145.out) | refine below_set ?_ GE142.out) | exact HB.out))) : w.heap.size ≤ gb149)); have n6_ := Aside0.mk ((by rw [hg]; exact Nat.ne_of_lt (blk_lt (g := gb142) (o := .cells #[.string (⟨#[]⟩ : ByteArray), .string (⟨#[]⟩ : ByteArray)] 28 (0, 0)) (by (with_reducible repeat (first | refine blk_drewN ?_ _ | refine blk_drew ?_ | refine blk_alloc ?_ _)); exact BK142.out)) : gb142 ≠ gb149)); have n7_ := Aside0.mk ((by rw [hg]; exact Nat.ne_of_gt (blk_lt (g := gb142) (o := .cells #[.string (⟨#[]⟩ : ByteArray), .string (⟨#[]⟩ : ByteArray)] 28 (0, 0)) (by (with_reducible repeat (first | refine blk_drewN ?_ _ | refine blk_drew ?_ | refine blk_alloc ?_ _)); exact BK142.out)) : gb149 ≠ gb142)); have n8_ := Aside0.mk ((by rw [hg]; exact Nat.ne_of_lt (IsS88.lt (show IsS88 w _ g145 t147 t148 from by repeat (first | (with_reducible first | exact HI145.out | apply IsS88.alloc | apply IsS88.drewN | apply IsS88.drew | apply IsS88.set_0 | apply IsS88.set_1 | refine IsS88.far ?_ NB145_142.out _) | exact HI145.out))) : g145 ≠ gb149)); have n9_ := Aside0.mk ((by rw [hg]; exact Nat.ne_of_gt (IsS88.lt (show IsS88 w _ g145 t147 t148 from by repeat (first | (with_reducible first | exact HI145.out | apply IsS88.alloc | apply IsS88.drewN | apply IsS88.drew | apply IsS88.set_0 | apply IsS88.set_1 | refine IsS88.far ?_ NB145_142.out _) | exact HI145.out))) : gb149 ≠ g145)); clear BK142; clear HI145; clear HB; have BK142 := n0_; have HI145 := n1_; have HB := n2_; have BK149 := n3_; have GW149 := n4_; have GE149 := n5_; have NB142_149 := n6_; have NB149_142 := n7_; have NB145_149 := n8_; have NB149_145 := n9_; clear n0_ n1_ n2_ n3_ n4_ n5_ n6_ n7_ n8_ n9_; clear hb hbox hg; have hnb13 := NB149_142.out; have hnc13 := NB142_149.out; have hnb14 := NB149_145.out; have hnc14 := NB145_149.out; have hcz15_0 : w12.cell? ⟨gb149, 0, none⟩ = some (.string (⟨#[]⟩ : ByteArray)) := (blk_cell BK149.out 0).trans rfl; have hcz15_1 : w12.cell? ⟨gb149, 1, none⟩ = some (.string (⟨#[]⟩ : ByteArray)) := (blk_cell BK149.out 1).trans rfl; have hfz15_0 := blk_frozen BK149.out 0; have hfz15_1 := blk_frozen BK149.out 1) | ((with_reducible refine gate_callee (f := 36) rfl ?_); refine goesL_ (some 16) rfl rfl Tryd.func36 (by kernel_rfl) rfl #[.pointer (some ⟨g145, 0, none⟩)] rfl (by (try simp only [List.map_toArray, List.map_cons, List.map_nil]); first | done | rfl | (simp only [List.length_drop, List.length_take]; rfl)) ?_; (with_reducible refine (pack_Reader_Text.calls k g145 t147 t148 t150 t151 t152 w _ ?side1 ?side2 A4.out).mono ?_); (case side1 => repeat (first | (with_reducible first | exact HI145.out | apply IsS88.alloc | apply IsS88.drewN | apply IsS88.drew | apply IsS88.set_0 | apply IsS88.set_1 | refine IsS88.far ?_ NB145_142.out _ | refine IsS88.far ?_ NB145_149.out _) | exact HI145.out)); (case side2 => repeat (first | (with_reducible first | exact HB.out | apply below_alloc | apply pw_below_drewN | apply below_drew1 | refine below_set ?_ (IsS88.ge HI145.out) | refine below_set ?_ GE142.out | refine below_set ?_ GE149.out) | exact HB.out)); rintro e w16 ⟨rfl, hi, hb, hk⟩; refine ⟨_, rfl, ?_⟩; have n0_ := Aside0.mk (KeepBut.blk hk (g' := gb142) (o := .cells #[.string (⟨#[]⟩ : ByteArray), .string (⟨#[]⟩ : ByteArray)] 28 (0, 0)) (by (with_reducible repeat (first | refine blk_drewN ?_ _ | refine blk_drew ?_ | refine blk_alloc ?_ _)); refine blk_far ?_ NB142_149.out _; (with_reducible repeat (first | refine blk_drewN ?_ _ | refine blk_drew ?_ | refine blk_alloc ?_ _)); refine blk_far ?_ NB142_149.out _; (with_reducible repeat (first | refine blk_drewN ?_ _ | refine blk_drew ?_ | refine blk_alloc ?_ _)); exact BK142.out) NB142_145.out (by simp)); have n1_ := Aside0.mk (KeepBut.blk hk (g' := gb149) (o := .cells #[.string t146, .string (⟨#[]⟩ : ByteArray)] 28 (0, 0)) (by (with_reducible repeat (first | refine blk_drewN ?_ _ | refine blk_drew ?_ | refine blk_alloc ?_ _)); refine blk_put (cs := #[.string t146, .string (⟨#[]⟩ : ByteArray)]) ?_ 1 _ rfl; (with_reducible repeat (first | refine blk_drewN ?_ _ | refine blk_drew ?_ | refine blk_alloc ?_ _)); refine blk_put (cs := #[.string (⟨#[]⟩ : ByteArray), .string (⟨#[]⟩ : ByteArray)]) ?_ 0 _ rfl; (with_reducible repeat (first | refine blk_drewN ?_ _ | refine blk_drew ?_ | refine blk_alloc ?_ _)); exact BK149.out) NB149_145.out (by simp)); have n2_ := Aside0.mk (hb); have n3_ := Aside0.mk (hi); clear BK142; clear BK149; clear HB; clear HI145; have BK142 := n0_; have BK149 := n1_; have HB := n2_; have HI145 := n3_; clear n0_ n1_ n2_ n3_; (try clear hb); (try clear hb2); (try clear hk); (try clear hi); have hcz17_0 : w16.cell? ⟨gb149, 0, none⟩ = some (.string t146) := (blk_cell BK149.out 0).trans rfl; have hcz17_1 : w16.cell? ⟨gb149, 1, none⟩ = some (.string (⟨#[]⟩ : ByteArray)) := (blk_cell BK149.out 1).trans rfl; have hfz17_0 := blk_frozen BK149.out 0; have hfz17_1 := blk_frozen BK149.out 1) | ((with_reducible refine gate_callee (f := 37) rfl ?_); refine goesL_ (some 19) rfl rfl Tryd.func37 (by kernel_rfl) rfl #[.pointer (some ⟨g145, 0, none⟩)] rfl (by (try simp only [List.map_toArray, List.map_cons, List.map_nil]); first | done | rfl | (simp only [List.length_drop, List.length_take]; rfl)) ?_; (with_reducible refine (pack_Reader_Rest.calls g145 t151 t152 t153 t154 t155 w _ ?side1 ?side2 A5.out).mono ?_); (case side1 => repeat (first | (with_reducible first | exact HI145.out | apply IsS88.alloc | apply IsS88.drewN | apply IsS88.drew | apply IsS88.set_0 | apply IsS88.set_1 | refine IsS88.far ?_ NB145_142.out _ | refine IsS88.far ?_ NB145_149.out _) | exact HI145.out)); (case side2 => repeat (first | (with_reducible first | exact HB.out | apply below_alloc | apply pw_below_drewN | apply below_drew1 | refine below_set ?_ (IsS88.ge HI145.out) | refine below_set ?_ GE142.out | refine below_set ?_ GE149.out) | exact HB.out)); rintro e w18 ⟨rfl, hi, hb, hk⟩; refine ⟨_, rfl, ?_⟩; have n0_ := Aside0.mk (KeepBut.blk hk (g' := gb142) (o := .cells #[.string (⟨#[]⟩ : ByteArray), .string (⟨#[]⟩ : ByteArray)] 28 (0, 0)) (by (with_reducible repeat (first | refine blk_drewN ?_ _ | refine blk_drew ?_ | refine blk_alloc ?_ _)); refine blk_far ?_ NB142_149.out _; (with_reducible repeat (first | refine blk_drewN ?_ _ | refine blk_drew ?_ | refine blk_alloc ?_ _)); exact BK142.out) NB142_145.out (by simp)); have n1_ := Aside0.mk (KeepBut.blk hk (g' := gb149) (o := .cells #[.string t146, .string t150] 28 (0, 0)) (by (with_reducible repeat (first | refine blk_drewN ?_ _ | refine blk_drew ?_ | refine blk_alloc ?_ _)); refine blk_put (cs := #[.string t146, .string (⟨#[]⟩ : ByteArray)]) ?_ 1 _ rfl; (with_reducible repeat (first | refine blk_drewN ?_ _ | refine blk_drew ?_ | refine blk_alloc ?_ _)); exact BK149.out) NB149_145.out (by simp)); have n2_ := Aside0.mk (hb); have n3_ := Aside0.mk (hi); clear BK142; clear BK149; clear HB; clear HI145; have BK142 := n0_; have BK149 := n1_; have HB := n2_; have HI145 := n3_; clear n0_ n1_ n2_ n3_; (try clear hb); (try clear hb2); (try clear hk); (try clear hi)) | ((with_reducible refine gate_callee (f := 38) rfl ?_); refine goesL_ (some 21) rfl rfl Tryd.func38 (by kernel_rfl) rfl #[.pointer (some ⟨g145, 0, none⟩)] rfl (by (try simp only [List.map_toArray, List.map_cons, List.map_nil]); first | done | rfl | (simp only [List.length_drop, List.length_take]; rfl)) ?_; (with_reducible refine (pack_Reader_End.calls g145 t154 t155 t156 t157 t158 w _ ?side1 ?side2 A6.out).mono ?_); (case side1 => repeat (first | (with_reducible first | exact HI145.out | apply IsS88.alloc | apply IsS88.drewN | apply IsS88.drew | apply IsS88.set_0 | apply IsS88.set_1 | refine IsS88.far ?_ NB145_142.out _ | refine IsS88.far ?_ NB145_149.out _) | exact HI145.out)); (case side2 => repeat (first | (with_reducible first | exact HB.out | apply below_alloc | apply pw_below_drewN | apply below_drew1 | refine below_set ?_ (IsS88.ge HI145.out) | refine below_set ?_ GE142.out | refine below_set ?_ GE149.out) | exact HB.out)); rintro e w19 ⟨rfl, hi, hb, hk⟩; refine ⟨_, rfl, ?_⟩; have n0_ := Aside0.mk (KeepBut.blk hk (g' := gb142) (o := .cells #[.string (⟨#[]⟩ : ByteArray), .string (⟨#[]⟩ : ByteArray)] 28 (0, 0)) (by (with_reducible repeat (first | refine blk_drewN ?_ _ | refine blk_drew ?_ | refine blk_alloc ?_ _)); exact BK142.out) NB142_145.out (by simp)); have n1_ := Aside0.mk (KeepBut.blk hk (g' := gb149) (o := .cells #[.string t146, .string t150] 28 (0, 0)) (by (with_reducible repeat (first | refine blk_drewN ?_ _ | refine blk_drew ?_ | refine blk_alloc ?_ _)); exact BK149.out) NB149_145.out (by simp)); have n2_ := Aside0.mk (hb); have n3_ := Aside0.mk (hi); clear BK142; clear BK149; clear HB; clear HI145; have BK142 := n0_; have BK149 := n1_; have HB := n2_; have HI145 := n3_; clear n0_ n1_ n2_ n3_; (try clear hb); (try clear hb2); (try clear hk); (try clear hi); have hnb20 := NB142_145.out; have hnc20 := NB145_142.out; have hcz21_0 : w19.cell? ⟨gb142, 0, none⟩ = some (.string (⟨#[]⟩ : ByteArray)) := (blk_cell BK142.out 0).trans rfl; have hcz21_1 : w19.cell? ⟨gb142, 1, none⟩ = some (.string (⟨#[]⟩ : ByteArray)) := (blk_cell BK142.out 1).trans rfl; have hfz21_0 := blk_frozen BK142.out 0; have hfz21_1 := blk_frozen BK142.out 1))
      refine bodyPost_ret (results_ctt rfl _ _ gb142 28 #[.string (⟨#[]⟩ : ByteArray), .string (⟨#[]⟩ : ByteArray)] (0, 0) _ rfl (by (with_reducible repeat (first | refine blk_drewN ?_ _ | refine blk_drew ?_ | refine blk_alloc ?_ _)); refine blk_put (cs := #[.string (⟨#[]⟩ : ByteArray), .string (⟨#[]⟩ : ByteArray)]) ?_ 1 _ rfl; (with_reducible repeat (first | refine blk_drewN ?_ _ | refine blk_drew ?_ | refine blk_alloc ?_ _)); refine blk_put (cs := #[.string (⟨#[]⟩ : ByteArray), .string (⟨#[]⟩ : ByteArray)]) ?_ 0 _ rfl; (with_reducible repeat (first | refine blk_drewN ?_ _ | refine blk_drew ?_ | refine blk_alloc ?_ _)); exact BK142.out) Tryd.underlying28 rfl (by kernel_rfl)) rfl ?_
      exact ⟨by first | rfl | (simp [errW_none, errW_some] <;> rfl) | (simp [*, errW_none, errW_some] <;> rfl), by repeat (first | (with_reducible first | exact HB.out | apply below_alloc | apply pw_below_drewN | apply below_drew1 | refine below_set ?_ (IsS88.ge HI145.out) | refine below_set ?_ GE142.out | refine below_set ?_ GE149.out) | exact HB.out)⟩
    · rw [if_neg c8] at H
      have c8b0 : decide ((t153.size : Int) < 32) = false := decide_eq_false c8
      have c8b1 : decide (t153.size < 32) = false := decide_eq_false (by omega)
      clear c8
      by_cases c22 : 0 ≤ 32
      · rw [if_pos c22] at H
        have c22b0 := eq_true c22
        have c22b1 : decide (0 ≤ 32) = true := decide_eq_true c22
        clear c22
        by_cases c23 : 32 ≤ (t153.size : Int)
        · rw [if_pos c23] at H
          have c23b0 := eq_true c23
          have c23b1 : decide (32 ≤ (t153.size : Int)) = true := decide_eq_true c23
          clear c23
          replace H := Option.bind_eq_some_iff.mp H
          obtain ⟨t159, A240, H⟩ := H
          replace H : (if (t153.extract 0 32).toList = t159.toList then ((needle_Check.f t146 t150).bind fun t160 => (if t160 = 0 then (some (t146, t150, t153.extract 32 t153.size, 0)) else (some ((⟨#[]⟩ : ByteArray), (⟨#[]⟩ : ByteArray), (⟨#[]⟩ : ByteArray), t160)))) else (some ((⟨#[]⟩ : ByteArray), (⟨#[]⟩ : ByteArray), (⟨#[]⟩ : ByteArray), 5))) = some (r1, r2, r3, r4) := H
          have A24 := Aside0.mk A240
          clear A240
          by_cases c25 : (t153.extract 0 32).toList = t159.toList
          · rw [if_pos c25] at H
            have c25b0 : ((t153.extract 0 32).toList == t159.toList) = true := beq_iff_eq.mpr c25
            have c25b1 : ((t153.extract 0 32).toList != t159.toList) = false := bne_eq_false_iff_eq.mpr c25
            clear c25
            replace H := Option.bind_eq_some_iff.mp H
            obtain ⟨t160, A260, H⟩ := H
            replace H : (if t160 = 0 then (some (t146, t150, t153.extract 32 t153.size, 0)) else (some ((⟨#[]⟩ : ByteArray), (⟨#[]⟩ : ByteArray), (⟨#[]⟩ : ByteArray), t160))) = some (r1, r2, r3, r4) := H
            have A26 := Aside0.mk A260
            clear A260
            by_cases c27 : t160 = 0
            · rw [if_pos c27] at H
              have c27b0 : (t160 == 0) = true := beq_iff_eq.mpr c27
              have c27b1 : (t160 != 0) = false := bne_eq_false_iff_eq.mpr c27
              clear c27
              have c28b0 := eq_true (of_decide_eq_true (by first | (with_reducible assumption) | assumption) : 32 ≤ (t153.size : Int))
              simp only [Option.some.injEq, Prod.mk.injEq] at H
              obtain ⟨rfl, rfl, rfl, rfl⟩ := H
              go_enter Tryd.func15, Tryd.ntmps15
              try go_wp2_with (first | ((with_reducible refine gate_dst (N := 2) rfl ?_); refine box_event ?hg (N := 2) ?hd (cs := #[.string (⟨#[]⟩ : ByteArray), .string (⟨#[]⟩ : ByteArray)]) (t := 28) ?hr ?_; (case hd => rfl); (case hg => rfl); (case hr => first | (go_simp; done) | (go_simp; rfl)); intro gb142 hg w29 hbox hb; have n0_ := Aside0.mk (below_step (by repeat (first | (with_reducible first | exact HB.out | apply below_alloc | apply pw_below_drewN | apply below_drew1) | exact HB.out)) hb); have n1_ := Aside0.mk (hbox); have n2_ := Aside0.mk ((by rw [hg]; exact (below_size (by repeat (first | (with_reducible first | exact HB.out | apply below_alloc | apply pw_below_drewN | apply below_drew1) | exact HB.out))) : w.heap.size ≤ gb142)); have n3_ := Aside0.mk ((by rw [hg]; exact (below_size (by repeat (first | (with_reducible first | exact HB.out | apply below_alloc | apply pw_below_drewN | apply below_drew1) | exact HB.out))) : w.heap.size ≤ gb142)); clear HB; have HB := n0_; have BK142 := n1_; have GW142 := n2_; have GE142 := n3_; clear n0_ n1_ n2_ n3_; clear hb hbox hg) | ((with_reducible refine gate_callee (f := 35) rfl ?_); refine goesL_ (some 11) rfl rfl Tryd.func35 (by kernel_rfl) rfl #[.string a0] rfl (by (try simp only [List.map_toArray, List.map_cons, List.map_nil]); first | done | rfl | (simp only [List.length_drop, List.length_take]; rfl)) ?_; (with_reducible refine (pack_Read.calls a0 t143 t144 w _ ?side1 A2.out).mono ?_); (case side1 => repeat (first | (with_reducible first | exact HB.out | apply below_alloc | apply pw_below_drewN | apply below_drew1 | refine below_set ?_ GE142.out) | exact HB.out)); rintro e w30 ⟨g145, rfl, hi, hb, hb2⟩; refine ⟨_, rfl, ?_⟩; have n0_ := Aside0.mk (blk_below (g := gb142) (o := .cells #[.string (⟨#[]⟩ : ByteArray), .string (⟨#[]⟩ : ByteArray)] 28 (0, 0)) (by (with_reducible repeat (first | refine blk_drewN ?_ _ | refine blk_drew ?_ | refine blk_alloc ?_ _)); exact BK142.out) hb2); have n1_ := Aside0.mk (hb); have n2_ := Aside0.mk (hi); have n3_ := Aside0.mk (IsS88.ne_blk hi (blk_below (g := gb142) (o := .cells #[.string (⟨#[]⟩ : ByteArray), .string (⟨#[]⟩ : ByteArray)] 28 (0, 0)) (by (with_reducible repeat (first | refine blk_drewN ?_ _ | refine blk_drew ?_ | refine blk_alloc ?_ _)); exact BK142.out) hb2) (by decide)); have n4_ := Aside0.mk (Ne.symm (IsS88.ne_blk hi (blk_below (g := gb142) (o := .cells #[.string (⟨#[]⟩ : ByteArray), .string (⟨#[]⟩ : ByteArray)] 28 (0, 0)) (by (with_reducible repeat (first | refine blk_drewN ?_ _ | refine blk_drew ?_ | refine blk_alloc ?_ _)); exact BK142.out) hb2) (by decide))); clear BK142; clear HB; have BK142 := n0_; have HB := n1_; have HI145 := n2_; have NB145_142 := n3_; have NB142_145 := n4_; clear n0_ n1_ n2_ n3_ n4_; (try clear hb); (try clear hb2); (try clear hk); (try clear hi)) | ((with_reducible refine gate_callee (f := 36) rfl ?_); refine goesL_ (some 13) rfl rfl Tryd.func36 (by kernel_rfl) rfl #[.pointer (some ⟨g145, 0, none⟩)] rfl (by (try simp only [List.map_toArray, List.map_cons, List.map_nil]); first | done | rfl | (simp only [List.length_drop, List.length_take]; rfl)) ?_; (with_reducible refine (pack_Reader_Text.calls k g145 t143 t144 t146 t147 t148 w _ ?side1 ?side2 A3.out).mono ?_); (case side1 => repeat (first | (with_reducible first | exact HI145.out | apply IsS88.alloc | apply IsS88.drewN | apply IsS88.drew | apply IsS88.set_0 | apply IsS88.set_1 | refine IsS88.far ?_ NB145_142.out _) | exact HI145.out)); (case side2 => repeat (first | (with_reducible first | exact HB.out | apply below_alloc | apply pw_below_drewN | apply below_drew1 | refine below_set ?_ (IsS88.ge HI145.out) | refine below_set ?_ GE142.out) | exact HB.out)); rintro e w31 ⟨rfl, hi, hb, hk⟩; refine ⟨_, rfl, ?_⟩; have n0_ := Aside0.mk (KeepBut.blk hk (g' := gb142) (o := .cells #[.string (⟨#[]⟩ : ByteArray), .string (⟨#[]⟩ : ByteArray)] 28 (0, 0)) (by (with_reducible repeat (first | refine blk_drewN ?_ _ | refine blk_drew ?_ | refine blk_alloc ?_ _)); exact BK142.out) NB142_145.out (by simp)); have n1_ := Aside0.mk (hb); have n2_ := Aside0.mk (hi); clear BK142; clear HB; clear HI145; have BK142 := n0_; have HB := n1_; have HI145 := n2_; clear n0_ n1_ n2_; (try clear hb); (try clear hb2); (try clear hk); (try clear hi)) | ((with_reducible refine gate_dst (N := 6) rfl ?_); refine box_event ?hg (N := 6) ?hd (cs := #[.string (⟨#[]⟩ : ByteArray), .string (⟨#[]⟩ : ByteArray)]) (t := 28) ?hr ?_; (case hd => rfl); (case hg => rfl); (case hr => first | (go_simp; done) | (go_simp; rfl)); intro gb149 hg w32 hbox hb; have n0_ := Aside0.mk (blk_below (g := gb142) (o := .cells #[.string (⟨#[]⟩ : ByteArray), .string (⟨#[]⟩ : ByteArray)] 28 (0, 0)) (by (with_reducible repeat (first | refine blk_drewN ?_ _ | refine blk_drew ?_ | refine blk_alloc ?_ _)); exact BK142.out) hb); have n1_ := Aside0.mk (IsS88.below (by repeat (first | (with_reducible first | exact HI145.out | apply IsS88.alloc | apply IsS88.drewN | apply IsS88.drew | apply IsS88.set_0 | apply IsS88.set_1 | refine IsS88.far ?_ NB145_142.out _) | exact HI145.out)) hb); have n2_ := Aside0.mk (below_step (by repeat (first | (with_reducible first | exact HB.out | apply below_alloc | apply pw_below_drewN | apply below_drew1 | refine below_set ?_ (IsS88.ge HI145.out) | refine below_set ?_ GE142.out) | exact HB.out)) hb); have n3_ := Aside0.mk (hbox); have n4_ := Aside0.mk ((by rw [hg]; exact (below_size (by repeat (first | (with_reducible first | exact HB.out | apply below_alloc | apply pw_below_drewN | apply below_drew1 | refine below_set ?_ (IsS88.ge HI145.out) | refine below_set ?_ GE142.out) | exact HB.out))) : w.heap.size ≤ gb149)); have n5_ := Aside0.mk ((by rw [hg]; exact (below_size (by repeat (first | (with_reducible first | exact HB.out | apply below_alloc | apply pw_below_drewN | apply below_drew1 | refine below_set ?_ (IsS88.ge HI145.out) | refine below_set ?_ GE142.out) | exact HB.out))) : w.heap.size ≤ gb149)); have n6_ := Aside0.mk ((by rw [hg]; exact Nat.ne_of_lt (blk_lt (g := gb142) (o := .cells #[.string (⟨#[]⟩ : ByteArray), .string (⟨#[]⟩ : ByteArray)] 28 (0, 0)) (by (with_reducible repeat (first | refine blk_drewN ?_ _ | refine blk_drew ?_ | refine blk_alloc ?_ _)); exact BK142.out)) : gb142 ≠ gb149)); have n7_ := Aside0.mk ((by rw [hg]; exact Nat.ne_of_gt (blk_lt (g := gb142) (o := .cells #[.string (⟨#[]⟩ : ByteArray), .string (⟨#[]⟩ : ByteArray)] 28 (0, 0)) (by (with_reducible repeat (first | refine blk_drewN ?_ _ | refine blk_drew ?_ | refine blk_alloc ?_ _)); exact BK142.out)) : gb149 ≠ gb142)); have n8_ := Aside0.mk ((by rw [hg]; exact Nat.ne_of_lt (IsS88.lt (show IsS88 w _ g145 t147 t148 from by repeat (first | (with_reducible first | exact HI145.out | apply IsS88.alloc | apply IsS88.drewN | apply IsS88.drew | apply IsS88.set_0 | apply IsS88.set_1 | refine IsS88.far ?_ NB145_142.out _) | exact HI145.out))) : g145 ≠ gb149)); have n9_ := Aside0.mk ((by rw [hg]; exact Nat.ne_of_gt (IsS88.lt (show IsS88 w _ g145 t147 t148 from by repeat (first | (with_reducible first | exact HI145.out | apply IsS88.alloc | apply IsS88.drewN | apply IsS88.drew | apply IsS88.set_0 | apply IsS88.set_1 | refine IsS88.far ?_ NB145_142.out _) | exact HI145.out))) : gb149 ≠ g145)); clear BK142; clear HI145; clear HB; have BK142 := n0_; have HI145 := n1_; have HB := n2_; have BK149 := n3_; have GW149 := n4_; have GE149 := n5_; have NB142_149 := n6_; have NB149_142 := n7_; have NB145_149 := n8_; have NB149_145 := n9_; clear n0_ n1_ n2_ n3_ n4_ n5_ n6_ n7_ n8_ n9_; clear hb hbox hg; have hnb33 := NB149_142.out; have hnc33 := NB142_149.out; have hnb34 := NB149_145.out; have hnc34 := NB145_149.out; have hcz35_0 : w32.cell? ⟨gb149, 0, none⟩ = some (.string (⟨#[]⟩ : ByteArray)) := (blk_cell BK149.out 0).trans rfl; have hcz35_1 : w32.cell? ⟨gb149, 1, none⟩ = some (.string (⟨#[]⟩ : ByteArray)) := (blk_cell BK149.out 1).trans rfl; have hfz35_0 := blk_frozen BK149.out 0; have hfz35_1 := blk_frozen BK149.out 1) | ((with_reducible refine gate_callee (f := 36) rfl ?_); refine goesL_ (some 16) rfl rfl Tryd.func36 (by kernel_rfl) rfl #[.pointer (some ⟨g145, 0, none⟩)] rfl (by (try simp only [List.map_toArray, List.map_cons, List.map_nil]); first | done | rfl | (simp only [List.length_drop, List.length_take]; rfl)) ?_; (with_reducible refine (pack_Reader_Text.calls k g145 t147 t148 t150 t151 t152 w _ ?side1 ?side2 A4.out).mono ?_); (case side1 => repeat (first | (with_reducible first | exact HI145.out | apply IsS88.alloc | apply IsS88.drewN | apply IsS88.drew | apply IsS88.set_0 | apply IsS88.set_1 | refine IsS88.far ?_ NB145_142.out _ | refine IsS88.far ?_ NB145_149.out _) | exact HI145.out)); (case side2 => repeat (first | (with_reducible first | exact HB.out | apply below_alloc | apply pw_below_drewN | apply below_drew1 | refine below_set ?_ (IsS88.ge HI145.out) | refine below_set ?_ GE142.out | refine below_set ?_ GE149.out) | exact HB.out)); rintro e w36 ⟨rfl, hi, hb, hk⟩; refine ⟨_, rfl, ?_⟩; have n0_ := Aside0.mk (KeepBut.blk hk (g' := gb142) (o := .cells #[.string (⟨#[]⟩ : ByteArray), .string (⟨#[]⟩ : ByteArray)] 28 (0, 0)) (by (with_reducible repeat (first | refine blk_drewN ?_ _ | refine blk_drew ?_ | refine blk_alloc ?_ _)); refine blk_far ?_ NB142_149.out _; (with_reducible repeat (first | refine blk_drewN ?_ _ | refine blk_drew ?_ | refine blk_alloc ?_ _)); refine blk_far ?_ NB142_149.out _; (with_reducible repeat (first | refine blk_drewN ?_ _ | refine blk_drew ?_ | refine blk_alloc ?_ _)); exact BK142.out) NB142_145.out (by simp)); have n1_ := Aside0.mk (KeepBut.blk hk (g' := gb149) (o := .cells #[.string t146, .string (⟨#[]⟩ : ByteArray)] 28 (0, 0)) (by (with_reducible repeat (first | refine blk_drewN ?_ _ | refine blk_drew ?_ | refine blk_alloc ?_ _)); refine blk_put (cs := #[.string t146, .string (⟨#[]⟩ : ByteArray)]) ?_ 1 _ rfl; (with_reducible repeat (first | refine blk_drewN ?_ _ | refine blk_drew ?_ | refine blk_alloc ?_ _)); refine blk_put (cs := #[.string (⟨#[]⟩ : ByteArray), .string (⟨#[]⟩ : ByteArray)]) ?_ 0 _ rfl; (with_reducible repeat (first | refine blk_drewN ?_ _ | refine blk_drew ?_ | refine blk_alloc ?_ _)); exact BK149.out) NB149_145.out (by simp)); have n2_ := Aside0.mk (hb); have n3_ := Aside0.mk (hi); clear BK142; clear BK149; clear HB; clear HI145; have BK142 := n0_; have BK149 := n1_; have HB := n2_; have HI145 := n3_; clear n0_ n1_ n2_ n3_; (try clear hb); (try clear hb2); (try clear hk); (try clear hi); have hcz37_0 : w36.cell? ⟨gb149, 0, none⟩ = some (.string t146) := (blk_cell BK149.out 0).trans rfl; have hcz37_1 : w36.cell? ⟨gb149, 1, none⟩ = some (.string (⟨#[]⟩ : ByteArray)) := (blk_cell BK149.out 1).trans rfl; have hfz37_0 := blk_frozen BK149.out 0; have hfz37_1 := blk_frozen BK149.out 1) | ((with_reducible refine gate_callee (f := 37) rfl ?_); refine goesL_ (some 19) rfl rfl Tryd.func37 (by kernel_rfl) rfl #[.pointer (some ⟨g145, 0, none⟩)] rfl (by (try simp only [List.map_toArray, List.map_cons, List.map_nil]); first | done | rfl | (simp only [List.length_drop, List.length_take]; rfl)) ?_; (with_reducible refine (pack_Reader_Rest.calls g145 t151 t152 t153 t154 t155 w _ ?side1 ?side2 A5.out).mono ?_); (case side1 => repeat (first | (with_reducible first | exact HI145.out | apply IsS88.alloc | apply IsS88.drewN | apply IsS88.drew | apply IsS88.set_0 | apply IsS88.set_1 | refine IsS88.far ?_ NB145_142.out _ | refine IsS88.far ?_ NB145_149.out _) | exact HI145.out)); (case side2 => repeat (first | (with_reducible first | exact HB.out | apply below_alloc | apply pw_below_drewN | apply below_drew1 | refine below_set ?_ (IsS88.ge HI145.out) | refine below_set ?_ GE142.out | refine below_set ?_ GE149.out) | exact HB.out)); rintro e w38 ⟨rfl, hi, hb, hk⟩; refine ⟨_, rfl, ?_⟩; have n0_ := Aside0.mk (KeepBut.blk hk (g' := gb142) (o := .cells #[.string (⟨#[]⟩ : ByteArray), .string (⟨#[]⟩ : ByteArray)] 28 (0, 0)) (by (with_reducible repeat (first | refine blk_drewN ?_ _ | refine blk_drew ?_ | refine blk_alloc ?_ _)); refine blk_far ?_ NB142_149.out _; (with_reducible repeat (first | refine blk_drewN ?_ _ | refine blk_drew ?_ | refine blk_alloc ?_ _)); exact BK142.out) NB142_145.out (by simp)); have n1_ := Aside0.mk (KeepBut.blk hk (g' := gb149) (o := .cells #[.string t146, .string t150] 28 (0, 0)) (by (with_reducible repeat (first | refine blk_drewN ?_ _ | refine blk_drew ?_ | refine blk_alloc ?_ _)); refine blk_put (cs := #[.string t146, .string (⟨#[]⟩ : ByteArray)]) ?_ 1 _ rfl; (with_reducible repeat (first | refine blk_drewN ?_ _ | refine blk_drew ?_ | refine blk_alloc ?_ _)); exact BK149.out) NB149_145.out (by simp)); have n2_ := Aside0.mk (hb); have n3_ := Aside0.mk (hi); clear BK142; clear BK149; clear HB; clear HI145; have BK142 := n0_; have BK149 := n1_; have HB := n2_; have HI145 := n3_; clear n0_ n1_ n2_ n3_; (try clear hb); (try clear hb2); (try clear hk); (try clear hi)) | ((with_reducible refine gate_callee (f := 38) rfl ?_); refine goesL_ (some 21) rfl rfl Tryd.func38 (by kernel_rfl) rfl #[.pointer (some ⟨g145, 0, none⟩)] rfl (by (try simp only [List.map_toArray, List.map_cons, List.map_nil]); first | done | rfl | (simp only [List.length_drop, List.length_take]; rfl)) ?_; (with_reducible refine (pack_Reader_End.calls g145 t154 t155 t156 t157 t158 w _ ?side1 ?side2 A6.out).mono ?_); (case side1 => repeat (first | (with_reducible first | exact HI145.out | apply IsS88.alloc | apply IsS88.drewN | apply IsS88.drew | apply IsS88.set_0 | apply IsS88.set_1 | refine IsS88.far ?_ NB145_142.out _ | refine IsS88.far ?_ NB145_149.out _) | exact HI145.out)); (case side2 => repeat (first | (with_reducible first | exact HB.out | apply below_alloc | apply pw_below_drewN | apply below_drew1 | refine below_set ?_ (IsS88.ge HI145.out) | refine below_set ?_ GE142.out | refine below_set ?_ GE149.out) | exact HB.out)); rintro e w39 ⟨rfl, hi, hb, hk⟩; refine ⟨_, rfl, ?_⟩; have n0_ := Aside0.mk (KeepBut.blk hk (g' := gb142) (o := .cells #[.string (⟨#[]⟩ : ByteArray), .string (⟨#[]⟩ : ByteArray)] 28 (0, 0)) (by (with_reducible repeat (first | refine blk_drewN ?_ _ | refine blk_drew ?_ | refine blk_alloc ?_ _)); exact BK142.out) NB142_145.out (by simp)); have n1_ := Aside0.mk (KeepBut.blk hk (g' := gb149) (o := .cells #[.string t146, .string t150] 28 (0, 0)) (by (with_reducible repeat (first | refine blk_drewN ?_ _ | refine blk_drew ?_ | refine blk_alloc ?_ _)); exact BK149.out) NB149_145.out (by simp)); have n2_ := Aside0.mk (hb); have n3_ := Aside0.mk (hi); clear BK142; clear BK149; clear HB; clear HI145; have BK142 := n0_; have BK149 := n1_; have HB := n2_; have HI145 := n3_; clear n0_ n1_ n2_ n3_; (try clear hb); (try clear hb2); (try clear hk); (try clear hi)))
              have n0_ := Aside0.mk (blk_drew BK142.out)
              have n1_ := Aside0.mk (blk_drew BK149.out)
              have n2_ := Aside0.mk (IsS88.drew HI145.out)
              have n3_ := Aside0.mk (below_drew1 HB.out)
              clear BK142
              clear BK149
              clear HI145
              clear HB
              have BK142 := n0_
              have BK149 := n1_
              have HI145 := n2_
              have HB := n3_
              clear n0_ n1_ n2_ n3_
              refine start_ (n := 6) (S := fun w' => w'.cell? ⟨gb149, 0, none⟩ = some (.string t146) ∧ w'.cell? ⟨gb149, 1, none⟩ = some (.string t150)) (ds := []) #[false, false, false, false, false, false] (by kernel_rfl) rfl rfl ⟨(blk_cell BK149.out 0).trans rfl, (blk_cell BK149.out 1).trans rfl⟩ (fun hHeld => ?_)
              generalize w39.drew = w40 at BK142 BK149 HI145 HB hHeld ⊢
              refine pure_ (i := 0) (N := some 30) (v := ?_) (a' := ?_) #[true, false, false, false, false, false] rfl rfl (by kernel_rfl) (fun _ _ _ h => h) (Or.inl ⟨by rfl, ?_⟩) ?_ ?_
              rotate_left
              · intro w'
                go_simp
                with_reducible rfl
              rotate_left
              · simp only [Act.put, List.setIfInBounds_toArray, List.set_cons_zero, List.set_cons_succ, i64_w, i32_w]
                rfl
              refine pure_ (i := 1) (N := some 31) (v := ?_) (a' := ?_) #[true, true, false, false, false, false] rfl rfl (by kernel_rfl) (fun _ _ _ h => h) (Or.inl ⟨by rfl, ?_⟩) ?_ ?_
              rotate_left
              · intro w'
                go_simp
                with_reducible rfl
              rotate_left
              · simp only [Act.put, List.setIfInBounds_toArray, List.set_cons_zero, List.set_cons_succ, i64_w, i32_w]
                rfl
              refine pure_ (i := 2) (N := some 32) (v := ?_) (a' := ?_) #[true, true, true, false, false, false] rfl rfl (by kernel_rfl) (fun _ _ _ h => h) (Or.inl ⟨by rfl, ?_⟩) ?_ ?_
              rotate_left
              · intro w'
                go_simp
                with_reducible rfl
              rotate_left
              · simp only [Act.put, List.setIfInBounds_toArray, List.set_cons_zero, List.set_cons_succ, i64_w, i32_w]
                rfl
              refine take_ (i := 3) (N := some 33) (v := ?_) (a' := ?_) #[true, true, true, true, false, false] rfl rfl (by kernel_rfl) (fun _ _ _ h => h) (Or.inl ⟨by rfl, ?_⟩) hHeld ?_ ?_
              rotate_left
              · rintro w' ⟨s0, s1⟩
                go_simp
                with_reducible rfl
              rotate_left
              · simp only [Act.put, List.setIfInBounds_toArray, List.set_cons_zero, List.set_cons_succ, i64_w, i32_w]
                rfl
              refine one_ (i := 4) (N := some 34) #[true, true, true, true, true, false] rfl rfl (by kernel_rfl) (by decide) (fun K hK => ?_)
              refine goes_ Tryd.func29 (by kernel_rfl) rfl #[.string t150] (by rfl) rfl rfl (by (try simp only [List.map_toArray, List.map_cons, List.map_nil]); first | done | rfl | (simp only [List.length_drop, List.length_take]; rfl)) ?_
              with_reducible refine (digest_Sum.calls t150 t159 _ A24.out).mono ?_
              rintro e w41 ⟨rfl, hb⟩
              refine ⟨_, rfl, ?_⟩
              have n0_ := Aside0.mk (blk_below (g := gb142) (o := .cells #[.string (⟨#[]⟩ : ByteArray), .string (⟨#[]⟩ : ByteArray)] 28 (0, 0)) (by (with_reducible repeat (first | refine blk_drewN ?_ _ | refine blk_drew ?_ | refine blk_alloc ?_ _)); exact BK142.out) hb)
              have n1_ := Aside0.mk (IsS88.below (by repeat (first | (with_reducible first | exact HI145.out | apply IsS88.alloc | apply IsS88.drewN | apply IsS88.drew | apply IsS88.set_0 | apply IsS88.set_1 | refine IsS88.far ?_ NB145_142.out _ | refine IsS88.far ?_ NB145_149.out _) | exact HI145.out)) hb)
              have n2_ := Aside0.mk (blk_below (g := gb149) (o := .cells #[.string t146, .string t150] 28 (0, 0)) (by (with_reducible repeat (first | refine blk_drewN ?_ _ | refine blk_drew ?_ | refine blk_alloc ?_ _)); exact BK149.out) hb)
              have n3_ := Aside0.mk (below_step (by repeat (first | (with_reducible first | exact HB.out | apply below_alloc | apply pw_below_drewN | apply below_drew1 | refine below_set ?_ (IsS88.ge HI145.out) | refine below_set ?_ GE142.out | refine below_set ?_ GE149.out) | exact HB.out)) hb)
              clear BK142
              clear HI145
              clear BK149
              clear HB
              have BK142 := n0_
              have HI145 := n1_
              have BK149 := n2_
              have HB := n3_
              clear n0_ n1_ n2_ n3_
              (try clear hb)
              (try clear hb2)
              (try clear hk)
              (try clear hi)
              refine hK.out _ _ ⟨(blk_cell BK149.out 0).trans rfl, (blk_cell BK149.out 1).trans rfl⟩ (fun hHeld => ?_)
              clear hK K
              refine norm_ (a' := ?_) ?_ ?_
              rotate_left
              · show Act.put _ (some 34) _ = _
                simp only [Act.put, List.setIfInBounds_toArray, List.set_cons_zero, List.set_cons_succ, i64_w, i32_w]
                rfl
              refine pure_ (i := 5) (N := some 35) (v := ?_) (a' := ?_) #[true, true, true, true, true, true] rfl rfl (by kernel_rfl) (fun _ _ _ h => h) (Or.inl ⟨by rfl, ?_⟩) ?_ ?_
              rotate_left
              · intro w'
                go_simp
                with_reducible rfl
              rotate_left
              · simp only [Act.put, List.setIfInBounds_toArray, List.set_cons_zero, List.set_cons_succ, i64_w, i32_w]
                rfl
              refine done_ (by kernel_rfl) ?_
              have hcz42_0 : w41.cell? ⟨gb149, 0, none⟩ = some (.string t146) := (blk_cell BK149.out 0).trans rfl
              have hcz42_1 : w41.cell? ⟨gb149, 1, none⟩ = some (.string t150) := (blk_cell BK149.out 1).trans rfl
              have hfz42_0 := blk_frozen BK149.out 0
              have hfz42_1 := blk_frozen BK149.out 1
              try go_wp2_with (first | ((with_reducible refine gate_callee (f := 13) rfl ?_); refine goesL_ (some 38) rfl rfl Tryd.func13 (by kernel_rfl) rfl #[.agg #[.string t146, .string t150]] rfl (by (try simp only [List.map_toArray, List.map_cons, List.map_nil]); first | done | rfl | (simp only [List.length_drop, List.length_take]; rfl)) ?_; (with_reducible refine (needle_Check.calls t146 t150 t160 _ A26.out).mono ?_); rintro e w43 ⟨rfl, hb⟩; refine ⟨_, rfl, ?_⟩; have n0_ := Aside0.mk (blk_below (g := gb142) (o := .cells #[.string (⟨#[]⟩ : ByteArray), .string (⟨#[]⟩ : ByteArray)] 28 (0, 0)) (by (with_reducible repeat (first | refine blk_drewN ?_ _ | refine blk_drew ?_ | refine blk_alloc ?_ _)); exact BK142.out) hb); have n1_ := Aside0.mk (IsS88.below (by repeat (first | (with_reducible first | exact HI145.out | apply IsS88.alloc | apply IsS88.drewN | apply IsS88.drew | apply IsS88.set_0 | apply IsS88.set_1 | refine IsS88.far ?_ NB145_142.out _ | refine IsS88.far ?_ NB145_149.out _) | exact HI145.out)) hb); have n2_ := Aside0.mk (blk_below (g := gb149) (o := .cells #[.string t146, .string t150] 28 (0, 0)) (by (with_reducible repeat (first | refine blk_drewN ?_ _ | refine blk_drew ?_ | refine blk_alloc ?_ _)); exact BK149.out) hb); have n3_ := Aside0.mk (below_step (by repeat (first | (with_reducible first | exact HB.out | apply below_alloc | apply pw_below_drewN | apply below_drew1 | refine below_set ?_ (IsS88.ge HI145.out) | refine below_set ?_ GE142.out | refine below_set ?_ GE149.out) | exact HB.out)) hb); clear BK142; clear HI145; clear BK149; clear HB; have BK142 := n0_; have HI145 := n1_; have BK149 := n2_; have HB := n3_; clear n0_ n1_ n2_ n3_; (try clear hb); (try clear hb2); (try clear hk); (try clear hi)))
              have n0_ := Aside0.mk (blk_drew BK142.out)
              have n1_ := Aside0.mk (blk_drew BK149.out)
              have n2_ := Aside0.mk (IsS88.drew HI145.out)
              have n3_ := Aside0.mk (below_drew1 HB.out)
              clear BK142
              clear BK149
              clear HI145
              clear HB
              have BK142 := n0_
              have BK149 := n1_
              have HI145 := n2_
              have HB := n3_
              clear n0_ n1_ n2_ n3_
              refine start_ (n := 6) (S := fun w' => w'.cell? ⟨gb149, 0, none⟩ = some (.string t146) ∧ w'.cell? ⟨gb149, 1, none⟩ = some (.string t150)) (ds := []) #[false, false, false, false, false, false] (by kernel_rfl) rfl rfl ⟨(blk_cell BK149.out 0).trans rfl, (blk_cell BK149.out 1).trans rfl⟩ (fun hHeld => ?_)
              generalize w43.drew = w44 at BK142 BK149 HI145 HB hHeld ⊢
              refine pure_ (i := 1) (N := some 44) (v := ?_) (a' := ?_) #[false, true, false, false, false, false] rfl rfl (by kernel_rfl) (fun _ _ _ h => h) (Or.inl ⟨by rfl, ?_⟩) ?_ ?_
              rotate_left
              · intro w'
                go_simp
                with_reducible rfl
              rotate_left
              · simp only [Act.put, List.setIfInBounds_toArray, List.set_cons_zero, List.set_cons_succ, i64_w, i32_w]
                rfl
              refine pure_ (i := 2) (N := some 45) (v := ?_) (a' := ?_) #[false, true, true, false, false, false] rfl rfl (by kernel_rfl) (fun _ _ _ h => h) (Or.inl ⟨by rfl, ?_⟩) ?_ ?_
              rotate_left
              · intro w'
                go_simp
                with_reducible rfl
              rotate_left
              · simp only [Act.put, List.setIfInBounds_toArray, List.set_cons_zero, List.set_cons_succ, i64_w, i32_w]
                rfl
              refine take_ (i := 0) (N := some 43) (v := ?_) (a' := ?_) #[true, true, true, false, false, false] rfl rfl (by kernel_rfl) (fun _ _ _ h => h) (Or.inl ⟨by rfl, ?_⟩) hHeld ?_ ?_
              rotate_left
              · rintro w' ⟨s0, s1⟩
                go_simp
                with_reducible rfl
              rotate_left
              · simp only [Act.put, List.setIfInBounds_toArray, List.set_cons_zero, List.set_cons_succ, i64_w, i32_w]
                rfl
              refine one_ (i := 3) (N := none) #[true, true, true, true, false, false] rfl rfl (by kernel_rfl) (by decide) (fun K hK => ?_)
              have hs45 : w44.cell? ⟨gb142, 0, none⟩ = some (.string (⟨#[]⟩ : ByteArray)) := (blk_cell BK142.out 0).trans rfl
              have hfs45 := blk_frozen BK142.out 0
              have hns45_1 := NB149_142.out
              have hms45_1 := NB142_149.out
              have hs46 : w44.cell? ⟨gb142, 1, none⟩ = some (.string (⟨#[]⟩ : ByteArray)) := (blk_cell BK142.out 1).trans rfl
              have hfs46 := blk_frozen BK142.out 1
              have hns46_1 := NB149_142.out
              have hms46_1 := NB142_149.out
              refine skip_ (w1 := ?_) (by rfl) rfl ?_ ?_
              rotate_left
              · go_simp
                rfl
              refine hK.out _ _ ⟨((cell_far (p := ⟨gb142, _, none⟩) NB149_142.out _).trans (((cell_far (p := ⟨gb142, _, none⟩) NB149_142.out _).trans (hHeld.1)))), ((cell_far (p := ⟨gb142, _, none⟩) NB149_142.out _).trans (((cell_far (p := ⟨gb142, _, none⟩) NB149_142.out _).trans (hHeld.2))))⟩ (fun hHeld => ?_)
              clear hK K
              refine pure_ (i := 4) (N := some 3) (v := ?_) (a' := ?_) #[true, true, true, true, true, false] rfl rfl (by kernel_rfl) (fun _ _ _ h => h) (Or.inl ⟨by rfl, ?_⟩) ?_ ?_
              rotate_left
              · intro w'
                go_simp
                with_reducible rfl
              rotate_left
              · simp only [Act.put, List.setIfInBounds_toArray, List.set_cons_zero, List.set_cons_succ, i64_w, i32_w]
                rfl
              refine pure_ (i := 5) (N := some 4) (v := ?_) (a' := ?_) #[true, true, true, true, true, true] rfl rfl (by kernel_rfl) (fun _ _ _ h => h) (Or.inl ⟨by rfl, ?_⟩) ?_ ?_
              rotate_left
              · intro w'
                go_simp
                with_reducible rfl
              rotate_left
              · simp only [Act.put, List.setIfInBounds_toArray, List.set_cons_zero, List.set_cons_succ, i64_w, i32_w]
                rfl
              refine done_ (by kernel_rfl) ?_
              try go_wp2
              refine bodyPost_ret (results_ctt rfl _ _ gb142 28 #[.string t146, .string t150] (0, 0) _ rfl (by (with_reducible repeat (first | refine blk_drewN ?_ _ | refine blk_drew ?_ | refine blk_alloc ?_ _)); refine blk_put (cs := #[.string t146, .string (⟨#[]⟩ : ByteArray)]) ?_ 1 _ rfl; (with_reducible repeat (first | refine blk_drewN ?_ _ | refine blk_drew ?_ | refine blk_alloc ?_ _)); refine blk_put (cs := #[.string (⟨#[]⟩ : ByteArray), .string (⟨#[]⟩ : ByteArray)]) ?_ 0 _ rfl; (with_reducible repeat (first | refine blk_drewN ?_ _ | refine blk_drew ?_ | refine blk_alloc ?_ _)); exact BK142.out) Tryd.underlying28 rfl (by kernel_rfl)) rfl ?_
              exact ⟨by first | rfl | (simp [errW_none, errW_some] <;> rfl) | (simp [*, errW_none, errW_some] <;> rfl), by repeat (first | (with_reducible first | exact HB.out | apply below_alloc | apply pw_below_drewN | apply below_drew1 | refine below_set ?_ (IsS88.ge HI145.out) | refine below_set ?_ GE142.out | refine below_set ?_ GE149.out) | exact HB.out)⟩
            · rw [if_neg c27] at H
              have c27b0 : (t160 == 0) = false := beq_eq_false_iff_ne.mpr c27
              have c27b1 : (t160 != 0) = true := bne_iff_ne.mpr c27
              simp only [Option.some.injEq, Prod.mk.injEq] at H
              obtain ⟨rfl, rfl, rfl, rfl⟩ := H
              go_enter Tryd.func15, Tryd.ntmps15
              try go_wp2_with (first | ((with_reducible refine gate_dst (N := 2) rfl ?_); refine box_event ?hg (N := 2) ?hd (cs := #[.string (⟨#[]⟩ : ByteArray), .string (⟨#[]⟩ : ByteArray)]) (t := 28) ?hr ?_; (case hd => rfl); (case hg => rfl); (case hr => first | (go_simp; done) | (go_simp; rfl)); intro gb142 hg w47 hbox hb; have n0_ := Aside0.mk (below_step (by repeat (first | (with_reducible first | exact HB.out | apply below_alloc | apply pw_below_drewN | apply below_drew1) | exact HB.out)) hb); have n1_ := Aside0.mk (hbox); have n2_ := Aside0.mk ((by rw [hg]; exact (below_size (by repeat (first | (with_reducible first | exact HB.out | apply below_alloc | apply pw_below_drewN | apply below_drew1) | exact HB.out))) : w.heap.size ≤ gb142)); have n3_ := Aside0.mk ((by rw [hg]; exact (below_size (by repeat (first | (with_reducible first | exact HB.out | apply below_alloc | apply pw_below_drewN | apply below_drew1) | exact HB.out))) : w.heap.size ≤ gb142)); clear HB; have HB := n0_; have BK142 := n1_; have GW142 := n2_; have GE142 := n3_; clear n0_ n1_ n2_ n3_; clear hb hbox hg) | ((with_reducible refine gate_callee (f := 35) rfl ?_); refine goesL_ (some 11) rfl rfl Tryd.func35 (by kernel_rfl) rfl #[.string a0] rfl (by (try simp only [List.map_toArray, List.map_cons, List.map_nil]); first | done | rfl | (simp only [List.length_drop, List.length_take]; rfl)) ?_; (with_reducible refine (pack_Read.calls a0 t143 t144 w _ ?side1 A2.out).mono ?_); (case side1 => repeat (first | (with_reducible first | exact HB.out | apply below_alloc | apply pw_below_drewN | apply below_drew1 | refine below_set ?_ GE142.out) | exact HB.out)); rintro e w48 ⟨g145, rfl, hi, hb, hb2⟩; refine ⟨_, rfl, ?_⟩; have n0_ := Aside0.mk (blk_below (g := gb142) (o := .cells #[.string (⟨#[]⟩ : ByteArray), .string (⟨#[]⟩ : ByteArray)] 28 (0, 0)) (by (with_reducible repeat (first | refine blk_drewN ?_ _ | refine blk_drew ?_ | refine blk_alloc ?_ _)); exact BK142.out) hb2); have n1_ := Aside0.mk (hb); have n2_ := Aside0.mk (hi); have n3_ := Aside0.mk (IsS88.ne_blk hi (blk_below (g := gb142) (o := .cells #[.string (⟨#[]⟩ : ByteArray), .string (⟨#[]⟩ : ByteArray)] 28 (0, 0)) (by (with_reducible repeat (first | refine blk_drewN ?_ _ | refine blk_drew ?_ | refine blk_alloc ?_ _)); exact BK142.out) hb2) (by decide)); have n4_ := Aside0.mk (Ne.symm (IsS88.ne_blk hi (blk_below (g := gb142) (o := .cells #[.string (⟨#[]⟩ : ByteArray), .string (⟨#[]⟩ : ByteArray)] 28 (0, 0)) (by (with_reducible repeat (first | refine blk_drewN ?_ _ | refine blk_drew ?_ | refine blk_alloc ?_ _)); exact BK142.out) hb2) (by decide))); clear BK142; clear HB; have BK142 := n0_; have HB := n1_; have HI145 := n2_; have NB145_142 := n3_; have NB142_145 := n4_; clear n0_ n1_ n2_ n3_ n4_; (try clear hb); (try clear hb2); (try clear hk); (try clear hi)) | ((with_reducible refine gate_callee (f := 36) rfl ?_); refine goesL_ (some 13) rfl rfl Tryd.func36 (by kernel_rfl) rfl #[.pointer (some ⟨g145, 0, none⟩)] rfl (by (try simp only [List.map_toArray, List.map_cons, List.map_nil]); first | done | rfl | (simp only [List.length_drop, List.length_take]; rfl)) ?_; (with_reducible refine (pack_Reader_Text.calls k g145 t143 t144 t146 t147 t148 w _ ?side1 ?side2 A3.out).mono ?_); (case side1 => repeat (first | (with_reducible first | exact HI145.out | apply IsS88.alloc | apply IsS88.drewN | apply IsS88.drew | apply IsS88.set_0 | apply IsS88.set_1 | refine IsS88.far ?_ NB145_142.out _) | exact HI145.out)); (case side2 => repeat (first | (with_reducible first | exact HB.out | apply below_alloc | apply pw_below_drewN | apply below_drew1 | refine below_set ?_ (IsS88.ge HI145.out) | refine below_set ?_ GE142.out) | exact HB.out)); rintro e w49 ⟨rfl, hi, hb, hk⟩; refine ⟨_, rfl, ?_⟩; have n0_ := Aside0.mk (KeepBut.blk hk (g' := gb142) (o := .cells #[.string (⟨#[]⟩ : ByteArray), .string (⟨#[]⟩ : ByteArray)] 28 (0, 0)) (by (with_reducible repeat (first | refine blk_drewN ?_ _ | refine blk_drew ?_ | refine blk_alloc ?_ _)); exact BK142.out) NB142_145.out (by simp)); have n1_ := Aside0.mk (hb); have n2_ := Aside0.mk (hi); clear BK142; clear HB; clear HI145; have BK142 := n0_; have HB := n1_; have HI145 := n2_; clear n0_ n1_ n2_; (try clear hb); (try clear hb2); (try clear hk); (try clear hi)) | ((with_reducible refine gate_dst (N := 6) rfl ?_); refine box_event ?hg (N := 6) ?hd (cs := #[.string (⟨#[]⟩ : ByteArray), .string (⟨#[]⟩ : ByteArray)]) (t := 28) ?hr ?_; (case hd => rfl); (case hg => rfl); (case hr => first | (go_simp; done) | (go_simp; rfl)); intro gb149 hg w50 hbox hb; have n0_ := Aside0.mk (blk_below (g := gb142) (o := .cells #[.string (⟨#[]⟩ : ByteArray), .string (⟨#[]⟩ : ByteArray)] 28 (0, 0)) (by (with_reducible repeat (first | refine blk_drewN ?_ _ | refine blk_drew ?_ | refine blk_alloc ?_ _)); exact BK142.out) hb); have n1_ := Aside0.mk (IsS88.below (by repeat (first | (with_reducible first | exact HI145.out | apply IsS88.alloc | apply IsS88.drewN | apply IsS88.drew | apply IsS88.set_0 | apply IsS88.set_1 | refine IsS88.far ?_ NB145_142.out _) | exact HI145.out)) hb); have n2_ := Aside0.mk (below_step (by repeat (first | (with_reducible first | exact HB.out | apply below_alloc | apply pw_below_drewN | apply below_drew1 | refine below_set ?_ (IsS88.ge HI145.out) | refine below_set ?_ GE142.out) | exact HB.out)) hb); have n3_ := Aside0.mk (hbox); have n4_ := Aside0.mk ((by rw [hg]; exact (below_size (by repeat (first | (with_reducible first | exact HB.out | apply below_alloc | apply pw_below_drewN | apply below_drew1 | refine below_set ?_ (IsS88.ge HI145.out) | refine below_set ?_ GE142.out) | exact HB.out))) : w.heap.size ≤ gb149)); have n5_ := Aside0.mk ((by rw [hg]; exact (below_size (by repeat (first | (with_reducible first | exact HB.out | apply below_alloc | apply pw_below_drewN | apply below_drew1 | refine below_set ?_ (IsS88.ge HI145.out) | refine below_set ?_ GE142.out) | exact HB.out))) : w.heap.size ≤ gb149)); have n6_ := Aside0.mk ((by rw [hg]; exact Nat.ne_of_lt (blk_lt (g := gb142) (o := .cells #[.string (⟨#[]⟩ : ByteArray), .string (⟨#[]⟩ : ByteArray)] 28 (0, 0)) (by (with_reducible repeat (first | refine blk_drewN ?_ _ | refine blk_drew ?_ | refine blk_alloc ?_ _)); exact BK142.out)) : gb142 ≠ gb149)); have n7_ := Aside0.mk ((by rw [hg]; exact Nat.ne_of_gt (blk_lt (g := gb142) (o := .cells #[.string (⟨#[]⟩ : ByteArray), .string (⟨#[]⟩ : ByteArray)] 28 (0, 0)) (by (with_reducible repeat (first | refine blk_drewN ?_ _ | refine blk_drew ?_ | refine blk_alloc ?_ _)); exact BK142.out)) : gb149 ≠ gb142)); have n8_ := Aside0.mk ((by rw [hg]; exact Nat.ne_of_lt (IsS88.lt (show IsS88 w _ g145 t147 t148 from by repeat (first | (with_reducible first | exact HI145.out | apply IsS88.alloc | apply IsS88.drewN | apply IsS88.drew | apply IsS88.set_0 | apply IsS88.set_1 | refine IsS88.far ?_ NB145_142.out _) | exact HI145.out))) : g145 ≠ gb149)); have n9_ := Aside0.mk ((by rw [hg]; exact Nat.ne_of_gt (IsS88.lt (show IsS88 w _ g145 t147 t148 from by repeat (first | (with_reducible first | exact HI145.out | apply IsS88.alloc | apply IsS88.drewN | apply IsS88.drew | apply IsS88.set_0 | apply IsS88.set_1 | refine IsS88.far ?_ NB145_142.out _) | exact HI145.out))) : gb149 ≠ g145)); clear BK142; clear HI145; clear HB; have BK142 := n0_; have HI145 := n1_; have HB := n2_; have BK149 := n3_; have GW149 := n4_; have GE149 := n5_; have NB142_149 := n6_; have NB149_142 := n7_; have NB145_149 := n8_; have NB149_145 := n9_; clear n0_ n1_ n2_ n3_ n4_ n5_ n6_ n7_ n8_ n9_; clear hb hbox hg; have hnb51 := NB149_142.out; have hnc51 := NB142_149.out; have hnb52 := NB149_145.out; have hnc52 := NB145_149.out; have hcz53_0 : w50.cell? ⟨gb149, 0, none⟩ = some (.string (⟨#[]⟩ : ByteArray)) := (blk_cell BK149.out 0).trans rfl; have hcz53_1 : w50.cell? ⟨gb149, 1, none⟩ = some (.string (⟨#[]⟩ : ByteArray)) := (blk_cell BK149.out 1).trans rfl; have hfz53_0 := blk_frozen BK149.out 0; have hfz53_1 := blk_frozen BK149.out 1) | ((with_reducible refine gate_callee (f := 36) rfl ?_); refine goesL_ (some 16) rfl rfl Tryd.func36 (by kernel_rfl) rfl #[.pointer (some ⟨g145, 0, none⟩)] rfl (by (try simp only [List.map_toArray, List.map_cons, List.map_nil]); first | done | rfl | (simp only [List.length_drop, List.length_take]; rfl)) ?_; (with_reducible refine (pack_Reader_Text.calls k g145 t147 t148 t150 t151 t152 w _ ?side1 ?side2 A4.out).mono ?_); (case side1 => repeat (first | (with_reducible first | exact HI145.out | apply IsS88.alloc | apply IsS88.drewN | apply IsS88.drew | apply IsS88.set_0 | apply IsS88.set_1 | refine IsS88.far ?_ NB145_142.out _ | refine IsS88.far ?_ NB145_149.out _) | exact HI145.out)); (case side2 => repeat (first | (with_reducible first | exact HB.out | apply below_alloc | apply pw_below_drewN | apply below_drew1 | refine below_set ?_ (IsS88.ge HI145.out) | refine below_set ?_ GE142.out | refine below_set ?_ GE149.out) | exact HB.out)); rintro e w54 ⟨rfl, hi, hb, hk⟩; refine ⟨_, rfl, ?_⟩; have n0_ := Aside0.mk (KeepBut.blk hk (g' := gb142) (o := .cells #[.string (⟨#[]⟩ : ByteArray), .string (⟨#[]⟩ : ByteArray)] 28 (0, 0)) (by (with_reducible repeat (first | refine blk_drewN ?_ _ | refine blk_drew ?_ | refine blk_alloc ?_ _)); refine blk_far ?_ NB142_149.out _; (with_reducible repeat (first | refine blk_drewN ?_ _ | refine blk_drew ?_ | refine blk_alloc ?_ _)); refine blk_far ?_ NB142_149.out _; (with_reducible repeat (first | refine blk_drewN ?_ _ | refine blk_drew ?_ | refine blk_alloc ?_ _)); exact BK142.out) NB142_145.out (by simp)); have n1_ := Aside0.mk (KeepBut.blk hk (g' := gb149) (o := .cells #[.string t146, .string (⟨#[]⟩ : ByteArray)] 28 (0, 0)) (by (with_reducible repeat (first | refine blk_drewN ?_ _ | refine blk_drew ?_ | refine blk_alloc ?_ _)); refine blk_put (cs := #[.string t146, .string (⟨#[]⟩ : ByteArray)]) ?_ 1 _ rfl; (with_reducible repeat (first | refine blk_drewN ?_ _ | refine blk_drew ?_ | refine blk_alloc ?_ _)); refine blk_put (cs := #[.string (⟨#[]⟩ : ByteArray), .string (⟨#[]⟩ : ByteArray)]) ?_ 0 _ rfl; (with_reducible repeat (first | refine blk_drewN ?_ _ | refine blk_drew ?_ | refine blk_alloc ?_ _)); exact BK149.out) NB149_145.out (by simp)); have n2_ := Aside0.mk (hb); have n3_ := Aside0.mk (hi); clear BK142; clear BK149; clear HB; clear HI145; have BK142 := n0_; have BK149 := n1_; have HB := n2_; have HI145 := n3_; clear n0_ n1_ n2_ n3_; (try clear hb); (try clear hb2); (try clear hk); (try clear hi); have hcz55_0 : w54.cell? ⟨gb149, 0, none⟩ = some (.string t146) := (blk_cell BK149.out 0).trans rfl; have hcz55_1 : w54.cell? ⟨gb149, 1, none⟩ = some (.string (⟨#[]⟩ : ByteArray)) := (blk_cell BK149.out 1).trans rfl; have hfz55_0 := blk_frozen BK149.out 0; have hfz55_1 := blk_frozen BK149.out 1) | ((with_reducible refine gate_callee (f := 37) rfl ?_); refine goesL_ (some 19) rfl rfl Tryd.func37 (by kernel_rfl) rfl #[.pointer (some ⟨g145, 0, none⟩)] rfl (by (try simp only [List.map_toArray, List.map_cons, List.map_nil]); first | done | rfl | (simp only [List.length_drop, List.length_take]; rfl)) ?_; (with_reducible refine (pack_Reader_Rest.calls g145 t151 t152 t153 t154 t155 w _ ?side1 ?side2 A5.out).mono ?_); (case side1 => repeat (first | (with_reducible first | exact HI145.out | apply IsS88.alloc | apply IsS88.drewN | apply IsS88.drew | apply IsS88.set_0 | apply IsS88.set_1 | refine IsS88.far ?_ NB145_142.out _ | refine IsS88.far ?_ NB145_149.out _) | exact HI145.out)); (case side2 => repeat (first | (with_reducible first | exact HB.out | apply below_alloc | apply pw_below_drewN | apply below_drew1 | refine below_set ?_ (IsS88.ge HI145.out) | refine below_set ?_ GE142.out | refine below_set ?_ GE149.out) | exact HB.out)); rintro e w56 ⟨rfl, hi, hb, hk⟩; refine ⟨_, rfl, ?_⟩; have n0_ := Aside0.mk (KeepBut.blk hk (g' := gb142) (o := .cells #[.string (⟨#[]⟩ : ByteArray), .string (⟨#[]⟩ : ByteArray)] 28 (0, 0)) (by (with_reducible repeat (first | refine blk_drewN ?_ _ | refine blk_drew ?_ | refine blk_alloc ?_ _)); refine blk_far ?_ NB142_149.out _; (with_reducible repeat (first | refine blk_drewN ?_ _ | refine blk_drew ?_ | refine blk_alloc ?_ _)); exact BK142.out) NB142_145.out (by simp)); have n1_ := Aside0.mk (KeepBut.blk hk (g' := gb149) (o := .cells #[.string t146, .string t150] 28 (0, 0)) (by (with_reducible repeat (first | refine blk_drewN ?_ _ | refine blk_drew ?_ | refine blk_alloc ?_ _)); refine blk_put (cs := #[.string t146, .string (⟨#[]⟩ : ByteArray)]) ?_ 1 _ rfl; (with_reducible repeat (first | refine blk_drewN ?_ _ | refine blk_drew ?_ | refine blk_alloc ?_ _)); exact BK149.out) NB149_145.out (by simp)); have n2_ := Aside0.mk (hb); have n3_ := Aside0.mk (hi); clear BK142; clear BK149; clear HB; clear HI145; have BK142 := n0_; have BK149 := n1_; have HB := n2_; have HI145 := n3_; clear n0_ n1_ n2_ n3_; (try clear hb); (try clear hb2); (try clear hk); (try clear hi)) | ((with_reducible refine gate_callee (f := 38) rfl ?_); refine goesL_ (some 21) rfl rfl Tryd.func38 (by kernel_rfl) rfl #[.pointer (some ⟨g145, 0, none⟩)] rfl (by (try simp only [List.map_toArray, List.map_cons, List.map_nil]); first | done | rfl | (simp only [List.length_drop, List.length_take]; rfl)) ?_; (with_reducible refine (pack_Reader_End.calls g145 t154 t155 t156 t157 t158 w _ ?side1 ?side2 A6.out).mono ?_); (case side1 => repeat (first | (with_reducible first | exact HI145.out | apply IsS88.alloc | apply IsS88.drewN | apply IsS88.drew | apply IsS88.set_0 | apply IsS88.set_1 | refine IsS88.far ?_ NB145_142.out _ | refine IsS88.far ?_ NB145_149.out _) | exact HI145.out)); (case side2 => repeat (first | (with_reducible first | exact HB.out | apply below_alloc | apply pw_below_drewN | apply below_drew1 | refine below_set ?_ (IsS88.ge HI145.out) | refine below_set ?_ GE142.out | refine below_set ?_ GE149.out) | exact HB.out)); rintro e w57 ⟨rfl, hi, hb, hk⟩; refine ⟨_, rfl, ?_⟩; have n0_ := Aside0.mk (KeepBut.blk hk (g' := gb142) (o := .cells #[.string (⟨#[]⟩ : ByteArray), .string (⟨#[]⟩ : ByteArray)] 28 (0, 0)) (by (with_reducible repeat (first | refine blk_drewN ?_ _ | refine blk_drew ?_ | refine blk_alloc ?_ _)); exact BK142.out) NB142_145.out (by simp)); have n1_ := Aside0.mk (KeepBut.blk hk (g' := gb149) (o := .cells #[.string t146, .string t150] 28 (0, 0)) (by (with_reducible repeat (first | refine blk_drewN ?_ _ | refine blk_drew ?_ | refine blk_alloc ?_ _)); exact BK149.out) NB149_145.out (by simp)); have n2_ := Aside0.mk (hb); have n3_ := Aside0.mk (hi); clear BK142; clear BK149; clear HB; clear HI145; have BK142 := n0_; have BK149 := n1_; have HB := n2_; have HI145 := n3_; clear n0_ n1_ n2_ n3_; (try clear hb); (try clear hb2); (try clear hk); (try clear hi)))
              have n0_ := Aside0.mk (blk_drew BK142.out)
              have n1_ := Aside0.mk (blk_drew BK149.out)
              have n2_ := Aside0.mk (IsS88.drew HI145.out)
              have n3_ := Aside0.mk (below_drew1 HB.out)
              clear BK142
              clear BK149
              clear HI145
              clear HB
              have BK142 := n0_
              have BK149 := n1_
              have HI145 := n2_
              have HB := n3_
              clear n0_ n1_ n2_ n3_
              refine start_ (n := 6) (S := fun w' => w'.cell? ⟨gb149, 0, none⟩ = some (.string t146) ∧ w'.cell? ⟨gb149, 1, none⟩ = some (.string t150)) (ds := []) #[false, false, false, false, false, false] (by kernel_rfl) rfl rfl ⟨(blk_cell BK149.out 0).trans rfl, (blk_cell BK149.out 1).trans rfl⟩ (fun hHeld => ?_)
              generalize w57.drew = w58 at BK142 BK149 HI145 HB hHeld ⊢
              refine pure_ (i := 0) (N := some 30) (v := ?_) (a' := ?_) #[true, false, false, false, false, false] rfl rfl (by kernel_rfl) (fun _ _ _ h => h) (Or.inl ⟨by rfl, ?_⟩) ?_ ?_
              rotate_left
              · intro w'
                go_simp
                with_reducible rfl
              rotate_left
              · simp only [Act.put, List.setIfInBounds_toArray, List.set_cons_zero, List.set_cons_succ, i64_w, i32_w]
                rfl
              refine pure_ (i := 1) (N := some 31) (v := ?_) (a' := ?_) #[true, true, false, false, false, false] rfl rfl (by kernel_rfl) (fun _ _ _ h => h) (Or.inl ⟨by rfl, ?_⟩) ?_ ?_
              rotate_left
              · intro w'
                go_simp
                with_reducible rfl
              rotate_left
              · simp only [Act.put, List.setIfInBounds_toArray, List.set_cons_zero, List.set_cons_succ, i64_w, i32_w]
                rfl
              refine pure_ (i := 2) (N := some 32) (v := ?_) (a' := ?_) #[true, true, true, false, false, false] rfl rfl (by kernel_rfl) (fun _ _ _ h => h) (Or.inl ⟨by rfl, ?_⟩) ?_ ?_
              rotate_left
              · intro w'
                go_simp
                with_reducible rfl
              rotate_left
              · simp only [Act.put, List.setIfInBounds_toArray, List.set_cons_zero, List.set_cons_succ, i64_w, i32_w]
                rfl
              refine take_ (i := 3) (N := some 33) (v := ?_) (a' := ?_) #[true, true, true, true, false, false] rfl rfl (by kernel_rfl) (fun _ _ _ h => h) (Or.inl ⟨by rfl, ?_⟩) hHeld ?_ ?_
              rotate_left
              · rintro w' ⟨s0, s1⟩
                go_simp
                with_reducible rfl
              rotate_left
              · simp only [Act.put, List.setIfInBounds_toArray, List.set_cons_zero, List.set_cons_succ, i64_w, i32_w]
                rfl
              refine one_ (i := 4) (N := some 34) #[true, true, true, true, true, false] rfl rfl (by kernel_rfl) (by decide) (fun K hK => ?_)
              refine goes_ Tryd.func29 (by kernel_rfl) rfl #[.string t150] (by rfl) rfl rfl (by (try simp only [List.map_toArray, List.map_cons, List.map_nil]); first | done | rfl | (simp only [List.length_drop, List.length_take]; rfl)) ?_
              with_reducible refine (digest_Sum.calls t150 t159 _ A24.out).mono ?_
              rintro e w59 ⟨rfl, hb⟩
              refine ⟨_, rfl, ?_⟩
              have n0_ := Aside0.mk (blk_below (g := gb142) (o := .cells #[.string (⟨#[]⟩ : ByteArray), .string (⟨#[]⟩ : ByteArray)] 28 (0, 0)) (by (with_reducible repeat (first | refine blk_drewN ?_ _ | refine blk_drew ?_ | refine blk_alloc ?_ _)); exact BK142.out) hb)
              have n1_ := Aside0.mk (IsS88.below (by repeat (first | (with_reducible first | exact HI145.out | apply IsS88.alloc | apply IsS88.drewN | apply IsS88.drew | apply IsS88.set_0 | apply IsS88.set_1 | refine IsS88.far ?_ NB145_142.out _ | refine IsS88.far ?_ NB145_149.out _) | exact HI145.out)) hb)
              have n2_ := Aside0.mk (blk_below (g := gb149) (o := .cells #[.string t146, .string t150] 28 (0, 0)) (by (with_reducible repeat (first | refine blk_drewN ?_ _ | refine blk_drew ?_ | refine blk_alloc ?_ _)); exact BK149.out) hb)
              have n3_ := Aside0.mk (below_step (by repeat (first | (with_reducible first | exact HB.out | apply below_alloc | apply pw_below_drewN | apply below_drew1 | refine below_set ?_ (IsS88.ge HI145.out) | refine below_set ?_ GE142.out | refine below_set ?_ GE149.out) | exact HB.out)) hb)
              clear BK142
              clear HI145
              clear BK149
              clear HB
              have BK142 := n0_
              have HI145 := n1_
              have BK149 := n2_
              have HB := n3_
              clear n0_ n1_ n2_ n3_
              (try clear hb)
              (try clear hb2)
              (try clear hk)
              (try clear hi)
              refine hK.out _ _ ⟨(blk_cell BK149.out 0).trans rfl, (blk_cell BK149.out 1).trans rfl⟩ (fun hHeld => ?_)
              clear hK K
              refine norm_ (a' := ?_) ?_ ?_
              rotate_left
              · show Act.put _ (some 34) _ = _
                simp only [Act.put, List.setIfInBounds_toArray, List.set_cons_zero, List.set_cons_succ, i64_w, i32_w]
                rfl
              refine pure_ (i := 5) (N := some 35) (v := ?_) (a' := ?_) #[true, true, true, true, true, true] rfl rfl (by kernel_rfl) (fun _ _ _ h => h) (Or.inl ⟨by rfl, ?_⟩) ?_ ?_
              rotate_left
              · intro w'
                go_simp
                with_reducible rfl
              rotate_left
              · simp only [Act.put, List.setIfInBounds_toArray, List.set_cons_zero, List.set_cons_succ, i64_w, i32_w]
                rfl
              refine done_ (by kernel_rfl) ?_
              have hcz60_0 : w59.cell? ⟨gb149, 0, none⟩ = some (.string t146) := (blk_cell BK149.out 0).trans rfl
              have hcz60_1 : w59.cell? ⟨gb149, 1, none⟩ = some (.string t150) := (blk_cell BK149.out 1).trans rfl
              have hfz60_0 := blk_frozen BK149.out 0
              have hfz60_1 := blk_frozen BK149.out 1
              try go_wp2_with (first | ((with_reducible refine gate_callee (f := 13) rfl ?_); refine goesL_ (some 38) rfl rfl Tryd.func13 (by kernel_rfl) rfl #[.agg #[.string t146, .string t150]] rfl (by (try simp only [List.map_toArray, List.map_cons, List.map_nil]); first | done | rfl | (simp only [List.length_drop, List.length_take]; rfl)) ?_; (with_reducible refine (needle_Check.calls t146 t150 t160 _ A26.out).mono ?_); rintro e w61 ⟨rfl, hb⟩; refine ⟨_, rfl, ?_⟩; have n0_ := Aside0.mk (blk_below (g := gb142) (o := .cells #[.string (⟨#[]⟩ : ByteArray), .string (⟨#[]⟩ : ByteArray)] 28 (0, 0)) (by (with_reducible repeat (first | refine blk_drewN ?_ _ | refine blk_drew ?_ | refine blk_alloc ?_ _)); exact BK142.out) hb); have n1_ := Aside0.mk (IsS88.below (by repeat (first | (with_reducible first | exact HI145.out | apply IsS88.alloc | apply IsS88.drewN | apply IsS88.drew | apply IsS88.set_0 | apply IsS88.set_1 | refine IsS88.far ?_ NB145_142.out _ | refine IsS88.far ?_ NB145_149.out _) | exact HI145.out)) hb); have n2_ := Aside0.mk (blk_below (g := gb149) (o := .cells #[.string t146, .string t150] 28 (0, 0)) (by (with_reducible repeat (first | refine blk_drewN ?_ _ | refine blk_drew ?_ | refine blk_alloc ?_ _)); exact BK149.out) hb); have n3_ := Aside0.mk (below_step (by repeat (first | (with_reducible first | exact HB.out | apply below_alloc | apply pw_below_drewN | apply below_drew1 | refine below_set ?_ (IsS88.ge HI145.out) | refine below_set ?_ GE142.out | refine below_set ?_ GE149.out) | exact HB.out)) hb); clear BK142; clear HI145; clear BK149; clear HB; have BK142 := n0_; have HI145 := n1_; have BK149 := n2_; have HB := n3_; clear n0_ n1_ n2_ n3_; (try clear hb); (try clear hb2); (try clear hk); (try clear hi); have hnb62 := NB142_145.out; have hnc62 := NB145_142.out; have hcz63_0 : w61.cell? ⟨gb142, 0, none⟩ = some (.string (⟨#[]⟩ : ByteArray)) := (blk_cell BK142.out 0).trans rfl; have hcz63_1 : w61.cell? ⟨gb142, 1, none⟩ = some (.string (⟨#[]⟩ : ByteArray)) := (blk_cell BK142.out 1).trans rfl; have hfz63_0 := blk_frozen BK142.out 0; have hfz63_1 := blk_frozen BK142.out 1))
              refine bodyPost_ret (results_ctt rfl _ _ gb142 28 #[.string (⟨#[]⟩ : ByteArray), .string (⟨#[]⟩ : ByteArray)] (0, 0) _ rfl (by (with_reducible repeat (first | refine blk_drewN ?_ _ | refine blk_drew ?_ | refine blk_alloc ?_ _)); refine blk_put (cs := #[.string (⟨#[]⟩ : ByteArray), .string (⟨#[]⟩ : ByteArray)]) ?_ 1 _ rfl; (with_reducible repeat (first | refine blk_drewN ?_ _ | refine blk_drew ?_ | refine blk_alloc ?_ _)); refine blk_put (cs := #[.string (⟨#[]⟩ : ByteArray), .string (⟨#[]⟩ : ByteArray)]) ?_ 0 _ rfl; (with_reducible repeat (first | refine blk_drewN ?_ _ | refine blk_drew ?_ | refine blk_alloc ?_ _)); exact BK142.out) Tryd.underlying28 rfl (by kernel_rfl)) rfl ?_
              exact ⟨by first | rfl | (simp [errW_none, errW_some] <;> rfl) | (simp [*, errW_none, errW_some] <;> rfl), by repeat (first | (with_reducible first | exact HB.out | apply below_alloc | apply pw_below_drewN | apply below_drew1 | refine below_set ?_ (IsS88.ge HI145.out) | refine below_set ?_ GE142.out | refine below_set ?_ GE149.out) | exact HB.out)⟩
          · rw [if_neg c25] at H
            have c25b0 : ((t153.extract 0 32).toList == t159.toList) = false := beq_eq_false_iff_ne.mpr c25
            have c25b1 : ((t153.extract 0 32).toList != t159.toList) = true := bne_iff_ne.mpr c25
            simp only [Option.some.injEq, Prod.mk.injEq] at H
            obtain ⟨rfl, rfl, rfl, rfl⟩ := H
            go_enter Tryd.func15, Tryd.ntmps15
            try go_wp2_with (first | ((with_reducible refine gate_dst (N := 2) rfl ?_); refine box_event ?hg (N := 2) ?hd (cs := #[.string (⟨#[]⟩ : ByteArray), .string (⟨#[]⟩ : ByteArray)]) (t := 28) ?hr ?_; (case hd => rfl); (case hg => rfl); (case hr => first | (go_simp; done) | (go_simp; rfl)); intro gb142 hg w64 hbox hb; have n0_ := Aside0.mk (below_step (by repeat (first | (with_reducible first | exact HB.out | apply below_alloc | apply pw_below_drewN | apply below_drew1) | exact HB.out)) hb); have n1_ := Aside0.mk (hbox); have n2_ := Aside0.mk ((by rw [hg]; exact (below_size (by repeat (first | (with_reducible first | exact HB.out | apply below_alloc | apply pw_below_drewN | apply below_drew1) | exact HB.out))) : w.heap.size ≤ gb142)); have n3_ := Aside0.mk ((by rw [hg]; exact (below_size (by repeat (first | (with_reducible first | exact HB.out | apply below_alloc | apply pw_below_drewN | apply below_drew1) | exact HB.out))) : w.heap.size ≤ gb142)); clear HB; have HB := n0_; have BK142 := n1_; have GW142 := n2_; have GE142 := n3_; clear n0_ n1_ n2_ n3_; clear hb hbox hg) | ((with_reducible refine gate_callee (f := 35) rfl ?_); refine goesL_ (some 11) rfl rfl Tryd.func35 (by kernel_rfl) rfl #[.string a0] rfl (by (try simp only [List.map_toArray, List.map_cons, List.map_nil]); first | done | rfl | (simp only [List.length_drop, List.length_take]; rfl)) ?_; (with_reducible refine (pack_Read.calls a0 t143 t144 w _ ?side1 A2.out).mono ?_); (case side1 => repeat (first | (with_reducible first | exact HB.out | apply below_alloc | apply pw_below_drewN | apply below_drew1 | refine below_set ?_ GE142.out) | exact HB.out)); rintro e w65 ⟨g145, rfl, hi, hb, hb2⟩; refine ⟨_, rfl, ?_⟩; have n0_ := Aside0.mk (blk_below (g := gb142) (o := .cells #[.string (⟨#[]⟩ : ByteArray), .string (⟨#[]⟩ : ByteArray)] 28 (0, 0)) (by (with_reducible repeat (first | refine blk_drewN ?_ _ | refine blk_drew ?_ | refine blk_alloc ?_ _)); exact BK142.out) hb2); have n1_ := Aside0.mk (hb); have n2_ := Aside0.mk (hi); have n3_ := Aside0.mk (IsS88.ne_blk hi (blk_below (g := gb142) (o := .cells #[.string (⟨#[]⟩ : ByteArray), .string (⟨#[]⟩ : ByteArray)] 28 (0, 0)) (by (with_reducible repeat (first | refine blk_drewN ?_ _ | refine blk_drew ?_ | refine blk_alloc ?_ _)); exact BK142.out) hb2) (by decide)); have n4_ := Aside0.mk (Ne.symm (IsS88.ne_blk hi (blk_below (g := gb142) (o := .cells #[.string (⟨#[]⟩ : ByteArray), .string (⟨#[]⟩ : ByteArray)] 28 (0, 0)) (by (with_reducible repeat (first | refine blk_drewN ?_ _ | refine blk_drew ?_ | refine blk_alloc ?_ _)); exact BK142.out) hb2) (by decide))); clear BK142; clear HB; have BK142 := n0_; have HB := n1_; have HI145 := n2_; have NB145_142 := n3_; have NB142_145 := n4_; clear n0_ n1_ n2_ n3_ n4_; (try clear hb); (try clear hb2); (try clear hk); (try clear hi)) | ((with_reducible refine gate_callee (f := 36) rfl ?_); refine goesL_ (some 13) rfl rfl Tryd.func36 (by kernel_rfl) rfl #[.pointer (some ⟨g145, 0, none⟩)] rfl (by (try simp only [List.map_toArray, List.map_cons, List.map_nil]); first | done | rfl | (simp only [List.length_drop, List.length_take]; rfl)) ?_; (with_reducible refine (pack_Reader_Text.calls k g145 t143 t144 t146 t147 t148 w _ ?side1 ?side2 A3.out).mono ?_); (case side1 => repeat (first | (with_reducible first | exact HI145.out | apply IsS88.alloc | apply IsS88.drewN | apply IsS88.drew | apply IsS88.set_0 | apply IsS88.set_1 | refine IsS88.far ?_ NB145_142.out _) | exact HI145.out)); (case side2 => repeat (first | (with_reducible first | exact HB.out | apply below_alloc | apply pw_below_drewN | apply below_drew1 | refine below_set ?_ (IsS88.ge HI145.out) | refine below_set ?_ GE142.out) | exact HB.out)); rintro e w66 ⟨rfl, hi, hb, hk⟩; refine ⟨_, rfl, ?_⟩; have n0_ := Aside0.mk (KeepBut.blk hk (g' := gb142) (o := .cells #[.string (⟨#[]⟩ : ByteArray), .string (⟨#[]⟩ : ByteArray)] 28 (0, 0)) (by (with_reducible repeat (first | refine blk_drewN ?_ _ | refine blk_drew ?_ | refine blk_alloc ?_ _)); exact BK142.out) NB142_145.out (by simp)); have n1_ := Aside0.mk (hb); have n2_ := Aside0.mk (hi); clear BK142; clear HB; clear HI145; have BK142 := n0_; have HB := n1_; have HI145 := n2_; clear n0_ n1_ n2_; (try clear hb); (try clear hb2); (try clear hk); (try clear hi)) | ((with_reducible refine gate_dst (N := 6) rfl ?_); refine box_event ?hg (N := 6) ?hd (cs := #[.string (⟨#[]⟩ : ByteArray), .string (⟨#[]⟩ : ByteArray)]) (t := 28) ?hr ?_; (case hd => rfl); (case hg => rfl); (case hr => first | (go_simp; done) | (go_simp; rfl)); intro gb149 hg w67 hbox hb; have n0_ := Aside0.mk (blk_below (g := gb142) (o := .cells #[.string (⟨#[]⟩ : ByteArray), .string (⟨#[]⟩ : ByteArray)] 28 (0, 0)) (by (with_reducible repeat (first | refine blk_drewN ?_ _ | refine blk_drew ?_ | refine blk_alloc ?_ _)); exact BK142.out) hb); have n1_ := Aside0.mk (IsS88.below (by repeat (first | (with_reducible first | exact HI145.out | apply IsS88.alloc | apply IsS88.drewN | apply IsS88.drew | apply IsS88.set_0 | apply IsS88.set_1 | refine IsS88.far ?_ NB145_142.out _) | exact HI145.out)) hb); have n2_ := Aside0.mk (below_step (by repeat (first | (with_reducible first | exact HB.out | apply below_alloc | apply pw_below_drewN | apply below_drew1 | refine below_set ?_ (IsS88.ge HI145.out) | refine below_set ?_ GE142.out) | exact HB.out)) hb); have n3_ := Aside0.mk (hbox); have n4_ := Aside0.mk ((by rw [hg]; exact (below_size (by repeat (first | (with_reducible first | exact HB.out | apply below_alloc | apply pw_below_drewN | apply below_drew1 | refine below_set ?_ (IsS88.ge HI145.out) | refine below_set ?_ GE142.out) | exact HB.out))) : w.heap.size ≤ gb149)); have n5_ := Aside0.mk ((by rw [hg]; exact (below_size (by repeat (first | (with_reducible first | exact HB.out | apply below_alloc | apply pw_below_drewN | apply below_drew1 | refine below_set ?_ (IsS88.ge HI145.out) | refine below_set ?_ GE142.out) | exact HB.out))) : w.heap.size ≤ gb149)); have n6_ := Aside0.mk ((by rw [hg]; exact Nat.ne_of_lt (blk_lt (g := gb142) (o := .cells #[.string (⟨#[]⟩ : ByteArray), .string (⟨#[]⟩ : ByteArray)] 28 (0, 0)) (by (with_reducible repeat (first | refine blk_drewN ?_ _ | refine blk_drew ?_ | refine blk_alloc ?_ _)); exact BK142.out)) : gb142 ≠ gb149)); have n7_ := Aside0.mk ((by rw [hg]; exact Nat.ne_of_gt (blk_lt (g := gb142) (o := .cells #[.string (⟨#[]⟩ : ByteArray), .string (⟨#[]⟩ : ByteArray)] 28 (0, 0)) (by (with_reducible repeat (first | refine blk_drewN ?_ _ | refine blk_drew ?_ | refine blk_alloc ?_ _)); exact BK142.out)) : gb149 ≠ gb142)); have n8_ := Aside0.mk ((by rw [hg]; exact Nat.ne_of_lt (IsS88.lt (show IsS88 w _ g145 t147 t148 from by repeat (first | (with_reducible first | exact HI145.out | apply IsS88.alloc | apply IsS88.drewN | apply IsS88.drew | apply IsS88.set_0 | apply IsS88.set_1 | refine IsS88.far ?_ NB145_142.out _) | exact HI145.out))) : g145 ≠ gb149)); have n9_ := Aside0.mk ((by rw [hg]; exact Nat.ne_of_gt (IsS88.lt (show IsS88 w _ g145 t147 t148 from by repeat (first | (with_reducible first | exact HI145.out | apply IsS88.alloc | apply IsS88.drewN | apply IsS88.drew | apply IsS88.set_0 | apply IsS88.set_1 | refine IsS88.far ?_ NB145_142.out _) | exact HI145.out))) : gb149 ≠ g145)); clear BK142; clear HI145; clear HB; have BK142 := n0_; have HI145 := n1_; have HB := n2_; have BK149 := n3_; have GW149 := n4_; have GE149 := n5_; have NB142_149 := n6_; have NB149_142 := n7_; have NB145_149 := n8_; have NB149_145 := n9_; clear n0_ n1_ n2_ n3_ n4_ n5_ n6_ n7_ n8_ n9_; clear hb hbox hg; have hnb68 := NB149_142.out; have hnc68 := NB142_149.out; have hnb69 := NB149_145.out; have hnc69 := NB145_149.out; have hcz70_0 : w67.cell? ⟨gb149, 0, none⟩ = some (.string (⟨#[]⟩ : ByteArray)) := (blk_cell BK149.out 0).trans rfl; have hcz70_1 : w67.cell? ⟨gb149, 1, none⟩ = some (.string (⟨#[]⟩ : ByteArray)) := (blk_cell BK149.out 1).trans rfl; have hfz70_0 := blk_frozen BK149.out 0; have hfz70_1 := blk_frozen BK149.out 1) | ((with_reducible refine gate_callee (f := 36) rfl ?_); refine goesL_ (some 16) rfl rfl Tryd.func36 (by kernel_rfl) rfl #[.pointer (some ⟨g145, 0, none⟩)] rfl (by (try simp only [List.map_toArray, List.map_cons, List.map_nil]); first | done | rfl | (simp only [List.length_drop, List.length_take]; rfl)) ?_; (with_reducible refine (pack_Reader_Text.calls k g145 t147 t148 t150 t151 t152 w _ ?side1 ?side2 A4.out).mono ?_); (case side1 => repeat (first | (with_reducible first | exact HI145.out | apply IsS88.alloc | apply IsS88.drewN | apply IsS88.drew | apply IsS88.set_0 | apply IsS88.set_1 | refine IsS88.far ?_ NB145_142.out _ | refine IsS88.far ?_ NB145_149.out _) | exact HI145.out)); (case side2 => repeat (first | (with_reducible first | exact HB.out | apply below_alloc | apply pw_below_drewN | apply below_drew1 | refine below_set ?_ (IsS88.ge HI145.out) | refine below_set ?_ GE142.out | refine below_set ?_ GE149.out) | exact HB.out)); rintro e w71 ⟨rfl, hi, hb, hk⟩; refine ⟨_, rfl, ?_⟩; have n0_ := Aside0.mk (KeepBut.blk hk (g' := gb142) (o := .cells #[.string (⟨#[]⟩ : ByteArray), .string (⟨#[]⟩ : ByteArray)] 28 (0, 0)) (by (with_reducible repeat (first | refine blk_drewN ?_ _ | refine blk_drew ?_ | refine blk_alloc ?_ _)); refine blk_far ?_ NB142_149.out _; (with_reducible repeat (first | refine blk_drewN ?_ _ | refine blk_drew ?_ | refine blk_alloc ?_ _)); refine blk_far ?_ NB142_149.out _; (with_reducible repeat (first | refine blk_drewN ?_ _ | refine blk_drew ?_ | refine blk_alloc ?_ _)); exact BK142.out) NB142_145.out (by simp)); have n1_ := Aside0.mk (KeepBut.blk hk (g' := gb149) (o := .cells #[.string t146, .string (⟨#[]⟩ : ByteArray)] 28 (0, 0)) (by (with_reducible repeat (first | refine blk_drewN ?_ _ | refine blk_drew ?_ | refine blk_alloc ?_ _)); refine blk_put (cs := #[.string t146, .string (⟨#[]⟩ : ByteArray)]) ?_ 1 _ rfl; (with_reducible repeat (first | refine blk_drewN ?_ _ | refine blk_drew ?_ | refine blk_alloc ?_ _)); refine blk_put (cs := #[.string (⟨#[]⟩ : ByteArray), .string (⟨#[]⟩ : ByteArray)]) ?_ 0 _ rfl; (with_reducible repeat (first | refine blk_drewN ?_ _ | refine blk_drew ?_ | refine blk_alloc ?_ _)); exact BK149.out) NB149_145.out (by simp)); have n2_ := Aside0.mk (hb); have n3_ := Aside0.mk (hi); clear BK142; clear BK149; clear HB; clear HI145; have BK142 := n0_; have BK149 := n1_; have HB := n2_; have HI145 := n3_; clear n0_ n1_ n2_ n3_; (try clear hb); (try clear hb2); (try clear hk); (try clear hi); have hcz72_0 : w71.cell? ⟨gb149, 0, none⟩ = some (.string t146) := (blk_cell BK149.out 0).trans rfl; have hcz72_1 : w71.cell? ⟨gb149, 1, none⟩ = some (.string (⟨#[]⟩ : ByteArray)) := (blk_cell BK149.out 1).trans rfl; have hfz72_0 := blk_frozen BK149.out 0; have hfz72_1 := blk_frozen BK149.out 1) | ((with_reducible refine gate_callee (f := 37) rfl ?_); refine goesL_ (some 19) rfl rfl Tryd.func37 (by kernel_rfl) rfl #[.pointer (some ⟨g145, 0, none⟩)] rfl (by (try simp only [List.map_toArray, List.map_cons, List.map_nil]); first | done | rfl | (simp only [List.length_drop, List.length_take]; rfl)) ?_; (with_reducible refine (pack_Reader_Rest.calls g145 t151 t152 t153 t154 t155 w _ ?side1 ?side2 A5.out).mono ?_); (case side1 => repeat (first | (with_reducible first | exact HI145.out | apply IsS88.alloc | apply IsS88.drewN | apply IsS88.drew | apply IsS88.set_0 | apply IsS88.set_1 | refine IsS88.far ?_ NB145_142.out _ | refine IsS88.far ?_ NB145_149.out _) | exact HI145.out)); (case side2 => repeat (first | (with_reducible first | exact HB.out | apply below_alloc | apply pw_below_drewN | apply below_drew1 | refine below_set ?_ (IsS88.ge HI145.out) | refine below_set ?_ GE142.out | refine below_set ?_ GE149.out) | exact HB.out)); rintro e w73 ⟨rfl, hi, hb, hk⟩; refine ⟨_, rfl, ?_⟩; have n0_ := Aside0.mk (KeepBut.blk hk (g' := gb142) (o := .cells #[.string (⟨#[]⟩ : ByteArray), .string (⟨#[]⟩ : ByteArray)] 28 (0, 0)) (by (with_reducible repeat (first | refine blk_drewN ?_ _ | refine blk_drew ?_ | refine blk_alloc ?_ _)); refine blk_far ?_ NB142_149.out _; (with_reducible repeat (first | refine blk_drewN ?_ _ | refine blk_drew ?_ | refine blk_alloc ?_ _)); exact BK142.out) NB142_145.out (by simp)); have n1_ := Aside0.mk (KeepBut.blk hk (g' := gb149) (o := .cells #[.string t146, .string t150] 28 (0, 0)) (by (with_reducible repeat (first | refine blk_drewN ?_ _ | refine blk_drew ?_ | refine blk_alloc ?_ _)); refine blk_put (cs := #[.string t146, .string (⟨#[]⟩ : ByteArray)]) ?_ 1 _ rfl; (with_reducible repeat (first | refine blk_drewN ?_ _ | refine blk_drew ?_ | refine blk_alloc ?_ _)); exact BK149.out) NB149_145.out (by simp)); have n2_ := Aside0.mk (hb); have n3_ := Aside0.mk (hi); clear BK142; clear BK149; clear HB; clear HI145; have BK142 := n0_; have BK149 := n1_; have HB := n2_; have HI145 := n3_; clear n0_ n1_ n2_ n3_; (try clear hb); (try clear hb2); (try clear hk); (try clear hi)) | ((with_reducible refine gate_callee (f := 38) rfl ?_); refine goesL_ (some 21) rfl rfl Tryd.func38 (by kernel_rfl) rfl #[.pointer (some ⟨g145, 0, none⟩)] rfl (by (try simp only [List.map_toArray, List.map_cons, List.map_nil]); first | done | rfl | (simp only [List.length_drop, List.length_take]; rfl)) ?_; (with_reducible refine (pack_Reader_End.calls g145 t154 t155 t156 t157 t158 w _ ?side1 ?side2 A6.out).mono ?_); (case side1 => repeat (first | (with_reducible first | exact HI145.out | apply IsS88.alloc | apply IsS88.drewN | apply IsS88.drew | apply IsS88.set_0 | apply IsS88.set_1 | refine IsS88.far ?_ NB145_142.out _ | refine IsS88.far ?_ NB145_149.out _) | exact HI145.out)); (case side2 => repeat (first | (with_reducible first | exact HB.out | apply below_alloc | apply pw_below_drewN | apply below_drew1 | refine below_set ?_ (IsS88.ge HI145.out) | refine below_set ?_ GE142.out | refine below_set ?_ GE149.out) | exact HB.out)); rintro e w74 ⟨rfl, hi, hb, hk⟩; refine ⟨_, rfl, ?_⟩; have n0_ := Aside0.mk (KeepBut.blk hk (g' := gb142) (o := .cells #[.string (⟨#[]⟩ : ByteArray), .string (⟨#[]⟩ : ByteArray)] 28 (0, 0)) (by (with_reducible repeat (first | refine blk_drewN ?_ _ | refine blk_drew ?_ | refine blk_alloc ?_ _)); exact BK142.out) NB142_145.out (by simp)); have n1_ := Aside0.mk (KeepBut.blk hk (g' := gb149) (o := .cells #[.string t146, .string t150] 28 (0, 0)) (by (with_reducible repeat (first | refine blk_drewN ?_ _ | refine blk_drew ?_ | refine blk_alloc ?_ _)); exact BK149.out) NB149_145.out (by simp)); have n2_ := Aside0.mk (hb); have n3_ := Aside0.mk (hi); clear BK142; clear BK149; clear HB; clear HI145; have BK142 := n0_; have BK149 := n1_; have HB := n2_; have HI145 := n3_; clear n0_ n1_ n2_ n3_; (try clear hb); (try clear hb2); (try clear hk); (try clear hi)))
            have n0_ := Aside0.mk (blk_drew BK142.out)
            have n1_ := Aside0.mk (blk_drew BK149.out)
            have n2_ := Aside0.mk (IsS88.drew HI145.out)
            have n3_ := Aside0.mk (below_drew1 HB.out)
            clear BK142
            clear BK149
            clear HI145
            clear HB
            have BK142 := n0_
            have BK149 := n1_
            have HI145 := n2_
            have HB := n3_
            clear n0_ n1_ n2_ n3_
            refine start_ (n := 6) (S := fun w' => w'.cell? ⟨gb149, 0, none⟩ = some (.string t146) ∧ w'.cell? ⟨gb149, 1, none⟩ = some (.string t150)) (ds := []) #[false, false, false, false, false, false] (by kernel_rfl) rfl rfl ⟨(blk_cell BK149.out 0).trans rfl, (blk_cell BK149.out 1).trans rfl⟩ (fun hHeld => ?_)
            generalize w74.drew = w75 at BK142 BK149 HI145 HB hHeld ⊢
            refine pure_ (i := 0) (N := some 30) (v := ?_) (a' := ?_) #[true, false, false, false, false, false] rfl rfl (by kernel_rfl) (fun _ _ _ h => h) (Or.inl ⟨by rfl, ?_⟩) ?_ ?_
            rotate_left
            · intro w'
              go_simp
              with_reducible rfl
            rotate_left
            · simp only [Act.put, List.setIfInBounds_toArray, List.set_cons_zero, List.set_cons_succ, i64_w, i32_w]
              rfl
            refine pure_ (i := 1) (N := some 31) (v := ?_) (a' := ?_) #[true, true, false, false, false, false] rfl rfl (by kernel_rfl) (fun _ _ _ h => h) (Or.inl ⟨by rfl, ?_⟩) ?_ ?_
            rotate_left
            · intro w'
              go_simp
              with_reducible rfl
            rotate_left
            · simp only [Act.put, List.setIfInBounds_toArray, List.set_cons_zero, List.set_cons_succ, i64_w, i32_w]
              rfl
            refine pure_ (i := 2) (N := some 32) (v := ?_) (a' := ?_) #[true, true, true, false, false, false] rfl rfl (by kernel_rfl) (fun _ _ _ h => h) (Or.inl ⟨by rfl, ?_⟩) ?_ ?_
            rotate_left
            · intro w'
              go_simp
              with_reducible rfl
            rotate_left
            · simp only [Act.put, List.setIfInBounds_toArray, List.set_cons_zero, List.set_cons_succ, i64_w, i32_w]
              rfl
            refine take_ (i := 3) (N := some 33) (v := ?_) (a' := ?_) #[true, true, true, true, false, false] rfl rfl (by kernel_rfl) (fun _ _ _ h => h) (Or.inl ⟨by rfl, ?_⟩) hHeld ?_ ?_
            rotate_left
            · rintro w' ⟨s0, s1⟩
              go_simp
              with_reducible rfl
            rotate_left
            · simp only [Act.put, List.setIfInBounds_toArray, List.set_cons_zero, List.set_cons_succ, i64_w, i32_w]
              rfl
            refine one_ (i := 4) (N := some 34) #[true, true, true, true, true, false] rfl rfl (by kernel_rfl) (by decide) (fun K hK => ?_)
            refine goes_ Tryd.func29 (by kernel_rfl) rfl #[.string t150] (by rfl) rfl rfl (by (try simp only [List.map_toArray, List.map_cons, List.map_nil]); first | done | rfl | (simp only [List.length_drop, List.length_take]; rfl)) ?_
            with_reducible refine (digest_Sum.calls t150 t159 _ A24.out).mono ?_
            rintro e w76 ⟨rfl, hb⟩
            refine ⟨_, rfl, ?_⟩
            have n0_ := Aside0.mk (blk_below (g := gb142) (o := .cells #[.string (⟨#[]⟩ : ByteArray), .string (⟨#[]⟩ : ByteArray)] 28 (0, 0)) (by (with_reducible repeat (first | refine blk_drewN ?_ _ | refine blk_drew ?_ | refine blk_alloc ?_ _)); exact BK142.out) hb)
            have n1_ := Aside0.mk (IsS88.below (by repeat (first | (with_reducible first | exact HI145.out | apply IsS88.alloc | apply IsS88.drewN | apply IsS88.drew | apply IsS88.set_0 | apply IsS88.set_1 | refine IsS88.far ?_ NB145_142.out _ | refine IsS88.far ?_ NB145_149.out _) | exact HI145.out)) hb)
            have n2_ := Aside0.mk (blk_below (g := gb149) (o := .cells #[.string t146, .string t150] 28 (0, 0)) (by (with_reducible repeat (first | refine blk_drewN ?_ _ | refine blk_drew ?_ | refine blk_alloc ?_ _)); exact BK149.out) hb)
            have n3_ := Aside0.mk (below_step (by repeat (first | (with_reducible first | exact HB.out | apply below_alloc | apply pw_below_drewN | apply below_drew1 | refine below_set ?_ (IsS88.ge HI145.out) | refine below_set ?_ GE142.out | refine below_set ?_ GE149.out) | exact HB.out)) hb)
            clear BK142
            clear HI145
            clear BK149
            clear HB
            have BK142 := n0_
            have HI145 := n1_
            have BK149 := n2_
            have HB := n3_
            clear n0_ n1_ n2_ n3_
            (try clear hb)
            (try clear hb2)
            (try clear hk)
            (try clear hi)
            refine hK.out _ _ ⟨(blk_cell BK149.out 0).trans rfl, (blk_cell BK149.out 1).trans rfl⟩ (fun hHeld => ?_)
            clear hK K
            refine norm_ (a' := ?_) ?_ ?_
            rotate_left
            · show Act.put _ (some 34) _ = _
              simp only [Act.put, List.setIfInBounds_toArray, List.set_cons_zero, List.set_cons_succ, i64_w, i32_w]
              rfl
            refine pure_ (i := 5) (N := some 35) (v := ?_) (a' := ?_) #[true, true, true, true, true, true] rfl rfl (by kernel_rfl) (fun _ _ _ h => h) (Or.inl ⟨by rfl, ?_⟩) ?_ ?_
            rotate_left
            · intro w'
              go_simp
              with_reducible rfl
            rotate_left
            · simp only [Act.put, List.setIfInBounds_toArray, List.set_cons_zero, List.set_cons_succ, i64_w, i32_w]
              rfl
            refine done_ (by kernel_rfl) ?_
            have hnb77 := NB142_145.out
            have hnc77 := NB145_142.out
            have hcz78_0 : w76.cell? ⟨gb142, 0, none⟩ = some (.string (⟨#[]⟩ : ByteArray)) := (blk_cell BK142.out 0).trans rfl
            have hcz78_1 : w76.cell? ⟨gb142, 1, none⟩ = some (.string (⟨#[]⟩ : ByteArray)) := (blk_cell BK142.out 1).trans rfl
            have hfz78_0 := blk_frozen BK142.out 0
            have hfz78_1 := blk_frozen BK142.out 1
            try go_wp2
            refine bodyPost_ret (results_ctt rfl _ _ gb142 28 #[.string (⟨#[]⟩ : ByteArray), .string (⟨#[]⟩ : ByteArray)] (0, 0) _ rfl (by (with_reducible repeat (first | refine blk_drewN ?_ _ | refine blk_drew ?_ | refine blk_alloc ?_ _)); refine blk_put (cs := #[.string (⟨#[]⟩ : ByteArray), .string (⟨#[]⟩ : ByteArray)]) ?_ 1 _ rfl; (with_reducible repeat (first | refine blk_drewN ?_ _ | refine blk_drew ?_ | refine blk_alloc ?_ _)); refine blk_put (cs := #[.string (⟨#[]⟩ : ByteArray), .string (⟨#[]⟩ : ByteArray)]) ?_ 0 _ rfl; (with_reducible repeat (first | refine blk_drewN ?_ _ | refine blk_drew ?_ | refine blk_alloc ?_ _)); exact BK142.out) Tryd.underlying28 rfl (by kernel_rfl)) rfl ?_
            exact ⟨by first | rfl | (simp [errW_none, errW_some] <;> rfl) | (simp [*, errW_none, errW_some] <;> rfl), by repeat (first | (with_reducible first | exact HB.out | apply below_alloc | apply pw_below_drewN | apply below_drew1 | refine below_set ?_ (IsS88.ge HI145.out) | refine below_set ?_ GE142.out | refine below_set ?_ GE149.out) | exact HB.out)⟩
        · rw [if_neg c23] at H
          exact absurd H (by simp)
      · rw [if_neg c22] at H
        exact absurd H (by simp)
  · rw [if_neg c7] at H
    have c7b0 : (t156 == 0) = false := beq_eq_false_iff_ne.mpr c7
    have c7b1 : (t156 != 0) = true := bne_iff_ne.mpr c7
    simp only [Option.some.injEq, Prod.mk.injEq] at H
    obtain ⟨rfl, rfl, rfl, rfl⟩ := H
    go_enter Tryd.func15, Tryd.ntmps15
    go_wp2_with (first | ((with_reducible refine gate_dst (N := 2) rfl ?_); refine box_event ?hg (N := 2) ?hd (cs := #[.string (⟨#[]⟩ : ByteArray), .string (⟨#[]⟩ : ByteArray)]) (t := 28) ?hr ?_; (case hd => rfl); (case hg => rfl); (case hr => first | (go_simp; done) | (go_simp; rfl)); intro gb142 hg w79 hbox hb; have n0_ := Aside0.mk (below_step (by repeat (first | (with_reducible first | exact HB.out | apply below_alloc | apply pw_below_drewN | apply below_drew1) | exact HB.out)) hb); have n1_ := Aside0.mk (hbox); have n2_ := Aside0.mk ((by rw [hg]; exact (below_size (by repeat (first | (with_reducible first | exact HB.out | apply below_alloc | apply pw_below_drewN | apply below_drew1) | exact HB.out))) : w.heap.size ≤ gb142)); have n3_ := Aside0.mk ((by rw [hg]; exact (below_size (by repeat (first | (with_reducible first | exact HB.out | apply below_alloc | apply pw_below_drewN | apply below_drew1) | exact HB.out))) : w.heap.size ≤ gb142)); clear HB; have HB := n0_; have BK142 := n1_; have GW142 := n2_; have GE142 := n3_; clear n0_ n1_ n2_ n3_; clear hb hbox hg) | ((with_reducible refine gate_callee (f := 35) rfl ?_); refine goesL_ (some 11) rfl rfl Tryd.func35 (by kernel_rfl) rfl #[.string a0] rfl (by (try simp only [List.map_toArray, List.map_cons, List.map_nil]); first | done | rfl | (simp only [List.length_drop, List.length_take]; rfl)) ?_; (with_reducible refine (pack_Read.calls a0 t143 t144 w _ ?side1 A2.out).mono ?_); (case side1 => repeat (first | (with_reducible first | exact HB.out | apply below_alloc | apply pw_below_drewN | apply below_drew1 | refine below_set ?_ GE142.out) | exact HB.out)); rintro e w80 ⟨g145, rfl, hi, hb, hb2⟩; refine ⟨_, rfl, ?_⟩; have n0_ := Aside0.mk (blk_below (g := gb142) (o := .cells #[.string (⟨#[]⟩ : ByteArray), .string (⟨#[]⟩ : ByteArray)] 28 (0, 0)) (by (with_reducible repeat (first | refine blk_drewN ?_ _ | refine blk_drew ?_ | refine blk_alloc ?_ _)); exact BK142.out) hb2); have n1_ := Aside0.mk (hb); have n2_ := Aside0.mk (hi); have n3_ := Aside0.mk (IsS88.ne_blk hi (blk_below (g := gb142) (o := .cells #[.string (⟨#[]⟩ : ByteArray), .string (⟨#[]⟩ : ByteArray)] 28 (0, 0)) (by (with_reducible repeat (first | refine blk_drewN ?_ _ | refine blk_drew ?_ | refine blk_alloc ?_ _)); exact BK142.out) hb2) (by decide)); have n4_ := Aside0.mk (Ne.symm (IsS88.ne_blk hi (blk_below (g := gb142) (o := .cells #[.string (⟨#[]⟩ : ByteArray), .string (⟨#[]⟩ : ByteArray)] 28 (0, 0)) (by (with_reducible repeat (first | refine blk_drewN ?_ _ | refine blk_drew ?_ | refine blk_alloc ?_ _)); exact BK142.out) hb2) (by decide))); clear BK142; clear HB; have BK142 := n0_; have HB := n1_; have HI145 := n2_; have NB145_142 := n3_; have NB142_145 := n4_; clear n0_ n1_ n2_ n3_ n4_; (try clear hb); (try clear hb2); (try clear hk); (try clear hi)) | ((with_reducible refine gate_callee (f := 36) rfl ?_); refine goesL_ (some 13) rfl rfl Tryd.func36 (by kernel_rfl) rfl #[.pointer (some ⟨g145, 0, none⟩)] rfl (by (try simp only [List.map_toArray, List.map_cons, List.map_nil]); first | done | rfl | (simp only [List.length_drop, List.length_take]; rfl)) ?_; (with_reducible refine (pack_Reader_Text.calls k g145 t143 t144 t146 t147 t148 w _ ?side1 ?side2 A3.out).mono ?_); (case side1 => repeat (first | (with_reducible first | exact HI145.out | apply IsS88.alloc | apply IsS88.drewN | apply IsS88.drew | apply IsS88.set_0 | apply IsS88.set_1 | refine IsS88.far ?_ NB145_142.out _) | exact HI145.out)); (case side2 => repeat (first | (with_reducible first | exact HB.out | apply below_alloc | apply pw_below_drewN | apply below_drew1 | refine below_set ?_ (IsS88.ge HI145.out) | refine below_set ?_ GE142.out) | exact HB.out)); rintro e w81 ⟨rfl, hi, hb, hk⟩; refine ⟨_, rfl, ?_⟩; have n0_ := Aside0.mk (KeepBut.blk hk (g' := gb142) (o := .cells #[.string (⟨#[]⟩ : ByteArray), .string (⟨#[]⟩ : ByteArray)] 28 (0, 0)) (by (with_reducible repeat (first | refine blk_drewN ?_ _ | refine blk_drew ?_ | refine blk_alloc ?_ _)); exact BK142.out) NB142_145.out (by simp)); have n1_ := Aside0.mk (hb); have n2_ := Aside0.mk (hi); clear BK142; clear HB; clear HI145; have BK142 := n0_; have HB := n1_; have HI145 := n2_; clear n0_ n1_ n2_; (try clear hb); (try clear hb2); (try clear hk); (try clear hi)) | ((with_reducible refine gate_dst (N := 6) rfl ?_); refine box_event ?hg (N := 6) ?hd (cs := #[.string (⟨#[]⟩ : ByteArray), .string (⟨#[]⟩ : ByteArray)]) (t := 28) ?hr ?_; (case hd => rfl); (case hg => rfl); (case hr => first | (go_simp; done) | (go_simp; rfl)); intro gb149 hg w82 hbox hb; have n0_ := Aside0.mk (blk_below (g := gb142) (o := .cells #[.string (⟨#[]⟩ : ByteArray), .string (⟨#[]⟩ : ByteArray)] 28 (0, 0)) (by (with_reducible repeat (first | refine blk_drewN ?_ _ | refine blk_drew ?_ | refine blk_alloc ?_ _)); exact BK142.out) hb); have n1_ := Aside0.mk (IsS88.below (by repeat (first | (with_reducible first | exact HI145.out | apply IsS88.alloc | apply IsS88.drewN | apply IsS88.drew | apply IsS88.set_0 | apply IsS88.set_1 | refine IsS88.far ?_ NB145_142.out _) | exact HI145.out)) hb); have n2_ := Aside0.mk (below_step (by repeat (first | (with_reducible first | exact HB.out | apply below_alloc | apply pw_below_drewN | apply below_drew1 | refine below_set ?_ (IsS88.ge HI145.out) | refine below_set ?_ GE142.out) | exact HB.out)) hb); have n3_ := Aside0.mk (hbox); have n4_ := Aside0.mk ((by rw [hg]; exact (below_size (by repeat (first | (with_reducible first | exact HB.out | apply below_alloc | apply pw_below_drewN | apply below_drew1 | refine below_set ?_ (IsS88.ge HI145.out) | refine below_set ?_ GE142.out) | exact HB.out))) : w.heap.size ≤ gb149)); have n5_ := Aside0.mk ((by rw [hg]; exact (below_size (by repeat (first | (with_reducible first | exact HB.out | apply below_alloc | apply pw_below_drewN | apply below_drew1 | refine below_set ?_ (IsS88.ge HI145.out) | refine below_set ?_ GE142.out) | exact HB.out))) : w.heap.size ≤ gb149)); have n6_ := Aside0.mk ((by rw [hg]; exact Nat.ne_of_lt (blk_lt (g := gb142) (o := .cells #[.string (⟨#[]⟩ : ByteArray), .string (⟨#[]⟩ : ByteArray)] 28 (0, 0)) (by (with_reducible repeat (first | refine blk_drewN ?_ _ | refine blk_drew ?_ | refine blk_alloc ?_ _)); exact BK142.out)) : gb142 ≠ gb149)); have n7_ := Aside0.mk ((by rw [hg]; exact Nat.ne_of_gt (blk_lt (g := gb142) (o := .cells #[.string (⟨#[]⟩ : ByteArray), .string (⟨#[]⟩ : ByteArray)] 28 (0, 0)) (by (with_reducible repeat (first | refine blk_drewN ?_ _ | refine blk_drew ?_ | refine blk_alloc ?_ _)); exact BK142.out)) : gb149 ≠ gb142)); have n8_ := Aside0.mk ((by rw [hg]; exact Nat.ne_of_lt (IsS88.lt (show IsS88 w _ g145 t147 t148 from by repeat (first | (with_reducible first | exact HI145.out | apply IsS88.alloc | apply IsS88.drewN | apply IsS88.drew | apply IsS88.set_0 | apply IsS88.set_1 | refine IsS88.far ?_ NB145_142.out _) | exact HI145.out))) : g145 ≠ gb149)); have n9_ := Aside0.mk ((by rw [hg]; exact Nat.ne_of_gt (IsS88.lt (show IsS88 w _ g145 t147 t148 from by repeat (first | (with_reducible first | exact HI145.out | apply IsS88.alloc | apply IsS88.drewN | apply IsS88.drew | apply IsS88.set_0 | apply IsS88.set_1 | refine IsS88.far ?_ NB145_142.out _) | exact HI145.out))) : gb149 ≠ g145)); clear BK142; clear HI145; clear HB; have BK142 := n0_; have HI145 := n1_; have HB := n2_; have BK149 := n3_; have GW149 := n4_; have GE149 := n5_; have NB142_149 := n6_; have NB149_142 := n7_; have NB145_149 := n8_; have NB149_145 := n9_; clear n0_ n1_ n2_ n3_ n4_ n5_ n6_ n7_ n8_ n9_; clear hb hbox hg; have hnb83 := NB149_142.out; have hnc83 := NB142_149.out; have hnb84 := NB149_145.out; have hnc84 := NB145_149.out; have hcz85_0 : w82.cell? ⟨gb149, 0, none⟩ = some (.string (⟨#[]⟩ : ByteArray)) := (blk_cell BK149.out 0).trans rfl; have hcz85_1 : w82.cell? ⟨gb149, 1, none⟩ = some (.string (⟨#[]⟩ : ByteArray)) := (blk_cell BK149.out 1).trans rfl; have hfz85_0 := blk_frozen BK149.out 0; have hfz85_1 := blk_frozen BK149.out 1) | ((with_reducible refine gate_callee (f := 36) rfl ?_); refine goesL_ (some 16) rfl rfl Tryd.func36 (by kernel_rfl) rfl #[.pointer (some ⟨g145, 0, none⟩)] rfl (by (try simp only [List.map_toArray, List.map_cons, List.map_nil]); first | done | rfl | (simp only [List.length_drop, List.length_take]; rfl)) ?_; (with_reducible refine (pack_Reader_Text.calls k g145 t147 t148 t150 t151 t152 w _ ?side1 ?side2 A4.out).mono ?_); (case side1 => repeat (first | (with_reducible first | exact HI145.out | apply IsS88.alloc | apply IsS88.drewN | apply IsS88.drew | apply IsS88.set_0 | apply IsS88.set_1 | refine IsS88.far ?_ NB145_142.out _ | refine IsS88.far ?_ NB145_149.out _) | exact HI145.out)); (case side2 => repeat (first | (with_reducible first | exact HB.out | apply below_alloc | apply pw_below_drewN | apply below_drew1 | refine below_set ?_ (IsS88.ge HI145.out) | refine below_set ?_ GE142.out | refine below_set ?_ GE149.out) | exact HB.out)); rintro e w86 ⟨rfl, hi, hb, hk⟩; refine ⟨_, rfl, ?_⟩; have n0_ := Aside0.mk (KeepBut.blk hk (g' := gb142) (o := .cells #[.string (⟨#[]⟩ : ByteArray), .string (⟨#[]⟩ : ByteArray)] 28 (0, 0)) (by (with_reducible repeat (first | refine blk_drewN ?_ _ | refine blk_drew ?_ | refine blk_alloc ?_ _)); refine blk_far ?_ NB142_149.out _; (with_reducible repeat (first | refine blk_drewN ?_ _ | refine blk_drew ?_ | refine blk_alloc ?_ _)); refine blk_far ?_ NB142_149.out _; (with_reducible repeat (first | refine blk_drewN ?_ _ | refine blk_drew ?_ | refine blk_alloc ?_ _)); exact BK142.out) NB142_145.out (by simp)); have n1_ := Aside0.mk (KeepBut.blk hk (g' := gb149) (o := .cells #[.string t146, .string (⟨#[]⟩ : ByteArray)] 28 (0, 0)) (by (with_reducible repeat (first | refine blk_drewN ?_ _ | refine blk_drew ?_ | refine blk_alloc ?_ _)); refine blk_put (cs := #[.string t146, .string (⟨#[]⟩ : ByteArray)]) ?_ 1 _ rfl; (with_reducible repeat (first | refine blk_drewN ?_ _ | refine blk_drew ?_ | refine blk_alloc ?_ _)); refine blk_put (cs := #[.string (⟨#[]⟩ : ByteArray), .string (⟨#[]⟩ : ByteArray)]) ?_ 0 _ rfl; (with_reducible repeat (first | refine blk_drewN ?_ _ | refine blk_drew ?_ | refine blk_alloc ?_ _)); exact BK149.out) NB149_145.out (by simp)); have n2_ := Aside0.mk (hb); have n3_ := Aside0.mk (hi); clear BK142; clear BK149; clear HB; clear HI145; have BK142 := n0_; have BK149 := n1_; have HB := n2_; have HI145 := n3_; clear n0_ n1_ n2_ n3_; (try clear hb); (try clear hb2); (try clear hk); (try clear hi); have hcz87_0 : w86.cell? ⟨gb149, 0, none⟩ = some (.string t146) := (blk_cell BK149.out 0).trans rfl; have hcz87_1 : w86.cell? ⟨gb149, 1, none⟩ = some (.string (⟨#[]⟩ : ByteArray)) := (blk_cell BK149.out 1).trans rfl; have hfz87_0 := blk_frozen BK149.out 0; have hfz87_1 := blk_frozen BK149.out 1) | ((with_reducible refine gate_callee (f := 37) rfl ?_); refine goesL_ (some 19) rfl rfl Tryd.func37 (by kernel_rfl) rfl #[.pointer (some ⟨g145, 0, none⟩)] rfl (by (try simp only [List.map_toArray, List.map_cons, List.map_nil]); first | done | rfl | (simp only [List.length_drop, List.length_take]; rfl)) ?_; (with_reducible refine (pack_Reader_Rest.calls g145 t151 t152 t153 t154 t155 w _ ?side1 ?side2 A5.out).mono ?_); (case side1 => repeat (first | (with_reducible first | exact HI145.out | apply IsS88.alloc | apply IsS88.drewN | apply IsS88.drew | apply IsS88.set_0 | apply IsS88.set_1 | refine IsS88.far ?_ NB145_142.out _ | refine IsS88.far ?_ NB145_149.out _) | exact HI145.out)); (case side2 => repeat (first | (with_reducible first | exact HB.out | apply below_alloc | apply pw_below_drewN | apply below_drew1 | refine below_set ?_ (IsS88.ge HI145.out) | refine below_set ?_ GE142.out | refine below_set ?_ GE149.out) | exact HB.out)); rintro e w88 ⟨rfl, hi, hb, hk⟩; refine ⟨_, rfl, ?_⟩; have n0_ := Aside0.mk (KeepBut.blk hk (g' := gb142) (o := .cells #[.string (⟨#[]⟩ : ByteArray), .string (⟨#[]⟩ : ByteArray)] 28 (0, 0)) (by (with_reducible repeat (first | refine blk_drewN ?_ _ | refine blk_drew ?_ | refine blk_alloc ?_ _)); refine blk_far ?_ NB142_149.out _; (with_reducible repeat (first | refine blk_drewN ?_ _ | refine blk_drew ?_ | refine blk_alloc ?_ _)); exact BK142.out) NB142_145.out (by simp)); have n1_ := Aside0.mk (KeepBut.blk hk (g' := gb149) (o := .cells #[.string t146, .string t150] 28 (0, 0)) (by (with_reducible repeat (first | refine blk_drewN ?_ _ | refine blk_drew ?_ | refine blk_alloc ?_ _)); refine blk_put (cs := #[.string t146, .string (⟨#[]⟩ : ByteArray)]) ?_ 1 _ rfl; (with_reducible repeat (first | refine blk_drewN ?_ _ | refine blk_drew ?_ | refine blk_alloc ?_ _)); exact BK149.out) NB149_145.out (by simp)); have n2_ := Aside0.mk (hb); have n3_ := Aside0.mk (hi); clear BK142; clear BK149; clear HB; clear HI145; have BK142 := n0_; have BK149 := n1_; have HB := n2_; have HI145 := n3_; clear n0_ n1_ n2_ n3_; (try clear hb); (try clear hb2); (try clear hk); (try clear hi)) | ((with_reducible refine gate_callee (f := 38) rfl ?_); refine goesL_ (some 21) rfl rfl Tryd.func38 (by kernel_rfl) rfl #[.pointer (some ⟨g145, 0, none⟩)] rfl (by (try simp only [List.map_toArray, List.map_cons, List.map_nil]); first | done | rfl | (simp only [List.length_drop, List.length_take]; rfl)) ?_; (with_reducible refine (pack_Reader_End.calls g145 t154 t155 t156 t157 t158 w _ ?side1 ?side2 A6.out).mono ?_); (case side1 => repeat (first | (with_reducible first | exact HI145.out | apply IsS88.alloc | apply IsS88.drewN | apply IsS88.drew | apply IsS88.set_0 | apply IsS88.set_1 | refine IsS88.far ?_ NB145_142.out _ | refine IsS88.far ?_ NB145_149.out _) | exact HI145.out)); (case side2 => repeat (first | (with_reducible first | exact HB.out | apply below_alloc | apply pw_below_drewN | apply below_drew1 | refine below_set ?_ (IsS88.ge HI145.out) | refine below_set ?_ GE142.out | refine below_set ?_ GE149.out) | exact HB.out)); rintro e w89 ⟨rfl, hi, hb, hk⟩; refine ⟨_, rfl, ?_⟩; have n0_ := Aside0.mk (KeepBut.blk hk (g' := gb142) (o := .cells #[.string (⟨#[]⟩ : ByteArray), .string (⟨#[]⟩ : ByteArray)] 28 (0, 0)) (by (with_reducible repeat (first | refine blk_drewN ?_ _ | refine blk_drew ?_ | refine blk_alloc ?_ _)); exact BK142.out) NB142_145.out (by simp)); have n1_ := Aside0.mk (KeepBut.blk hk (g' := gb149) (o := .cells #[.string t146, .string t150] 28 (0, 0)) (by (with_reducible repeat (first | refine blk_drewN ?_ _ | refine blk_drew ?_ | refine blk_alloc ?_ _)); exact BK149.out) NB149_145.out (by simp)); have n2_ := Aside0.mk (hb); have n3_ := Aside0.mk (hi); clear BK142; clear BK149; clear HB; clear HI145; have BK142 := n0_; have BK149 := n1_; have HB := n2_; have HI145 := n3_; clear n0_ n1_ n2_ n3_; (try clear hb); (try clear hb2); (try clear hk); (try clear hi); have hnb90 := NB142_145.out; have hnc90 := NB145_142.out; have hcz91_0 : w89.cell? ⟨gb142, 0, none⟩ = some (.string (⟨#[]⟩ : ByteArray)) := (blk_cell BK142.out 0).trans rfl; have hcz91_1 : w89.cell? ⟨gb142, 1, none⟩ = some (.string (⟨#[]⟩ : ByteArray)) := (blk_cell BK142.out 1).trans rfl; have hfz91_0 := blk_frozen BK142.out 0; have hfz91_1 := blk_frozen BK142.out 1))
    refine bodyPost_ret (results_ctt rfl _ _ gb142 28 #[.string (⟨#[]⟩ : ByteArray), .string (⟨#[]⟩ : ByteArray)] (0, 0) _ rfl (by (with_reducible repeat (first | refine blk_drewN ?_ _ | refine blk_drew ?_ | refine blk_alloc ?_ _)); refine blk_put (cs := #[.string (⟨#[]⟩ : ByteArray), .string (⟨#[]⟩ : ByteArray)]) ?_ 1 _ rfl; (with_reducible repeat (first | refine blk_drewN ?_ _ | refine blk_drew ?_ | refine blk_alloc ?_ _)); refine blk_put (cs := #[.string (⟨#[]⟩ : ByteArray), .string (⟨#[]⟩ : ByteArray)]) ?_ 0 _ rfl; (with_reducible repeat (first | refine blk_drewN ?_ _ | refine blk_drew ?_ | refine blk_alloc ?_ _)); exact BK142.out) Tryd.underlying28 rfl (by kernel_rfl)) rfl ?_
    exact ⟨by first | rfl | (simp [errW_none, errW_some] <;> rfl) | (simp [*, errW_none, errW_some] <;> rfl), by repeat (first | (with_reducible first | exact HB.out | apply below_alloc | apply pw_below_drewN | apply below_drew1 | refine below_set ?_ (IsS88.ge HI145.out) | refine below_set ?_ GE142.out | refine below_set ?_ GE149.out) | exact HB.out)⟩
end Go.Proofs.YtpgfafpjfdbjmaaDoor.Q
end
section
namespace Go.Proofs.YtpgfafpjfdbjmaaDoor.Q
end Go.Proofs.YtpgfafpjfdbjmaaDoor.Q
end
section
namespace Go.Proofs.YtpgfafpjfdbjmaaDoor
open Go.RowKit Go.Maps Q Go.Proofs.YtpgfafpjfdbjmaaDoorW.PrintWords Go.Proofs.YtpgfafpjfdbjmaaDoorW.PrintLast
def keyN (l : List UInt8) : Bool := l.all plainB && (decide (1 ≤ l.length) && decide (l.length ≤ 32))
theorem chkN_key (k v : List UInt8) : chkN k v = if keyN k = true then (if 384 < (txt k).length + (txt v).length + 32 then 12 else 0) else 11 := by
  unfold chkN keyN
  by_cases h0 : k = []
  · subst h0; rfl
  · have h1 : 1 ≤ k.length := by cases k with
      | nil => exact absurd rfl h0
      | cons a l => simp
    by_cases h2 : 32 < k.length
    · rw [if_pos (.inr (.inl h2)), if_neg]
      rw [decide_eq_false (p := k.length ≤ 32) (by omega)]; simp
    · cases h3 : k.all plainB with
      | false => rw [if_pos (.inr (.inr rfl)), if_neg (by simp)]
      | true =>
        rw [if_neg (by rintro (h | h | h); exact h0 h; exact h2 h; cases h), if_pos (c := _ = true)]
        rw [decide_eq_true h1, decide_eq_true (by omega : k.length ≤ 32)]; rfl
theorem nbt_at (l : List UInt8) (i : Nat) (h : i < l.length) : bt (B l) (i : Int) = ((l[i]).toNat : Int) := by
  rw [bt_B, List.getD, List.getElem?_eq_getElem h]
  rfl
theorem nwrap_k (i : Nat) (h : i ≤ 140737488355328) : wrap64 ((i : Int) + 1) = ((i + 1 : Nat) : Int) := by unfold wrap64; omega
theorem nite_b (c : Prop) [Decidable c] (x : Bool) : (if c then some x else some false) = some (decide c && x) := by
  by_cases h : c
  · rw [if_pos h, decide_eq_true h]; rfl
  · rw [if_neg h, decide_eq_false h]; rfl
theorem nkey_loop (l : List UInt8) (hl : l.length ≤ 140737488355328) (d : Nat) : ∀ (i k : Nat), l.length - i = d → i ≤ l.length → d < k → sluicegateref08_Key.l0 k (B l) (i : Int) = some ((l.drop i).all plainB && (decide (1 ≤ l.length) && decide (l.length ≤ 32))) := by
  induction d with
  | zero =>
    intro i k hd hi hk
    obtain ⟨k, rfl⟩ : ∃ m, k = m + 1 := ⟨k - 1, by omega⟩
    simp only [sluicegateref08_Key.l0]
    rw [B_size, if_neg (by omega), List.drop_of_length_le (by omega), nite_b]
    simp only [List.all_nil, Bool.true_and, Option.some.injEq]
    congr 1
    · simp; omega
    · simp; omega
  | succ d ih =>
    intro i k hd hi hk
    obtain ⟨k, rfl⟩ : ∃ m, k = m + 1 := ⟨k - 1, by omega⟩
    have hlt : i < l.length := by omega
    simp only [sluicegateref08_Key.l0]
    rw [B_size, if_pos (by omega), if_pos (by omega), nbt_at l i hlt, nwrap_k i (by omega), ih (i + 1) k (by omega) (by omega) (by omega), List.drop_eq_getElem_cons hlt, List.all_cons]
    unfold plainB
    by_cases h1 : ((l[i].toNat : Int)) < 33
    · rw [if_pos h1, decide_eq_false (p := 33 ≤ l[i].toNat) (by omega)]; rfl
    · rw [if_neg h1, decide_eq_true (p := 33 ≤ l[i].toNat) (by omega)]
      by_cases h2 : ((l[i].toNat : Int)) > 126
      · rw [if_pos h2, decide_eq_false (p := l[i].toNat ≤ 126) (by omega)]; rfl
      · rw [if_neg h2, decide_eq_true (p := l[i].toNat ≤ 126) (by omega)]; rfl
theorem nkey_f (l : List UInt8) (hl : l.length ≤ 140737488355328) (k : Nat) (hk : l.length < k) : sluicegateref08_Key.f k (B l) = some (keyN l) := by
  unfold sluicegateref08_Key.f keyN
  exact nkey_loop l hl _ 0 k rfl (Nat.zero_le _) (by omega)
theorem nrchk_f (k v : List UInt8) (hk : k.length ≤ 140737488355328) (hv : v.length ≤ 140737488355328) (K : Nat) (hK : k.length + 20 ≤ K) : sluicegateref08_Check.f K (B k) (B v) = some (chkN k v) := by
  unfold sluicegateref08_Check.f
  rw [nkey_f k hk K (by omega), Option.bind_some, chkN_key]
  cases keyN k with
  | false => rfl
  | true =>
    rw [if_pos rfl, if_pos rfl, rtxt_f k K hk (by omega), Option.bind_some, rtxt_f v K hv (by omega), Option.bind_some, B_size, B_size]
    have h1 := txt_le k hk
    have h2 := txt_le v hv
    rw [sum32 _ _ (by omega) (by omega)]
    by_cases h : 384 < (txt k).length + (txt v).length + 32
    · rw [if_pos h, if_pos (by omega)]
    · rw [if_neg h, if_neg (by omega)]
def wrN (k v : List UInt8) : List UInt8 := txt k ++ txt v ++ SHA v
def wroteN (k v : List UInt8) : ByteArray × Int := if chkN k v = 0 then (B (wrN k v), 0) else (⟨#[]⟩, chkN k v)
theorem chkN_small {k v : List UInt8} (h : chkN k v = 0) : k.length ≤ 32 ∧ v.length ≤ 384 ∧ (wrN k v).length ≤ 384 ∧ k ≠ [] := by
  unfold chkN at h
  by_cases h1 : k = [] ∨ 32 < k.length ∨ k.all plainB = false
  · rw [if_pos h1] at h; cases h
  · rw [if_neg h1] at h
    by_cases h2 : 384 < (txt k).length + (txt v).length + 32
    · rw [if_pos h2] at h; cases h
    · have h3 : (txt v).length = (enc v.length).length + v.length := by unfold txt; rw [List.length_append]
      refine ⟨Nat.not_lt.1 fun h => h1 (.inr (.inl h)), by omega, ?_, fun h => h1 (.inl h)⟩
      unfold wrN
      rw [List.length_append, List.length_append, SHA_len]
      omega
theorem sumN_f (v : List UInt8) (hv : v.length ≤ 17592186044416) : digest_Sum.f (B v) = some (B (SHA v)) := by
  unfold digest_Sum.f
  rw [if_pos (by rw [B_size]; exact hv), B_data]
theorem chkN_f (k v : List UInt8) (hv : v.length ≤ 140737488355328) : needle_Check.f (B k) (B v) = some (chkN k v) := by
  unfold needle_Check.f
  rw [if_pos (by rw [B_size]; exact hv), B_data, B_data]
theorem nwrite_f (k v : List UInt8) (hk : k.length ≤ 17592186044416) (hv : v.length ≤ 17592186044416) (K : Nat) (hK : 20 ≤ K) : needle_Write.f K (B k) (B v) = some (wroteN k v) := by
  unfold needle_Write.f wroteN
  rw [chkN_f k v (by omega), Option.bind_some]
  by_cases h : chkN k v = 0
  · have h1 := txt_le k (by omega)
    have h2 := txt_le v (by omega)
    rw [if_pos h, if_pos h, text_f k K (by omega) hK, Option.bind_some, text_f v K (by omega) hK, Option.bind_some, if_pos (by rw [B_size, B_size]; omega), sumN_f v hv, Option.bind_some, B_append, if_pos (by rw [B_size, B_size, List.length_append, SHA_len]; omega), B_append]
    rfl
  · rw [if_neg h, if_neg h]
def rdN (m : List UInt8) : List UInt8 × List UInt8 × List UInt8 × Int :=
  if (tkT m).2.2 = 0 then
    (if (tkT (tkT m).2.1).2.2 = 0 then
      (if (tkT (tkT m).2.1).2.1.length < 32 then ([], [], [], 3)
       else if (tkT (tkT m).2.1).2.1.take 32 = SHA (tkT (tkT m).2.1).1 then
        (if chkN (tkT m).1 (tkT (tkT m).2.1).1 = 0 then ((tkT m).1, (tkT (tkT m).2.1).1, (tkT (tkT m).2.1).2.1.drop 32, 0) else ([], [], [], chkN (tkT m).1 (tkT (tkT m).2.1).1))
       else ([], [], [], 5))
     else ([], [], [], (tkT (tkT m).2.1).2.2))
  else ([], [], [], (tkT m).2.2)
theorem take32 (l : List UInt8) : (B l).extract 0 32 = B (l.take 32) := by
  rw [B_extract, List.drop_zero, Nat.sub_zero]
theorem drop32 (l : List UInt8) : (B l).extract 32 (B l).size = B (l.drop 32) := by
  rw [B_extract, B_size, List.take_of_length_le (by rw [List.length_drop]; exact Nat.le_refl _)]
theorem end_nil (e : Int) : pack_Reader_End.f (B []) e = some (e, B [], e) := by
  unfold pack_Reader_End.f
  rw [B_toList]
  rfl
theorem nread_f (m : List UInt8) (hm : m.length ≤ 17592186044416) (K : Nat) (hK : 21 ≤ K) : needle_Read.f K (B m) = some (B (rdN m).1, B (rdN m).2.1, B (rdN m).2.2.1, (rdN m).2.2.2) := by
  unfold needle_Read.f rdN
  rw [show pack_Read.f (B m) = some (B m, 0) from rfl, Option.bind_some]
  simp only
  rw [rtext_f m K (by omega) hK, Option.bind_some]
  have hle := tkT_le m
  have herr := tkT_err m
  generalize tkT m = t at hle herr ⊢
  obtain ⟨k, r, e⟩ := t
  simp only at hle herr ⊢
  rcases herr with he | he | he
  · subst he
    rw [if_pos rfl, rtext_f r K (by omega) hK, Option.bind_some]
    have hle2 := tkT_le r
    have herr2 := tkT_err r
    generalize tkT r = t2 at hle2 herr2 ⊢
    obtain ⟨v, r2, e2⟩ := t2
    simp only at hle2 herr2 ⊢
    rcases herr2 with he | he | he
    · subst he
      rw [if_pos rfl, show pack_Reader_Rest.f (B r2) 0 = some (B r2, B [], 0) from rfl, Option.bind_some, end_nil, Option.bind_some]
      simp only
      rw [if_pos trivial, B_size]
      by_cases h3 : r2.length < 32
      · rw [if_pos (by omega), if_pos h3]; rfl
      · rw [if_neg (by omega), if_neg h3, if_pos (by decide), if_pos (by omega), sumN_f v (by omega), Option.bind_some, take32, B_toList, B_toList]
        by_cases h4 : r2.take 32 = SHA v
        · rw [if_pos h4, if_pos h4, chkN_f k v (by omega), Option.bind_some]
          by_cases h5 : chkN k v = 0
          · have := drop32 r2
            rw [B_size] at this
            rw [if_pos h5, if_pos h5, this]
          · rw [if_neg h5, if_neg h5]; rfl
        · rw [if_neg h4, if_neg h4]; rfl
    · obtain ⟨rfl, rfl, rfl⟩ : v = [] ∧ r2 = [] ∧ e2 = 3 := by simpa using he
      rw [if_neg (by decide), show pack_Reader_Rest.f (B []) 3 = some (B [], B [], 3) from rfl, Option.bind_some, end_nil, Option.bind_some]
      rfl
    · obtain ⟨rfl, rfl, rfl⟩ : v = [] ∧ r2 = [] ∧ e2 = 4 := by simpa using he
      rw [if_neg (by decide), show pack_Reader_Rest.f (B []) 4 = some (B [], B [], 4) from rfl, Option.bind_some, end_nil, Option.bind_some]
      rfl
  · obtain ⟨rfl, rfl, rfl⟩ : k = [] ∧ r = [] ∧ e = 3 := by simpa using he
    rw [if_neg (by decide), rtext_err (B []) 3 K (by decide) (by omega), Option.bind_some, show pack_Reader_Rest.f (B []) 3 = some (B [], B [], 3) from rfl, Option.bind_some, end_nil, Option.bind_some]
    rfl
  · obtain ⟨rfl, rfl, rfl⟩ : k = [] ∧ r = [] ∧ e = 4 := by simpa using he
    rw [if_neg (by decide), rtext_err (B []) 4 K (by decide) (by omega), Option.bind_some, show pack_Reader_Rest.f (B []) 4 = some (B [], B [], 4) from rfl, Option.bind_some, end_nil, Option.bind_some]
    rfl
theorem rdN_wr (k v r : List UInt8) (h : chkN k v = 0) : rdN (wrN k v ++ r) = (k, v, r, 0) := by
  obtain ⟨hk, hv, _, _⟩ := chkN_small h
  have e1 : tkT (wrN k v ++ r) = (k, txt v ++ (SHA v ++ r), 0) := by
    unfold wrN
    rw [List.append_assoc, List.append_assoc]
    exact tkT_txt k _ (by omega)
  have e2 := tkT_txt v (SHA v ++ r) (by omega)
  unfold rdN
  rw [e1]
  simp only
  rw [e2]
  simp only
  have hl := SHA_len v
  rw [if_pos trivial, if_pos trivial, if_neg (by rw [List.length_append]; omega), List.take_append_of_le_length (by omega), List.take_of_length_le (by omega), if_pos rfl, if_pos h, List.drop_append_of_le_length (by omega), List.drop_of_length_le (by omega), List.nil_append]
theorem rdN_inv (m : List UInt8) (h : (rdN m).2.2.2 = 0) : m = wrN (rdN m).1 (rdN m).2.1 ++ (rdN m).2.2.1 ∧ chkN (rdN m).1 (rdN m).2.1 = 0 := by
  unfold rdN at h ⊢
  by_cases h1 : (tkT m).2.2 = 0
  · rw [if_pos h1] at h ⊢
    by_cases h2 : (tkT (tkT m).2.1).2.2 = 0
    · rw [if_pos h2] at h ⊢
      by_cases h3 : (tkT (tkT m).2.1).2.1.length < 32
      · rw [if_pos h3] at h; cases h
      · rw [if_neg h3] at h ⊢
        by_cases h4 : (tkT (tkT m).2.1).2.1.take 32 = SHA (tkT (tkT m).2.1).1
        · rw [if_pos h4] at h ⊢
          by_cases h5 : chkN (tkT m).1 (tkT (tkT m).2.1).1 = 0
          · rw [if_pos h5]
            refine ⟨?_, h5⟩
            have a1 := (tkT_inv (l := m) (s := (tkT m).1) (r := (tkT m).2.1) (by rw [← h1])).1
            have a2 := (tkT_inv (l := (tkT m).2.1) (s := (tkT (tkT m).2.1).1) (r := (tkT (tkT m).2.1).2.1) (by rw [← h2])).1
            simp only
            unfold wrN
            rw [← h4, List.append_assoc, List.append_assoc, List.take_append_drop, ← a2, ← a1]
          · rw [if_neg h5] at h; exact absurd h h5
        · rw [if_neg h4] at h; cases h
    · rw [if_neg h2] at h; exact absurd h h2
  · rw [if_neg h1] at h; exact absurd h h1
theorem wrN_len (k v : List UInt8) : 32 ≤ (wrN k v).length := by
  unfold wrN
  rw [List.length_append, SHA_len]
  omega
end Go.Proofs.YtpgfafpjfdbjmaaDoor
end
section
namespace Go.Proofs.YtpgfafpjfdbjmaaDoor
open Go.RowKit Go.Maps Q Go.Proofs.YtpgfafpjfdbjmaaDoorW.PrintWords Go.Proofs.YtpgfafpjfdbjmaaDoorW.PrintLast
theorem rdN_lt (m : List UInt8) (h : (rdN m).2.2.2 = 0) : (rdN m).2.2.1.length + 32 ≤ m.length := by
  have h1 := congrArg List.length (rdN_inv m h).1
  have h2 := wrN_len (rdN m).1 (rdN m).2.1
  rw [List.length_append] at h1
  omega
def allN (n : Nat) (l : List (List UInt8 × List UInt8)) (a : List Int) (m : List UInt8) : List (List UInt8 × List UInt8) × List Int × Int :=
  if m = [] then (l, a, 0)
  else if h : (rdN m).2.2.2 = 0 then allN n (l ++ [((rdN m).1, (rdN m).2.1)]) (a ++ [(n : Int) - m.length]) (rdN m).2.2.1
  else ([], [], (rdN m).2.2.2)
termination_by m.length
decreasing_by
  have := rdN_lt m h
  omega
theorem allN_nil (n : Nat) (l : List (List UInt8 × List UInt8)) (a : List Int) : allN n l a [] = (l, a, 0) := by rw [allN, if_pos rfl]
theorem allN_ok {n : Nat} {l : List (List UInt8 × List UInt8)} {a : List Int} {m : List UInt8} (h0 : m ≠ []) (h : (rdN m).2.2.2 = 0) : allN n l a m = allN n (l ++ [((rdN m).1, (rdN m).2.1)]) (a ++ [(n : Int) - m.length]) (rdN m).2.2.1 := by
  rw [allN, if_neg h0, dif_pos h]
theorem allN_bad {n : Nat} {l : List (List UInt8 × List UInt8)} {a : List Int} {m : List UInt8} (h0 : m ≠ []) (h : (rdN m).2.2.2 ≠ 0) : allN n l a m = ([], [], (rdN m).2.2.2) := by
  rw [allN, if_neg h0, dif_neg h]
end Go.Proofs.YtpgfafpjfdbjmaaDoor
end
section
namespace Go.Proofs.YtpgfafpjfdbjmaaDoor
open Go.RowKit
theorem wpIn_range_stops {F : Fence} {n : Nat} {P : Program} {α : Type} {g : Operand} {ps : Array Tmp} {assign body : Code} {Q : Exit → Act → World → Prop} {a : Act} {w : World} (hro : F.round = none) (h1 : 1 ≤ n) {gf : Nat} {lb : Array Value} (hg : a.eval g = .func (.func gf) #[] lb) (hFg : F.fn gf) (eg : ∀ args w, (callFunc gf args).run P w = .ok (.enter gf args) w)
    {encs : α → Array Value} (V : α → World → Prop) (stp : α → Prop) (S Sp : List α → Prop) (N n₀ : Nat) (Bx : World → Prop) (hn₀ : n₀ ≤ w.heap.size) (hps : ∀ x, (encs x).size = ps.size)
    (hseq : ∀ (l : Nat) (J Jx : List α → World → Prop) (W : World), Below w.heap.size w W → (∀ s A B, J s A → A.grownBy B none → J s B) → (∀ s A B, Jx s A → A.grownBy B none → Jx s B) → (∀ s A, J s A → Bx A) →
      (∀ pre x W1, J pre W1 → V x W1 → pre.length < N → YieldAt F (n - 1 - 1) P l (encs x) W1 fun e W' => (e = .returned (.bool true) ∧ ¬ stp x ∧ J (pre ++ [x]) W' ∧ Below n₀ W1 W') ∨ (e = .returned (.bool false) ∧ stp x ∧ Jx (pre ++ [x]) W' ∧ Below n₀ W1 W')) → J [] W →
      CallsIn F (n - 1) P gf (#[.func (.yield l) #[] #[]] ++ lb) W fun e W' => (∃ v, e = .returned v) ∧ ((∃ xs, S xs ∧ J xs W') ∨ (∃ xs, Sp xs ∧ Jx xs W')))
    (I Ix : List α → World → Prop) (hI : OwnFrom w.heap.size I) (hIx : OwnFrom w.heap.size Ix) (hBx : ∀ s A, I s A → Bx A) (h0 : I [] w) (Ax : List α → α → Act → World → Prop) (hAx : ∀ pre x a', OwnFrom w.heap.size (fun (_ : Unit) W => Ax pre x a' W))
    (hassign : ∀ (l : Nat) (pre : List α) (x : α) (W : World) (K : Act → World → Prop), I pre W → V x W → pre.length < N → (∀ a' W', KeepsFrom w.heap.size W W' → Below n₀ W W' → Ax pre x a' W' → K a' W') →
      assign.wpIn (F.inRound l) (n - 1 - 1) P (Exit.then K (fun _ _ _ => False)) { tmps := (ps.zip (encs x)).foldl (fun t (p, v) => t.setIfInBounds p v) a.tmps, defers := [] } W)
    (hbody : ∀ (l : Nat) (pre : List α) (x : α) (a' : Act) (W : World), Ax pre x a' W → body.wpIn (F.inRound l) (n - 1 - 1) P (fun e _ W' => KeepsFrom w.heap.size W W' ∧ Below n₀ W W' ∧ ((e = .normal ∧ ¬ stp x ∧ I (pre ++ [x]) W') ∨ (e = .ret ∧ stp x ∧ Ix (pre ++ [x]) W'))) a' W)
    (hdone : ∀ (D : Nat) (xs : List α) (W : World), w.heap.size ≤ D → S xs → I xs W → W.heap[D]? = some (.deferred (some [])) → Q .normal { a with defers := { target := .collected D, args := #[] } :: a.defers } W)
    (hleft : ∀ (D : Nat) (xs : List α) (W : World), w.heap.size ≤ D → Sp xs → Ix xs W → W.heap[D]? = some (.deferred (some [])) → Q .ret { a with defers := { target := .collected D, args := #[] } :: a.defers } W) :
    (Code.rangeFunc g ps assign body).wpIn F n P Q a w := by
  refine wpIn_rangeFunc fun fn hfn => ?_
  rw [hro]
  obtain ⟨mk, hmk⟩ : ∃ mk : LoopState → Option Code → Loop, mk = fun st pe => { state := st, pending := pe, fn, tmps := a.tmps, params := ps, assign, body, defers := w.heap.size } := ⟨_, rfl⟩
  obtain ⟨W1, hW1⟩ : ∃ W1, (w.alloc (.deferred (some []))).alloc (.loop (mk .ready none)) = W1 := ⟨_, rfl⟩
  have hL1 : W1.heap[w.heap.size + 1]? = some (.loop (mk .ready none)) := by
    have := World.alloc_heap_new (w.alloc (.deferred (some []))) (.loop (mk .ready none))
    rwa [World.size_alloc, hW1] at this
  have hD1 : W1.heap[w.heap.size]? = some (.deferred (some [])) := by
    rw [← hW1]
    exact (Below.heap_alloc _ _ _ (by simp)).trans (World.alloc_heap_new w _)
  have hI1 : I [] W1 := by rw [← hW1]; exact hI.alloc _ (hI.alloc _ h0)
  have hB1 : Below w.heap.size w W1 := by rw [← hW1]; exact ((Below.refl _ w).alloc (Nat.le_refl _) _).alloc (by simp) _
  refine ⟨w.heap.size + 1, [{ target := .collected w.heap.size, args := #[] }], W1, { target := .fn (.func gf) lb, args := #[.func (.yield (w.heap.size + 1)) #[] #[]] }, W1, gf, #[.func (.yield (w.heap.size + 1)) #[] #[]] ++ lb, W1, ?_, ?_, ?_, ?_, fun _ => h1, ?_⟩
  · rw [← hW1, hmk]
    exact run_enterLoop_outer _ _ _ _ _
  · simp only [resolve, hg]
    simp [go_sem]
  · intro f' hf'
    simp [Target.leads] at hf'
    subst hf'
    exact hFg
  · simp [invoke, go_sem, eg]
  · refine (hseq (w.heap.size + 1) (fun pre W => I pre W ∧ W.heap[w.heap.size + 1]? = some (.loop (mk .ready none)) ∧ W.heap[w.heap.size]? = some (.deferred (some []))) (fun pre W => Ix pre W ∧ W.heap[w.heap.size + 1]? = some (.loop (mk .done (some .ret))) ∧ W.heap[w.heap.size]? = some (.deferred (some []))) W1 hB1 ?_ ?_ (fun s A h => hBx s A h.1) ?_ ⟨hI1, hL1, hD1⟩).mono ?_
    · rintro s A B ⟨hi, hl, hd⟩ hgr
      exact ⟨hI s A B none hi hgr (fun r e => by cases e), (hgr.block _ (Array.getElem?_eq_some_iff.1 hl).1 (by simp)).trans hl, (hgr.block _ (Array.getElem?_eq_some_iff.1 hd).1 (by simp)).trans hd⟩
    · rintro s A B ⟨hi, hl, hd⟩ hgr
      exact ⟨hIx s A B none hi hgr (fun r e => by cases e), (hgr.block _ (Array.getElem?_eq_some_iff.1 hl).1 (by simp)).trans hl, (hgr.block _ (Array.getElem?_eq_some_iff.1 hd).1 (by simp)).trans hd⟩
    · rintro pre x W ⟨hi, hl, hd⟩ hv hN
      have hy := run_yield (P := P) (args := encs x) hl (by rw [hmk]; exact hps x)
      rw [hmk] at hy
      refine ⟨fn, _, assign, body, hy, roundIn_of_wpIn hfn (hassign _ pre x W _ hi hv hN ?_)⟩
      clear hy
      intro a' Wa hk hb hax
      have hla := hk.same _ _ (by omega) hl rfl
      have hda := hk.same _ _ (Nat.le_refl _) hd rfl
      have hlt : w.heap.size + 1 < Wa.heap.size := (Array.getElem?_eq_some_iff.1 hla).1
      refine ⟨_, run_beginRound hla (by rw [hmk]), ?_⟩
      have hl2 : (Wa.putObj (w.heap.size + 1) (.loop { mk .ready none with state := .busy })).heap[w.heap.size + 1]? = some (.loop { mk .ready none with state := .busy }) := World.putObj_heap_same hlt
      have hd2 : (Wa.putObj (w.heap.size + 1) (.loop { mk .ready none with state := .busy })).heap[w.heap.size]? = some (.deferred (some [])) := (World.putObj_heap_other (by omega)).trans hda
      have hb2 := belowK_b (w := w) hn₀ Wa (w.heap.size + 1) _ (.loop { mk .ready none with state := .busy }) (by omega) hla rfl rfl
      refine wpIn_mono (hbody _ pre x a' _ ((hAx pre x a').putObj (s := ()) _ hax (by omega) hla rfl)) ?_
      rintro e a3 W3 ⟨hk3, hb3, hend⟩
      have hl3 := hk3.same _ _ (by omega) hl2 rfl
      have hd3 := hk3.same _ _ (Nat.le_refl _) hd2 rfl
      rcases hend with ⟨rfl, hx, hi3⟩ | ⟨rfl, hx, hi3⟩
      · have hr := run_endRound (P := P) none hl3
        rw [hmk] at hr hl3
        refine ⟨_, _, hr, .inl ⟨rfl, hx, ⟨hI.putObj _ hi3 (by omega) hl3 rfl, ?_, (World.putObj_heap_other (by omega)).trans hd3⟩, ?_⟩⟩
        · rw [hmk]
          exact World.putObj_heap_same (Array.getElem?_eq_some_iff.1 hl3).1
        · exact (hb.trans (hb2.trans hb3)).trans (belowK_b (w := w) hn₀ W3 (w.heap.size + 1) _ _ (by omega) hl3 rfl rfl)
      · have hr := run_endRound (P := P) (some .ret) hl3
        rw [hmk] at hr hl3
        refine ⟨_, _, hr, .inr ⟨rfl, hx, ⟨hIx.putObj _ hi3 (by omega) hl3 rfl, ?_, (World.putObj_heap_other (by omega)).trans hd3⟩, ?_⟩⟩
        · rw [hmk]
          exact World.putObj_heap_same (Array.getElem?_eq_some_iff.1 hl3).1
        · exact (hb.trans (hb2.trans hb3)).trans (belowK_b (w := w) hn₀ W3 (w.heap.size + 1) _ _ (by omega) hl3 rfl rfl)
    · rintro e W2 ⟨⟨v, rfl⟩, ⟨xs, hS, hi, hl, hd⟩ | ⟨xs, hS, hi, hl, hd⟩⟩
      · have hr := run_endLoop (P := P) hl (by rw [hmk]; simp)
        rw [hmk] at hr
        exact ⟨none, _, hr, hdone _ xs _ (Nat.le_refl _) hS (hI.putObj _ hi (by omega) hl rfl) ((World.putObj_heap_other (by omega)).trans hd)⟩
      · have hr := run_endLoop (P := P) hl (by rw [hmk]; simp)
        rw [hmk] at hr
        exact ⟨some .ret, _, hr, wpIn_ret (hleft _ xs _ (Nat.le_refl _) hS (hIx.putObj _ hi (by omega) hl rfl) ((World.putObj_heap_other (by omega)).trans hd))⟩
end Go.Proofs.YtpgfafpjfdbjmaaDoor
end
section
namespace Go.Proofs.YtpgfafpjfdbjmaaDoor
open Go.RowKit Go.Proofs.YtpgfafpjfdbjmaaDoorW.PrintLast
section
variable {P : Program} {ops : Array Oper} {Q : Exit → Act → World → Prop} {md : Region.Mode} {l n : Nat}
theorem rows_round {row : String} {args : Array Value} {w : World} {R : Value → World → Prop} (h : Rows P row args w R) : RowsIn (Fence.wide.inRound l) n P row args w R := by
  intro c cs _
  obtain ⟨v, w', r, s⟩ := h c cs
  exact ⟨v, w', r, stepsIn_wide.2 s⟩
theorem wp_round {o : Oper} (hd : ∀ c, o.op ≠ .defer c) {a : Act} {w : World} {K : Act → World → Prop} (h : o.wp P a w K Q) : o.wpIn (Fence.wide.inRound l) n P a w K Q := by
  refine ⟨fun _ _ => trivial, ?_⟩
  rw [Oper.semAt_eq _ _ _ hd]
  unfold Oper.wp at h
  cases hr : (execOp a.eval o).run P w with
  | ok x w' =>
    rw [hr] at h
    cases x with
    | value v => exact h
    | skip => exact h
    | defer d => exact h
    | enter f args => exact ⟨(fun hh => by cases hh), CallsIn.inRound l (callsIn_wide.2 h)⟩
    | row r args => exact ⟨(fun hh => by cases hh), rows_round h⟩
    | round _ _ _ _ _ => exact h.elim
    | _ => exact h.elim
  | halt x w' =>
    rw [hr] at h
    cases x <;> exact h
theorem wpOp_round (hd : ∀ (i : Nat) (o : Oper) c, ops[i]? = some o → o.op ≠ .defer c) (hL : ¬ LetsOut Q) {i : Nat} {K : Act → World → Prop} {a : Act} {w : World} (h : wpOp P ops Q i K a w) : wpOpIn (Fence.wide.inRound l) n P ops Q i K a w := by
  unfold wpOp at h
  unfold wpOpIn
  cases ho : ops[i]? with
  | none =>
    rw [ho] at h
    exact h
  | some o =>
    rw [ho] at h
    simp only at h ⊢
    by_cases hw : Region.wanted o (yielded ops a.tmps) = true
    · rw [if_pos hw] at h ⊢
      rcases h with h | h
      · exact wp_round (fun c => hd i o c ho) h
      · exact absurd h.2 hL
    · rw [if_neg hw] at h ⊢
      exact ⟨fun _ _ => trivial, h⟩
theorem any_round (hd : ∀ (i : Nat) (o : Oper) c, ops[i]? = some o → o.op ≠ .defer c) (hL : ¬ LetsOut Q) : ∀ (fuel : Nat) (listed : Array Bool) (a : Act) (w : World), wpAny P md ops Q fuel listed a w → wpAnyIn (Fence.wide.inRound l) n P md ops Q fuel listed a w
  | 0, _, _, _, h => h
  | fuel + 1, _, _, _, h => ⟨h.1, fun i hi => wpOpIn_mono (fun a' w' h' => any_round hd hL fuel _ a' w' h') (wpOp_round hd hL (h.2 i hi))⟩
def noDefer (o : Oper) : Bool := match o.op with
  | .defer _ => false
  | _ => true
theorem startIn_ {S : World → Prop} {ds : List Nat} {id m : Nat} {a : Act} {w : World} (hd : ops.toList.all noDefer = true) (hL : ¬ LetsOut Q) (lit : Array Bool) (hm : P.follows .mixedOrders = true) (hn : ops.size = m) (hl : Array.replicate m false = lit) (hS : S w.drew)
    (h : S w.drew → wpAnyLast P .any ops Q S ds m lit a w.drew) : (Code.region id ops true).wpIn (Fence.wide.inRound l) n P Q a w := by
  subst hn
  subst hl
  refine wpIn_region_any hm (any_round (fun i o c hi hc => ?_) hL _ _ _ _ (wpAny_of_last _ _ _ _ (h hS)))
  have h1 := List.all_eq_true.1 hd o (by
    rw [← Array.getElem?_toList] at hi
    exact List.mem_of_getElem? hi)
  unfold noDefer at h1
  rw [hc] at h1
  cases h1
end
end Go.Proofs.YtpgfafpjfdbjmaaDoor
end
section
namespace Go.Proofs.YtpgfafpjfdbjmaaDoor
open Go.RowKit Q Go.Proofs.YtpgfafpjfdbjmaaDoorW.PrintWords Go.Proofs.YtpgfafpjfdbjmaaDoorW.PrintLast Go.Proofs.YtpgfafpjfdbjmaaDoorW.PrintMore
attribute [local go_sem] Oper.semAt_some
theorem nskip_none {F : Fence} {p : Prop} (h : p) : (∀ f : FuncId, (none : Option FuncId) = some f → F.fn f) ∧ p := ⟨(fun _ hf => by cases hf), h⟩
theorem ngrown_of {w w' : World} (b : Below w.heap.size w w') : w.grownBy w' none := ⟨b.os, b.tape, b.output, b.size, fun k hk _ => b.block k hk⟩
structure It where
  k : List UInt8
  v : List UInt8
  at_ : Int
  e : Int
def itV (x : It) : Value := .agg #[.string (B x.k), .string (B x.v), .int .i64 x.at_, .int .i64 x.e]
def szB : Value → Nat
  | .string b => b.size
  | _ => 0
theorem nread_k (m : List UInt8) (hm : m.length ≤ 17592186044416) (w : World) : Calls Tryd.prog 15 #[.string (B m)] w fun e w' => e = .returned (.tuple #[.agg #[.string (B (rdN m).1), .string (B (rdN m).2.1)], .string (B (rdN m).2.2.1), .int .i64 (rdN m).2.2.2]) ∧ Below w.heap.size w w' :=
  needle_Read.calls 21 (B m) _ _ _ _ w (nread_f m hm 21 (Nat.le_refl _))
set_option maxRecDepth 100000 in
set_option maxHeartbeats 1000000 in
theorem needles_in (n : Nat) (hn : 1 ≤ n) (l Bn : Nat) (s : List UInt8) (hs : s.length ≤ 1048576) (w0 : World) (J Jx : List It → World → Prop) (hJ : ∀ s A B, J s A → A.grownBy B none → J s B) (hBx : ∀ p A, J p A → A.cell? ⟨Bn, 0, none⟩ = some (.string (B s)))
    (hY : ∀ pre x W1, J pre W1 → True → pre.length < s.length + 1 → YieldAt Fence.wide (n - 1) Tryd.prog l #[itV x] W1 fun e W' => (e = .returned (.bool true) ∧ ¬ x.e ≠ 0 ∧ J (pre ++ [x]) W' ∧ Below w0.heap.size W1 W') ∨ (e = .returned (.bool false) ∧ x.e ≠ 0 ∧ Jx (pre ++ [x]) W' ∧ Below w0.heap.size W1 W'))
    (W : World) (hb0 : Below w0.heap.size w0 W) (h0 : J [] W) :
    CallsIn Fence.wide n Tryd.prog 59 #[.func (.yield l) #[] #[], .pointer (some ⟨Bn, 0, none⟩)] W fun e W' => (∃ v, e = .returned v) ∧ ((∃ ys : List It, allN s.length [] [] s = (ys.map (fun x => (x.k, x.v)), ys.map (fun x => x.at_), 0) ∧ J ys W') ∨ (∃ ys : List It, (∃ pre x, ys = pre ++ [x] ∧ allN s.length [] [] s = ([], [], x.e)) ∧ Jx ys W')) := by
  have HJ := Aside0.mk h0
  have HB := Aside0.mk hb0
  have HY := Aside0.mk hY
  have HG := Aside0.mk hJ
  have HX := Aside0.mk hBx
  have hc := hBx _ _ h0
  clear h0 hb0 hY hJ hBx
  refine callsIn_of_wp Tryd.func59 rfl trivial ?_ rfl
  simp only [Tryd.ntmps59, List.size_toArray, List.length_cons, List.length_nil, Nat.reduceAdd, Nat.reduceSub, Array.replicate_succ, Array.replicate_zero, List.push_toArray, List.append_toArray, List.nil_append, List.cons_append]
  gi_wp2
  clear hc
  gi_loopw [3] (fun i wr => ∃ (m : List UInt8) (pre : List It), i = .string (B m) ∧ m.length + pre.length ≤ s.length ∧ Aside0 (allN s.length (pre.map (fun x => (x.k, x.v))) (pre.map (fun x => x.at_)) m = allN s.length [] [] s) ∧ Aside0 (J pre wr) ∧ Aside0 (Below w0.heap.size w0 wr)) (fun i _ => szB i)
  case atStart => exact ⟨s, [], rfl, by simp, ⟨rfl⟩, HJ, HB⟩
  case round =>
    clear HJ HB
    obtain ⟨m, pre, rfl, hml, HP, HJ, HB⟩ := hrel
    have hc := HX.out _ _ HJ.out
    by_cases h0 : m = []
    case pos =>
      have hq : (B m).toList.isEmpty = true := by rw [B_toList, h0]; rfl
      subst h0
      have h := HP.out
      rw [allN_nil] at h
      replace HP := Aside0.mk h
      clear h
      gi_wp2
      go_end0
      exact ⟨⟨_, rfl⟩, .inl ⟨pre, HP.out.symm, HJ.out⟩⟩
    case neg =>
      have hq : (B m).toList.isEmpty = false := by rw [B_toList]; cases m with
        | nil => exact absurd rfl h0
        | cons a l => rfl
      obtain ⟨⟨k, v, r, e⟩, hr⟩ : ∃ p, rdN m = p := ⟨_, rfl⟩
      have HR := nread_k m (by omega) wr
      have hw : wrap64 (((B s).size : Int) - ((B m).size : Int)) = (s.length : Int) - m.length := by rw [B_size, B_size]; unfold wrap64; omega
      have hok : e = 0 → r.length + 32 ≤ m.length ∧ allN s.length (pre.map (fun x => (x.k, x.v)) ++ [(k, v)]) (pre.map (fun x => x.at_) ++ [wrap64 (((B s).size : Int) - ((B m).size : Int))]) r = allN s.length [] [] s := by
        intro he
        have h1 := rdN_lt m (by rw [hr]; exact he)
        have h2 := allN_ok (n := s.length) (l := pre.map (fun x => (x.k, x.v))) (a := pre.map (fun x => x.at_)) h0 (by rw [hr]; exact he)
        rw [HP.out] at h2
        rw [hr] at h1 h2
        rw [hw]
        exact ⟨h1, h2.symm⟩
      have hbad : e ≠ 0 → allN s.length [] [] s = ([], [], e) := by
        intro he
        rw [← HP.out, allN_bad h0 (by rw [hr]; exact he), hr]
      rw [hr] at HR
      replace HR := Aside0.mk HR
      have HOK := Lib.hid hok
      have HBAD := Lib.hid hbad
      clear hr hw hok hbad HP
      have HL := Lib.hid hml
      have HN := Lib.hid h0
      clear hml h0
      have hF : Fence.wide.fn 15 := trivial
      gi_wp2_with (first | (gi_at_call 15; refine (callsIn_wide.2 HR.out).mono ?_; rintro e0 w1 ⟨rfl, b1⟩; clear HR; replace HJ := Aside0.mk (HG.out _ _ _ HJ.out (ngrown_of b1)); replace HB := Aside0.mk (below2 HB.out HB.out.size b1); clear hc b1; obtain ⟨fn, tmps, assign, body, hy, hRd⟩ := HY.out pre ⟨k, v, wrap64 (((B s).size : Int) - ((B m).size : Int)), e⟩ (w1.alloc (.cells #[.string (B k), .string (B v)] 28)) (HG.out _ _ _ HJ.out (ngrown_of (below_alloc (Below.refl _ _) _))) trivial (by have := HL.out; omega); dsimp only [itV] at hy))
      refine hRd.mono ?_
      rintro e3 W3 (⟨rfl, he, hJ3, hk3⟩ | ⟨rfl, he, hJ3, hk3⟩)
      · have he : e = 0 := Classical.not_not.mp he
        obtain ⟨h1, h2⟩ := HOK.out he
        have H1 := Lib.hid h1
        have H2 := Lib.hid h2
        subst he
        clear h1 h2 HOK HBAD
        gi_wp2
        go_roundw
        case rel => exact ⟨r, pre ++ [⟨k, v, wrap64 (((B s).size : Int) - ((B m).size : Int)), 0⟩], rfl, by have := H1.out; have := HL.out; rw [List.length_append]; simp only [List.length_cons, List.length_nil]; omega, ⟨by rw [List.map_append, List.map_append]; exact H2.out⟩, ⟨hJ3⟩, ⟨(below_alloc HB.out _).trans hk3⟩⟩
        case measure => have := H1.out; simp only [szB, B_size]; omega
      · have he2 : (e != 0) = true := bne_iff_ne.mpr he
        gi_wp2_with (with_reducible refine nskip_none ?_)
        refine bodyPost_ret (results_none rfl _ _ _) rfl ?_
        exact ⟨⟨_, rfl⟩, .inr ⟨_, ⟨_, _, rfl, HBAD.out he⟩, hJ3⟩⟩
end Go.Proofs.YtpgfafpjfdbjmaaDoor
end
section
namespace Go.Proofs.YtpgfafpjfdbjmaaDoor
open Go.RowKit Q Go.Proofs.YtpgfafpjfdbjmaaDoorW.PrintWords Go.Proofs.YtpgfafpjfdbjmaaDoorW.PrintLast Go.Proofs.YtpgfafpjfdbjmaaDoorW.PrintMore
theorem ngrown_set (w : World) (g i : Nat) (v : Value) : w.grownBy (w.setCell ⟨g, i, none⟩ v) (some g) := ⟨rfl, rfl, rfl, by simp, fun k _ hk => Below.heap_setCell w ⟨g, i, none⟩ v k (fun e => hk (by rw [e]))⟩
theorem ngrown_below {w w' : World} (b : Below w.heap.size w w') (r : Option Nat) : w.grownBy w' r := ⟨b.os, b.tape, b.output, b.size, fun k hk _ => b.block k hk⟩
theorem nR_step {α : Type} {d : Kd α} {e base : Nat} {W W1 : World} {ok : Nat → Prop} {v : Value} {xs : List α} {row : Option Nat} (h : d.R e W base ok v xs) (hg : W.grownBy W1 row) (t : TypeId) (hrow : ∀ k, row = some k → ∃ cells, W.heap[k]? = some (.cells cells t (0, 0))) (ht : ∀ q, q ∈ e :: d.E → q ≠ t) : d.R e W1 base ok v xs :=
  Kd.R_mono (Kd.R_move (Kd.R_bound h) (fun k hk => hg.block k hk.2.2.1 (fun e' => by
    obtain ⟨_, _, _, q, hq, cells, hc⟩ := hk
    obtain ⟨cells2, hc2⟩ := hrow k e'.symm
    rw [hc] at hc2
    injection hc2 with hc2
    injection hc2 with _ hc2
    exact ht q hq hc2))) (fun _ hk => hk.1)
theorem nbox_step {W W1 : World} {B : Nat} {T : TypeId} {v : Value} {row : Option Nat} (h : Boxed W B T v) (hg : W.grownBy W1 row) (t : TypeId) (hrow : ∀ k, row = some k → ∃ cells, W.heap[k]? = some (.cells cells t (0, 0))) (ht : T ≠ t) : Boxed W1 B T v :=
  h.kept hg (fun e => by
    obtain ⟨cells2, hc2⟩ := hrow B e.symm
    rw [show W.heap[B]? = _ from h] at hc2
    injection hc2 with hc2
    injection hc2 with _ hc2
    exact ht hc2)
theorem nblk_step {W W1 : World} {g : Nat} {c : Array Value} {T : TypeId} {row : Option Nat} (h : Blk W g c T) (hg : W.grownBy W1 row) (t : TypeId) (hrow : ∀ k, row = some k → ∃ cells, W.heap[k]? = some (.cells cells t (0, 0))) (ht : T ≠ t) : Blk W1 g c T :=
  (hg.block g h.lt (fun e => by
    obtain ⟨cells2, hc2⟩ := hrow g e.symm
    rw [show W.heap[g]? = _ from h] at hc2
    injection hc2 with hc2
    injection hc2 with _ hc2
    exact ht hc2)).trans h
theorem nR_calm {α : Type} {d : Kd α} {e base : Nat} {ok : Nat → Prop} {X Y : World} {v : Value} {xs : List α} {row : Option Nat} (h : d.R e X base ok v xs) (hg : X.grownBy Y row) (hr : ∀ r, row = some r → ∃ o : Obj, X.heap[r]? = some o ∧ o.isCells = false) : d.R e Y base ok v xs :=
  Kd.R_mono (Kd.R_move (Kd.R_bound h) (fun k hk => hg.block k hk.2.2.1 (fun e' => by
    obtain ⟨_, _, _, q, _, cells, hc⟩ := hk
    obtain ⟨o, ho, hn⟩ := hr k e'.symm
    rw [hc] at ho
    cases ho
    cases hn))) (fun _ hk => hk.1)
theorem nblk_calm {X Y : World} {g : Nat} {c : Array Value} {T : TypeId} {row : Option Nat} (h : Blk X g c T) (hg : X.grownBy Y row) (hr : ∀ r, row = some r → ∃ o : Obj, X.heap[r]? = some o ∧ o.isCells = false) : Blk Y g c T :=
  (hg.block g (Array.getElem?_eq_some_iff.1 (show X.heap[g]? = _ from h)).1 (fun e' => by
    obtain ⟨o, ho, hn⟩ := hr g e'.symm
    rw [show X.heap[g]? = _ from h] at ho
    cases ho
    cases hn)).trans h
theorem nbelow_between {n : Nat} {w W W1 : World} (b1 : Below n w W) (b2 : Below n w W1) (hs : W.heap.size ≤ W1.heap.size) : Below n W W1 :=
  ⟨b2.os.trans b1.os.symm, b2.tape.trans b1.tape.symm, b2.output.trans b1.output.symm, hs, fun k hk => (b2.block k hk).trans (b1.block k hk).symm⟩
theorem nkeeps_typed {B : Nat} {W W1 : World} {row : Option Nat} (hg : W.grownBy W1 row) {t : TypeId} (hrow : ∀ k, row = some k → ∃ cells, W.heap[k]? = some (.cells cells t (0, 0))) : KeepsFrom B W W1 :=
  ⟨hg.size, fun k o _ hk ho => (hg.block k (Array.getElem?_eq_some_iff.1 hk).1 (fun e => by
    obtain ⟨cells, hc⟩ := hrow k e.symm
    rw [hc] at hk
    cases hk
    cases ho)).trans hk⟩
theorem nkeeps_below {B : Nat} {W W1 : World} (b : Below W.heap.size W W1) : KeepsFrom B W W1 := nkeeps_typed (t := 0) (ngrown_below b none) (fun k e => by cases e)
theorem nload_box {P : Program} {W : World} {B : Nat} {T : TypeId} {v : Value} {d : TypeDesc} (h : Boxed W B T v) (hu : P.underlying T = some d) (hd : (match d with | .struct _ | .array _ _ => true | _ => false) = false) : (loadVar T ⟨B, 0, none⟩).run P W = .ok v W := by
  have hc := h.cell
  have hagg : (isAgg T).run P W = .ok false W := by
    unfold isAgg
    rw [Sem.run_bind, run_underlying hu W]
    cases d <;> simp_all
  unfold loadVar
  rw [Sem.run_bind, hagg]
  simp [hc]
theorem nresults_ccc {P : Program} {fn : Func} {p q r : Tmp} {t1 t2 t3 : TypeId} (h : fn.results = #[.cell p t1, .cell q t2, .cell r t3]) (tmps : Array Value) (W : World) {B1 B2 B3 : Nat} {v1 v2 v3 : Value} {d1 d2 d3 : TypeDesc}
    (hp : tmps.getD p undef = .pointer (some ⟨B1, 0, none⟩)) (hq : tmps.getD q undef = .pointer (some ⟨B2, 0, none⟩)) (hr : tmps.getD r undef = .pointer (some ⟨B3, 0, none⟩)) (h1 : Boxed W B1 t1 v1) (h2 : Boxed W B2 t2 v2) (h3 : Boxed W B3 t3 v3)
    (u1 : P.underlying t1 = some d1) (e1 : (match d1 with | .struct _ | .array _ _ => true | _ => false) = false) (u2 : P.underlying t2 = some d2) (e2 : (match d2 with | .struct _ | .array _ _ => true | _ => false) = false) (u3 : P.underlying t3 = some d3) (e3 : (match d3 with | .struct _ | .array _ _ => true | _ => false) = false) :
    (results fn tmps).run P W = .ok (.tuple #[v1, v2, v3]) W := by
  have hp' : tmps[p]?.getD undef = .pointer (some ⟨B1, 0, none⟩) := by simpa using hp
  have hq' : tmps[q]?.getD undef = .pointer (some ⟨B2, 0, none⟩) := by simpa using hq
  have hr' : tmps[r]?.getD undef = .pointer (some ⟨B3, 0, none⟩) := by simpa using hr
  simp [results, h, hp', hq', hr', asAddr, nload_box h1 u1 e1, nload_box h2 u2 e2, nload_box h3 u3 e3]
theorem nreads1 {W : World} {g t : Nat} {p : Int} (h : Blk W g #[.int .i64 p] t) : ReadsRow (fun (y : Int) cs => cs = [.int .i64 y]) 1 W (some ⟨g, 0, none⟩) 1 [p] :=
  ⟨rfl, by decide, fun _ => ⟨_, rfl, fun j q hj => by
    match j, hj with
    | 0, hj =>
      cases hj
      exact ⟨[.int .i64 p], rfl, rfl, fun i u hu => by
        match i, hu with
        | 0, hu => cases hu; exact h.cell rfl⟩⟩⟩
theorem nreads2 {W : World} {g t : Nat} {k v : ByteArray} (h : Blk W g #[.string k, .string v] t) : ReadsRow (fun (y : S28) cs => cs = [.string y.f0, .string y.f1]) 2 W (some ⟨g, 0, none⟩) 1 [⟨k, v⟩] :=
  ⟨rfl, by decide, fun _ => ⟨_, rfl, fun j q hj => by
    match j, hj with
    | 0, hj =>
      cases hj
      exact ⟨[.string k, .string v], rfl, rfl, fun i u hu => by
        match i, hu with
        | 0, hu => cases hu; exact h.cell rfl
        | 1, hu => cases hu; exact h.cell rfl⟩⟩⟩
end Go.Proofs.YtpgfafpjfdbjmaaDoor
end
section
namespace Go.Proofs.YtpgfafpjfdbjmaaDoor
open Go.RowKit Q Go.Proofs.YtpgfafpjfdbjmaaDoorW.PrintWords Go.Proofs.YtpgfafpjfdbjmaaDoorW.PrintLast Go.Proofs.YtpgfafpjfdbjmaaDoorW.PrintMore
attribute [local go_sem] Oper.semAt_some
theorem chunk_calls (g cap : Nat) (w : World) (n : Nat) : CallsIn Fence.wide n Tryd.prog 42 #[.slice (some ⟨g, 0, none⟩) 384 cap, .int .i64 64] w fun e w' => e = .returned (.func (.func 60) #[] #[.pointer (some ⟨w.heap.size, 0, none⟩), .pointer (some ⟨w.heap.size + 1, 0, none⟩)]) ∧ w' = (w.alloc (.cells #[.slice (some ⟨g, 0, none⟩) 384 cap] 59)).alloc (.cells #[.int .i64 64] 3) := by
  refine callsIn_of_wp Tryd.func42 rfl trivial ?_ rfl
  simp only [Tryd.ntmps42, List.size_toArray, List.length_cons, List.length_nil, Nat.reduceAdd, Nat.reduceSub, Array.replicate_succ, Array.replicate_zero, List.push_toArray, List.append_toArray, List.nil_append, List.cons_append]
  gi_wp2
  go_ret
  exact ⟨rfl, rfl⟩
set_option maxRecDepth 100000 in
set_option maxHeartbeats 1000000 in
theorem chunk_in (n : Nat) (hn : 1 ≤ n) (l B1 B2 g cap : Nat) (hcap : 384 ≤ cap) (w0 : World) (J Jx : List Nat → World → Prop) (hJ : ∀ s A B, J s A → A.grownBy B none → J s B) (hBx : ∀ p A, J p A → A.cell? ⟨B1, 0, none⟩ = some (.slice (some ⟨g, 0, none⟩) 384 cap) ∧ A.cell? ⟨B2, 0, none⟩ = some (.int .i64 64))
    (hY : ∀ pre x W1, J pre W1 → x < 6 → pre.length < 6 → YieldAt Fence.wide (n - 1) Tryd.prog l #[.slice (some ⟨g, 64 * x, none⟩) 64 64] W1 fun e W' => (e = .returned (.bool true) ∧ ¬ False ∧ J (pre ++ [x]) W' ∧ Below w0.heap.size W1 W') ∨ (e = .returned (.bool false) ∧ False ∧ Jx (pre ++ [x]) W' ∧ Below w0.heap.size W1 W'))
    (W : World) (hb0 : Below w0.heap.size w0 W) (h0 : J [] W) :
    CallsIn Fence.wide n Tryd.prog 60 #[.func (.yield l) #[] #[], .pointer (some ⟨B1, 0, none⟩), .pointer (some ⟨B2, 0, none⟩)] W fun e W' => (∃ v, e = .returned v) ∧ ((∃ ys : List Nat, ys = [0, 1, 2, 3, 4, 5] ∧ J ys W') ∨ (∃ ys : List Nat, False ∧ Jx ys W')) := by
  have HJ := Aside0.mk h0
  have HB := Aside0.mk hb0
  have HY := Aside0.mk hY
  have HG := Aside0.mk hJ
  have HX := Aside0.mk hBx
  clear h0 hb0 hY hJ hBx
  refine callsIn_of_wp Tryd.func60 rfl trivial ?_ rfl
  simp only [Tryd.ntmps60, List.size_toArray, List.length_cons, List.length_nil, Nat.reduceAdd, Nat.reduceSub, Array.replicate_succ, Array.replicate_zero, List.push_toArray, List.append_toArray, List.nil_append, List.cons_append]
  gi_wp2
  gi_loopw [4] (fun i wr => ∃ k : Nat, k ≤ 6 ∧ i = .int .i64 ((64 * k : Nat) : Int) ∧ Aside0 (J (List.range k) wr) ∧ Aside0 (Below w0.heap.size w0 wr)) (fun i _ => 384 - (intOf i).toNat)
  case atStart => exact ⟨0, Nat.zero_le _, rfl, HJ, HB⟩
  case round =>
    clear HJ HB
    obtain ⟨k, hk, rfl, HJ, HB⟩ := hrel
    obtain ⟨hc1, hc2⟩ := HX.out _ _ HJ.out
    by_cases h6 : k = 6
    case pos =>
      subst h6
      gi_wp2
      go_end0
      exact ⟨⟨_, rfl⟩, .inl ⟨_, rfl, HJ.out⟩⟩
    case neg =>
      have hk5 : k = 0 ∨ k = 1 ∨ k = 2 ∨ k = 3 ∨ k = 4 ∨ k = 5 := by omega
      clear hk h6
      rcases hk5 with rfl | rfl | rfl | rfl | rfl | rfl
      · gi_wp2
        refine wpIn_wide.2 ?_
        refine start_ (n := 7) (S := fun w' => w'.cell? ⟨B2, 0, none⟩ = some (.int .i64 64) ∧ w'.cell? ⟨B1, 0, none⟩ = some (.slice (some ⟨g, 0, none⟩) 384 cap)) (ds := []) #[false, false, false, false, false, false, false] (by kernel_rfl) rfl rfl ⟨hc2, hc1⟩ (fun hHeld => ?_)
        refine pure_ (i := 2) (N := some 15) (v := ?_) (a' := ?_) #[false, false, true, false, false, false, false] rfl rfl (by kernel_rfl) (fun _ _ _ h => h) (Or.inl ⟨by rfl, ?_⟩) ?_ ?_
        rotate_left
        · intro w'
          go_simp
          with_reducible rfl
        rotate_left
        · simp only [Act.put, List.setIfInBounds_toArray, List.set_cons_zero, List.set_cons_succ]
          rfl
        refine take_ (i := 0) (N := some 13) (v := ?_) (a' := ?_) #[true, false, true, false, false, false, false] rfl rfl (by kernel_rfl) (fun _ _ _ h => h) (Or.inl ⟨by rfl, ?_⟩) hHeld ?_ ?_
        rotate_left
        · rintro w' ⟨s0, s1⟩
          go_simp
          with_reducible rfl
        rotate_left
        · simp only [Act.put, List.setIfInBounds_toArray, List.set_cons_zero, List.set_cons_succ]
          rfl
        refine take_ (i := 1) (N := some 14) (v := ?_) (a' := ?_) #[true, true, true, false, false, false, false] rfl rfl (by kernel_rfl) (fun _ _ _ h => h) (Or.inl ⟨by rfl, ?_⟩) hHeld ?_ ?_
        rotate_left
        · rintro w' ⟨s0, s1⟩
          go_simp
          with_reducible rfl
        rotate_left
        · simp only [Act.put, List.setIfInBounds_toArray, List.set_cons_zero, List.set_cons_succ]
          rfl
        refine pure_ (i := 3) (N := some 16) (v := ?_) (a' := ?_) #[true, true, true, true, false, false, false] rfl rfl (by kernel_rfl) (fun _ _ _ h => h) (Or.inl ⟨by rfl, ?_⟩) ?_ ?_
        rotate_left
        · intro w'
          go_simp
          with_reducible rfl
        rotate_left
        · simp only [Act.put, List.setIfInBounds_toArray, List.set_cons_zero, List.set_cons_succ]
          rfl
        refine pure_ (i := 4) (N := some 17) (v := ?_) (a' := ?_) #[true, true, true, true, true, false, false] rfl rfl (by kernel_rfl) (fun _ _ _ h => h) (Or.inl ⟨by rfl, ?_⟩) ?_ ?_
        rotate_left
        · intro w'
          go_simp
          with_reducible rfl
        rotate_left
        · simp only [Act.put, List.setIfInBounds_toArray, List.set_cons_zero, List.set_cons_succ]
          rfl
        refine pure_ (i := 5) (N := some 18) (v := ?_) (a' := ?_) #[true, true, true, true, true, true, false] rfl rfl (by kernel_rfl) (fun _ _ _ h => h) (Or.inl ⟨by rfl, ?_⟩) ?_ ?_
        rotate_left
        · intro w'
          go_simp
          with_reducible rfl
        rotate_left
        · simp only [Act.put, List.setIfInBounds_toArray, List.set_cons_zero, List.set_cons_succ]
          rfl
        refine pure_ (i := 6) (N := some 5) (v := ?_) (a' := ?_) #[true, true, true, true, true, true, true] rfl rfl (by kernel_rfl) (fun _ _ _ h => h) (Or.inl ⟨by rfl, ?_⟩) ?_ ?_
        rotate_left
        · intro w'
          go_simp
          with_reducible rfl
        rotate_left
        · simp only [Act.put, List.setIfInBounds_toArray, List.set_cons_zero, List.set_cons_succ]
          rfl
        refine done_ (by kernel_rfl) ?_
        have HJ1 := HG.out _ _ _ HJ.out (ngrown_of (Below.drew (Below.refl _ _)))
        have HB1 := Below.drew HB.out
        clear hHeld
        generalize wr.drew = wd at HJ1 HB1 ⊢
        obtain ⟨hc1, hc2⟩ := HX.out _ _ HJ1
        obtain ⟨fn, tmps, assign, body, hy, hRd⟩ := HY.out (List.range 0) 0 wd HJ1 (by decide) (by decide)
        simp only [Nat.reduceMul] at hy
        gi_wp2
        refine hRd.mono ?_
        rintro e3 W3 (⟨rfl, _, hJ3, hk3⟩ | ⟨_, hf, _, _⟩)
        · obtain ⟨hc1, hc2⟩ := HX.out _ _ hJ3
          gi_wp2
          go_roundw
          case rel => exact ⟨1, by decide, by first | rfl | go_num, ⟨hJ3⟩, ⟨HB1.trans hk3⟩⟩
          case measure => simp [intOf]
        · exact hf.elim
      · gi_wp2
        refine wpIn_wide.2 ?_
        refine start_ (n := 7) (S := fun w' => w'.cell? ⟨B2, 0, none⟩ = some (.int .i64 64) ∧ w'.cell? ⟨B1, 0, none⟩ = some (.slice (some ⟨g, 0, none⟩) 384 cap)) (ds := []) #[false, false, false, false, false, false, false] (by kernel_rfl) rfl rfl ⟨hc2, hc1⟩ (fun hHeld => ?_)
        refine pure_ (i := 2) (N := some 15) (v := ?_) (a' := ?_) #[false, false, true, false, false, false, false] rfl rfl (by kernel_rfl) (fun _ _ _ h => h) (Or.inl ⟨by rfl, ?_⟩) ?_ ?_
        rotate_left
        · intro w'
          go_simp
          with_reducible rfl
        rotate_left
        · simp only [Act.put, List.setIfInBounds_toArray, List.set_cons_zero, List.set_cons_succ]
          rfl
        refine take_ (i := 0) (N := some 13) (v := ?_) (a' := ?_) #[true, false, true, false, false, false, false] rfl rfl (by kernel_rfl) (fun _ _ _ h => h) (Or.inl ⟨by rfl, ?_⟩) hHeld ?_ ?_
        rotate_left
        · rintro w' ⟨s0, s1⟩
          go_simp
          with_reducible rfl
        rotate_left
        · simp only [Act.put, List.setIfInBounds_toArray, List.set_cons_zero, List.set_cons_succ]
          rfl
        refine take_ (i := 1) (N := some 14) (v := ?_) (a' := ?_) #[true, true, true, false, false, false, false] rfl rfl (by kernel_rfl) (fun _ _ _ h => h) (Or.inl ⟨by rfl, ?_⟩) hHeld ?_ ?_
        rotate_left
        · rintro w' ⟨s0, s1⟩
          go_simp
          with_reducible rfl
        rotate_left
        · simp only [Act.put, List.setIfInBounds_toArray, List.set_cons_zero, List.set_cons_succ]
          rfl
        refine pure_ (i := 3) (N := some 16) (v := ?_) (a' := ?_) #[true, true, true, true, false, false, false] rfl rfl (by kernel_rfl) (fun _ _ _ h => h) (Or.inl ⟨by rfl, ?_⟩) ?_ ?_
        rotate_left
        · intro w'
          go_simp
          with_reducible rfl
        rotate_left
        · simp only [Act.put, List.setIfInBounds_toArray, List.set_cons_zero, List.set_cons_succ]
          rfl
        refine pure_ (i := 4) (N := some 17) (v := ?_) (a' := ?_) #[true, true, true, true, true, false, false] rfl rfl (by kernel_rfl) (fun _ _ _ h => h) (Or.inl ⟨by rfl, ?_⟩) ?_ ?_
        rotate_left
        · intro w'
          go_simp
          with_reducible rfl
        rotate_left
        · simp only [Act.put, List.setIfInBounds_toArray, List.set_cons_zero, List.set_cons_succ]
          rfl
        refine pure_ (i := 5) (N := some 18) (v := ?_) (a' := ?_) #[true, true, true, true, true, true, false] rfl rfl (by kernel_rfl) (fun _ _ _ h => h) (Or.inl ⟨by rfl, ?_⟩) ?_ ?_
        rotate_left
        · intro w'
          go_simp
          with_reducible rfl
        rotate_left
        · simp only [Act.put, List.setIfInBounds_toArray, List.set_cons_zero, List.set_cons_succ]
          rfl
        refine pure_ (i := 6) (N := some 5) (v := ?_) (a' := ?_) #[true, true, true, true, true, true, true] rfl rfl (by kernel_rfl) (fun _ _ _ h => h) (Or.inl ⟨by rfl, ?_⟩) ?_ ?_
        rotate_left
        · intro w'
          go_simp
          with_reducible rfl
        rotate_left
        · simp only [Act.put, List.setIfInBounds_toArray, List.set_cons_zero, List.set_cons_succ]
          rfl
        refine done_ (by kernel_rfl) ?_
        have HJ1 := HG.out _ _ _ HJ.out (ngrown_of (Below.drew (Below.refl _ _)))
        have HB1 := Below.drew HB.out
        clear hHeld
        generalize wr.drew = wd at HJ1 HB1 ⊢
        obtain ⟨hc1, hc2⟩ := HX.out _ _ HJ1
        obtain ⟨fn, tmps, assign, body, hy, hRd⟩ := HY.out (List.range 1) 1 wd HJ1 (by decide) (by decide)
        simp only [Nat.reduceMul] at hy
        gi_wp2
        refine hRd.mono ?_
        rintro e3 W3 (⟨rfl, _, hJ3, hk3⟩ | ⟨_, hf, _, _⟩)
        · obtain ⟨hc1, hc2⟩ := HX.out _ _ hJ3
          gi_wp2
          go_roundw
          case rel => exact ⟨2, by decide, by first | rfl | go_num, ⟨hJ3⟩, ⟨HB1.trans hk3⟩⟩
          case measure => simp [intOf]
        · exact hf.elim
      · gi_wp2
        refine wpIn_wide.2 ?_
        refine start_ (n := 7) (S := fun w' => w'.cell? ⟨B2, 0, none⟩ = some (.int .i64 64) ∧ w'.cell? ⟨B1, 0, none⟩ = some (.slice (some ⟨g, 0, none⟩) 384 cap)) (ds := []) #[false, false, false, false, false, false, false] (by kernel_rfl) rfl rfl ⟨hc2, hc1⟩ (fun hHeld => ?_)
        refine pure_ (i := 2) (N := some 15) (v := ?_) (a' := ?_) #[false, false, true, false, false, false, false] rfl rfl (by kernel_rfl) (fun _ _ _ h => h) (Or.inl ⟨by rfl, ?_⟩) ?_ ?_
        rotate_left
        · intro w'
          go_simp
          with_reducible rfl
        rotate_left
        · simp only [Act.put, List.setIfInBounds_toArray, List.set_cons_zero, List.set_cons_succ]
          rfl
        refine take_ (i := 0) (N := some 13) (v := ?_) (a' := ?_) #[true, false, true, false, false, false, false] rfl rfl (by kernel_rfl) (fun _ _ _ h => h) (Or.inl ⟨by rfl, ?_⟩) hHeld ?_ ?_
        rotate_left
        · rintro w' ⟨s0, s1⟩
          go_simp
          with_reducible rfl
        rotate_left
        · simp only [Act.put, List.setIfInBounds_toArray, List.set_cons_zero, List.set_cons_succ]
          rfl
        refine take_ (i := 1) (N := some 14) (v := ?_) (a' := ?_) #[true, true, true, false, false, false, false] rfl rfl (by kernel_rfl) (fun _ _ _ h => h) (Or.inl ⟨by rfl, ?_⟩) hHeld ?_ ?_
        rotate_left
        · rintro w' ⟨s0, s1⟩
          go_simp
          with_reducible rfl
        rotate_left
        · simp only [Act.put, List.setIfInBounds_toArray, List.set_cons_zero, List.set_cons_succ]
          rfl
        refine pure_ (i := 3) (N := some 16) (v := ?_) (a' := ?_) #[true, true, true, true, false, false, false] rfl rfl (by kernel_rfl) (fun _ _ _ h => h) (Or.inl ⟨by rfl, ?_⟩) ?_ ?_
        rotate_left
        · intro w'
          go_simp
          with_reducible rfl
        rotate_left
        · simp only [Act.put, List.setIfInBounds_toArray, List.set_cons_zero, List.set_cons_succ]
          rfl
        refine pure_ (i := 4) (N := some 17) (v := ?_) (a' := ?_) #[true, true, true, true, true, false, false] rfl rfl (by kernel_rfl) (fun _ _ _ h => h) (Or.inl ⟨by rfl, ?_⟩) ?_ ?_
        rotate_left
        · intro w'
          go_simp
          with_reducible rfl
        rotate_left
        · simp only [Act.put, List.setIfInBounds_toArray, List.set_cons_zero, List.set_cons_succ]
          rfl
        refine pure_ (i := 5) (N := some 18) (v := ?_) (a' := ?_) #[true, true, true, true, true, true, false] rfl rfl (by kernel_rfl) (fun _ _ _ h => h) (Or.inl ⟨by rfl, ?_⟩) ?_ ?_
        rotate_left
        · intro w'
          go_simp
          with_reducible rfl
        rotate_left
        · simp only [Act.put, List.setIfInBounds_toArray, List.set_cons_zero, List.set_cons_succ]
          rfl
        refine pure_ (i := 6) (N := some 5) (v := ?_) (a' := ?_) #[true, true, true, true, true, true, true] rfl rfl (by kernel_rfl) (fun _ _ _ h => h) (Or.inl ⟨by rfl, ?_⟩) ?_ ?_
        rotate_left
        · intro w'
          go_simp
          with_reducible rfl
        rotate_left
        · simp only [Act.put, List.setIfInBounds_toArray, List.set_cons_zero, List.set_cons_succ]
          rfl
        refine done_ (by kernel_rfl) ?_
        have HJ1 := HG.out _ _ _ HJ.out (ngrown_of (Below.drew (Below.refl _ _)))
        have HB1 := Below.drew HB.out
        clear hHeld
        generalize wr.drew = wd at HJ1 HB1 ⊢
        obtain ⟨hc1, hc2⟩ := HX.out _ _ HJ1
        obtain ⟨fn, tmps, assign, body, hy, hRd⟩ := HY.out (List.range 2) 2 wd HJ1 (by decide) (by decide)
        simp only [Nat.reduceMul] at hy
        gi_wp2
        refine hRd.mono ?_
        rintro e3 W3 (⟨rfl, _, hJ3, hk3⟩ | ⟨_, hf, _, _⟩)
        · obtain ⟨hc1, hc2⟩ := HX.out _ _ hJ3
          gi_wp2
          go_roundw
          case rel => exact ⟨3, by decide, by first | rfl | go_num, ⟨hJ3⟩, ⟨HB1.trans hk3⟩⟩
          case measure => simp [intOf]
        · exact hf.elim
      · gi_wp2
        refine wpIn_wide.2 ?_
        refine start_ (n := 7) (S := fun w' => w'.cell? ⟨B2, 0, none⟩ = some (.int .i64 64) ∧ w'.cell? ⟨B1, 0, none⟩ = some (.slice (some ⟨g, 0, none⟩) 384 cap)) (ds := []) #[false, false, false, false, false, false, false] (by kernel_rfl) rfl rfl ⟨hc2, hc1⟩ (fun hHeld => ?_)
        refine pure_ (i := 2) (N := some 15) (v := ?_) (a' := ?_) #[false, false, true, false, false, false, false] rfl rfl (by kernel_rfl) (fun _ _ _ h => h) (Or.inl ⟨by rfl, ?_⟩) ?_ ?_
        rotate_left
        · intro w'
          go_simp
          with_reducible rfl
        rotate_left
        · simp only [Act.put, List.setIfInBounds_toArray, List.set_cons_zero, List.set_cons_succ]
          rfl
        refine take_ (i := 0) (N := some 13) (v := ?_) (a' := ?_) #[true, false, true, false, false, false, false] rfl rfl (by kernel_rfl) (fun _ _ _ h => h) (Or.inl ⟨by rfl, ?_⟩) hHeld ?_ ?_
        rotate_left
        · rintro w' ⟨s0, s1⟩
          go_simp
          with_reducible rfl
        rotate_left
        · simp only [Act.put, List.setIfInBounds_toArray, List.set_cons_zero, List.set_cons_succ]
          rfl
        refine take_ (i := 1) (N := some 14) (v := ?_) (a' := ?_) #[true, true, true, false, false, false, false] rfl rfl (by kernel_rfl) (fun _ _ _ h => h) (Or.inl ⟨by rfl, ?_⟩) hHeld ?_ ?_
        rotate_left
        · rintro w' ⟨s0, s1⟩
          go_simp
          with_reducible rfl
        rotate_left
        · simp only [Act.put, List.setIfInBounds_toArray, List.set_cons_zero, List.set_cons_succ]
          rfl
        refine pure_ (i := 3) (N := some 16) (v := ?_) (a' := ?_) #[true, true, true, true, false, false, false] rfl rfl (by kernel_rfl) (fun _ _ _ h => h) (Or.inl ⟨by rfl, ?_⟩) ?_ ?_
        rotate_left
        · intro w'
          go_simp
          with_reducible rfl
        rotate_left
        · simp only [Act.put, List.setIfInBounds_toArray, List.set_cons_zero, List.set_cons_succ]
          rfl
        refine pure_ (i := 4) (N := some 17) (v := ?_) (a' := ?_) #[true, true, true, true, true, false, false] rfl rfl (by kernel_rfl) (fun _ _ _ h => h) (Or.inl ⟨by rfl, ?_⟩) ?_ ?_
        rotate_left
        · intro w'
          go_simp
          with_reducible rfl
        rotate_left
        · simp only [Act.put, List.setIfInBounds_toArray, List.set_cons_zero, List.set_cons_succ]
          rfl
        refine pure_ (i := 5) (N := some 18) (v := ?_) (a' := ?_) #[true, true, true, true, true, true, false] rfl rfl (by kernel_rfl) (fun _ _ _ h => h) (Or.inl ⟨by rfl, ?_⟩) ?_ ?_
        rotate_left
        · intro w'
          go_simp
          with_reducible rfl
        rotate_left
        · simp only [Act.put, List.setIfInBounds_toArray, List.set_cons_zero, List.set_cons_succ]
          rfl
        refine pure_ (i := 6) (N := some 5) (v := ?_) (a' := ?_) #[true, true, true, true, true, true, true] rfl rfl (by kernel_rfl) (fun _ _ _ h => h) (Or.inl ⟨by rfl, ?_⟩) ?_ ?_
        rotate_left
        · intro w'
          go_simp
          with_reducible rfl
        rotate_left
        · simp only [Act.put, List.setIfInBounds_toArray, List.set_cons_zero, List.set_cons_succ]
          rfl
        refine done_ (by kernel_rfl) ?_
        have HJ1 := HG.out _ _ _ HJ.out (ngrown_of (Below.drew (Below.refl _ _)))
        have HB1 := Below.drew HB.out
        clear hHeld
        generalize wr.drew = wd at HJ1 HB1 ⊢
        obtain ⟨hc1, hc2⟩ := HX.out _ _ HJ1
        obtain ⟨fn, tmps, assign, body, hy, hRd⟩ := HY.out (List.range 3) 3 wd HJ1 (by decide) (by decide)
        simp only [Nat.reduceMul] at hy
        gi_wp2
        refine hRd.mono ?_
        rintro e3 W3 (⟨rfl, _, hJ3, hk3⟩ | ⟨_, hf, _, _⟩)
        · obtain ⟨hc1, hc2⟩ := HX.out _ _ hJ3
          gi_wp2
          go_roundw
          case rel => exact ⟨4, by decide, by first | rfl | go_num, ⟨hJ3⟩, ⟨HB1.trans hk3⟩⟩
          case measure => simp [intOf]
        · exact hf.elim
      · gi_wp2
        refine wpIn_wide.2 ?_
        refine start_ (n := 7) (S := fun w' => w'.cell? ⟨B2, 0, none⟩ = some (.int .i64 64) ∧ w'.cell? ⟨B1, 0, none⟩ = some (.slice (some ⟨g, 0, none⟩) 384 cap)) (ds := []) #[false, false, false, false, false, false, false] (by kernel_rfl) rfl rfl ⟨hc2, hc1⟩ (fun hHeld => ?_)
        refine pure_ (i := 2) (N := some 15) (v := ?_) (a' := ?_) #[false, false, true, false, false, false, false] rfl rfl (by kernel_rfl) (fun _ _ _ h => h) (Or.inl ⟨by rfl, ?_⟩) ?_ ?_
        rotate_left
        · intro w'
          go_simp
          with_reducible rfl
        rotate_left
        · simp only [Act.put, List.setIfInBounds_toArray, List.set_cons_zero, List.set_cons_succ]
          rfl
        refine take_ (i := 0) (N := some 13) (v := ?_) (a' := ?_) #[true, false, true, false, false, false, false] rfl rfl (by kernel_rfl) (fun _ _ _ h => h) (Or.inl ⟨by rfl, ?_⟩) hHeld ?_ ?_
        rotate_left
        · rintro w' ⟨s0, s1⟩
          go_simp
          with_reducible rfl
        rotate_left
        · simp only [Act.put, List.setIfInBounds_toArray, List.set_cons_zero, List.set_cons_succ]
          rfl
        refine take_ (i := 1) (N := some 14) (v := ?_) (a' := ?_) #[true, true, true, false, false, false, false] rfl rfl (by kernel_rfl) (fun _ _ _ h => h) (Or.inl ⟨by rfl, ?_⟩) hHeld ?_ ?_
        rotate_left
        · rintro w' ⟨s0, s1⟩
          go_simp
          with_reducible rfl
        rotate_left
        · simp only [Act.put, List.setIfInBounds_toArray, List.set_cons_zero, List.set_cons_succ]
          rfl
        refine pure_ (i := 3) (N := some 16) (v := ?_) (a' := ?_) #[true, true, true, true, false, false, false] rfl rfl (by kernel_rfl) (fun _ _ _ h => h) (Or.inl ⟨by rfl, ?_⟩) ?_ ?_
        rotate_left
        · intro w'
          go_simp
          with_reducible rfl
        rotate_left
        · simp only [Act.put, List.setIfInBounds_toArray, List.set_cons_zero, List.set_cons_succ]
          rfl
        refine pure_ (i := 4) (N := some 17) (v := ?_) (a' := ?_) #[true, true, true, true, true, false, false] rfl rfl (by kernel_rfl) (fun _ _ _ h => h) (Or.inl ⟨by rfl, ?_⟩) ?_ ?_
        rotate_left
        · intro w'
          go_simp
          with_reducible rfl
        rotate_left
        · simp only [Act.put, List.setIfInBounds_toArray, List.set_cons_zero, List.set_cons_succ]
          rfl
        refine pure_ (i := 5) (N := some 18) (v := ?_) (a' := ?_) #[true, true, true, true, true, true, false] rfl rfl (by kernel_rfl) (fun _ _ _ h => h) (Or.inl ⟨by rfl, ?_⟩) ?_ ?_
        rotate_left
        · intro w'
          go_simp
          with_reducible rfl
        rotate_left
        · simp only [Act.put, List.setIfInBounds_toArray, List.set_cons_zero, List.set_cons_succ]
          rfl
        refine pure_ (i := 6) (N := some 5) (v := ?_) (a' := ?_) #[true, true, true, true, true, true, true] rfl rfl (by kernel_rfl) (fun _ _ _ h => h) (Or.inl ⟨by rfl, ?_⟩) ?_ ?_
        rotate_left
        · intro w'
          go_simp
          with_reducible rfl
        rotate_left
        · simp only [Act.put, List.setIfInBounds_toArray, List.set_cons_zero, List.set_cons_succ]
          rfl
        refine done_ (by kernel_rfl) ?_
        have HJ1 := HG.out _ _ _ HJ.out (ngrown_of (Below.drew (Below.refl _ _)))
        have HB1 := Below.drew HB.out
        clear hHeld
        generalize wr.drew = wd at HJ1 HB1 ⊢
        obtain ⟨hc1, hc2⟩ := HX.out _ _ HJ1
        obtain ⟨fn, tmps, assign, body, hy, hRd⟩ := HY.out (List.range 4) 4 wd HJ1 (by decide) (by decide)
        simp only [Nat.reduceMul] at hy
        gi_wp2
        refine hRd.mono ?_
        rintro e3 W3 (⟨rfl, _, hJ3, hk3⟩ | ⟨_, hf, _, _⟩)
        · obtain ⟨hc1, hc2⟩ := HX.out _ _ hJ3
          gi_wp2
          go_roundw
          case rel => exact ⟨5, by decide, by first | rfl | go_num, ⟨hJ3⟩, ⟨HB1.trans hk3⟩⟩
          case measure => simp [intOf]
        · exact hf.elim
      · gi_wp2
        refine wpIn_wide.2 ?_
        refine start_ (n := 7) (S := fun w' => w'.cell? ⟨B2, 0, none⟩ = some (.int .i64 64) ∧ w'.cell? ⟨B1, 0, none⟩ = some (.slice (some ⟨g, 0, none⟩) 384 cap)) (ds := []) #[false, false, false, false, false, false, false] (by kernel_rfl) rfl rfl ⟨hc2, hc1⟩ (fun hHeld => ?_)
        refine pure_ (i := 2) (N := some 15) (v := ?_) (a' := ?_) #[false, false, true, false, false, false, false] rfl rfl (by kernel_rfl) (fun _ _ _ h => h) (Or.inl ⟨by rfl, ?_⟩) ?_ ?_
        rotate_left
        · intro w'
          go_simp
          with_reducible rfl
        rotate_left
        · simp only [Act.put, List.setIfInBounds_toArray, List.set_cons_zero, List.set_cons_succ]
          rfl
        refine take_ (i := 0) (N := some 13) (v := ?_) (a' := ?_) #[true, false, true, false, false, false, false] rfl rfl (by kernel_rfl) (fun _ _ _ h => h) (Or.inl ⟨by rfl, ?_⟩) hHeld ?_ ?_
        rotate_left
        · rintro w' ⟨s0, s1⟩
          go_simp
          with_reducible rfl
        rotate_left
        · simp only [Act.put, List.setIfInBounds_toArray, List.set_cons_zero, List.set_cons_succ]
          rfl
        refine take_ (i := 1) (N := some 14) (v := ?_) (a' := ?_) #[true, true, true, false, false, false, false] rfl rfl (by kernel_rfl) (fun _ _ _ h => h) (Or.inl ⟨by rfl, ?_⟩) hHeld ?_ ?_
        rotate_left
        · rintro w' ⟨s0, s1⟩
          go_simp
          with_reducible rfl
        rotate_left
        · simp only [Act.put, List.setIfInBounds_toArray, List.set_cons_zero, List.set_cons_succ]
          rfl
        refine pure_ (i := 3) (N := some 16) (v := ?_) (a' := ?_) #[true, true, true, true, false, false, false] rfl rfl (by kernel_rfl) (fun _ _ _ h => h) (Or.inl ⟨by rfl, ?_⟩) ?_ ?_
        rotate_left
        · intro w'
          go_simp
          with_reducible rfl
        rotate_left
        · simp only [Act.put, List.setIfInBounds_toArray, List.set_cons_zero, List.set_cons_succ]
          rfl
        refine pure_ (i := 4) (N := some 17) (v := ?_) (a' := ?_) #[true, true, true, true, true, false, false] rfl rfl (by kernel_rfl) (fun _ _ _ h => h) (Or.inl ⟨by rfl, ?_⟩) ?_ ?_
        rotate_left
        · intro w'
          go_simp
          with_reducible rfl
        rotate_left
        · simp only [Act.put, List.setIfInBounds_toArray, List.set_cons_zero, List.set_cons_succ]
          rfl
        refine pure_ (i := 5) (N := some 18) (v := ?_) (a' := ?_) #[true, true, true, true, true, true, false] rfl rfl (by kernel_rfl) (fun _ _ _ h => h) (Or.inl ⟨by rfl, ?_⟩) ?_ ?_
        rotate_left
        · intro w'
          go_simp
          with_reducible rfl
        rotate_left
        · simp only [Act.put, List.setIfInBounds_toArray, List.set_cons_zero, List.set_cons_succ]
          rfl
        refine pure_ (i := 6) (N := some 5) (v := ?_) (a' := ?_) #[true, true, true, true, true, true, true] rfl rfl (by kernel_rfl) (fun _ _ _ h => h) (Or.inl ⟨by rfl, ?_⟩) ?_ ?_
        rotate_left
        · intro w'
          go_simp
          with_reducible rfl
        rotate_left
        · simp only [Act.put, List.setIfInBounds_toArray, List.set_cons_zero, List.set_cons_succ]
          rfl
        refine done_ (by kernel_rfl) ?_
        have HJ1 := HG.out _ _ _ HJ.out (ngrown_of (Below.drew (Below.refl _ _)))
        have HB1 := Below.drew HB.out
        clear hHeld
        generalize wr.drew = wd at HJ1 HB1 ⊢
        obtain ⟨hc1, hc2⟩ := HX.out _ _ HJ1
        obtain ⟨fn, tmps, assign, body, hy, hRd⟩ := HY.out (List.range 5) 5 wd HJ1 (by decide) (by decide)
        simp only [Nat.reduceMul] at hy
        gi_wp2
        refine hRd.mono ?_
        rintro e3 W3 (⟨rfl, _, hJ3, hk3⟩ | ⟨_, hf, _, _⟩)
        · obtain ⟨hc1, hc2⟩ := HX.out _ _ hJ3
          gi_wp2
          go_roundw
          case rel => exact ⟨6, by decide, by first | rfl | go_num, ⟨hJ3⟩, ⟨HB1.trans hk3⟩⟩
          case measure => simp [intOf]
        · exact hf.elim
end Go.Proofs.YtpgfafpjfdbjmaaDoor
end
section
namespace Go.Proofs.YtpgfafpjfdbjmaaDoor
open Go.RowKit
section
variable {P : Program}
theorem zeros_cells (m : Nat) : Builtin.zeroCells (Value.int .u8 0).cells m = (Lib.byteCells (List.replicate m 0)).toArray := by
  apply Array.ext'
  simp [Builtin.zeroCells, Lib.byteCells, Value.cells]
  apply List.ext_getElem
  · simp
  · intro i h1 h2
    simp [Nat.mod_one]
theorem run_append_zerosB (w : World) (B : Nat) (t ti ty E : TypeId) (i : TypeInfo) (ht : P.underlying t = some (.slice E)) {k : IntKind} (hti : P.underlying ti = some (.int k)) (hi : P.info? E = some i) (hz : i.zero = some (.int .u8 0)) (hsize : i.size = 1) (hby : i.bytes = 1)
    (g cap : Nat) (l : List UInt8) (hown : RowB B E (.slice (some ⟨g, 0, none⟩) l.length cap) l w) (kx : IntKind) (m : Nat)
    (hlen : l.length + m ≤ 140737488355328) (hbase : B ≤ w.heap.size) :
    ∃ v' w', (Builtin.append_ #[t, ti] ty #[.slice (some ⟨g, 0, none⟩) l.length cap, .int kx m]).run P w = .ok v' w' ∧ RowB B E v' (l ++ List.replicate m 0) w' ∧ w.grownBy w' (some g) := by
  have hm63 : l.length + m ≤ maxLen := by unfold maxLen; omega
  have hw : IntKind.i64.wrap (m : Int) = m := by rw [IntKind.wrap_i64]; omega
  have hw0 : IntKind.i64.wrap 0 = 0 := by rw [IntKind.wrap_i64]; rfl
  have hneg : ¬ ((m : Int) < 0) := by omega
  have hbig : ¬ (281474976710656 < (m : Int) * (i.bytes : Int)) := by rw [hby]; omega
  rcases hown with ⟨h0, _⟩ | ⟨g2, cap2, cur, fz, hv, hbg, hg, hfz, hnc, hcm, hcs, htake⟩
  · cases h0
  obtain ⟨rfl, rfl⟩ : g = g2 ∧ cap = cap2 := by
    injection hv with e1 e2 e3
    injection e1 with e1
    injection e1 with e1
    exact ⟨e1, e3⟩
  obtain ⟨news, hnews⟩ : ∃ news, news = Lib.byteCells (List.replicate m 0) := ⟨_, rfl⟩
  have hl : news.length = m := by rw [hnews, Lib.byteCells_length, List.length_replicate]
  have hna : Builtin.zeroCells (Value.int .u8 0).cells m = news.toArray := by rw [zeros_cells, hnews]
  have h1 : ∀ u ∈ news, u.oneCell' = true := by rw [hnews]; exact byteCells_one _
  by_cases hroom : l.length + m ≤ cap
  · have hst := run_storeCells_free (P := P) g E fz news (l.length * 1) 0 cur w hg (fun k hk1 hk2 => hfz k (by omega) (by omega)) (by omega) h1
    simp only [Nat.add_zero, Nat.mul_one] at hst
    have hr : (Builtin.append_ #[t, ti] ty #[.slice (some ⟨g, 0, none⟩) l.length cap, .int kx m]).run P w = .ok (.slice (some ⟨g, 0, none⟩) (l.length + m) cap) (w.setRow g (cur.toList.take l.length ++ news ++ cur.toList.drop (l.length + news.length)).toArray) := by
      by_cases hm : m = 0
      · subst hm
        have hnl : news = [] := List.eq_nil_of_length_eq_zero hl
        subst hnl
        simp only [List.length_nil, Nat.add_zero] at hst
        simp [Builtin.append_, run_underlying ht, run_underlying hti, sizeOf, typeInfo, hi, asInt, asIntOf, hw0, hnc, hst, hsize, Addr.add_lit]
      · simp [Builtin.append_, run_underlying ht, run_underlying hti, sizeOf, typeInfo, zeroValue, hi, hz, asInt, asIntOf, hw, hneg, hbig, hroom, hna, Addr.add_lit, hst, hsize, hm]
    refine ⟨_, _, hr, .inr ⟨g, cap, _, fz, by rw [List.length_append, List.length_replicate], hbg, setRow_heap w g cur _ E _ hg, fun k hk1 hk2 => hfz k (by rw [List.length_append] at hk1; omega) hk2, by rw [List.length_append, List.length_replicate]; exact hroom, hcm, ?_, ?_⟩, ⟨rfl, rfl, rfl, by simp, fun k _ hk => setRow_other w g k _ (fun e => hk (by rw [e]))⟩⟩
    · simp only [List.size_toArray, List.length_append, List.length_take, List.length_drop, Array.length_toList]
      omega
    · rw [htake, hnews, Lib.byteCells_append]
      have : (l ++ List.replicate m 0).length = (Lib.byteCells l ++ Lib.byteCells (List.replicate m 0)).length := by simp [Lib.byteCells_length]
      rw [this]
      exact List.take_left
  · have hm : ¬ m = 0 := by omega
    have holds : ∀ j u, (Lib.byteCells l)[j]? = some u → w.drew.cell? ((⟨g, 0, none⟩ : Addr).add j) = some u := by
      intro j u hj
      simp only [Lib.byteCells, List.getElem?_map, Option.map_eq_some_iff] at hj
      obtain ⟨x, hx, rfl⟩ := hj
      have hadd : (⟨g, 0, none⟩ : Addr).add j = ⟨g, j, none⟩ := by unfold Addr.add; split <;> simp_all
      rw [hadd]
      exact RowB.cells (B := B) (E := E) (v := .slice (some ⟨g, 0, none⟩) l.length cap) (.inr ⟨g, cap, cur, fz, rfl, hbg, hg, hfz, hnc, hcm, hcs, htake⟩) rfl j x hx
    have hfo := run_firstCells_some (P := P) w.drew 1 l.length ⟨g, 0, none⟩ l.length cap (Lib.byteCells l) (by rw [Lib.byteCells_length, Nat.mul_one]) holds
    have hn : ¬ (l.length + m ≤ cap) := hroom
    have h63' : ¬ (9223372036854775807 < ((l.length : Int) + (m : Int))) := by omega
    have hfit := growslice_fits (need := l.length + m) (old := cap) (bytes := i.bytes) (by omega) (by rw [hby]; omega)
    have h48' : ¬ (281474976710656 < Builtin.nextslicecap (l.length + m) cap * i.bytes) := by omega
    have hr : (Builtin.append_ #[t, ti] ty #[.slice (some ⟨g, 0, none⟩) l.length cap, .int kx m]).run P w = .ok (.slice (some ⟨w.heap.size, 0, none⟩) (l.length + m) (grownCap w (l.length + m) cap E)) (w.drew.alloc (.cells ((Lib.byteCells l).toArray ++ news.toArray ++ Builtin.zeroCells (Value.int .u8 0).cells (grownCap w (l.length + m) cap E - (l.length + m))) E)) := by
      simp [Builtin.append_, run_underlying ht, run_underlying hti, sizeOf, typeInfo, zeroValue, hi, hz, asInt, asIntOf, hw, hneg, hbig, hn, h63', h48', Question.forced, hfo, newRow, grownCap, hm, hna, hsize]
      congr 2
      apply Array.ext'
      simp [List.append_assoc]
    have hge := grownCap_ge w (l.length + m) cap E
    have hcm2 : grownCap w (l.length + m) cap E ≤ maxLen := grownCap_le_maxLen w (l.length + m) cap E hm63
    refine ⟨_, _, hr, .inr ⟨w.heap.size, _, _, (0, 0), by rw [List.length_append, List.length_replicate], hbase, heap_alloc_new w.drew _, fun _ _ _ _ => by omega, by rw [List.length_append, List.length_replicate]; exact hge, hcm2, ?_, ?_⟩, ⟨rfl, rfl, rfl, by simp, fun k hk _ => Lib.alloc_old w.drew _ k hk⟩⟩
    · simp only [Array.size_append, List.size_toArray, size_zeroCells, Lib.byteCells_length, hl]
      have : (Value.int IntKind.u8 0).cells.size = 1 := rfl
      rw [this]
      omega
    · simp only [Array.toList_append, List.append_assoc]
      rw [hnews, ← List.append_assoc, ← Lib.byteCells_append]
      have : (l ++ List.replicate m 0).length = (Lib.byteCells (l ++ List.replicate m 0)).length := by rw [Lib.byteCells_length]
      rw [this]
      exact List.take_left
end
end Go.Proofs.YtpgfafpjfdbjmaaDoor
end
section
namespace Go.Proofs.YtpgfafpjfdbjmaaDoor
open Go.RowKit Q Go.Proofs.YtpgfafpjfdbjmaaDoorW.PrintWords Go.Proofs.YtpgfafpjfdbjmaaDoorW.PrintLast Go.Proofs.YtpgfafpjfdbjmaaDoorW.PrintMore
attribute [local go_sem] Oper.semAt_some
section
variable {F : Fence} {n : Nat} {P : Program} {ops : Array Oper} {rest : List Oper} {o : Oper} {a : Act} {Q : Exit → Act → World → Prop} {W : World}
theorem nwpListIn_append (hgd : o.guard = none) (s x : Operand) (t u : TypeId) (hop : o.op = .call { callee := .builtin .append, args := #[s, x], argTypes := #[t, u] }) (v y v1 : Value) (w1 : World) (hs : a.eval s = v) (hx : a.eval x = y)
    (hrun : (Builtin.append_ #[t, u] o.type #[v, y]).run P W = .ok v1 w1) (h : wpListIn F n P ops Q rest (a.put o.dst v1) w1) : wpListIn F n P ops Q (o :: rest) a W := by
  refine wpListIn_plain hgd fun K hK => ?_
  unfold Oper.wpIn
  refine ⟨?_, ?_⟩
  · simp [Oper.about, hop, resolve, Target.leads, Sem.run_pure]
  · rw [Oper.semAt_plain F _ _ (by rw [hop]; intro c hc'; cases hc')]
    simp [execOp, hop, resolve, invoke, builtin, hs, hx, hrun, Result.andThen]
    exact hK _ _ h
theorem nappend_str (hgd : o.guard = none) (s x : Operand) (t e : TypeId) (hop : o.op = .call { callee := .builtin .append, args := #[s, x], argTypes := #[t, t] }) (hu : P.underlying t = some (.slice e)) (hi : (P.info? e).map (fun i => (i.zero, i.size, i.bytes)) = some (some (.string ⟨#[]⟩), 1, 16))
    (base : Nat) (v : Value) (L : List ByteArray) (hs : a.eval s = v) (p : ByteArray) (hx : a.eval x = .slice (some ⟨W.heap.size, 0, none⟩) 1 1) (HO : Kd.R Kd.string e W base (fun k => base ≤ k) v L) (hbase : base ≤ W.heap.size) (hl : (L.length + 1) * 16 ≤ 140737488355328)
    (h : ∀ v1 w1, Kd.R Kd.string e w1 base (fun k => base ≤ k) v1 (L ++ [p]) → W.grownBy w1 v.ownBlock → wpListIn F n P ops Q rest (a.put o.dst v1) w1) : wpListIn F n P ops Q (o :: rest) a (W.alloc (.cells #[.string p] e)) := by
  obtain ⟨i0, hi0, hzz⟩ := Option.map_eq_some_iff.1 hi
  simp only [Prod.mk.injEq] at hzz
  obtain ⟨hz0, hz1, hz2⟩ := hzz
  have hown := Kd.own_of_R (h1 := fun _ => rfl) HO
  refine wpListIn_append_own (W.alloc (.cells #[.string p] e)) hgd s x t hop base e i0 (.string ⟨#[]⟩) 1 16 hu hi0 hz0 hz1 hz2 rfl (by decide) v L.length (encs Value.string L) hs (hown.alloc _) ⟨W.heap.size, 0, none⟩ 1 1 [.string p] hx rfl
    (by
      intro j u hj
      match j, hj with
      | 0, hj =>
        cases hj
        exact (Blk.new W #[.string p] e).cell (i := 0) rfl) (fun u hu => by simp only [List.mem_singleton] at hu; subst hu; rfl) (by simp only [maxLen]; omega) hl (by simp; omega) ?_
  intro v' w' r1 r2 _
  have r1' : w'.ownsRow base e 1 v' (L ++ [p]).length (encs Value.string (L ++ [p])) := by
    rw [List.length_append, encs_append]
    exact r1
  exact h v' w' (Kd.R_of_own r1' (fun k hk => own_base r1' k hk)) (World.grownBy.trans (World.grownBy_alloc W _ v.ownBlock) r2)
end
def padN (s : List UInt8) : List UInt8 := s ++ List.replicate (384 - s.length) 0
def partN (s : List UInt8) (i : Nat) : ByteArray := B (((padN s).drop (64 * i)).take 64)
def shR (s : List UInt8) : List ByteArray × Int := if 384 < s.length then ([], 12) else ([0, 1, 2, 3, 4, 5].map (partN s), 0)
theorem padN_len (s : List UInt8) (h : s.length ≤ 384) : (padN s).length = 384 := by
  unfold padN
  rw [List.length_append, List.length_replicate]
  omega
theorem ninfoS : (Tryd.prog.info? 9).map (fun i => (i.zero, i.size, i.bytes)) = some (some (.string ⟨#[]⟩), 1, 16) := by kernel_rfl
theorem ninfoU0 : (Tryd.prog.info? 5).map (fun i => (i.zero, i.size, i.bytes)) = some (some (.int .u8 0), 1, 1) := by kernel_rfl
theorem ninfoU : ∃ i, Tryd.prog.info? 5 = some i ∧ i.zero = some (.int .u8 0) ∧ i.size = 1 ∧ i.bytes = 1 := by
  obtain ⟨i0, hi0, hzz⟩ := Option.map_eq_some_iff.1 ninfoU0
  simp only [Prod.mk.injEq] at hzz
  exact ⟨i0, hi0, hzz⟩
structure Sh (BL B1 B2 g cap : Nat) (s : List UInt8) (w0 : World) (v : Value) (L : List ByteArray) (W : World) : Prop where
  bl : Boxed W BL 49 v
  b1 : Boxed W B1 59 (.slice (some ⟨g, 0, none⟩) 384 cap)
  b2 : Boxed W B2 3 (.int .i64 64)
  ro : RowB w0.heap.size 5 (.slice (some ⟨g, 0, none⟩) (padN s).length cap) (padN s) W
  ol : Kd.R Kd.string 9 W w0.heap.size (fun k => w0.heap.size ≤ k) v L
  bw : Below w0.heap.size w0 W
  gL : w0.heap.size ≤ BL
theorem rowB_typed {B : Nat} {E : TypeId} {v : Value} {l : List UInt8} {W : World} (h : RowB B E v l W) : ∀ k, v.ownBlock = some k → ∃ cells fz, W.heap[k]? = some (.cells cells E fz) := by
  intro k hk
  rcases h with ⟨rfl, _⟩ | ⟨g, cap, cur, fz, rfl, _, hg, _⟩
  · cases hk
  · injection hk with hk
    exact ⟨cur, fz, by rw [← hk]; exact hg⟩
section
variable {BL B1 B2 g cap : Nat} {s : List UInt8} {w0 W W1 : World} {v : Value} {L : List ByteArray}
theorem Sh.below (h : Sh BL B1 B2 g cap s w0 v L W) (b : Below W.heap.size W W1) : Sh BL B1 B2 g cap s w0 v L W1 :=
  have hg := ngrown_below b none
  { h with
    bl := h.bl.kept hg (by simp)
    b1 := h.b1.kept hg (by simp)
    b2 := h.b2.kept hg (by simp)
    ro := h.ro.below b
    ol := Kd.R_below h.ol b
    bw := below2 h.bw h.bw.size b }
theorem Sh.calm (h : Sh BL B1 B2 g cap s w0 v L W) {row : Option Nat} (hg : W.grownBy W1 row) (hr : ∀ r, row = some r → w0.heap.size ≤ r ∧ ∃ o : Obj, W.heap[r]? = some o ∧ o.isCells = false) : Sh BL B1 B2 g cap s w0 v L W1 :=
  have hr2 := fun r e => (hr r e).2
  { h with
    bl := nblk_calm h.bl hg hr2
    b1 := nblk_calm h.b1 hg hr2
    b2 := nblk_calm h.b2 hg hr2
    ro := h.ro.grown hg (fun k hk e => by
      obtain ⟨cells, fz, hc⟩ := rowB_typed h.ro k hk
      obtain ⟨o, ho, hn⟩ := hr2 k e.symm
      rw [hc] at ho
      cases ho
      cases hn)
    ol := nR_calm h.ol hg hr2
    bw := h.bw.grown hg h.bw.size (fun k e => (hr k e).1) }
theorem Sh.put (h : Sh BL B1 B2 g cap s w0 v L W) {y : Value} {p : ByteArray} (hR : Kd.R Kd.string 9 W1 w0.heap.size (fun k => w0.heap.size ≤ k) y (L ++ [p])) (hg : W.grownBy W1 v.ownBlock) : Sh BL B1 B2 g cap s w0 y (L ++ [p]) (W1.setCell ⟨BL, 0, none⟩ y) :=
  have hr : ∀ k, v.ownBlock = some k → ∃ cells, W.heap[k]? = some (.cells cells 9 (0, 0)) := fun k e => Kd.R_typed h.ol k e
  have hbl := nbox_step h.bl hg _ hr (by decide)
  have g2 := ngrown_set W1 BL 0 y
  have q2 : ∀ k, some BL = some k → ∃ cells, W1.heap[k]? = some (.cells cells 49 (0, 0)) := fun k e => by injection e with e; subst e; exact ⟨_, hbl⟩
  have h1 : RowB w0.heap.size 5 (.slice (some ⟨g, 0, none⟩) (padN s).length cap) (padN s) W1 := h.ro.grown hg (fun k hk e => by
      obtain ⟨cells, fz, hc⟩ := rowB_typed h.ro k hk
      obtain ⟨c2, hc2⟩ := hr k e.symm
      rw [hc] at hc2
      injection hc2 with hc2
      injection hc2 with _ hc2
      exact absurd hc2 (by decide))
  { h with
    bl := hbl.set y
    b1 := nbox_step (nbox_step h.b1 hg _ hr (by decide)) g2 _ q2 (by decide)
    b2 := nbox_step (nbox_step h.b2 hg _ hr (by decide)) g2 _ q2 (by decide)
    ro := h1.grown g2 (fun k hk e => by
      obtain ⟨cells, fz, hc⟩ := rowB_typed h1 k hk
      obtain ⟨c2, hc2⟩ := q2 k e.symm
      rw [hc] at hc2
      injection hc2 with hc2
      injection hc2 with _ hc2
      exact absurd hc2 (by decide))
    ol := nR_step hR g2 _ q2 (fun q hq => by rcases List.mem_cons.1 hq with rfl | hq; decide; cases hq)
    bw := (h.bw.grown hg h.bw.size (fun k e => h.ol.1 k e)).setCell (p := ⟨BL, 0, none⟩) h.gL _ }
end
set_option maxRecDepth 100000 in
set_option maxHeartbeats 2000000 in
theorem nshards_calls (s : List UInt8) (w : World) : Calls Tryd.prog 23 #[.string (B s)] w fun e w' => ∃ v0 : Value, e = .returned (.tuple #[v0, .int .i64 (shR s).2]) ∧ Kd.R Kd.string 9 w' w.heap.size (fun _ => True) v0 (shR s).1 ∧ Below w.heap.size w w' := by
  refine (callsIn_wide (n := 5)).1 ?_
  refine callsIn_of_wp_marks Tryd.func23 rfl trivial ?_ rfl
  simp only [Tryd.ntmps23, List.size_toArray, List.length_cons, List.length_nil, Nat.reduceAdd, Nat.reduceSub, Array.replicate_succ, Array.replicate_zero, List.push_toArray, List.append_toArray, List.nil_append, List.cons_append]
  have hF : Fence.wide.fn 42 := trivial
  by_cases hs : 384 < s.length
  case pos =>
    have hs2 : 384 < (B s).size := by rw [B_size]; exact hs
    have hr : shR s = ([], 12) := if_pos hs
    gi_wp2
    refine ⟨_, results_tmp2 rfl _ _ _, _, by rw [hr]; rfl, by rw [hr]; exact Kd.R_nil _ _ _ _ _, Below.refl _ _⟩
  case neg =>
    have hs2 : ¬ 384 < (B s).size := by rw [B_size]; exact hs
    have hsl : s.length ≤ 384 := by omega
    have hr : shR s = ([0, 1, 2, 3, 4, 5].map (partN s), 0) := if_neg hs
    have hcv := fun (W : World) => Lib.run_convert_string_bytes (P := Tryd.prog) W 9 59 5 (B s) Tryd.underlying9 Tryd.underlying59 Tryd.underlying5
    obtain ⟨i0, hi0, hz0, hz1, hz2⟩ := ninfoU
    have hO0 := RowB.bytes (w.alloc (.cells #[.slice none 0 0] 49)) 5 (B s) (by rw [B_size]; unfold maxLen; omega)
    have hb0 := RowB.bytesBelow (w.alloc (.cells #[.slice none 0 0] 49)) 5 (B s)
    rw [B_data, B_size, World.size_alloc] at hO0
    obtain ⟨v1, w1, hrun, hO1, hg1⟩ := run_append_zerosB (P := Tryd.prog) _ (w.heap.size + 1) 59 3 59 5 i0 Tryd.underlying59 Tryd.underlying3 hi0 hz0 hz1 hz2 (w.heap.size + 1) _ s hO0 .i64 (384 - s.length) (by omega) (by rw [Lib.bytesWorld_size, World.size_alloc]; exact Nat.le_succ _)
    have hpad : s ++ List.replicate (384 - s.length) 0 = padN s := rfl
    rw [hpad] at hO1
    have hp384 := padN_len s hsl
    obtain ⟨g, cap, rfl, hge, hglt, hcap, hcm⟩ := hO1.ne (by intro e; rw [e] at hp384; cases hp384)
    have hB1 : Below w.heap.size w w1 := ((below_alloc (Below.refl _ w) _).trans (hb0.mono (by rw [World.size_alloc]; exact Nat.le_succ _))).grown hg1 (by rw [Lib.bytesWorld_size, World.size_alloc]; omega) (fun k e => by injection e with e; omega)
    have hL1 : Boxed w1 w.heap.size 49 (.slice none 0 0) := ((Boxed.new w 49 (.slice none 0 0)).kept (ngrown_below hb0 none) (by simp)).kept hg1 (fun e => by injection e with e; omega)
    have hi2 : ((384 - s.length : Nat) : Int) = 384 - ((B s).size : Int) := by rw [B_size]; omega
    rw [hi2, ← B_size s] at hrun
    rw [hp384] at hrun
    gi_wp2_with (first | (gi_at_builtin; refine nwpListIn_append rfl (.tmp 11) (.tmp 14) 59 3 rfl _ _ _ _ rfl rfl hrun ?_) | (gi_at_call 42; refine (chunk_calls g cap _ _).mono ?_; rintro e w' ⟨rfl, rfl⟩))
    have hbb : Below w1.heap.size w1 ((w1.alloc (.cells #[.slice (some ⟨g, 0, none⟩) 384 cap] 59)).alloc (.cells #[.int .i64 64] 3)) := below_alloc (below_alloc (Below.refl _ w1) _) _
    have hx2 := Boxed.new (w1.alloc (.cells #[.slice (some ⟨g, 0, none⟩) 384 cap] 59)) 3 (.int .i64 64)
    rw [World.size_alloc] at hx2
    have G : Sh w.heap.size w1.heap.size (w1.heap.size + 1) g cap s w (.slice none 0 0) [] ((w1.alloc (.cells #[.slice (some ⟨g, 0, none⟩) 384 cap] 59)).alloc (.cells #[.int .i64 64] 3)) :=
      ⟨hL1.kept (ngrown_below hbb none) (by simp), (Boxed.new w1 _ _).alloc _, hx2, (hO1.below hbb).raise (Nat.le_succ _), Kd.R_nil _ _ _ _ _, below2 hB1 hB1.size hbb, Nat.le_refl _⟩
    generalize (w1.alloc (.cells #[.slice (some ⟨g, 0, none⟩) 384 cap] 59)).alloc (.cells #[.int .i64 64] 3) = W0 at G ⊢
    have hn0 : w.heap.size ≤ W0.heap.size := G.bw.size
    refine wpIn_range_stops rfl (by decide) (gf := 60) (lb := #[.pointer (some ⟨w1.heap.size, 0, none⟩), .pointer (some ⟨w1.heap.size + 1, 0, none⟩)]) rfl trivial (enters_of Tryd.func60 (by kernel_rfl) rfl) (encs := fun x : Nat => #[.slice (some ⟨g, 64 * x, none⟩) 64 64]) (fun x _ => x < 6) (fun _ => False) (fun ys => ys = [0, 1, 2, 3, 4, 5]) (fun _ => False) 6 w.heap.size (fun W => W.cell? ⟨w1.heap.size, 0, none⟩ = some (.slice (some ⟨g, 0, none⟩) 384 cap) ∧ W.cell? ⟨w1.heap.size + 1, 0, none⟩ = some (.int .i64 64)) hn0 (fun _ => rfl) ?seq (fun pre W => ∃ v, Sh w.heap.size w1.heap.size (w1.heap.size + 1) g cap s w v (pre.map (partN s)) W) (fun _ _ => False) ?own (fun _ _ _ _ h _ _ => h) ?bx ⟨_, G⟩ (fun pre x a' W => ∃ v, x < 6 ∧ pre.length < 6 ∧ a' = { tmps := #[.string (B s), undef, .slice none 0 0, .int .i64 0, .pointer (some ⟨w.heap.size, 0, none⟩), .slice (some ⟨g, 0, none⟩) 384 cap, .slice (some ⟨g, 64 * x, none⟩) 64 64, .string (B s), .int .i64 ((B s).size : Int), .bool (decide (384 < ((B s).size : Int))), .string (B s), .slice (some ⟨w.heap.size + 1, 0, none⟩) (B s).size (grownCap (w.alloc (.cells #[.slice none 0 0] 49)) (B s).size 0 5), .string (B s), .int .i64 ((B s).size : Int), .int .i64 (384 - ((B s).size : Int)), .slice (some ⟨g, 0, none⟩) 384 cap, .slice (some ⟨g, 0, none⟩) 384 cap, .func (.func 60) #[] #[.pointer (some ⟨w1.heap.size, 0, none⟩), .pointer (some ⟨w1.heap.size + 1, 0, none⟩)], .slice (some ⟨g, 64 * x, none⟩) 64 64, undef, undef, undef, undef, undef, undef], defers := [] } ∧ Sh w.heap.size w1.heap.size (w1.heap.size + 1) g cap s w v (pre.map (partN s)) W) ?ax ?assign ?body ?done (fun _ _ _ _ hf _ _ => hf.elim)
    case seq =>
      intro lq J Jx W hW hJ hJx hBx hY h0
      exact (chunk_in _ (by decide) lq w1.heap.size (w1.heap.size + 1) g cap (by rw [← hp384]; exact hcap) w J Jx hJ hBx hY W (below2 G.bw hn0 hW) h0).mono (fun e W' h => ⟨h.1, h.2.imp id (fun ⟨ys, hf, _⟩ => hf.elim)⟩)
    case own =>
      rintro pre X Y row ⟨v, h⟩ hg hr
      exact ⟨v, h.calm hg (fun r e => ⟨Nat.le_trans hn0 (hr r e).1, (hr r e).2⟩)⟩
    case bx =>
      rintro ys X ⟨v, h⟩
      exact ⟨h.b1.cell, h.b2.cell⟩
    case ax =>
      rintro pre x a' _ X Y row ⟨v, h1, h2, h3, h4⟩ hg hr
      exact ⟨v, h1, h2, h3, h4.calm hg (fun r e => ⟨Nat.le_trans hn0 (hr r e).1, (hr r e).2⟩)⟩
    case assign =>
      rintro lq pre x W K ⟨v, HG⟩ hv hN hK
      gi_wp2
      exact hK _ _ ⟨Nat.le_refl _, fun _ _ _ hk _ => hk⟩ (Below.refl _ _) ⟨v, hv, hN, rfl, HG⟩
    case body =>
      rintro lq pre x a' W ⟨v, hx, hpl, rfl, HG⟩
      have hc := HG.bl.cell
      have hl64 : (((padN s).drop (64 * x)).take 64).length = 64 := by rw [List.length_take, List.length_drop, hp384]; omega
      have hcv2 := run_string_bytes (P := Tryd.prog) W 59 9 5 Tryd.underlying59 Tryd.underlying5 Tryd.underlying9 g (64 * x) 64 (((padN s).drop (64 * x)).take 64) (fun j y hj => by
        have h1 : (padN s)[64 * x + j]? = some y := by
          rw [List.getElem?_take] at hj
          split at hj
          · rw [List.getElem?_drop] at hj; exact hj
          · cases hj
        exact HG.ro.cells (g := g) rfl _ _ h1)
      rw [hl64] at hcv2
      replace hcv2 : (convert 59 9 (.slice (some ⟨g, 64 * x, none⟩) 64 64)).run Tryd.prog W = .ok (.string (partN s x)) W := hcv2
      clear hcv
      gi_wp2_with (gi_at_builtin; refine nappend_str rfl (.tmp 19) (.tmp 22) 49 9 rfl Tryd.underlying49 ninfoS w.heap.size v (pre.map (partN s)) rfl (partN s x) rfl HG.ol HG.bw.size (by rw [List.length_map]; omega) ?_; intro y1 w5 hR hg5; obtain ⟨A1, n1, c1, rfl⟩ : ∃ A1 n1 c1, y1 = .slice A1 n1 c1 := (by obtain ⟨A1, c1, e⟩ := Kd.R_slice hR; exact ⟨A1, _, c1, e⟩); have hbl5 : Boxed w5 w.heap.size 49 v := nbox_step HG.bl hg5 _ (fun k e => Kd.R_typed HG.ol k e) (by decide); have hc5 := hbl5.cell; have hf5 := hbl5.frozen)
      have hfin := HG.put hR hg5
      have bk : KeepsFrom W0.heap.size W (w5.setCell ⟨w.heap.size, 0, none⟩ (.slice A1 n1 c1)) := (nkeeps_typed hg5 (fun k e => Kd.R_typed HG.ol k e)).trans ((KeepsOthers.setCell w5 ⟨w.heap.size, 0, none⟩ (.slice A1 n1 c1)).from W0.heap.size)
      exact ⟨bk, nbelow_between HG.bw hfin.bw bk.size, .slice A1 n1 c1, hfin⟩
    case done =>
      rintro D ys W hD hS ⟨v, HG⟩ hK
      subst hS
      have hc := HG.bl.cell
      gi_wp2
      refine ⟨by simp, .inl ⟨_, _, rfl, run_takeDeferred hK, ?_⟩⟩
      have hfin := HG.calm (grownBy_putObj' W D (.deferred none)) (fun r e' => by cases e'; exact ⟨Nat.le_trans hn0 hD, _, hK, rfl⟩)
      refine ⟨_, results_tmp2 rfl _ _ _, v, by rw [hr]; rfl, ?_, hfin.bw⟩
      rw [hr]
      exact Kd.R_mono hfin.ol (fun _ _ => trivial)
def needle_Shards.f (a0 : ByteArray) : Option (List ByteArray × Int) := some (shR a0.data.toList)
theorem needle_Shards.calls (a0 : ByteArray) (r1 : List ByteArray) (r2 : Int) (w : World) (h : needle_Shards.f a0 = some (r1, r2)) :
    Calls Tryd.prog 23 #[.string a0] w fun e w' => ∃ v0_ : Value, e = .returned (.tuple #[v0_, .int .i64 r2]) ∧ Kd.R Kd.string 9 w' w.heap.size (fun _ => True) v0_ r1 ∧ Below w.heap.size w w' := by
  have e := Option.some.inj h
  have := nshards_calls a0.data.toList w
  rw [B_eta, e] at this
  exact this
end Go.Proofs.YtpgfafpjfdbjmaaDoor
end
