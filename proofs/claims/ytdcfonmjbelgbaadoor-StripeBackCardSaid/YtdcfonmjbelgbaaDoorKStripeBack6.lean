/- Lemmas for the law StripeBack, merged out of several texts and cut down to what it names, by a program of this session (some of the first ones are of the words that print.sh wrote for this claim). -/
import Derived.Test.YtdcfonmjbelgbaaDoorKStripeBack1
import Derived.Test.YtdcfonmjbelgbaaDoorKStripeBack2
import Derived.Test.YtdcfonmjbelgbaaDoorKStripeBack3
import Derived.Test.YtdcfonmjbelgbaaDoorKStripeBack4
import Derived.Test.YtdcfonmjbelgbaaDoorKStripeBack5
set_option linter.unusedVariables false
set_option linter.unusedSimpArgs false
section
namespace Go.Proofs.YtdcfonmjbelgbaaDoor.Q
open Go.RowKit Go.Proofs.YtdcfonmjbelgbaaDoorW.PrintWords Go.Proofs.YtdcfonmjbelgbaaDoorW.PrintLast Go.Proofs.YtdcfonmjbelgbaaDoorW.PrintMore
attribute [local go_sem] max2_int min2_int max_two min_two max_three min_three max_four min_four   -- for this text's walks alone
set_option linter.unusedVariables false
set_option linter.unusedSimpArgs false
mutual
def sluicegatelaw19_StripeBack.j0 : Nat → ByteArray → List Int → ByteArray → Bool → Int → Int → Int → List (S56) → Option (Bool)
  | 0, _, _, _, _, _, _, _, _ => none
  | k + 1, x4, x5, x6, x42, x177000, x177001, x177002, x177003 => if x42 = true then ((sluicegatelaw19_live.f).bind fun t178 => (some t178)) else ((stripe_Sectors.f x177000 x177001 x177002 x177003 x4).bind fun bt179 => (if bt179.2 = 0 then (if (bt179.1.length : Int) = 9 then (if ([] : List ByteArray).length + bt179.1.length < 8796093022208 then (if 9 ≤ 281474976710656 then (sluicegatelaw19_StripeBack.l0 k x4 x5 x6 (([] : List ByteArray) ++ bt179.1) (List.replicate 9 false) 0 x177000 x177001 x177002 x177003) else (none)) else (none)) else (some false)) else (if (bt179.1.length : Int) = 0 then ((sluicegatelaw19_live.f).bind fun t183 => (some t183)) else (some false))))
def sluicegatelaw19_StripeBack.l0 : Nat → ByteArray → List Int → ByteArray → List ByteArray → List Bool → Int → Int → Int → Int → List (S56) → Option (Bool)
  | 0, _, _, _, _, _, _, _, _, _, _ => none
  | k + 1, x4, x5, x6, x9, x10, x11, x177000, x177001, x177002, x177003 => if x11 < (x5.length : Int) then (if 0 ≤ x11 then (if (rd x5 x11) ≥ 0 then (if (rd x5 x11) < 9 then (if 0 ≤ (rd x5 x11) then (if (rd x5 x11) < (x9.length : Int) then (if (rd x5 x11) < (x10.length : Int) then (sluicegatelaw19_StripeBack.l0 k x4 x5 x6 (x9.set ((rd x5 x11) : Int).toNat x6) (x10.set ((rd x5 x11) : Int).toNat true) (wrap64 (x11 + 1)) x177000 x177001 x177002 x177003) else (none)) else (none)) else (none)) else (sluicegatelaw19_StripeBack.l0 k x4 x5 x6 x9 x10 (wrap64 (x11 + 1)) x177000 x177001 x177002 x177003)) else (sluicegatelaw19_StripeBack.l0 k x4 x5 x6 x9 x10 (wrap64 (x11 + 1)) x177000 x177001 x177002 x177003)) else (none)) else (sluicegatelaw19_StripeBack.l1 k x4 x9 x10 ([] : List Int) 0 x177000 x177001 x177002 x177003)
def sluicegatelaw19_StripeBack.l1 : Nat → ByteArray → List ByteArray → List Bool → List Int → Int → Int → Int → Int → List (S56) → Option (Bool)
  | 0, _, _, _, _, _, _, _, _, _ => none
  | k + 1, x4, x9, x10, x12, x13, x177000, x177001, x177002, x177003 => if x13 < 9 then (if 0 ≤ x13 then (if x13 < (x10.length : Int) then (if rdOf false x10 x13 = true then (if x12.length < 17592186044416 then (sluicegatelaw19_StripeBack.l1 k x4 x9 x10 (x12 ++ [x13]) (wrap64 (x13 + 1)) x177000 x177001 x177002 x177003) else (none)) else (sluicegatelaw19_StripeBack.l1 k x4 x9 x10 x12 (wrap64 (x13 + 1)) x177000 x177001 x177002 x177003)) else (none)) else (none)) else ((stripe_Text.f k x177000 x177001 x177002 x177003 x9).bind fun bt200 => ((sluicegateref06_Ints.f k bt200.2.1 x12).bind fun t205 => (if t205 = true then (if (x12.length : Int) > 3 then (if bt200.1.toList = ([] : List UInt8) then (if bt200.2.2 = 2 then ((sluicegatelaw19_live.f).bind fun t206 => (some t206)) else (some false)) else (some false)) else (if bt200.1.toList = x4.toList then (if bt200.2.2 = 0 then ((sluicegatelaw19_live.f).bind fun t207 => (some t207)) else (some false)) else (some false))) else (some false))))
end
def sluicegatelaw19_StripeBack.f (k : Nat) (a0_0 : Int) (a0_1 : Int) (a0_2 : Int) (l0_3 : List (S56)) (a0_4 : ByteArray) (l0_5 : List Int) (a0_6 : ByteArray) : Option (Bool) := (sluicegatelaw19_small.f a0_0 a0_1 a0_2 l0_3).bind fun t177 => (if t177 = true then (if (a0_4.size : Int) > 500 then (sluicegatelaw19_StripeBack.j0 k a0_4 l0_5 a0_6 true a0_0 a0_1 a0_2 l0_3) else (if (l0_5.length : Int) > 9 then (sluicegatelaw19_StripeBack.j0 k a0_4 l0_5 a0_6 true a0_0 a0_1 a0_2 l0_3) else (sluicegatelaw19_StripeBack.j0 k a0_4 l0_5 a0_6 (decide ((a0_6.size : Int) > 60)) a0_0 a0_1 a0_2 l0_3))) else (sluicegatelaw19_StripeBack.j0 k a0_4 l0_5 a0_6 true a0_0 a0_1 a0_2 l0_3))
def sluicegatelaw19_StripeBack.T1 : Bool × List (List Nat × List Nat) := (true, [([], []), ([0], [0]), ([], []), ([2], [2]), ([], []), ([4], [4]), ([], []), ([6], [6]), ([], []), ([8, 1, 0, 1, 8], [1, 8]), ([3, 9, 0, 1, 2, 3, 8, 9], [3]), ([5, 10, 0, 1, 2, 3, 4, 5, 8, 9, 10], [5]), ([7, 11, 0, 1, 2, 3, 4, 5, 6, 7, 8, 9, 10, 11], [7])])
def sluicegatelaw19_StripeBack.B1 : List Nat := [0, 1, 0, 4, 0, 16, 0, 64, 0, 259, 783, 1855, 4095]
theorem sluicegatelaw19_StripeBack.tab1 : rtab .any (opsOf Tryd.f3 1) = sluicegatelaw19_StripeBack.T1 := by kernel_rfl
theorem sluicegatelaw19_StripeBack.bits1 : waitsOk sluicegatelaw19_StripeBack.T1.2 sluicegatelaw19_StripeBack.B1 = true := by kernel_rfl
set_option maxHeartbeats 8000000 in
set_option maxRecDepth 100000 in
theorem sluicegatelaw19_StripeBack.calls (k : Nat) (a0_0 : Int) (a0_1 : Int) (a0_2 : Int) (A0_3 : Option Addr) (c0_3 : Nat) (l0_3 : List (S56)) (a0_4 : ByteArray) (A0_5 : Option Addr) (c0_5 : Nat) (l0_5 : List Int) (a0_6 : ByteArray) (r : Bool) (w : World) (hr0_3 : Kd.C k56 w A0_3 l0_3.length l0_3) (hc0_3 : l0_3.length ≤ c0_3) (hr0_5 : Kd.C (Kd.int .i64) w A0_5 l0_5.length l0_5) (hc0_5 : l0_5.length ≤ c0_5) (h : sluicegatelaw19_StripeBack.f k a0_0 a0_1 a0_2 l0_3 a0_4 l0_5 a0_6 = some r) :
    Calls Tryd.prog 3 #[.agg #[.int .i64 a0_0, .int .i64 a0_1, .int .i64 a0_2, .slice A0_3 l0_3.length c0_3, .string a0_4, .slice A0_5 l0_5.length c0_5, .string a0_6]] w fun e w' => e = .returned (.bool r) ∧ Below w.heap.size w w' := by
  have hu27 := Tryd.underlying27
  have hu24 := Tryd.underlying24
  have HR0_3 := Aside0.mk hr0_3
  have HC0_3 := Aside0.mk hc0_3
  clear hr0_3 hc0_3
  have HR0_5 := Aside0.mk hr0_5
  have HC0_5 := Aside0.mk hc0_5
  clear hr0_5 hc0_5
  have HB := Aside0.mk (Below.refl w.heap.size w)
  have H : ((sluicegatelaw19_small.f a0_0 a0_1 a0_2 l0_3).bind fun t177 => (if t177 = true then (if (a0_4.size : Int) > 500 then (sluicegatelaw19_StripeBack.j0 k a0_4 l0_5 a0_6 true a0_0 a0_1 a0_2 l0_3) else (if (l0_5.length : Int) > 9 then (sluicegatelaw19_StripeBack.j0 k a0_4 l0_5 a0_6 true a0_0 a0_1 a0_2 l0_3) else (sluicegatelaw19_StripeBack.j0 k a0_4 l0_5 a0_6 (decide ((a0_6.size : Int) > 60)) a0_0 a0_1 a0_2 l0_3))) else (sluicegatelaw19_StripeBack.j0 k a0_4 l0_5 a0_6 true a0_0 a0_1 a0_2 l0_3))) = some r := h
  clear h
  have HC2 := Aside0.mk H
  clear H
  go_enter Tryd.func3, Tryd.ntmps3
  try go_wp2_with (first | ((with_reducible refine gate_dst (N := 1) rfl ?_); (try (refine gate_guard (by rfl) ?_; dsimp only)); refine box_event ?hg (N := 1) ?hd (cs := #[.int .i64 a0_0, .int .i64 a0_1, .int .i64 a0_2, .slice A0_3 l0_3.length c0_3, .string a0_4, .slice A0_5 l0_5.length c0_5, .string a0_6]) (t := 27) ?hr ?_; (case hd => rfl); (case hg => rfl); (case hr => first | (go_simp; done) | (go_simp; rfl)); intro gb175 hg w3 hbox hb; have n0_ := Aside0.mk (below_step (by repeat (first | (with_reducible first | exact HB.out | apply below_alloc | apply pw_below_drewN | apply below_drew1) | exact HB.out)) hb); have n1_ := Aside0.mk (hbox); have n2_ := Aside0.mk ((by rw [hg]; exact (below_size (by repeat (first | (with_reducible first | exact HB.out | apply below_alloc | apply pw_below_drewN | apply below_drew1) | exact HB.out))) : w.heap.size ≤ gb175)); have n3_ := Aside0.mk ((by rw [hg]; exact (below_size (by repeat (first | (with_reducible first | exact HB.out | apply below_alloc | apply pw_below_drewN | apply below_drew1) | exact HB.out))) : w.heap.size ≤ gb175)); clear HB; have HB := n0_; have BK175 := n1_; have GW175 := n2_; have GE175 := n3_; clear n0_ n1_ n2_ n3_; clear hb hbox hg))
  have n0_ := Aside0.mk (blk_drew BK175.out)
  have n1_ := Aside0.mk (below_drew1 HB.out)
  clear BK175
  clear HB
  have BK175 := n0_
  have HB := n1_
  clear n0_ n1_
  refine start_ (n := 13) (S := fun w' => w'.cell? ⟨gb175, 0, none⟩ = some (.int .i64 a0_0) ∧ w'.cell? ⟨gb175, 1, none⟩ = some (.int .i64 a0_1) ∧ w'.cell? ⟨gb175, 2, none⟩ = some (.int .i64 a0_2) ∧ w'.cell? ⟨gb175, 3, none⟩ = some (.slice A0_3 l0_3.length c0_3) ∧ w'.cell? ⟨gb175, 4, none⟩ = some (.string a0_4) ∧ w'.cell? ⟨gb175, 5, none⟩ = some (.slice A0_5 l0_5.length c0_5) ∧ w'.cell? ⟨gb175, 6, none⟩ = some (.string a0_6)) (ds := []) #[false, false, false, false, false, false, false, false, false, false, false, false, false] (by kernel_rfl) rfl rfl ⟨(blk_cell BK175.out 0).trans rfl, (blk_cell BK175.out 1).trans rfl, (blk_cell BK175.out 2).trans rfl, (blk_cell BK175.out 3).trans rfl, (blk_cell BK175.out 4).trans rfl, (blk_cell BK175.out 5).trans rfl, (blk_cell BK175.out 6).trans rfl⟩ (fun hHeld => ?_); refine with_tabW sluicegatelaw19_StripeBack.tab1 sluicegatelaw19_StripeBack.bits1 (fun HT_ HW_ => ?_)
  generalize w3.drew = w4 at BK175 HB hHeld ⊢
  refine pure_ (i := 0) (N := some 17) (v := ?_) (a' := ?_) #[true, false, false, false, false, false, false, false, false, false, false, false, false] rfl rfl (any_of HT_.out (by kernel_rfl)) (fun _ _ _ h => h) (Or.inl ⟨by rfl, ?_⟩) ?_ ?_
  rotate_left
  · intro w'
    go_simp
    with_reducible rfl
  rotate_left
  · simp only [Act.put, List.setIfInBounds_toArray, List.set_cons_zero, List.set_cons_succ, i64_w, i32_w]
    rfl
  refine pure_ (i := 2) (N := some 19) (v := ?_) (a' := ?_) #[true, false, true, false, false, false, false, false, false, false, false, false, false] rfl rfl (any_of HT_.out (by kernel_rfl)) (fun _ _ _ h => h) (Or.inl ⟨by rfl, ?_⟩) ?_ ?_
  rotate_left
  · intro w'
    go_simp
    with_reducible rfl
  rotate_left
  · simp only [Act.put, List.setIfInBounds_toArray, List.set_cons_zero, List.set_cons_succ, i64_w, i32_w]
    rfl
  refine pure_ (i := 4) (N := some 21) (v := ?_) (a' := ?_) #[true, false, true, false, true, false, false, false, false, false, false, false, false] rfl rfl (any_of HT_.out (by kernel_rfl)) (fun _ _ _ h => h) (Or.inl ⟨by rfl, ?_⟩) ?_ ?_
  rotate_left
  · intro w'
    go_simp
    with_reducible rfl
  rotate_left
  · simp only [Act.put, List.setIfInBounds_toArray, List.set_cons_zero, List.set_cons_succ, i64_w, i32_w]
    rfl
  refine pure_ (i := 6) (N := some 23) (v := ?_) (a' := ?_) #[true, false, true, false, true, false, true, false, false, false, false, false, false] rfl rfl (any_of HT_.out (by kernel_rfl)) (fun _ _ _ h => h) (Or.inl ⟨by rfl, ?_⟩) ?_ ?_
  rotate_left
  · intro w'
    go_simp
    with_reducible rfl
  rotate_left
  · simp only [Act.put, List.setIfInBounds_toArray, List.set_cons_zero, List.set_cons_succ, i64_w, i32_w]
    rfl
  refine take_ (i := 1) (N := some 18) (v := ?_) (a' := ?_) #[true, true, true, false, true, false, true, false, false, false, false, false, false] rfl rfl (take_ofW HT_.out HW_.out (by kernel_rfl)) (fun _ _ _ h => h) (Or.inl ⟨by rfl, ?_⟩) hHeld ?_ ?_
  rotate_left
  · rintro w' ⟨s0, s1, s2, s3, s4, s5, s6⟩
    go_simp
    with_reducible rfl
  rotate_left
  · simp only [Act.put, List.setIfInBounds_toArray, List.set_cons_zero, List.set_cons_succ, i64_w, i32_w]
    rfl
  refine take_ (i := 3) (N := some 20) (v := ?_) (a' := ?_) #[true, true, true, true, true, false, true, false, false, false, false, false, false] rfl rfl (take_ofW HT_.out HW_.out (by kernel_rfl)) (fun _ _ _ h => h) (Or.inl ⟨by rfl, ?_⟩) hHeld ?_ ?_
  rotate_left
  · rintro w' ⟨s0, s1, s2, s3, s4, s5, s6⟩
    go_simp
    with_reducible rfl
  rotate_left
  · simp only [Act.put, List.setIfInBounds_toArray, List.set_cons_zero, List.set_cons_succ, i64_w, i32_w]
    rfl
  refine take_ (i := 5) (N := some 22) (v := ?_) (a' := ?_) #[true, true, true, true, true, true, true, false, false, false, false, false, false] rfl rfl (take_ofW HT_.out HW_.out (by kernel_rfl)) (fun _ _ _ h => h) (Or.inl ⟨by rfl, ?_⟩) hHeld ?_ ?_
  rotate_left
  · rintro w' ⟨s0, s1, s2, s3, s4, s5, s6⟩
    go_simp
    with_reducible rfl
  rotate_left
  · simp only [Act.put, List.setIfInBounds_toArray, List.set_cons_zero, List.set_cons_succ, i64_w, i32_w]
    rfl
  refine take_ (i := 7) (N := some 24) (v := ?_) (a' := ?_) #[true, true, true, true, true, true, true, true, false, false, false, false, false] rfl rfl (take_ofW HT_.out HW_.out (by kernel_rfl)) (fun _ _ _ h => h) (Or.inl ⟨by rfl, ?_⟩) hHeld ?_ ?_
  rotate_left
  · rintro w' ⟨s0, s1, s2, s3, s4, s5, s6⟩
    go_simp
    with_reducible rfl
  rotate_left
  · simp only [Act.put, List.setIfInBounds_toArray, List.set_cons_zero, List.set_cons_succ, i64_w, i32_w]
    rfl
  refine one_ (i := 8) (N := some 3) #[true, true, true, true, true, true, true, true, true, false, false, false, false] rfl rfl (one_of HT_.out (by kernel_rfl)) (by decide) (fun K hK => ?_)
  refine box_step ?hg (N := 3) ?hd (cs := #[.int .i64 0, .int .i64 0, .int .i64 0, .slice none 0 0]) (t := 24) ?hr ?_; (case hd => rfl); (case hg => rfl); (case hr => first | (go_simp; done) | (go_simp; rfl))
  intro gb176 hg w5 hbox hb
  have n0_ := Aside0.mk (blk_below (g := gb175) (o := .cells #[.int .i64 a0_0, .int .i64 a0_1, .int .i64 a0_2, .slice A0_3 l0_3.length c0_3, .string a0_4, .slice A0_5 l0_5.length c0_5, .string a0_6] 27 (0, 0)) (by (with_reducible repeat (first | refine blk_drewN ?_ _ | refine blk_drew ?_ | refine blk_alloc ?_ _)); exact BK175.out) hb)
  have n1_ := Aside0.mk (below_step (by repeat (first | (with_reducible first | exact HB.out | apply below_alloc | apply pw_below_drewN | apply below_drew1 | refine below_set ?_ GE175.out) | exact HB.out)) hb)
  have n2_ := Aside0.mk (hbox)
  have n3_ := Aside0.mk ((by rw [hg]; exact (below_size (by repeat (first | (with_reducible first | exact HB.out | apply below_alloc | apply pw_below_drewN | apply below_drew1 | refine below_set ?_ GE175.out) | exact HB.out))) : w.heap.size ≤ gb176))
  have n4_ := Aside0.mk ((by rw [hg]; exact (below_size (by repeat (first | (with_reducible first | exact HB.out | apply below_alloc | apply pw_below_drewN | apply below_drew1 | refine below_set ?_ GE175.out) | exact HB.out))) : w.heap.size ≤ gb176))
  have n5_ := Aside0.mk ((by rw [hg]; exact Nat.ne_of_lt (blk_lt (g := gb175) (o := .cells #[.int .i64 a0_0, .int .i64 a0_1, .int .i64 a0_2, .slice A0_3 l0_3.length c0_3, .string a0_4, .slice A0_5 l0_5.length c0_5, .string a0_6] 27 (0, 0)) (by (with_reducible repeat (first | refine blk_drewN ?_ _ | refine blk_drew ?_ | refine blk_alloc ?_ _)); exact BK175.out)) : gb175 ≠ gb176))
  have n6_ := Aside0.mk ((by rw [hg]; exact Nat.ne_of_gt (blk_lt (g := gb175) (o := .cells #[.int .i64 a0_0, .int .i64 a0_1, .int .i64 a0_2, .slice A0_3 l0_3.length c0_3, .string a0_4, .slice A0_5 l0_5.length c0_5, .string a0_6] 27 (0, 0)) (by (with_reducible repeat (first | refine blk_drewN ?_ _ | refine blk_drew ?_ | refine blk_alloc ?_ _)); exact BK175.out)) : gb176 ≠ gb175))
  clear BK175
  clear HB
  have BK175 := n0_
  have HB := n1_
  have BK176 := n2_
  have GW176 := n3_
  have GE176 := n4_
  have NB175_176 := n5_
  have NB176_175 := n6_
  clear n0_ n1_ n2_ n3_ n4_ n5_ n6_
  clear hb hbox hg
  refine hK.out _ _ ⟨(blk_cell BK175.out 0).trans rfl, (blk_cell BK175.out 1).trans rfl, (blk_cell BK175.out 2).trans rfl, (blk_cell BK175.out 3).trans rfl, (blk_cell BK175.out 4).trans rfl, (blk_cell BK175.out 5).trans rfl, (blk_cell BK175.out 6).trans rfl⟩ (fun hHeld => ?_)
  clear hK K
  refine norm_ (a' := ?_) ?_ ?_
  rotate_left
  · show Act.put _ (some 3) _ = _
    simp only [Act.put, List.setIfInBounds_toArray, List.set_cons_zero, List.set_cons_succ, i64_w, i32_w]
    rfl
  refine one_ (i := 9) (N := none) #[true, true, true, true, true, true, true, true, true, true, false, false, false] rfl rfl (one_of HT_.out (by kernel_rfl)) (by decide) (fun K hK => ?_)
  have hs6 : w5.cell? ⟨gb176, 0, none⟩ = some (.int .i64 0) := (blk_cell BK176.out 0).trans rfl
  have hfs6 := blk_frozen BK176.out 0
  have hns6_0 := NB175_176.out
  have hms6_0 := NB176_175.out
  have hs7 : w5.cell? ⟨gb176, 1, none⟩ = some (.int .i64 0) := (blk_cell BK176.out 1).trans rfl
  have hfs7 := blk_frozen BK176.out 1
  have hns7_0 := NB175_176.out
  have hms7_0 := NB176_175.out
  have hs8 : w5.cell? ⟨gb176, 2, none⟩ = some (.int .i64 0) := (blk_cell BK176.out 2).trans rfl
  have hfs8 := blk_frozen BK176.out 2
  have hns8_0 := NB175_176.out
  have hms8_0 := NB176_175.out
  have hs9 : w5.cell? ⟨gb176, 3, none⟩ = some (.slice none 0 0) := (blk_cell BK176.out 3).trans rfl
  have hfs9 := blk_frozen BK176.out 3
  have hns9_0 := NB175_176.out
  have hms9_0 := NB176_175.out
  refine skip_ (w1 := ?_) (by rfl) rfl ?_ ?_
  rotate_left
  · go_simp
    rfl
  refine hK.out _ _ ⟨((cell_far (p := ⟨gb176, _, none⟩) NB175_176.out _).trans (((cell_far (p := ⟨gb176, _, none⟩) NB175_176.out _).trans (((cell_far (p := ⟨gb176, _, none⟩) NB175_176.out _).trans (((cell_far (p := ⟨gb176, _, none⟩) NB175_176.out _).trans (hHeld.1)))))))), ((cell_far (p := ⟨gb176, _, none⟩) NB175_176.out _).trans (((cell_far (p := ⟨gb176, _, none⟩) NB175_176.out _).trans (((cell_far (p := ⟨gb176, _, none⟩) NB175_176.out _).trans (((cell_far (p := ⟨gb176, _, none⟩) NB175_176.out _).trans (hHeld.2.1)))))))), ((cell_far (p := ⟨gb176, _, none⟩) NB175_176.out _).trans (((cell_far (p := ⟨gb176, _, none⟩) NB175_176.out _).trans (((cell_far (p := ⟨gb176, _, none⟩) NB175_176.out _).trans (((cell_far (p := ⟨gb176, _, none⟩) NB175_176.out _).trans (hHeld.2.2.1)))))))), ((cell_far (p := ⟨gb176, _, none⟩) NB175_176.out _).trans (((cell_far (p := ⟨gb176, _, none⟩) NB175_176.out _).trans (((cell_far (p := ⟨gb176, _, none⟩) NB175_176.out _).trans (((cell_far (p := ⟨gb176, _, none⟩) NB175_176.out _).trans (hHeld.2.2.2.1)))))))), ((cell_far (p := ⟨gb176, _, none⟩) NB175_176.out _).trans (((cell_far (p := ⟨gb176, _, none⟩) NB175_176.out _).trans (((cell_far (p := ⟨gb176, _, none⟩) NB175_176.out _).trans (((cell_far (p := ⟨gb176, _, none⟩) NB175_176.out _).trans (hHeld.2.2.2.2.1)))))))), ((cell_far (p := ⟨gb176, _, none⟩) NB175_176.out _).trans (((cell_far (p := ⟨gb176, _, none⟩) NB175_176.out _).trans (((cell_far (p := ⟨gb176, _, none⟩) NB175_176.out _).trans (((cell_far (p := ⟨gb176, _, none⟩) NB175_176.out _).trans (hHeld.2.2.2.2.2.1)))))))), ((cell_far (p := ⟨gb176, _, none⟩) NB175_176.out _).trans (((cell_far (p := ⟨gb176, _, none⟩) NB175_176.out _).trans (((cell_far (p := ⟨gb176, _, none⟩) NB175_176.out _).trans (((cell_far (p := ⟨gb176, _, none⟩) NB175_176.out _).trans (hHeld.2.2.2.2.2.2))))))))⟩ (fun hHeld => ?_)
  clear hK K
  refine pure_ (i := 10) (N := some 4) (v := ?_) (a' := ?_) #[true, true, true, true, true, true, true, true, true, true, true, false, false] rfl rfl (any_of HT_.out (by kernel_rfl)) (fun _ _ _ h => h) (Or.inl ⟨by rfl, ?_⟩) ?_ ?_
  rotate_left
  · intro w'
    go_simp
    with_reducible rfl
  rotate_left
  · simp only [Act.put, List.setIfInBounds_toArray, List.set_cons_zero, List.set_cons_succ, i64_w, i32_w]
    rfl
  refine pure_ (i := 11) (N := some 5) (v := ?_) (a' := ?_) #[true, true, true, true, true, true, true, true, true, true, true, true, false] rfl rfl (any_of HT_.out (by kernel_rfl)) (fun _ _ _ h => h) (Or.inl ⟨by rfl, ?_⟩) ?_ ?_
  rotate_left
  · intro w'
    go_simp
    with_reducible rfl
  rotate_left
  · simp only [Act.put, List.setIfInBounds_toArray, List.set_cons_zero, List.set_cons_succ, i64_w, i32_w]
    rfl
  refine pure_ (i := 12) (N := some 6) (v := ?_) (a' := ?_) #[true, true, true, true, true, true, true, true, true, true, true, true, true] rfl rfl (any_of HT_.out (by kernel_rfl)) (fun _ _ _ h => h) (Or.inl ⟨by rfl, ?_⟩) ?_ ?_
  rotate_left
  · intro w'
    go_simp
    with_reducible rfl
  rotate_left
  · simp only [Act.put, List.setIfInBounds_toArray, List.set_cons_zero, List.set_cons_succ, i64_w, i32_w]
    rfl
  refine done_ (done_of HT_.out (by kernel_rfl)) ?_
  go_upto_region 2 with (fail)
  go_cut [42] (fun v42 wc => ∃ (kq : Nat) (x42_1 : Bool), v42 = .bool x42_1 ∧ Aside0 (sluicegatelaw19_StripeBack.j0 kq a0_4 l0_5 a0_6 x42_1 a0_0 a0_1 a0_2 l0_3 = some r) ∧ Aside0 (kq ≤ k) ∧ Aside0 (wc.heap[gb175]? = some (.cells #[.int .i64 a0_0, .int .i64 a0_1, .int .i64 a0_2, (.slice A0_3 l0_3.length c0_3), .string a0_4, (.slice A0_5 l0_5.length c0_5), .string a0_6] 27 (0, 0))) ∧ Aside0 (wc.heap[gb176]? = some (.cells #[.int .i64 a0_0, .int .i64 a0_1, .int .i64 a0_2, (.slice A0_3 l0_3.length c0_3)] 24 (0, 0))) ∧ Aside0 (Below w.heap.size w wc))
  case first =>
    have H := HC2.out
    clear HC2
    replace H := Option.bind_eq_some_iff.mp H
    obtain ⟨t177, A100, H⟩ := H
    replace H : (if t177 = true then (if (a0_4.size : Int) > 500 then (sluicegatelaw19_StripeBack.j0 k a0_4 l0_5 a0_6 true a0_0 a0_1 a0_2 l0_3) else (if (l0_5.length : Int) > 9 then (sluicegatelaw19_StripeBack.j0 k a0_4 l0_5 a0_6 true a0_0 a0_1 a0_2 l0_3) else (sluicegatelaw19_StripeBack.j0 k a0_4 l0_5 a0_6 (decide ((a0_6.size : Int) > 60)) a0_0 a0_1 a0_2 l0_3))) else (sluicegatelaw19_StripeBack.j0 k a0_4 l0_5 a0_6 true a0_0 a0_1 a0_2 l0_3)) = some r := H
    have A10 := Aside0.mk A100
    clear A100
    by_cases c11 : t177 = true
    · subst c11
      have H1 : (if (a0_4.size : Int) > 500 then (sluicegatelaw19_StripeBack.j0 k a0_4 l0_5 a0_6 true a0_0 a0_1 a0_2 l0_3) else (if (l0_5.length : Int) > 9 then (sluicegatelaw19_StripeBack.j0 k a0_4 l0_5 a0_6 true a0_0 a0_1 a0_2 l0_3) else (sluicegatelaw19_StripeBack.j0 k a0_4 l0_5 a0_6 (decide ((a0_6.size : Int) > 60)) a0_0 a0_1 a0_2 l0_3))) = some r := by rw [if_pos rfl] at H; exact H
      clear H
      have H := H1
      clear H1
      by_cases c12 : (a0_4.size : Int) > 500
      · rw [if_pos c12] at H
        have c12b0 : decide (500 < (a0_4.size : Int)) = true := decide_eq_true c12
        have c12b1 : decide (500 < a0_4.size) = true := decide_eq_true (by omega)
        clear c12
        (first | rw [c12b0] | (simp only [i64_w, i32_w]; rw [c12b0]) | skip)
        have H' := Aside0.mk H
        clear H
        have hnb13 := NB176_175.out
        have hnc13 := NB175_176.out
        have hcz14_0 : w5.cell? ⟨gb176, 0, none⟩ = some (.int .i64 0) := (blk_cell BK176.out 0).trans rfl
        have hcz14_1 : w5.cell? ⟨gb176, 1, none⟩ = some (.int .i64 0) := (blk_cell BK176.out 1).trans rfl
        have hcz14_2 : w5.cell? ⟨gb176, 2, none⟩ = some (.int .i64 0) := (blk_cell BK176.out 2).trans rfl
        have hcz14_3 : w5.cell? ⟨gb176, 3, none⟩ = some (.slice none 0 0) := (blk_cell BK176.out 3).trans rfl
        have hfz14_0 := blk_frozen BK176.out 0
        have hfz14_1 := blk_frozen BK176.out 1
        have hfz14_2 := blk_frozen BK176.out 2
        have hfz14_3 := blk_frozen BK176.out 3
        go_wp2_with (first | ((with_reducible refine gate_callee (f := 6) rfl ?_); refine goesL_ (some 26) rfl rfl Tryd.func6 (by kernel_rfl) rfl #[.agg #[.int .i64 a0_0, .int .i64 a0_1, .int .i64 a0_2, .slice A0_3 l0_3.length c0_3]] rfl (by (try simp only [List.map_toArray, List.map_cons, List.map_nil]); first | done | rfl | (simp only [List.length_drop, List.length_take]; rfl)) ?_; (with_reducible refine (sluicegatelaw19_small.calls a0_0 a0_1 a0_2 _ _ l0_3 true _ ?side1 ?side2 A10.out).mono ?_); (case side1 => exact Kd.C_below HR0_3.out (by repeat (first | (with_reducible first | exact HB.out | apply below_alloc | apply pw_below_drewN | apply below_drew1 | refine below_set ?_ GE175.out | refine below_set ?_ GE176.out) | exact HB.out))); (case side2 => exact HC0_3.out); rintro e w15 ⟨rfl, hb⟩; refine ⟨_, rfl, ?_⟩; have n0_ := Aside0.mk (blk_below (g := gb175) (o := .cells #[.int .i64 a0_0, .int .i64 a0_1, .int .i64 a0_2, .slice A0_3 l0_3.length c0_3, .string a0_4, .slice A0_5 l0_5.length c0_5, .string a0_6] 27 (0, 0)) (by (with_reducible repeat (first | refine blk_drewN ?_ _ | refine blk_drew ?_ | refine blk_alloc ?_ _)); refine blk_far ?_ NB175_176.out _; (with_reducible repeat (first | refine blk_drewN ?_ _ | refine blk_drew ?_ | refine blk_alloc ?_ _)); refine blk_far ?_ NB175_176.out _; (with_reducible repeat (first | refine blk_drewN ?_ _ | refine blk_drew ?_ | refine blk_alloc ?_ _)); refine blk_far ?_ NB175_176.out _; (with_reducible repeat (first | refine blk_drewN ?_ _ | refine blk_drew ?_ | refine blk_alloc ?_ _)); refine blk_far ?_ NB175_176.out _; (with_reducible repeat (first | refine blk_drewN ?_ _ | refine blk_drew ?_ | refine blk_alloc ?_ _)); exact BK175.out) hb); have n1_ := Aside0.mk (blk_below (g := gb176) (o := .cells #[.int .i64 a0_0, .int .i64 a0_1, .int .i64 a0_2, .slice A0_3 l0_3.length c0_3] 24 (0, 0)) (by (with_reducible repeat (first | refine blk_drewN ?_ _ | refine blk_drew ?_ | refine blk_alloc ?_ _)); refine blk_put (cs := #[.int .i64 a0_0, .int .i64 a0_1, .int .i64 a0_2, .slice none 0 0]) ?_ 3 _ rfl; (with_reducible repeat (first | refine blk_drewN ?_ _ | refine blk_drew ?_ | refine blk_alloc ?_ _)); refine blk_put (cs := #[.int .i64 a0_0, .int .i64 a0_1, .int .i64 0, .slice none 0 0]) ?_ 2 _ rfl; (with_reducible repeat (first | refine blk_drewN ?_ _ | refine blk_drew ?_ | refine blk_alloc ?_ _)); refine blk_put (cs := #[.int .i64 a0_0, .int .i64 0, .int .i64 0, .slice none 0 0]) ?_ 1 _ rfl; (with_reducible repeat (first | refine blk_drewN ?_ _ | refine blk_drew ?_ | refine blk_alloc ?_ _)); refine blk_put (cs := #[.int .i64 0, .int .i64 0, .int .i64 0, .slice none 0 0]) ?_ 0 _ rfl; (with_reducible repeat (first | refine blk_drewN ?_ _ | refine blk_drew ?_ | refine blk_alloc ?_ _)); exact BK176.out) hb); have n2_ := Aside0.mk (below_step (by repeat (first | (with_reducible first | exact HB.out | apply below_alloc | apply pw_below_drewN | apply below_drew1 | refine below_set ?_ GE175.out | refine below_set ?_ GE176.out) | exact HB.out)) hb); clear BK175; clear BK176; clear HB; have BK175 := n0_; have BK176 := n1_; have HB := n2_; clear n0_ n1_ n2_; (try clear hb); (try clear hb2); (try clear hk); (try clear hi)))
        go_meet
        case rel => exact ⟨_, (true), (by first | rfl | (simp; done) | (simp [*]; done)), H', ⟨by first | omega | exact Nat.le_refl _⟩, ⟨by (with_reducible repeat (first | refine blk_drewN ?_ _ | refine blk_drew ?_ | refine blk_alloc ?_ _)); exact BK175.out⟩, ⟨by (with_reducible repeat (first | refine blk_drewN ?_ _ | refine blk_drew ?_ | refine blk_alloc ?_ _)); exact BK176.out⟩, ⟨by repeat (first | (with_reducible first | exact HB.out | apply below_alloc | apply pw_below_drewN | apply below_drew1 | refine below_set ?_ GE175.out | refine below_set ?_ GE176.out) | exact HB.out)⟩⟩
      · rw [if_neg c12] at H
        have c12b0 : decide (500 < (a0_4.size : Int)) = false := decide_eq_false c12
        have c12b1 : decide (500 < a0_4.size) = false := decide_eq_false (by omega)
        clear c12
        (first | rw [c12b0] | (simp only [i64_w, i32_w]; rw [c12b0]) | skip)
        by_cases c16 : (l0_5.length : Int) > 9
        · rw [if_pos c16] at H
          have c16b0 : decide (9 < (l0_5.length : Int)) = true := decide_eq_true c16
          have c16b1 : decide (9 < l0_5.length) = true := decide_eq_true (by omega)
          clear c16
          have H' := Aside0.mk H
          clear H
          have hnb17 := NB176_175.out
          have hnc17 := NB175_176.out
          have hcz18_0 : w5.cell? ⟨gb176, 0, none⟩ = some (.int .i64 0) := (blk_cell BK176.out 0).trans rfl
          have hcz18_1 : w5.cell? ⟨gb176, 1, none⟩ = some (.int .i64 0) := (blk_cell BK176.out 1).trans rfl
          have hcz18_2 : w5.cell? ⟨gb176, 2, none⟩ = some (.int .i64 0) := (blk_cell BK176.out 2).trans rfl
          have hcz18_3 : w5.cell? ⟨gb176, 3, none⟩ = some (.slice none 0 0) := (blk_cell BK176.out 3).trans rfl
          have hfz18_0 := blk_frozen BK176.out 0
          have hfz18_1 := blk_frozen BK176.out 1
          have hfz18_2 := blk_frozen BK176.out 2
          have hfz18_3 := blk_frozen BK176.out 3
          go_wp2_with (first | ((with_reducible refine gate_callee (f := 6) rfl ?_); refine goesL_ (some 26) rfl rfl Tryd.func6 (by kernel_rfl) rfl #[.agg #[.int .i64 a0_0, .int .i64 a0_1, .int .i64 a0_2, .slice A0_3 l0_3.length c0_3]] rfl (by (try simp only [List.map_toArray, List.map_cons, List.map_nil]); first | done | rfl | (simp only [List.length_drop, List.length_take]; rfl)) ?_; (with_reducible refine (sluicegatelaw19_small.calls a0_0 a0_1 a0_2 _ _ l0_3 true _ ?side1 ?side2 A10.out).mono ?_); (case side1 => exact Kd.C_below HR0_3.out (by repeat (first | (with_reducible first | exact HB.out | apply below_alloc | apply pw_below_drewN | apply below_drew1 | refine below_set ?_ GE175.out | refine below_set ?_ GE176.out) | exact HB.out))); (case side2 => exact HC0_3.out); rintro e w19 ⟨rfl, hb⟩; refine ⟨_, rfl, ?_⟩; have n0_ := Aside0.mk (blk_below (g := gb175) (o := .cells #[.int .i64 a0_0, .int .i64 a0_1, .int .i64 a0_2, .slice A0_3 l0_3.length c0_3, .string a0_4, .slice A0_5 l0_5.length c0_5, .string a0_6] 27 (0, 0)) (by (with_reducible repeat (first | refine blk_drewN ?_ _ | refine blk_drew ?_ | refine blk_alloc ?_ _)); refine blk_far ?_ NB175_176.out _; (with_reducible repeat (first | refine blk_drewN ?_ _ | refine blk_drew ?_ | refine blk_alloc ?_ _)); refine blk_far ?_ NB175_176.out _; (with_reducible repeat (first | refine blk_drewN ?_ _ | refine blk_drew ?_ | refine blk_alloc ?_ _)); refine blk_far ?_ NB175_176.out _; (with_reducible repeat (first | refine blk_drewN ?_ _ | refine blk_drew ?_ | refine blk_alloc ?_ _)); refine blk_far ?_ NB175_176.out _; (with_reducible repeat (first | refine blk_drewN ?_ _ | refine blk_drew ?_ | refine blk_alloc ?_ _)); exact BK175.out) hb); have n1_ := Aside0.mk (blk_below (g := gb176) (o := .cells #[.int .i64 a0_0, .int .i64 a0_1, .int .i64 a0_2, .slice A0_3 l0_3.length c0_3] 24 (0, 0)) (by (with_reducible repeat (first | refine blk_drewN ?_ _ | refine blk_drew ?_ | refine blk_alloc ?_ _)); refine blk_put (cs := #[.int .i64 a0_0, .int .i64 a0_1, .int .i64 a0_2, .slice none 0 0]) ?_ 3 _ rfl; (with_reducible repeat (first | refine blk_drewN ?_ _ | refine blk_drew ?_ | refine blk_alloc ?_ _)); refine blk_put (cs := #[.int .i64 a0_0, .int .i64 a0_1, .int .i64 0, .slice none 0 0]) ?_ 2 _ rfl; (with_reducible repeat (first | refine blk_drewN ?_ _ | refine blk_drew ?_ | refine blk_alloc ?_ _)); refine blk_put (cs := #[.int .i64 a0_0, .int .i64 0, .int .i64 0, .slice none 0 0]) ?_ 1 _ rfl; (with_reducible repeat (first | refine blk_drewN ?_ _ | refine blk_drew ?_ | refine blk_alloc ?_ _)); refine blk_put (cs := #[.int .i64 0, .int .i64 0, .int .i64 0, .slice none 0 0]) ?_ 0 _ rfl; (with_reducible repeat (first | refine blk_drewN ?_ _ | refine blk_drew ?_ | refine blk_alloc ?_ _)); exact BK176.out) hb); have n2_ := Aside0.mk (below_step (by repeat (first | (with_reducible first | exact HB.out | apply below_alloc | apply pw_below_drewN | apply below_drew1 | refine below_set ?_ GE175.out | refine below_set ?_ GE176.out) | exact HB.out)) hb); clear BK175; clear BK176; clear HB; have BK175 := n0_; have BK176 := n1_; have HB := n2_; clear n0_ n1_ n2_; (try clear hb); (try clear hb2); (try clear hk); (try clear hi)))
          go_meet
          case rel => exact ⟨_, (true), (by first | rfl | (simp; done) | (simp [*]; done)), H', ⟨by first | omega | exact Nat.le_refl _⟩, ⟨by (with_reducible repeat (first | refine blk_drewN ?_ _ | refine blk_drew ?_ | refine blk_alloc ?_ _)); exact BK175.out⟩, ⟨by (with_reducible repeat (first | refine blk_drewN ?_ _ | refine blk_drew ?_ | refine blk_alloc ?_ _)); exact BK176.out⟩, ⟨by repeat (first | (with_reducible first | exact HB.out | apply below_alloc | apply pw_below_drewN | apply below_drew1 | refine below_set ?_ GE175.out | refine below_set ?_ GE176.out) | exact HB.out)⟩⟩
        · rw [if_neg c16] at H
          have c16b0 : decide (9 < (l0_5.length : Int)) = false := decide_eq_false c16
          have c16b1 : decide (9 < l0_5.length) = false := decide_eq_false (by omega)
          clear c16
          have H' := Aside0.mk H
          clear H
          have hnb20 := NB176_175.out
          have hnc20 := NB175_176.out
          have hcz21_0 : w5.cell? ⟨gb176, 0, none⟩ = some (.int .i64 0) := (blk_cell BK176.out 0).trans rfl
          have hcz21_1 : w5.cell? ⟨gb176, 1, none⟩ = some (.int .i64 0) := (blk_cell BK176.out 1).trans rfl
          have hcz21_2 : w5.cell? ⟨gb176, 2, none⟩ = some (.int .i64 0) := (blk_cell BK176.out 2).trans rfl
          have hcz21_3 : w5.cell? ⟨gb176, 3, none⟩ = some (.slice none 0 0) := (blk_cell BK176.out 3).trans rfl
          have hfz21_0 := blk_frozen BK176.out 0
          have hfz21_1 := blk_frozen BK176.out 1
          have hfz21_2 := blk_frozen BK176.out 2
          have hfz21_3 := blk_frozen BK176.out 3
          go_wp2_with (first | ((with_reducible refine gate_callee (f := 6) rfl ?_); refine goesL_ (some 26) rfl rfl Tryd.func6 (by kernel_rfl) rfl #[.agg #[.int .i64 a0_0, .int .i64 a0_1, .int .i64 a0_2, .slice A0_3 l0_3.length c0_3]] rfl (by (try simp only [List.map_toArray, List.map_cons, List.map_nil]); first | done | rfl | (simp only [List.length_drop, List.length_take]; rfl)) ?_; (with_reducible refine (sluicegatelaw19_small.calls a0_0 a0_1 a0_2 _ _ l0_3 true _ ?side1 ?side2 A10.out).mono ?_); (case side1 => exact Kd.C_below HR0_3.out (by repeat (first | (with_reducible first | exact HB.out | apply below_alloc | apply pw_below_drewN | apply below_drew1 | refine below_set ?_ GE175.out | refine below_set ?_ GE176.out) | exact HB.out))); (case side2 => exact HC0_3.out); rintro e w22 ⟨rfl, hb⟩; refine ⟨_, rfl, ?_⟩; have n0_ := Aside0.mk (blk_below (g := gb175) (o := .cells #[.int .i64 a0_0, .int .i64 a0_1, .int .i64 a0_2, .slice A0_3 l0_3.length c0_3, .string a0_4, .slice A0_5 l0_5.length c0_5, .string a0_6] 27 (0, 0)) (by (with_reducible repeat (first | refine blk_drewN ?_ _ | refine blk_drew ?_ | refine blk_alloc ?_ _)); refine blk_far ?_ NB175_176.out _; (with_reducible repeat (first | refine blk_drewN ?_ _ | refine blk_drew ?_ | refine blk_alloc ?_ _)); refine blk_far ?_ NB175_176.out _; (with_reducible repeat (first | refine blk_drewN ?_ _ | refine blk_drew ?_ | refine blk_alloc ?_ _)); refine blk_far ?_ NB175_176.out _; (with_reducible repeat (first | refine blk_drewN ?_ _ | refine blk_drew ?_ | refine blk_alloc ?_ _)); refine blk_far ?_ NB175_176.out _; (with_reducible repeat (first | refine blk_drewN ?_ _ | refine blk_drew ?_ | refine blk_alloc ?_ _)); exact BK175.out) hb); have n1_ := Aside0.mk (blk_below (g := gb176) (o := .cells #[.int .i64 a0_0, .int .i64 a0_1, .int .i64 a0_2, .slice A0_3 l0_3.length c0_3] 24 (0, 0)) (by (with_reducible repeat (first | refine blk_drewN ?_ _ | refine blk_drew ?_ | refine blk_alloc ?_ _)); refine blk_put (cs := #[.int .i64 a0_0, .int .i64 a0_1, .int .i64 a0_2, .slice none 0 0]) ?_ 3 _ rfl; (with_reducible repeat (first | refine blk_drewN ?_ _ | refine blk_drew ?_ | refine blk_alloc ?_ _)); refine blk_put (cs := #[.int .i64 a0_0, .int .i64 a0_1, .int .i64 0, .slice none 0 0]) ?_ 2 _ rfl; (with_reducible repeat (first | refine blk_drewN ?_ _ | refine blk_drew ?_ | refine blk_alloc ?_ _)); refine blk_put (cs := #[.int .i64 a0_0, .int .i64 0, .int .i64 0, .slice none 0 0]) ?_ 1 _ rfl; (with_reducible repeat (first | refine blk_drewN ?_ _ | refine blk_drew ?_ | refine blk_alloc ?_ _)); refine blk_put (cs := #[.int .i64 0, .int .i64 0, .int .i64 0, .slice none 0 0]) ?_ 0 _ rfl; (with_reducible repeat (first | refine blk_drewN ?_ _ | refine blk_drew ?_ | refine blk_alloc ?_ _)); exact BK176.out) hb); have n2_ := Aside0.mk (below_step (by repeat (first | (with_reducible first | exact HB.out | apply below_alloc | apply pw_below_drewN | apply below_drew1 | refine below_set ?_ GE175.out | refine below_set ?_ GE176.out) | exact HB.out)) hb); clear BK175; clear BK176; clear HB; have BK175 := n0_; have BK176 := n1_; have HB := n2_; clear n0_ n1_ n2_; (try clear hb); (try clear hb2); (try clear hk); (try clear hi)))
          go_meet
          case rel => exact ⟨_, (decide ((a0_6.size : Int) > 60)), (by first | rfl | (simp; done) | (simp [*]; done)), H', ⟨by first | omega | exact Nat.le_refl _⟩, ⟨by (with_reducible repeat (first | refine blk_drewN ?_ _ | refine blk_drew ?_ | refine blk_alloc ?_ _)); exact BK175.out⟩, ⟨by (with_reducible repeat (first | refine blk_drewN ?_ _ | refine blk_drew ?_ | refine blk_alloc ?_ _)); exact BK176.out⟩, ⟨by repeat (first | (with_reducible first | exact HB.out | apply below_alloc | apply pw_below_drewN | apply below_drew1 | refine below_set ?_ GE175.out | refine below_set ?_ GE176.out) | exact HB.out)⟩⟩
    · replace c11 := Bool.eq_false_iff.mpr c11
      subst c11
      have H1 : (sluicegatelaw19_StripeBack.j0 k a0_4 l0_5 a0_6 true a0_0 a0_1 a0_2 l0_3) = some r := by rw [if_neg (show ¬ (false = true) by decide)] at H; exact H
      clear H
      have H := H1
      clear H1
      have H' := Aside0.mk H
      clear H
      have hnb23 := NB176_175.out
      have hnc23 := NB175_176.out
      have hcz24_0 : w5.cell? ⟨gb176, 0, none⟩ = some (.int .i64 0) := (blk_cell BK176.out 0).trans rfl
      have hcz24_1 : w5.cell? ⟨gb176, 1, none⟩ = some (.int .i64 0) := (blk_cell BK176.out 1).trans rfl
      have hcz24_2 : w5.cell? ⟨gb176, 2, none⟩ = some (.int .i64 0) := (blk_cell BK176.out 2).trans rfl
      have hcz24_3 : w5.cell? ⟨gb176, 3, none⟩ = some (.slice none 0 0) := (blk_cell BK176.out 3).trans rfl
      have hfz24_0 := blk_frozen BK176.out 0
      have hfz24_1 := blk_frozen BK176.out 1
      have hfz24_2 := blk_frozen BK176.out 2
      have hfz24_3 := blk_frozen BK176.out 3
      go_wp2_with (first | ((with_reducible refine gate_callee (f := 6) rfl ?_); refine goesL_ (some 26) rfl rfl Tryd.func6 (by kernel_rfl) rfl #[.agg #[.int .i64 a0_0, .int .i64 a0_1, .int .i64 a0_2, .slice A0_3 l0_3.length c0_3]] rfl (by (try simp only [List.map_toArray, List.map_cons, List.map_nil]); first | done | rfl | (simp only [List.length_drop, List.length_take]; rfl)) ?_; (with_reducible refine (sluicegatelaw19_small.calls a0_0 a0_1 a0_2 _ _ l0_3 false _ ?side1 ?side2 A10.out).mono ?_); (case side1 => exact Kd.C_below HR0_3.out (by repeat (first | (with_reducible first | exact HB.out | apply below_alloc | apply pw_below_drewN | apply below_drew1 | refine below_set ?_ GE175.out | refine below_set ?_ GE176.out) | exact HB.out))); (case side2 => exact HC0_3.out); rintro e w25 ⟨rfl, hb⟩; refine ⟨_, rfl, ?_⟩; have n0_ := Aside0.mk (blk_below (g := gb175) (o := .cells #[.int .i64 a0_0, .int .i64 a0_1, .int .i64 a0_2, .slice A0_3 l0_3.length c0_3, .string a0_4, .slice A0_5 l0_5.length c0_5, .string a0_6] 27 (0, 0)) (by (with_reducible repeat (first | refine blk_drewN ?_ _ | refine blk_drew ?_ | refine blk_alloc ?_ _)); refine blk_far ?_ NB175_176.out _; (with_reducible repeat (first | refine blk_drewN ?_ _ | refine blk_drew ?_ | refine blk_alloc ?_ _)); refine blk_far ?_ NB175_176.out _; (with_reducible repeat (first | refine blk_drewN ?_ _ | refine blk_drew ?_ | refine blk_alloc ?_ _)); refine blk_far ?_ NB175_176.out _; (with_reducible repeat (first | refine blk_drewN ?_ _ | refine blk_drew ?_ | refine blk_alloc ?_ _)); refine blk_far ?_ NB175_176.out _; (with_reducible repeat (first | refine blk_drewN ?_ _ | refine blk_drew ?_ | refine blk_alloc ?_ _)); exact BK175.out) hb); have n1_ := Aside0.mk (blk_below (g := gb176) (o := .cells #[.int .i64 a0_0, .int .i64 a0_1, .int .i64 a0_2, .slice A0_3 l0_3.length c0_3] 24 (0, 0)) (by (with_reducible repeat (first | refine blk_drewN ?_ _ | refine blk_drew ?_ | refine blk_alloc ?_ _)); refine blk_put (cs := #[.int .i64 a0_0, .int .i64 a0_1, .int .i64 a0_2, .slice none 0 0]) ?_ 3 _ rfl; (with_reducible repeat (first | refine blk_drewN ?_ _ | refine blk_drew ?_ | refine blk_alloc ?_ _)); refine blk_put (cs := #[.int .i64 a0_0, .int .i64 a0_1, .int .i64 0, .slice none 0 0]) ?_ 2 _ rfl; (with_reducible repeat (first | refine blk_drewN ?_ _ | refine blk_drew ?_ | refine blk_alloc ?_ _)); refine blk_put (cs := #[.int .i64 a0_0, .int .i64 0, .int .i64 0, .slice none 0 0]) ?_ 1 _ rfl; (with_reducible repeat (first | refine blk_drewN ?_ _ | refine blk_drew ?_ | refine blk_alloc ?_ _)); refine blk_put (cs := #[.int .i64 0, .int .i64 0, .int .i64 0, .slice none 0 0]) ?_ 0 _ rfl; (with_reducible repeat (first | refine blk_drewN ?_ _ | refine blk_drew ?_ | refine blk_alloc ?_ _)); exact BK176.out) hb); have n2_ := Aside0.mk (below_step (by repeat (first | (with_reducible first | exact HB.out | apply below_alloc | apply pw_below_drewN | apply below_drew1 | refine below_set ?_ GE175.out | refine below_set ?_ GE176.out) | exact HB.out)) hb); clear BK175; clear BK176; clear HB; have BK175 := n0_; have BK176 := n1_; have HB := n2_; clear n0_ n1_ n2_; (try clear hb); (try clear hb2); (try clear hk); (try clear hi)))
      go_meet
      case rel => exact ⟨_, (true), (by first | rfl | (simp; done) | (simp [*]; done)), H', ⟨by first | omega | exact Nat.le_refl _⟩, ⟨by (with_reducible repeat (first | refine blk_drewN ?_ _ | refine blk_drew ?_ | refine blk_alloc ?_ _)); exact BK175.out⟩, ⟨by (with_reducible repeat (first | refine blk_drewN ?_ _ | refine blk_drew ?_ | refine blk_alloc ?_ _)); exact BK176.out⟩, ⟨by repeat (first | (with_reducible first | exact HB.out | apply below_alloc | apply pw_below_drewN | apply below_drew1 | refine below_set ?_ GE175.out | refine below_set ?_ GE176.out) | exact HB.out)⟩⟩
  case rest =>
    clear HC2
    try clear c1
    try clear c2
    try clear p2
    try clear c3
    try clear c6
    try clear c11
    try clear c12
    try clear c12b0
    try clear c12b1
    try clear c13
    try clear c16
    try clear c16b0
    try clear c16b1
    try clear c17
    try clear c20
    try clear c23
    try clear hcz14_0
    try clear hcz14_1
    try clear hcz14_2
    try clear hcz14_3
    try clear hcz18_0
    try clear hcz18_1
    try clear hcz18_2
    try clear hcz18_3
    try clear hcz21_0
    try clear hcz21_1
    try clear hcz21_2
    try clear hcz21_3
    try clear hcz24_0
    try clear hcz24_1
    try clear hcz24_2
    try clear hcz24_3
    try clear hfz14_0
    try clear hfz14_1
    try clear hfz14_2
    try clear hfz14_3
    try clear hfz18_0
    try clear hfz18_1
    try clear hfz18_2
    try clear hfz18_3
    try clear hfz21_0
    try clear hfz21_1
    try clear hfz21_2
    try clear hfz21_3
    try clear hfz24_0
    try clear hfz24_1
    try clear hfz24_2
    try clear hfz24_3
    obtain ⟨kq, x42_1, rfl, HA, HJ1, BK175, BK176, HB⟩ := hcut
    cases kq with
    | zero => exact absurd HA.out (by simp [sluicegatelaw19_StripeBack.j0])
    | succ kj1 =>
      have H := HA.out
      clear HA
      simp only [sluicegatelaw19_StripeBack.j0] at H
      by_cases c26 : x42_1 = true
      · subst c26
        have H1 : ((sluicegatelaw19_live.f).bind fun t178 => (some t178)) = some r := by rw [if_pos rfl] at H; exact H
        clear H
        have H := H1
        clear H1
        replace H := Option.bind_eq_some_iff.mp H
        obtain ⟨t178, A270, H⟩ := H
        replace H : (some t178) = some r := H
        have A27 := Aside0.mk A270
        clear A270
        obtain rfl := Option.some.inj H
        go_wp2_with (first | ((with_reducible refine gate_callee (f := 7) rfl ?_); refine goesL_ (some 43) rfl rfl Tryd.func7 (by kernel_rfl) rfl #[] rfl (by (try simp only [List.map_toArray, List.map_cons, List.map_nil]); first | done | rfl | (simp only [List.length_drop, List.length_take]; rfl)) ?_; (with_reducible refine (sluicegatelaw19_live.calls  t178 _ A27.out).mono ?_); rintro e w28 ⟨rfl, hb⟩; refine ⟨_, rfl, ?_⟩; have n0_ := Aside0.mk (blk_below (g := gb175) (o := .cells #[.int .i64 a0_0, .int .i64 a0_1, .int .i64 a0_2, .slice A0_3 l0_3.length c0_3, .string a0_4, .slice A0_5 l0_5.length c0_5, .string a0_6] 27 (0, 0)) (by (with_reducible repeat (first | refine blk_drewN ?_ _ | refine blk_drew ?_ | refine blk_alloc ?_ _)); exact BK175.out) hb); have n1_ := Aside0.mk (blk_below (g := gb176) (o := .cells #[.int .i64 a0_0, .int .i64 a0_1, .int .i64 a0_2, .slice A0_3 l0_3.length c0_3] 24 (0, 0)) (by (with_reducible repeat (first | refine blk_drewN ?_ _ | refine blk_drew ?_ | refine blk_alloc ?_ _)); exact BK176.out) hb); have n2_ := Aside0.mk (below_step (by repeat (first | (with_reducible first | exact HB.out | apply below_alloc | apply pw_below_drewN | apply below_drew1 | refine below_set ?_ GE175.out | refine below_set ?_ GE176.out) | exact HB.out)) hb); clear BK175; clear BK176; clear HB; have BK175 := n0_; have BK176 := n1_; have HB := n2_; clear n0_ n1_ n2_; (try clear hb); (try clear hb2); (try clear hk); (try clear hi)))
        go_ret
        exact ⟨by first | rfl | (simp [errW_none, errW_some] <;> rfl) | (simp [*, errW_none, errW_some] <;> rfl), by repeat (first | (with_reducible first | exact HB.out | apply below_alloc | apply pw_below_drewN | apply below_drew1 | refine below_set ?_ GE175.out | refine below_set ?_ GE176.out) | exact HB.out)⟩
      · replace c26 := Bool.eq_false_iff.mpr c26
        subst c26
        have H1 : ((stripe_Sectors.f a0_0 a0_1 a0_2 l0_3 a0_4).bind fun bt179 => (if bt179.2 = 0 then (if (bt179.1.length : Int) = 9 then (if ([] : List ByteArray).length + bt179.1.length < 8796093022208 then (if 9 ≤ 281474976710656 then (sluicegatelaw19_StripeBack.l0 kj1 a0_4 l0_5 a0_6 (([] : List ByteArray) ++ bt179.1) (List.replicate 9 false) 0 a0_0 a0_1 a0_2 l0_3) else (none)) else (none)) else (some false)) else (if (bt179.1.length : Int) = 0 then ((sluicegatelaw19_live.f).bind fun t183 => (some t183)) else (some false)))) = some r := by rw [if_neg (show ¬ (false = true) by decide)] at H; exact H
        clear H
        have H := H1
        clear H1
        replace H := Option.bind_eq_some_iff.mp H
        obtain ⟨⟨t179, t182⟩, A290, H⟩ := H
        replace H : (if t182 = 0 then (if (t179.length : Int) = 9 then (if ([] : List ByteArray).length + t179.length < 8796093022208 then (if 9 ≤ 281474976710656 then (sluicegatelaw19_StripeBack.l0 kj1 a0_4 l0_5 a0_6 (([] : List ByteArray) ++ t179) (List.replicate 9 false) 0 a0_0 a0_1 a0_2 l0_3) else (none)) else (none)) else (some false)) else (if (t179.length : Int) = 0 then ((sluicegatelaw19_live.f).bind fun t183 => (some t183)) else (some false))) = some r := H
        have A29 := Aside0.mk A290
        clear A290
        by_cases c30 : t182 = 0
        · rw [if_pos c30] at H
          have c30b0 : (t182 == 0) = true := beq_iff_eq.mpr c30
          have c30b1 : (t182 != 0) = false := bne_eq_false_iff_eq.mpr c30
          clear c30
          by_cases c31 : (t179.length : Int) = 9
          · rw [if_pos c31] at H
            have c31b0 : ((t179.length : Int) == 9) = true := beq_iff_eq.mpr c31
            have c31b1 : ((t179.length : Int) != 9) = false := bne_eq_false_iff_eq.mpr c31
            clear c31
            by_cases c32 : ([] : List ByteArray).length + t179.length < 8796093022208
            · rw [if_pos c32] at H
              have LMc32 := Aside0.mk c32
              clear c32
              obtain ⟨y184, hy184⟩ : ∃ y_ : List ByteArray, y_ = (([] : List ByteArray) ++ t179) := ⟨_, rfl⟩
              replace H : (if 9 ≤ 281474976710656 then (sluicegatelaw19_StripeBack.l0 kj1 a0_4 l0_5 a0_6 y184 (List.replicate 9 false) 0 a0_0 a0_1 a0_2 l0_3) else (none)) = some r := by first | (rw [hy184]; with_reducible exact H) | (have H2_ := (Option.bind_some _ _).symm.trans H; rw [hy184]; with_reducible exact H2_) | (have H2_ := (Option.bind_some _ _).symm.trans H; with_reducible exact H2_) | with_reducible exact H | (rw [hy184]; exact H) | exact H
              have Ny184 := Aside0.mk hy184
              clear hy184
              by_cases c33 : 9 ≤ 281474976710656
              · rw [if_pos c33] at H
                have c33b0 := eq_true c33
                have c33b1 : decide (9 ≤ 281474976710656) = true := decide_eq_true c33
                clear c33
                obtain ⟨y187, hy187⟩ : ∃ y_ : List Bool, y_ = (List.replicate 9 false) := ⟨_, rfl⟩
                replace H : (sluicegatelaw19_StripeBack.l0 kj1 a0_4 l0_5 a0_6 y184 y187 0 a0_0 a0_1 a0_2 l0_3) = some r := by first | (rw [hy187]; with_reducible exact H) | (have H2_ := (Option.bind_some _ _).symm.trans H; rw [hy187]; with_reducible exact H2_) | (have H2_ := (Option.bind_some _ _).symm.trans H; with_reducible exact H2_) | with_reducible exact H | (rw [hy187]; exact H) | exact H
                have Ny187 := Aside0.mk hy187
                clear hy187
                have H' := Aside0.mk H
                clear H
                have hnb34 := NB176_175.out
                have hnc34 := NB175_176.out
                have hcz35_0 : wc.cell? ⟨gb176, 0, none⟩ = some (.int .i64 a0_0) := (blk_cell BK176.out 0).trans rfl
                have hcz35_1 : wc.cell? ⟨gb176, 1, none⟩ = some (.int .i64 a0_1) := (blk_cell BK176.out 1).trans rfl
                have hcz35_2 : wc.cell? ⟨gb176, 2, none⟩ = some (.int .i64 a0_2) := (blk_cell BK176.out 2).trans rfl
                have hcz35_3 : wc.cell? ⟨gb176, 3, none⟩ = some (.slice A0_3 l0_3.length c0_3) := (blk_cell BK176.out 3).trans rfl
                have hfz35_0 := blk_frozen BK176.out 0
                have hfz35_1 := blk_frozen BK176.out 1
                have hfz35_2 := blk_frozen BK176.out 2
                have hfz35_3 := blk_frozen BK176.out 3
                go_wp2_with (first | ((with_reducible refine gate_callee (f := 8) rfl ?_); refine goesL_ (some 47) rfl rfl Tryd.func8 (by kernel_rfl) rfl #[.agg #[.int .i64 a0_0, .int .i64 a0_1, .int .i64 a0_2, .slice A0_3 l0_3.length c0_3], .string a0_4] rfl (by (try simp only [List.map_toArray, List.map_cons, List.map_nil]); first | done | rfl | (simp only [List.length_drop, List.length_take]; rfl)) ?_; (with_reducible refine (stripe_Sectors.calls a0_0 a0_1 a0_2 _ _ l0_3 a0_4 t179 t182 _ ?side1 ?side2 A29.out).mono ?_); (case side1 => repeat (first | exact (Kd.C_below HR0_3.out HB.out) | (with_reducible refine Kd.C_alloc ?_ _) | (with_reducible refine Kd.C_drewN ?_ _) | (with_reducible refine Kd.C_drew ?_))); (case side2 => exact HC0_3.out); rintro e w36 ⟨v180, rfl, ho0, hb⟩; refine ⟨_, rfl, ?_⟩; have n0_ := Aside0.mk (Kd.R_lower ho0 (below_size (by repeat (first | (with_reducible first | exact HB.out | apply below_alloc | apply pw_below_drewN | apply below_drew1 | refine below_set ?_ GE175.out | refine below_set ?_ GE176.out) | exact HB.out)))); have n1_ := Aside0.mk (blk_below (g := gb175) (o := .cells #[.int .i64 a0_0, .int .i64 a0_1, .int .i64 a0_2, .slice A0_3 l0_3.length c0_3, .string a0_4, .slice A0_5 l0_5.length c0_5, .string a0_6] 27 (0, 0)) (by (with_reducible repeat (first | refine blk_drewN ?_ _ | refine blk_drew ?_ | refine blk_alloc ?_ _)); exact BK175.out) hb); have n2_ := Aside0.mk (blk_below (g := gb176) (o := .cells #[.int .i64 a0_0, .int .i64 a0_1, .int .i64 a0_2, .slice A0_3 l0_3.length c0_3] 24 (0, 0)) (by (with_reducible repeat (first | refine blk_drewN ?_ _ | refine blk_drew ?_ | refine blk_alloc ?_ _)); exact BK176.out) hb); have n3_ := Aside0.mk (below_step (by repeat (first | (with_reducible first | exact HB.out | apply below_alloc | apply pw_below_drewN | apply below_drew1 | refine below_set ?_ GE175.out | refine below_set ?_ GE176.out) | exact HB.out)) hb); clear BK175; clear BK176; clear HB; have HO181 := n0_; have BK175 := n1_; have BK176 := n2_; have HB := n3_; clear n0_ n1_ n2_ n3_; (try clear hb); (try clear hb2); (try clear hk); (try clear hi); (try clear ho0); obtain ⟨Ao37, co37, eo37⟩ := Kd.R_slice HO181.out; subst eo37) | ((with_reducible refine gate_builtin (b := .append) (xs := #[.tmp 61, .tmp 62]) rfl ?_); (try (refine gate_guard (by rfl) ?_; dsimp only)); at_builtin; refine Kd.R_append_rows Kd.string (w0 := w) w.heap.size rfl (.tmp 61) (.tmp 62) 30 9 (.string ⟨#[]⟩) 16 rfl Tryd.underlying30 info9 rfl (by decide) (by omega) (.slice none 0 0) ([] : List ByteArray) t179 _ _ _ (fun k_ => some k_ ≠ (.slice Ao37 t179.length co37 : Value).ownBlock) (fun _ => False) rfl rfl ?aO ?aR (fun _ _ h => h) (fun _ h => h.elim) ?aF ?aB ?aS ?aL ?_; (case aR => repeat (first | exact (Kd.R_reads' HO181.out).2.2 | (with_reducible refine Kd.C_alloc ?_ _) | (with_reducible refine Kd.C_drewN ?_ _) | (with_reducible refine Kd.C_drew ?_))); (case aB => exact (by repeat (first | (with_reducible first | exact HB.out | apply below_alloc | apply pw_below_drewN | apply below_drew1 | refine below_set ?_ GE175.out | refine below_set ?_ GE176.out) | exact HB.out))); (case aF => exact (fun k_ hk => Kd.fresh' (Kd.R_lt (by (with_reducible repeat (first | apply Kd.R_alloc | apply Kd.R_drewN | apply Kd.R_drew)); exact HO181.out)) k_ hk)); (case aO => exact ((Kd.R_nil _ _ _ _ (fun k_ => some k_ ≠ (.slice Ao37 t179.length co37 : Value).ownBlock)))); (case aS => exact (below_size (by repeat (first | (with_reducible first | exact HB.out | apply below_alloc | apply pw_below_drewN | apply below_drew1 | refine below_set ?_ GE175.out | refine below_set ?_ GE176.out) | exact HB.out)))); (case aL => have := LMc32.out; omega); intro v185 w38 ho hb hg hat; rw [← Ny184.out] at ho; have n0_ := Aside0.mk (blk_grown (g := gb175) (o := .cells #[.int .i64 a0_0, .int .i64 a0_1, .int .i64 a0_2, .slice A0_3 l0_3.length c0_3, .string a0_4, .slice A0_5 l0_5.length c0_5, .string a0_6] 27 (0, 0)) (by (with_reducible repeat (first | refine blk_drewN ?_ _ | refine blk_drew ?_ | refine blk_alloc ?_ _)); exact BK175.out) hg (by simp [Value.ownBlock])); have n1_ := Aside0.mk (blk_grown (g := gb176) (o := .cells #[.int .i64 a0_0, .int .i64 a0_1, .int .i64 a0_2, .slice A0_3 l0_3.length c0_3] 24 (0, 0)) (by (with_reducible repeat (first | refine blk_drewN ?_ _ | refine blk_drew ?_ | refine blk_alloc ?_ _)); exact BK176.out) hg (by simp [Value.ownBlock])); have n2_ := Aside0.mk (Kd.R_after (Kd.R_apart_nil (by (with_reducible repeat (first | apply Kd.R_alloc | apply Kd.R_drewN | apply Kd.R_drew)); exact HO181.out)) hg hat); have n3_ := Aside0.mk (hb); have n4_ := Aside0.mk (ho); clear BK175; clear BK176; clear HO181; clear HB; have BK175 := n0_; have BK176 := n1_; have HO181 := n2_; have HB := n3_; have HO186 := n4_; clear n0_ n1_ n2_ n3_ n4_; clear ho hb hg hat) | ((with_reducible refine gate_dst (N := 64) rfl ?_); (try (refine gate_guard (by rfl) ?_; dsimp only)); refine Kd.R_make Kd.bool _ 4 rfl (N := 64) rfl 34 _ _ rfl 9 rfl rfl Tryd.underlying34 (.bool false) 1 info4 rfl (by decide) (by omega) false (ok := fun _ => True) (okp := fun _ => True) rfl (fun _ hk => hk) trivial (by omega) (by omega) (Below.refl _ _) (Nat.le_refl _) ?_; intro v188 w39 ho40 hb hg_ hnew_; clear hg_ hnew_; (first | rw [← Ny187.out] at ho40 | (simp only [Int.reduceToNat] at ho40; rw [← Ny187.out] at ho40)); have n0_ := Aside0.mk (Kd.R_below (by (with_reducible repeat (first | apply Kd.R_alloc | apply Kd.R_drewN | apply Kd.R_drew)); exact HO181.out) hb); have n1_ := Aside0.mk (Kd.R_below (by (with_reducible repeat (first | apply Kd.R_alloc | apply Kd.R_drewN | apply Kd.R_drew)); exact HO186.out) hb); have n2_ := Aside0.mk (Kd.R_lower ho40 (below_size (by repeat (first | (with_reducible first | exact HB.out | apply below_alloc | apply pw_below_drewN | apply below_drew1 | refine below_set ?_ GE175.out | refine below_set ?_ GE176.out) | exact HB.out)))); have n3_ := Aside0.mk (blk_below (g := gb175) (o := .cells #[.int .i64 a0_0, .int .i64 a0_1, .int .i64 a0_2, .slice A0_3 l0_3.length c0_3, .string a0_4, .slice A0_5 l0_5.length c0_5, .string a0_6] 27 (0, 0)) (by (with_reducible repeat (first | refine blk_drewN ?_ _ | refine blk_drew ?_ | refine blk_alloc ?_ _)); exact BK175.out) hb); have n4_ := Aside0.mk (blk_below (g := gb176) (o := .cells #[.int .i64 a0_0, .int .i64 a0_1, .int .i64 a0_2, .slice A0_3 l0_3.length c0_3] 24 (0, 0)) (by (with_reducible repeat (first | refine blk_drewN ?_ _ | refine blk_drew ?_ | refine blk_alloc ?_ _)); exact BK176.out) hb); have n5_ := Aside0.mk (below_step (by repeat (first | (with_reducible first | exact HB.out | apply below_alloc | apply pw_below_drewN | apply below_drew1 | refine below_set ?_ GE175.out | refine below_set ?_ GE176.out) | exact HB.out)) hb); clear HO181; clear HO186; clear BK175; clear BK176; clear HB; have HO181 := n0_; have HO186 := n1_; have HO189 := n2_; have BK175 := n3_; have BK176 := n4_; have HB := n5_; clear n0_ n1_ n2_ n3_ n4_ n5_; clear hb ho40))
                go_loopg [11] kj1 (fun kq v11 w' => ∃ (x9_2 : List ByteArray) (x10_2 : List Bool) (x11_2 : Int), v11 = .int .i64 x11_2 ∧ Aside0 (sluicegatelaw19_StripeBack.l0 kq a0_4 l0_5 a0_6 x9_2 x10_2 x11_2 a0_0 a0_1 a0_2 l0_3 = some r) ∧ Aside0 (kq ≤ kj1) ∧ Aside0 (Kd.R Kd.string 9 w' w.heap.size (fun _ => True) v185 x9_2) ∧ Aside0 (Kd.R Kd.bool 4 w' w.heap.size (fun _ => True) v188 x10_2) ∧ Aside0 (w'.heap[gb175]? = some (.cells #[.int .i64 a0_0, .int .i64 a0_1, .int .i64 a0_2, (.slice A0_3 l0_3.length c0_3), .string a0_4, (.slice A0_5 l0_5.length c0_5), .string a0_6] 27 (0, 0))) ∧ Aside0 (w'.heap[gb176]? = some (.cells #[.int .i64 a0_0, .int .i64 a0_1, .int .i64 a0_2, (.slice A0_3 l0_3.length c0_3)] 24 (0, 0))) ∧ Aside0 (Below w.heap.size w w'))
                case atStart => exact ⟨(y184), (y187), (0), (by first | rfl | (simp; done) | (simp [*]; done)), H', ⟨Nat.le_refl _⟩, ⟨by (with_reducible repeat (first | apply Kd.R_alloc | apply Kd.R_drewN | apply Kd.R_drew)); exact Kd.R_mono HO186.out (fun _ hk => trivial)⟩, ⟨by (with_reducible repeat (first | apply Kd.R_alloc | apply Kd.R_drewN | apply Kd.R_drew)); exact HO189.out⟩, ⟨by (with_reducible repeat (first | refine blk_drewN ?_ _ | refine blk_drew ?_ | refine blk_alloc ?_ _)); exact BK175.out⟩, ⟨by (with_reducible repeat (first | refine blk_drewN ?_ _ | refine blk_drew ?_ | refine blk_alloc ?_ _)); exact BK176.out⟩, ⟨by repeat (first | (with_reducible first | exact HB.out | apply below_alloc | apply pw_below_drewN | apply below_drew1 | refine below_set ?_ GE175.out | refine below_set ?_ GE176.out) | exact HB.out)⟩⟩
                case round =>
                  clear H'
                  try clear c1
                  try clear c2
                  try clear p2
                  try clear c3
                  try clear c6
                  try clear c7
                  try clear c8
                  try clear c11
                  try clear c12
                  try clear c12b0
                  try clear c12b1
                  try clear c13
                  try clear c16
                  try clear c16b0
                  try clear c16b1
                  try clear c17
                  try clear c20
                  try clear c23
                  try clear c26
                  try clear c30
                  try clear c30b0
                  try clear c30b1
                  try clear c31
                  try clear c31b0
                  try clear c31b1
                  try clear c32
                  try clear c33
                  try clear c33b0
                  try clear c33b1
                  try clear c34
                  try clear hcz14_0
                  try clear hcz14_1
                  try clear hcz14_2
                  try clear hcz14_3
                  try clear hcz18_0
                  try clear hcz18_1
                  try clear hcz18_2
                  try clear hcz18_3
                  try clear hcz21_0
                  try clear hcz21_1
                  try clear hcz21_2
                  try clear hcz21_3
                  try clear hcz24_0
                  try clear hcz24_1
                  try clear hcz24_2
                  try clear hcz24_3
                  try clear hcz35_0
                  try clear hcz35_1
                  try clear hcz35_2
                  try clear hcz35_3
                  try clear hfz14_0
                  try clear hfz14_1
                  try clear hfz14_2
                  try clear hfz14_3
                  try clear hfz18_0
                  try clear hfz18_1
                  try clear hfz18_2
                  try clear hfz18_3
                  try clear hfz21_0
                  try clear hfz21_1
                  try clear hfz21_2
                  try clear hfz21_3
                  try clear hfz24_0
                  try clear hfz24_1
                  try clear hfz24_2
                  try clear hfz24_3
                  try clear hfz35_0
                  try clear hfz35_1
                  try clear hfz35_2
                  try clear hfz35_3
                  try clear p2
                  obtain ⟨x9_2, x10_2, x11_2, rfl, HA, HK2, HO_9, HO_10, BK175, BK176, HB⟩ := hrel
                  cases gk with
                  | zero => exact absurd HA.out (by simp [sluicegatelaw19_StripeBack.l0])
                  | succ k2 =>
                    have H := HA.out
                    clear HA
                    simp only [sluicegatelaw19_StripeBack.l0] at H
                    by_cases c41 : x11_2 < (l0_5.length : Int)
                    · rw [if_pos c41] at H
                      have c41b0 : decide (x11_2 < (l0_5.length : Int)) = true := decide_eq_true c41
                      clear c41
                      by_cases c42 : 0 ≤ x11_2
                      · rw [if_pos c42] at H
                        have c42b0 : decide (0 ≤ x11_2) = true := decide_eq_true c42
                        clear c42
                        by_cases c43 : (rd l0_5 x11_2) ≥ 0
                        · rw [if_pos c43] at H
                          have c43b0 : decide (0 ≤ (rd l0_5 x11_2)) = true := decide_eq_true c43
                          clear c43
                          by_cases c44 : (rd l0_5 x11_2) < 9
                          · rw [if_pos c44] at H
                            have c44b0 : decide ((rd l0_5 x11_2) < 9) = true := decide_eq_true c44
                            clear c44
                            by_cases c45 : 0 ≤ (rd l0_5 x11_2)
                            · rw [if_pos c45] at H
                              have c45b0 : decide (0 ≤ (rd l0_5 x11_2)) = true := decide_eq_true c45
                              clear c45
                              by_cases c46 : (rd l0_5 x11_2) < (x9_2.length : Int)
                              · rw [if_pos c46] at H
                                have c46b0 : decide ((rd l0_5 x11_2) < (x9_2.length : Int)) = true := decide_eq_true c46
                                clear c46
                                obtain ⟨y193, hy193⟩ : ∃ y_ : List ByteArray, y_ = (x9_2.set ((rd l0_5 x11_2) : Int).toNat a0_6) := ⟨_, rfl⟩
                                replace H : (if (rd l0_5 x11_2) < (x10_2.length : Int) then (sluicegatelaw19_StripeBack.l0 k2 a0_4 l0_5 a0_6 y193 (x10_2.set ((rd l0_5 x11_2) : Int).toNat true) (wrap64 (x11_2 + 1)) a0_0 a0_1 a0_2 l0_3) else (none)) = some r := by first | (rw [hy193]; with_reducible exact H) | (have H2_ := (Option.bind_some _ _).symm.trans H; rw [hy193]; with_reducible exact H2_) | (have H2_ := (Option.bind_some _ _).symm.trans H; with_reducible exact H2_) | with_reducible exact H | (rw [hy193]; exact H) | exact H
                                have Ny193 := Aside0.mk hy193
                                clear hy193
                                by_cases c48 : (rd l0_5 x11_2) < (x10_2.length : Int)
                                · rw [if_pos c48] at H
                                  have c48b0 : decide ((rd l0_5 x11_2) < (x10_2.length : Int)) = true := decide_eq_true c48
                                  clear c48
                                  obtain ⟨y195, hy195⟩ : ∃ y_ : List Bool, y_ = (x10_2.set ((rd l0_5 x11_2) : Int).toNat true) := ⟨_, rfl⟩
                                  replace H : (sluicegatelaw19_StripeBack.l0 k2 a0_4 l0_5 a0_6 y193 y195 (wrap64 (x11_2 + 1)) a0_0 a0_1 a0_2 l0_3) = some r := by first | (rw [hy195]; with_reducible exact H) | (have H2_ := (Option.bind_some _ _).symm.trans H; rw [hy195]; with_reducible exact H2_) | (have H2_ := (Option.bind_some _ _).symm.trans H; with_reducible exact H2_) | with_reducible exact H | (rw [hy195]; exact H) | exact H
                                  have Ny195 := Aside0.mk hy195
                                  clear hy195
                                  have H' := Aside0.mk H
                                  clear H
                                  have p190 : 0 ≤ (x11_2 : Int) := of_decide_eq_true (by first | (with_reducible assumption) | assumption)
                                  have q190 : x11_2 < (l0_5.length : Int) := of_decide_eq_true (by first | (with_reducible assumption) | assumption)
                                  obtain ⟨ad190, e190, hx190_0⟩ := Kd.at_int HR0_5.out x11_2 p190 q190
                                  cases e190
                                  replace hx190_0 := (HB.out.cell (World.block_lt_of_cell? w _ hx190_0)).trans hx190_0
                                  replace p190 := eq_true p190
                                  replace q190 := eq_true q190
                                  have p191 : 0 ≤ (x11_2 : Int) := of_decide_eq_true (by first | (with_reducible assumption) | assumption)
                                  have q191 : x11_2 < (l0_5.length : Int) := of_decide_eq_true (by first | (with_reducible assumption) | assumption)
                                  obtain ⟨ad191, e191, hx191_0⟩ := Kd.at_int HR0_5.out x11_2 p191 q191
                                  obtain rfl : ad190 = ad191 := (by injection e191)
                                  replace hx191_0 := (HB.out.cell (World.block_lt_of_cell? w _ hx191_0)).trans hx191_0
                                  replace p191 := eq_true p191
                                  replace q191 := eq_true q191
                                  have p192 : 0 ≤ (x11_2 : Int) := of_decide_eq_true (by first | (with_reducible assumption) | assumption)
                                  have q192 : x11_2 < (l0_5.length : Int) := of_decide_eq_true (by first | (with_reducible assumption) | assumption)
                                  obtain ⟨ad192, e192, hx192_0⟩ := Kd.at_int HR0_5.out x11_2 p192 q192
                                  obtain rfl : ad190 = ad192 := (by injection e192)
                                  replace hx192_0 := (HB.out.cell (World.block_lt_of_cell? w _ hx192_0)).trans hx192_0
                                  replace p192 := eq_true p192
                                  replace q192 := eq_true q192
                                  have p47 : 0 ≤ ((rd l0_5 x11_2) : Int) := of_decide_eq_true (by first | (with_reducible assumption) | assumption)
                                  have q47 : ((rd l0_5 x11_2) : Int) < ((x9_2.length : Int) : Int) := of_decide_eq_true (by first | (with_reducible assumption) | assumption)
                                  obtain ⟨go47, co47, eo47, gb47, gl47, cl47, HG47⟩ := Kd.R_form HO_9.out (by omega)
                                  (first | cases eo47 | (injection eo47 with ea_ en_ ec_; (first | subst ea_ | (injection ea_ with ea_; subst ea_)); subst ec_; clear en_))
                                  have GB47 := Aside0.mk gb47
                                  have GG47 := Aside0.mk HG47
                                  clear gb47 gl47 HG47
                                  obtain ⟨hx47_0, hf47_0⟩ := Kd.R_celln (⟨#[]⟩ : ByteArray) HO_9.out ((rd l0_5 x11_2) : Int) p47 q47
                                  replace p47 := eq_true p47
                                  replace q47 := eq_true q47
                                  have HP50 := Kd.R_putg HO_9.out ((rd l0_5 x11_2) : Int) a0_6
                                  go_wp2_with (first | ((with_reducible refine gate_store (t := 9) (p := 89) rfl ?_); refine store_event (t := 9) (p := 89) (v := ?vo_w51) (w1 := (wr.setCell ⟨go47, ((rd l0_5 x11_2) : Int).toNat, none⟩ (.string a0_6))) ?hg ?ho ?hn ?hr ?_; (case ho => rfl); (case hg => rfl); (case hn => rfl); (case hr => first | (go_simp; done) | (go_simp; rfl)); intro w51 hw; have hg : wr.grownBy w51 (some go47) := (by rw [hw]; exact HP50.2); have hp_ : Kd.R Kd.string 9 w51 w.heap.size (fun _ => True) (.slice (some ⟨go47, 0, none⟩) x9_2.length co47) y193 := (by rw [hw, Ny193.out]; exact HP50.1); clear HP50; have n0_ := Aside0.mk (hp_); have n1_ := Aside0.mk (Kd.R_over' (v := (.slice (some ⟨go47, 0, none⟩) x9_2.length co47)) (by (with_reducible repeat (first | apply Kd.R_alloc | apply Kd.R_drewN | apply Kd.R_drew)); exact HO_10.out) (Kd.R_typed HO_9.out) (by decide) hg); have n2_ := Aside0.mk (blk_grown (g := gb175) (o := .cells #[.int .i64 a0_0, .int .i64 a0_1, .int .i64 a0_2, .slice A0_3 l0_3.length c0_3, .string a0_4, .slice (some ad190) l0_5.length c0_5, .string a0_6] 27 (0, 0)) (by (with_reducible repeat (first | refine blk_drewN ?_ _ | refine blk_drew ?_ | refine blk_alloc ?_ _)); exact BK175.out) hg (Kd.R_ne HO_9.out BK175.out (by decide))); have n3_ := Aside0.mk (blk_grown (g := gb176) (o := .cells #[.int .i64 a0_0, .int .i64 a0_1, .int .i64 a0_2, .slice A0_3 l0_3.length c0_3] 24 (0, 0)) (by (with_reducible repeat (first | refine blk_drewN ?_ _ | refine blk_drew ?_ | refine blk_alloc ?_ _)); exact BK176.out) hg (Kd.R_ne HO_9.out BK176.out (by decide))); have n4_ := Aside0.mk ((by rw [hw]; exact below_set (HB.out) GB47.out : Below w.heap.size w w51)); clear HO_9; clear HO_10; clear BK175; clear BK176; clear HB; have HO_9 := n0_; have HO_10 := n1_; have BK175 := n2_; have BK176 := n3_; have HB := n4_; clear n0_ n1_ n2_ n3_ n4_; clear hg hw hp_; have p194 : 0 ≤ (x11_2 : Int) := of_decide_eq_true (by first | (with_reducible assumption) | assumption); have q194 : x11_2 < (l0_5.length : Int) := of_decide_eq_true (by first | (with_reducible assumption) | assumption); obtain ⟨ad194, e194, hx194_0⟩ := Kd.at_int HR0_5.out x11_2 p194 q194; obtain rfl : ad190 = ad194 := (by injection e194); replace hx194_0 := (HB.out.cell (World.block_lt_of_cell? w _ hx194_0)).trans hx194_0; replace p194 := eq_true p194; replace q194 := eq_true q194; have p49 : 0 ≤ ((rd l0_5 x11_2) : Int) := of_decide_eq_true (by first | (with_reducible assumption) | assumption); have q49 : ((rd l0_5 x11_2) : Int) < ((x10_2.length : Int) : Int) := of_decide_eq_true (by first | (with_reducible assumption) | assumption); obtain ⟨go49, co49, eo49, gb49, gl49, cl49, HG49⟩ := Kd.R_form HO_10.out (by omega); (first | cases eo49 | (injection eo49 with ea_ en_ ec_; (first | subst ea_ | (injection ea_ with ea_; subst ea_)); subst ec_; clear en_)); have GB49 := Aside0.mk gb49; have GG49 := Aside0.mk HG49; clear gb49 gl49 HG49; obtain ⟨hx49_0, hf49_0⟩ := Kd.R_celln false HO_10.out ((rd l0_5 x11_2) : Int) p49 q49; replace p49 := eq_true p49; replace q49 := eq_true q49; obtain ⟨hy52_, hz52_⟩ := Kd.R_celln false HO_10.out ((rd l0_5 x11_2) : Int) (of_decide_eq_true (by first | (with_reducible assumption) | assumption)) (of_decide_eq_true (by first | (with_reducible assumption) | assumption)); have HP52 := Kd.R_putg HO_10.out ((rd l0_5 x11_2) : Int) true) | ((with_reducible refine gate_store (t := 4) (p := 95) rfl ?_); refine store_event (t := 4) (p := 95) (v := ?vo_w53) (w1 := (w51.setCell ⟨go49, ((rd l0_5 x11_2) : Int).toNat, none⟩ (.bool true))) ?hg ?ho ?hn ?hr ?_; (case ho => rfl); (case hg => rfl); (case hn => rfl); (case hr => first | (go_simp; done) | (go_simp; rfl)); intro w53 hw; have hg : w51.grownBy w53 (some go49) := (by rw [hw]; exact HP52.2); have hp_ : Kd.R Kd.bool 4 w53 w.heap.size (fun _ => True) (.slice (some ⟨go49, 0, none⟩) x10_2.length co49) y195 := (by rw [hw, Ny195.out]; exact HP52.1); clear HP52; have n0_ := Aside0.mk (Kd.R_over' (v := (.slice (some ⟨go49, 0, none⟩) x10_2.length co49)) (by (with_reducible repeat (first | apply Kd.R_alloc | apply Kd.R_drewN | apply Kd.R_drew)); exact HO_9.out) (Kd.R_typed HO_10.out) (by decide) hg); have n1_ := Aside0.mk (hp_); have n2_ := Aside0.mk (blk_grown (g := gb175) (o := .cells #[.int .i64 a0_0, .int .i64 a0_1, .int .i64 a0_2, .slice A0_3 l0_3.length c0_3, .string a0_4, .slice (some ad190) l0_5.length c0_5, .string a0_6] 27 (0, 0)) (by (with_reducible repeat (first | refine blk_drewN ?_ _ | refine blk_drew ?_ | refine blk_alloc ?_ _)); exact BK175.out) hg (Kd.R_ne HO_10.out BK175.out (by decide))); have n3_ := Aside0.mk (blk_grown (g := gb176) (o := .cells #[.int .i64 a0_0, .int .i64 a0_1, .int .i64 a0_2, .slice A0_3 l0_3.length c0_3] 24 (0, 0)) (by (with_reducible repeat (first | refine blk_drewN ?_ _ | refine blk_drew ?_ | refine blk_alloc ?_ _)); exact BK176.out) hg (Kd.R_ne HO_10.out BK176.out (by decide))); have n4_ := Aside0.mk ((by rw [hw]; exact below_set (HB.out) GB49.out : Below w.heap.size w w53)); clear HO_9; clear HO_10; clear BK175; clear BK176; clear HB; have HO_9 := n0_; have HO_10 := n1_; have BK175 := n2_; have BK176 := n3_; have HB := n4_; clear n0_ n1_ n2_ n3_ n4_; clear hg hw hp_))
                                  go_roundg k2
                                  case measure => have := HJ1.out; have := HK2.out; omega
                                  case rel => exact ⟨(y193), (y195), (wrap64 (x11_2 + 1)), (by first | rfl | (simp; done) | (simp [*]; done)), H', ⟨by have := HJ1.out; have := HK2.out; omega⟩, ⟨by (with_reducible repeat (first | apply Kd.R_alloc | apply Kd.R_drewN | apply Kd.R_drew)); exact HO_9.out⟩, ⟨by (with_reducible repeat (first | apply Kd.R_alloc | apply Kd.R_drewN | apply Kd.R_drew)); exact HO_10.out⟩, ⟨by (with_reducible repeat (first | refine blk_drewN ?_ _ | refine blk_drew ?_ | refine blk_alloc ?_ _)); exact BK175.out⟩, ⟨by (with_reducible repeat (first | refine blk_drewN ?_ _ | refine blk_drew ?_ | refine blk_alloc ?_ _)); exact BK176.out⟩, ⟨by repeat (first | (with_reducible first | exact HB.out | apply below_alloc | apply pw_below_drewN | apply below_drew1 | refine below_set ?_ GE175.out | refine below_set ?_ GE176.out) | exact HB.out)⟩⟩
                                · rw [if_neg c48] at H
                                  exact absurd H (by simp)
                              · rw [if_neg c46] at H
                                exact absurd H (by simp)
                            · rw [if_neg c45] at H
                              exact absurd H (by simp)
                          · rw [if_neg c44] at H
                            have c44b0 : decide ((rd l0_5 x11_2) < 9) = false := decide_eq_false c44
                            clear c44
                            have H' := Aside0.mk H
                            clear H
                            have p190 : 0 ≤ (x11_2 : Int) := of_decide_eq_true (by first | (with_reducible assumption) | assumption)
                            have q190 : x11_2 < (l0_5.length : Int) := of_decide_eq_true (by first | (with_reducible assumption) | assumption)
                            obtain ⟨ad190, e190, hx190_0⟩ := Kd.at_int HR0_5.out x11_2 p190 q190
                            cases e190
                            replace hx190_0 := (HB.out.cell (World.block_lt_of_cell? w _ hx190_0)).trans hx190_0
                            replace p190 := eq_true p190
                            replace q190 := eq_true q190
                            have p191 : 0 ≤ (x11_2 : Int) := of_decide_eq_true (by first | (with_reducible assumption) | assumption)
                            have q191 : x11_2 < (l0_5.length : Int) := of_decide_eq_true (by first | (with_reducible assumption) | assumption)
                            obtain ⟨ad191, e191, hx191_0⟩ := Kd.at_int HR0_5.out x11_2 p191 q191
                            obtain rfl : ad190 = ad191 := (by injection e191)
                            replace hx191_0 := (HB.out.cell (World.block_lt_of_cell? w _ hx191_0)).trans hx191_0
                            replace p191 := eq_true p191
                            replace q191 := eq_true q191
                            go_wp2
                            go_roundg k2
                            case measure => have := HJ1.out; have := HK2.out; omega
                            case rel => exact ⟨(x9_2), (x10_2), (wrap64 (x11_2 + 1)), (by first | rfl | (simp; done) | (simp [*]; done)), H', ⟨by have := HJ1.out; have := HK2.out; omega⟩, ⟨by (with_reducible repeat (first | apply Kd.R_alloc | apply Kd.R_drewN | apply Kd.R_drew)); exact HO_9.out⟩, ⟨by (with_reducible repeat (first | apply Kd.R_alloc | apply Kd.R_drewN | apply Kd.R_drew)); exact HO_10.out⟩, ⟨by (with_reducible repeat (first | refine blk_drewN ?_ _ | refine blk_drew ?_ | refine blk_alloc ?_ _)); exact BK175.out⟩, ⟨by (with_reducible repeat (first | refine blk_drewN ?_ _ | refine blk_drew ?_ | refine blk_alloc ?_ _)); exact BK176.out⟩, ⟨by repeat (first | (with_reducible first | exact HB.out | apply below_alloc | apply pw_below_drewN | apply below_drew1 | refine below_set ?_ GE175.out | refine below_set ?_ GE176.out) | exact HB.out)⟩⟩
                        · rw [if_neg c43] at H
                          have c43b0 : decide (0 ≤ (rd l0_5 x11_2)) = false := decide_eq_false c43
                          clear c43
                          have H' := Aside0.mk H
                          clear H
                          have p190 : 0 ≤ (x11_2 : Int) := of_decide_eq_true (by first | (with_reducible assumption) | assumption)
                          have q190 : x11_2 < (l0_5.length : Int) := of_decide_eq_true (by first | (with_reducible assumption) | assumption)
                          obtain ⟨ad190, e190, hx190_0⟩ := Kd.at_int HR0_5.out x11_2 p190 q190
                          cases e190
                          replace hx190_0 := (HB.out.cell (World.block_lt_of_cell? w _ hx190_0)).trans hx190_0
                          replace p190 := eq_true p190
                          replace q190 := eq_true q190
                          go_wp2
                          go_roundg k2
                          case measure => have := HJ1.out; have := HK2.out; omega
                          case rel => exact ⟨(x9_2), (x10_2), (wrap64 (x11_2 + 1)), (by first | rfl | (simp; done) | (simp [*]; done)), H', ⟨by have := HJ1.out; have := HK2.out; omega⟩, ⟨by (with_reducible repeat (first | apply Kd.R_alloc | apply Kd.R_drewN | apply Kd.R_drew)); exact HO_9.out⟩, ⟨by (with_reducible repeat (first | apply Kd.R_alloc | apply Kd.R_drewN | apply Kd.R_drew)); exact HO_10.out⟩, ⟨by (with_reducible repeat (first | refine blk_drewN ?_ _ | refine blk_drew ?_ | refine blk_alloc ?_ _)); exact BK175.out⟩, ⟨by (with_reducible repeat (first | refine blk_drewN ?_ _ | refine blk_drew ?_ | refine blk_alloc ?_ _)); exact BK176.out⟩, ⟨by repeat (first | (with_reducible first | exact HB.out | apply below_alloc | apply pw_below_drewN | apply below_drew1 | refine below_set ?_ GE175.out | refine below_set ?_ GE176.out) | exact HB.out)⟩⟩
                      · rw [if_neg c42] at H
                        exact absurd H (by simp)
                    · rw [if_neg c41] at H
                      have c41b0 : decide (x11_2 < (l0_5.length : Int)) = false := decide_eq_false c41
                      clear c41
                      have H' := Aside0.mk H
                      clear H
                      go_wp2
                      go_loopg [12, 13] k2 (fun kq v12 v13 w' => ∃ (x12_3 : List Int) (x13_3 : Int), v13 = .int .i64 x13_3 ∧ Aside0 (sluicegatelaw19_StripeBack.l1 kq a0_4 x9_2 x10_2 x12_3 x13_3 a0_0 a0_1 a0_2 l0_3 = some r) ∧ Aside0 (kq ≤ k2) ∧ Aside0 (Kd.R Kd.string 9 w' w.heap.size (fun _ => True) v185 x9_2) ∧ Aside0 (Kd.R Kd.bool 4 w' w.heap.size (fun _ => True) v188 x10_2) ∧ Aside0 (Kd.R (Kd.int .i64) 3 w' w.heap.size (fun _ => True) v12 x12_3) ∧ Aside0 (w'.heap[gb175]? = some (.cells #[.int .i64 a0_0, .int .i64 a0_1, .int .i64 a0_2, (.slice A0_3 l0_3.length c0_3), .string a0_4, (.slice A0_5 l0_5.length c0_5), .string a0_6] 27 (0, 0))) ∧ Aside0 (w'.heap[gb176]? = some (.cells #[.int .i64 a0_0, .int .i64 a0_1, .int .i64 a0_2, (.slice A0_3 l0_3.length c0_3)] 24 (0, 0))) ∧ Aside0 (Below w.heap.size w w'))
                      case atStart => exact ⟨(([] : List Int)), (0), (by first | rfl | (simp; done) | (simp [*]; done)), H', ⟨Nat.le_refl _⟩, ⟨by (with_reducible repeat (first | apply Kd.R_alloc | apply Kd.R_drewN | apply Kd.R_drew)); exact HO_9.out⟩, ⟨by (with_reducible repeat (first | apply Kd.R_alloc | apply Kd.R_drewN | apply Kd.R_drew)); exact HO_10.out⟩, ⟨by first | exact Kd.R_nil _ _ _ _ _ | exact Kd.N_nil _ _ _ _ _ | exact Kd.V_nil _ _ _ _ _ | exact Kd.Q_nil _ _ _ _ _ | exact Kd.S_nil _ _ _ _ _⟩, ⟨by (with_reducible repeat (first | refine blk_drewN ?_ _ | refine blk_drew ?_ | refine blk_alloc ?_ _)); exact BK175.out⟩, ⟨by (with_reducible repeat (first | refine blk_drewN ?_ _ | refine blk_drew ?_ | refine blk_alloc ?_ _)); exact BK176.out⟩, ⟨by repeat (first | (with_reducible first | exact HB.out | apply below_alloc | apply pw_below_drewN | apply below_drew1 | refine below_set ?_ GE175.out | refine below_set ?_ GE176.out) | exact HB.out)⟩⟩
                      case round =>
                        clear H'
                        try clear c1
                        try clear p1
                        try clear q1
                        try clear hx1
                        try clear c2
                        try clear p2
                        try clear c3
                        try clear c4
                        try clear p4
                        try clear q4
                        try clear hx4
                        try clear hf4
                        try clear c6
                        try clear p6
                        try clear c7
                        try clear c8
                        try clear c11
                        try clear c12
                        try clear c12b0
                        try clear c12b1
                        try clear c13
                        try clear c16
                        try clear c16b0
                        try clear c16b1
                        try clear c17
                        try clear p19
                        try clear q19
                        try clear hx19
                        try clear c20
                        try clear c23
                        try clear c26
                        try clear c30
                        try clear c30b0
                        try clear c30b1
                        try clear c31
                        try clear c31b0
                        try clear c31b1
                        try clear c32
                        try clear c33
                        try clear c33b0
                        try clear c33b1
                        try clear c34
                        try clear c41
                        try clear c41b0
                        try clear c42
                        try clear c42b0
                        try clear c43
                        try clear c43b0
                        try clear c44
                        try clear c44b0
                        try clear c45
                        try clear c45b0
                        try clear c46
                        try clear c46b0
                        try clear p47
                        try clear q47
                        try clear hx47
                        try clear hf47
                        try clear c48
                        try clear c48b0
                        try clear p49
                        try clear q49
                        try clear hx49
                        try clear hf49
                        try clear hcz14_0
                        try clear hcz14_1
                        try clear hcz14_2
                        try clear hcz14_3
                        try clear hcz18_0
                        try clear hcz18_1
                        try clear hcz18_2
                        try clear hcz18_3
                        try clear hcz21_0
                        try clear hcz21_1
                        try clear hcz21_2
                        try clear hcz21_3
                        try clear hcz24_0
                        try clear hcz24_1
                        try clear hcz24_2
                        try clear hcz24_3
                        try clear hcz35_0
                        try clear hcz35_1
                        try clear hcz35_2
                        try clear hcz35_3
                        try clear hfz14_0
                        try clear hfz14_1
                        try clear hfz14_2
                        try clear hfz14_3
                        try clear hfz18_0
                        try clear hfz18_1
                        try clear hfz18_2
                        try clear hfz18_3
                        try clear hfz21_0
                        try clear hfz21_1
                        try clear hfz21_2
                        try clear hfz21_3
                        try clear hfz24_0
                        try clear hfz24_1
                        try clear hfz24_2
                        try clear hfz24_3
                        try clear hfz35_0
                        try clear hfz35_1
                        try clear hfz35_2
                        try clear hfz35_3
                        try clear hx190_0
                        try clear hx191_0
                        try clear hx192_0
                        try clear hx194_0
                        try clear hx47_0
                        try clear hx49_0
                        try clear p190
                        try clear p191
                        try clear p192
                        try clear p194
                        try clear p2
                        try clear p47
                        try clear p49
                        try clear q190
                        try clear q191
                        try clear q192
                        try clear q194
                        try clear q47
                        try clear q49
                        obtain ⟨x12_3, x13_3, rfl, HA, HK3, HO_9, HO_10, HO_12, BK175, BK176, HB⟩ := hrel
                        cases gk with
                        | zero => exact absurd HA.out (by simp [sluicegatelaw19_StripeBack.l1])
                        | succ k3 =>
                          have H := HA.out
                          clear HA
                          simp only [sluicegatelaw19_StripeBack.l1] at H
                          by_cases c54 : x13_3 < 9
                          · rw [if_pos c54] at H
                            have c54b0 : decide (x13_3 < 9) = true := decide_eq_true c54
                            clear c54
                            by_cases c55 : 0 ≤ x13_3
                            · rw [if_pos c55] at H
                              have c55b0 : decide (0 ≤ x13_3) = true := decide_eq_true c55
                              clear c55
                              by_cases c56 : x13_3 < (x10_2.length : Int)
                              · rw [if_pos c56] at H
                                have c56b0 : decide (x13_3 < (x10_2.length : Int)) = true := decide_eq_true c56
                                clear c56
                                obtain ⟨bq57, hbq57⟩ : ∃ b_ : Bool, b_ = (rdOf false x10_2 x13_3) := ⟨_, rfl⟩
                                replace H : (if bq57 = true then (if x12_3.length < 17592186044416 then (sluicegatelaw19_StripeBack.l1 k3 a0_4 x9_2 x10_2 (x12_3 ++ [x13_3]) (wrap64 (x13_3 + 1)) a0_0 a0_1 a0_2 l0_3) else (none)) else (sluicegatelaw19_StripeBack.l1 k3 a0_4 x9_2 x10_2 x12_3 (wrap64 (x13_3 + 1)) a0_0 a0_1 a0_2 l0_3)) = some r := by rw [← hbq57] at H; exact H
                                have Nbq57 := Aside0.mk hbq57
                                clear hbq57
                                by_cases c58 : bq57 = true
                                · subst c58
                                  have H1 : (if x12_3.length < 17592186044416 then (sluicegatelaw19_StripeBack.l1 k3 a0_4 x9_2 x10_2 (x12_3 ++ [x13_3]) (wrap64 (x13_3 + 1)) a0_0 a0_1 a0_2 l0_3) else (none)) = some r := by rw [if_pos rfl] at H; exact H
                                  clear H
                                  have H := H1
                                  clear H1
                                  by_cases c59 : x12_3.length < 17592186044416
                                  · rw [if_pos c59] at H
                                    have LMc59 := Aside0.mk c59
                                    clear c59
                                    obtain ⟨y197, hy197⟩ : ∃ y_ : List Int, y_ = (x12_3 ++ [x13_3]) := ⟨_, rfl⟩
                                    replace H : (sluicegatelaw19_StripeBack.l1 k3 a0_4 x9_2 x10_2 y197 (wrap64 (x13_3 + 1)) a0_0 a0_1 a0_2 l0_3) = some r := by first | (rw [hy197]; with_reducible exact H) | (have H2_ := (Option.bind_some _ _).symm.trans H; rw [hy197]; with_reducible exact H2_) | (have H2_ := (Option.bind_some _ _).symm.trans H; with_reducible exact H2_) | with_reducible exact H | (rw [hy197]; exact H) | exact H
                                    have Ny197 := Aside0.mk hy197
                                    clear hy197
                                    have H' := Aside0.mk H
                                    clear H
                                    obtain ⟨Ao60, co60, eo60⟩ := Kd.R_slice HO_10.out
                                    subst eo60
                                    have p196 : 0 ≤ (x13_3 : Int) := of_decide_eq_true (by first | (with_reducible assumption) | assumption)
                                    have q196 : x13_3 < (x10_2.length : Int) := of_decide_eq_true (by first | (with_reducible assumption) | assumption)
                                    obtain ⟨ad196, e196, hx196_0⟩ := Kd.at_bool (Kd.R_reads' HO_10.out).2.2 x13_3 p196 q196
                                    (try rw [← Nbq57.out] at hx196_0)
                                    cases e196
                                    replace p196 := eq_true p196
                                    replace q196 := eq_true q196
                                    go_wp2_with (first | ((with_reducible refine gate_builtin (b := .append) (xs := #[.tmp 104, .tmp 106]) rfl ?_); (try (refine gate_guard (by rfl) ?_; dsimp only)); at_builtin; refine Kd.R_append (Kd.int .i64) (w0 := w) w.heap.size rfl (.tmp 104) (.tmp 106) 25 3 (.int .i64 0) 8 rfl Tryd.underlying25 info3 rfl (by decide) (by omega) u12 x12_3 x13_3 [.int .i64 x13_3] (fun _ => True) (fun _ => False) rfl rfl ?aP (fun _ hk => hk.elim) ?aF ?aO ?aB ?aS ?aL ?_; (case aP => exact rfl); (case aB => exact (by repeat (first | (with_reducible first | exact HB.out | apply below_alloc | apply pw_below_drewN | apply below_drew1 | refine below_set ?_ GE175.out | refine below_set ?_ GE176.out) | exact HB.out))); (case aF => exact (fun _ _ => trivial)); (case aO => exact (by (with_reducible repeat (first | apply Kd.R_alloc | apply Kd.R_drewN | apply Kd.R_drew)); exact HO_12.out)); (case aS => exact (below_size (by repeat (first | (with_reducible first | exact HB.out | apply below_alloc | apply pw_below_drewN | apply below_drew1 | refine below_set ?_ GE175.out | refine below_set ?_ GE176.out) | exact HB.out)))); (case aL => have := LMc59.out; omega); intro v198 w61 ho hb hg hat; rw [← Ny197.out] at ho; have n0_ := Aside0.mk (Kd.R_over' (by (with_reducible repeat (first | apply Kd.R_alloc | apply Kd.R_drewN | apply Kd.R_drew)); exact HO_9.out) (Kd.R_typed (by (with_reducible repeat (first | apply Kd.R_alloc | apply Kd.R_drewN | apply Kd.R_drew)); exact HO_12.out)) (by decide) hg); have n1_ := Aside0.mk (Kd.R_over' (by (with_reducible repeat (first | apply Kd.R_alloc | apply Kd.R_drewN | apply Kd.R_drew)); exact HO_10.out) (Kd.R_typed (by (with_reducible repeat (first | apply Kd.R_alloc | apply Kd.R_drewN | apply Kd.R_drew)); exact HO_12.out)) (by decide) hg); have n2_ := Aside0.mk (blk_grown (g := gb175) (o := .cells #[.int .i64 a0_0, .int .i64 a0_1, .int .i64 a0_2, .slice A0_3 l0_3.length c0_3, .string a0_4, .slice A0_5 l0_5.length c0_5, .string a0_6] 27 (0, 0)) (by (with_reducible repeat (first | refine blk_drewN ?_ _ | refine blk_drew ?_ | refine blk_alloc ?_ _)); exact BK175.out) hg (Kd.R_ne HO_12.out BK175.out (by decide))); have n3_ := Aside0.mk (blk_grown (g := gb176) (o := .cells #[.int .i64 a0_0, .int .i64 a0_1, .int .i64 a0_2, .slice A0_3 l0_3.length c0_3] 24 (0, 0)) (by (with_reducible repeat (first | refine blk_drewN ?_ _ | refine blk_drew ?_ | refine blk_alloc ?_ _)); exact BK176.out) hg (Kd.R_ne HO_12.out BK176.out (by decide))); have n4_ := Aside0.mk (hb); have n5_ := Aside0.mk (ho); clear HO_9; clear HO_10; clear BK175; clear BK176; clear HB; clear HO_12; have HO_9 := n0_; have HO_10 := n1_; have BK175 := n2_; have BK176 := n3_; have HB := n4_; have HO199 := n5_; clear n0_ n1_ n2_ n3_ n4_ n5_; clear ho hb hg hat))
                                    go_roundg k3
                                    case measure => have := HJ1.out; have := HK2.out; have := HK3.out; omega
                                    case rel => exact ⟨(y197), (wrap64 (x13_3 + 1)), (by first | rfl | (simp; done) | (simp [*]; done)), H', ⟨by have := HJ1.out; have := HK2.out; have := HK3.out; omega⟩, ⟨by (with_reducible repeat (first | apply Kd.R_alloc | apply Kd.R_drewN | apply Kd.R_drew)); exact HO_9.out⟩, ⟨by (with_reducible repeat (first | apply Kd.R_alloc | apply Kd.R_drewN | apply Kd.R_drew)); exact HO_10.out⟩, ⟨by (with_reducible repeat (first | apply Kd.R_alloc | apply Kd.R_drewN | apply Kd.R_drew)); exact HO199.out⟩, ⟨by (with_reducible repeat (first | refine blk_drewN ?_ _ | refine blk_drew ?_ | refine blk_alloc ?_ _)); exact BK175.out⟩, ⟨by (with_reducible repeat (first | refine blk_drewN ?_ _ | refine blk_drew ?_ | refine blk_alloc ?_ _)); exact BK176.out⟩, ⟨by repeat (first | (with_reducible first | exact HB.out | apply below_alloc | apply pw_below_drewN | apply below_drew1 | refine below_set ?_ GE175.out | refine below_set ?_ GE176.out) | exact HB.out)⟩⟩
                                  · rw [if_neg c59] at H
                                    exact absurd H (by simp)
                                · replace c58 := Bool.eq_false_iff.mpr c58
                                  subst c58
                                  have H1 : (sluicegatelaw19_StripeBack.l1 k3 a0_4 x9_2 x10_2 x12_3 (wrap64 (x13_3 + 1)) a0_0 a0_1 a0_2 l0_3) = some r := by rw [if_neg (show ¬ (false = true) by decide)] at H; exact H
                                  clear H
                                  have H := H1
                                  clear H1
                                  have H' := Aside0.mk H
                                  clear H
                                  obtain ⟨Ao62, co62, eo62⟩ := Kd.R_slice HO_10.out
                                  subst eo62
                                  have p196 : 0 ≤ (x13_3 : Int) := of_decide_eq_true (by first | (with_reducible assumption) | assumption)
                                  have q196 : x13_3 < (x10_2.length : Int) := of_decide_eq_true (by first | (with_reducible assumption) | assumption)
                                  obtain ⟨ad196, e196, hx196_0⟩ := Kd.at_bool (Kd.R_reads' HO_10.out).2.2 x13_3 p196 q196
                                  (try rw [← Nbq57.out] at hx196_0)
                                  cases e196
                                  replace p196 := eq_true p196
                                  replace q196 := eq_true q196
                                  go_wp2
                                  go_roundg k3
                                  case measure => have := HJ1.out; have := HK2.out; have := HK3.out; omega
                                  case rel => exact ⟨(x12_3), (wrap64 (x13_3 + 1)), (by first | rfl | (simp; done) | (simp [*]; done)), H', ⟨by have := HJ1.out; have := HK2.out; have := HK3.out; omega⟩, ⟨by (with_reducible repeat (first | apply Kd.R_alloc | apply Kd.R_drewN | apply Kd.R_drew)); exact HO_9.out⟩, ⟨by (with_reducible repeat (first | apply Kd.R_alloc | apply Kd.R_drewN | apply Kd.R_drew)); exact HO_10.out⟩, ⟨by (with_reducible repeat (first | apply Kd.R_alloc | apply Kd.R_drewN | apply Kd.R_drew)); exact HO_12.out⟩, ⟨by (with_reducible repeat (first | refine blk_drewN ?_ _ | refine blk_drew ?_ | refine blk_alloc ?_ _)); exact BK175.out⟩, ⟨by (with_reducible repeat (first | refine blk_drewN ?_ _ | refine blk_drew ?_ | refine blk_alloc ?_ _)); exact BK176.out⟩, ⟨by repeat (first | (with_reducible first | exact HB.out | apply below_alloc | apply pw_below_drewN | apply below_drew1 | refine below_set ?_ GE175.out | refine below_set ?_ GE176.out) | exact HB.out)⟩⟩
                              · rw [if_neg c56] at H
                                exact absurd H (by simp)
                            · rw [if_neg c55] at H
                              exact absurd H (by simp)
                          · rw [if_neg c54] at H
                            have c54b0 : decide (x13_3 < 9) = false := decide_eq_false c54
                            clear c54
                            replace H := Option.bind_eq_some_iff.mp H
                            obtain ⟨⟨t200, t201, t204⟩, A630, H⟩ := H
                            replace H : ((sluicegateref06_Ints.f k3 t201 x12_3).bind fun t205 => (if t205 = true then (if (x12_3.length : Int) > 3 then (if t200.toList = ([] : List UInt8) then (if t204 = 2 then ((sluicegatelaw19_live.f).bind fun t206 => (some t206)) else (some false)) else (some false)) else (if t200.toList = a0_4.toList then (if t204 = 0 then ((sluicegatelaw19_live.f).bind fun t207 => (some t207)) else (some false)) else (some false))) else (some false))) = some r := H
                            have A63 := Aside0.mk A630
                            clear A630
                            replace H := Option.bind_eq_some_iff.mp H
                            obtain ⟨t205, A640, H⟩ := H
                            replace H : (if t205 = true then (if (x12_3.length : Int) > 3 then (if t200.toList = ([] : List UInt8) then (if t204 = 2 then ((sluicegatelaw19_live.f).bind fun t206 => (some t206)) else (some false)) else (some false)) else (if t200.toList = a0_4.toList then (if t204 = 0 then ((sluicegatelaw19_live.f).bind fun t207 => (some t207)) else (some false)) else (some false))) else (some false)) = some r := H
                            have A64 := Aside0.mk A640
                            clear A640
                            by_cases c65 : t205 = true
                            · subst c65
                              have H1 : (if (x12_3.length : Int) > 3 then (if t200.toList = ([] : List UInt8) then (if t204 = 2 then ((sluicegatelaw19_live.f).bind fun t206 => (some t206)) else (some false)) else (some false)) else (if t200.toList = a0_4.toList then (if t204 = 0 then ((sluicegatelaw19_live.f).bind fun t207 => (some t207)) else (some false)) else (some false))) = some r := by rw [if_pos rfl] at H; exact H
                              clear H
                              have H := H1
                              clear H1
                              by_cases c66 : (x12_3.length : Int) > 3
                              · rw [if_pos c66] at H
                                have c66b0 : decide (3 < (x12_3.length : Int)) = true := decide_eq_true c66
                                have c66b1 : decide (3 < x12_3.length) = true := decide_eq_true (by omega)
                                clear c66
                                by_cases c67 : t200.toList = ([] : List UInt8)
                                · rw [if_pos c67] at H
                                  have c67b0 : (t200.toList == ([] : List UInt8)) = true := beq_iff_eq.mpr c67
                                  have c67b1 : (t200.toList != ([] : List UInt8)) = false := bne_eq_false_iff_eq.mpr c67
                                  clear c67
                                  by_cases c68 : t204 = 2
                                  · rw [if_pos c68] at H
                                    have c68b0 : (t204 == 2) = true := beq_iff_eq.mpr c68
                                    have c68b1 : (t204 != 2) = false := bne_eq_false_iff_eq.mpr c68
                                    clear c68
                                    replace H := Option.bind_eq_some_iff.mp H
                                    obtain ⟨t206, A690, H⟩ := H
                                    replace H : (some t206) = some r := H
                                    have A69 := Aside0.mk A690
                                    clear A690
                                    obtain rfl := Option.some.inj H
                                    have hnb70 := NB176_175.out
                                    have hnc70 := NB175_176.out
                                    have hcz71_0 : wr.cell? ⟨gb176, 0, none⟩ = some (.int .i64 a0_0) := (blk_cell BK176.out 0).trans rfl
                                    have hcz71_1 : wr.cell? ⟨gb176, 1, none⟩ = some (.int .i64 a0_1) := (blk_cell BK176.out 1).trans rfl
                                    have hcz71_2 : wr.cell? ⟨gb176, 2, none⟩ = some (.int .i64 a0_2) := (blk_cell BK176.out 2).trans rfl
                                    have hcz71_3 : wr.cell? ⟨gb176, 3, none⟩ = some (.slice A0_3 l0_3.length c0_3) := (blk_cell BK176.out 3).trans rfl
                                    have hfz71_0 := blk_frozen BK176.out 0
                                    have hfz71_1 := blk_frozen BK176.out 1
                                    have hfz71_2 := blk_frozen BK176.out 2
                                    have hfz71_3 := blk_frozen BK176.out 3
                                    obtain ⟨Ao72, co72, eo72⟩ := Kd.R_slice HO_9.out
                                    subst eo72
                                    go_wp2_with (first | ((with_reducible refine gate_callee (f := 9) rfl ?_); refine goesL_ (some 111) rfl rfl Tryd.func9 (by kernel_rfl) rfl #[.agg #[.int .i64 a0_0, .int .i64 a0_1, .int .i64 a0_2, .slice A0_3 l0_3.length c0_3], .slice Ao72 x9_2.length co72] rfl (by (try simp only [List.map_toArray, List.map_cons, List.map_nil]); first | done | rfl | (simp only [List.length_drop, List.length_take]; rfl)) ?_; (with_reducible refine (stripe_Text.calls k3 a0_0 a0_1 a0_2 _ _ l0_3 _ _ x9_2 t200 t201 t204 _ ?side1 ?side2 ?side3 ?side4 A63.out).mono ?_); (case side1 => repeat (first | exact (Kd.C_below HR0_3.out HB.out) | (with_reducible refine Kd.C_alloc ?_ _) | (with_reducible refine Kd.C_drewN ?_ _) | (with_reducible refine Kd.C_drew ?_))); (case side2 => exact HC0_3.out); (case side3 => repeat (first | exact (Kd.R_reads' HO_9.out).2.2 | (with_reducible refine Kd.C_alloc ?_ _) | (with_reducible refine Kd.C_drewN ?_ _) | (with_reducible refine Kd.C_drew ?_))); (case side4 => exact (Kd.R_reads' HO_9.out).2.1); rintro e w73 ⟨v202, rfl, ho0, hb⟩; refine ⟨_, rfl, ?_⟩; have n0_ := Aside0.mk (Kd.R_below (by (with_reducible repeat (first | apply Kd.R_alloc | apply Kd.R_drewN | apply Kd.R_drew)); exact HO_9.out) hb); have n1_ := Aside0.mk (Kd.R_below (by (with_reducible repeat (first | apply Kd.R_alloc | apply Kd.R_drewN | apply Kd.R_drew)); exact HO_10.out) hb); have n2_ := Aside0.mk (Kd.R_elder' (by (with_reducible repeat (first | apply Kd.R_alloc | apply Kd.R_drewN | apply Kd.R_drew)); exact HO_12.out) (Kd.R_base ho0) hb); have n3_ := Aside0.mk (Kd.R_lower (Kd.R_new' ho0 (Kd.R_lt (by (with_reducible repeat (first | apply Kd.R_alloc | apply Kd.R_drewN | apply Kd.R_drew)); exact HO_12.out))) (below_size (by repeat (first | (with_reducible first | exact HB.out | apply below_alloc | apply pw_below_drewN | apply below_drew1 | refine below_set ?_ GE175.out | refine below_set ?_ GE176.out) | exact HB.out)))); have n4_ := Aside0.mk (blk_below (g := gb175) (o := .cells #[.int .i64 a0_0, .int .i64 a0_1, .int .i64 a0_2, .slice A0_3 l0_3.length c0_3, .string a0_4, .slice A0_5 l0_5.length c0_5, .string a0_6] 27 (0, 0)) (by (with_reducible repeat (first | refine blk_drewN ?_ _ | refine blk_drew ?_ | refine blk_alloc ?_ _)); exact BK175.out) hb); have n5_ := Aside0.mk (blk_below (g := gb176) (o := .cells #[.int .i64 a0_0, .int .i64 a0_1, .int .i64 a0_2, .slice A0_3 l0_3.length c0_3] 24 (0, 0)) (by (with_reducible repeat (first | refine blk_drewN ?_ _ | refine blk_drew ?_ | refine blk_alloc ?_ _)); exact BK176.out) hb); have n6_ := Aside0.mk (below_step (by repeat (first | (with_reducible first | exact HB.out | apply below_alloc | apply pw_below_drewN | apply below_drew1 | refine below_set ?_ GE175.out | refine below_set ?_ GE176.out) | exact HB.out)) hb); clear HO_9; clear HO_10; clear HO_12; clear BK175; clear BK176; clear HB; have HO_9 := n0_; have HO_10 := n1_; have HO_12 := n2_; have HO203 := n3_; have BK175 := n4_; have BK176 := n5_; have HB := n6_; clear n0_ n1_ n2_ n3_ n4_ n5_ n6_; (try clear hb); (try clear hb2); (try clear hk); (try clear hi); (try clear ho0); obtain ⟨Ao74, co74, eo74⟩ := Kd.R_slice HO203.out; subst eo74; obtain ⟨Ao75, co75, eo75⟩ := Kd.R_slice HO_12.out; subst eo75) | ((with_reducible refine gate_callee (f := 10) rfl ?_); refine goesL_ (some 117) rfl rfl Tryd.func10 (by kernel_rfl) rfl #[.slice Ao74 t201.length co74, .slice Ao75 x12_3.length co75] rfl (by (try simp only [List.map_toArray, List.map_cons, List.map_nil]); first | done | rfl | (simp only [List.length_drop, List.length_take]; rfl)) ?_; (with_reducible refine (sluicegateref06_Ints.calls k3 _ _ t201 _ _ x12_3 true _ ?side1 ?side2 ?side3 ?side4 A64.out).mono ?_); (case side1 => repeat (first | exact (Kd.R_reads' HO203.out).2.2 | (with_reducible refine Kd.C_alloc ?_ _) | (with_reducible refine Kd.C_drewN ?_ _) | (with_reducible refine Kd.C_drew ?_))); (case side2 => exact (Kd.R_reads' HO203.out).2.1); (case side3 => repeat (first | exact (Kd.R_reads' HO_12.out).2.2 | (with_reducible refine Kd.C_alloc ?_ _) | (with_reducible refine Kd.C_drewN ?_ _) | (with_reducible refine Kd.C_drew ?_))); (case side4 => exact (Kd.R_reads' HO_12.out).2.1); rintro e w' ⟨rfl, ⟨nd, rfl⟩⟩; refine ⟨_, rfl, ?_⟩) | (go_at_call 7; (with_reducible refine (sluicegatelaw19_live.calls  t206 _ A69.out).mono ?_); rintro e w76 ⟨rfl, hb⟩; have n0_ := Aside0.mk (Kd.R_below (by (with_reducible repeat (first | apply Kd.R_alloc | apply Kd.R_drewN | apply Kd.R_drew)); exact HO_9.out) hb); have n1_ := Aside0.mk (Kd.R_below (by (with_reducible repeat (first | apply Kd.R_alloc | apply Kd.R_drewN | apply Kd.R_drew)); exact HO_10.out) hb); have n2_ := Aside0.mk (Kd.R_below (by (with_reducible repeat (first | apply Kd.R_alloc | apply Kd.R_drewN | apply Kd.R_drew)); exact HO_12.out) hb); have n3_ := Aside0.mk (Kd.R_below (by (with_reducible repeat (first | apply Kd.R_alloc | apply Kd.R_drewN | apply Kd.R_drew)); exact HO203.out) hb); have n4_ := Aside0.mk (blk_below (g := gb175) (o := .cells #[.int .i64 a0_0, .int .i64 a0_1, .int .i64 a0_2, .slice A0_3 l0_3.length c0_3, .string a0_4, .slice A0_5 l0_5.length c0_5, .string a0_6] 27 (0, 0)) (by (with_reducible repeat (first | refine blk_drewN ?_ _ | refine blk_drew ?_ | refine blk_alloc ?_ _)); exact BK175.out) hb); have n5_ := Aside0.mk (blk_below (g := gb176) (o := .cells #[.int .i64 a0_0, .int .i64 a0_1, .int .i64 a0_2, .slice A0_3 l0_3.length c0_3] 24 (0, 0)) (by (with_reducible repeat (first | refine blk_drewN ?_ _ | refine blk_drew ?_ | refine blk_alloc ?_ _)); exact BK176.out) hb); have n6_ := Aside0.mk (below_step (by repeat (first | (with_reducible first | exact HB.out | apply below_alloc | apply pw_below_drewN | apply below_drew1 | refine below_set ?_ GE175.out | refine below_set ?_ GE176.out) | exact HB.out)) hb); clear HO_9; clear HO_10; clear HO_12; clear HO203; clear BK175; clear BK176; clear HB; have HO_9 := n0_; have HO_10 := n1_; have HO_12 := n2_; have HO203 := n3_; have BK175 := n4_; have BK176 := n5_; have HB := n6_; clear n0_ n1_ n2_ n3_ n4_ n5_ n6_; (try clear hb); (try clear hb2); (try clear hk); (try clear hi)))
                                    go_ret
                                    exact ⟨by first | rfl | (simp [errW_none, errW_some] <;> rfl) | (simp [*, errW_none, errW_some] <;> rfl), by repeat (first | (with_reducible first | exact HB.out | apply below_alloc | apply pw_below_drewN | apply below_drew1 | refine below_set ?_ GE175.out | refine below_set ?_ GE176.out) | exact HB.out)⟩
                                  · rw [if_neg c68] at H
                                    have c68b0 : (t204 == 2) = false := beq_eq_false_iff_ne.mpr c68
                                    have c68b1 : (t204 != 2) = true := bne_iff_ne.mpr c68
                                    obtain rfl := Option.some.inj H
                                    have hnb77 := NB176_175.out
                                    have hnc77 := NB175_176.out
                                    have hcz78_0 : wr.cell? ⟨gb176, 0, none⟩ = some (.int .i64 a0_0) := (blk_cell BK176.out 0).trans rfl
                                    have hcz78_1 : wr.cell? ⟨gb176, 1, none⟩ = some (.int .i64 a0_1) := (blk_cell BK176.out 1).trans rfl
                                    have hcz78_2 : wr.cell? ⟨gb176, 2, none⟩ = some (.int .i64 a0_2) := (blk_cell BK176.out 2).trans rfl
                                    have hcz78_3 : wr.cell? ⟨gb176, 3, none⟩ = some (.slice A0_3 l0_3.length c0_3) := (blk_cell BK176.out 3).trans rfl
                                    have hfz78_0 := blk_frozen BK176.out 0
                                    have hfz78_1 := blk_frozen BK176.out 1
                                    have hfz78_2 := blk_frozen BK176.out 2
                                    have hfz78_3 := blk_frozen BK176.out 3
                                    obtain ⟨Ao79, co79, eo79⟩ := Kd.R_slice HO_9.out
                                    subst eo79
                                    go_wp2_with (first | ((with_reducible refine gate_callee (f := 9) rfl ?_); refine goesL_ (some 111) rfl rfl Tryd.func9 (by kernel_rfl) rfl #[.agg #[.int .i64 a0_0, .int .i64 a0_1, .int .i64 a0_2, .slice A0_3 l0_3.length c0_3], .slice Ao79 x9_2.length co79] rfl (by (try simp only [List.map_toArray, List.map_cons, List.map_nil]); first | done | rfl | (simp only [List.length_drop, List.length_take]; rfl)) ?_; (with_reducible refine (stripe_Text.calls k3 a0_0 a0_1 a0_2 _ _ l0_3 _ _ x9_2 t200 t201 t204 _ ?side1 ?side2 ?side3 ?side4 A63.out).mono ?_); (case side1 => repeat (first | exact (Kd.C_below HR0_3.out HB.out) | (with_reducible refine Kd.C_alloc ?_ _) | (with_reducible refine Kd.C_drewN ?_ _) | (with_reducible refine Kd.C_drew ?_))); (case side2 => exact HC0_3.out); (case side3 => repeat (first | exact (Kd.R_reads' HO_9.out).2.2 | (with_reducible refine Kd.C_alloc ?_ _) | (with_reducible refine Kd.C_drewN ?_ _) | (with_reducible refine Kd.C_drew ?_))); (case side4 => exact (Kd.R_reads' HO_9.out).2.1); rintro e w80 ⟨v202, rfl, ho0, hb⟩; refine ⟨_, rfl, ?_⟩; have n0_ := Aside0.mk (Kd.R_below (by (with_reducible repeat (first | apply Kd.R_alloc | apply Kd.R_drewN | apply Kd.R_drew)); exact HO_9.out) hb); have n1_ := Aside0.mk (Kd.R_below (by (with_reducible repeat (first | apply Kd.R_alloc | apply Kd.R_drewN | apply Kd.R_drew)); exact HO_10.out) hb); have n2_ := Aside0.mk (Kd.R_elder' (by (with_reducible repeat (first | apply Kd.R_alloc | apply Kd.R_drewN | apply Kd.R_drew)); exact HO_12.out) (Kd.R_base ho0) hb); have n3_ := Aside0.mk (Kd.R_lower (Kd.R_new' ho0 (Kd.R_lt (by (with_reducible repeat (first | apply Kd.R_alloc | apply Kd.R_drewN | apply Kd.R_drew)); exact HO_12.out))) (below_size (by repeat (first | (with_reducible first | exact HB.out | apply below_alloc | apply pw_below_drewN | apply below_drew1 | refine below_set ?_ GE175.out | refine below_set ?_ GE176.out) | exact HB.out)))); have n4_ := Aside0.mk (blk_below (g := gb175) (o := .cells #[.int .i64 a0_0, .int .i64 a0_1, .int .i64 a0_2, .slice A0_3 l0_3.length c0_3, .string a0_4, .slice A0_5 l0_5.length c0_5, .string a0_6] 27 (0, 0)) (by (with_reducible repeat (first | refine blk_drewN ?_ _ | refine blk_drew ?_ | refine blk_alloc ?_ _)); exact BK175.out) hb); have n5_ := Aside0.mk (blk_below (g := gb176) (o := .cells #[.int .i64 a0_0, .int .i64 a0_1, .int .i64 a0_2, .slice A0_3 l0_3.length c0_3] 24 (0, 0)) (by (with_reducible repeat (first | refine blk_drewN ?_ _ | refine blk_drew ?_ | refine blk_alloc ?_ _)); exact BK176.out) hb); have n6_ := Aside0.mk (below_step (by repeat (first | (with_reducible first | exact HB.out | apply below_alloc | apply pw_below_drewN | apply below_drew1 | refine below_set ?_ GE175.out | refine below_set ?_ GE176.out) | exact HB.out)) hb); clear HO_9; clear HO_10; clear HO_12; clear BK175; clear BK176; clear HB; have HO_9 := n0_; have HO_10 := n1_; have HO_12 := n2_; have HO203 := n3_; have BK175 := n4_; have BK176 := n5_; have HB := n6_; clear n0_ n1_ n2_ n3_ n4_ n5_ n6_; (try clear hb); (try clear hb2); (try clear hk); (try clear hi); (try clear ho0); obtain ⟨Ao81, co81, eo81⟩ := Kd.R_slice HO203.out; subst eo81; obtain ⟨Ao82, co82, eo82⟩ := Kd.R_slice HO_12.out; subst eo82) | ((with_reducible refine gate_callee (f := 10) rfl ?_); refine goesL_ (some 117) rfl rfl Tryd.func10 (by kernel_rfl) rfl #[.slice Ao81 t201.length co81, .slice Ao82 x12_3.length co82] rfl (by (try simp only [List.map_toArray, List.map_cons, List.map_nil]); first | done | rfl | (simp only [List.length_drop, List.length_take]; rfl)) ?_; (with_reducible refine (sluicegateref06_Ints.calls k3 _ _ t201 _ _ x12_3 true _ ?side1 ?side2 ?side3 ?side4 A64.out).mono ?_); (case side1 => repeat (first | exact (Kd.R_reads' HO203.out).2.2 | (with_reducible refine Kd.C_alloc ?_ _) | (with_reducible refine Kd.C_drewN ?_ _) | (with_reducible refine Kd.C_drew ?_))); (case side2 => exact (Kd.R_reads' HO203.out).2.1); (case side3 => repeat (first | exact (Kd.R_reads' HO_12.out).2.2 | (with_reducible refine Kd.C_alloc ?_ _) | (with_reducible refine Kd.C_drewN ?_ _) | (with_reducible refine Kd.C_drew ?_))); (case side4 => exact (Kd.R_reads' HO_12.out).2.1); rintro e w' ⟨rfl, ⟨nd, rfl⟩⟩; refine ⟨_, rfl, ?_⟩))
                                    go_ret
                                    exact ⟨by first | rfl | (simp [errW_none, errW_some] <;> rfl) | (simp [*, errW_none, errW_some] <;> rfl), by repeat (first | (with_reducible first | exact HB.out | apply below_alloc | apply pw_below_drewN | apply below_drew1 | refine below_set ?_ GE175.out | refine below_set ?_ GE176.out) | exact HB.out)⟩
                                · rw [if_neg c67] at H
                                  have c67b0 : (t200.toList == ([] : List UInt8)) = false := beq_eq_false_iff_ne.mpr c67
                                  have c67b1 : (t200.toList != ([] : List UInt8)) = true := bne_iff_ne.mpr c67
                                  obtain rfl := Option.some.inj H
                                  have hnb83 := NB176_175.out
                                  have hnc83 := NB175_176.out
                                  have hcz84_0 : wr.cell? ⟨gb176, 0, none⟩ = some (.int .i64 a0_0) := (blk_cell BK176.out 0).trans rfl
                                  have hcz84_1 : wr.cell? ⟨gb176, 1, none⟩ = some (.int .i64 a0_1) := (blk_cell BK176.out 1).trans rfl
                                  have hcz84_2 : wr.cell? ⟨gb176, 2, none⟩ = some (.int .i64 a0_2) := (blk_cell BK176.out 2).trans rfl
                                  have hcz84_3 : wr.cell? ⟨gb176, 3, none⟩ = some (.slice A0_3 l0_3.length c0_3) := (blk_cell BK176.out 3).trans rfl
                                  have hfz84_0 := blk_frozen BK176.out 0
                                  have hfz84_1 := blk_frozen BK176.out 1
                                  have hfz84_2 := blk_frozen BK176.out 2
                                  have hfz84_3 := blk_frozen BK176.out 3
                                  obtain ⟨Ao85, co85, eo85⟩ := Kd.R_slice HO_9.out
                                  subst eo85
                                  go_wp2_with (first | ((with_reducible refine gate_callee (f := 9) rfl ?_); refine goesL_ (some 111) rfl rfl Tryd.func9 (by kernel_rfl) rfl #[.agg #[.int .i64 a0_0, .int .i64 a0_1, .int .i64 a0_2, .slice A0_3 l0_3.length c0_3], .slice Ao85 x9_2.length co85] rfl (by (try simp only [List.map_toArray, List.map_cons, List.map_nil]); first | done | rfl | (simp only [List.length_drop, List.length_take]; rfl)) ?_; (with_reducible refine (stripe_Text.calls k3 a0_0 a0_1 a0_2 _ _ l0_3 _ _ x9_2 t200 t201 t204 _ ?side1 ?side2 ?side3 ?side4 A63.out).mono ?_); (case side1 => repeat (first | exact (Kd.C_below HR0_3.out HB.out) | (with_reducible refine Kd.C_alloc ?_ _) | (with_reducible refine Kd.C_drewN ?_ _) | (with_reducible refine Kd.C_drew ?_))); (case side2 => exact HC0_3.out); (case side3 => repeat (first | exact (Kd.R_reads' HO_9.out).2.2 | (with_reducible refine Kd.C_alloc ?_ _) | (with_reducible refine Kd.C_drewN ?_ _) | (with_reducible refine Kd.C_drew ?_))); (case side4 => exact (Kd.R_reads' HO_9.out).2.1); rintro e w86 ⟨v202, rfl, ho0, hb⟩; refine ⟨_, rfl, ?_⟩; have n0_ := Aside0.mk (Kd.R_below (by (with_reducible repeat (first | apply Kd.R_alloc | apply Kd.R_drewN | apply Kd.R_drew)); exact HO_9.out) hb); have n1_ := Aside0.mk (Kd.R_below (by (with_reducible repeat (first | apply Kd.R_alloc | apply Kd.R_drewN | apply Kd.R_drew)); exact HO_10.out) hb); have n2_ := Aside0.mk (Kd.R_elder' (by (with_reducible repeat (first | apply Kd.R_alloc | apply Kd.R_drewN | apply Kd.R_drew)); exact HO_12.out) (Kd.R_base ho0) hb); have n3_ := Aside0.mk (Kd.R_lower (Kd.R_new' ho0 (Kd.R_lt (by (with_reducible repeat (first | apply Kd.R_alloc | apply Kd.R_drewN | apply Kd.R_drew)); exact HO_12.out))) (below_size (by repeat (first | (with_reducible first | exact HB.out | apply below_alloc | apply pw_below_drewN | apply below_drew1 | refine below_set ?_ GE175.out | refine below_set ?_ GE176.out) | exact HB.out)))); have n4_ := Aside0.mk (blk_below (g := gb175) (o := .cells #[.int .i64 a0_0, .int .i64 a0_1, .int .i64 a0_2, .slice A0_3 l0_3.length c0_3, .string a0_4, .slice A0_5 l0_5.length c0_5, .string a0_6] 27 (0, 0)) (by (with_reducible repeat (first | refine blk_drewN ?_ _ | refine blk_drew ?_ | refine blk_alloc ?_ _)); exact BK175.out) hb); have n5_ := Aside0.mk (blk_below (g := gb176) (o := .cells #[.int .i64 a0_0, .int .i64 a0_1, .int .i64 a0_2, .slice A0_3 l0_3.length c0_3] 24 (0, 0)) (by (with_reducible repeat (first | refine blk_drewN ?_ _ | refine blk_drew ?_ | refine blk_alloc ?_ _)); exact BK176.out) hb); have n6_ := Aside0.mk (below_step (by repeat (first | (with_reducible first | exact HB.out | apply below_alloc | apply pw_below_drewN | apply below_drew1 | refine below_set ?_ GE175.out | refine below_set ?_ GE176.out) | exact HB.out)) hb); clear HO_9; clear HO_10; clear HO_12; clear BK175; clear BK176; clear HB; have HO_9 := n0_; have HO_10 := n1_; have HO_12 := n2_; have HO203 := n3_; have BK175 := n4_; have BK176 := n5_; have HB := n6_; clear n0_ n1_ n2_ n3_ n4_ n5_ n6_; (try clear hb); (try clear hb2); (try clear hk); (try clear hi); (try clear ho0); obtain ⟨Ao87, co87, eo87⟩ := Kd.R_slice HO203.out; subst eo87; obtain ⟨Ao88, co88, eo88⟩ := Kd.R_slice HO_12.out; subst eo88) | ((with_reducible refine gate_callee (f := 10) rfl ?_); refine goesL_ (some 117) rfl rfl Tryd.func10 (by kernel_rfl) rfl #[.slice Ao87 t201.length co87, .slice Ao88 x12_3.length co88] rfl (by (try simp only [List.map_toArray, List.map_cons, List.map_nil]); first | done | rfl | (simp only [List.length_drop, List.length_take]; rfl)) ?_; (with_reducible refine (sluicegateref06_Ints.calls k3 _ _ t201 _ _ x12_3 true _ ?side1 ?side2 ?side3 ?side4 A64.out).mono ?_); (case side1 => repeat (first | exact (Kd.R_reads' HO203.out).2.2 | (with_reducible refine Kd.C_alloc ?_ _) | (with_reducible refine Kd.C_drewN ?_ _) | (with_reducible refine Kd.C_drew ?_))); (case side2 => exact (Kd.R_reads' HO203.out).2.1); (case side3 => repeat (first | exact (Kd.R_reads' HO_12.out).2.2 | (with_reducible refine Kd.C_alloc ?_ _) | (with_reducible refine Kd.C_drewN ?_ _) | (with_reducible refine Kd.C_drew ?_))); (case side4 => exact (Kd.R_reads' HO_12.out).2.1); rintro e w' ⟨rfl, ⟨nd, rfl⟩⟩; refine ⟨_, rfl, ?_⟩))
                                  go_ret
                                  exact ⟨by first | rfl | (simp [errW_none, errW_some] <;> rfl) | (simp [*, errW_none, errW_some] <;> rfl), by repeat (first | (with_reducible first | exact HB.out | apply below_alloc | apply pw_below_drewN | apply below_drew1 | refine below_set ?_ GE175.out | refine below_set ?_ GE176.out) | exact HB.out)⟩
                              · rw [if_neg c66] at H
                                have c66b0 : decide (3 < (x12_3.length : Int)) = false := decide_eq_false c66
                                have c66b1 : decide (3 < x12_3.length) = false := decide_eq_false (by omega)
                                clear c66
                                by_cases c89 : t200.toList = a0_4.toList
                                · rw [if_pos c89] at H
                                  have c89b0 : (t200.toList == a0_4.toList) = true := beq_iff_eq.mpr c89
                                  have c89b1 : (t200.toList != a0_4.toList) = false := bne_eq_false_iff_eq.mpr c89
                                  clear c89
                                  by_cases c90 : t204 = 0
                                  · rw [if_pos c90] at H
                                    have c90b0 : (t204 == 0) = true := beq_iff_eq.mpr c90
                                    have c90b1 : (t204 != 0) = false := bne_eq_false_iff_eq.mpr c90
                                    clear c90
                                    replace H := Option.bind_eq_some_iff.mp H
                                    obtain ⟨t207, A910, H⟩ := H
                                    replace H : (some t207) = some r := H
                                    have A91 := Aside0.mk A910
                                    clear A910
                                    obtain rfl := Option.some.inj H
                                    have hnb92 := NB176_175.out
                                    have hnc92 := NB175_176.out
                                    have hcz93_0 : wr.cell? ⟨gb176, 0, none⟩ = some (.int .i64 a0_0) := (blk_cell BK176.out 0).trans rfl
                                    have hcz93_1 : wr.cell? ⟨gb176, 1, none⟩ = some (.int .i64 a0_1) := (blk_cell BK176.out 1).trans rfl
                                    have hcz93_2 : wr.cell? ⟨gb176, 2, none⟩ = some (.int .i64 a0_2) := (blk_cell BK176.out 2).trans rfl
                                    have hcz93_3 : wr.cell? ⟨gb176, 3, none⟩ = some (.slice A0_3 l0_3.length c0_3) := (blk_cell BK176.out 3).trans rfl
                                    have hfz93_0 := blk_frozen BK176.out 0
                                    have hfz93_1 := blk_frozen BK176.out 1
                                    have hfz93_2 := blk_frozen BK176.out 2
                                    have hfz93_3 := blk_frozen BK176.out 3
                                    obtain ⟨Ao94, co94, eo94⟩ := Kd.R_slice HO_9.out
                                    subst eo94
                                    go_wp2_with (first | ((with_reducible refine gate_callee (f := 9) rfl ?_); refine goesL_ (some 111) rfl rfl Tryd.func9 (by kernel_rfl) rfl #[.agg #[.int .i64 a0_0, .int .i64 a0_1, .int .i64 a0_2, .slice A0_3 l0_3.length c0_3], .slice Ao94 x9_2.length co94] rfl (by (try simp only [List.map_toArray, List.map_cons, List.map_nil]); first | done | rfl | (simp only [List.length_drop, List.length_take]; rfl)) ?_; (with_reducible refine (stripe_Text.calls k3 a0_0 a0_1 a0_2 _ _ l0_3 _ _ x9_2 t200 t201 t204 _ ?side1 ?side2 ?side3 ?side4 A63.out).mono ?_); (case side1 => repeat (first | exact (Kd.C_below HR0_3.out HB.out) | (with_reducible refine Kd.C_alloc ?_ _) | (with_reducible refine Kd.C_drewN ?_ _) | (with_reducible refine Kd.C_drew ?_))); (case side2 => exact HC0_3.out); (case side3 => repeat (first | exact (Kd.R_reads' HO_9.out).2.2 | (with_reducible refine Kd.C_alloc ?_ _) | (with_reducible refine Kd.C_drewN ?_ _) | (with_reducible refine Kd.C_drew ?_))); (case side4 => exact (Kd.R_reads' HO_9.out).2.1); rintro e w95 ⟨v202, rfl, ho0, hb⟩; refine ⟨_, rfl, ?_⟩; have n0_ := Aside0.mk (Kd.R_below (by (with_reducible repeat (first | apply Kd.R_alloc | apply Kd.R_drewN | apply Kd.R_drew)); exact HO_9.out) hb); have n1_ := Aside0.mk (Kd.R_below (by (with_reducible repeat (first | apply Kd.R_alloc | apply Kd.R_drewN | apply Kd.R_drew)); exact HO_10.out) hb); have n2_ := Aside0.mk (Kd.R_elder' (by (with_reducible repeat (first | apply Kd.R_alloc | apply Kd.R_drewN | apply Kd.R_drew)); exact HO_12.out) (Kd.R_base ho0) hb); have n3_ := Aside0.mk (Kd.R_lower (Kd.R_new' ho0 (Kd.R_lt (by (with_reducible repeat (first | apply Kd.R_alloc | apply Kd.R_drewN | apply Kd.R_drew)); exact HO_12.out))) (below_size (by repeat (first | (with_reducible first | exact HB.out | apply below_alloc | apply pw_below_drewN | apply below_drew1 | refine below_set ?_ GE175.out | refine below_set ?_ GE176.out) | exact HB.out)))); have n4_ := Aside0.mk (blk_below (g := gb175) (o := .cells #[.int .i64 a0_0, .int .i64 a0_1, .int .i64 a0_2, .slice A0_3 l0_3.length c0_3, .string a0_4, .slice A0_5 l0_5.length c0_5, .string a0_6] 27 (0, 0)) (by (with_reducible repeat (first | refine blk_drewN ?_ _ | refine blk_drew ?_ | refine blk_alloc ?_ _)); exact BK175.out) hb); have n5_ := Aside0.mk (blk_below (g := gb176) (o := .cells #[.int .i64 a0_0, .int .i64 a0_1, .int .i64 a0_2, .slice A0_3 l0_3.length c0_3] 24 (0, 0)) (by (with_reducible repeat (first | refine blk_drewN ?_ _ | refine blk_drew ?_ | refine blk_alloc ?_ _)); exact BK176.out) hb); have n6_ := Aside0.mk (below_step (by repeat (first | (with_reducible first | exact HB.out | apply below_alloc | apply pw_below_drewN | apply below_drew1 | refine below_set ?_ GE175.out | refine below_set ?_ GE176.out) | exact HB.out)) hb); clear HO_9; clear HO_10; clear HO_12; clear BK175; clear BK176; clear HB; have HO_9 := n0_; have HO_10 := n1_; have HO_12 := n2_; have HO203 := n3_; have BK175 := n4_; have BK176 := n5_; have HB := n6_; clear n0_ n1_ n2_ n3_ n4_ n5_ n6_; (try clear hb); (try clear hb2); (try clear hk); (try clear hi); (try clear ho0); obtain ⟨Ao96, co96, eo96⟩ := Kd.R_slice HO203.out; subst eo96; obtain ⟨Ao97, co97, eo97⟩ := Kd.R_slice HO_12.out; subst eo97) | ((with_reducible refine gate_callee (f := 10) rfl ?_); refine goesL_ (some 117) rfl rfl Tryd.func10 (by kernel_rfl) rfl #[.slice Ao96 t201.length co96, .slice Ao97 x12_3.length co97] rfl (by (try simp only [List.map_toArray, List.map_cons, List.map_nil]); first | done | rfl | (simp only [List.length_drop, List.length_take]; rfl)) ?_; (with_reducible refine (sluicegateref06_Ints.calls k3 _ _ t201 _ _ x12_3 true _ ?side1 ?side2 ?side3 ?side4 A64.out).mono ?_); (case side1 => repeat (first | exact (Kd.R_reads' HO203.out).2.2 | (with_reducible refine Kd.C_alloc ?_ _) | (with_reducible refine Kd.C_drewN ?_ _) | (with_reducible refine Kd.C_drew ?_))); (case side2 => exact (Kd.R_reads' HO203.out).2.1); (case side3 => repeat (first | exact (Kd.R_reads' HO_12.out).2.2 | (with_reducible refine Kd.C_alloc ?_ _) | (with_reducible refine Kd.C_drewN ?_ _) | (with_reducible refine Kd.C_drew ?_))); (case side4 => exact (Kd.R_reads' HO_12.out).2.1); rintro e w' ⟨rfl, ⟨nd, rfl⟩⟩; refine ⟨_, rfl, ?_⟩) | (go_at_call 7; (with_reducible refine (sluicegatelaw19_live.calls  t207 _ A91.out).mono ?_); rintro e w98 ⟨rfl, hb⟩; have n0_ := Aside0.mk (Kd.R_below (by (with_reducible repeat (first | apply Kd.R_alloc | apply Kd.R_drewN | apply Kd.R_drew)); exact HO_9.out) hb); have n1_ := Aside0.mk (Kd.R_below (by (with_reducible repeat (first | apply Kd.R_alloc | apply Kd.R_drewN | apply Kd.R_drew)); exact HO_10.out) hb); have n2_ := Aside0.mk (Kd.R_below (by (with_reducible repeat (first | apply Kd.R_alloc | apply Kd.R_drewN | apply Kd.R_drew)); exact HO_12.out) hb); have n3_ := Aside0.mk (Kd.R_below (by (with_reducible repeat (first | apply Kd.R_alloc | apply Kd.R_drewN | apply Kd.R_drew)); exact HO203.out) hb); have n4_ := Aside0.mk (blk_below (g := gb175) (o := .cells #[.int .i64 a0_0, .int .i64 a0_1, .int .i64 a0_2, .slice A0_3 l0_3.length c0_3, .string a0_4, .slice A0_5 l0_5.length c0_5, .string a0_6] 27 (0, 0)) (by (with_reducible repeat (first | refine blk_drewN ?_ _ | refine blk_drew ?_ | refine blk_alloc ?_ _)); exact BK175.out) hb); have n5_ := Aside0.mk (blk_below (g := gb176) (o := .cells #[.int .i64 a0_0, .int .i64 a0_1, .int .i64 a0_2, .slice A0_3 l0_3.length c0_3] 24 (0, 0)) (by (with_reducible repeat (first | refine blk_drewN ?_ _ | refine blk_drew ?_ | refine blk_alloc ?_ _)); exact BK176.out) hb); have n6_ := Aside0.mk (below_step (by repeat (first | (with_reducible first | exact HB.out | apply below_alloc | apply pw_below_drewN | apply below_drew1 | refine below_set ?_ GE175.out | refine below_set ?_ GE176.out) | exact HB.out)) hb); clear HO_9; clear HO_10; clear HO_12; clear HO203; clear BK175; clear BK176; clear HB; have HO_9 := n0_; have HO_10 := n1_; have HO_12 := n2_; have HO203 := n3_; have BK175 := n4_; have BK176 := n5_; have HB := n6_; clear n0_ n1_ n2_ n3_ n4_ n5_ n6_; (try clear hb); (try clear hb2); (try clear hk); (try clear hi)))
                                    go_ret
                                    exact ⟨by first | rfl | (simp [errW_none, errW_some] <;> rfl) | (simp [*, errW_none, errW_some] <;> rfl), by repeat (first | (with_reducible first | exact HB.out | apply below_alloc | apply pw_below_drewN | apply below_drew1 | refine below_set ?_ GE175.out | refine below_set ?_ GE176.out) | exact HB.out)⟩
                                  · rw [if_neg c90] at H
                                    have c90b0 : (t204 == 0) = false := beq_eq_false_iff_ne.mpr c90
                                    have c90b1 : (t204 != 0) = true := bne_iff_ne.mpr c90
                                    obtain rfl := Option.some.inj H
                                    have hnb99 := NB176_175.out
                                    have hnc99 := NB175_176.out
                                    have hcz100_0 : wr.cell? ⟨gb176, 0, none⟩ = some (.int .i64 a0_0) := (blk_cell BK176.out 0).trans rfl
                                    have hcz100_1 : wr.cell? ⟨gb176, 1, none⟩ = some (.int .i64 a0_1) := (blk_cell BK176.out 1).trans rfl
                                    have hcz100_2 : wr.cell? ⟨gb176, 2, none⟩ = some (.int .i64 a0_2) := (blk_cell BK176.out 2).trans rfl
                                    have hcz100_3 : wr.cell? ⟨gb176, 3, none⟩ = some (.slice A0_3 l0_3.length c0_3) := (blk_cell BK176.out 3).trans rfl
                                    have hfz100_0 := blk_frozen BK176.out 0
                                    have hfz100_1 := blk_frozen BK176.out 1
                                    have hfz100_2 := blk_frozen BK176.out 2
                                    have hfz100_3 := blk_frozen BK176.out 3
                                    obtain ⟨Ao101, co101, eo101⟩ := Kd.R_slice HO_9.out
                                    subst eo101
                                    go_wp2_with (first | ((with_reducible refine gate_callee (f := 9) rfl ?_); refine goesL_ (some 111) rfl rfl Tryd.func9 (by kernel_rfl) rfl #[.agg #[.int .i64 a0_0, .int .i64 a0_1, .int .i64 a0_2, .slice A0_3 l0_3.length c0_3], .slice Ao101 x9_2.length co101] rfl (by (try simp only [List.map_toArray, List.map_cons, List.map_nil]); first | done | rfl | (simp only [List.length_drop, List.length_take]; rfl)) ?_; (with_reducible refine (stripe_Text.calls k3 a0_0 a0_1 a0_2 _ _ l0_3 _ _ x9_2 t200 t201 t204 _ ?side1 ?side2 ?side3 ?side4 A63.out).mono ?_); (case side1 => repeat (first | exact (Kd.C_below HR0_3.out HB.out) | (with_reducible refine Kd.C_alloc ?_ _) | (with_reducible refine Kd.C_drewN ?_ _) | (with_reducible refine Kd.C_drew ?_))); (case side2 => exact HC0_3.out); (case side3 => repeat (first | exact (Kd.R_reads' HO_9.out).2.2 | (with_reducible refine Kd.C_alloc ?_ _) | (with_reducible refine Kd.C_drewN ?_ _) | (with_reducible refine Kd.C_drew ?_))); (case side4 => exact (Kd.R_reads' HO_9.out).2.1); rintro e w102 ⟨v202, rfl, ho0, hb⟩; refine ⟨_, rfl, ?_⟩; have n0_ := Aside0.mk (Kd.R_below (by (with_reducible repeat (first | apply Kd.R_alloc | apply Kd.R_drewN | apply Kd.R_drew)); exact HO_9.out) hb); have n1_ := Aside0.mk (Kd.R_below (by (with_reducible repeat (first | apply Kd.R_alloc | apply Kd.R_drewN | apply Kd.R_drew)); exact HO_10.out) hb); have n2_ := Aside0.mk (Kd.R_elder' (by (with_reducible repeat (first | apply Kd.R_alloc | apply Kd.R_drewN | apply Kd.R_drew)); exact HO_12.out) (Kd.R_base ho0) hb); have n3_ := Aside0.mk (Kd.R_lower (Kd.R_new' ho0 (Kd.R_lt (by (with_reducible repeat (first | apply Kd.R_alloc | apply Kd.R_drewN | apply Kd.R_drew)); exact HO_12.out))) (below_size (by repeat (first | (with_reducible first | exact HB.out | apply below_alloc | apply pw_below_drewN | apply below_drew1 | refine below_set ?_ GE175.out | refine below_set ?_ GE176.out) | exact HB.out)))); have n4_ := Aside0.mk (blk_below (g := gb175) (o := .cells #[.int .i64 a0_0, .int .i64 a0_1, .int .i64 a0_2, .slice A0_3 l0_3.length c0_3, .string a0_4, .slice A0_5 l0_5.length c0_5, .string a0_6] 27 (0, 0)) (by (with_reducible repeat (first | refine blk_drewN ?_ _ | refine blk_drew ?_ | refine blk_alloc ?_ _)); exact BK175.out) hb); have n5_ := Aside0.mk (blk_below (g := gb176) (o := .cells #[.int .i64 a0_0, .int .i64 a0_1, .int .i64 a0_2, .slice A0_3 l0_3.length c0_3] 24 (0, 0)) (by (with_reducible repeat (first | refine blk_drewN ?_ _ | refine blk_drew ?_ | refine blk_alloc ?_ _)); exact BK176.out) hb); have n6_ := Aside0.mk (below_step (by repeat (first | (with_reducible first | exact HB.out | apply below_alloc | apply pw_below_drewN | apply below_drew1 | refine below_set ?_ GE175.out | refine below_set ?_ GE176.out) | exact HB.out)) hb); clear HO_9; clear HO_10; clear HO_12; clear BK175; clear BK176; clear HB; have HO_9 := n0_; have HO_10 := n1_; have HO_12 := n2_; have HO203 := n3_; have BK175 := n4_; have BK176 := n5_; have HB := n6_; clear n0_ n1_ n2_ n3_ n4_ n5_ n6_; (try clear hb); (try clear hb2); (try clear hk); (try clear hi); (try clear ho0); obtain ⟨Ao103, co103, eo103⟩ := Kd.R_slice HO203.out; subst eo103; obtain ⟨Ao104, co104, eo104⟩ := Kd.R_slice HO_12.out; subst eo104) | ((with_reducible refine gate_callee (f := 10) rfl ?_); refine goesL_ (some 117) rfl rfl Tryd.func10 (by kernel_rfl) rfl #[.slice Ao103 t201.length co103, .slice Ao104 x12_3.length co104] rfl (by (try simp only [List.map_toArray, List.map_cons, List.map_nil]); first | done | rfl | (simp only [List.length_drop, List.length_take]; rfl)) ?_; (with_reducible refine (sluicegateref06_Ints.calls k3 _ _ t201 _ _ x12_3 true _ ?side1 ?side2 ?side3 ?side4 A64.out).mono ?_); (case side1 => repeat (first | exact (Kd.R_reads' HO203.out).2.2 | (with_reducible refine Kd.C_alloc ?_ _) | (with_reducible refine Kd.C_drewN ?_ _) | (with_reducible refine Kd.C_drew ?_))); (case side2 => exact (Kd.R_reads' HO203.out).2.1); (case side3 => repeat (first | exact (Kd.R_reads' HO_12.out).2.2 | (with_reducible refine Kd.C_alloc ?_ _) | (with_reducible refine Kd.C_drewN ?_ _) | (with_reducible refine Kd.C_drew ?_))); (case side4 => exact (Kd.R_reads' HO_12.out).2.1); rintro e w' ⟨rfl, ⟨nd, rfl⟩⟩; refine ⟨_, rfl, ?_⟩))
                                    go_ret
                                    exact ⟨by first | rfl | (simp [errW_none, errW_some] <;> rfl) | (simp [*, errW_none, errW_some] <;> rfl), by repeat (first | (with_reducible first | exact HB.out | apply below_alloc | apply pw_below_drewN | apply below_drew1 | refine below_set ?_ GE175.out | refine below_set ?_ GE176.out) | exact HB.out)⟩
                                · rw [if_neg c89] at H
                                  have c89b0 : (t200.toList == a0_4.toList) = false := beq_eq_false_iff_ne.mpr c89
                                  have c89b1 : (t200.toList != a0_4.toList) = true := bne_iff_ne.mpr c89
                                  obtain rfl := Option.some.inj H
                                  have hnb105 := NB176_175.out
                                  have hnc105 := NB175_176.out
                                  have hcz106_0 : wr.cell? ⟨gb176, 0, none⟩ = some (.int .i64 a0_0) := (blk_cell BK176.out 0).trans rfl
                                  have hcz106_1 : wr.cell? ⟨gb176, 1, none⟩ = some (.int .i64 a0_1) := (blk_cell BK176.out 1).trans rfl
                                  have hcz106_2 : wr.cell? ⟨gb176, 2, none⟩ = some (.int .i64 a0_2) := (blk_cell BK176.out 2).trans rfl
                                  have hcz106_3 : wr.cell? ⟨gb176, 3, none⟩ = some (.slice A0_3 l0_3.length c0_3) := (blk_cell BK176.out 3).trans rfl
                                  have hfz106_0 := blk_frozen BK176.out 0
                                  have hfz106_1 := blk_frozen BK176.out 1
                                  have hfz106_2 := blk_frozen BK176.out 2
                                  have hfz106_3 := blk_frozen BK176.out 3
                                  obtain ⟨Ao107, co107, eo107⟩ := Kd.R_slice HO_9.out
                                  subst eo107
                                  go_wp2_with (first | ((with_reducible refine gate_callee (f := 9) rfl ?_); refine goesL_ (some 111) rfl rfl Tryd.func9 (by kernel_rfl) rfl #[.agg #[.int .i64 a0_0, .int .i64 a0_1, .int .i64 a0_2, .slice A0_3 l0_3.length c0_3], .slice Ao107 x9_2.length co107] rfl (by (try simp only [List.map_toArray, List.map_cons, List.map_nil]); first | done | rfl | (simp only [List.length_drop, List.length_take]; rfl)) ?_; (with_reducible refine (stripe_Text.calls k3 a0_0 a0_1 a0_2 _ _ l0_3 _ _ x9_2 t200 t201 t204 _ ?side1 ?side2 ?side3 ?side4 A63.out).mono ?_); (case side1 => repeat (first | exact (Kd.C_below HR0_3.out HB.out) | (with_reducible refine Kd.C_alloc ?_ _) | (with_reducible refine Kd.C_drewN ?_ _) | (with_reducible refine Kd.C_drew ?_))); (case side2 => exact HC0_3.out); (case side3 => repeat (first | exact (Kd.R_reads' HO_9.out).2.2 | (with_reducible refine Kd.C_alloc ?_ _) | (with_reducible refine Kd.C_drewN ?_ _) | (with_reducible refine Kd.C_drew ?_))); (case side4 => exact (Kd.R_reads' HO_9.out).2.1); rintro e w108 ⟨v202, rfl, ho0, hb⟩; refine ⟨_, rfl, ?_⟩; have n0_ := Aside0.mk (Kd.R_below (by (with_reducible repeat (first | apply Kd.R_alloc | apply Kd.R_drewN | apply Kd.R_drew)); exact HO_9.out) hb); have n1_ := Aside0.mk (Kd.R_below (by (with_reducible repeat (first | apply Kd.R_alloc | apply Kd.R_drewN | apply Kd.R_drew)); exact HO_10.out) hb); have n2_ := Aside0.mk (Kd.R_elder' (by (with_reducible repeat (first | apply Kd.R_alloc | apply Kd.R_drewN | apply Kd.R_drew)); exact HO_12.out) (Kd.R_base ho0) hb); have n3_ := Aside0.mk (Kd.R_lower (Kd.R_new' ho0 (Kd.R_lt (by (with_reducible repeat (first | apply Kd.R_alloc | apply Kd.R_drewN | apply Kd.R_drew)); exact HO_12.out))) (below_size (by repeat (first | (with_reducible first | exact HB.out | apply below_alloc | apply pw_below_drewN | apply below_drew1 | refine below_set ?_ GE175.out | refine below_set ?_ GE176.out) | exact HB.out)))); have n4_ := Aside0.mk (blk_below (g := gb175) (o := .cells #[.int .i64 a0_0, .int .i64 a0_1, .int .i64 a0_2, .slice A0_3 l0_3.length c0_3, .string a0_4, .slice A0_5 l0_5.length c0_5, .string a0_6] 27 (0, 0)) (by (with_reducible repeat (first | refine blk_drewN ?_ _ | refine blk_drew ?_ | refine blk_alloc ?_ _)); exact BK175.out) hb); have n5_ := Aside0.mk (blk_below (g := gb176) (o := .cells #[.int .i64 a0_0, .int .i64 a0_1, .int .i64 a0_2, .slice A0_3 l0_3.length c0_3] 24 (0, 0)) (by (with_reducible repeat (first | refine blk_drewN ?_ _ | refine blk_drew ?_ | refine blk_alloc ?_ _)); exact BK176.out) hb); have n6_ := Aside0.mk (below_step (by repeat (first | (with_reducible first | exact HB.out | apply below_alloc | apply pw_below_drewN | apply below_drew1 | refine below_set ?_ GE175.out | refine below_set ?_ GE176.out) | exact HB.out)) hb); clear HO_9; clear HO_10; clear HO_12; clear BK175; clear BK176; clear HB; have HO_9 := n0_; have HO_10 := n1_; have HO_12 := n2_; have HO203 := n3_; have BK175 := n4_; have BK176 := n5_; have HB := n6_; clear n0_ n1_ n2_ n3_ n4_ n5_ n6_; (try clear hb); (try clear hb2); (try clear hk); (try clear hi); (try clear ho0); obtain ⟨Ao109, co109, eo109⟩ := Kd.R_slice HO203.out; subst eo109; obtain ⟨Ao110, co110, eo110⟩ := Kd.R_slice HO_12.out; subst eo110) | ((with_reducible refine gate_callee (f := 10) rfl ?_); refine goesL_ (some 117) rfl rfl Tryd.func10 (by kernel_rfl) rfl #[.slice Ao109 t201.length co109, .slice Ao110 x12_3.length co110] rfl (by (try simp only [List.map_toArray, List.map_cons, List.map_nil]); first | done | rfl | (simp only [List.length_drop, List.length_take]; rfl)) ?_; (with_reducible refine (sluicegateref06_Ints.calls k3 _ _ t201 _ _ x12_3 true _ ?side1 ?side2 ?side3 ?side4 A64.out).mono ?_); (case side1 => repeat (first | exact (Kd.R_reads' HO203.out).2.2 | (with_reducible refine Kd.C_alloc ?_ _) | (with_reducible refine Kd.C_drewN ?_ _) | (with_reducible refine Kd.C_drew ?_))); (case side2 => exact (Kd.R_reads' HO203.out).2.1); (case side3 => repeat (first | exact (Kd.R_reads' HO_12.out).2.2 | (with_reducible refine Kd.C_alloc ?_ _) | (with_reducible refine Kd.C_drewN ?_ _) | (with_reducible refine Kd.C_drew ?_))); (case side4 => exact (Kd.R_reads' HO_12.out).2.1); rintro e w' ⟨rfl, ⟨nd, rfl⟩⟩; refine ⟨_, rfl, ?_⟩))
                                  go_ret
                                  exact ⟨by first | rfl | (simp [errW_none, errW_some] <;> rfl) | (simp [*, errW_none, errW_some] <;> rfl), by repeat (first | (with_reducible first | exact HB.out | apply below_alloc | apply pw_below_drewN | apply below_drew1 | refine below_set ?_ GE175.out | refine below_set ?_ GE176.out) | exact HB.out)⟩
                            · replace c65 := Bool.eq_false_iff.mpr c65
                              subst c65
                              have H1 : (some false) = some r := by rw [if_neg (show ¬ (false = true) by decide)] at H; exact H
                              clear H
                              have H := H1
                              clear H1
                              obtain rfl := Option.some.inj H
                              have hnb111 := NB176_175.out
                              have hnc111 := NB175_176.out
                              have hcz112_0 : wr.cell? ⟨gb176, 0, none⟩ = some (.int .i64 a0_0) := (blk_cell BK176.out 0).trans rfl
                              have hcz112_1 : wr.cell? ⟨gb176, 1, none⟩ = some (.int .i64 a0_1) := (blk_cell BK176.out 1).trans rfl
                              have hcz112_2 : wr.cell? ⟨gb176, 2, none⟩ = some (.int .i64 a0_2) := (blk_cell BK176.out 2).trans rfl
                              have hcz112_3 : wr.cell? ⟨gb176, 3, none⟩ = some (.slice A0_3 l0_3.length c0_3) := (blk_cell BK176.out 3).trans rfl
                              have hfz112_0 := blk_frozen BK176.out 0
                              have hfz112_1 := blk_frozen BK176.out 1
                              have hfz112_2 := blk_frozen BK176.out 2
                              have hfz112_3 := blk_frozen BK176.out 3
                              obtain ⟨Ao113, co113, eo113⟩ := Kd.R_slice HO_9.out
                              subst eo113
                              go_wp2_with (first | ((with_reducible refine gate_callee (f := 9) rfl ?_); refine goesL_ (some 111) rfl rfl Tryd.func9 (by kernel_rfl) rfl #[.agg #[.int .i64 a0_0, .int .i64 a0_1, .int .i64 a0_2, .slice A0_3 l0_3.length c0_3], .slice Ao113 x9_2.length co113] rfl (by (try simp only [List.map_toArray, List.map_cons, List.map_nil]); first | done | rfl | (simp only [List.length_drop, List.length_take]; rfl)) ?_; (with_reducible refine (stripe_Text.calls k3 a0_0 a0_1 a0_2 _ _ l0_3 _ _ x9_2 t200 t201 t204 _ ?side1 ?side2 ?side3 ?side4 A63.out).mono ?_); (case side1 => repeat (first | exact (Kd.C_below HR0_3.out HB.out) | (with_reducible refine Kd.C_alloc ?_ _) | (with_reducible refine Kd.C_drewN ?_ _) | (with_reducible refine Kd.C_drew ?_))); (case side2 => exact HC0_3.out); (case side3 => repeat (first | exact (Kd.R_reads' HO_9.out).2.2 | (with_reducible refine Kd.C_alloc ?_ _) | (with_reducible refine Kd.C_drewN ?_ _) | (with_reducible refine Kd.C_drew ?_))); (case side4 => exact (Kd.R_reads' HO_9.out).2.1); rintro e w114 ⟨v202, rfl, ho0, hb⟩; refine ⟨_, rfl, ?_⟩; have n0_ := Aside0.mk (Kd.R_below (by (with_reducible repeat (first | apply Kd.R_alloc | apply Kd.R_drewN | apply Kd.R_drew)); exact HO_9.out) hb); have n1_ := Aside0.mk (Kd.R_below (by (with_reducible repeat (first | apply Kd.R_alloc | apply Kd.R_drewN | apply Kd.R_drew)); exact HO_10.out) hb); have n2_ := Aside0.mk (Kd.R_elder' (by (with_reducible repeat (first | apply Kd.R_alloc | apply Kd.R_drewN | apply Kd.R_drew)); exact HO_12.out) (Kd.R_base ho0) hb); have n3_ := Aside0.mk (Kd.R_lower (Kd.R_new' ho0 (Kd.R_lt (by (with_reducible repeat (first | apply Kd.R_alloc | apply Kd.R_drewN | apply Kd.R_drew)); exact HO_12.out))) (below_size (by repeat (first | (with_reducible first | exact HB.out | apply below_alloc | apply pw_below_drewN | apply below_drew1 | refine below_set ?_ GE175.out | refine below_set ?_ GE176.out) | exact HB.out)))); have n4_ := Aside0.mk (blk_below (g := gb175) (o := .cells #[.int .i64 a0_0, .int .i64 a0_1, .int .i64 a0_2, .slice A0_3 l0_3.length c0_3, .string a0_4, .slice A0_5 l0_5.length c0_5, .string a0_6] 27 (0, 0)) (by (with_reducible repeat (first | refine blk_drewN ?_ _ | refine blk_drew ?_ | refine blk_alloc ?_ _)); exact BK175.out) hb); have n5_ := Aside0.mk (blk_below (g := gb176) (o := .cells #[.int .i64 a0_0, .int .i64 a0_1, .int .i64 a0_2, .slice A0_3 l0_3.length c0_3] 24 (0, 0)) (by (with_reducible repeat (first | refine blk_drewN ?_ _ | refine blk_drew ?_ | refine blk_alloc ?_ _)); exact BK176.out) hb); have n6_ := Aside0.mk (below_step (by repeat (first | (with_reducible first | exact HB.out | apply below_alloc | apply pw_below_drewN | apply below_drew1 | refine below_set ?_ GE175.out | refine below_set ?_ GE176.out) | exact HB.out)) hb); clear HO_9; clear HO_10; clear HO_12; clear BK175; clear BK176; clear HB; have HO_9 := n0_; have HO_10 := n1_; have HO_12 := n2_; have HO203 := n3_; have BK175 := n4_; have BK176 := n5_; have HB := n6_; clear n0_ n1_ n2_ n3_ n4_ n5_ n6_; (try clear hb); (try clear hb2); (try clear hk); (try clear hi); (try clear ho0); obtain ⟨Ao115, co115, eo115⟩ := Kd.R_slice HO203.out; subst eo115; obtain ⟨Ao116, co116, eo116⟩ := Kd.R_slice HO_12.out; subst eo116) | ((with_reducible refine gate_callee (f := 10) rfl ?_); refine goesL_ (some 117) rfl rfl Tryd.func10 (by kernel_rfl) rfl #[.slice Ao115 t201.length co115, .slice Ao116 x12_3.length co116] rfl (by (try simp only [List.map_toArray, List.map_cons, List.map_nil]); first | done | rfl | (simp only [List.length_drop, List.length_take]; rfl)) ?_; (with_reducible refine (sluicegateref06_Ints.calls k3 _ _ t201 _ _ x12_3 false _ ?side1 ?side2 ?side3 ?side4 A64.out).mono ?_); (case side1 => repeat (first | exact (Kd.R_reads' HO203.out).2.2 | (with_reducible refine Kd.C_alloc ?_ _) | (with_reducible refine Kd.C_drewN ?_ _) | (with_reducible refine Kd.C_drew ?_))); (case side2 => exact (Kd.R_reads' HO203.out).2.1); (case side3 => repeat (first | exact (Kd.R_reads' HO_12.out).2.2 | (with_reducible refine Kd.C_alloc ?_ _) | (with_reducible refine Kd.C_drewN ?_ _) | (with_reducible refine Kd.C_drew ?_))); (case side4 => exact (Kd.R_reads' HO_12.out).2.1); rintro e w' ⟨rfl, ⟨nd, rfl⟩⟩; refine ⟨_, rfl, ?_⟩))
                              go_ret
                              exact ⟨by first | rfl | (simp [errW_none, errW_some] <;> rfl) | (simp [*, errW_none, errW_some] <;> rfl), by repeat (first | (with_reducible first | exact HB.out | apply below_alloc | apply pw_below_drewN | apply below_drew1 | refine below_set ?_ GE175.out | refine below_set ?_ GE176.out) | exact HB.out)⟩
              · rw [if_neg c33] at H
                exact absurd H (by simp)
            · rw [if_neg c32] at H
              exact absurd H (by simp)
          · rw [if_neg c31] at H
            have c31b0 : ((t179.length : Int) == 9) = false := beq_eq_false_iff_ne.mpr c31
            have c31b1 : ((t179.length : Int) != 9) = true := bne_iff_ne.mpr c31
            obtain rfl := Option.some.inj H
            have hnb117 := NB176_175.out
            have hnc117 := NB175_176.out
            have hcz118_0 : wc.cell? ⟨gb176, 0, none⟩ = some (.int .i64 a0_0) := (blk_cell BK176.out 0).trans rfl
            have hcz118_1 : wc.cell? ⟨gb176, 1, none⟩ = some (.int .i64 a0_1) := (blk_cell BK176.out 1).trans rfl
            have hcz118_2 : wc.cell? ⟨gb176, 2, none⟩ = some (.int .i64 a0_2) := (blk_cell BK176.out 2).trans rfl
            have hcz118_3 : wc.cell? ⟨gb176, 3, none⟩ = some (.slice A0_3 l0_3.length c0_3) := (blk_cell BK176.out 3).trans rfl
            have hfz118_0 := blk_frozen BK176.out 0
            have hfz118_1 := blk_frozen BK176.out 1
            have hfz118_2 := blk_frozen BK176.out 2
            have hfz118_3 := blk_frozen BK176.out 3
            go_wp2_with (first | ((with_reducible refine gate_callee (f := 8) rfl ?_); refine goesL_ (some 47) rfl rfl Tryd.func8 (by kernel_rfl) rfl #[.agg #[.int .i64 a0_0, .int .i64 a0_1, .int .i64 a0_2, .slice A0_3 l0_3.length c0_3], .string a0_4] rfl (by (try simp only [List.map_toArray, List.map_cons, List.map_nil]); first | done | rfl | (simp only [List.length_drop, List.length_take]; rfl)) ?_; (with_reducible refine (stripe_Sectors.calls a0_0 a0_1 a0_2 _ _ l0_3 a0_4 t179 t182 _ ?side1 ?side2 A29.out).mono ?_); (case side1 => repeat (first | exact (Kd.C_below HR0_3.out HB.out) | (with_reducible refine Kd.C_alloc ?_ _) | (with_reducible refine Kd.C_drewN ?_ _) | (with_reducible refine Kd.C_drew ?_))); (case side2 => exact HC0_3.out); rintro e w119 ⟨v180, rfl, ho0, hb⟩; refine ⟨_, rfl, ?_⟩; have n0_ := Aside0.mk (Kd.R_lower ho0 (below_size (by repeat (first | (with_reducible first | exact HB.out | apply below_alloc | apply pw_below_drewN | apply below_drew1 | refine below_set ?_ GE175.out | refine below_set ?_ GE176.out) | exact HB.out)))); have n1_ := Aside0.mk (blk_below (g := gb175) (o := .cells #[.int .i64 a0_0, .int .i64 a0_1, .int .i64 a0_2, .slice A0_3 l0_3.length c0_3, .string a0_4, .slice A0_5 l0_5.length c0_5, .string a0_6] 27 (0, 0)) (by (with_reducible repeat (first | refine blk_drewN ?_ _ | refine blk_drew ?_ | refine blk_alloc ?_ _)); exact BK175.out) hb); have n2_ := Aside0.mk (blk_below (g := gb176) (o := .cells #[.int .i64 a0_0, .int .i64 a0_1, .int .i64 a0_2, .slice A0_3 l0_3.length c0_3] 24 (0, 0)) (by (with_reducible repeat (first | refine blk_drewN ?_ _ | refine blk_drew ?_ | refine blk_alloc ?_ _)); exact BK176.out) hb); have n3_ := Aside0.mk (below_step (by repeat (first | (with_reducible first | exact HB.out | apply below_alloc | apply pw_below_drewN | apply below_drew1 | refine below_set ?_ GE175.out | refine below_set ?_ GE176.out) | exact HB.out)) hb); clear BK175; clear BK176; clear HB; have HO181 := n0_; have BK175 := n1_; have BK176 := n2_; have HB := n3_; clear n0_ n1_ n2_ n3_; (try clear hb); (try clear hb2); (try clear hk); (try clear hi); (try clear ho0); obtain ⟨Ao120, co120, eo120⟩ := Kd.R_slice HO181.out; subst eo120))
            go_ret
            exact ⟨by first | rfl | (simp [errW_none, errW_some] <;> rfl) | (simp [*, errW_none, errW_some] <;> rfl), by repeat (first | (with_reducible first | exact HB.out | apply below_alloc | apply pw_below_drewN | apply below_drew1 | refine below_set ?_ GE175.out | refine below_set ?_ GE176.out) | exact HB.out)⟩
        · rw [if_neg c30] at H
          have c30b0 : (t182 == 0) = false := beq_eq_false_iff_ne.mpr c30
          have c30b1 : (t182 != 0) = true := bne_iff_ne.mpr c30
          by_cases c121 : (t179.length : Int) = 0
          · rw [if_pos c121] at H
            have c121b0 : ((t179.length : Int) == 0) = true := beq_iff_eq.mpr c121
            have c121b1 : ((t179.length : Int) != 0) = false := bne_eq_false_iff_eq.mpr c121
            clear c121
            replace H := Option.bind_eq_some_iff.mp H
            obtain ⟨t183, A1220, H⟩ := H
            replace H : (some t183) = some r := H
            have A122 := Aside0.mk A1220
            clear A1220
            obtain rfl := Option.some.inj H
            have hnb123 := NB176_175.out
            have hnc123 := NB175_176.out
            have hcz124_0 : wc.cell? ⟨gb176, 0, none⟩ = some (.int .i64 a0_0) := (blk_cell BK176.out 0).trans rfl
            have hcz124_1 : wc.cell? ⟨gb176, 1, none⟩ = some (.int .i64 a0_1) := (blk_cell BK176.out 1).trans rfl
            have hcz124_2 : wc.cell? ⟨gb176, 2, none⟩ = some (.int .i64 a0_2) := (blk_cell BK176.out 2).trans rfl
            have hcz124_3 : wc.cell? ⟨gb176, 3, none⟩ = some (.slice A0_3 l0_3.length c0_3) := (blk_cell BK176.out 3).trans rfl
            have hfz124_0 := blk_frozen BK176.out 0
            have hfz124_1 := blk_frozen BK176.out 1
            have hfz124_2 := blk_frozen BK176.out 2
            have hfz124_3 := blk_frozen BK176.out 3
            go_wp2_with (first | ((with_reducible refine gate_callee (f := 8) rfl ?_); refine goesL_ (some 47) rfl rfl Tryd.func8 (by kernel_rfl) rfl #[.agg #[.int .i64 a0_0, .int .i64 a0_1, .int .i64 a0_2, .slice A0_3 l0_3.length c0_3], .string a0_4] rfl (by (try simp only [List.map_toArray, List.map_cons, List.map_nil]); first | done | rfl | (simp only [List.length_drop, List.length_take]; rfl)) ?_; (with_reducible refine (stripe_Sectors.calls a0_0 a0_1 a0_2 _ _ l0_3 a0_4 t179 t182 _ ?side1 ?side2 A29.out).mono ?_); (case side1 => repeat (first | exact (Kd.C_below HR0_3.out HB.out) | (with_reducible refine Kd.C_alloc ?_ _) | (with_reducible refine Kd.C_drewN ?_ _) | (with_reducible refine Kd.C_drew ?_))); (case side2 => exact HC0_3.out); rintro e w125 ⟨v180, rfl, ho0, hb⟩; refine ⟨_, rfl, ?_⟩; have n0_ := Aside0.mk (Kd.R_lower ho0 (below_size (by repeat (first | (with_reducible first | exact HB.out | apply below_alloc | apply pw_below_drewN | apply below_drew1 | refine below_set ?_ GE175.out | refine below_set ?_ GE176.out) | exact HB.out)))); have n1_ := Aside0.mk (blk_below (g := gb175) (o := .cells #[.int .i64 a0_0, .int .i64 a0_1, .int .i64 a0_2, .slice A0_3 l0_3.length c0_3, .string a0_4, .slice A0_5 l0_5.length c0_5, .string a0_6] 27 (0, 0)) (by (with_reducible repeat (first | refine blk_drewN ?_ _ | refine blk_drew ?_ | refine blk_alloc ?_ _)); exact BK175.out) hb); have n2_ := Aside0.mk (blk_below (g := gb176) (o := .cells #[.int .i64 a0_0, .int .i64 a0_1, .int .i64 a0_2, .slice A0_3 l0_3.length c0_3] 24 (0, 0)) (by (with_reducible repeat (first | refine blk_drewN ?_ _ | refine blk_drew ?_ | refine blk_alloc ?_ _)); exact BK176.out) hb); have n3_ := Aside0.mk (below_step (by repeat (first | (with_reducible first | exact HB.out | apply below_alloc | apply pw_below_drewN | apply below_drew1 | refine below_set ?_ GE175.out | refine below_set ?_ GE176.out) | exact HB.out)) hb); clear BK175; clear BK176; clear HB; have HO181 := n0_; have BK175 := n1_; have BK176 := n2_; have HB := n3_; clear n0_ n1_ n2_ n3_; (try clear hb); (try clear hb2); (try clear hk); (try clear hi); (try clear ho0); obtain ⟨Ao126, co126, eo126⟩ := Kd.R_slice HO181.out; subst eo126) | (go_at_call 7; (with_reducible refine (sluicegatelaw19_live.calls  t183 _ A122.out).mono ?_); rintro e w127 ⟨rfl, hb⟩; have n0_ := Aside0.mk (Kd.R_below (by (with_reducible repeat (first | apply Kd.R_alloc | apply Kd.R_drewN | apply Kd.R_drew)); exact HO181.out) hb); have n1_ := Aside0.mk (blk_below (g := gb175) (o := .cells #[.int .i64 a0_0, .int .i64 a0_1, .int .i64 a0_2, .slice A0_3 l0_3.length c0_3, .string a0_4, .slice A0_5 l0_5.length c0_5, .string a0_6] 27 (0, 0)) (by (with_reducible repeat (first | refine blk_drewN ?_ _ | refine blk_drew ?_ | refine blk_alloc ?_ _)); exact BK175.out) hb); have n2_ := Aside0.mk (blk_below (g := gb176) (o := .cells #[.int .i64 a0_0, .int .i64 a0_1, .int .i64 a0_2, .slice A0_3 l0_3.length c0_3] 24 (0, 0)) (by (with_reducible repeat (first | refine blk_drewN ?_ _ | refine blk_drew ?_ | refine blk_alloc ?_ _)); exact BK176.out) hb); have n3_ := Aside0.mk (below_step (by repeat (first | (with_reducible first | exact HB.out | apply below_alloc | apply pw_below_drewN | apply below_drew1 | refine below_set ?_ GE175.out | refine below_set ?_ GE176.out) | exact HB.out)) hb); clear HO181; clear BK175; clear BK176; clear HB; have HO181 := n0_; have BK175 := n1_; have BK176 := n2_; have HB := n3_; clear n0_ n1_ n2_ n3_; (try clear hb); (try clear hb2); (try clear hk); (try clear hi)))
            go_ret
            exact ⟨by first | rfl | (simp [errW_none, errW_some] <;> rfl) | (simp [*, errW_none, errW_some] <;> rfl), by repeat (first | (with_reducible first | exact HB.out | apply below_alloc | apply pw_below_drewN | apply below_drew1 | refine below_set ?_ GE175.out | refine below_set ?_ GE176.out) | exact HB.out)⟩
          · rw [if_neg c121] at H
            have c121b0 : ((t179.length : Int) == 0) = false := beq_eq_false_iff_ne.mpr c121
            have c121b1 : ((t179.length : Int) != 0) = true := bne_iff_ne.mpr c121
            have c121b2 : ¬ (t179 = []) := fun h_ => c121 (by rw [h_]; rfl)
            obtain rfl := Option.some.inj H
            have hnb128 := NB176_175.out
            have hnc128 := NB175_176.out
            have hcz129_0 : wc.cell? ⟨gb176, 0, none⟩ = some (.int .i64 a0_0) := (blk_cell BK176.out 0).trans rfl
            have hcz129_1 : wc.cell? ⟨gb176, 1, none⟩ = some (.int .i64 a0_1) := (blk_cell BK176.out 1).trans rfl
            have hcz129_2 : wc.cell? ⟨gb176, 2, none⟩ = some (.int .i64 a0_2) := (blk_cell BK176.out 2).trans rfl
            have hcz129_3 : wc.cell? ⟨gb176, 3, none⟩ = some (.slice A0_3 l0_3.length c0_3) := (blk_cell BK176.out 3).trans rfl
            have hfz129_0 := blk_frozen BK176.out 0
            have hfz129_1 := blk_frozen BK176.out 1
            have hfz129_2 := blk_frozen BK176.out 2
            have hfz129_3 := blk_frozen BK176.out 3
            go_wp2_with (first | ((with_reducible refine gate_callee (f := 8) rfl ?_); refine goesL_ (some 47) rfl rfl Tryd.func8 (by kernel_rfl) rfl #[.agg #[.int .i64 a0_0, .int .i64 a0_1, .int .i64 a0_2, .slice A0_3 l0_3.length c0_3], .string a0_4] rfl (by (try simp only [List.map_toArray, List.map_cons, List.map_nil]); first | done | rfl | (simp only [List.length_drop, List.length_take]; rfl)) ?_; (with_reducible refine (stripe_Sectors.calls a0_0 a0_1 a0_2 _ _ l0_3 a0_4 t179 t182 _ ?side1 ?side2 A29.out).mono ?_); (case side1 => repeat (first | exact (Kd.C_below HR0_3.out HB.out) | (with_reducible refine Kd.C_alloc ?_ _) | (with_reducible refine Kd.C_drewN ?_ _) | (with_reducible refine Kd.C_drew ?_))); (case side2 => exact HC0_3.out); rintro e w130 ⟨v180, rfl, ho0, hb⟩; refine ⟨_, rfl, ?_⟩; have n0_ := Aside0.mk (Kd.R_lower ho0 (below_size (by repeat (first | (with_reducible first | exact HB.out | apply below_alloc | apply pw_below_drewN | apply below_drew1 | refine below_set ?_ GE175.out | refine below_set ?_ GE176.out) | exact HB.out)))); have n1_ := Aside0.mk (blk_below (g := gb175) (o := .cells #[.int .i64 a0_0, .int .i64 a0_1, .int .i64 a0_2, .slice A0_3 l0_3.length c0_3, .string a0_4, .slice A0_5 l0_5.length c0_5, .string a0_6] 27 (0, 0)) (by (with_reducible repeat (first | refine blk_drewN ?_ _ | refine blk_drew ?_ | refine blk_alloc ?_ _)); exact BK175.out) hb); have n2_ := Aside0.mk (blk_below (g := gb176) (o := .cells #[.int .i64 a0_0, .int .i64 a0_1, .int .i64 a0_2, .slice A0_3 l0_3.length c0_3] 24 (0, 0)) (by (with_reducible repeat (first | refine blk_drewN ?_ _ | refine blk_drew ?_ | refine blk_alloc ?_ _)); exact BK176.out) hb); have n3_ := Aside0.mk (below_step (by repeat (first | (with_reducible first | exact HB.out | apply below_alloc | apply pw_below_drewN | apply below_drew1 | refine below_set ?_ GE175.out | refine below_set ?_ GE176.out) | exact HB.out)) hb); clear BK175; clear BK176; clear HB; have HO181 := n0_; have BK175 := n1_; have BK176 := n2_; have HB := n3_; clear n0_ n1_ n2_ n3_; (try clear hb); (try clear hb2); (try clear hk); (try clear hi); (try clear ho0); obtain ⟨Ao131, co131, eo131⟩ := Kd.R_slice HO181.out; subst eo131))
            go_ret
            exact ⟨by first | rfl | (simp [errW_none, errW_some] <;> rfl) | (simp [*, errW_none, errW_some] <;> rfl), by repeat (first | (with_reducible first | exact HB.out | apply below_alloc | apply pw_below_drewN | apply below_drew1 | refine below_set ?_ GE175.out | refine below_set ?_ GE176.out) | exact HB.out)⟩
end Go.Proofs.YtdcfonmjbelgbaaDoor.Q
end
section
namespace Go.Proofs.YtdcfonmjbelgbaaDoor
open Go.RowKit Q Go.Proofs.YtdcfonmjbelgbaaDoorW.PrintWords Go.Proofs.YtdcfonmjbelgbaaDoorW.PrintLast Go.Proofs.YtdcfonmjbelgbaaDoorW.PrintMore
def wantN (G : List Bool) (n : Nat) : List Int := ((List.range n).filter fun i => G.getD i false).map fun i : Nat => (i : Int)
theorem wantN_succ (G : List Bool) (k : Nat) : wantN G (k + 1) = if G.getD k false = true then wantN G k ++ [(k : Int)] else wantN G k := by
  unfold wantN
  rw [List.range_succ, List.filter_append, List.map_append]
  simp only [List.filter_cons, List.filter_nil]
  cases G.getD k false
  · exact List.append_nil _
  · rfl
theorem wantN_len (G : List Bool) (k : Nat) : (wantN G k).length ≤ k := by
  unfold wantN
  rw [List.length_map]
  have h := List.length_filter_le (fun i => G.getD i false) (List.range k)
  rwa [List.length_range] at h
structure Away (id gen : Int) (l : List LocS) (t : List UInt8) (junk : ByteArray) (X : List ByteArray) (G : List Bool) : Prop where
  x9 : X.length = 9
  g9 : G.length = 9
  own : ∀ i, i < 9 → G.getD i false = false → strAt X i = ownX id gen l t i
  jnk : ∀ i, i < 9 → G.getD i false = true → strAt X i = junk
theorem Away.put {id gen : Int} {l : List LocS} {t : List UInt8} {junk : ByteArray} {X : List ByteArray} {G : List Bool} (h : Away id gen l t junk X G) (k : Nat) (hk : k < 9) : Away id gen l t junk (X.set k junk) (G.set k true) := by
  have hG : ∀ i, (G.set k true).getD i false = if k = i then true else G.getD i false := fun i => by
    rw [List.getD_eq_getElem?_getD, List.getD_eq_getElem?_getD]
    by_cases he : k = i
    · subst he
      rw [List.getElem?_set_self (by rw [h.g9]; exact hk), if_pos rfl]
      rfl
    · rw [List.getElem?_set_ne he, if_neg he]
  have hX : ∀ i, strAt (X.set k junk) i = if k = i then junk else strAt X i := fun i => by
    unfold strAt
    rw [List.getD_eq_getElem?_getD, List.getD_eq_getElem?_getD]
    by_cases he : k = i
    · subst he
      rw [List.getElem?_set_self (by rw [h.x9]; exact hk), if_pos rfl]
      rfl
    · rw [List.getElem?_set_ne he, if_neg he]
  refine ⟨by rw [List.length_set]; exact h.x9, by rw [List.length_set]; exact h.g9, fun i hi hg => ?_, fun i hi hg => ?_⟩
  · rw [hG i] at hg
    rw [hX i]
    by_cases he : k = i
    · rw [if_pos he] at hg; cases hg
    · rw [if_neg he] at hg ⊢; exact h.own i hi hg
  · rw [hG i] at hg
    rw [hX i]
    by_cases he : k = i
    · rw [if_pos he]
    · rw [if_neg he] at hg ⊢; exact h.jnk i hi hg
theorem away_text {id gen len : Int} {l : List LocS} (hv : volP id gen len l = true) (t : List UInt8) (hl : (t.length : Int) = len) {junk : ByteArray} (hj : junk.size ≤ 60) {X : List ByteArray} {G : List Bool} (h : Away id gen l t junk X G) :
    textR id gen len l X = if 3 < (wantN G 9).length then (⟨#[]⟩, wantN G 9, 2) else (B t, wantN G 9, 0) := by
  have h384 : t.length ≤ 384 := by have := (volP_len hv).1; omega
  have hvi : ∀ i, i < 9 → hvF id gen l X i = !G.getD i false := fun i hi => by
    cases hg : G.getD i false with
    | false => exact hvF_own hv t h384 X i hi (h.own i hi hg)
    | true => exact hvF_short hv X i hi (by rw [h.jnk i hi hg]; exact hj)
  have hbad : badN (hvL id gen l X) 9 = wantN G 9 := by
    unfold badN wantN
    congr 1
    apply List.filter_congr
    intro i hi
    have hi9 : i < 9 := by simpa using hi
    rw [hvL_get _ _ _ _ i hi9, hvi i hi9, Bool.not_not]
  rw [own_text hv t hl X h.x9 (fun i hi hg => by
    rw [hvi i hi] at hg
    exact h.own i hi (by simpa using hg)), hbad]
theorem back_l1 {id gen len : Int} {l : List LocS} (hv : volP id gen len l = true) (t : List UInt8) (hl : (t.length : Int) = len) {junk : ByteArray} (hj : junk.size ≤ 60) {X : List ByteArray} {G : List Bool} (h : Away id gen l t junk X G) : ∀ (d k K : Nat), 9 - k = d → k ≤ 9 → d + 60 < K →
    sluicegatelaw19_StripeBack.l1 K (B t) X G (wantN G k) (k : Int) id gen len l = some true := by
  intro d
  induction d with
  | zero =>
    intro k K hd hk hK
    obtain ⟨K, rfl⟩ : ∃ m, K = m + 1 := ⟨K - 1, by omega⟩
    obtain rfl : k = 9 := by omega
    have hz : ∀ s ∈ X, s.size ≤ 140737488355328 := fun s hs => by
      obtain ⟨i, hi, rfl⟩ := List.mem_iff_getElem.1 hs
      have hi9 : i < 9 := by rw [← h.x9]; exact hi
      rw [← strAt_eq hi]
      cases hg : G.getD i false with
      | false => rw [h.own i hi9 hg]; exact own_size _ _ _ _ _
      | true => rw [h.jnk i hi9 hg]; omega
    have e1 := stext_f id gen len l (by have := (volP_len hv).2.2; omega) X hz K (by omega)
    rw [away_text hv t hl hj h] at e1
    have hwl := wantN_len G 9
    have e2 := ints_f (wantN G 9) (by omega) K (by omega)
    have eL : sluicegatelaw19_live.f = some true := rfl
    rw [sluicegatelaw19_StripeBack.l1]
    rw [if_neg (by omega), e1, Option.bind_some]
    by_cases h3 : 3 < (wantN G 9).length
    · rw [if_pos h3]
      simp only
      rw [e2, Option.bind_some, if_pos rfl, if_pos (by omega), if_pos (show (⟨#[]⟩ : ByteArray).toList = [] from B_toList []), if_pos trivial, eL]
      rfl
    · rw [if_neg h3]
      simp only
      rw [e2, Option.bind_some, if_pos rfl, if_neg (by omega), if_pos trivial, if_pos trivial, eL]
      rfl
  | succ d ih =>
    intro k K hd hk hK
    obtain ⟨K, rfl⟩ : ∃ m, K = m + 1 := ⟨K - 1, by omega⟩
    have hk9 : k < 9 := by omega
    have hrd : rdOf false G (k : Int) = G.getD k false := by
      unfold rdOf
      rw [Int.toNat_natCast]
    have hw := wantN_succ G k
    have hwl := wantN_len G k
    rw [sluicegatelaw19_StripeBack.l1]
    rw [if_pos (by omega), if_pos (by omega), if_pos (by rw [h.g9]; omega), hrd, wrap_k k hk9]
    cases hg : G.getD k false with
    | true =>
      rw [hg, if_pos rfl] at hw
      rw [if_pos rfl, if_pos (by omega), ← hw]
      exact ih (k + 1) K (by omega) (by omega) (by omega)
    | false =>
      rw [hg, if_neg (by simp)] at hw
      rw [if_neg (by simp), ← hw]
      exact ih (k + 1) K (by omega) (by omega) (by omega)
theorem back_l0 {id gen len : Int} {l : List LocS} (hv : volP id gen len l = true) (t : List UInt8) (hl : (t.length : Int) = len) {junk : ByteArray} (hj : junk.size ≤ 60) (aw : List Int) (ha : aw.length ≤ 9) : ∀ (d i K : Nat) (X : List ByteArray) (G : List Bool), Away id gen l t junk X G → aw.length - i = d → i ≤ aw.length → d + 100 < K →
    sluicegatelaw19_StripeBack.l0 K (B t) aw junk X G (i : Int) id gen len l = some true := by
  intro d
  induction d with
  | zero =>
    intro i K X G h hd hi hK
    obtain ⟨K, rfl⟩ : ∃ m, K = m + 1 := ⟨K - 1, by omega⟩
    rw [sluicegatelaw19_StripeBack.l0]
    rw [if_neg (by omega)]
    exact back_l1 hv t hl hj h 9 0 K rfl (by omega) (by omega)
  | succ d ih =>
    intro i K X G h hd hi hK
    obtain ⟨K, rfl⟩ : ∃ m, K = m + 1 := ⟨K - 1, by omega⟩
    rw [sluicegatelaw19_StripeBack.l0]
    rw [if_pos (by omega), if_pos (by omega), wrap_k i (by omega)]
    by_cases h0 : rd aw (i : Int) ≥ 0
    · rw [if_pos h0]
      by_cases h9 : rd aw (i : Int) < 9
      · obtain ⟨k, hk⟩ : ∃ k : Nat, rd aw (i : Int) = (k : Int) := ⟨(rd aw (i : Int)).toNat, by omega⟩
        rw [hk] at h0 h9 ⊢
        rw [if_pos h9, if_pos (by omega), if_pos (by rw [h.x9]; omega), if_pos (by rw [h.g9]; omega), Int.toNat_natCast]
        exact ih (i + 1) K _ _ (h.put k (by omega)) (by omega) (by omega) (by omega)
      · rw [if_neg h9]
        exact ih (i + 1) K X G h (by omega) (by omega) (by omega)
    · rw [if_neg h0]
      exact ih (i + 1) K X G h (by omega) (by omega) (by omega)
theorem Pure.StripeBack (a0_0 a0_1 a0_2 : Int) (l0_3 : List LocS) (a0_4 : ByteArray) (l0_5 : List Int) (a0_6 : ByteArray) {P0 P1 P2 P3 P4 P5 P6 : Prop} (_ : P0) (_ : P1) (_ : P2) (_ : P3) (_ : P4) (_ : P5) (_ : P6) : ∃ k, sluicegatelaw19_StripeBack.f k a0_0 a0_1 a0_2 l0_3 a0_4 l0_5 a0_6 = some true := by
  refine ⟨200 + 1, ?_⟩
  have eL : sluicegatelaw19_live.f = some true := rfl
  have hJ : sluicegatelaw19_StripeBack.j0 (200 + 1) a0_4 l0_5 a0_6 true a0_0 a0_1 a0_2 l0_3 = some true := by
    rw [sluicegatelaw19_StripeBack.j0]
    rw [if_pos rfl, eL]
    rfl
  unfold sluicegatelaw19_StripeBack.f sluicegatelaw19_small.f
  rw [Option.bind_some]
  by_cases h1 : (l0_3.length : Int) ≤ 20
  case neg =>
    rw [decide_eq_false h1, if_neg (by simp)]
    exact hJ
  rw [decide_eq_true h1, if_pos rfl]
  by_cases h2 : (a0_4.size : Int) > 500
  · rw [if_pos h2]; exact hJ
  rw [if_neg h2]
  by_cases h3 : (l0_5.length : Int) > 9
  · rw [if_pos h3]; exact hJ
  rw [if_neg h3]
  by_cases h4 : (a0_6.size : Int) > 60
  · rw [decide_eq_true h4]; exact hJ
  rw [decide_eq_false h4, sluicegatelaw19_StripeBack.j0]
  rw [if_neg (by simp)]
  obtain ⟨t, rfl⟩ := exB a0_4
  have e1 : stripe_Sectors.f a0_0 a0_1 a0_2 l0_3 (B t) = some (sectR a0_0 a0_1 a0_2 l0_3 (B t)) := by
    unfold stripe_Sectors.f
    rw [if_pos (by omega)]
  rw [e1, Option.bind_some]
  by_cases hs : volP a0_0 a0_1 a0_2 l0_3 = true ∧ ((B t).size : Int) = a0_2
  · have hR : sectR a0_0 a0_1 a0_2 l0_3 (B t) = (secK a0_0 a0_1 l0_3 (partsN t) 9, 0) := by
      unfold sectR
      rw [if_pos hs, B_data]
    have hlen := secK_len a0_0 a0_1 l0_3 (partsN t) 9
    rw [hR]
    simp only
    rw [if_pos trivial, hlen, if_pos (by decide), if_pos (by decide), if_pos (by decide), List.nil_append]
    refine back_l0 hs.1 t (by rw [← hs.2, B_size]) (by omega) l0_5 (by omega) l0_5.length 0 200 _ _ ⟨hlen, rfl, fun i hi _ => secK_nine _ _ _ _ i hi, fun i hi hg => ?_⟩ rfl (Nat.zero_le _) (by omega)
    exfalso
    match i, hi with
    | 0, _ | 1, _ | 2, _ | 3, _ | 4, _ | 5, _ | 6, _ | 7, _ | 8, _ => cases hg
  · have hR : sectR a0_0 a0_1 a0_2 l0_3 (B t) = ([], 1) := by
      unfold sectR
      rw [if_neg hs]
    rw [hR]
    simp only
    rw [if_neg (by decide), if_pos (by rfl), eL]
    rfl
end Go.Proofs.YtdcfonmjbelgbaaDoor
end
