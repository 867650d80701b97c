/- Lemmas for the law NeedleWrites, merged out of several texts and cut down to what it names, by a program of this session (some of the first ones are of the words that print.sh wrote for this claim). -/
import Derived.Lib.ConvBytes
import Derived.Test.YtpgfafpjfdbjmaaDoorKNeedleWrites1
import Derived.Test.YtpgfafpjfdbjmaaDoorKNeedleWrites2
import Derived.Test.YtpgfafpjfdbjmaaDoorKNeedleWrites3
import Derived.Test.YtpgfafpjfdbjmaaDoorKNeedleWrites4
import Derived.Test.YtpgfafpjfdbjmaaDoorKNeedleWrites5
set_option linter.unusedVariables false
set_option linter.unusedSimpArgs false
section
namespace Go.Proofs.YtpgfafpjfdbjmaaDoor
open Go.RowKit Q Go.Proofs.YtpgfafpjfdbjmaaDoorW.PrintWords Go.Proofs.YtpgfafpjfdbjmaaDoorW.PrintLast Go.Proofs.YtpgfafpjfdbjmaaDoorW.PrintMore
attribute [local go_sem] Oper.semAt_some
theorem chunk_calls (g cap : Nat) (w : World) (n : Nat) : CallsIn Fence.wide n Tryd.prog 42 #[.slice (some ⟨g, 0, none⟩) 384 cap, .int .i64 64] w fun e w' => e = .returned (.func (.func 60) #[] #[.pointer (some ⟨w.heap.size, 0, none⟩), .pointer (some ⟨w.heap.size + 1, 0, none⟩)]) ∧ w' = (w.alloc (.cells #[.slice (some ⟨g, 0, none⟩) 384 cap] 59)).alloc (.cells #[.int .i64 64] 3) := by
  refine callsIn_of_wp Tryd.func42 rfl trivial ?_ rfl
  simp only [Tryd.ntmps42, List.size_toArray, List.length_cons, List.length_nil, Nat.reduceAdd, Nat.reduceSub, Array.replicate_succ, Array.replicate_zero, List.push_toArray, List.append_toArray, List.nil_append, List.cons_append]
  gi_wp2
  go_ret
  exact ⟨rfl, rfl⟩
set_option maxRecDepth 100000 in
set_option maxHeartbeats 1000000 in
theorem chunk_in (n : Nat) (hn : 1 ≤ n) (l B1 B2 g cap : Nat) (hcap : 384 ≤ cap) (w0 : World) (J Jx : List Nat → World → Prop) (hJ : ∀ s A B, J s A → A.grownBy B none → J s B) (hBx : ∀ p A, J p A → A.cell? ⟨B1, 0, none⟩ = some (.slice (some ⟨g, 0, none⟩) 384 cap) ∧ A.cell? ⟨B2, 0, none⟩ = some (.int .i64 64))
    (hY : ∀ pre x W1, J pre W1 → x < 6 → pre.length < 6 → YieldAt Fence.wide (n - 1) Tryd.prog l #[.slice (some ⟨g, 64 * x, none⟩) 64 64] W1 fun e W' => (e = .returned (.bool true) ∧ ¬ False ∧ J (pre ++ [x]) W' ∧ Below w0.heap.size W1 W') ∨ (e = .returned (.bool false) ∧ False ∧ Jx (pre ++ [x]) W' ∧ Below w0.heap.size W1 W'))
    (W : World) (hb0 : Below w0.heap.size w0 W) (h0 : J [] W) :
    CallsIn Fence.wide n Tryd.prog 60 #[.func (.yield l) #[] #[], .pointer (some ⟨B1, 0, none⟩), .pointer (some ⟨B2, 0, none⟩)] W fun e W' => (∃ v, e = .returned v) ∧ ((∃ ys : List Nat, ys = [0, 1, 2, 3, 4, 5] ∧ J ys W') ∨ (∃ ys : List Nat, False ∧ Jx ys W')) := by
  have HJ := Aside0.mk h0
  have HB := Aside0.mk hb0
  have HY := Aside0.mk hY
  have HG := Aside0.mk hJ
  have HX := Aside0.mk hBx
  clear h0 hb0 hY hJ hBx
  refine callsIn_of_wp Tryd.func60 rfl trivial ?_ rfl
  simp only [Tryd.ntmps60, List.size_toArray, List.length_cons, List.length_nil, Nat.reduceAdd, Nat.reduceSub, Array.replicate_succ, Array.replicate_zero, List.push_toArray, List.append_toArray, List.nil_append, List.cons_append]
  gi_wp2
  gi_loopw [4] (fun i wr => ∃ k : Nat, k ≤ 6 ∧ i = .int .i64 ((64 * k : Nat) : Int) ∧ Aside0 (J (List.range k) wr) ∧ Aside0 (Below w0.heap.size w0 wr)) (fun i _ => 384 - (intOf i).toNat)
  case atStart => exact ⟨0, Nat.zero_le _, rfl, HJ, HB⟩
  case round =>
    clear HJ HB
    obtain ⟨k, hk, rfl, HJ, HB⟩ := hrel
    obtain ⟨hc1, hc2⟩ := HX.out _ _ HJ.out
    by_cases h6 : k = 6
    case pos =>
      subst h6
      gi_wp2
      go_end0
      exact ⟨⟨_, rfl⟩, .inl ⟨_, rfl, HJ.out⟩⟩
    case neg =>
      have hk5 : k = 0 ∨ k = 1 ∨ k = 2 ∨ k = 3 ∨ k = 4 ∨ k = 5 := by omega
      clear hk h6
      rcases hk5 with rfl | rfl | rfl | rfl | rfl | rfl
      · gi_wp2
        refine wpIn_wide.2 ?_
        refine start_ (n := 7) (S := fun w' => w'.cell? ⟨B2, 0, none⟩ = some (.int .i64 64) ∧ w'.cell? ⟨B1, 0, none⟩ = some (.slice (some ⟨g, 0, none⟩) 384 cap)) (ds := []) #[false, false, false, false, false, false, false] (by kernel_rfl) rfl rfl ⟨hc2, hc1⟩ (fun hHeld => ?_)
        refine pure_ (i := 2) (N := some 15) (v := ?_) (a' := ?_) #[false, false, true, false, false, false, false] rfl rfl (by kernel_rfl) (fun _ _ _ h => h) (Or.inl ⟨by rfl, ?_⟩) ?_ ?_
        rotate_left
        · intro w'
          go_simp
          with_reducible rfl
        rotate_left
        · simp only [Act.put, List.setIfInBounds_toArray, List.set_cons_zero, List.set_cons_succ]
          rfl
        refine take_ (i := 0) (N := some 13) (v := ?_) (a' := ?_) #[true, false, true, false, false, false, false] rfl rfl (by kernel_rfl) (fun _ _ _ h => h) (Or.inl ⟨by rfl, ?_⟩) hHeld ?_ ?_
        rotate_left
        · rintro w' ⟨s0, s1⟩
          go_simp
          with_reducible rfl
        rotate_left
        · simp only [Act.put, List.setIfInBounds_toArray, List.set_cons_zero, List.set_cons_succ]
          rfl
        refine take_ (i := 1) (N := some 14) (v := ?_) (a' := ?_) #[true, true, true, false, false, false, false] rfl rfl (by kernel_rfl) (fun _ _ _ h => h) (Or.inl ⟨by rfl, ?_⟩) hHeld ?_ ?_
        rotate_left
        · rintro w' ⟨s0, s1⟩
          go_simp
          with_reducible rfl
        rotate_left
        · simp only [Act.put, List.setIfInBounds_toArray, List.set_cons_zero, List.set_cons_succ]
          rfl
        refine pure_ (i := 3) (N := some 16) (v := ?_) (a' := ?_) #[true, true, true, true, false, false, false] rfl rfl (by kernel_rfl) (fun _ _ _ h => h) (Or.inl ⟨by rfl, ?_⟩) ?_ ?_
        rotate_left
        · intro w'
          go_simp
          with_reducible rfl
        rotate_left
        · simp only [Act.put, List.setIfInBounds_toArray, List.set_cons_zero, List.set_cons_succ]
          rfl
        refine pure_ (i := 4) (N := some 17) (v := ?_) (a' := ?_) #[true, true, true, true, true, false, false] rfl rfl (by kernel_rfl) (fun _ _ _ h => h) (Or.inl ⟨by rfl, ?_⟩) ?_ ?_
        rotate_left
        · intro w'
          go_simp
          with_reducible rfl
        rotate_left
        · simp only [Act.put, List.setIfInBounds_toArray, List.set_cons_zero, List.set_cons_succ]
          rfl
        refine pure_ (i := 5) (N := some 18) (v := ?_) (a' := ?_) #[true, true, true, true, true, true, false] rfl rfl (by kernel_rfl) (fun _ _ _ h => h) (Or.inl ⟨by rfl, ?_⟩) ?_ ?_
        rotate_left
        · intro w'
          go_simp
          with_reducible rfl
        rotate_left
        · simp only [Act.put, List.setIfInBounds_toArray, List.set_cons_zero, List.set_cons_succ]
          rfl
        refine pure_ (i := 6) (N := some 5) (v := ?_) (a' := ?_) #[true, true, true, true, true, true, true] rfl rfl (by kernel_rfl) (fun _ _ _ h => h) (Or.inl ⟨by rfl, ?_⟩) ?_ ?_
        rotate_left
        · intro w'
          go_simp
          with_reducible rfl
        rotate_left
        · simp only [Act.put, List.setIfInBounds_toArray, List.set_cons_zero, List.set_cons_succ]
          rfl
        refine done_ (by kernel_rfl) ?_
        have HJ1 := HG.out _ _ _ HJ.out (ngrown_of (Below.drew (Below.refl _ _)))
        have HB1 := Below.drew HB.out
        clear hHeld
        generalize wr.drew = wd at HJ1 HB1 ⊢
        obtain ⟨hc1, hc2⟩ := HX.out _ _ HJ1
        obtain ⟨fn, tmps, assign, body, hy, hRd⟩ := HY.out (List.range 0) 0 wd HJ1 (by decide) (by decide)
        simp only [Nat.reduceMul] at hy
        gi_wp2
        refine hRd.mono ?_
        rintro e3 W3 (⟨rfl, _, hJ3, hk3⟩ | ⟨_, hf, _, _⟩)
        · obtain ⟨hc1, hc2⟩ := HX.out _ _ hJ3
          gi_wp2
          go_roundw
          case rel => exact ⟨1, by decide, by first | rfl | go_num, ⟨hJ3⟩, ⟨HB1.trans hk3⟩⟩
          case measure => simp [intOf]
        · exact hf.elim
      · gi_wp2
        refine wpIn_wide.2 ?_
        refine start_ (n := 7) (S := fun w' => w'.cell? ⟨B2, 0, none⟩ = some (.int .i64 64) ∧ w'.cell? ⟨B1, 0, none⟩ = some (.slice (some ⟨g, 0, none⟩) 384 cap)) (ds := []) #[false, false, false, false, false, false, false] (by kernel_rfl) rfl rfl ⟨hc2, hc1⟩ (fun hHeld => ?_)
        refine pure_ (i := 2) (N := some 15) (v := ?_) (a' := ?_) #[false, false, true, false, false, false, false] rfl rfl (by kernel_rfl) (fun _ _ _ h => h) (Or.inl ⟨by rfl, ?_⟩) ?_ ?_
        rotate_left
        · intro w'
          go_simp
          with_reducible rfl
        rotate_left
        · simp only [Act.put, List.setIfInBounds_toArray, List.set_cons_zero, List.set_cons_succ]
          rfl
        refine take_ (i := 0) (N := some 13) (v := ?_) (a' := ?_) #[true, false, true, false, false, false, false] rfl rfl (by kernel_rfl) (fun _ _ _ h => h) (Or.inl ⟨by rfl, ?_⟩) hHeld ?_ ?_
        rotate_left
        · rintro w' ⟨s0, s1⟩
          go_simp
          with_reducible rfl
        rotate_left
        · simp only [Act.put, List.setIfInBounds_toArray, List.set_cons_zero, List.set_cons_succ]
          rfl
        refine take_ (i := 1) (N := some 14) (v := ?_) (a' := ?_) #[true, true, true, false, false, false, false] rfl rfl (by kernel_rfl) (fun _ _ _ h => h) (Or.inl ⟨by rfl, ?_⟩) hHeld ?_ ?_
        rotate_left
        · rintro w' ⟨s0, s1⟩
          go_simp
          with_reducible rfl
        rotate_left
        · simp only [Act.put, List.setIfInBounds_toArray, List.set_cons_zero, List.set_cons_succ]
          rfl
        refine pure_ (i := 3) (N := some 16) (v := ?_) (a' := ?_) #[true, true, true, true, false, false, false] rfl rfl (by kernel_rfl) (fun _ _ _ h => h) (Or.inl ⟨by rfl, ?_⟩) ?_ ?_
        rotate_left
        · intro w'
          go_simp
          with_reducible rfl
        rotate_left
        · simp only [Act.put, List.setIfInBounds_toArray, List.set_cons_zero, List.set_cons_succ]
          rfl
        refine pure_ (i := 4) (N := some 17) (v := ?_) (a' := ?_) #[true, true, true, true, true, false, false] rfl rfl (by kernel_rfl) (fun _ _ _ h => h) (Or.inl ⟨by rfl, ?_⟩) ?_ ?_
        rotate_left
        · intro w'
          go_simp
          with_reducible rfl
        rotate_left
        · simp only [Act.put, List.setIfInBounds_toArray, List.set_cons_zero, List.set_cons_succ]
          rfl
        refine pure_ (i := 5) (N := some 18) (v := ?_) (a' := ?_) #[true, true, true, true, true, true, false] rfl rfl (by kernel_rfl) (fun _ _ _ h => h) (Or.inl ⟨by rfl, ?_⟩) ?_ ?_
        rotate_left
        · intro w'
          go_simp
          with_reducible rfl
        rotate_left
        · simp only [Act.put, List.setIfInBounds_toArray, List.set_cons_zero, List.set_cons_succ]
          rfl
        refine pure_ (i := 6) (N := some 5) (v := ?_) (a' := ?_) #[true, true, true, true, true, true, true] rfl rfl (by kernel_rfl) (fun _ _ _ h => h) (Or.inl ⟨by rfl, ?_⟩) ?_ ?_
        rotate_left
        · intro w'
          go_simp
          with_reducible rfl
        rotate_left
        · simp only [Act.put, List.setIfInBounds_toArray, List.set_cons_zero, List.set_cons_succ]
          rfl
        refine done_ (by kernel_rfl) ?_
        have HJ1 := HG.out _ _ _ HJ.out (ngrown_of (Below.drew (Below.refl _ _)))
        have HB1 := Below.drew HB.out
        clear hHeld
        generalize wr.drew = wd at HJ1 HB1 ⊢
        obtain ⟨hc1, hc2⟩ := HX.out _ _ HJ1
        obtain ⟨fn, tmps, assign, body, hy, hRd⟩ := HY.out (List.range 1) 1 wd HJ1 (by decide) (by decide)
        simp only [Nat.reduceMul] at hy
        gi_wp2
        refine hRd.mono ?_
        rintro e3 W3 (⟨rfl, _, hJ3, hk3⟩ | ⟨_, hf, _, _⟩)
        · obtain ⟨hc1, hc2⟩ := HX.out _ _ hJ3
          gi_wp2
          go_roundw
          case rel => exact ⟨2, by decide, by first | rfl | go_num, ⟨hJ3⟩, ⟨HB1.trans hk3⟩⟩
          case measure => simp [intOf]
        · exact hf.elim
      · gi_wp2
        refine wpIn_wide.2 ?_
        refine start_ (n := 7) (S := fun w' => w'.cell? ⟨B2, 0, none⟩ = some (.int .i64 64) ∧ w'.cell? ⟨B1, 0, none⟩ = some (.slice (some ⟨g, 0, none⟩) 384 cap)) (ds := []) #[false, false, false, false, false, false, false] (by kernel_rfl) rfl rfl ⟨hc2, hc1⟩ (fun hHeld => ?_)
        refine pure_ (i := 2) (N := some 15) (v := ?_) (a' := ?_) #[false, false, true, false, false, false, false] rfl rfl (by kernel_rfl) (fun _ _ _ h => h) (Or.inl ⟨by rfl, ?_⟩) ?_ ?_
        rotate_left
        · intro w'
          go_simp
          with_reducible rfl
        rotate_left
        · simp only [Act.put, List.setIfInBounds_toArray, List.set_cons_zero, List.set_cons_succ]
          rfl
        refine take_ (i := 0) (N := some 13) (v := ?_) (a' := ?_) #[true, false, true, false, false, false, false] rfl rfl (by kernel_rfl) (fun _ _ _ h => h) (Or.inl ⟨by rfl, ?_⟩) hHeld ?_ ?_
        rotate_left
        · rintro w' ⟨s0, s1⟩
          go_simp
          with_reducible rfl
        rotate_left
        · simp only [Act.put, List.setIfInBounds_toArray, List.set_cons_zero, List.set_cons_succ]
          rfl
        refine take_ (i := 1) (N := some 14) (v := ?_) (a' := ?_) #[true, true, true, false, false, false, false] rfl rfl (by kernel_rfl) (fun _ _ _ h => h) (Or.inl ⟨by rfl, ?_⟩) hHeld ?_ ?_
        rotate_left
        · rintro w' ⟨s0, s1⟩
          go_simp
          with_reducible rfl
        rotate_left
        · simp only [Act.put, List.setIfInBounds_toArray, List.set_cons_zero, List.set_cons_succ]
          rfl
        refine pure_ (i := 3) (N := some 16) (v := ?_) (a' := ?_) #[true, true, true, true, false, false, false] rfl rfl (by kernel_rfl) (fun _ _ _ h => h) (Or.inl ⟨by rfl, ?_⟩) ?_ ?_
        rotate_left
        · intro w'
          go_simp
          with_reducible rfl
        rotate_left
        · simp only [Act.put, List.setIfInBounds_toArray, List.set_cons_zero, List.set_cons_succ]
          rfl
        refine pure_ (i := 4) (N := some 17) (v := ?_) (a' := ?_) #[true, true, true, true, true, false, false] rfl rfl (by kernel_rfl) (fun _ _ _ h => h) (Or.inl ⟨by rfl, ?_⟩) ?_ ?_
        rotate_left
        · intro w'
          go_simp
          with_reducible rfl
        rotate_left
        · simp only [Act.put, List.setIfInBounds_toArray, List.set_cons_zero, List.set_cons_succ]
          rfl
        refine pure_ (i := 5) (N := some 18) (v := ?_) (a' := ?_) #[true, true, true, true, true, true, false] rfl rfl (by kernel_rfl) (fun _ _ _ h => h) (Or.inl ⟨by rfl, ?_⟩) ?_ ?_
        rotate_left
        · intro w'
          go_simp
          with_reducible rfl
        rotate_left
        · simp only [Act.put, List.setIfInBounds_toArray, List.set_cons_zero, List.set_cons_succ]
          rfl
        refine pure_ (i := 6) (N := some 5) (v := ?_) (a' := ?_) #[true, true, true, true, true, true, true] rfl rfl (by kernel_rfl) (fun _ _ _ h => h) (Or.inl ⟨by rfl, ?_⟩) ?_ ?_
        rotate_left
        · intro w'
          go_simp
          with_reducible rfl
        rotate_left
        · simp only [Act.put, List.setIfInBounds_toArray, List.set_cons_zero, List.set_cons_succ]
          rfl
        refine done_ (by kernel_rfl) ?_
        have HJ1 := HG.out _ _ _ HJ.out (ngrown_of (Below.drew (Below.refl _ _)))
        have HB1 := Below.drew HB.out
        clear hHeld
        generalize wr.drew = wd at HJ1 HB1 ⊢
        obtain ⟨hc1, hc2⟩ := HX.out _ _ HJ1
        obtain ⟨fn, tmps, assign, body, hy, hRd⟩ := HY.out (List.range 2) 2 wd HJ1 (by decide) (by decide)
        simp only [Nat.reduceMul] at hy
        gi_wp2
        refine hRd.mono ?_
        rintro e3 W3 (⟨rfl, _, hJ3, hk3⟩ | ⟨_, hf, _, _⟩)
        · obtain ⟨hc1, hc2⟩ := HX.out _ _ hJ3
          gi_wp2
          go_roundw
          case rel => exact ⟨3, by decide, by first | rfl | go_num, ⟨hJ3⟩, ⟨HB1.trans hk3⟩⟩
          case measure => simp [intOf]
        · exact hf.elim
      · gi_wp2
        refine wpIn_wide.2 ?_
        refine start_ (n := 7) (S := fun w' => w'.cell? ⟨B2, 0, none⟩ = some (.int .i64 64) ∧ w'.cell? ⟨B1, 0, none⟩ = some (.slice (some ⟨g, 0, none⟩) 384 cap)) (ds := []) #[false, false, false, false, false, false, false] (by kernel_rfl) rfl rfl ⟨hc2, hc1⟩ (fun hHeld => ?_)
        refine pure_ (i := 2) (N := some 15) (v := ?_) (a' := ?_) #[false, false, true, false, false, false, false] rfl rfl (by kernel_rfl) (fun _ _ _ h => h) (Or.inl ⟨by rfl, ?_⟩) ?_ ?_
        rotate_left
        · intro w'
          go_simp
          with_reducible rfl
        rotate_left
        · simp only [Act.put, List.setIfInBounds_toArray, List.set_cons_zero, List.set_cons_succ]
          rfl
        refine take_ (i := 0) (N := some 13) (v := ?_) (a' := ?_) #[true, false, true, false, false, false, false] rfl rfl (by kernel_rfl) (fun _ _ _ h => h) (Or.inl ⟨by rfl, ?_⟩) hHeld ?_ ?_
        rotate_left
        · rintro w' ⟨s0, s1⟩
          go_simp
          with_reducible rfl
        rotate_left
        · simp only [Act.put, List.setIfInBounds_toArray, List.set_cons_zero, List.set_cons_succ]
          rfl
        refine take_ (i := 1) (N := some 14) (v := ?_) (a' := ?_) #[true, true, true, false, false, false, false] rfl rfl (by kernel_rfl) (fun _ _ _ h => h) (Or.inl ⟨by rfl, ?_⟩) hHeld ?_ ?_
        rotate_left
        · rintro w' ⟨s0, s1⟩
          go_simp
          with_reducible rfl
        rotate_left
        · simp only [Act.put, List.setIfInBounds_toArray, List.set_cons_zero, List.set_cons_succ]
          rfl
        refine pure_ (i := 3) (N := some 16) (v := ?_) (a' := ?_) #[true, true, true, true, false, false, false] rfl rfl (by kernel_rfl) (fun _ _ _ h => h) (Or.inl ⟨by rfl, ?_⟩) ?_ ?_
        rotate_left
        · intro w'
          go_simp
          with_reducible rfl
        rotate_left
        · simp only [Act.put, List.setIfInBounds_toArray, List.set_cons_zero, List.set_cons_succ]
          rfl
        refine pure_ (i := 4) (N := some 17) (v := ?_) (a' := ?_) #[true, true, true, true, true, false, false] rfl rfl (by kernel_rfl) (fun _ _ _ h => h) (Or.inl ⟨by rfl, ?_⟩) ?_ ?_
        rotate_left
        · intro w'
          go_simp
          with_reducible rfl
        rotate_left
        · simp only [Act.put, List.setIfInBounds_toArray, List.set_cons_zero, List.set_cons_succ]
          rfl
        refine pure_ (i := 5) (N := some 18) (v := ?_) (a' := ?_) #[true, true, true, true, true, true, false] rfl rfl (by kernel_rfl) (fun _ _ _ h => h) (Or.inl ⟨by rfl, ?_⟩) ?_ ?_
        rotate_left
        · intro w'
          go_simp
          with_reducible rfl
        rotate_left
        · simp only [Act.put, List.setIfInBounds_toArray, List.set_cons_zero, List.set_cons_succ]
          rfl
        refine pure_ (i := 6) (N := some 5) (v := ?_) (a' := ?_) #[true, true, true, true, true, true, true] rfl rfl (by kernel_rfl) (fun _ _ _ h => h) (Or.inl ⟨by rfl, ?_⟩) ?_ ?_
        rotate_left
        · intro w'
          go_simp
          with_reducible rfl
        rotate_left
        · simp only [Act.put, List.setIfInBounds_toArray, List.set_cons_zero, List.set_cons_succ]
          rfl
        refine done_ (by kernel_rfl) ?_
        have HJ1 := HG.out _ _ _ HJ.out (ngrown_of (Below.drew (Below.refl _ _)))
        have HB1 := Below.drew HB.out
        clear hHeld
        generalize wr.drew = wd at HJ1 HB1 ⊢
        obtain ⟨hc1, hc2⟩ := HX.out _ _ HJ1
        obtain ⟨fn, tmps, assign, body, hy, hRd⟩ := HY.out (List.range 3) 3 wd HJ1 (by decide) (by decide)
        simp only [Nat.reduceMul] at hy
        gi_wp2
        refine hRd.mono ?_
        rintro e3 W3 (⟨rfl, _, hJ3, hk3⟩ | ⟨_, hf, _, _⟩)
        · obtain ⟨hc1, hc2⟩ := HX.out _ _ hJ3
          gi_wp2
          go_roundw
          case rel => exact ⟨4, by decide, by first | rfl | go_num, ⟨hJ3⟩, ⟨HB1.trans hk3⟩⟩
          case measure => simp [intOf]
        · exact hf.elim
      · gi_wp2
        refine wpIn_wide.2 ?_
        refine start_ (n := 7) (S := fun w' => w'.cell? ⟨B2, 0, none⟩ = some (.int .i64 64) ∧ w'.cell? ⟨B1, 0, none⟩ = some (.slice (some ⟨g, 0, none⟩) 384 cap)) (ds := []) #[false, false, false, false, false, false, false] (by kernel_rfl) rfl rfl ⟨hc2, hc1⟩ (fun hHeld => ?_)
        refine pure_ (i := 2) (N := some 15) (v := ?_) (a' := ?_) #[false, false, true, false, false, false, false] rfl rfl (by kernel_rfl) (fun _ _ _ h => h) (Or.inl ⟨by rfl, ?_⟩) ?_ ?_
        rotate_left
        · intro w'
          go_simp
          with_reducible rfl
        rotate_left
        · simp only [Act.put, List.setIfInBounds_toArray, List.set_cons_zero, List.set_cons_succ]
          rfl
        refine take_ (i := 0) (N := some 13) (v := ?_) (a' := ?_) #[true, false, true, false, false, false, false] rfl rfl (by kernel_rfl) (fun _ _ _ h => h) (Or.inl ⟨by rfl, ?_⟩) hHeld ?_ ?_
        rotate_left
        · rintro w' ⟨s0, s1⟩
          go_simp
          with_reducible rfl
        rotate_left
        · simp only [Act.put, List.setIfInBounds_toArray, List.set_cons_zero, List.set_cons_succ]
          rfl
        refine take_ (i := 1) (N := some 14) (v := ?_) (a' := ?_) #[true, true, true, false, false, false, false] rfl rfl (by kernel_rfl) (fun _ _ _ h => h) (Or.inl ⟨by rfl, ?_⟩) hHeld ?_ ?_
        rotate_left
        · rintro w' ⟨s0, s1⟩
          go_simp
          with_reducible rfl
        rotate_left
        · simp only [Act.put, List.setIfInBounds_toArray, List.set_cons_zero, List.set_cons_succ]
          rfl
        refine pure_ (i := 3) (N := some 16) (v := ?_) (a' := ?_) #[true, true, true, true, false, false, false] rfl rfl (by kernel_rfl) (fun _ _ _ h => h) (Or.inl ⟨by rfl, ?_⟩) ?_ ?_
        rotate_left
        · intro w'
          go_simp
          with_reducible rfl
        rotate_left
        · simp only [Act.put, List.setIfInBounds_toArray, List.set_cons_zero, List.set_cons_succ]
          rfl
        refine pure_ (i := 4) (N := some 17) (v := ?_) (a' := ?_) #[true, true, true, true, true, false, false] rfl rfl (by kernel_rfl) (fun _ _ _ h => h) (Or.inl ⟨by rfl, ?_⟩) ?_ ?_
        rotate_left
        · intro w'
          go_simp
          with_reducible rfl
        rotate_left
        · simp only [Act.put, List.setIfInBounds_toArray, List.set_cons_zero, List.set_cons_succ]
          rfl
        refine pure_ (i := 5) (N := some 18) (v := ?_) (a' := ?_) #[true, true, true, true, true, true, false] rfl rfl (by kernel_rfl) (fun _ _ _ h => h) (Or.inl ⟨by rfl, ?_⟩) ?_ ?_
        rotate_left
        · intro w'
          go_simp
          with_reducible rfl
        rotate_left
        · simp only [Act.put, List.setIfInBounds_toArray, List.set_cons_zero, List.set_cons_succ]
          rfl
        refine pure_ (i := 6) (N := some 5) (v := ?_) (a' := ?_) #[true, true, true, true, true, true, true] rfl rfl (by kernel_rfl) (fun _ _ _ h => h) (Or.inl ⟨by rfl, ?_⟩) ?_ ?_
        rotate_left
        · intro w'
          go_simp
          with_reducible rfl
        rotate_left
        · simp only [Act.put, List.setIfInBounds_toArray, List.set_cons_zero, List.set_cons_succ]
          rfl
        refine done_ (by kernel_rfl) ?_
        have HJ1 := HG.out _ _ _ HJ.out (ngrown_of (Below.drew (Below.refl _ _)))
        have HB1 := Below.drew HB.out
        clear hHeld
        generalize wr.drew = wd at HJ1 HB1 ⊢
        obtain ⟨hc1, hc2⟩ := HX.out _ _ HJ1
        obtain ⟨fn, tmps, assign, body, hy, hRd⟩ := HY.out (List.range 4) 4 wd HJ1 (by decide) (by decide)
        simp only [Nat.reduceMul] at hy
        gi_wp2
        refine hRd.mono ?_
        rintro e3 W3 (⟨rfl, _, hJ3, hk3⟩ | ⟨_, hf, _, _⟩)
        · obtain ⟨hc1, hc2⟩ := HX.out _ _ hJ3
          gi_wp2
          go_roundw
          case rel => exact ⟨5, by decide, by first | rfl | go_num, ⟨hJ3⟩, ⟨HB1.trans hk3⟩⟩
          case measure => simp [intOf]
        · exact hf.elim
      · gi_wp2
        refine wpIn_wide.2 ?_
        refine start_ (n := 7) (S := fun w' => w'.cell? ⟨B2, 0, none⟩ = some (.int .i64 64) ∧ w'.cell? ⟨B1, 0, none⟩ = some (.slice (some ⟨g, 0, none⟩) 384 cap)) (ds := []) #[false, false, false, false, false, false, false] (by kernel_rfl) rfl rfl ⟨hc2, hc1⟩ (fun hHeld => ?_)
        refine pure_ (i := 2) (N := some 15) (v := ?_) (a' := ?_) #[false, false, true, false, false, false, false] rfl rfl (by kernel_rfl) (fun _ _ _ h => h) (Or.inl ⟨by rfl, ?_⟩) ?_ ?_
        rotate_left
        · intro w'
          go_simp
          with_reducible rfl
        rotate_left
        · simp only [Act.put, List.setIfInBounds_toArray, List.set_cons_zero, List.set_cons_succ]
          rfl
        refine take_ (i := 0) (N := some 13) (v := ?_) (a' := ?_) #[true, false, true, false, false, false, false] rfl rfl (by kernel_rfl) (fun _ _ _ h => h) (Or.inl ⟨by rfl, ?_⟩) hHeld ?_ ?_
        rotate_left
        · rintro w' ⟨s0, s1⟩
          go_simp
          with_reducible rfl
        rotate_left
        · simp only [Act.put, List.setIfInBounds_toArray, List.set_cons_zero, List.set_cons_succ]
          rfl
        refine take_ (i := 1) (N := some 14) (v := ?_) (a' := ?_) #[true, true, true, false, false, false, false] rfl rfl (by kernel_rfl) (fun _ _ _ h => h) (Or.inl ⟨by rfl, ?_⟩) hHeld ?_ ?_
        rotate_left
        · rintro w' ⟨s0, s1⟩
          go_simp
          with_reducible rfl
        rotate_left
        · simp only [Act.put, List.setIfInBounds_toArray, List.set_cons_zero, List.set_cons_succ]
          rfl
        refine pure_ (i := 3) (N := some 16) (v := ?_) (a' := ?_) #[true, true, true, true, false, false, false] rfl rfl (by kernel_rfl) (fun _ _ _ h => h) (Or.inl ⟨by rfl, ?_⟩) ?_ ?_
        rotate_left
        · intro w'
          go_simp
          with_reducible rfl
        rotate_left
        · simp only [Act.put, List.setIfInBounds_toArray, List.set_cons_zero, List.set_cons_succ]
          rfl
        refine pure_ (i := 4) (N := some 17) (v := ?_) (a' := ?_) #[true, true, true, true, true, false, false] rfl rfl (by kernel_rfl) (fun _ _ _ h => h) (Or.inl ⟨by rfl, ?_⟩) ?_ ?_
        rotate_left
        · intro w'
          go_simp
          with_reducible rfl
        rotate_left
        · simp only [Act.put, List.setIfInBounds_toArray, List.set_cons_zero, List.set_cons_succ]
          rfl
        refine pure_ (i := 5) (N := some 18) (v := ?_) (a' := ?_) #[true, true, true, true, true, true, false] rfl rfl (by kernel_rfl) (fun _ _ _ h => h) (Or.inl ⟨by rfl, ?_⟩) ?_ ?_
        rotate_left
        · intro w'
          go_simp
          with_reducible rfl
        rotate_left
        · simp only [Act.put, List.setIfInBounds_toArray, List.set_cons_zero, List.set_cons_succ]
          rfl
        refine pure_ (i := 6) (N := some 5) (v := ?_) (a' := ?_) #[true, true, true, true, true, true, true] rfl rfl (by kernel_rfl) (fun _ _ _ h => h) (Or.inl ⟨by rfl, ?_⟩) ?_ ?_
        rotate_left
        · intro w'
          go_simp
          with_reducible rfl
        rotate_left
        · simp only [Act.put, List.setIfInBounds_toArray, List.set_cons_zero, List.set_cons_succ]
          rfl
        refine done_ (by kernel_rfl) ?_
        have HJ1 := HG.out _ _ _ HJ.out (ngrown_of (Below.drew (Below.refl _ _)))
        have HB1 := Below.drew HB.out
        clear hHeld
        generalize wr.drew = wd at HJ1 HB1 ⊢
        obtain ⟨hc1, hc2⟩ := HX.out _ _ HJ1
        obtain ⟨fn, tmps, assign, body, hy, hRd⟩ := HY.out (List.range 5) 5 wd HJ1 (by decide) (by decide)
        simp only [Nat.reduceMul] at hy
        gi_wp2
        refine hRd.mono ?_
        rintro e3 W3 (⟨rfl, _, hJ3, hk3⟩ | ⟨_, hf, _, _⟩)
        · obtain ⟨hc1, hc2⟩ := HX.out _ _ hJ3
          gi_wp2
          go_roundw
          case rel => exact ⟨6, by decide, by first | rfl | go_num, ⟨hJ3⟩, ⟨HB1.trans hk3⟩⟩
          case measure => simp [intOf]
        · exact hf.elim
end Go.Proofs.YtpgfafpjfdbjmaaDoor
end
section
namespace Go.Proofs.YtpgfafpjfdbjmaaDoor
open Go.RowKit
section
variable {P : Program}
theorem zeros_cells (m : Nat) : Builtin.zeroCells (Value.int .u8 0).cells m = (Lib.byteCells (List.replicate m 0)).toArray := by
  apply Array.ext'
  simp [Builtin.zeroCells, Lib.byteCells, Value.cells]
  apply List.ext_getElem
  · simp
  · intro i h1 h2
    simp [Nat.mod_one]
theorem run_append_zerosB (w : World) (B : Nat) (t ti ty E : TypeId) (i : TypeInfo) (ht : P.underlying t = some (.slice E)) {k : IntKind} (hti : P.underlying ti = some (.int k)) (hi : P.info? E = some i) (hz : i.zero = some (.int .u8 0)) (hsize : i.size = 1) (hby : i.bytes = 1)
    (g cap : Nat) (l : List UInt8) (hown : RowB B E (.slice (some ⟨g, 0, none⟩) l.length cap) l w) (kx : IntKind) (m : Nat)
    (hlen : l.length + m ≤ 140737488355328) (hbase : B ≤ w.heap.size) :
    ∃ v' w', (Builtin.append_ #[t, ti] ty #[.slice (some ⟨g, 0, none⟩) l.length cap, .int kx m]).run P w = .ok v' w' ∧ RowB B E v' (l ++ List.replicate m 0) w' ∧ w.grownBy w' (some g) := by
  have hm63 : l.length + m ≤ maxLen := by unfold maxLen; omega
  have hw : IntKind.i64.wrap (m : Int) = m := by rw [IntKind.wrap_i64]; omega
  have hw0 : IntKind.i64.wrap 0 = 0 := by rw [IntKind.wrap_i64]; rfl
  have hneg : ¬ ((m : Int) < 0) := by omega
  have hbig : ¬ (281474976710656 < (m : Int) * (i.bytes : Int)) := by rw [hby]; omega
  rcases hown with ⟨h0, _⟩ | ⟨g2, cap2, cur, fz, hv, hbg, hg, hfz, hnc, hcm, hcs, htake⟩
  · cases h0
  obtain ⟨rfl, rfl⟩ : g = g2 ∧ cap = cap2 := by
    injection hv with e1 e2 e3
    injection e1 with e1
    injection e1 with e1
    exact ⟨e1, e3⟩
  obtain ⟨news, hnews⟩ : ∃ news, news = Lib.byteCells (List.replicate m 0) := ⟨_, rfl⟩
  have hl : news.length = m := by rw [hnews, Lib.byteCells_length, List.length_replicate]
  have hna : Builtin.zeroCells (Value.int .u8 0).cells m = news.toArray := by rw [zeros_cells, hnews]
  have h1 : ∀ u ∈ news, u.oneCell' = true := by rw [hnews]; exact byteCells_one _
  by_cases hroom : l.length + m ≤ cap
  · have hst := run_storeCells_free (P := P) g E fz news (l.length * 1) 0 cur w hg (fun k hk1 hk2 => hfz k (by omega) (by omega)) (by omega) h1
    simp only [Nat.add_zero, Nat.mul_one] at hst
    have hr : (Builtin.append_ #[t, ti] ty #[.slice (some ⟨g, 0, none⟩) l.length cap, .int kx m]).run P w = .ok (.slice (some ⟨g, 0, none⟩) (l.length + m) cap) (w.setRow g (cur.toList.take l.length ++ news ++ cur.toList.drop (l.length + news.length)).toArray) := by
      by_cases hm : m = 0
      · subst hm
        have hnl : news = [] := List.eq_nil_of_length_eq_zero hl
        subst hnl
        simp only [List.length_nil, Nat.add_zero] at hst
        simp [Builtin.append_, run_underlying ht, run_underlying hti, sizeOf, typeInfo, hi, asInt, asIntOf, hw0, hnc, hst, hsize, Addr.add_lit]
      · simp [Builtin.append_, run_underlying ht, run_underlying hti, sizeOf, typeInfo, zeroValue, hi, hz, asInt, asIntOf, hw, hneg, hbig, hroom, hna, Addr.add_lit, hst, hsize, hm]
    refine ⟨_, _, hr, .inr ⟨g, cap, _, fz, by rw [List.length_append, List.length_replicate], hbg, setRow_heap w g cur _ E _ hg, fun k hk1 hk2 => hfz k (by rw [List.length_append] at hk1; omega) hk2, by rw [List.length_append, List.length_replicate]; exact hroom, hcm, ?_, ?_⟩, ⟨rfl, rfl, rfl, by simp, fun k _ hk => setRow_other w g k _ (fun e => hk (by rw [e]))⟩⟩
    · simp only [List.size_toArray, List.length_append, List.length_take, List.length_drop, Array.length_toList]
      omega
    · rw [htake, hnews, Lib.byteCells_append]
      have : (l ++ List.replicate m 0).length = (Lib.byteCells l ++ Lib.byteCells (List.replicate m 0)).length := by simp [Lib.byteCells_length]
      rw [this]
      exact List.take_left
  · have hm : ¬ m = 0 := by omega
    have holds : ∀ j u, (Lib.byteCells l)[j]? = some u → w.drew.cell? ((⟨g, 0, none⟩ : Addr).add j) = some u := by
      intro j u hj
      simp only [Lib.byteCells, List.getElem?_map, Option.map_eq_some_iff] at hj
      obtain ⟨x, hx, rfl⟩ := hj
      have hadd : (⟨g, 0, none⟩ : Addr).add j = ⟨g, j, none⟩ := by unfold Addr.add; split <;> simp_all
      rw [hadd]
      exact RowB.cells (B := B) (E := E) (v := .slice (some ⟨g, 0, none⟩) l.length cap) (.inr ⟨g, cap, cur, fz, rfl, hbg, hg, hfz, hnc, hcm, hcs, htake⟩) rfl j x hx
    have hfo := run_firstCells_some (P := P) w.drew 1 l.length ⟨g, 0, none⟩ l.length cap (Lib.byteCells l) (by rw [Lib.byteCells_length, Nat.mul_one]) holds
    have hn : ¬ (l.length + m ≤ cap) := hroom
    have h63' : ¬ (9223372036854775807 < ((l.length : Int) + (m : Int))) := by omega
    have hfit := growslice_fits (need := l.length + m) (old := cap) (bytes := i.bytes) (by omega) (by rw [hby]; omega)
    have h48' : ¬ (281474976710656 < Builtin.nextslicecap (l.length + m) cap * i.bytes) := by omega
    have hr : (Builtin.append_ #[t, ti] ty #[.slice (some ⟨g, 0, none⟩) l.length cap, .int kx m]).run P w = .ok (.slice (some ⟨w.heap.size, 0, none⟩) (l.length + m) (grownCap w (l.length + m) cap E)) (w.drew.alloc (.cells ((Lib.byteCells l).toArray ++ news.toArray ++ Builtin.zeroCells (Value.int .u8 0).cells (grownCap w (l.length + m) cap E - (l.length + m))) E)) := by
      simp [Builtin.append_, run_underlying ht, run_underlying hti, sizeOf, typeInfo, zeroValue, hi, hz, asInt, asIntOf, hw, hneg, hbig, hn, h63', h48', Question.forced, hfo, newRow, grownCap, hm, hna, hsize]
      congr 2
      apply Array.ext'
      simp [List.append_assoc]
    have hge := grownCap_ge w (l.length + m) cap E
    have hcm2 : grownCap w (l.length + m) cap E ≤ maxLen := grownCap_le_maxLen w (l.length + m) cap E hm63
    refine ⟨_, _, hr, .inr ⟨w.heap.size, _, _, (0, 0), by rw [List.length_append, List.length_replicate], hbase, heap_alloc_new w.drew _, fun _ _ _ _ => by omega, by rw [List.length_append, List.length_replicate]; exact hge, hcm2, ?_, ?_⟩, ⟨rfl, rfl, rfl, by simp, fun k hk _ => Lib.alloc_old w.drew _ k hk⟩⟩
    · simp only [Array.size_append, List.size_toArray, size_zeroCells, Lib.byteCells_length, hl]
      have : (Value.int IntKind.u8 0).cells.size = 1 := rfl
      rw [this]
      omega
    · simp only [Array.toList_append, List.append_assoc]
      rw [hnews, ← List.append_assoc, ← Lib.byteCells_append]
      have : (l ++ List.replicate m 0).length = (Lib.byteCells (l ++ List.replicate m 0)).length := by rw [Lib.byteCells_length]
      rw [this]
      exact List.take_left
end
end Go.Proofs.YtpgfafpjfdbjmaaDoor
end
section
namespace Go.Proofs.YtpgfafpjfdbjmaaDoor
open Go.RowKit Q Go.Proofs.YtpgfafpjfdbjmaaDoorW.PrintWords Go.Proofs.YtpgfafpjfdbjmaaDoorW.PrintLast Go.Proofs.YtpgfafpjfdbjmaaDoorW.PrintMore
attribute [local go_sem] Oper.semAt_some
section
variable {F : Fence} {n : Nat} {P : Program} {ops : Array Oper} {rest : List Oper} {o : Oper} {a : Act} {Q : Exit → Act → World → Prop} {W : World}
theorem nwpListIn_append (hgd : o.guard = none) (s x : Operand) (t u : TypeId) (hop : o.op = .call { callee := .builtin .append, args := #[s, x], argTypes := #[t, u] }) (v y v1 : Value) (w1 : World) (hs : a.eval s = v) (hx : a.eval x = y)
    (hrun : (Builtin.append_ #[t, u] o.type #[v, y]).run P W = .ok v1 w1) (h : wpListIn F n P ops Q rest (a.put o.dst v1) w1) : wpListIn F n P ops Q (o :: rest) a W := by
  refine wpListIn_plain hgd fun K hK => ?_
  unfold Oper.wpIn
  refine ⟨?_, ?_⟩
  · simp [Oper.about, hop, resolve, Target.leads, Sem.run_pure]
  · rw [Oper.semAt_plain F _ _ (by rw [hop]; intro c hc'; cases hc')]
    simp [execOp, hop, resolve, invoke, builtin, hs, hx, hrun, Result.andThen]
    exact hK _ _ h
theorem nappend_str (hgd : o.guard = none) (s x : Operand) (t e : TypeId) (hop : o.op = .call { callee := .builtin .append, args := #[s, x], argTypes := #[t, t] }) (hu : P.underlying t = some (.slice e)) (hi : (P.info? e).map (fun i => (i.zero, i.size, i.bytes)) = some (some (.string ⟨#[]⟩), 1, 16))
    (base : Nat) (v : Value) (L : List ByteArray) (hs : a.eval s = v) (p : ByteArray) (hx : a.eval x = .slice (some ⟨W.heap.size, 0, none⟩) 1 1) (HO : Kd.R Kd.string e W base (fun k => base ≤ k) v L) (hbase : base ≤ W.heap.size) (hl : (L.length + 1) * 16 ≤ 140737488355328)
    (h : ∀ v1 w1, Kd.R Kd.string e w1 base (fun k => base ≤ k) v1 (L ++ [p]) → W.grownBy w1 v.ownBlock → wpListIn F n P ops Q rest (a.put o.dst v1) w1) : wpListIn F n P ops Q (o :: rest) a (W.alloc (.cells #[.string p] e)) := by
  obtain ⟨i0, hi0, hzz⟩ := Option.map_eq_some_iff.1 hi
  simp only [Prod.mk.injEq] at hzz
  obtain ⟨hz0, hz1, hz2⟩ := hzz
  have hown := Kd.own_of_R (h1 := fun _ => rfl) HO
  refine wpListIn_append_own (W.alloc (.cells #[.string p] e)) hgd s x t hop base e i0 (.string ⟨#[]⟩) 1 16 hu hi0 hz0 hz1 hz2 rfl (by decide) v L.length (encs Value.string L) hs (hown.alloc _) ⟨W.heap.size, 0, none⟩ 1 1 [.string p] hx rfl
    (by
      intro j u hj
      match j, hj with
      | 0, hj =>
        cases hj
        exact (Blk.new W #[.string p] e).cell (i := 0) rfl) (fun u hu => by simp only [List.mem_singleton] at hu; subst hu; rfl) (by simp only [maxLen]; omega) hl (by simp; omega) ?_
  intro v' w' r1 r2 _
  have r1' : w'.ownsRow base e 1 v' (L ++ [p]).length (encs Value.string (L ++ [p])) := by
    rw [List.length_append, encs_append]
    exact r1
  exact h v' w' (Kd.R_of_own r1' (fun k hk => own_base r1' k hk)) (World.grownBy.trans (World.grownBy_alloc W _ v.ownBlock) r2)
end
def padN (s : List UInt8) : List UInt8 := s ++ List.replicate (384 - s.length) 0
def partN (s : List UInt8) (i : Nat) : ByteArray := B (((padN s).drop (64 * i)).take 64)
def shR (s : List UInt8) : List ByteArray × Int := if 384 < s.length then ([], 12) else ([0, 1, 2, 3, 4, 5].map (partN s), 0)
theorem padN_len (s : List UInt8) (h : s.length ≤ 384) : (padN s).length = 384 := by
  unfold padN
  rw [List.length_append, List.length_replicate]
  omega
theorem ninfoS : (Tryd.prog.info? 9).map (fun i => (i.zero, i.size, i.bytes)) = some (some (.string ⟨#[]⟩), 1, 16) := by kernel_rfl
theorem ninfoU0 : (Tryd.prog.info? 5).map (fun i => (i.zero, i.size, i.bytes)) = some (some (.int .u8 0), 1, 1) := by kernel_rfl
theorem ninfoU : ∃ i, Tryd.prog.info? 5 = some i ∧ i.zero = some (.int .u8 0) ∧ i.size = 1 ∧ i.bytes = 1 := by
  obtain ⟨i0, hi0, hzz⟩ := Option.map_eq_some_iff.1 ninfoU0
  simp only [Prod.mk.injEq] at hzz
  exact ⟨i0, hi0, hzz⟩
structure Sh (BL B1 B2 g cap : Nat) (s : List UInt8) (w0 : World) (v : Value) (L : List ByteArray) (W : World) : Prop where
  bl : Boxed W BL 49 v
  b1 : Boxed W B1 59 (.slice (some ⟨g, 0, none⟩) 384 cap)
  b2 : Boxed W B2 3 (.int .i64 64)
  ro : RowB w0.heap.size 5 (.slice (some ⟨g, 0, none⟩) (padN s).length cap) (padN s) W
  ol : Kd.R Kd.string 9 W w0.heap.size (fun k => w0.heap.size ≤ k) v L
  bw : Below w0.heap.size w0 W
  gL : w0.heap.size ≤ BL
theorem rowB_typed {B : Nat} {E : TypeId} {v : Value} {l : List UInt8} {W : World} (h : RowB B E v l W) : ∀ k, v.ownBlock = some k → ∃ cells fz, W.heap[k]? = some (.cells cells E fz) := by
  intro k hk
  rcases h with ⟨rfl, _⟩ | ⟨g, cap, cur, fz, rfl, _, hg, _⟩
  · cases hk
  · injection hk with hk
    exact ⟨cur, fz, by rw [← hk]; exact hg⟩
section
variable {BL B1 B2 g cap : Nat} {s : List UInt8} {w0 W W1 : World} {v : Value} {L : List ByteArray}
theorem Sh.below (h : Sh BL B1 B2 g cap s w0 v L W) (b : Below W.heap.size W W1) : Sh BL B1 B2 g cap s w0 v L W1 :=
  have hg := ngrown_below b none
  { h with
    bl := h.bl.kept hg (by simp)
    b1 := h.b1.kept hg (by simp)
    b2 := h.b2.kept hg (by simp)
    ro := h.ro.below b
    ol := Kd.R_below h.ol b
    bw := below2 h.bw h.bw.size b }
theorem Sh.calm (h : Sh BL B1 B2 g cap s w0 v L W) {row : Option Nat} (hg : W.grownBy W1 row) (hr : ∀ r, row = some r → w0.heap.size ≤ r ∧ ∃ o : Obj, W.heap[r]? = some o ∧ o.isCells = false) : Sh BL B1 B2 g cap s w0 v L W1 :=
  have hr2 := fun r e => (hr r e).2
  { h with
    bl := nblk_calm h.bl hg hr2
    b1 := nblk_calm h.b1 hg hr2
    b2 := nblk_calm h.b2 hg hr2
    ro := h.ro.grown hg (fun k hk e => by
      obtain ⟨cells, fz, hc⟩ := rowB_typed h.ro k hk
      obtain ⟨o, ho, hn⟩ := hr2 k e.symm
      rw [hc] at ho
      cases ho
      cases hn)
    ol := nR_calm h.ol hg hr2
    bw := h.bw.grown hg h.bw.size (fun k e => (hr k e).1) }
theorem Sh.put (h : Sh BL B1 B2 g cap s w0 v L W) {y : Value} {p : ByteArray} (hR : Kd.R Kd.string 9 W1 w0.heap.size (fun k => w0.heap.size ≤ k) y (L ++ [p])) (hg : W.grownBy W1 v.ownBlock) : Sh BL B1 B2 g cap s w0 y (L ++ [p]) (W1.setCell ⟨BL, 0, none⟩ y) :=
  have hr : ∀ k, v.ownBlock = some k → ∃ cells, W.heap[k]? = some (.cells cells 9 (0, 0)) := fun k e => Kd.R_typed h.ol k e
  have hbl := nbox_step h.bl hg _ hr (by decide)
  have g2 := ngrown_set W1 BL 0 y
  have q2 : ∀ k, some BL = some k → ∃ cells, W1.heap[k]? = some (.cells cells 49 (0, 0)) := fun k e => by injection e with e; subst e; exact ⟨_, hbl⟩
  have h1 : RowB w0.heap.size 5 (.slice (some ⟨g, 0, none⟩) (padN s).length cap) (padN s) W1 := h.ro.grown hg (fun k hk e => by
      obtain ⟨cells, fz, hc⟩ := rowB_typed h.ro k hk
      obtain ⟨c2, hc2⟩ := hr k e.symm
      rw [hc] at hc2
      injection hc2 with hc2
      injection hc2 with _ hc2
      exact absurd hc2 (by decide))
  { h with
    bl := hbl.set y
    b1 := nbox_step (nbox_step h.b1 hg _ hr (by decide)) g2 _ q2 (by decide)
    b2 := nbox_step (nbox_step h.b2 hg _ hr (by decide)) g2 _ q2 (by decide)
    ro := h1.grown g2 (fun k hk e => by
      obtain ⟨cells, fz, hc⟩ := rowB_typed h1 k hk
      obtain ⟨c2, hc2⟩ := q2 k e.symm
      rw [hc] at hc2
      injection hc2 with hc2
      injection hc2 with _ hc2
      exact absurd hc2 (by decide))
    ol := nR_step hR g2 _ q2 (fun q hq => by rcases List.mem_cons.1 hq with rfl | hq; decide; cases hq)
    bw := (h.bw.grown hg h.bw.size (fun k e => h.ol.1 k e)).setCell (p := ⟨BL, 0, none⟩) h.gL _ }
end
set_option maxRecDepth 100000 in
set_option maxHeartbeats 2000000 in
theorem nshards_calls (s : List UInt8) (w : World) : Calls Tryd.prog 23 #[.string (B s)] w fun e w' => ∃ v0 : Value, e = .returned (.tuple #[v0, .int .i64 (shR s).2]) ∧ Kd.R Kd.string 9 w' w.heap.size (fun _ => True) v0 (shR s).1 ∧ Below w.heap.size w w' := by
  refine (callsIn_wide (n := 5)).1 ?_
  refine callsIn_of_wp_marks Tryd.func23 rfl trivial ?_ rfl
  simp only [Tryd.ntmps23, List.size_toArray, List.length_cons, List.length_nil, Nat.reduceAdd, Nat.reduceSub, Array.replicate_succ, Array.replicate_zero, List.push_toArray, List.append_toArray, List.nil_append, List.cons_append]
  have hF : Fence.wide.fn 42 := trivial
  by_cases hs : 384 < s.length
  case pos =>
    have hs2 : 384 < (B s).size := by rw [B_size]; exact hs
    have hr : shR s = ([], 12) := if_pos hs
    gi_wp2
    refine ⟨_, results_tmp2 rfl _ _ _, _, by rw [hr]; rfl, by rw [hr]; exact Kd.R_nil _ _ _ _ _, Below.refl _ _⟩
  case neg =>
    have hs2 : ¬ 384 < (B s).size := by rw [B_size]; exact hs
    have hsl : s.length ≤ 384 := by omega
    have hr : shR s = ([0, 1, 2, 3, 4, 5].map (partN s), 0) := if_neg hs
    have hcv := fun (W : World) => Lib.run_convert_string_bytes (P := Tryd.prog) W 9 59 5 (B s) Tryd.underlying9 Tryd.underlying59 Tryd.underlying5
    obtain ⟨i0, hi0, hz0, hz1, hz2⟩ := ninfoU
    have hO0 := RowB.bytes (w.alloc (.cells #[.slice none 0 0] 49)) 5 (B s) (by rw [B_size]; unfold maxLen; omega)
    have hb0 := RowB.bytesBelow (w.alloc (.cells #[.slice none 0 0] 49)) 5 (B s)
    rw [B_data, B_size, World.size_alloc] at hO0
    obtain ⟨v1, w1, hrun, hO1, hg1⟩ := run_append_zerosB (P := Tryd.prog) _ (w.heap.size + 1) 59 3 59 5 i0 Tryd.underlying59 Tryd.underlying3 hi0 hz0 hz1 hz2 (w.heap.size + 1) _ s hO0 .i64 (384 - s.length) (by omega) (by rw [Lib.bytesWorld_size, World.size_alloc]; exact Nat.le_succ _)
    have hpad : s ++ List.replicate (384 - s.length) 0 = padN s := rfl
    rw [hpad] at hO1
    have hp384 := padN_len s hsl
    obtain ⟨g, cap, rfl, hge, hglt, hcap, hcm⟩ := hO1.ne (by intro e; rw [e] at hp384; cases hp384)
    have hB1 : Below w.heap.size w w1 := ((below_alloc (Below.refl _ w) _).trans (hb0.mono (by rw [World.size_alloc]; exact Nat.le_succ _))).grown hg1 (by rw [Lib.bytesWorld_size, World.size_alloc]; omega) (fun k e => by injection e with e; omega)
    have hL1 : Boxed w1 w.heap.size 49 (.slice none 0 0) := ((Boxed.new w 49 (.slice none 0 0)).kept (ngrown_below hb0 none) (by simp)).kept hg1 (fun e => by injection e with e; omega)
    have hi2 : ((384 - s.length : Nat) : Int) = 384 - ((B s).size : Int) := by rw [B_size]; omega
    rw [hi2, ← B_size s] at hrun
    rw [hp384] at hrun
    gi_wp2_with (first | (gi_at_builtin; refine nwpListIn_append rfl (.tmp 11) (.tmp 14) 59 3 rfl _ _ _ _ rfl rfl hrun ?_) | (gi_at_call 42; refine (chunk_calls g cap _ _).mono ?_; rintro e w' ⟨rfl, rfl⟩))
    have hbb : Below w1.heap.size w1 ((w1.alloc (.cells #[.slice (some ⟨g, 0, none⟩) 384 cap] 59)).alloc (.cells #[.int .i64 64] 3)) := below_alloc (below_alloc (Below.refl _ w1) _) _
    have hx2 := Boxed.new (w1.alloc (.cells #[.slice (some ⟨g, 0, none⟩) 384 cap] 59)) 3 (.int .i64 64)
    rw [World.size_alloc] at hx2
    have G : Sh w.heap.size w1.heap.size (w1.heap.size + 1) g cap s w (.slice none 0 0) [] ((w1.alloc (.cells #[.slice (some ⟨g, 0, none⟩) 384 cap] 59)).alloc (.cells #[.int .i64 64] 3)) :=
      ⟨hL1.kept (ngrown_below hbb none) (by simp), (Boxed.new w1 _ _).alloc _, hx2, (hO1.below hbb).raise (Nat.le_succ _), Kd.R_nil _ _ _ _ _, below2 hB1 hB1.size hbb, Nat.le_refl _⟩
    generalize (w1.alloc (.cells #[.slice (some ⟨g, 0, none⟩) 384 cap] 59)).alloc (.cells #[.int .i64 64] 3) = W0 at G ⊢
    have hn0 : w.heap.size ≤ W0.heap.size := G.bw.size
    refine wpIn_range_stops rfl (by decide) (gf := 60) (lb := #[.pointer (some ⟨w1.heap.size, 0, none⟩), .pointer (some ⟨w1.heap.size + 1, 0, none⟩)]) rfl trivial (enters_of Tryd.func60 (by kernel_rfl) rfl) (encs := fun x : Nat => #[.slice (some ⟨g, 64 * x, none⟩) 64 64]) (fun x _ => x < 6) (fun _ => False) (fun ys => ys = [0, 1, 2, 3, 4, 5]) (fun _ => False) 6 w.heap.size (fun W => W.cell? ⟨w1.heap.size, 0, none⟩ = some (.slice (some ⟨g, 0, none⟩) 384 cap) ∧ W.cell? ⟨w1.heap.size + 1, 0, none⟩ = some (.int .i64 64)) hn0 (fun _ => rfl) ?seq (fun pre W => ∃ v, Sh w.heap.size w1.heap.size (w1.heap.size + 1) g cap s w v (pre.map (partN s)) W) (fun _ _ => False) ?own (fun _ _ _ _ h _ _ => h) ?bx ⟨_, G⟩ (fun pre x a' W => ∃ v, x < 6 ∧ pre.length < 6 ∧ a' = { tmps := #[.string (B s), undef, .slice none 0 0, .int .i64 0, .pointer (some ⟨w.heap.size, 0, none⟩), .slice (some ⟨g, 0, none⟩) 384 cap, .slice (some ⟨g, 64 * x, none⟩) 64 64, .string (B s), .int .i64 ((B s).size : Int), .bool (decide (384 < ((B s).size : Int))), .string (B s), .slice (some ⟨w.heap.size + 1, 0, none⟩) (B s).size (grownCap (w.alloc (.cells #[.slice none 0 0] 49)) (B s).size 0 5), .string (B s), .int .i64 ((B s).size : Int), .int .i64 (384 - ((B s).size : Int)), .slice (some ⟨g, 0, none⟩) 384 cap, .slice (some ⟨g, 0, none⟩) 384 cap, .func (.func 60) #[] #[.pointer (some ⟨w1.heap.size, 0, none⟩), .pointer (some ⟨w1.heap.size + 1, 0, none⟩)], .slice (some ⟨g, 64 * x, none⟩) 64 64, undef, undef, undef, undef, undef, undef], defers := [] } ∧ Sh w.heap.size w1.heap.size (w1.heap.size + 1) g cap s w v (pre.map (partN s)) W) ?ax ?assign ?body ?done (fun _ _ _ _ hf _ _ => hf.elim)
    case seq =>
      intro lq J Jx W hW hJ hJx hBx hY h0
      exact (chunk_in _ (by decide) lq w1.heap.size (w1.heap.size + 1) g cap (by rw [← hp384]; exact hcap) w J Jx hJ hBx hY W (below2 G.bw hn0 hW) h0).mono (fun e W' h => ⟨h.1, h.2.imp id (fun ⟨ys, hf, _⟩ => hf.elim)⟩)
    case own =>
      rintro pre X Y row ⟨v, h⟩ hg hr
      exact ⟨v, h.calm hg (fun r e => ⟨Nat.le_trans hn0 (hr r e).1, (hr r e).2⟩)⟩
    case bx =>
      rintro ys X ⟨v, h⟩
      exact ⟨h.b1.cell, h.b2.cell⟩
    case ax =>
      rintro pre x a' _ X Y row ⟨v, h1, h2, h3, h4⟩ hg hr
      exact ⟨v, h1, h2, h3, h4.calm hg (fun r e => ⟨Nat.le_trans hn0 (hr r e).1, (hr r e).2⟩)⟩
    case assign =>
      rintro lq pre x W K ⟨v, HG⟩ hv hN hK
      gi_wp2
      exact hK _ _ ⟨Nat.le_refl _, fun _ _ _ hk _ => hk⟩ (Below.refl _ _) ⟨v, hv, hN, rfl, HG⟩
    case body =>
      rintro lq pre x a' W ⟨v, hx, hpl, rfl, HG⟩
      have hc := HG.bl.cell
      have hl64 : (((padN s).drop (64 * x)).take 64).length = 64 := by rw [List.length_take, List.length_drop, hp384]; omega
      have hcv2 := run_string_bytes (P := Tryd.prog) W 59 9 5 Tryd.underlying59 Tryd.underlying5 Tryd.underlying9 g (64 * x) 64 (((padN s).drop (64 * x)).take 64) (fun j y hj => by
        have h1 : (padN s)[64 * x + j]? = some y := by
          rw [List.getElem?_take] at hj
          split at hj
          · rw [List.getElem?_drop] at hj; exact hj
          · cases hj
        exact HG.ro.cells (g := g) rfl _ _ h1)
      rw [hl64] at hcv2
      replace hcv2 : (convert 59 9 (.slice (some ⟨g, 64 * x, none⟩) 64 64)).run Tryd.prog W = .ok (.string (partN s x)) W := hcv2
      clear hcv
      gi_wp2_with (gi_at_builtin; refine nappend_str rfl (.tmp 19) (.tmp 22) 49 9 rfl Tryd.underlying49 ninfoS w.heap.size v (pre.map (partN s)) rfl (partN s x) rfl HG.ol HG.bw.size (by rw [List.length_map]; omega) ?_; intro y1 w5 hR hg5; obtain ⟨A1, n1, c1, rfl⟩ : ∃ A1 n1 c1, y1 = .slice A1 n1 c1 := (by obtain ⟨A1, c1, e⟩ := Kd.R_slice hR; exact ⟨A1, _, c1, e⟩); have hbl5 : Boxed w5 w.heap.size 49 v := nbox_step HG.bl hg5 _ (fun k e => Kd.R_typed HG.ol k e) (by decide); have hc5 := hbl5.cell; have hf5 := hbl5.frozen)
      have hfin := HG.put hR hg5
      have bk : KeepsFrom W0.heap.size W (w5.setCell ⟨w.heap.size, 0, none⟩ (.slice A1 n1 c1)) := (nkeeps_typed hg5 (fun k e => Kd.R_typed HG.ol k e)).trans ((KeepsOthers.setCell w5 ⟨w.heap.size, 0, none⟩ (.slice A1 n1 c1)).from W0.heap.size)
      exact ⟨bk, nbelow_between HG.bw hfin.bw bk.size, .slice A1 n1 c1, hfin⟩
    case done =>
      rintro D ys W hD hS ⟨v, HG⟩ hK
      subst hS
      have hc := HG.bl.cell
      gi_wp2
      refine ⟨by simp, .inl ⟨_, _, rfl, run_takeDeferred hK, ?_⟩⟩
      have hfin := HG.calm (grownBy_putObj' W D (.deferred none)) (fun r e' => by cases e'; exact ⟨Nat.le_trans hn0 hD, _, hK, rfl⟩)
      refine ⟨_, results_tmp2 rfl _ _ _, v, by rw [hr]; rfl, ?_, hfin.bw⟩
      rw [hr]
      exact Kd.R_mono hfin.ol (fun _ _ => trivial)
def needle_Shards.f (a0 : ByteArray) : Option (List ByteArray × Int) := some (shR a0.data.toList)
theorem needle_Shards.calls (a0 : ByteArray) (r1 : List ByteArray) (r2 : Int) (w : World) (h : needle_Shards.f a0 = some (r1, r2)) :
    Calls Tryd.prog 23 #[.string a0] w fun e w' => ∃ v0_ : Value, e = .returned (.tuple #[v0_, .int .i64 r2]) ∧ Kd.R Kd.string 9 w' w.heap.size (fun _ => True) v0_ r1 ∧ Below w.heap.size w w' := by
  have e := Option.some.inj h
  have := nshards_calls a0.data.toList w
  rw [B_eta, e] at this
  exact this
end Go.Proofs.YtpgfafpjfdbjmaaDoor
end
