/- Lemmas for the law CodeFills, merged out of several texts and cut down to what it names, by a program of this session (some of the first ones are of the words that print.sh wrote for this claim). -/
import Derived.Laws.BitsLemmas
import Derived.RangeFuncNested
import Derived.Test.YtlaflbjlgkdacaaProg
import Derived.OrdersIn
import Derived.RangeFuncCalls
import Derived.RangeFuncLeaves
import Derived.Shelf.Abstract
import Derived.OwnWalkIn
import Derived.TacticsInMore
import Derived.LoopNIn
import Derived.LoopIn
import Derived.Test.YtlaflbjlgkdacaaKCodeFills1
import Derived.Test.YtlaflbjlgkdacaaKCodeFills2
set_option linter.unusedVariables false
set_option linter.unusedSimpArgs false
section
namespace Go.Proofs.Ytlaflbjlgkdacaa
open Go.RowKit Q Go.Proofs.YtlaflbjlgkdacaaW.PrintWords Go.Proofs.YtlaflbjlgkdacaaW.PrintLast Go.Proofs.YtlaflbjlgkdacaaW.PrintMore
def SolveEnd (gR : Nat) (P0 : List Nat) (g : Nat) (R : List (List Nat)) (w : World) (e : Ending) (w' : World) : Prop :=
  ∃ gK Q, e = .returned (.slice (some ⟨gK, 0, none⟩) 6 6) ∧ Ptr w' gK Q ∧ Q.length = 6 ∧ (∀ i, i < 6 → RowN w' (Q.getD i 0) (rowAt R i)) ∧ Wf R ∧ w.heap.size ≤ gK ∧ IsTab w' g ∧ Fr gR P0 w w'
set_option maxRecDepth 100000 in
set_option maxHeartbeats 4000000 in
theorem solve_calls (g gR cR : Nat) (P0 : List Nat) (M0 : List (List Nat)) (w : World) (hI : IsTab w g) (hP : Ptr w gR P0) (h6 : P0.length = 6) (hnd : P0.Nodup) (hW : Wf M0) (hR : ∀ i, i < 6 → RowN w (P0.getD i 0) (rowAt M0 i)) (hg : g ≠ gR ∧ g ∉ P0) (hc : 6 ≤ cR) :
    Calls Try.prog 29 #[.pointer (some ⟨g, 0, none⟩), .slice (some ⟨gR, 0, none⟩) 6 cR] w (SolveEnd gR P0 g (solveN M0) w) := by
  have hmk := makeK
  have HI := Aside0.mk hI
  have HP := Aside0.mk hP
  have H6 := Lib.hid h6
  have HD := Aside0.mk hnd
  have HW := Aside0.mk hW
  have HR := Aside0.mk hR
  have HG := Aside0.mk hg
  clear hI hP h6 hnd hW hR hg
  go_enter Try.func29, Try.ntmps29
  go_wp2
  go_step3
  go_wp2
  have G1 := Aside0.mk (Mk.start HI.out)
  generalize (w.alloc (.cells #[.pointer (some ⟨g, 0, none⟩)] 22)).alloc (.cells (cellsK []) 51) = wa at G1 ⊢
  clear hmk
  go_loopw [19] (fun i wr => ∃ (k : Nat) (Q : List Nat), k ≤ 6 ∧ i = .int .i64 k ∧ Aside0 (Q.length = k) ∧ Aside0 (Mk g w.heap.size (w.heap.size + 1) w Q wr)) (fun i _ => 6 - (intOf i).toNat)
  case atStart => exact ⟨0, [], by omega, rfl, ⟨rfl⟩, G1⟩
  case round =>
    clear G1
    obtain ⟨k, Q, hk, rfl, HQ, G1⟩ := hrel
    by_cases hlt : k < 6
    · have hHL := Lib.hid hlt
      have c0 := G1.out.bx.cell
      go_wp2_with (go_at_call 24; refine (row_told g k (by have := hHL.out; omega) _ G1.out.tb).mono ?_; rintro e w1 ⟨b, rfl, hF, hbg, hB⟩; have G2 := Aside0.mk (G1.out.push (by rw [HQ.out]; exact hHL.out) hB (by rw [HQ.out]; exact hF) hbg); have h3 := (G1.out.below hB).hb; have f1 : w1.frozen? ⟨w.heap.size + 1, k, none⟩ = false := Lib.frozen_of_heap h3 k; have c1 : w1.cell? ⟨w.heap.size + 1, k, none⟩ = some (.slice none 0 0) := cellK_at h3 HQ.out hHL.out; clear hF hbg hB h3 c0)
      rw [HQ.out] at G2
      go_roundw
      case rel => exact ⟨k + 1, Q ++ [b], hHL.out, by go_num, ⟨by rw [List.length_append, HQ.out]; rfl⟩, G2⟩
      case measure => simp [intOf]; omega
    · obtain rfl : k = 6 := by omega
      go_wp2
      go_step3
      go_wp2
      have HS0 := Aside0.mk (G1.out.st (gR := gR) HQ.out HP.out H6.out HD.out HW.out HR.out HI.out HG.out)
      clear G1 HP H6 HD HW HR HI
      obtain ⟨s0, hs0⟩ : ∃ s : MM, (M0, unitsN) = s := ⟨_, rfl⟩
      rw [hs0] at HS0
      have HSE := Lib.hid hs0
      clear hs0
      go_loopg [32] 6 (fun g1 s32 wx => ∃ c : Nat, c + g1 = 6 ∧ s32 = .int .i64 c ∧ Aside0 (∃ P Q, St g w.heap.size gR (w.heap.size + 1) P0 w ((List.range c).foldl colN s0) P Q wx))
      case atStart => exact ⟨0, by omega, rfl, ⟨_, _, HS0.out⟩⟩
      case round =>
        clear HS0
        obtain ⟨c, hcg, rfl, HS⟩ := hrel
        obtain ⟨P, Q2, HS⟩ := HS.out
        cases gk with
        | zero =>
          obtain rfl : c = 6 := by omega
          go_wp2
          go_ret
          refine ⟨w.heap.size + 1, Q2, rfl, HS.pK, HS.lQ, fun i hi => ?_, ?_, by omega, HS.tb, HS.fr⟩
          · have h := HS.rK i hi
            rw [← HSE.out] at h
            exact h
          · have h := HS.wK
            rw [← HSE.out] at h
            exact h
        | succ g1 =>
          have hc6 : c < 6 := by omega
          have hc6i : (c : Int) < 6 := by omega
          have HF := Lib.hid (fold_succ s0 c colN)
          generalize (List.range c).foldl colN s0 = s at *
          have HS := Aside0.mk HS
          go_wp2
          go_loopg [9] (6 - c) (fun g2 s9 wy => ∃ r : Nat, r + g2 = 6 ∧ c ≤ r ∧ s9 = .int .i64 r ∧ Aside0 (findP s.1 c (6 - c) c = findP s.1 c g2 r) ∧ wr = wy)
          case atStart => exact ⟨c, by omega, Nat.le_refl _, rfl, ⟨rfl⟩, rfl⟩
          case round =>
            obtain ⟨r, hrg, hcr, rfl, HP, rfl⟩ := hrel
            cases gk with
            | zero =>
              have hr6 : ¬ (r : Int) < 6 := by omega
              have HN := Lib.hid (colN_none (s := s) (c := c) HP.out)
              go_wp2
              go_roundg g1
              case measure => omega
              case rel => exact ⟨c + 1, by omega, by first | rfl | simp, ⟨P, Q2, by rw [HF.out, HN.out]; exact HS.out⟩⟩
            | succ g2 =>
              have hr6 : (r : Int) < 6 := by omega
              have hr6' : r < 6 := by omega
              obtain ⟨pr, hpr⟩ : ∃ p, P.getD r 0 = p := ⟨_, rfl⟩
              have cRr := HS.out.cR hr6' hpr
              have e0 := HS.out.eR hr6' hc6 hpr
              by_cases hz : elem s.1 r c = 0
              · have HZ := Lib.hid hz
                have hz2 : ((elem s.1 r c : Nat) : Int) = 0 := by omega
                rw [hz2] at e0
                have hpr := Lib.hid hpr
                clear hz hz2
                go_wp2
                go_roundg g2
                case measure => omega
                case rel => exact ⟨r + 1, by omega, by omega, by first | rfl | simp, ⟨by rw [HP.out, findP_next HZ.out]⟩, rfl⟩
              · have HZ := Lib.hid hz
                have HN := Lib.hid (colN_some (s := s) (c := c) (r := r) (by rw [HP.out, findP_hit hz]))
                have hz2 : (((elem s.1 r c : Nat) : Int) == 0) = false := by rw [beq_eq_false_iff_ne]; omega
                generalize elem s.1 r c = ez at e0 hz2
                obtain ⟨pc, hpc⟩ : ∃ p, P.getD c 0 = p := ⟨_, rfl⟩
                obtain ⟨qc, hqc⟩ : ∃ p, Q2.getD c 0 = p := ⟨_, rfl⟩
                obtain ⟨qr, hqr⟩ : ∃ p, Q2.getD r 0 = p := ⟨_, rfl⟩
                have cRc := HS.out.cR hc6 hpc
                have cKc := HS.out.cK hc6 hqc
                have cKr := HS.out.cK hr6' hqr
                have HSW := fun (wd : World) (hd : St g w.heap.size gR (w.heap.size + 1) P0 w s P Q2 wd) => hd.swap hr6' hc6
                rw [hpr, hpc, hqr, hqc] at HSW
                have HSW := Aside0.mk HSW
                have hpr := Lib.hid hpr
                have hpc := Lib.hid hpc
                have hqc := Lib.hid hqc
                have hqr := Lib.hid hqr
                clear hz
                go_wp2
                refine start_ (n := 32) (S := fun w' => w'.cell? ⟨gR, c, none⟩ = some (.slice (some ⟨pc, 0, none⟩) 6 6) ∧ w'.cell? ⟨gR, r, none⟩ = some (.slice (some ⟨pr, 0, none⟩) 6 6) ∧ w'.cell? ⟨w.heap.size + 1, c, none⟩ = some (.slice (some ⟨qc, 0, none⟩) 6 6) ∧ w'.cell? ⟨w.heap.size + 1, r, none⟩ = some (.slice (some ⟨qr, 0, none⟩) 6 6) ∧ Aside0 (St g w.heap.size gR (w.heap.size + 1) P0 w s P Q2 w')) (ds := [25, 27, 29, 31]) #[false, false, false, false, false, false, false, false, false, false, false, false, false, false, false, false, false, false, false, false, false, false, false, false, false, false, false, false, false, false, false, false] (by kernel_rfl) rfl rfl ⟨cRc, cRr, cKc, cKr, ⟨HS.out.below (Below.drew (Below.refl _ _))⟩⟩ (fun hHeld => ?_)
                refine pure_ (i := 0) (N := some 50) (v := ?_) (a' := ?_) #[true, false, false, false, false, false, false, false, false, false, false, false, false, false, false, false, false, false, false, false, false, false, false, false, false, false, false, false, false, false, false, false] rfl rfl (by kernel_rfl) (fun _ _ _ h => h) (Or.inl ⟨by rfl, ?_⟩) ?_ ?_
                rotate_left
                · intro w'
                  go_simp
                  with_reducible rfl
                rotate_left
                · simp only [Act.put, List.setIfInBounds_toArray, List.set_cons_zero, List.set_cons_succ]
                  rfl
                refine pure_ (i := 1) (N := some 51) (v := ?_) (a' := ?_) #[true, true, false, false, false, false, false, false, false, false, false, false, false, false, false, false, false, false, false, false, false, false, false, false, false, false, false, false, false, false, false, false] rfl rfl (by kernel_rfl) (fun _ _ _ h => h) (Or.inl ⟨by rfl, ?_⟩) ?_ ?_
                rotate_left
                · intro w'
                  go_simp
                  with_reducible rfl
                rotate_left
                · simp only [Act.put, List.setIfInBounds_toArray, List.set_cons_zero, List.set_cons_succ]
                  rfl
                refine pure_ (i := 2) (N := some 52) (v := ?_) (a' := ?_) #[true, true, true, false, false, false, false, false, false, false, false, false, false, false, false, false, false, false, false, false, false, false, false, false, false, false, false, false, false, false, false, false] rfl rfl (by kernel_rfl) (fun _ _ _ h => h) (Or.inl ⟨by rfl, ?_⟩) ?_ ?_
                rotate_left
                · intro w'
                  go_simp
                  with_reducible rfl
                rotate_left
                · simp only [Act.put, List.setIfInBounds_toArray, List.set_cons_zero, List.set_cons_succ]
                  rfl
                refine pure_ (i := 3) (N := some 53) (v := ?_) (a' := ?_) #[true, true, true, true, false, false, false, false, false, false, false, false, false, false, false, false, false, false, false, false, false, false, false, false, false, false, false, false, false, false, false, false] rfl rfl (by kernel_rfl) (fun _ _ _ h => h) (Or.inl ⟨by rfl, ?_⟩) ?_ ?_
                rotate_left
                · intro w'
                  go_simp
                  with_reducible rfl
                rotate_left
                · simp only [Act.put, List.setIfInBounds_toArray, List.set_cons_zero, List.set_cons_succ]
                  rfl
                refine pure_ (i := 4) (N := some 54) (v := ?_) (a' := ?_) #[true, true, true, true, true, false, false, false, false, false, false, false, false, false, false, false, false, false, false, false, false, false, false, false, false, false, false, false, false, false, false, false] rfl rfl (by kernel_rfl) (fun _ _ _ h => h) (Or.inl ⟨by rfl, ?_⟩) ?_ ?_
                rotate_left
                · intro w'
                  go_simp
                  with_reducible rfl
                rotate_left
                · simp only [Act.put, List.setIfInBounds_toArray, List.set_cons_zero, List.set_cons_succ]
                  rfl
                refine pure_ (i := 5) (N := some 55) (v := ?_) (a' := ?_) #[true, true, true, true, true, true, false, false, false, false, false, false, false, false, false, false, false, false, false, false, false, false, false, false, false, false, false, false, false, false, false, false] rfl rfl (by kernel_rfl) (fun _ _ _ h => h) (Or.inl ⟨by rfl, ?_⟩) ?_ ?_
                rotate_left
                · intro w'
                  go_simp
                  with_reducible rfl
                rotate_left
                · simp only [Act.put, List.setIfInBounds_toArray, List.set_cons_zero, List.set_cons_succ]
                  rfl
                refine pure_ (i := 6) (N := some 56) (v := ?_) (a' := ?_) #[true, true, true, true, true, true, true, false, false, false, false, false, false, false, false, false, false, false, false, false, false, false, false, false, false, false, false, false, false, false, false, false] rfl rfl (by kernel_rfl) (fun _ _ _ h => h) (Or.inl ⟨by rfl, ?_⟩) ?_ ?_
                rotate_left
                · intro w'
                  go_simp
                  with_reducible rfl
                rotate_left
                · simp only [Act.put, List.setIfInBounds_toArray, List.set_cons_zero, List.set_cons_succ]
                  rfl
                refine pure_ (i := 7) (N := some 57) (v := ?_) (a' := ?_) #[true, true, true, true, true, true, true, true, false, false, false, false, false, false, false, false, false, false, false, false, false, false, false, false, false, false, false, false, false, false, false, false] rfl rfl (by kernel_rfl) (fun _ _ _ h => h) (Or.inl ⟨by rfl, ?_⟩) ?_ ?_
                rotate_left
                · intro w'
                  go_simp
                  with_reducible rfl
                rotate_left
                · simp only [Act.put, List.setIfInBounds_toArray, List.set_cons_zero, List.set_cons_succ]
                  rfl
                refine pure_ (i := 8) (N := some 58) (v := ?_) (a' := ?_) #[true, true, true, true, true, true, true, true, true, false, false, false, false, false, false, false, false, false, false, false, false, false, false, false, false, false, false, false, false, false, false, false] rfl rfl (by kernel_rfl) (fun _ _ _ h => h) (Or.inl ⟨by rfl, ?_⟩) ?_ ?_
                rotate_left
                · intro w'
                  go_simp
                  with_reducible rfl
                rotate_left
                · simp only [Act.put, List.setIfInBounds_toArray, List.set_cons_zero, List.set_cons_succ]
                  rfl
                refine pure_ (i := 9) (N := some 59) (v := ?_) (a' := ?_) #[true, true, true, true, true, true, true, true, true, true, false, false, false, false, false, false, false, false, false, false, false, false, false, false, false, false, false, false, false, false, false, false] rfl rfl (by kernel_rfl) (fun _ _ _ h => h) (Or.inl ⟨by rfl, ?_⟩) ?_ ?_
                rotate_left
                · intro w'
                  go_simp
                  with_reducible rfl
                rotate_left
                · simp only [Act.put, List.setIfInBounds_toArray, List.set_cons_zero, List.set_cons_succ]
                  rfl
                refine pure_ (i := 10) (N := some 60) (v := ?_) (a' := ?_) #[true, true, true, true, true, true, true, true, true, true, true, false, false, false, false, false, false, false, false, false, false, false, false, false, false, false, false, false, false, false, false, false] rfl rfl (by kernel_rfl) (fun _ _ _ h => h) (Or.inl ⟨by rfl, ?_⟩) ?_ ?_
                rotate_left
                · intro w'
                  go_simp
                  with_reducible rfl
                rotate_left
                · simp only [Act.put, List.setIfInBounds_toArray, List.set_cons_zero, List.set_cons_succ]
                  rfl
                refine pure_ (i := 12) (N := some 62) (v := ?_) (a' := ?_) #[true, true, true, true, true, true, true, true, true, true, true, false, true, false, false, false, false, false, false, false, false, false, false, false, false, false, false, false, false, false, false, false] rfl rfl (by kernel_rfl) (fun _ _ _ h => h) (Or.inl ⟨by rfl, ?_⟩) ?_ ?_
                rotate_left
                · intro w'
                  go_simp
                  with_reducible rfl
                rotate_left
                · simp only [Act.put, List.setIfInBounds_toArray, List.set_cons_zero, List.set_cons_succ]
                  rfl
                refine pure_ (i := 13) (N := some 63) (v := ?_) (a' := ?_) #[true, true, true, true, true, true, true, true, true, true, true, false, true, true, false, false, false, false, false, false, false, false, false, false, false, false, false, false, false, false, false, false] rfl rfl (by kernel_rfl) (fun _ _ _ h => h) (Or.inl ⟨by rfl, ?_⟩) ?_ ?_
                rotate_left
                · intro w'
                  go_simp
                  with_reducible rfl
                rotate_left
                · simp only [Act.put, List.setIfInBounds_toArray, List.set_cons_zero, List.set_cons_succ]
                  rfl
                refine pure_ (i := 14) (N := some 64) (v := ?_) (a' := ?_) #[true, true, true, true, true, true, true, true, true, true, true, false, true, true, true, false, false, false, false, false, false, false, false, false, false, false, false, false, false, false, false, false] rfl rfl (by kernel_rfl) (fun _ _ _ h => h) (Or.inl ⟨by rfl, ?_⟩) ?_ ?_
                rotate_left
                · intro w'
                  go_simp
                  with_reducible rfl
                rotate_left
                · simp only [Act.put, List.setIfInBounds_toArray, List.set_cons_zero, List.set_cons_succ]
                  rfl
                refine pure_ (i := 16) (N := some 66) (v := ?_) (a' := ?_) #[true, true, true, true, true, true, true, true, true, true, true, false, true, true, true, false, true, false, false, false, false, false, false, false, false, false, false, false, false, false, false, false] rfl rfl (by kernel_rfl) (fun _ _ _ h => h) (Or.inl ⟨by rfl, ?_⟩) ?_ ?_
                rotate_left
                · intro w'
                  go_simp
                  with_reducible rfl
                rotate_left
                · simp only [Act.put, List.setIfInBounds_toArray, List.set_cons_zero, List.set_cons_succ]
                  rfl
                refine pure_ (i := 17) (N := some 67) (v := ?_) (a' := ?_) #[true, true, true, true, true, true, true, true, true, true, true, false, true, true, true, false, true, true, false, false, false, false, false, false, false, false, false, false, false, false, false, false] rfl rfl (by kernel_rfl) (fun _ _ _ h => h) (Or.inl ⟨by rfl, ?_⟩) ?_ ?_
                rotate_left
                · intro w'
                  go_simp
                  with_reducible rfl
                rotate_left
                · simp only [Act.put, List.setIfInBounds_toArray, List.set_cons_zero, List.set_cons_succ]
                  rfl
                refine pure_ (i := 18) (N := some 68) (v := ?_) (a' := ?_) #[true, true, true, true, true, true, true, true, true, true, true, false, true, true, true, false, true, true, true, false, false, false, false, false, false, false, false, false, false, false, false, false] rfl rfl (by kernel_rfl) (fun _ _ _ h => h) (Or.inl ⟨by rfl, ?_⟩) ?_ ?_
                rotate_left
                · intro w'
                  go_simp
                  with_reducible rfl
                rotate_left
                · simp only [Act.put, List.setIfInBounds_toArray, List.set_cons_zero, List.set_cons_succ]
                  rfl
                refine pure_ (i := 20) (N := some 70) (v := ?_) (a' := ?_) #[true, true, true, true, true, true, true, true, true, true, true, false, true, true, true, false, true, true, true, false, true, false, false, false, false, false, false, false, false, false, false, false] rfl rfl (by kernel_rfl) (fun _ _ _ h => h) (Or.inl ⟨by rfl, ?_⟩) ?_ ?_
                rotate_left
                · intro w'
                  go_simp
                  with_reducible rfl
                rotate_left
                · simp only [Act.put, List.setIfInBounds_toArray, List.set_cons_zero, List.set_cons_succ]
                  rfl
                refine pure_ (i := 21) (N := some 71) (v := ?_) (a' := ?_) #[true, true, true, true, true, true, true, true, true, true, true, false, true, true, true, false, true, true, true, false, true, true, false, false, false, false, false, false, false, false, false, false] rfl rfl (by kernel_rfl) (fun _ _ _ h => h) (Or.inl ⟨by rfl, ?_⟩) ?_ ?_
                rotate_left
                · intro w'
                  go_simp
                  with_reducible rfl
                rotate_left
                · simp only [Act.put, List.setIfInBounds_toArray, List.set_cons_zero, List.set_cons_succ]
                  rfl
                refine pure_ (i := 22) (N := some 72) (v := ?_) (a' := ?_) #[true, true, true, true, true, true, true, true, true, true, true, false, true, true, true, false, true, true, true, false, true, true, true, false, false, false, false, false, false, false, false, false] rfl rfl (by kernel_rfl) (fun _ _ _ h => h) (Or.inl ⟨by rfl, ?_⟩) ?_ ?_
                rotate_left
                · intro w'
                  go_simp
                  with_reducible rfl
                rotate_left
                · simp only [Act.put, List.setIfInBounds_toArray, List.set_cons_zero, List.set_cons_succ]
                  rfl
                refine take_ (i := 11) (N := some 61) (v := ?_) (a' := ?_) #[true, true, true, true, true, true, true, true, true, true, true, true, true, true, true, false, true, true, true, false, true, true, true, false, false, false, false, false, false, false, false, false] rfl rfl (by kernel_rfl) (fun _ _ _ h => h) (Or.inl ⟨by rfl, ?_⟩) hHeld ?_ ?_
                rotate_left
                · rintro w' ⟨s0, s1, s2, s3, s4⟩
                  go_simp
                  with_reducible rfl
                rotate_left
                · simp only [Act.put, List.setIfInBounds_toArray, List.set_cons_zero, List.set_cons_succ]
                  rfl
                refine take_ (i := 15) (N := some 65) (v := ?_) (a' := ?_) #[true, true, true, true, true, true, true, true, true, true, true, true, true, true, true, true, true, true, true, false, true, true, true, false, false, false, false, false, false, false, false, false] rfl rfl (by kernel_rfl) (fun _ _ _ h => h) (Or.inl ⟨by rfl, ?_⟩) hHeld ?_ ?_
                rotate_left
                · rintro w' ⟨s0, s1, s2, s3, s4⟩
                  go_simp
                  with_reducible rfl
                rotate_left
                · simp only [Act.put, List.setIfInBounds_toArray, List.set_cons_zero, List.set_cons_succ]
                  rfl
                refine take_ (i := 19) (N := some 69) (v := ?_) (a' := ?_) #[true, true, true, true, true, true, true, true, true, true, true, true, true, true, true, true, true, true, true, true, true, true, true, false, false, false, false, false, false, false, false, false] rfl rfl (by kernel_rfl) (fun _ _ _ h => h) (Or.inl ⟨by rfl, ?_⟩) hHeld ?_ ?_
                rotate_left
                · rintro w' ⟨s0, s1, s2, s3, s4⟩
                  go_simp
                  with_reducible rfl
                rotate_left
                · simp only [Act.put, List.setIfInBounds_toArray, List.set_cons_zero, List.set_cons_succ]
                  rfl
                refine take_ (i := 23) (N := some 73) (v := ?_) (a' := ?_) #[true, true, true, true, true, true, true, true, true, true, true, true, true, true, true, true, true, true, true, true, true, true, true, true, false, false, false, false, false, false, false, false] rfl rfl (by kernel_rfl) (fun _ _ _ h => h) (Or.inl ⟨by rfl, ?_⟩) hHeld ?_ ?_
                rotate_left
                · rintro w' ⟨s0, s1, s2, s3, s4⟩
                  go_simp
                  with_reducible rfl
                rotate_left
                · simp only [Act.put, List.setIfInBounds_toArray, List.set_cons_zero, List.set_cons_succ]
                  rfl
                refine pure_ (i := 24) (N := some 74) (v := ?_) (a' := ?_) #[true, true, true, true, true, true, true, true, true, true, true, true, true, true, true, true, true, true, true, true, true, true, true, true, true, false, false, false, false, false, false, false] rfl rfl (by kernel_rfl) (fun _ _ _ h => h) (Or.inl ⟨by rfl, ?_⟩) ?_ ?_
                rotate_left
                · intro w'
                  go_simp
                  with_reducible rfl
                rotate_left
                · simp only [Act.put, List.setIfInBounds_toArray, List.set_cons_zero, List.set_cons_succ]
                  rfl
                refine last_ (i := 25) (N := none) #[true, true, true, true, true, true, true, true, true, true, true, true, true, true, true, true, true, true, true, true, true, true, true, true, true, true, false, false, false, false, false, false] rfl rfl (by kernel_rfl) (by decide) (fun K hK => ?_)
                refine skip_ (by rfl) rfl (stp_run _ (.tmp 74) (.tmp 61) hHeld.2.2.2.2.out.pR (k := r) (by rw [hHeld.2.2.2.2.out.lP]; omega) rfl rfl rfl) ?_
                refine hK.out _ _ ?_
                clear hK K
                refine pure_ (i := 26) (N := some 75) (v := ?_) (a' := ?_) #[true, true, true, true, true, true, true, true, true, true, true, true, true, true, true, true, true, true, true, true, true, true, true, true, true, true, true, false, false, false, false, false] rfl rfl (by kernel_rfl) (fun _ _ _ h => h) (Or.inl ⟨by rfl, ?_⟩) ?_ ?_
                rotate_left
                · intro w'
                  go_simp
                  with_reducible rfl
                rotate_left
                · simp only [Act.put, List.setIfInBounds_toArray, List.set_cons_zero, List.set_cons_succ]
                  rfl
                refine last_ (i := 27) (N := none) #[true, true, true, true, true, true, true, true, true, true, true, true, true, true, true, true, true, true, true, true, true, true, true, true, true, true, true, true, false, false, false, false] rfl rfl (by kernel_rfl) (by decide) (fun K hK => ?_)
                refine skip_ (by rfl) rfl (stp_run _ (.tmp 75) (.tmp 65) (hHeld.2.2.2.2.out.pR.set r pc (by rw [hHeld.2.2.2.2.out.lP]; omega)) (k := c) (by rw [List.length_set, hHeld.2.2.2.2.out.lP]; omega) rfl rfl rfl) ?_
                refine hK.out _ _ ?_
                clear hK K
                refine pure_ (i := 28) (N := some 76) (v := ?_) (a' := ?_) #[true, true, true, true, true, true, true, true, true, true, true, true, true, true, true, true, true, true, true, true, true, true, true, true, true, true, true, true, true, false, false, false] rfl rfl (by kernel_rfl) (fun _ _ _ h => h) (Or.inl ⟨by rfl, ?_⟩) ?_ ?_
                rotate_left
                · intro w'
                  go_simp
                  with_reducible rfl
                rotate_left
                · simp only [Act.put, List.setIfInBounds_toArray, List.set_cons_zero, List.set_cons_succ]
                  rfl
                refine last_ (i := 29) (N := none) #[true, true, true, true, true, true, true, true, true, true, true, true, true, true, true, true, true, true, true, true, true, true, true, true, true, true, true, true, true, true, false, false] rfl rfl (by kernel_rfl) (by decide) (fun K hK => ?_)
                refine skip_ (by rfl) rfl (stp_run _ (.tmp 76) (.tmp 69) (st_far2 hHeld.2.2.2.2.out pc pr r c) (k := r) (by rw [hHeld.2.2.2.2.out.lQ]; omega) rfl rfl rfl) ?_
                refine hK.out _ _ ?_
                clear hK K
                refine pure_ (i := 30) (N := some 77) (v := ?_) (a' := ?_) #[true, true, true, true, true, true, true, true, true, true, true, true, true, true, true, true, true, true, true, true, true, true, true, true, true, true, true, true, true, true, true, false] rfl rfl (by kernel_rfl) (fun _ _ _ h => h) (Or.inl ⟨by rfl, ?_⟩) ?_ ?_
                rotate_left
                · intro w'
                  go_simp
                  with_reducible rfl
                rotate_left
                · simp only [Act.put, List.setIfInBounds_toArray, List.set_cons_zero, List.set_cons_succ]
                  rfl
                refine last_ (i := 31) (N := none) #[true, true, true, true, true, true, true, true, true, true, true, true, true, true, true, true, true, true, true, true, true, true, true, true, true, true, true, true, true, true, true, true] rfl rfl (by kernel_rfl) (by decide) (fun K hK => ?_)
                refine skip_ (by rfl) rfl (stp_run _ (.tmp 77) (.tmp 73) ((st_far2 hHeld.2.2.2.2.out pc pr r c).set r qc (by rw [hHeld.2.2.2.2.out.lQ]; omega)) (k := c) (by rw [List.length_set, hHeld.2.2.2.2.out.lQ]; omega) rfl rfl rfl) ?_
                refine hK.out _ _ ?_
                clear hK K
                refine done_ (by kernel_rfl) ?_
                have HS2 := Aside0.mk (HSW.out _ hHeld.2.2.2.2.out)
                have he2 : elem (swp s.1 r c) c c = elem s.1 r c := by unfold elem; rw [rowAt_swp _ _ _ _ (by rw [HS.out.wR.1]; exact hr6') (by rw [HS.out.wR.1]; exact hc6), if_pos rfl]
                have hx0 : Hid (¬ elem (swp s.1 r c) c c = 0) := Lib.hid (by rw [he2]; exact HZ.out)
                clear hHeld HSW cRc cRr cKc cKr he2 e0 hz2 hpr hpc hqc hqr HP
                generalize (((wr.drew.setCell ⟨gR, r, none⟩ (sl pc)).setCell ⟨gR, c, none⟩ (sl pr)).setCell ⟨w.heap.size + 1, r, none⟩ (sl qc)).setCell ⟨w.heap.size + 1, c, none⟩ (sl qr) = wn at HS2 ⊢
                obtain ⟨s2, hs2⟩ : ∃ x : MM, (swp s.1 r c, swp s.2 r c) = x := ⟨_, rfl⟩
                obtain ⟨P2, hP2⟩ : ∃ x, swpP P r c = x := ⟨_, rfl⟩
                obtain ⟨Q3, hQ3⟩ : ∃ x, swpP Q2 r c = x := ⟨_, rfl⟩
                rw [hs2, hP2, hQ3] at HS2
                rw [show elem (swp s.1 r c) c c = elem s2.1 c c by rw [← hs2]] at hx0
                have hs2 := Lib.hid hs2
                clear hP2 hQ3 HS
                obtain ⟨pc2, hpc2⟩ : ∃ p, P2.getD c 0 = p := ⟨_, rfl⟩
                obtain ⟨qc2, hqc2⟩ : ∃ p, Q3.getD c 0 = p := ⟨_, rfl⟩
                have cRc := HS2.out.cR hc6 hpc2
                have e0 := HS2.out.eR hc6 hc6 hpc2
                have c0 := HS2.out.bx.cell
                have l0 := HS2.out.bx.lt
                have l1 := HS2.out.pR.lt
                have l2 := (HS2.out.rowR hc6 hpc2).lt
                have hx255 := elem_le HS2.out.wR hc6 hc6
                have hpc2 := Lib.hid hpc2
                have hqc2 := Lib.hid hqc2
                obtain ⟨x0, hx⟩ : ∃ x, elem s2.1 c c = x := ⟨_, rfl⟩
                rw [hx] at e0 hx0 hx255
                have hx := Lib.hid hx
                have i0 : (0 : Int) ≤ (c : Int) := by omega
                go_wp2
                refine region_below_tail 13 (by kernel_rfl) (by kernel_rfl) ?_
                simp only [List.take_succ_cons, List.take_zero, List.drop_succ_cons, List.drop_zero]
                repeat (first | go_big_quiet_step (fail) | (refine BigFrame.wpQuiet_want (by rfl) (fun K hK => ?_); go_big_quiet_op; refine ⟨_, fun _ _ => rfl, hK _ ?_⟩; clear hK K) | (refine q_ld 5 _ _ _ _ rfl rfl rfl rfl (ld_u8 _ _) (by assumption) (by assumption) ?_; simp only [Act.put, List.setIfInBounds_toArray, List.set_cons_zero, List.set_cons_succ]) | (refine q_ld 22 _ _ _ _ rfl rfl rfl rfl (fun w' h => by go_simp) (by assumption) (by assumption) ?_; simp only [Act.put, List.setIfInBounds_toArray, List.set_cons_zero, List.set_cons_succ]) | (refine q_ld 51 _ _ _ _ rfl rfl rfl rfl (fun w' h => by go_simp) (by assumption) (by assumption) ?_; simp only [Act.put, List.setIfInBounds_toArray, List.set_cons_zero, List.set_cons_succ]) | (refine q_go (f := 20) Try.func20 (by kernel_rfl) rfl #[.pointer (some ⟨g, 0, none⟩), .int .u8 1, .int .u8 (x0 : Int)] _ _ rfl rfl rfl (by simp only [List.map_toArray, List.map_cons, List.map_nil]; rfl) (fun w' hw' => over_one g x0 w' (HS2.out.tb.below hw') hx0.out hx255) ?_; simp only [Act.put, List.setIfInBounds_toArray, List.set_cons_zero, List.set_cons_succ]))
                refine wpQuiet_nil ?_
                intro w3 b3
                have HS2 := Aside0.mk (HS2.out.below b3)
                clear cRc e0 c0 l0 l1 l2 b3
                have hox : Go.bits .xor .u8 (ovr 1 x0 : Int) 1 = ((ovr 1 x0 ^^^ 1 : Nat) : Int) := bits_xor8 (ovr 1 x0) 1 (ovr_le _ _) (by omega)
                have ho1 := xor_le255 (ovr_le 1 x0) (show 1 ≤ 255 by omega)
                obtain ⟨o1, ho⟩ : ∃ o, ovr 1 x0 ^^^ 1 = o := ⟨_, rfl⟩
                rw [ho] at hox ho1
                have ho := Lib.hid ho
                have cRc := HS2.out.cR hc6 hpc2.out
                obtain ⟨ov, hov⟩ : ∃ o, ovr 1 x0 = o := ⟨_, rfl⟩
                rw [hov] at hox
                go_wp2
                rw [hov]
                have hov := Lib.hid hov
                refine start_ (n := 13) (S := fun w' => w'.cell? ⟨gR, c, none⟩ = some (.slice (some ⟨pc2, 0, none⟩) 6 6) ∧ Aside0 (St g w.heap.size gR (w.heap.size + 1) P0 w s2 P2 Q3 w')) (ds := [12]) #[false, false, false, false, false, false, false, false, false, false, false, false, false] (by kernel_rfl) rfl rfl ⟨cRc, ⟨HS2.out.below (Below.drew (Below.refl _ _))⟩⟩ (fun hHeld => ?_)
                refine pure_ (i := 0) (N := some 90) (v := ?_) (a' := ?_) #[true, false, false, false, false, false, false, false, false, false, false, false, false] rfl rfl (by kernel_rfl) (fun _ _ _ h => h) (Or.inl ⟨by rfl, ?_⟩) ?_ ?_
                rotate_left
                · intro w'
                  go_simp
                  with_reducible rfl
                rotate_left
                · simp only [Act.put, List.setIfInBounds_toArray, List.set_cons_zero, List.set_cons_succ]
                  rfl
                refine pure_ (i := 1) (N := some 91) (v := ?_) (a' := ?_) #[true, true, false, false, false, false, false, false, false, false, false, false, false] rfl rfl (by kernel_rfl) (fun _ _ _ h => h) (Or.inl ⟨by rfl, ?_⟩) ?_ ?_
                rotate_left
                · intro w'
                  go_simp
                  with_reducible rfl
                rotate_left
                · simp only [Act.put, List.setIfInBounds_toArray, List.set_cons_zero, List.set_cons_succ]
                  rfl
                refine pure_ (i := 2) (N := some 92) (v := ?_) (a' := ?_) #[true, true, true, false, false, false, false, false, false, false, false, false, false] rfl rfl (by kernel_rfl) (fun _ _ _ h => h) (Or.inl ⟨by rfl, ?_⟩) ?_ ?_
                rotate_left
                · intro w'
                  go_simp
                  with_reducible rfl
                rotate_left
                · simp only [Act.put, List.setIfInBounds_toArray, List.set_cons_zero, List.set_cons_succ]
                  rfl
                refine pure_ (i := 3) (N := some 93) (v := ?_) (a' := ?_) #[true, true, true, true, false, false, false, false, false, false, false, false, false] rfl rfl (by kernel_rfl) (fun _ _ _ h => h) (Or.inl ⟨by rfl, ?_⟩) ?_ ?_
                rotate_left
                · intro w'
                  go_simp
                  with_reducible rfl
                rotate_left
                · simp only [Act.put, List.setIfInBounds_toArray, List.set_cons_zero, List.set_cons_succ]
                  rfl
                refine pure_ (i := 5) (N := some 95) (v := ?_) (a' := ?_) #[true, true, true, true, false, true, false, false, false, false, false, false, false] rfl rfl (by kernel_rfl) (fun _ _ _ h => h) (Or.inl ⟨by rfl, ?_⟩) ?_ ?_
                rotate_left
                · intro w'
                  go_simp
                  with_reducible rfl
                rotate_left
                · simp only [Act.put, List.setIfInBounds_toArray, List.set_cons_zero, List.set_cons_succ]
                  rfl
                refine pure_ (i := 6) (N := some 96) (v := ?_) (a' := ?_) #[true, true, true, true, false, true, true, false, false, false, false, false, false] rfl rfl (by kernel_rfl) (fun _ _ _ h => h) (Or.inl ⟨by rfl, ?_⟩) ?_ ?_
                rotate_left
                · intro w'
                  go_simp
                  with_reducible rfl
                rotate_left
                · simp only [Act.put, List.setIfInBounds_toArray, List.set_cons_zero, List.set_cons_succ]
                  rfl
                refine pure_ (i := 7) (N := some 97) (v := ?_) (a' := ?_) #[true, true, true, true, false, true, true, true, false, false, false, false, false] rfl rfl (by kernel_rfl) (fun _ _ _ h => h) (Or.inl ⟨by rfl, ?_⟩) ?_ ?_
                rotate_left
                · intro w'
                  go_simp
                  with_reducible rfl
                rotate_left
                · simp only [Act.put, List.setIfInBounds_toArray, List.set_cons_zero, List.set_cons_succ]
                  rfl
                refine pure_ (i := 10) (N := some 100) (v := ?_) (a' := ?_) #[true, true, true, true, false, true, true, true, false, false, true, false, false] rfl rfl (by kernel_rfl) (fun _ _ _ h => h) (Or.inl ⟨by rfl, ?_⟩) ?_ ?_
                rotate_left
                · intro w'
                  go_simp
                  with_reducible rfl
                rotate_left
                · simp only [Act.put, List.setIfInBounds_toArray, List.set_cons_zero, List.set_cons_succ]
                  rfl
                refine pure_ (i := 11) (N := some 101) (v := ?_) (a' := ?_) #[true, true, true, true, false, true, true, true, false, false, true, true, false] rfl rfl (by kernel_rfl) (fun _ _ _ h => h) (Or.inl ⟨by rfl, ?_⟩) ?_ ?_
                rotate_left
                · intro w'
                  go_simp
                  with_reducible rfl
                rotate_left
                · simp only [Act.put, List.setIfInBounds_toArray, List.set_cons_zero, List.set_cons_succ]
                  rfl
                refine take_ (i := 4) (N := some 94) (v := ?_) (a' := ?_) #[true, true, true, true, true, true, true, true, false, false, true, true, false] rfl rfl (by kernel_rfl) (fun _ _ _ h => h) (Or.inl ⟨by rfl, ?_⟩) hHeld ?_ ?_
                rotate_left
                · rintro w' ⟨s0, s1⟩
                  go_simp
                  with_reducible rfl
                rotate_left
                · simp only [Act.put, List.setIfInBounds_toArray, List.set_cons_zero, List.set_cons_succ]
                  rfl
                refine take_ (i := 8) (N := some 98) (v := ?_) (a' := ?_) #[true, true, true, true, true, true, true, true, true, false, true, true, false] rfl rfl (by kernel_rfl) (fun _ _ _ h => h) (Or.inl ⟨by rfl, ?_⟩) hHeld ?_ ?_
                rotate_left
                · rintro w' ⟨s0, s1⟩
                  go_simp
                  with_reducible rfl
                rotate_left
                · simp only [Act.put, List.setIfInBounds_toArray, List.set_cons_zero, List.set_cons_succ]
                  rfl
                refine one_ (i := 9) (N := some 99) #[true, true, true, true, true, true, true, true, true, true, true, true, false] rfl rfl (by kernel_rfl) (by decide) (fun K hK => ?_)
                refine goes_ Try.func37 (by kernel_rfl) rfl #[.slice (some ⟨pc2, 0, none⟩) 6 6] (by rfl) rfl rfl (by simp only [List.map_toArray, List.map_cons, List.map_nil]; rfl) ?_
                with_reducible refine (clone_calls pc2 (rowAt s2.1 c) _ (hHeld.2.out.rowR hc6 hpc2.out) (hHeld.2.out.wR.row hc6).1 (hHeld.2.out.wR.row hc6).2).mono ?_
                rintro e w3 ⟨gb, cb, rfl, hby, hgb, hcb, hb⟩
                refine ⟨_, rfl, ?_⟩
                have HS3 := hHeld.2.out.below hb
                have hgp : gb ≠ pc2 := by have := (hHeld.2.out.rowR hc6 hpc2.out).lt; omega
                refine hK.out _ _ ⟨(HS3.cR hc6 hpc2.out), ⟨HS3⟩⟩ (fun hHeld => ?_)
                clear hK K
                refine norm_ (a' := ?_) ?_ ?_
                rotate_left
                · show Act.put _ (some 99) _ = _
                  simp only [Act.put, List.setIfInBounds_toArray, List.set_cons_zero, List.set_cons_succ]
                  rfl
                refine last_ (i := 12) (N := some 102) #[true, true, true, true, true, true, true, true, true, true, true, true, true] rfl rfl (by kernel_rfl) (by decide) (fun K hK => ?_)
                refine goesC_ Try.func36 (by kernel_rfl) rfl #[.slice (some ⟨pc2, 0, none⟩) 6 6, .slice (some ⟨gb, 0, none⟩) 6 cb, .int .u8 ((o1 : Nat) : Int)] #[.pointer (some ⟨w.heap.size, 0, none⟩)] #[.slice (some ⟨pc2, 0, none⟩) 6 6, .slice (some ⟨gb, 0, none⟩) 6 cb, .int .u8 ((o1 : Nat) : Int), .pointer (some ⟨w.heap.size, 0, none⟩)] (.tmp 90) (by rfl) rfl rfl rfl (by simp only [List.map_toArray, List.map_cons, List.map_nil]; rfl) rfl ?_
                with_reducible refine (HS3.callR hc6 hpc2.out hby hgp (HS3.wR.row hc6).1 (HS3.wR.row hc6).2 ho1 hcb).mono ?_
                rintro e w4 ⟨rfl, h4⟩
                refine ⟨_, rfl, ?_⟩
                refine hK.out _ _ ?_
                clear hK K
                refine norm_ (a' := ?_) ?_ ?_
                rotate_left
                · show Act.put _ (some 102) _ = _
                  simp only [Act.put, List.setIfInBounds_toArray, List.set_cons_zero, List.set_cons_succ]
                  rfl
                refine done_ (by kernel_rfl) ?_
                have HS3 := Aside0.mk h4
                clear hHeld cRc hby hb h4 hgp hgb hcb
                obtain ⟨s3, hs3⟩ : ∃ x : MM, (upd s2.1 c (rowAt s2.1 c) o1, s2.2) = x := ⟨_, rfl⟩
                rw [hs3] at HS3
                have hs3 := Lib.hid hs3
                have cKc := HS3.out.cK hc6 hqc2.out
                go_wp2
                refine start_ (n := 13) (S := fun w' => w'.cell? ⟨w.heap.size + 1, c, none⟩ = some (.slice (some ⟨qc2, 0, none⟩) 6 6) ∧ Aside0 (St g w.heap.size gR (w.heap.size + 1) P0 w s3 P2 Q3 w')) (ds := [12]) #[false, false, false, false, false, false, false, false, false, false, false, false, false] (by kernel_rfl) rfl rfl ⟨cKc, ⟨HS3.out.below (Below.drew (Below.refl _ _))⟩⟩ (fun hHeld => ?_)
                refine pure_ (i := 0) (N := some 103) (v := ?_) (a' := ?_) #[true, false, false, false, false, false, false, false, false, false, false, false, false] rfl rfl (by kernel_rfl) (fun _ _ _ h => h) (Or.inl ⟨by rfl, ?_⟩) ?_ ?_
                rotate_left
                · intro w'
                  go_simp
                  with_reducible rfl
                rotate_left
                · simp only [Act.put, List.setIfInBounds_toArray, List.set_cons_zero, List.set_cons_succ]
                  rfl
                refine pure_ (i := 1) (N := some 104) (v := ?_) (a' := ?_) #[true, true, false, false, false, false, false, false, false, false, false, false, false] rfl rfl (by kernel_rfl) (fun _ _ _ h => h) (Or.inl ⟨by rfl, ?_⟩) ?_ ?_
                rotate_left
                · intro w'
                  go_simp
                  with_reducible rfl
                rotate_left
                · simp only [Act.put, List.setIfInBounds_toArray, List.set_cons_zero, List.set_cons_succ]
                  rfl
                refine pure_ (i := 2) (N := some 105) (v := ?_) (a' := ?_) #[true, true, true, false, false, false, false, false, false, false, false, false, false] rfl rfl (by kernel_rfl) (fun _ _ _ h => h) (Or.inl ⟨by rfl, ?_⟩) ?_ ?_
                rotate_left
                · intro w'
                  go_simp
                  with_reducible rfl
                rotate_left
                · simp only [Act.put, List.setIfInBounds_toArray, List.set_cons_zero, List.set_cons_succ]
                  rfl
                refine pure_ (i := 3) (N := some 106) (v := ?_) (a' := ?_) #[true, true, true, true, false, false, false, false, false, false, false, false, false] rfl rfl (by kernel_rfl) (fun _ _ _ h => h) (Or.inl ⟨by rfl, ?_⟩) ?_ ?_
                rotate_left
                · intro w'
                  go_simp
                  with_reducible rfl
                rotate_left
                · simp only [Act.put, List.setIfInBounds_toArray, List.set_cons_zero, List.set_cons_succ]
                  rfl
                refine pure_ (i := 5) (N := some 108) (v := ?_) (a' := ?_) #[true, true, true, true, false, true, false, false, false, false, false, false, false] rfl rfl (by kernel_rfl) (fun _ _ _ h => h) (Or.inl ⟨by rfl, ?_⟩) ?_ ?_
                rotate_left
                · intro w'
                  go_simp
                  with_reducible rfl
                rotate_left
                · simp only [Act.put, List.setIfInBounds_toArray, List.set_cons_zero, List.set_cons_succ]
                  rfl
                refine pure_ (i := 6) (N := some 109) (v := ?_) (a' := ?_) #[true, true, true, true, false, true, true, false, false, false, false, false, false] rfl rfl (by kernel_rfl) (fun _ _ _ h => h) (Or.inl ⟨by rfl, ?_⟩) ?_ ?_
                rotate_left
                · intro w'
                  go_simp
                  with_reducible rfl
                rotate_left
                · simp only [Act.put, List.setIfInBounds_toArray, List.set_cons_zero, List.set_cons_succ]
                  rfl
                refine pure_ (i := 7) (N := some 110) (v := ?_) (a' := ?_) #[true, true, true, true, false, true, true, true, false, false, false, false, false] rfl rfl (by kernel_rfl) (fun _ _ _ h => h) (Or.inl ⟨by rfl, ?_⟩) ?_ ?_
                rotate_left
                · intro w'
                  go_simp
                  with_reducible rfl
                rotate_left
                · simp only [Act.put, List.setIfInBounds_toArray, List.set_cons_zero, List.set_cons_succ]
                  rfl
                refine pure_ (i := 10) (N := some 113) (v := ?_) (a' := ?_) #[true, true, true, true, false, true, true, true, false, false, true, false, false] rfl rfl (by kernel_rfl) (fun _ _ _ h => h) (Or.inl ⟨by rfl, ?_⟩) ?_ ?_
                rotate_left
                · intro w'
                  go_simp
                  with_reducible rfl
                rotate_left
                · simp only [Act.put, List.setIfInBounds_toArray, List.set_cons_zero, List.set_cons_succ]
                  rfl
                refine pure_ (i := 11) (N := some 114) (v := ?_) (a' := ?_) #[true, true, true, true, false, true, true, true, false, false, true, true, false] rfl rfl (by kernel_rfl) (fun _ _ _ h => h) (Or.inl ⟨by rfl, ?_⟩) ?_ ?_
                rotate_left
                · intro w'
                  go_simp
                  with_reducible rfl
                rotate_left
                · simp only [Act.put, List.setIfInBounds_toArray, List.set_cons_zero, List.set_cons_succ]
                  rfl
                refine take_ (i := 4) (N := some 107) (v := ?_) (a' := ?_) #[true, true, true, true, true, true, true, true, false, false, true, true, false] rfl rfl (by kernel_rfl) (fun _ _ _ h => h) (Or.inl ⟨by rfl, ?_⟩) hHeld ?_ ?_
                rotate_left
                · rintro w' ⟨s0, s1⟩
                  go_simp
                  with_reducible rfl
                rotate_left
                · simp only [Act.put, List.setIfInBounds_toArray, List.set_cons_zero, List.set_cons_succ]
                  rfl
                refine take_ (i := 8) (N := some 111) (v := ?_) (a' := ?_) #[true, true, true, true, true, true, true, true, true, false, true, true, false] rfl rfl (by kernel_rfl) (fun _ _ _ h => h) (Or.inl ⟨by rfl, ?_⟩) hHeld ?_ ?_
                rotate_left
                · rintro w' ⟨s0, s1⟩
                  go_simp
                  with_reducible rfl
                rotate_left
                · simp only [Act.put, List.setIfInBounds_toArray, List.set_cons_zero, List.set_cons_succ]
                  rfl
                refine one_ (i := 9) (N := some 112) #[true, true, true, true, true, true, true, true, true, true, true, true, false] rfl rfl (by kernel_rfl) (by decide) (fun K hK => ?_)
                refine goes_ Try.func37 (by kernel_rfl) rfl #[.slice (some ⟨qc2, 0, none⟩) 6 6] (by rfl) rfl rfl (by simp only [List.map_toArray, List.map_cons, List.map_nil]; rfl) ?_
                with_reducible refine (clone_calls qc2 (rowAt s3.2 c) _ (hHeld.2.out.rowK hc6 hqc2.out) (hHeld.2.out.wK.row hc6).1 (hHeld.2.out.wK.row hc6).2).mono ?_
                rintro e w3 ⟨gb, cb, rfl, hby, hgb, hcb, hb⟩
                refine ⟨_, rfl, ?_⟩
                have HSy := hHeld.2.out.below hb
                have hgp : gb ≠ qc2 := by have := (hHeld.2.out.rowK hc6 hqc2.out).lt; omega
                refine hK.out _ _ ⟨(HSy.cK hc6 hqc2.out), ⟨HSy⟩⟩ (fun hHeld => ?_)
                clear hK K
                refine norm_ (a' := ?_) ?_ ?_
                rotate_left
                · show Act.put _ (some 112) _ = _
                  simp only [Act.put, List.setIfInBounds_toArray, List.set_cons_zero, List.set_cons_succ]
                  rfl
                refine last_ (i := 12) (N := some 115) #[true, true, true, true, true, true, true, true, true, true, true, true, true] rfl rfl (by kernel_rfl) (by decide) (fun K hK => ?_)
                refine goesC_ Try.func36 (by kernel_rfl) rfl #[.slice (some ⟨qc2, 0, none⟩) 6 6, .slice (some ⟨gb, 0, none⟩) 6 cb, .int .u8 ((o1 : Nat) : Int)] #[.pointer (some ⟨w.heap.size, 0, none⟩)] #[.slice (some ⟨qc2, 0, none⟩) 6 6, .slice (some ⟨gb, 0, none⟩) 6 cb, .int .u8 ((o1 : Nat) : Int), .pointer (some ⟨w.heap.size, 0, none⟩)] (.tmp 103) (by rfl) rfl rfl rfl (by simp only [List.map_toArray, List.map_cons, List.map_nil]; rfl) rfl ?_
                with_reducible refine (HSy.callK hc6 hqc2.out hby hgp (HSy.wK.row hc6).1 (HSy.wK.row hc6).2 ho1 hcb).mono ?_
                rintro e w4 ⟨rfl, h4⟩
                refine ⟨_, rfl, ?_⟩
                refine hK.out _ _ ?_
                clear hK K
                refine norm_ (a' := ?_) ?_ ?_
                rotate_left
                · show Act.put _ (some 115) _ = _
                  simp only [Act.put, List.setIfInBounds_toArray, List.set_cons_zero, List.set_cons_succ]
                  rfl
                refine done_ (by kernel_rfl) ?_
                have HS4 := Aside0.mk h4
                clear hHeld cKc hby hb h4 hgp hgb hcb hox
                have hs4 : Hid ((s3.1, upd s3.2 c (rowAt s3.2 c) o1) = norm c s2) := Lib.hid (by unfold norm; rw [hx.out, ho.out, ← hs3.out])
                rw [hs4.out] at HS4
                obtain ⟨s4, hs5⟩ : ∃ x : MM, norm c s2 = x := ⟨_, rfl⟩
                rw [hs5] at HS4
                have hs5 := Lib.hid hs5
                go_wp2
                go_loopw [118] (fun i wz => ∃ k : Nat, k ≤ 6 ∧ i = .int .i64 k ∧ Aside0 (St g w.heap.size gR (w.heap.size + 1) P0 w ((List.range k).foldl (clear1 c) s4) P2 Q3 wz)) (fun i _ => 6 - (intOf i).toNat)
                case atStart => exact ⟨0, by omega, rfl, HS4⟩
                case round =>
                  clear HS4
                  obtain ⟨k, hk, rfl, HS4⟩ := hrel
                  have HF2 := Lib.hid (fold_succ s4 k (clear1 c))
                  by_cases hk6 : k < 6
                  · obtain ⟨sk, hsk⟩ : ∃ x : MM, (List.range k).foldl (clear1 c) s4 = x := ⟨_, rfl⟩
                    rw [hsk] at HS4 HF2
                    clear hsk
                    obtain ⟨pk, hpk⟩ : ∃ p, P2.getD k 0 = p := ⟨_, rfl⟩
                    have cRk := HS4.out.cR hk6 hpk
                    have e0 := HS4.out.eR hk6 hc6 hpk
                    have hex := elem_le HS4.out.wR hk6 hc6
                    obtain ⟨ex, hex2⟩ : ∃ x, elem sk.1 k c = x := ⟨_, rfl⟩
                    rw [hex2] at e0 hex
                    have hex2 := Lib.hid hex2
                    have hk6i : (k : Int) < 6 := by omega
                    by_cases hkc : k = c
                    · have t1 : ((k : Int) != (c : Int)) = false := by rw [hkc]; simp
                      have hcl : Hid (clear1 c sk k = sk) := Lib.hid (by unfold clear1; rw [if_neg (fun h => h.1 hkc)])
                      have hpk := Lib.hid hpk
                      clear hkc
                      go_wp2
                      go_roundw
                      case rel => exact ⟨k + 1, hk6, by go_num, ⟨by rw [HF2.out, hcl.out]; exact HS4.out⟩⟩
                      case measure => simp [intOf]; omega
                    · have t1 : ((k : Int) != (c : Int)) = true := by rw [bne_iff_ne]; omega
                      by_cases hx2 : ex = 0
                      · have hcl : Hid (clear1 c sk k = sk) := Lib.hid (by unfold clear1; rw [if_neg (fun h => h.2 (by rw [hex2.out]; exact hx2))])
                        have t2 : ((ex : Int) != 0) = false := by rw [hx2]; rfl
                        have hpk := Lib.hid hpk
                        have hkc := Lib.hid hkc
                        have hx2 := Lib.hid hx2
                        go_wp2
                        go_roundw
                        case rel => exact ⟨k + 1, hk6, by go_num, ⟨by rw [HF2.out, hcl.out]; exact HS4.out⟩⟩
                        case measure => simp [intOf]; omega
                      · have hcl : Hid (clear1 c sk k = (upd sk.1 k (rowAt sk.1 c) ex, upd sk.2 k (rowAt sk.2 c) ex)) := Lib.hid (by unfold clear1; rw [if_pos ⟨hkc, by rw [hex2.out]; exact hx2⟩, hex2.out])
                        have t2 : ((ex : Int) != 0) = true := by rw [bne_iff_ne]; omega
                        obtain ⟨qk, hqk⟩ : ∃ p, Q3.getD k 0 = p := ⟨_, rfl⟩
                        have cRc := HS4.out.cR hc6 hpc2.out
                        have l1 := HS4.out.pR.lt
                        have hne1 : pc2 ≠ pk := by rw [← hpc2.out, ← hpk]; exact HS4.out.neR hc6 hk6 (fun e => hkc e.symm)
                        have hne2 : qc2 ≠ qk := by rw [← hqc2.out, ← hqk]; exact HS4.out.neK hc6 hk6 (fun e => hkc e.symm)
                        have hne1 := Lib.hid hne1
                        have hne2 := Lib.hid hne2
                        have hpk := Lib.hid hpk
                        have hqk := Lib.hid hqk
                        have hkc := Lib.hid hkc
                        have hx2 := Lib.hid hx2
                        have i0 : (0 : Int) ≤ (c : Int) := by omega
                        have i1 : (0 : Int) ≤ (k : Int) := by omega
                        go_wp2
                        refine region_below_tail 10 (by kernel_rfl) (by kernel_rfl) ?_
                        simp only [List.take_succ_cons, List.take_zero, List.drop_succ_cons, List.drop_zero]
                        repeat (first | go_big_quiet_step (fail) | (refine BigFrame.wpQuiet_want (by rfl) (fun K hK => ?_); go_big_quiet_op; refine ⟨_, fun _ _ => rfl, hK _ ?_⟩; clear hK K) | (refine q_ld 51 _ _ _ _ rfl rfl rfl rfl (fun w' h => by go_simp) (by assumption) (by assumption) ?_; simp only [Act.put, List.setIfInBounds_toArray, List.set_cons_zero, List.set_cons_succ]))
                        refine wpQuiet_nil ?_
                        intro w5 b5
                        have HS5 := Aside0.mk (HS4.out.below b5)
                        clear cRc cRk e0 l1 b5
                        refine goesCL_ (some 145) rfl rfl Try.func36 (by kernel_rfl) rfl #[.slice (some ⟨pk, 0, none⟩) 6 6, .slice (some ⟨pc2, 0, none⟩) 6 6, .int .u8 (ex : Int)] #[.pointer (some ⟨w.heap.size, 0, none⟩)] #[.slice (some ⟨pk, 0, none⟩) 6 6, .slice (some ⟨pc2, 0, none⟩) 6 6, .int .u8 (ex : Int), .pointer (some ⟨w.heap.size, 0, none⟩)] (.tmp 135) rfl rfl (by simp only [List.map_toArray, List.map_cons, List.map_nil]; rfl) rfl ?_
                        with_reducible refine (HS5.out.callR hk6 hpk.out (HS5.out.rowR hc6 hpc2.out).bys hne1.out (HS5.out.wR.row hc6).1 (HS5.out.wR.row hc6).2 hex (by decide)).mono ?_
                        rintro e w6 ⟨rfl, h6⟩
                        refine ⟨_, rfl, ?_⟩
                        simp only [Act.put, List.setIfInBounds_toArray, List.set_cons_zero, List.set_cons_succ]
                        have HS6 := Aside0.mk h6
                        clear h6 HS5
                        have cKk := HS6.out.cK hk6 hqk.out
                        have cKc := HS6.out.cK hc6 hqc2.out
                        have l1 := HS6.out.pK.lt
                        go_wp2
                        refine region_below_tail 10 (by kernel_rfl) (by kernel_rfl) ?_
                        simp only [List.take_succ_cons, List.take_zero, List.drop_succ_cons, List.drop_zero]
                        repeat (first | go_big_quiet_step (fail) | (refine BigFrame.wpQuiet_want (by rfl) (fun K hK => ?_); go_big_quiet_op; refine ⟨_, fun _ _ => rfl, hK _ ?_⟩; clear hK K) | (refine q_ld 51 _ _ _ _ rfl rfl rfl rfl (fun w' h => by go_simp) (by assumption) (by assumption) ?_; simp only [Act.put, List.setIfInBounds_toArray, List.set_cons_zero, List.set_cons_succ]))
                        refine wpQuiet_nil ?_
                        intro w7 b7
                        have HS7 := Aside0.mk (HS6.out.below b7)
                        clear cKc cKk l1 b7
                        refine goesCL_ (some 156) rfl rfl Try.func36 (by kernel_rfl) rfl #[.slice (some ⟨qk, 0, none⟩) 6 6, .slice (some ⟨qc2, 0, none⟩) 6 6, .int .u8 (ex : Int)] #[.pointer (some ⟨w.heap.size, 0, none⟩)] #[.slice (some ⟨qk, 0, none⟩) 6 6, .slice (some ⟨qc2, 0, none⟩) 6 6, .int .u8 (ex : Int), .pointer (some ⟨w.heap.size, 0, none⟩)] (.tmp 146) rfl rfl (by simp only [List.map_toArray, List.map_cons, List.map_nil]; rfl) rfl ?_
                        with_reducible refine (HS7.out.callK hk6 hqk.out (HS7.out.rowK hc6 hqc2.out).bys hne2.out (HS7.out.wK.row hc6).1 (HS7.out.wK.row hc6).2 hex (by decide)).mono ?_
                        rintro e w8 ⟨rfl, h8⟩
                        refine ⟨_, rfl, ?_⟩
                        simp only [Act.put, List.setIfInBounds_toArray, List.set_cons_zero, List.set_cons_succ]
                        go_wp2
                        go_roundw
                        case rel => exact ⟨k + 1, hk6, by go_num, ⟨by rw [HF2.out, hcl.out]; exact h8⟩⟩
                        case measure => simp [intOf]; omega
                  · obtain rfl : k = 6 := by omega
                    go_wp2
                    go_roundg g1
                    case measure => omega
                    case rel =>
                      refine ⟨c + 1, by omega, by first | rfl | simp, ⟨P2, Q3, ?_⟩⟩
                      have h := HS4.out
                      rw [← hs5.out, ← hs2.out] at h
                      rw [HF.out, HN.out]
                      exact h
end Go.Proofs.Ytlaflbjlgkdacaa
end
section
namespace Go.Proofs.Ytlaflbjlgkdacaa.Q
open Go.RowKit Go.Proofs.YtlaflbjlgkdacaaW.PrintWords Go.Proofs.YtlaflbjlgkdacaaW.PrintLast Go.Proofs.YtlaflbjlgkdacaaW.PrintMore
attribute [local go_sem] max2_int min2_int max_two min_two max_three min_three max_four min_four   -- for this text's walks alone
set_option linter.unusedVariables false
set_option linter.unusedSimpArgs false
mutual
def sluicegateref02_Check.j0 : Nat → List ByteArray → List Bool → Bool → Option (Int)
  | 0, _, _, _ => none
  | k + 1, x0, x1, x14 => if x14 = true then (some 1) else (sluicegateref02_Check.l0 k x0 x1 ([] : List ByteArray) 0)
def sluicegateref02_Check.l0 : Nat → List ByteArray → List Bool → List ByteArray → Int → Option (Int)
  | 0, _, _, _, _ => none
  | k + 1, x0, x1, x5, x6 => if x6 < 9 then (if 0 ≤ x6 then (if x6 < (x1.length : Int) then (if rdOf false x1 x6 = true then (if x6 < (x0.length : Int) then (if x5.length < 8796093022208 then (sluicegateref02_Check.l0 k x0 x1 (x5 ++ [rdOf ByteArray.empty x0 x6]) (wrap64 (x6 + 1))) else (none)) else (none)) else (sluicegateref02_Check.l0 k x0 x1 x5 (wrap64 (x6 + 1)))) else (none)) else (none)) else ((sluicegateref02_one.f k x5).bind fun t136 => (if t136 = true then (if (x5.length : Int) < 6 then (some 2) else (some 0)) else (some 1)))
end
def sluicegateref02_Check.f (k : Nat) (l0 : List ByteArray) (l1 : List Bool) : Option (Int) := if (l0.length : Int) = 9 then (sluicegateref02_Check.j0 k l0 l1 ((l1.length : Int) != 9)) else (sluicegateref02_Check.j0 k l0 l1 true)
set_option maxHeartbeats 8000000 in
set_option maxRecDepth 100000 in
theorem sluicegateref02_Check.calls (k : Nat) (A0 : Option Addr) (c0 : Nat) (l0 : List ByteArray) (A1 : Option Addr) (c1 : Nat) (l1 : List Bool) (r : Int) (w : World) (hr0 : Kd.C Kd.string w A0 l0.length l0) (hc0 : l0.length ≤ c0) (hr1 : Kd.C Kd.bool w A1 l1.length l1) (hc1 : l1.length ≤ c1) (h : sluicegateref02_Check.f k l0 l1 = some r) :
    Calls Try.prog 18 #[.slice A0 l0.length c0, .slice A1 l1.length c1] w fun e w' => e = .returned (.int .i64 r) ∧ Below w.heap.size w w' := by
  have HR0 := Aside0.mk hr0
  have HC0 := Aside0.mk hc0
  clear hr0 hc0
  have HR1 := Aside0.mk hr1
  have HC1 := Aside0.mk hc1
  clear hr1 hc1
  have HB := Aside0.mk (Below.refl w.heap.size w)
  have H : (if (l0.length : Int) = 9 then (sluicegateref02_Check.j0 k l0 l1 ((l1.length : Int) != 9)) else (sluicegateref02_Check.j0 k l0 l1 true)) = some r := h
  clear h
  have HC3 := Aside0.mk H
  clear H
  go_enter Try.func18, Try.ntmps18
  go_upto_region 1 with (fail)
  go_cut [14] (fun v14 wc => ∃ (kq : Nat) (x14_2 : Bool), v14 = .bool x14_2 ∧ Aside0 (sluicegateref02_Check.j0 kq l0 l1 x14_2 = some r) ∧ Aside0 (kq ≤ k) ∧ Aside0 (Below w.heap.size w wc))
  case first =>
    have H := HC3.out
    clear HC3
    by_cases c4 : (l0.length : Int) = 9
    · rw [if_pos c4] at H
      have c4b0 : ((l0.length : Int) == 9) = true := beq_iff_eq.mpr c4
      have c4b1 : ((l0.length : Int) != 9) = false := bne_eq_false_iff_eq.mpr c4
      clear c4
      (first | rw [c4b0] | (simp only [i64_w, i32_w]; rw [c4b0]) | skip)
      have H' := Aside0.mk H
      clear H
      go_wp2
      go_meet
      case rel => exact ⟨_, (((l1.length : Int) != 9)), (by first | rfl | (simp; done) | (simp [*]; done)), H', ⟨by first | omega | exact Nat.le_refl _⟩, ⟨by repeat (first | (with_reducible first | exact HB.out | apply below_alloc | apply pw_below_drewN | apply below_drew1) | exact HB.out)⟩⟩
    · rw [if_neg c4] at H
      have c4b0 : ((l0.length : Int) == 9) = false := beq_eq_false_iff_ne.mpr c4
      have c4b1 : ((l0.length : Int) != 9) = true := bne_iff_ne.mpr c4
      (first | rw [c4b0] | (simp only [i64_w, i32_w]; rw [c4b0]) | skip)
      have H' := Aside0.mk H
      clear H
      go_wp2
      go_meet
      case rel => exact ⟨_, (true), (by first | rfl | (simp; done) | (simp [*]; done)), H', ⟨by first | omega | exact Nat.le_refl _⟩, ⟨by repeat (first | (with_reducible first | exact HB.out | apply below_alloc | apply pw_below_drewN | apply below_drew1) | exact HB.out)⟩⟩
  case rest =>
    clear HC3
    try clear c1
    try clear p2
    try clear c4
    try clear c4b0
    try clear c4b1
    obtain ⟨kq, x14_2, rfl, HA, HJ2, HB⟩ := hcut
    cases kq with
    | zero => exact absurd HA.out (by simp [sluicegateref02_Check.j0])
    | succ kj2 =>
      have H := HA.out
      clear HA
      simp only [sluicegateref02_Check.j0] at H
      by_cases c5 : x14_2 = true
      · subst c5
        have H1 : (some 1) = some r := by rw [if_pos rfl] at H; exact H
        clear H
        have H := H1
        clear H1
        obtain rfl := Option.some.inj H
        go_wp2
        go_ret
        exact ⟨by first | rfl | (simp [errW_none, errW_some] <;> rfl) | (simp [*, errW_none, errW_some] <;> rfl), by repeat (first | (with_reducible first | exact HB.out | apply below_alloc | apply pw_below_drewN | apply below_drew1) | exact HB.out)⟩
      · replace c5 := Bool.eq_false_iff.mpr c5
        subst c5
        have H1 : (sluicegateref02_Check.l0 kj2 l0 l1 ([] : List ByteArray) 0) = some r := by rw [if_neg (show ¬ (false = true) by decide)] at H; exact H
        clear H
        have H := H1
        clear H1
        have H' := Aside0.mk H
        clear H
        go_wp2
        go_loopg [5, 6] kj2 (fun kq v5 v6 w' => ∃ (x5_2 : List ByteArray) (x6_2 : Int), v6 = .int .i64 x6_2 ∧ Aside0 (sluicegateref02_Check.l0 kq l0 l1 x5_2 x6_2 = some r) ∧ Aside0 (kq ≤ kj2) ∧ Aside0 (Kd.R Kd.string 9 w' w.heap.size (fun _ => True) v5 x5_2) ∧ Aside0 (Below w.heap.size w w'))
        case atStart => exact ⟨(([] : List ByteArray)), (0), (by first | rfl | (simp; done) | (simp [*]; done)), H', ⟨Nat.le_refl _⟩, ⟨by first | exact Kd.R_nil _ _ _ _ _ | exact Kd.N_nil _ _ _ _ _ | exact Kd.V_nil _ _ _ _ _ | exact Kd.Q_nil _ _ _ _ _ | exact Kd.S_nil _ _ _ _ _⟩, ⟨by repeat (first | (with_reducible first | exact HB.out | apply below_alloc | apply pw_below_drewN | apply below_drew1) | exact HB.out)⟩⟩
        case round =>
          clear H'
          try clear c1
          try clear p2
          try clear c4
          try clear c4b0
          try clear c4b1
          try clear c5
          try clear p2
          obtain ⟨x5_2, x6_2, rfl, HA, HK2, HO_5, HB⟩ := hrel
          cases gk with
          | zero => exact absurd HA.out (by simp [sluicegateref02_Check.l0])
          | succ k2 =>
            have H := HA.out
            clear HA
            simp only [sluicegateref02_Check.l0] at H
            by_cases c6 : x6_2 < 9
            · rw [if_pos c6] at H
              have c6b0 : decide (x6_2 < 9) = true := decide_eq_true c6
              clear c6
              by_cases c7 : 0 ≤ x6_2
              · rw [if_pos c7] at H
                have c7b0 : decide (0 ≤ x6_2) = true := decide_eq_true c7
                clear c7
                by_cases c8 : x6_2 < (l1.length : Int)
                · rw [if_pos c8] at H
                  have c8b0 : decide (x6_2 < (l1.length : Int)) = true := decide_eq_true c8
                  clear c8
                  obtain ⟨bq9, hbq9⟩ : ∃ b_ : Bool, b_ = (rdOf false l1 x6_2) := ⟨_, rfl⟩
                  replace H : (if bq9 = true then (if x6_2 < (l0.length : Int) then (if x5_2.length < 8796093022208 then (sluicegateref02_Check.l0 k2 l0 l1 (x5_2 ++ [rdOf ByteArray.empty l0 x6_2]) (wrap64 (x6_2 + 1))) else (none)) else (none)) else (sluicegateref02_Check.l0 k2 l0 l1 x5_2 (wrap64 (x6_2 + 1)))) = some r := by rw [← hbq9] at H; exact H
                  have Nbq9 := Aside0.mk hbq9
                  clear hbq9
                  by_cases c10 : bq9 = true
                  · subst c10
                    have H1 : (if x6_2 < (l0.length : Int) then (if x5_2.length < 8796093022208 then (sluicegateref02_Check.l0 k2 l0 l1 (x5_2 ++ [rdOf ByteArray.empty l0 x6_2]) (wrap64 (x6_2 + 1))) else (none)) else (none)) = some r := by rw [if_pos rfl] at H; exact H
                    clear H
                    have H := H1
                    clear H1
                    by_cases c11 : x6_2 < (l0.length : Int)
                    · rw [if_pos c11] at H
                      have c11b0 : decide (x6_2 < (l0.length : Int)) = true := decide_eq_true c11
                      clear c11
                      by_cases c12 : x5_2.length < 8796093022208
                      · rw [if_pos c12] at H
                        have LMc12 := Aside0.mk c12
                        clear c12
                        obtain ⟨y133, hy133⟩ : ∃ y_ : List ByteArray, y_ = (x5_2 ++ [rdOf ByteArray.empty l0 x6_2]) := ⟨_, rfl⟩
                        replace H : (sluicegateref02_Check.l0 k2 l0 l1 y133 (wrap64 (x6_2 + 1))) = some r := by first | (rw [hy133]; with_reducible exact H) | (have H2_ := (Option.bind_some _ _).symm.trans H; rw [hy133]; with_reducible exact H2_) | (have H2_ := (Option.bind_some _ _).symm.trans H; with_reducible exact H2_) | with_reducible exact H | (rw [hy133]; exact H) | exact H
                        have Ny133 := Aside0.mk hy133
                        clear hy133
                        have H' := Aside0.mk H
                        clear H
                        have p131 : 0 ≤ (x6_2 : Int) := of_decide_eq_true (by first | (with_reducible assumption) | assumption)
                        have q131 : x6_2 < (l1.length : Int) := of_decide_eq_true (by first | (with_reducible assumption) | assumption)
                        obtain ⟨ad131, e131, hx131_0⟩ := Kd.at_bool HR1.out x6_2 p131 q131
                        (try rw [← Nbq9.out] at hx131_0)
                        cases e131
                        replace hx131_0 := (HB.out.cell (World.block_lt_of_cell? w _ hx131_0)).trans hx131_0
                        replace p131 := eq_true p131
                        replace q131 := eq_true q131
                        have p132 : 0 ≤ (x6_2 : Int) := of_decide_eq_true (by first | (with_reducible assumption) | assumption)
                        have q132 : x6_2 < (l0.length : Int) := of_decide_eq_true (by first | (with_reducible assumption) | assumption)
                        obtain ⟨ad132, e132, hx132_0⟩ := Kd.at_string HR0.out x6_2 p132 q132
                        cases e132
                        replace hx132_0 := (HB.out.cell (World.block_lt_of_cell? w _ hx132_0)).trans hx132_0
                        replace p132 := eq_true p132
                        replace q132 := eq_true q132
                        go_wp2_with (first | ((with_reducible refine gate_builtin (b := .append) (xs := #[.tmp 23, .tmp 28]) rfl ?_); (try (refine gate_guard (by rfl) ?_; dsimp only)); at_builtin; refine Kd.R_append Kd.string (w0 := w) w.heap.size rfl (.tmp 23) (.tmp 28) 30 9 (.string ⟨#[]⟩) 16 rfl Try.underlying30 info9 rfl (by decide) (by omega) u5 x5_2 (rdOf ByteArray.empty l0 x6_2) [.string (rdOf ByteArray.empty l0 x6_2)] (fun _ => True) (fun _ => False) rfl rfl ?aP (fun _ hk => hk.elim) ?aF ?aO ?aB ?aS ?aL ?_; (case aP => exact rfl); (case aB => exact (by repeat (first | (with_reducible first | exact HB.out | apply below_alloc | apply pw_below_drewN | apply below_drew1) | exact HB.out))); (case aF => exact (fun _ _ => trivial)); (case aO => exact (by (with_reducible repeat (first | apply Kd.R_alloc | apply Kd.R_drewN | apply Kd.R_drew)); exact HO_5.out)); (case aS => exact (below_size (by repeat (first | (with_reducible first | exact HB.out | apply below_alloc | apply pw_below_drewN | apply below_drew1) | exact HB.out)))); (case aL => have := LMc12.out; omega); intro v134 w13 ho hb hg hat; rw [← Ny133.out] at ho; have n0_ := Aside0.mk (hb); have n1_ := Aside0.mk (ho); clear HB; clear HO_5; have HB := n0_; have HO135 := n1_; clear n0_ n1_; clear ho hb hg hat))
                        go_roundg k2
                        case measure => have := HJ2.out; have := HK2.out; omega
                        case rel => exact ⟨(y133), (wrap64 (x6_2 + 1)), (by first | rfl | (simp; done) | (simp [*]; done)), H', ⟨by have := HJ2.out; have := HK2.out; omega⟩, ⟨by (with_reducible repeat (first | apply Kd.R_alloc | apply Kd.R_drewN | apply Kd.R_drew)); exact HO135.out⟩, ⟨by repeat (first | (with_reducible first | exact HB.out | apply below_alloc | apply pw_below_drewN | apply below_drew1) | exact HB.out)⟩⟩
                      · rw [if_neg c12] at H
                        exact absurd H (by simp)
                    · rw [if_neg c11] at H
                      exact absurd H (by simp)
                  · replace c10 := Bool.eq_false_iff.mpr c10
                    subst c10
                    have H1 : (sluicegateref02_Check.l0 k2 l0 l1 x5_2 (wrap64 (x6_2 + 1))) = some r := by rw [if_neg (show ¬ (false = true) by decide)] at H; exact H
                    clear H
                    have H := H1
                    clear H1
                    have H' := Aside0.mk H
                    clear H
                    have p131 : 0 ≤ (x6_2 : Int) := of_decide_eq_true (by first | (with_reducible assumption) | assumption)
                    have q131 : x6_2 < (l1.length : Int) := of_decide_eq_true (by first | (with_reducible assumption) | assumption)
                    obtain ⟨ad131, e131, hx131_0⟩ := Kd.at_bool HR1.out x6_2 p131 q131
                    (try rw [← Nbq9.out] at hx131_0)
                    cases e131
                    replace hx131_0 := (HB.out.cell (World.block_lt_of_cell? w _ hx131_0)).trans hx131_0
                    replace p131 := eq_true p131
                    replace q131 := eq_true q131
                    go_wp2
                    go_roundg k2
                    case measure => have := HJ2.out; have := HK2.out; omega
                    case rel => exact ⟨(x5_2), (wrap64 (x6_2 + 1)), (by first | rfl | (simp; done) | (simp [*]; done)), H', ⟨by have := HJ2.out; have := HK2.out; omega⟩, ⟨by (with_reducible repeat (first | apply Kd.R_alloc | apply Kd.R_drewN | apply Kd.R_drew)); exact HO_5.out⟩, ⟨by repeat (first | (with_reducible first | exact HB.out | apply below_alloc | apply pw_below_drewN | apply below_drew1) | exact HB.out)⟩⟩
                · rw [if_neg c8] at H
                  exact absurd H (by simp)
              · rw [if_neg c7] at H
                exact absurd H (by simp)
            · rw [if_neg c6] at H
              have c6b0 : decide (x6_2 < 9) = false := decide_eq_false c6
              clear c6
              replace H := Option.bind_eq_some_iff.mp H
              obtain ⟨t136, A140, H⟩ := H
              replace H : (if t136 = true then (if (x5_2.length : Int) < 6 then (some 2) else (some 0)) else (some 1)) = some r := H
              have A14 := Aside0.mk A140
              clear A140
              by_cases c15 : t136 = true
              · subst c15
                have H1 : (if (x5_2.length : Int) < 6 then (some 2) else (some 0)) = some r := by rw [if_pos rfl] at H; exact H
                clear H
                have H := H1
                clear H1
                by_cases c16 : (x5_2.length : Int) < 6
                · rw [if_pos c16] at H
                  have c16b0 : decide ((x5_2.length : Int) < 6) = true := decide_eq_true c16
                  have c16b1 : decide (x5_2.length < 6) = true := decide_eq_true (by omega)
                  clear c16
                  obtain rfl := Option.some.inj H
                  obtain ⟨Ao17, co17, eo17⟩ := Kd.R_slice HO_5.out
                  subst eo17
                  go_wp2_with (first | ((with_reducible refine gate_callee (f := 25) rfl ?_); refine goesL_ (some 31) rfl rfl Try.func25 (by kernel_rfl) rfl #[.slice Ao17 x5_2.length co17] rfl (by (try simp only [List.map_toArray, List.map_cons, List.map_nil]); first | done | rfl | (simp only [List.length_drop, List.length_take]; rfl)) ?_; (with_reducible refine (sluicegateref02_one.calls k2 _ _ x5_2 true _ ?side1 ?side2 A14.out).mono ?_); (case side1 => repeat (first | exact (Kd.R_reads' HO_5.out).2.2 | (with_reducible refine Kd.C_alloc ?_ _) | (with_reducible refine Kd.C_drewN ?_ _) | (with_reducible refine Kd.C_drew ?_))); (case side2 => exact (Kd.R_reads' HO_5.out).2.1); rintro e w' ⟨rfl, ⟨nd, rfl⟩⟩; refine ⟨_, rfl, ?_⟩))
                  go_ret
                  exact ⟨by first | rfl | (simp [errW_none, errW_some] <;> rfl) | (simp [*, errW_none, errW_some] <;> rfl), by repeat (first | (with_reducible first | exact HB.out | apply below_alloc | apply pw_below_drewN | apply below_drew1) | exact HB.out)⟩
                · rw [if_neg c16] at H
                  have c16b0 : decide ((x5_2.length : Int) < 6) = false := decide_eq_false c16
                  have c16b1 : decide (x5_2.length < 6) = false := decide_eq_false (by omega)
                  clear c16
                  obtain rfl := Option.some.inj H
                  obtain ⟨Ao18, co18, eo18⟩ := Kd.R_slice HO_5.out
                  subst eo18
                  go_wp2_with (first | ((with_reducible refine gate_callee (f := 25) rfl ?_); refine goesL_ (some 31) rfl rfl Try.func25 (by kernel_rfl) rfl #[.slice Ao18 x5_2.length co18] rfl (by (try simp only [List.map_toArray, List.map_cons, List.map_nil]); first | done | rfl | (simp only [List.length_drop, List.length_take]; rfl)) ?_; (with_reducible refine (sluicegateref02_one.calls k2 _ _ x5_2 true _ ?side1 ?side2 A14.out).mono ?_); (case side1 => repeat (first | exact (Kd.R_reads' HO_5.out).2.2 | (with_reducible refine Kd.C_alloc ?_ _) | (with_reducible refine Kd.C_drewN ?_ _) | (with_reducible refine Kd.C_drew ?_))); (case side2 => exact (Kd.R_reads' HO_5.out).2.1); rintro e w' ⟨rfl, ⟨nd, rfl⟩⟩; refine ⟨_, rfl, ?_⟩))
                  go_ret
                  exact ⟨by first | rfl | (simp [errW_none, errW_some] <;> rfl) | (simp [*, errW_none, errW_some] <;> rfl), by repeat (first | (with_reducible first | exact HB.out | apply below_alloc | apply pw_below_drewN | apply below_drew1) | exact HB.out)⟩
              · replace c15 := Bool.eq_false_iff.mpr c15
                subst c15
                have H1 : (some 1) = some r := by rw [if_neg (show ¬ (false = true) by decide)] at H; exact H
                clear H
                have H := H1
                clear H1
                obtain rfl := Option.some.inj H
                obtain ⟨Ao19, co19, eo19⟩ := Kd.R_slice HO_5.out
                subst eo19
                go_wp2_with (first | ((with_reducible refine gate_callee (f := 25) rfl ?_); refine goesL_ (some 31) rfl rfl Try.func25 (by kernel_rfl) rfl #[.slice Ao19 x5_2.length co19] rfl (by (try simp only [List.map_toArray, List.map_cons, List.map_nil]); first | done | rfl | (simp only [List.length_drop, List.length_take]; rfl)) ?_; (with_reducible refine (sluicegateref02_one.calls k2 _ _ x5_2 false _ ?side1 ?side2 A14.out).mono ?_); (case side1 => repeat (first | exact (Kd.R_reads' HO_5.out).2.2 | (with_reducible refine Kd.C_alloc ?_ _) | (with_reducible refine Kd.C_drewN ?_ _) | (with_reducible refine Kd.C_drew ?_))); (case side2 => exact (Kd.R_reads' HO_5.out).2.1); rintro e w' ⟨rfl, ⟨nd, rfl⟩⟩; refine ⟨_, rfl, ?_⟩))
                go_ret
                exact ⟨by first | rfl | (simp [errW_none, errW_some] <;> rfl) | (simp [*, errW_none, errW_some] <;> rfl), by repeat (first | (with_reducible first | exact HB.out | apply below_alloc | apply pw_below_drewN | apply below_drew1) | exact HB.out)⟩
mutual
def sluicegateref02_Agrees.l0 : Nat → List ByteArray → List ByteArray → List Bool → Int → Int → Option (Bool)
  | 0, _, _, _, _, _ => none
  | k + 1, x0, x1, x2, x7, x8 => if x8 < 9 then (sluicegateref02_Agrees.j1 k x0 x1 x2 x7 x8 (decide (x7 < 6))) else (sluicegateref02_Agrees.j1 k x0 x1 x2 x7 x8 false)
def sluicegateref02_Agrees.j1 : Nat → List ByteArray → List ByteArray → List Bool → Int → Int → Bool → Option (Bool)
  | 0, _, _, _, _, _, _ => none
  | k + 1, x0, x1, x2, x7, x8, x14 => if x14 = true then (if 0 ≤ x8 then (if x8 < (x2.length : Int) then (if rdOf false x2 x8 = true then (if x8 < (x0.length : Int) then (if x8 < (x1.length : Int) then (if (rdOf ByteArray.empty x0 x8).toList = (rdOf ByteArray.empty x1 x8).toList then (sluicegateref02_Agrees.l0 k x0 x1 x2 (wrap64 (x7 + 1)) (wrap64 (x8 + 1))) else (some false)) else (none)) else (none)) else (sluicegateref02_Agrees.l0 k x0 x1 x2 x7 (wrap64 (x8 + 1)))) else (none)) else (none)) else (some true)
end
def sluicegateref02_Agrees.f (k : Nat) (l0 : List ByteArray) (l1 : List ByteArray) (l2 : List Bool) : Option (Bool) := sluicegateref02_Agrees.l0 k l0 l1 l2 0 0
set_option maxHeartbeats 8000000 in
set_option maxRecDepth 100000 in
theorem sluicegateref02_Agrees.calls (k : Nat) (A0 : Option Addr) (c0 : Nat) (l0 : List ByteArray) (A1 : Option Addr) (c1 : Nat) (l1 : List ByteArray) (A2 : Option Addr) (c2 : Nat) (l2 : List Bool) (r : Bool) (w : World) (hr0 : Kd.C Kd.string w A0 l0.length l0) (hc0 : l0.length ≤ c0) (hr1 : Kd.C Kd.string w A1 l1.length l1) (hc1 : l1.length ≤ c1) (hr2 : Kd.C Kd.bool w A2 l2.length l2) (hc2 : l2.length ≤ c2) (h : sluicegateref02_Agrees.f k l0 l1 l2 = some r) :
    Calls Try.prog 19 #[.slice A0 l0.length c0, .slice A1 l1.length c1, .slice A2 l2.length c2] w fun e w' => e = .returned (.bool r) ∧ Drawn0 w w' := by
  have HR0 := Aside0.mk hr0
  have HC0 := Aside0.mk hc0
  clear hr0 hc0
  have HR1 := Aside0.mk hr1
  have HC1 := Aside0.mk hc1
  clear hr1 hc1
  have HR2 := Aside0.mk hr2
  have HC2 := Aside0.mk hc2
  clear hr2 hc2
  have H : (sluicegateref02_Agrees.l0 k l0 l1 l2 0 0) = some r := h
  clear h
  have H' := Aside0.mk H
  clear H
  go_enter Try.func19, Try.ntmps19
  go_wp2
  repeat (go_quiet (fail); try go_wp2)
  go_loopg [7, 8] k (fun kq v7 v8 w' => ∃ (x7_1 : Int) (x8_1 : Int), v7 = .int .i64 x7_1 ∧ v8 = .int .i64 x8_1 ∧ Aside0 (sluicegateref02_Agrees.l0 kq l0 l1 l2 x7_1 x8_1 = some r) ∧ Aside0 (kq ≤ k) ∧ Drawn0 w w')
  case atStart => exact ⟨(0), (0), (by first | rfl | (simp; done) | (simp [*]; done)), (by first | rfl | (simp; done) | (simp [*]; done)), H', ⟨Nat.le_refl _⟩, by repeat (first | exact Drawn0.refl _ | apply Drawn0.step)⟩
  case round =>
    clear H'
    try clear c1
    try clear c2
    try clear p2
    obtain ⟨x7_1, x8_1, rfl, rfl, HA, HK1, ⟨m1, rfl⟩⟩ := hrel
    cases gk with
    | zero => exact absurd HA.out (by simp [sluicegateref02_Agrees.l0])
    | succ k1 =>
      have H := HA.out
      clear HA
      simp only [sluicegateref02_Agrees.l0] at H
      have HC4 := Aside0.mk H
      clear H
      go_upto_region 3 with (fail)
      repeat (go_quiet (fail); go_upto_region 3 with (fail))
      go_cut [14] (fun v14 wc => ∃ (kq : Nat) (x14_3 : Bool), v14 = .bool x14_3 ∧ Aside0 (sluicegateref02_Agrees.j1 kq l0 l1 l2 x7_1 x8_1 x14_3 = some r) ∧ Aside0 (kq ≤ k1) ∧ Drawn0 w wc)
      case first =>
        have H := HC4.out
        clear HC4
        by_cases c5 : x8_1 < 9
        · rw [if_pos c5] at H
          have c5b0 : decide (x8_1 < 9) = true := decide_eq_true c5
          clear c5
          (first | rw [c5b0] | (simp only [i64_w, i32_w]; rw [c5b0]) | skip)
          have H' := Aside0.mk H
          clear H
          go_wp2
          repeat (go_quiet (fail); try go_wp2)
          go_meet
          case rel => exact ⟨_, (decide (x7_1 < 6)), (by first | rfl | (simp; done) | (simp [*]; done)), H', ⟨by have := HK1.out; first | omega | exact Nat.le_refl _⟩, by repeat (first | exact Drawn0.refl _ | apply Drawn0.step)⟩
        · rw [if_neg c5] at H
          have c5b0 : decide (x8_1 < 9) = false := decide_eq_false c5
          clear c5
          (first | rw [c5b0] | (simp only [i64_w, i32_w]; rw [c5b0]) | skip)
          have H' := Aside0.mk H
          clear H
          go_wp2
          repeat (go_quiet (fail); try go_wp2)
          go_meet
          case rel => exact ⟨_, (false), (by first | rfl | (simp; done) | (simp [*]; done)), H', ⟨by have := HK1.out; first | omega | exact Nat.le_refl _⟩, by repeat (first | exact Drawn0.refl _ | apply Drawn0.step)⟩
      case rest =>
        clear HC4
        try clear c1
        try clear c2
        try clear p2
        try clear c5
        try clear c5b0
        try clear p2
        obtain ⟨kq, x14_3, rfl, HA, HJ3, ⟨mc3, rfl⟩⟩ := hcut
        cases kq with
        | zero => exact absurd HA.out (by simp [sluicegateref02_Agrees.j1])
        | succ kj3 =>
          have H := HA.out
          clear HA
          simp only [sluicegateref02_Agrees.j1] at H
          by_cases c6 : x14_3 = true
          · subst c6
            have H1 : (if 0 ≤ x8_1 then (if x8_1 < (l2.length : Int) then (if rdOf false l2 x8_1 = true then (if x8_1 < (l0.length : Int) then (if x8_1 < (l1.length : Int) then (if (rdOf ByteArray.empty l0 x8_1).toList = (rdOf ByteArray.empty l1 x8_1).toList then (sluicegateref02_Agrees.l0 kj3 l0 l1 l2 (wrap64 (x7_1 + 1)) (wrap64 (x8_1 + 1))) else (some false)) else (none)) else (none)) else (sluicegateref02_Agrees.l0 kj3 l0 l1 l2 x7_1 (wrap64 (x8_1 + 1)))) else (none)) else (none)) = some r := by rw [if_pos rfl] at H; exact H
            clear H
            have H := H1
            clear H1
            by_cases c7 : 0 ≤ x8_1
            · rw [if_pos c7] at H
              have c7b0 : decide (0 ≤ x8_1) = true := decide_eq_true c7
              clear c7
              by_cases c8 : x8_1 < (l2.length : Int)
              · rw [if_pos c8] at H
                have c8b0 : decide (x8_1 < (l2.length : Int)) = true := decide_eq_true c8
                clear c8
                obtain ⟨bq9, hbq9⟩ : ∃ b_ : Bool, b_ = (rdOf false l2 x8_1) := ⟨_, rfl⟩
                replace H : (if bq9 = true then (if x8_1 < (l0.length : Int) then (if x8_1 < (l1.length : Int) then (if (rdOf ByteArray.empty l0 x8_1).toList = (rdOf ByteArray.empty l1 x8_1).toList then (sluicegateref02_Agrees.l0 kj3 l0 l1 l2 (wrap64 (x7_1 + 1)) (wrap64 (x8_1 + 1))) else (some false)) else (none)) else (none)) else (sluicegateref02_Agrees.l0 kj3 l0 l1 l2 x7_1 (wrap64 (x8_1 + 1)))) = some r := by rw [← hbq9] at H; exact H
                have Nbq9 := Aside0.mk hbq9
                clear hbq9
                by_cases c10 : bq9 = true
                · subst c10
                  have H1 : (if x8_1 < (l0.length : Int) then (if x8_1 < (l1.length : Int) then (if (rdOf ByteArray.empty l0 x8_1).toList = (rdOf ByteArray.empty l1 x8_1).toList then (sluicegateref02_Agrees.l0 kj3 l0 l1 l2 (wrap64 (x7_1 + 1)) (wrap64 (x8_1 + 1))) else (some false)) else (none)) else (none)) = some r := by rw [if_pos rfl] at H; exact H
                  clear H
                  have H := H1
                  clear H1
                  by_cases c11 : x8_1 < (l0.length : Int)
                  · rw [if_pos c11] at H
                    have c11b0 : decide (x8_1 < (l0.length : Int)) = true := decide_eq_true c11
                    clear c11
                    by_cases c12 : x8_1 < (l1.length : Int)
                    · rw [if_pos c12] at H
                      have c12b0 : decide (x8_1 < (l1.length : Int)) = true := decide_eq_true c12
                      clear c12
                      by_cases c13 : (rdOf ByteArray.empty l0 x8_1).toList = (rdOf ByteArray.empty l1 x8_1).toList
                      · rw [if_pos c13] at H
                        have c13b0 : ((rdOf ByteArray.empty l0 x8_1).toList == (rdOf ByteArray.empty l1 x8_1).toList) = true := beq_iff_eq.mpr c13
                        have c13b1 : ((rdOf ByteArray.empty l0 x8_1).toList != (rdOf ByteArray.empty l1 x8_1).toList) = false := bne_eq_false_iff_eq.mpr c13
                        clear c13
                        have H' := Aside0.mk H
                        clear H
                        have p137 : 0 ≤ (x8_1 : Int) := of_decide_eq_true (by first | (with_reducible assumption) | assumption)
                        have q137 : x8_1 < (l2.length : Int) := of_decide_eq_true (by first | (with_reducible assumption) | assumption)
                        obtain ⟨ad137, e137, hx137_0⟩ := Kd.at_bool HR2.out x8_1 p137 q137
                        (try rw [← Nbq9.out] at hx137_0)
                        cases e137
                        replace p137 := eq_true p137
                        replace q137 := eq_true q137
                        have p138 : 0 ≤ (x8_1 : Int) := of_decide_eq_true (by first | (with_reducible assumption) | assumption)
                        have q138 : x8_1 < (l0.length : Int) := of_decide_eq_true (by first | (with_reducible assumption) | assumption)
                        obtain ⟨ad138, e138, hx138_0⟩ := Kd.at_string HR0.out x8_1 p138 q138
                        cases e138
                        replace p138 := eq_true p138
                        replace q138 := eq_true q138
                        have p139 : 0 ≤ (x8_1 : Int) := of_decide_eq_true (by first | (with_reducible assumption) | assumption)
                        have q139 : x8_1 < (l1.length : Int) := of_decide_eq_true (by first | (with_reducible assumption) | assumption)
                        obtain ⟨ad139, e139, hx139_0⟩ := Kd.at_string HR1.out x8_1 p139 q139
                        cases e139
                        replace p139 := eq_true p139
                        replace q139 := eq_true q139
                        go_wp2
                        repeat (go_quiet (fail); try go_wp2)
                        go_roundg kj3
                        case measure => have := HK1.out; have := HJ3.out; omega
                        case rel => exact ⟨(wrap64 (x7_1 + 1)), (wrap64 (x8_1 + 1)), (by first | rfl | (simp; done) | (simp [*]; done)), (by first | rfl | (simp; done) | (simp [*]; done)), H', ⟨by have := HK1.out; have := HJ3.out; omega⟩, by repeat (first | exact Drawn0.refl _ | apply Drawn0.step)⟩
                      · rw [if_neg c13] at H
                        have c13b0 : ((rdOf ByteArray.empty l0 x8_1).toList == (rdOf ByteArray.empty l1 x8_1).toList) = false := beq_eq_false_iff_ne.mpr c13
                        have c13b1 : ((rdOf ByteArray.empty l0 x8_1).toList != (rdOf ByteArray.empty l1 x8_1).toList) = true := bne_iff_ne.mpr c13
                        obtain rfl := Option.some.inj H
                        have p137 : 0 ≤ (x8_1 : Int) := of_decide_eq_true (by first | (with_reducible assumption) | assumption)
                        have q137 : x8_1 < (l2.length : Int) := of_decide_eq_true (by first | (with_reducible assumption) | assumption)
                        obtain ⟨ad137, e137, hx137_0⟩ := Kd.at_bool HR2.out x8_1 p137 q137
                        (try rw [← Nbq9.out] at hx137_0)
                        cases e137
                        replace p137 := eq_true p137
                        replace q137 := eq_true q137
                        have p138 : 0 ≤ (x8_1 : Int) := of_decide_eq_true (by first | (with_reducible assumption) | assumption)
                        have q138 : x8_1 < (l0.length : Int) := of_decide_eq_true (by first | (with_reducible assumption) | assumption)
                        obtain ⟨ad138, e138, hx138_0⟩ := Kd.at_string HR0.out x8_1 p138 q138
                        cases e138
                        replace p138 := eq_true p138
                        replace q138 := eq_true q138
                        have p139 : 0 ≤ (x8_1 : Int) := of_decide_eq_true (by first | (with_reducible assumption) | assumption)
                        have q139 : x8_1 < (l1.length : Int) := of_decide_eq_true (by first | (with_reducible assumption) | assumption)
                        obtain ⟨ad139, e139, hx139_0⟩ := Kd.at_string HR1.out x8_1 p139 q139
                        cases e139
                        replace p139 := eq_true p139
                        replace q139 := eq_true q139
                        go_wp2
                        repeat (go_quiet (fail); try go_wp2)
                        go_ret
                        exact ⟨by first | rfl | (simp; done) | (simp [*]; done), by repeat (first | exact Drawn0.refl _ | apply Drawn0.step)⟩
                    · rw [if_neg c12] at H
                      exact absurd H (by simp)
                  · rw [if_neg c11] at H
                    exact absurd H (by simp)
                · replace c10 := Bool.eq_false_iff.mpr c10
                  subst c10
                  have H1 : (sluicegateref02_Agrees.l0 kj3 l0 l1 l2 x7_1 (wrap64 (x8_1 + 1))) = some r := by rw [if_neg (show ¬ (false = true) by decide)] at H; exact H
                  clear H
                  have H := H1
                  clear H1
                  have H' := Aside0.mk H
                  clear H
                  have p137 : 0 ≤ (x8_1 : Int) := of_decide_eq_true (by first | (with_reducible assumption) | assumption)
                  have q137 : x8_1 < (l2.length : Int) := of_decide_eq_true (by first | (with_reducible assumption) | assumption)
                  obtain ⟨ad137, e137, hx137_0⟩ := Kd.at_bool HR2.out x8_1 p137 q137
                  (try rw [← Nbq9.out] at hx137_0)
                  cases e137
                  replace p137 := eq_true p137
                  replace q137 := eq_true q137
                  go_wp2
                  repeat (go_quiet (fail); try go_wp2)
                  go_roundg kj3
                  case measure => have := HK1.out; have := HJ3.out; omega
                  case rel => exact ⟨(x7_1), (wrap64 (x8_1 + 1)), (by first | rfl | (simp; done) | (simp [*]; done)), (by first | rfl | (simp; done) | (simp [*]; done)), H', ⟨by have := HK1.out; have := HJ3.out; omega⟩, by repeat (first | exact Drawn0.refl _ | apply Drawn0.step)⟩
              · rw [if_neg c8] at H
                exact absurd H (by simp)
            · rw [if_neg c7] at H
              exact absurd H (by simp)
          · replace c6 := Bool.eq_false_iff.mpr c6
            subst c6
            have H1 : (some true) = some r := by rw [if_neg (show ¬ (false = true) by decide)] at H; exact H
            clear H
            have H := H1
            clear H1
            obtain rfl := Option.some.inj H
            go_wp2
            repeat (go_quiet (fail); try go_wp2)
            go_ret
            exact ⟨by first | rfl | (simp; done) | (simp [*]; done), by repeat (first | exact Drawn0.refl _ | apply Drawn0.step)⟩
end Go.Proofs.Ytlaflbjlgkdacaa.Q
end
section
namespace Go.Proofs.Ytlaflbjlgkdacaa
open Go.RowKit Q Go.Proofs.YtlaflbjlgkdacaaW.PrintWords Go.Proofs.YtlaflbjlgkdacaaW.PrintLast Go.Proofs.YtlaflbjlgkdacaaW.PrintMore
theorem wrap64_nat (n : Nat) (h : n < 2 ^ 63) : wrap64 (n : Int) = n := by unfold wrap64; omega
theorem wrapu_nat (n : Nat) (h : n < 2 ^ 64) : IntKind.u64.wrap (n : Int) = n := by
  simp [IntKind.wrap, IntKind.bits, IntKind.signed]; omega
theorem wraps_i64' (n : Int) (h₀ : 0 ≤ n) (h₁ : n < 2 ^ 63) : IntKind.i64.wrap n = n := by rw [IntKind.wrap_i64]; omega
theorem bits_xor64 (a b : Nat) (ha : a < 2 ^ 63) (hb : b < 2 ^ 63) : Go.bits .xor .i64 (a : Int) (b : Int) = ((a ^^^ b : Nat) : Int) := by
  have hx : a ^^^ b < 2 ^ 63 := Nat.xor_lt_two_pow ha hb
  show IntKind.i64.wrap ((BitVec.ofInt 64 (a : Int) ^^^ BitVec.ofInt 64 (b : Int)).toNat : Int) = _
  rw [BitVec.ofInt_natCast, BitVec.ofInt_natCast, BitVec.toNat_xor, BitVec.toNat_ofNat, BitVec.toNat_ofNat, Nat.mod_eq_of_lt (a := a) (by omega), Nat.mod_eq_of_lt (a := b) (by omega)]
  exact wraps_i64' _ (by omega) (by omega)
theorem shr_nat (x i : Nat) (hi : i ≤ 64) : shr .i64 (x : Int) (i : Int) = ((x / 2 ^ i : Nat) : Int) := by
  unfold shr
  rw [Int.toNat_natCast, Nat.min_eq_left (by exact hi)]
  simp
theorem shl_nat (x i : Nat) (hi : i ≤ 64) (h : x * 2 ^ i < 2 ^ 63) : shl .i64 (x : Int) (i : Int) = ((x * 2 ^ i : Nat) : Int) := by
  unfold shl
  rw [Int.toNat_natCast, Nat.min_eq_left (by exact hi)]
  have e : (x : Int) * 2 ^ i = ((x * 2 ^ i : Nat) : Int) := by simp
  rw [e]
  exact wraps_i64' _ (by omega) (by omega)
theorem tmod2 (x : Nat) : Int.tmod (x : Int) 2 = ((x % 2 : Nat) : Int) := by rw [Int.tmod_eq_emod_of_nonneg (by omega)]; omega
theorem rtimes_l1 (n : Nat) : ∀ (k p : Nat), n ≤ 7 → p < 2 ^ 15 → n < k → sluicegateref01_Times.l1 k (p : Int) ((n + 7 : Nat) : Int) = some ((rdc n p : Nat) : Int) := by
  induction n with
  | zero =>
    intro k p _ hp hk
    obtain ⟨k, rfl⟩ : ∃ m, k = m + 1 := ⟨k - 1, by omega⟩
    simp only [sluicegateref01_Times.l1, rdc]
    rw [if_neg (by omega)]
    congr 1
  | succ n ih =>
    intro k p hn hp hk
    obtain ⟨k, rfl⟩ : ∃ m, k = m + 1 := ⟨k - 1, by omega⟩
    simp only [sluicegateref01_Times.l1, rdc]
    rw [if_pos (by omega), wrapu_nat (n + 1 + 7) (by omega), if_pos (by omega), shr_nat p (n + 1 + 7) (by omega), tmod2]
    have e1 : wrap64 (((n + 1 + 7 : Nat) : Int) - 1) = ((n + 7 : Nat) : Int) := by unfold wrap64; omega
    have e2 : wrap64 (((n + 1 + 7 : Nat) : Int) - 8) = ((n : Nat) : Int) := by unfold wrap64; omega
    rw [e1, e2, wrapu_nat n (by omega), show n + 1 + 7 = n + 8 by omega]
    by_cases h1 : p / 2 ^ (n + 8) % 2 = 1
    · have hp2 : 2 ^ n ≤ 2 ^ 6 := Nat.pow_le_pow_right (by omega) (by omega)
      have e3 := shl_nat 285 n (by omega) (by omega)
      rw [if_pos (by omega), if_pos (by omega), if_pos h1, show ((285 : Int)) = ((285 : Nat) : Int) from rfl, e3, bits_xor64 _ _ (by omega) (by omega)]
      exact ih k _ (by omega) (Nat.xor_lt_two_pow hp (by omega)) (by omega)
    · rw [if_neg (by omega), if_neg h1]
      exact ih k p (by omega) hp (by omega)
theorem rtimes_l0 (a b : Nat) (ha : a ≤ 255) (hb : b ≤ 255) (n : Nat) : ∀ (k p : Nat), n ≤ 8 → p < 2 ^ 15 → n + 8 < k → sluicegateref01_Times.l0 k (a : Int) (b : Int) (p : Int) ((8 - n : Nat) : Int) = some ((rdc 7 (clm a b n p) : Nat) : Int) := by
  induction n with
  | zero =>
    intro k p _ hp hk
    obtain ⟨k, rfl⟩ : ∃ m, k = m + 1 := ⟨k - 1, by omega⟩
    simp only [sluicegateref01_Times.l0, clm]
    rw [if_neg (by omega)]
    exact rtimes_l1 7 k p (by omega) hp (by omega)
  | succ n ih =>
    intro k p hn hp hk
    obtain ⟨k, rfl⟩ : ∃ m, k = m + 1 := ⟨k - 1, by omega⟩
    simp only [sluicegateref01_Times.l0, clm]
    have e0 : 8 - (n + 1) = 7 - n := by omega
    rw [if_pos (by omega), wrapu_nat _ (by omega), if_pos (by omega), wrap64_nat b (by omega), wrap64_nat a (by omega), shr_nat b _ (by omega), tmod2]
    have e1 : wrap64 (((8 - (n + 1) : Nat) : Int) + 1) = ((8 - n : Nat) : Int) := by unfold wrap64; omega
    rw [e1, e0]
    have hp2 : 2 ^ (7 - n) ≤ 2 ^ 7 := Nat.pow_le_pow_right (by omega) (by omega)
    have hm : a * 2 ^ (7 - n) ≤ 255 * 2 ^ 7 := Nat.mul_le_mul ha hp2
    by_cases h1 : b / 2 ^ (7 - n) % 2 = 1
    · rw [if_pos (by omega), if_pos h1, shl_nat a _ (by omega) (by omega), bits_xor64 _ _ (by omega) (by omega)]
      exact ih k _ (by omega) (Nat.xor_lt_two_pow hp (by omega)) (by omega)
    · rw [if_neg (by omega), if_neg h1]
      exact ih k p (by omega) hp (by omega)
theorem rtimes_f (a b k : Nat) (ha : a ≤ 255) (hb : b ≤ 255) (hk : 17 ≤ k) : sluicegateref01_Times.f k (a : Int) (b : Int) = some (tim a b : Int) := by
  unfold sluicegateref01_Times.f
  have := rtimes_l0 a b ha hb 8 k 0 (by omega) (by omega) (by omega)
  rw [← mul_tim ha hb]
  exact this
theorem rover_l0 (a b : Nat) (ha : a ≤ 255) (hb0 : 1 ≤ b) (hb : b ≤ 255) (d : Nat) : ∀ (k i : Nat), i ≤ 256 → 256 - i = d → d + 20 < k → (∀ j, j < i → tim j b ≠ a) → sluicegateref01_Over.l0 k (a : Int) (b : Int) (i : Int) = some ((ovr a b : Int), 0) := by
  induction d with
  | zero =>
    intro k i hi hd hk hno
    exact absurd (tim_ovr a b ha hb0 hb) (hno _ (by have := ovr_le a b; omega))
  | succ d ih =>
    intro k i hi hd hk hno
    obtain ⟨k, rfl⟩ : ∃ m, k = m + 1 := ⟨k - 1, by omega⟩
    simp only [sluicegateref01_Over.l0]
    rw [if_pos (by omega), show (i : Int) % 256 = (i : Int) from Int.emod_eq_of_lt (by omega) (by omega), rtimes_f i b k (by omega) hb (by omega)]
    simp only [Option.bind_some]
    by_cases h1 : tim i b = a
    · rw [if_pos (by omega), ← h1, ovr_tim i b (by omega) hb0 hb]
    · rw [if_neg (by omega), show wrap64 ((i : Int) + 1) = ((i + 1 : Nat) : Int) by unfold wrap64; omega]
      refine ih k (i + 1) (by omega) (by omega) (by omega) (fun j hj => ?_)
      by_cases h3 : j = i
      · subst h3; exact h1
      · exact hno j (by omega)
theorem rover_f (a b k : Nat) (ha : a ≤ 255) (hb : b ≤ 255) (hk : 300 ≤ k) : sluicegateref01_Over.f k (a : Int) (b : Int) = some (if b = 0 then (0, 1) else ((ovr a b : Int), 0)) := by
  unfold sluicegateref01_Over.f
  by_cases h0 : b = 0
  · subst h0; rfl
  · rw [if_neg (by omega), if_neg h0]
    exact rover_l0 a b ha (by omega) hb 256 k 0 (by omega) (by omega) (by omega) (fun j hj => by omega)
end Go.Proofs.Ytlaflbjlgkdacaa
end
section
namespace Go.Proofs.Ytlaflbjlgkdacaa
open Go.RowKit Q Go.Proofs.YtlaflbjlgkdacaaW.PrintWords Go.Proofs.YtlaflbjlgkdacaaW.PrintLast Go.Proofs.YtlaflbjlgkdacaaW.PrintMore
theorem rdB {l : List ByteArray} {k : Nat} (h : k < l.length) : rdOf ByteArray.empty l (k : Int) = strAt l k := by
  rw [strAt_eq h]
  simp [rdOf, h]
theorem drop_str {l : List ByteArray} {k : Nat} (h : k < l.length) : l.drop k = strAt l k :: l.drop (k + 1) := by
  rw [strAt_eq h]
  exact List.drop_eq_getElem_cons h
theorem wrap_succ (i : Nat) (h : i < 2 ^ 62) : wrap64 ((i : Int) + 1) = ((i + 1 : Nat) : Int) := by unfold wrap64; omega
theorem eqS_l0 (a b : List ByteArray) (hl : a.length = b.length) (hb : a.length < 2 ^ 62) (n : Nat) : ∀ (k i : Nat), i + n = a.length → n < k → slices_Equal_string_string.l0 k a b (a.length : Int) (i : Int) = some (decide (a.drop i = b.drop i)) := by
  induction n with
  | zero =>
    intro k i hi hk
    obtain ⟨k, rfl⟩ : ∃ m, k = m + 1 := ⟨k - 1, by omega⟩
    simp only [slices_Equal_string_string.l0]
    rw [if_neg (by omega), List.drop_eq_nil_of_le (by omega), List.drop_eq_nil_of_le (by omega)]
    rfl
  | succ n ih =>
    intro k i hi hk
    obtain ⟨k, rfl⟩ : ∃ m, k = m + 1 := ⟨k - 1, by omega⟩
    simp only [slices_Equal_string_string.l0]
    have ha : i < a.length := by omega
    have hb' : i < b.length := by omega
    rw [if_pos (by omega), if_pos (by omega), if_pos (by omega), if_pos (by omega), rdB ha, rdB hb', drop_str ha, drop_str hb', wrap_succ i (by omega), ih k (i + 1) (by omega) (by omega)]
    by_cases h : strAt a i = strAt b i
    · rw [if_pos (by rw [h]), h]
      simp
    · rw [if_neg (fun e => h (eq_of_toList e))]
      simp [h]
theorem eqS_f (a b : List ByteArray) (hb : a.length < 2 ^ 62) (k : Nat) (hk : a.length < k) : slices_Equal_string_string.f k a b = some (decide (a = b)) := by
  unfold slices_Equal_string_string.f
  by_cases hl : a.length = b.length
  · rw [if_pos (by omega)]
    have := eqS_l0 a b hl hb a.length k 0 (by omega) hk
    simpa using this
  · rw [if_neg (by omega), decide_eq_false (fun e => hl (by rw [e]))]
theorem same_l0 (a b : List ByteArray) (hl : a.length = b.length) (hb : a.length < 2 ^ 62) (n : Nat) : ∀ (k i : Nat), i + n = a.length → n < k → sluicegateref02_Same.l0 k a b (i : Int) = some (decide (a.drop i = b.drop i)) := by
  induction n with
  | zero =>
    intro k i hi hk
    obtain ⟨k, rfl⟩ : ∃ m, k = m + 1 := ⟨k - 1, by omega⟩
    simp only [sluicegateref02_Same.l0]
    rw [if_neg (by omega), List.drop_eq_nil_of_le (by omega), List.drop_eq_nil_of_le (by omega)]
    rfl
  | succ n ih =>
    intro k i hi hk
    obtain ⟨k, rfl⟩ : ∃ m, k = m + 1 := ⟨k - 1, by omega⟩
    simp only [sluicegateref02_Same.l0]
    have ha : i < a.length := by omega
    have hb' : i < b.length := by omega
    rw [if_pos (by omega), if_pos (by omega), if_pos (by omega), rdB ha, rdB hb', drop_str ha, drop_str hb', wrap_succ i (by omega), ih k (i + 1) (by omega) (by omega)]
    by_cases h : strAt a i = strAt b i
    · rw [if_pos (by rw [h]), h]
      simp
    · rw [if_neg (fun e => h (eq_of_toList e))]
      simp [h]
theorem same_f (a b : List ByteArray) (hb : a.length < 2 ^ 62) (k : Nat) (hk : a.length < k) : sluicegateref02_Same.f k a b = some (decide (a = b)) := by
  unfold sluicegateref02_Same.f
  by_cases hl : a.length = b.length
  · rw [if_pos (by omega)]
    have := same_l0 a b hl hb a.length k 0 (by omega) hk
    simpa using this
  · rw [if_neg (by omega), decide_eq_false (fun e => hl (by rw [e]))]
theorem one_l0 (l : List ByteArray) (hb : l.length < 2 ^ 62) (n : Nat) : ∀ (k i : Nat), i + n = l.length → n < k → sluicegateref02_one.l0 k l (i : Int) = some ((l.drop i).all fun s => s.size == wid l) := by
  induction n with
  | zero =>
    intro k i hi hk
    obtain ⟨k, rfl⟩ : ∃ m, k = m + 1 := ⟨k - 1, by omega⟩
    simp only [sluicegateref02_one.l0]
    rw [if_neg (by omega), List.drop_eq_nil_of_le (by omega)]
    rfl
  | succ n ih =>
    intro k i hi hk
    obtain ⟨k, rfl⟩ : ∃ m, k = m + 1 := ⟨k - 1, by omega⟩
    simp only [sluicegateref02_one.l0]
    have ha : i < l.length := by omega
    have h0 := rdB (l := l) (k := 0) (by omega)
    rw [Int.natCast_zero] at h0
    rw [if_pos (by omega), if_pos (by omega), if_pos (by omega), rdB ha, h0, drop_str ha, wrap_succ i (by omega), ih k (i + 1) (by omega) (by omega), List.all_cons]
    show (if ((strAt l i).size : Int) = (wid l : Int) then _ else _) = _
    by_cases h : (strAt l i).size = wid l
    · rw [if_pos (by omega), h]
      simp
    · rw [if_neg (by omega)]
      simp [h]
theorem one_f (l : List ByteArray) (hb : l.length < 2 ^ 62) (k : Nat) (hk : l.length < k) : sluicegateref02_one.f k l = some (evenB l) := by
  unfold sluicegateref02_one.f
  have := one_l0 l hb l.length k 0 (by omega) hk
  rw [List.drop_zero] at this
  exact this
theorem factor_f (i j : Nat) (hi : i ≤ 8) (hj : j ≤ 5) (k : Nat) (hk : 300 ≤ k) : sluicegateref02_Factor.f k (i : Int) (j : Int) = some (fac i j : Int) := by
  unfold sluicegateref02_Factor.f fac
  by_cases h6 : 6 ≤ i
  · have hx := xor_lt16 ⟨i, by omega⟩ ⟨j, by omega⟩
    simp only at hx
    have h1 := rover_f 1 (i ^^^ j) k (by omega) (by omega) hk
    rw [if_neg (by omega), if_pos h6, bits_xor64 i j (by omega) (by omega), Int.emod_eq_of_lt (by omega) (by omega)]
    rw [if_neg (by have := hx.2 h6; omega)] at h1
    have h1 : sluicegateref01_Over.f k 1 ((i ^^^ j : Nat) : Int) = _ := h1
    rw [h1]
    rfl
  · rw [if_pos (by omega), if_neg h6]
    by_cases he : i = j
    · rw [if_pos (by omega), if_pos he]; rfl
    · rw [if_neg (by omega), if_neg he]; rfl
theorem frow_get (i j : Nat) (hj : j < 6) : (frow i).getD j 0 = fac i j := by
  unfold frow
  rw [List.getD_eq_getElem?_getD, List.getElem?_map, List.getElem?_range hj]
  rfl
theorem bt_byt (s : ByteArray) (p : Nat) (h : p < s.size) : bt s (p : Int) = (byt s p : Int) := by
  rw [byt_eq s p h]
  simp [bt, h]
theorem shard_l1 (l : List ByteArray) (h6 : l.length = 6) (i : Nat) (hi : i ≤ 8) (xs : List Int) (p : Nat) (hx : xs.length < 140737488355328) (hp : ∀ j, j < 6 → p < (strAt l j).size) (hp2 : p < 2 ^ 62) (n : Nat) : ∀ (k j : Nat), j + n = 6 → n + 310 < k → sluicegateref02_shard.l1 k l (i : Int) xs (p : Int) (accAt (frow i) l j p : Int) (j : Int) = sluicegateref02_shard.l0 (k - (n + 1)) l (i : Int) (xs ++ [(accAt (frow i) l 6 p : Int)]) ((p + 1 : Nat) : Int) := by
  induction n with
  | zero =>
    intro k j hj hk
    obtain ⟨k, rfl⟩ : ∃ m, k = m + 1 := ⟨k - 1, by omega⟩
    obtain rfl : j = 6 := by omega
    simp only [sluicegateref02_shard.l1]
    rw [if_neg (by omega), if_pos (by omega), wrap_succ p hp2]
    rfl
  | succ n ih =>
    intro k j hj hk
    obtain ⟨k, rfl⟩ : ∃ m, k = m + 1 := ⟨k - 1, by omega⟩
    have hj6 : j < 6 := by omega
    simp only [sluicegateref02_shard.l1]
    rw [if_pos (by omega), factor_f i j hi (by omega) k (by omega)]
    simp only [Option.bind_some]
    rw [if_pos (by omega), if_pos (by omega), if_pos (by omega), rdB (by omega), if_pos (by have := hp j hj6; omega), bt_byt _ _ (hp j hj6), rtimes_f _ _ k (fac_le i j) (byt_le _ _) (by omega)]
    simp only [Option.bind_some]
    rw [bits_xor8 _ _ (accAt_le _ _ _ _) (tim_le _ _), wrap_succ j (by omega)]
    have e : accAt (frow i) l j p ^^^ tim (fac i j) (byt (strAt l j) p) = accAt (frow i) l (j + 1) p := by rw [accAt_succ, frow_get i j hj6]
    rw [e, ih k (j + 1) (by omega) (by omega)]
    congr 1
    omega
def shN (l : List ByteArray) (i p : Nat) : List Int := (List.range p).map fun q => (accAt (frow i) l 6 q : Int)
theorem shN_succ (l : List ByteArray) (i p : Nat) : shN l i p ++ [(accAt (frow i) l 6 p : Int)] = shN l i (p + 1) := by
  unfold shN
  rw [List.range_succ, List.map_append]
  rfl
theorem strOf_sh (l : List ByteArray) (h6 : l.length = 6) (i : Nat) : strOfNums (shN l i (wid l)) = mixS (frow i) l := by
  unfold strOfNums mixS mixL shN B
  rw [List.map_map, h6]
  congr 2
theorem shard_l0 (l : List ByteArray) (h6 : l.length = 6) (he : evenB l = true) (hw : wid l ≤ 140737488355328) (i : Nat) (hi : i ≤ 8) (n : Nat) : ∀ (k p : Nat), p + n = wid l → 8 * n + 400 < k → sluicegateref02_shard.l0 k l (i : Int) (shN l i p) (p : Int) = some (mixS (frow i) l) := by
  have h0 := rdB (l := l) (k := 0) (by omega)
  rw [Int.natCast_zero] at h0
  induction n with
  | zero =>
    intro k p hp hk
    obtain ⟨k, rfl⟩ : ∃ m, k = m + 1 := ⟨k - 1, by omega⟩
    obtain rfl : p = wid l := by omega
    simp only [sluicegateref02_shard.l0]
    rw [if_pos (by omega), h0, if_neg (by show ¬ ((wid l : Int) < (wid l : Int)); omega), strOf_sh l h6]
  | succ n ih =>
    intro k p hp hk
    obtain ⟨k, rfl⟩ : ∃ m, k = m + 1 := ⟨k - 1, by omega⟩
    simp only [sluicegateref02_shard.l0]
    have h1 := shard_l1 l h6 i hi (shN l i p) p (by simp [shN]; omega) (fun j hj => by
      rw [evenB_size he (by rw [strAt_eq (by omega)]; exact List.getElem_mem _)]; omega) (by omega) 6 k 0 (by omega) (by omega)
    rw [if_pos (by omega), h0, if_pos (by show ((p : Int) < (wid l : Int)); omega)]
    have h1 : sluicegateref02_shard.l1 k l (i : Int) (shN l i p) (p : Int) 0 0 = _ := h1
    rw [h1, shN_succ]
    exact ih _ (p + 1) (by omega) (by omega)
theorem shard_f (l : List ByteArray) (h6 : l.length = 6) (he : evenB l = true) (hw : wid l ≤ 140737488355328) (i : Nat) (hi : i ≤ 8) (k : Nat) (hk : 8 * wid l + 400 < k) : sluicegateref02_shard.f k l (i : Int) = some (mixS (frow i) l) := by
  unfold sluicegateref02_shard.f
  exact shard_l0 l h6 he hw i hi (wid l) k 0 (by omega) hk
theorem enc_l0 (l : List ByteArray) (h6 : l.length = 6) (he : evenB l = true) (hw : wid l ≤ 140737488355328) (n : Nat) : ∀ (k i : Nat), i + n = 9 → 8 * wid l + 410 + n < k → sluicegateref02_Encode.l0 k l (encK l i) (i : Int) = some (encL l, 0) := by
  induction n with
  | zero =>
    intro k i hi hk
    obtain ⟨k, rfl⟩ : ∃ m, k = m + 1 := ⟨k - 1, by omega⟩
    obtain rfl : i = 9 := by omega
    simp only [sluicegateref02_Encode.l0]
    rw [if_neg (by omega)]
    rfl
  | succ n ih =>
    intro k i hi hk
    obtain ⟨k, rfl⟩ : ∃ m, k = m + 1 := ⟨k - 1, by omega⟩
    simp only [sluicegateref02_Encode.l0]
    rw [if_pos (by omega), shard_f l h6 he hw i (by omega) k (by omega)]
    simp only [Option.bind_some]
    rw [if_pos (by rw [encK_len]; omega), encK_succ, wrap_succ i (by omega)]
    exact ih k (i + 1) (by omega) (by omega)
theorem enc_f (l : List ByteArray) (hl : l.length < 2 ^ 62) (hw : wid l ≤ 140737488355328) (k : Nat) (hk : 8 * wid l + l.length + 430 < k) : sluicegateref02_Encode.f k l = some (encR l) := by
  obtain ⟨k, rfl⟩ : ∃ m, k = m + 1 := ⟨k - 1, by omega⟩
  unfold sluicegateref02_Encode.f encR
  by_cases h6 : l.length = 6
  · rw [if_pos (by omega), one_f l hl _ (by omega)]
    simp only [Option.bind_some, sluicegateref02_Encode.j0]
    cases he : evenB l with
    | false => simp
    | true =>
      rw [if_neg (by simp), if_pos ⟨h6, rfl⟩]
      exact enc_l0 l h6 he hw 9 k 0 (by omega) (by omega)
  · rw [if_neg (by omega), if_neg (fun h => h6 h.1)]
    simp [sluicegateref02_Encode.j0]
theorem take_wid (l : List ByteArray) (k : Nat) (hk : 0 < k) : wid (l.take k) = wid l := by
  unfold wid strAt
  rw [List.getD_eq_getElem?_getD, List.getD_eq_getElem?_getD, List.getElem?_take, if_pos hk]
theorem is_f (l : List ByteArray) (hl : l.length < 2 ^ 62) (hw : wid l ≤ 140737488355328) (k : Nat) (hk : 8 * wid l + l.length + 450 < k) : sluicegateref02_Is.f k l = some (isB l) := by
  unfold sluicegateref02_Is.f isB
  by_cases h9 : l.length = 9
  · have ht : (l.take 6).length = 6 := by rw [List.length_take]; omega
    rw [if_pos (by omega), if_pos (by omega), enc_f (l.take 6) (by omega) (by rw [take_wid _ _ (by omega)]; exact hw) k (by rw [take_wid _ _ (by omega), ht]; omega)]
    simp only [Option.bind_some]
    unfold encR
    cases he : evenB (l.take 6) with
    | false =>
      rw [if_neg (by simp)]
      simp
    | true =>
      rw [if_pos (by rw [if_pos ⟨ht, rfl⟩]), if_pos ⟨ht, rfl⟩]
      rw [same_f _ _ (by rw [encL_len]; omega) k (by rw [encL_len]; omega)]
      simp [h9]
  · rw [if_neg (by omega)]
    simp [h9]
end Go.Proofs.Ytlaflbjlgkdacaa
end
section
namespace Go.Proofs.Ytlaflbjlgkdacaa
open Go.RowKit Q Go.Proofs.YtlaflbjlgkdacaaW.PrintWords Go.Proofs.YtlaflbjlgkdacaaW.PrintLast Go.Proofs.YtlaflbjlgkdacaaW.PrintMore
theorem strs_take {w : World} {A : Option Addr} {l : List ByteArray} (h : Kd.C Kd.string w A l.length l) (k : Nat) (hk : k ≤ l.length) : Kd.C Kd.string w A (l.take k).length (l.take k) := by
  have hl : (l.take k).length = k := by rw [List.length_take]; omega
  refine ⟨rfl, by have := h.2.1; omega, fun hp => ?_⟩
  obtain ⟨ad, e, hc⟩ := h.2.2 (by omega)
  refine ⟨ad, e, fun j p hj => hc j p ?_⟩
  rw [List.getElem?_take] at hj
  by_cases hjk : j < k
  · rw [if_pos hjk] at hj
    exact hj
  · rw [if_neg hjk] at hj
    exact absurd hj (by simp)
set_option maxRecDepth 100000 in
set_option maxHeartbeats 1000000 in
theorem is_calls (g : Nat) (A : Option Addr) (c : Nat) (l : List ByteArray) (w : World) (hI : IsTab w g) (hC : Kd.C Kd.string w A l.length l) (hc : l.length ≤ c) (hz : ∀ s ∈ l, s.size ≤ 140737488355328) :
    Calls Try.prog 15 #[.pointer (some ⟨g, 0, none⟩), .slice A l.length c] w fun e w' => e = .returned (.bool (isB l)) ∧ Below w.heap.size w w' := by
  have hmx : l.length ≤ 9223372036854775807 := Kd.C_max hC
  by_cases h9 : l.length = 9
  · have ht : (l.take 6).length = 6 := by rw [List.length_take]; omega
    have HE := encode_calls g A c (l.take 6) w hI (strs_take hC 6 (by omega)) (by omega) (fun s hs => hz s (List.mem_of_mem_take hs))
    rw [ht] at HE
    have h9n : ((l.length : Int) != 9) = false := by rw [h9]; rfl
    have hc6 : 6 ≤ c := by omega
    have HC := Aside0.mk hC
    have HL := Lib.hid hc
    clear hI hC hc hz ht
    cases he : evenB (l.take 6) with
    | false =>
      have HR := Lib.hid (show isB l = false by unfold isB; rw [he]; simp)
      have hr : encR (l.take 6) = ([], 1) := by unfold encR; rw [if_neg (by rw [he]; simp)]
      rw [hr] at HE
      clear he hr h9
      go_enter Try.func15, Try.ntmps15
      go_wp2_with (go_at_call 12; refine HE.mono ?_; rintro e w' ⟨A1, c1, rfl, hO, hB⟩)
      go_ret
      exact ⟨by rw [HR.out]; rfl, hB⟩
    | true =>
      have hr : encR (l.take 6) = (encL (l.take 6), 0) := by unfold encR; rw [if_pos ⟨by rw [List.length_take]; omega, he⟩]
      rw [hr] at HE
      have HR := Lib.hid (show isB l = decide (encL (l.take 6) = l) by unfold isB; rw [he, h9]; simp)
      have HQ := fun (A1 : Option Addr) (c1 : Nat) (w1 : World) (h1 : Kd.C Kd.string w1 A1 (encL (l.take 6)).length (encL (l.take 6))) (h2 : (encL (l.take 6)).length ≤ c1) (h3 : Kd.C Kd.string w1 A l.length l) => slices_Equal_string_string.calls 10 A1 c1 (encL (l.take 6)) A c l _ w1 h1 h2 h3 HL.out (eqS_f _ _ (by rw [encL_len]; omega) 10 (by rw [encL_len]; omega))
      clear he hr h9
      generalize encL (l.take 6) = L at *
      obtain ⟨q, hq⟩ : ∃ q, decide (L = l) = q := ⟨_, rfl⟩
      rw [hq] at HQ HR
      have HQ := Aside0.mk HQ
      clear hq
      go_enter Try.func15, Try.ntmps15
      go_wp2_with (first | (go_at_call 12; refine HE.mono ?_; rintro e w' ⟨A1, c1, rfl, hO, hB⟩; have h2 := Kd.R_reads' hO; have HX := HQ.out A1 c1 w' h2.2.2 h2.2.1 (Kd.C_below HC.out hB); have HX := Aside0.mk HX; have G2 := Aside0.mk hB; clear hO hB h2) | (go_at_call 27; refine HX.out.mono ?_; rintro e w2 ⟨rfl, hd⟩; have G2 := Aside0.mk (below2 G2.out G2.out.size hd.below); clear hd))
      go_ret
      exact ⟨by rw [HR.out]; rfl, G2.out⟩
  · have h9n : ((l.length : Int) != 9) = true := by rw [bne_iff_ne]; omega
    have HR := Lib.hid (show isB l = false by unfold isB; rw [decide_eq_false h9]; rfl)
    have h9 := Lib.hid h9
    go_enter Try.func15, Try.ntmps15
    go_wp2_with fail
    go_ret
    exact ⟨by rw [HR.out]; rfl, Below.refl _ _⟩
end Go.Proofs.Ytlaflbjlgkdacaa
end
section
namespace Go.Proofs.Ytlaflbjlgkdacaa
open Go.RowKit Q Go.Proofs.YtlaflbjlgkdacaaW.PrintWords Go.Proofs.YtlaflbjlgkdacaaW.PrintLast Go.Proofs.YtlaflbjlgkdacaaW.PrintMore
def idx (h : List Bool) : List Nat := (List.range h.length).filter fun i => h.getD i false
def idxK (h : List Bool) (k : Nat) : List Nat := (List.range k).filter fun i => h.getD i false
theorem idxK_succ (h : List Bool) (k : Nat) : idxK h (k + 1) = idxK h k ++ if h.getD k false = true then [k] else [] := by
  unfold idxK
  rw [List.range_succ, List.filter_append]
  congr 1
  simp [List.filter_cons]
theorem idxK_len (h : List Bool) (k : Nat) : (idxK h k).length ≤ k := by
  have := List.length_filter_le (fun i => h.getD i false) (List.range k)
  simpa [idxK] using this
def leftL (l : List ByteArray) (h : List Bool) : List ByteArray := (idx h).map (strAt l)
def dataK (R : List (List Nat)) (l : List ByteArray) (k : Nat) : List ByteArray := (List.range k).map fun i => mixS (rowAt R i) l
theorem dataK_succ (R : List (List Nat)) (l : List ByteArray) (k : Nat) : dataK R l k ++ [mixS (rowAt R k) l] = dataK R l (k + 1) := by
  unfold dataK
  rw [List.range_succ, List.map_append]
  rfl
theorem dataK_len (R : List (List Nat)) (l : List ByteArray) (k : Nat) : (dataK R l k).length = k := by simp [dataK]
def dataL (l : List ByteArray) (h : List Bool) : List ByteArray := dataK (solveN (((idx h).take 6).map frow)) ((leftL l h).take 6) 6
def fillR (l : List ByteArray) (h : List Bool) : List ByteArray × Int :=
  if l.length = 9 ∧ h.length = 9 then
    if evenB (leftL l h) = true then if (idx h).length < 6 then ([], 2) else encR (dataL l h) else ([], 1)
  else ([], 1)
def kPtr : Kd Nat := Kd.scalar sl (fun _ => rfl)
theorem infoPtr : (Try.prog.info? 51).map (fun i => (i.zero, i.size, i.bytes)) = some (some (.slice none 0 0), 1, 24) := by kernel_rfl
theorem R_step_typed {α : Type} {d : Kd α} {e base : Nat} {W W1 : World} {ok : Nat → Prop} {v : Value} {xs : List α} {row : Option Nat} (h : d.R e W base ok v xs) (hg : W.grownBy W1 row) (t : TypeId) (hrow : ∀ k, row = some k → ∃ cells, W.heap[k]? = some (.cells cells t (0, 0))) (ht : ∀ q, q ∈ e :: d.E → q ≠ t) : d.R e W1 base ok v xs :=
  Kd.R_mono (Kd.R_move (Kd.R_bound h) (fun k hk => hg.block k hk.2.2.1 (fun e' => by
    obtain ⟨_, _, _, q, hq, cells, hc⟩ := hk
    obtain ⟨cells2, hc2⟩ := hrow k e'.symm
    rw [hc] at hc2
    injection hc2 with hc2
    injection hc2 with _ hc2
    exact ht q hq hc2))) (fun _ hk => hk.1)
theorem box_step_typed {W W1 : World} {B : Nat} {T : TypeId} {v : Value} {row : Option Nat} (h : Boxed W B T v) (hg : W.grownBy W1 row) (t : TypeId) (hrow : ∀ k, row = some k → ∃ cells, W.heap[k]? = some (.cells cells t (0, 0))) (ht : T ≠ t) : Boxed W1 B T v :=
  h.kept hg (fun e => by
    obtain ⟨cells2, hc2⟩ := hrow B e.symm
    rw [show W.heap[B]? = _ from h] at hc2
    injection hc2 with hc2
    injection hc2 with _ hc2
    exact ht hc2)
theorem row_step_typed {W W1 : World} {b : Nat} {xs : List Nat} {row : Option Nat} (h : RowN W b xs) (hg : W.grownBy W1 row) (t : TypeId) (hrow : ∀ k, row = some k → ∃ cells, W.heap[k]? = some (.cells cells t (0, 0))) (ht : 5 ≠ t) : RowN W1 b xs :=
  h.grown hg (fun e => by
    obtain ⟨cells2, hc2⟩ := hrow b e.symm
    rw [show W.heap[b]? = _ from h] at hc2
    injection hc2 with hc2
    injection hc2 with _ hc2
    exact ht hc2)
structure Fi (g Bt Bs BL BR : Nat) (S : Value) (w0 : World) (uL uR vL vR : Value) (LL : List ByteArray) (IX P : List Nat) (W : World) : Prop where
  bt : Boxed W Bt 22 (.pointer (some ⟨g, 0, none⟩))
  bs : Boxed W Bs 30 S
  bl : Boxed W BL 30 uL
  br : Boxed W BR 54 uR
  oL : Kd.R Kd.string 9 W w0.heap.size (fun k => w0.heap.size ≤ k) vL LL
  oR : Kd.R kPtr 51 W w0.heap.size (fun k => w0.heap.size ≤ k) vR P
  lP : P.length = IX.length
  rw : ∀ i, i < P.length → RowN W (P.getD i 0) (frow (IX.getD i 0))
  nd : P.Nodup
  sP : ∀ x ∈ P, w0.heap.size ≤ x ∧ x < W.heap.size
  bw : Below w0.heap.size w0 W
  ns : Bs ≠ BL
  nl : w0.heap.size ≤ BL
  nr : w0.heap.size ≤ BR
section
variable {g Bt Bs BL BR : Nat} {S : Value} {w0 W W1 : World} {uL uR vL vR : Value} {LL : List ByteArray} {IX P : List Nat}
theorem Fi.step (h : Fi g Bt Bs BL BR S w0 uL uR vL vR LL IX P W) {row : Option Nat} (hg : W.grownBy W1 row) (t : TypeId) (hrow : ∀ k, row = some k → w0.heap.size ≤ k ∧ ∃ cells, W.heap[k]? = some (.cells cells t (0, 0))) (ht : t ≠ 22 ∧ t ≠ 30 ∧ t ≠ 54 ∧ t ≠ 9 ∧ t ≠ 51 ∧ t ≠ 5) : Fi g Bt Bs BL BR S w0 uL uR vL vR LL IX P W1 :=
  have hr := fun k e => (hrow k e).2
  { h with
    bt := box_step_typed h.bt hg t hr (Ne.symm ht.1)
    bs := box_step_typed h.bs hg t hr (Ne.symm ht.2.1)
    bl := box_step_typed h.bl hg t hr (Ne.symm ht.2.1)
    br := box_step_typed h.br hg t hr (Ne.symm ht.2.2.1)
    oL := R_step_typed h.oL hg t hr (fun q hq => by rcases List.mem_cons.1 hq with rfl | hq; exact Ne.symm ht.2.2.2.1; cases hq)
    oR := R_step_typed h.oR hg t hr (fun q hq => by rcases List.mem_cons.1 hq with rfl | hq; exact Ne.symm ht.2.2.2.2.1; cases hq)
    rw := fun i hi => row_step_typed (h.rw i hi) hg t hr (Ne.symm ht.2.2.2.2.2)
    sP := fun x hx => ⟨(h.sP x hx).1, Nat.lt_of_lt_of_le (h.sP x hx).2 hg.size⟩
    bw := h.bw.grown hg h.bw.size (fun k e => (hrow k e).1) }
theorem Fi.below (h : Fi g Bt Bs BL BR S w0 uL uR vL vR LL IX P W) (b : Below W.heap.size W W1) : Fi g Bt Bs BL BR S w0 uL uR vL vR LL IX P W1 :=
  h.step (grown_below b none) 0 (fun k e => by cases e) (by decide)
theorem Fi.calm (h : Fi g Bt Bs BL BR S w0 uL uR vL vR LL IX P W) {row : Option Nat} (hg : W.grownBy W1 row) (hr : ∀ r, row = some r → w0.heap.size ≤ r ∧ ∃ o : Obj, W.heap[r]? = some o ∧ o.isCells = false) : Fi g Bt Bs BL BR S w0 uL uR vL vR LL IX P W1 := by
  have ne : ∀ (k : Nat) (cells : Array Value) (t : TypeId), W.heap[k]? = some (.cells cells t (0, 0)) → some k ≠ row := fun k cells t hc e => by
    obtain ⟨_, o, ho, hn⟩ := hr k e.symm
    rw [hc] at ho
    cases ho
    cases hn
  have Rk : ∀ {α : Type} {d : Kd α} {e : Nat} {v : Value} {xs : List α}, d.R e W w0.heap.size (fun k => w0.heap.size ≤ k) v xs → d.R e W1 w0.heap.size (fun k => w0.heap.size ≤ k) v xs := fun hR =>
    Kd.R_mono (Kd.R_move (Kd.R_bound hR) (fun k hk => hg.block k hk.2.2.1 (by
      obtain ⟨_, _, _, q, _, cells, hc⟩ := hk
      exact ne k cells q hc))) (fun _ hk => hk.1)
  exact
  { h with
    bt := h.bt.kept hg (ne _ _ _ h.bt)
    bs := h.bs.kept hg (ne _ _ _ h.bs)
    bl := h.bl.kept hg (ne _ _ _ h.bl)
    br := h.br.kept hg (ne _ _ _ h.br)
    oL := Rk h.oL
    oR := Rk h.oR
    rw := fun i hi => (h.rw i hi).grown hg (ne _ _ _ (h.rw i hi))
    sP := fun x hx => ⟨(h.sP x hx).1, Nat.lt_of_lt_of_le (h.sP x hx).2 hg.size⟩
    bw := h.bw.grown hg h.bw.size (fun k e => (hr k e).1) }
theorem Fi.left (h : Fi g Bt Bs BL BR S w0 uL uR vL vR LL IX P W) {v1 : Value} {s : ByteArray} (hR : Kd.R Kd.string 9 W1 w0.heap.size (fun k => w0.heap.size ≤ k) v1 (LL ++ [s])) (hg : W.grownBy W1 vL.ownBlock) : Fi g Bt Bs BL BR S w0 uL uR v1 vR (LL ++ [s]) IX P W1 :=
  have hr : ∀ k, vL.ownBlock = some k → ∃ cells, W.heap[k]? = some (.cells cells 9 (0, 0)) := fun k e => Kd.R_typed h.oL k e
  { h with
    bt := box_step_typed h.bt hg _ hr (by decide)
    bs := box_step_typed h.bs hg _ hr (by decide)
    bl := box_step_typed h.bl hg _ hr (by decide)
    br := box_step_typed h.br hg _ hr (by decide)
    oL := hR
    oR := R_step_typed h.oR hg _ hr (fun q hq => by rcases List.mem_cons.1 hq with rfl | hq; decide; cases hq)
    rw := fun i hi => row_step_typed (h.rw i hi) hg _ hr (by decide)
    sP := fun x hx => ⟨(h.sP x hx).1, Nat.lt_of_lt_of_le (h.sP x hx).2 hg.size⟩
    bw := h.bw.grown hg h.bw.size (fun k e => h.oL.1 k e) }
theorem Fi.row (h : Fi g Bt Bs BL BR S w0 uL uR vL vR LL IX P W) {v1 : Value} {b i : Nat} (hR : Kd.R kPtr 51 W1 w0.heap.size (fun k => w0.heap.size ≤ k) v1 (P ++ [b])) (hg : W.grownBy W1 vR.ownBlock) (hb : RowN W b (frow i)) (hn : ∀ x ∈ P, x < b) (hs : w0.heap.size ≤ b) : Fi g Bt Bs BL BR S w0 uL uR vL v1 LL (IX ++ [i]) (P ++ [b]) W1 :=
  have hr : ∀ k, vR.ownBlock = some k → ∃ cells, W.heap[k]? = some (.cells cells 51 (0, 0)) := fun k e => Kd.R_typed h.oR k e
  have hb1 := row_step_typed hb hg _ hr (by decide)
  { h with
    bt := box_step_typed h.bt hg _ hr (by decide)
    bs := box_step_typed h.bs hg _ hr (by decide)
    bl := box_step_typed h.bl hg _ hr (by decide)
    br := box_step_typed h.br hg _ hr (by decide)
    oL := R_step_typed h.oL hg _ hr (fun q hq => by rcases List.mem_cons.1 hq with rfl | hq; decide; cases hq)
    oR := hR
    lP := by rw [List.length_append, List.length_append, h.lP]; rfl
    rw := fun j hj => by
      rw [List.length_append, List.length_singleton] at hj
      by_cases hjp : j < P.length
      · have e1 : (P ++ [b]).getD j 0 = P.getD j 0 := by simp [List.getD_eq_getElem?_getD, List.getElem?_append_left hjp]
        have e2 : (IX ++ [i]).getD j 0 = IX.getD j 0 := by simp [List.getD_eq_getElem?_getD, List.getElem?_append_left (show j < IX.length by rw [← h.lP]; exact hjp)]
        rw [e1, e2]
        exact row_step_typed (h.rw j hjp) hg _ hr (by decide)
      · obtain rfl : j = P.length := by omega
        have e1 : (P ++ [b]).getD P.length 0 = b := by simp [List.getD_eq_getElem?_getD]
        have e2 : (IX ++ [i]).getD P.length 0 = i := by rw [h.lP]; simp [List.getD_eq_getElem?_getD]
        rw [e1, e2]
        exact hb1
    nd := by
      rw [List.nodup_append]
      refine ⟨h.nd, by simp, fun x hx y hy => ?_⟩
      rw [List.mem_singleton] at hy
      have := hn x hx
      omega
    sP := fun x hx => by
      rcases List.mem_append.1 hx with hx | hx
      · exact ⟨(h.sP x hx).1, Nat.lt_of_lt_of_le (h.sP x hx).2 hg.size⟩
      · rw [List.mem_singleton] at hx
        subst hx
        exact ⟨hs, hb1.lt⟩
    bw := h.bw.grown hg h.bw.size (fun k e => h.oR.1 k e) }
theorem Fi.put (h : Fi g Bt Bs BL BR S w0 uL uR vL vR LL IX P W) (xL xR : Value) : Fi g Bt Bs BL BR S w0 xL xR vL vR LL IX P ((W.setCell ⟨BL, 0, none⟩ xL).setCell ⟨BR, 0, none⟩ xR) := by
  have g1 := grown_set W BL 0 xL
  have g2 := grown_set (W.setCell ⟨BL, 0, none⟩ xL) BR 0 xR
  have r1 : ∀ k, some BL = some k → ∃ cells, W.heap[k]? = some (.cells cells 30 (0, 0)) := fun k e => by injection e with e; subst e; exact ⟨_, h.bl⟩
  have hbr : Boxed (W.setCell ⟨BL, 0, none⟩ xL) BR 54 uR := box_step_typed h.br g1 _ r1 (by decide)
  have r2 : ∀ k, some BR = some k → ∃ cells, (W.setCell ⟨BL, 0, none⟩ xL).heap[k]? = some (.cells cells 54 (0, 0)) := fun k e => by injection e with e; subst e; exact ⟨_, hbr⟩
  exact
  { h with
    bt := box_step_typed (box_step_typed h.bt g1 _ r1 (by decide)) g2 _ r2 (by decide)
    bs := box_step_typed (h.bs.kept g1 (fun e => h.ns (by injection e))) g2 _ r2 (by decide)
    bl := box_step_typed (h.bl.set xL) g2 _ r2 (by decide)
    br := hbr.set xR
    oL := R_step_typed (R_step_typed h.oL g1 _ r1 (fun q hq => by rcases List.mem_cons.1 hq with rfl | hq; decide; cases hq)) g2 _ r2 (fun q hq => by rcases List.mem_cons.1 hq with rfl | hq; decide; cases hq)
    oR := R_step_typed (R_step_typed h.oR g1 _ r1 (fun q hq => by rcases List.mem_cons.1 hq with rfl | hq; decide; cases hq)) g2 _ r2 (fun q hq => by rcases List.mem_cons.1 hq with rfl | hq; decide; cases hq)
    rw := fun i hi => row_step_typed (row_step_typed (h.rw i hi) g1 _ r1 (by decide)) g2 _ r2 (by decide)
    sP := fun x hx => ⟨(h.sP x hx).1, by have := (h.sP x hx).2; simpa using this⟩
    bw := (h.bw.setCell (p := ⟨BL, 0, none⟩) h.nl _).setCell (p := ⟨BR, 0, none⟩) h.nr _ }
theorem Fi.ptr (h : Fi g Bt Bs BL BR S w0 uL uR vL vR LL IX P W) (h0 : 0 < P.length) : ∃ gR cR, vR = .slice (some ⟨gR, 0, none⟩) P.length cR ∧ w0.heap.size ≤ gR ∧ Ptr W gR P ∧ P.length ≤ cR := by
  have ho := Kd.own_of_R (h1 := fun _ => rfl) h.oR
  rcases ho.2 with ⟨_, e⟩ | ⟨g1, cap, cur, hv, hb, hg, hnc, hcm, hcs, htk⟩
  · omega
  · refine ⟨g1, cap, hv, hb, ⟨cur, hg, fun i hi => ?_⟩, hnc⟩
    have e : (encs sl P)[i]? = some (sl (P.getD i 0)) := by simp [encs, List.getD_eq_getElem?_getD, List.getElem?_eq_getElem hi]
    rw [← htk, List.getElem?_take] at e
    split at e
    · simpa using e
    · cases e
theorem rowAt_map (IX : List Nat) (i : Nat) (hi : i < IX.length) : rowAt (IX.map frow) i = frow (IX.getD i 0) := by
  unfold rowAt
  rw [List.getD_eq_getElem?_getD, List.getElem?_map, List.getElem?_eq_getElem hi, List.getD_eq_getElem?_getD, List.getElem?_eq_getElem hi]
  rfl
theorem getD_take (L : List Nat) (k i : Nat) (hi : i < k) : (L.take k).getD i 0 = L.getD i 0 := by
  rw [List.getD_eq_getElem?_getD, List.getD_eq_getElem?_getD, List.getElem?_take, if_pos hi]
theorem Ptr.take {w : World} {g : Nat} {P : List Nat} (h : Ptr w g P) (k : Nat) : Ptr w g (P.take k) := by
  obtain ⟨cur, hg, hc⟩ := h
  refine ⟨cur, hg, fun i hi => ?_⟩
  rw [List.length_take] at hi
  rw [getD_take _ _ _ (by omega)]
  exact hc i (by omega)
theorem Wf.frows (IX : List Nat) (h : IX.length = 6) : Wf (IX.map frow) := by
  refine ⟨by simp [h], fun i hi => ?_⟩
  rw [rowAt_map _ _ (by omega)]
  exact ⟨frow_len _, frow_le _⟩
theorem Fi.solved (h : Fi g Bt Bs BL BR S w0 uL uR vL vR LL IX P W) {gR k : Nat} (hp : Ptr W gR P) (hF : Fr gR (P.take k) W W1) (hgR : w0.heap.size ≤ gR) :
    Boxed W1 Bt 22 (.pointer (some ⟨g, 0, none⟩)) ∧ Boxed W1 BL 30 uL ∧ Kd.R Kd.string 9 W1 w0.heap.size (fun k => w0.heap.size ≤ k) vL LL ∧ Below w0.heap.size w0 W1 ∧ (∀ (D : Nat) (o : Obj), W.heap[D]? = some o → o.isCells = false → W1.heap[D]? = some o) := by
  have ne : ∀ (D : Nat) (o : Obj), W.heap[D]? = some o → (∀ cells, o ≠ .cells cells 51 (0, 0)) → (∀ cells, o ≠ .cells cells 5 (0, 0)) → W1.heap[D]? = some o := fun D o ho h1 h2 => by
    refine (hF.block D (Array.getElem?_eq_some_iff.1 ho).1 ?_ ?_).trans ho
    · rintro rfl
      obtain ⟨cur, hg, _⟩ := hp
      rw [hg] at ho
      injection ho with ho
      exact h1 cur ho.symm
    · intro hm
      obtain ⟨i, hi, rfl⟩ := List.getElem_of_mem (List.mem_of_mem_take hm)
      have hr : W.heap[P.getD i 0]? = _ := h.rw i hi
      rw [List.getD_eq_getElem?_getD, List.getElem?_eq_getElem hi] at hr
      have hr : W.heap[P[i]]? = _ := hr
      rw [hr] at ho
      injection ho with ho
      exact h2 _ ho.symm
  refine ⟨ne _ _ h.bt (by intro c e; injection e with _ e; exact absurd e (by decide)) (by intro c e; injection e with _ e; exact absurd e (by decide)), ne _ _ h.bl (by intro c e; injection e with _ e; exact absurd e (by decide)) (by intro c e; injection e with _ e; exact absurd e (by decide)), ?_, ?_, ?_⟩
  · refine Kd.R_mono (Kd.R_move (Kd.R_bound h.oL) (fun k hk => ?_)) (fun _ hk => hk.1)
    obtain ⟨_, _, _, q, hq, cells, hc⟩ := hk
    rcases List.mem_cons.1 hq with rfl | hq
    · rw [hc]
      exact ne _ _ hc (by intro c e; injection e with _ e; exact absurd e (by decide)) (by intro c e; injection e with _ e; exact absurd e (by decide))
    · cases hq
  · refine ⟨hF.os.trans h.bw.os, hF.tape.trans h.bw.tape, hF.output.trans h.bw.output, Nat.le_trans h.bw.size hF.size, fun k hk => (hF.block k (Nat.lt_of_lt_of_le hk h.bw.size) (by omega) (fun hm => ?_)).trans (h.bw.block k hk)⟩
    have := (h.sP k (List.mem_of_mem_take hm)).1
    omega
  · intro D o ho hn
    exact ne D o ho (by rintro c rfl; cases hn) (by rintro c rfl; cases hn)
end
end Go.Proofs.Ytlaflbjlgkdacaa
end
section
namespace Go.Proofs.Ytlaflbjlgkdacaa
open Go.RowKit
theorem wpIn_range_told {F : Fence} {n : Nat} {P : Program} {α : Type} {g : Operand} {ps : Array Tmp} {assign body : Code} {Q : Exit → Act → World → Prop} {a : Act} {w : World} (hro : F.round = none) (h1 : 1 ≤ n) {gf : Nat} {lb : Array Value} (hg : a.eval g = .func (.func gf) #[] lb) (hFg : F.fn gf) (eg : ∀ args w, (callFunc gf args).run P w = .ok (.enter gf args) w)
    {encs : α → Array Value} (V : α → World → Prop) (S : List α → Prop) (N n₀ : Nat) (hn₀ : n₀ ≤ w.heap.size) (hps : ∀ x, (encs x).size = ps.size)
    (hseq : ∀ (l : Nat) (J : List α → World → Prop) (W : World), Below w.heap.size w W → (∀ s A B, J s A → A.grownBy B none → J s B) →
      (∀ pre x W1, J pre W1 → V x W1 → pre.length < N → YieldAt F (n - 1 - 1) P l (encs x) W1 fun e W' => e = .returned (.bool true) ∧ J (pre ++ [x]) W' ∧ Below n₀ W1 W') → J [] W →
      CallsIn F (n - 1) P gf (#[.func (.yield l) #[] #[]] ++ lb) W fun e W' => (∃ v, e = .returned v) ∧ ∃ xs, S xs ∧ J xs W')
    (I : List α → World → Prop) (hI : OwnFrom w.heap.size I) (h0 : I [] w) (Ax : List α → α → Act → World → Prop) (hAx : ∀ pre x a', OwnFrom w.heap.size (fun (_ : Unit) W => Ax pre x a' W))
    (hassign : ∀ (l : Nat) (pre : List α) (x : α) (W : World) (K : Act → World → Prop), I pre W → V x W → pre.length < N → (∀ a' W', KeepsFrom w.heap.size W W' → Below n₀ W W' → Ax pre x a' W' → K a' W') →
      assign.wpIn (F.inRound l) (n - 1 - 1) P (Exit.then K (fun _ _ _ => False)) { tmps := (ps.zip (encs x)).foldl (fun t (p, v) => t.setIfInBounds p v) a.tmps, defers := [] } W)
    (hbody : ∀ (l : Nat) (pre : List α) (x : α) (a' : Act) (W : World), Ax pre x a' W → body.wpIn (F.inRound l) (n - 1 - 1) P (fun e _ W' => e = .normal ∧ KeepsFrom w.heap.size W W' ∧ Below n₀ W W' ∧ I (pre ++ [x]) W') a' W)
    (hdone : ∀ (D : Nat) (xs : List α) (W : World), w.heap.size ≤ D → S xs → I xs W → W.heap[D]? = some (.deferred (some [])) → Q .normal { a with defers := { target := .collected D, args := #[] } :: a.defers } W) :
    (Code.rangeFunc g ps assign body).wpIn F n P Q a w := by
  refine wpIn_rangeFunc fun fn hfn => ?_
  rw [hro]
  obtain ⟨mk, hmk⟩ : ∃ mk : LoopState → Option Code → Loop, mk = fun st pe => { state := st, pending := pe, fn, tmps := a.tmps, params := ps, assign, body, defers := w.heap.size } := ⟨_, rfl⟩
  obtain ⟨W1, hW1⟩ : ∃ W1, (w.alloc (.deferred (some []))).alloc (.loop (mk .ready none)) = W1 := ⟨_, rfl⟩
  have hL1 : W1.heap[w.heap.size + 1]? = some (.loop (mk .ready none)) := by
    have := World.alloc_heap_new (w.alloc (.deferred (some []))) (.loop (mk .ready none))
    rwa [World.size_alloc, hW1] at this
  have hD1 : W1.heap[w.heap.size]? = some (.deferred (some [])) := by
    rw [← hW1]
    exact (Below.heap_alloc _ _ _ (by simp)).trans (World.alloc_heap_new w _)
  have hI1 : I [] W1 := by rw [← hW1]; exact hI.alloc _ (hI.alloc _ h0)
  have hB1 : Below w.heap.size w W1 := by rw [← hW1]; exact ((Below.refl _ w).alloc (Nat.le_refl _) _).alloc (by simp) _
  refine ⟨w.heap.size + 1, [{ target := .collected w.heap.size, args := #[] }], W1, { target := .fn (.func gf) lb, args := #[.func (.yield (w.heap.size + 1)) #[] #[]] }, W1, gf, #[.func (.yield (w.heap.size + 1)) #[] #[]] ++ lb, W1, ?_, ?_, ?_, ?_, fun _ => h1, ?_⟩
  · rw [← hW1, hmk]
    exact run_enterLoop_outer _ _ _ _ _
  · simp only [resolve, hg]
    simp [go_sem]
  · intro f' hf'
    simp [Target.leads] at hf'
    subst hf'
    exact hFg
  · simp [invoke, go_sem, eg]
  · refine (hseq (w.heap.size + 1) (fun pre W => I pre W ∧ W.heap[w.heap.size + 1]? = some (.loop (mk .ready none)) ∧ W.heap[w.heap.size]? = some (.deferred (some []))) W1 hB1 ?_ ?_ ⟨hI1, hL1, hD1⟩).mono ?_
    · rintro s A B ⟨hi, hl, hd⟩ hgr
      exact ⟨hI s A B none hi hgr (fun r e => by cases e), (hgr.block _ (Array.getElem?_eq_some_iff.1 hl).1 (by simp)).trans hl, (hgr.block _ (Array.getElem?_eq_some_iff.1 hd).1 (by simp)).trans hd⟩
    · rintro pre x W ⟨hi, hl, hd⟩ hv hN
      have hy := run_yield (P := P) (args := encs x) hl (by rw [hmk]; exact hps x)
      rw [hmk] at hy
      refine ⟨fn, _, assign, body, hy, roundIn_of_wpIn hfn (hassign _ pre x W _ hi hv hN ?_)⟩
      clear hy
      intro a' Wa hk hb hax
      have hla := hk.same _ _ (by omega) hl rfl
      have hda := hk.same _ _ (Nat.le_refl _) hd rfl
      have hlt : w.heap.size + 1 < Wa.heap.size := (Array.getElem?_eq_some_iff.1 hla).1
      refine ⟨_, run_beginRound hla (by rw [hmk]), ?_⟩
      have hl2 : (Wa.putObj (w.heap.size + 1) (.loop { mk .ready none with state := .busy })).heap[w.heap.size + 1]? = some (.loop { mk .ready none with state := .busy }) := World.putObj_heap_same hlt
      have hd2 : (Wa.putObj (w.heap.size + 1) (.loop { mk .ready none with state := .busy })).heap[w.heap.size]? = some (.deferred (some [])) := (World.putObj_heap_other (by omega)).trans hda
      have hb2 := belowK_b (w := w) hn₀ Wa (w.heap.size + 1) _ (.loop { mk .ready none with state := .busy }) (by omega) hla rfl rfl
      refine wpIn_mono (hbody _ pre x a' _ ((hAx pre x a').putObj (s := ()) _ hax (by omega) hla rfl)) ?_
      rintro e a3 W3 ⟨rfl, hk3, hb3, hi3⟩
      have hl3 := hk3.same _ _ (by omega) hl2 rfl
      have hd3 := hk3.same _ _ (Nat.le_refl _) hd2 rfl
      have hr := run_endRound (P := P) none hl3
      rw [hmk] at hr hl3
      refine ⟨_, _, hr, rfl, ⟨hI.putObj _ hi3 (by omega) hl3 rfl, ?_, (World.putObj_heap_other (by omega)).trans hd3⟩, ?_⟩
      · rw [hmk]
        exact World.putObj_heap_same (Array.getElem?_eq_some_iff.1 hl3).1
      · exact (hb.trans (hb2.trans hb3)).trans (belowK_b (w := w) hn₀ W3 (w.heap.size + 1) _ _ (by omega) hl3 rfl rfl)
    · rintro e W2 ⟨⟨v, rfl⟩, xs, hS, hi, hl, hd⟩
      have hr := run_endLoop (P := P) hl (by rw [hmk]; simp)
      rw [hmk] at hr
      exact ⟨none, _, hr, hdone _ xs _ (Nat.le_refl _) hS (hI.putObj _ hi (by omega) hl rfl) ((World.putObj_heap_other (by omega)).trans hd)⟩
end Go.Proofs.Ytlaflbjlgkdacaa
end
section
namespace Go.Proofs.Ytlaflbjlgkdacaa
open Go.RowKit Go.Proofs.YtlaflbjlgkdacaaW.PrintLast
section
variable {P : Program} {ops : Array Oper} {Q : Exit → Act → World → Prop} {md : Region.Mode} {l n : Nat}
theorem rows_round {row : String} {args : Array Value} {w : World} {R : Value → World → Prop} (h : Rows P row args w R) : RowsIn (Fence.wide.inRound l) n P row args w R := by
  intro c cs _
  obtain ⟨v, w', r, s⟩ := h c cs
  exact ⟨v, w', r, stepsIn_wide.2 s⟩
theorem wp_round {o : Oper} (hd : ∀ c, o.op ≠ .defer c) {a : Act} {w : World} {K : Act → World → Prop} (h : o.wp P a w K Q) : o.wpIn (Fence.wide.inRound l) n P a w K Q := by
  refine ⟨fun _ _ => trivial, ?_⟩
  rw [Oper.semAt_eq _ _ _ hd]
  unfold Oper.wp at h
  cases hr : (execOp a.eval o).run P w with
  | ok x w' =>
    rw [hr] at h
    cases x with
    | value v => exact h
    | skip => exact h
    | defer d => exact h
    | enter f args => exact ⟨(fun hh => by cases hh), CallsIn.inRound l (callsIn_wide.2 h)⟩
    | row r args => exact ⟨(fun hh => by cases hh), rows_round h⟩
    | round _ _ _ _ _ => exact h.elim
    | _ => exact h.elim
  | halt x w' =>
    rw [hr] at h
    cases x <;> exact h
theorem wpOp_round (hd : ∀ (i : Nat) (o : Oper) c, ops[i]? = some o → o.op ≠ .defer c) (hL : ¬ LetsOut Q) {i : Nat} {K : Act → World → Prop} {a : Act} {w : World} (h : wpOp P ops Q i K a w) : wpOpIn (Fence.wide.inRound l) n P ops Q i K a w := by
  unfold wpOp at h
  unfold wpOpIn
  cases ho : ops[i]? with
  | none =>
    rw [ho] at h
    exact h
  | some o =>
    rw [ho] at h
    simp only at h ⊢
    by_cases hw : Region.wanted o (yielded ops a.tmps) = true
    · rw [if_pos hw] at h ⊢
      rcases h with h | h
      · exact wp_round (fun c => hd i o c ho) h
      · exact absurd h.2 hL
    · rw [if_neg hw] at h ⊢
      exact ⟨fun _ _ => trivial, h⟩
theorem any_round (hd : ∀ (i : Nat) (o : Oper) c, ops[i]? = some o → o.op ≠ .defer c) (hL : ¬ LetsOut Q) : ∀ (fuel : Nat) (listed : Array Bool) (a : Act) (w : World), wpAny P md ops Q fuel listed a w → wpAnyIn (Fence.wide.inRound l) n P md ops Q fuel listed a w
  | 0, _, _, _, h => h
  | fuel + 1, _, _, _, h => ⟨h.1, fun i hi => wpOpIn_mono (fun a' w' h' => any_round hd hL fuel _ a' w' h') (wpOp_round hd hL (h.2 i hi))⟩
def noDefer (o : Oper) : Bool := match o.op with
  | .defer _ => false
  | _ => true
theorem startIn_ {S : World → Prop} {ds : List Nat} {id m : Nat} {a : Act} {w : World} (hd : ops.toList.all noDefer = true) (hL : ¬ LetsOut Q) (lit : Array Bool) (hm : P.follows .mixedOrders = true) (hn : ops.size = m) (hl : Array.replicate m false = lit) (hS : S w.drew)
    (h : S w.drew → wpAnyLast P .any ops Q S ds m lit a w.drew) : (Code.region id ops true).wpIn (Fence.wide.inRound l) n P Q a w := by
  subst hn
  subst hl
  refine wpIn_region_any hm (any_round (fun i o c hi hc => ?_) hL _ _ _ _ (wpAny_of_last _ _ _ _ (h hS)))
  have h1 := List.all_eq_true.1 hd o (by
    rw [← Array.getElem?_toList] at hi
    exact List.mem_of_getElem? hi)
  unfold noDefer at h1
  rw [hc] at h1
  cases h1
end
end Go.Proofs.Ytlaflbjlgkdacaa
end
section
namespace Go.Proofs.Ytlaflbjlgkdacaa
open Go.RowKit Q Go.Proofs.YtlaflbjlgkdacaaW.PrintWords Go.Proofs.YtlaflbjlgkdacaaW.PrintLast Go.Proofs.YtlaflbjlgkdacaaW.PrintMore
attribute [local go_sem] Oper.semAt_some
theorem bool_at {w : World} {A : Option Addr} {h : List Bool} (hC : Kd.C Kd.bool w A h.length h) (k : Nat) (hk : k < h.length) : ∃ ad, A = some ad ∧ w.cell? (ad.add k) = some (.bool (h.getD k false)) := by
  obtain ⟨ad, e, hc⟩ := Kd.at_bool hC (k : Int) (by omega) (by omega)
  exact ⟨ad, e, hc⟩
theorem skip_none {F : Fence} {p : Prop} (h : p) : (∀ f : FuncId, (none : Option FuncId) = some f → F.fn f) ∧ p := ⟨(fun _ hf => by cases hf), h⟩
set_option maxRecDepth 100000 in
set_option maxHeartbeats 1000000 in
theorem there_in (n : Nat) (hn : 1 ≤ n) (l Bn : Nat) (A : Option Addr) (c : Nat) (h : List Bool) (w0 : World) (hC : Kd.C Kd.bool w0 A h.length h) (hc : h.length ≤ c) (J : List Nat → World → Prop)
    (hY : ∀ pre x W1, J pre W1 → x < h.length → pre.length < h.length → YieldAt Fence.wide (n - 1) Try.prog l #[.int .i64 ((x : Nat) : Int)] W1 fun e W' => e = .returned (.bool true) ∧ J (pre ++ [x]) W' ∧ Below w0.heap.size W1 W')
    (W : World) (hb0 : Below w0.heap.size w0 W) (hBn : W.cell? ⟨Bn, 0, none⟩ = some (.slice A h.length c)) (h0 : J [] W) :
    CallsIn Fence.wide n Try.prog 35 #[.func (.yield l) #[] #[], .pointer (some ⟨Bn, 0, none⟩)] W fun e W' => (∃ v, e = .returned v) ∧ ∃ ys : List Nat, ys = idx h ∧ J ys W' := by
  have HJ := Aside0.mk h0
  have HB := Aside0.mk hb0
  have HY := Aside0.mk hY
  have HC := Aside0.mk hC
  have hmx : h.length ≤ 9223372036854775807 := Kd.C_max hC
  clear h0 hb0 hY hC
  refine callsIn_of_wp Try.func35 rfl trivial ?_ rfl
  simp only [Try.ntmps35, List.size_toArray, List.length_cons, List.length_nil, Nat.reduceAdd, Nat.reduceSub, Array.replicate_succ, Array.replicate_zero, List.push_toArray, List.append_toArray, List.nil_append, List.cons_append]
  gi_wp2
  clear hBn
  gi_loopw [7] (fun i wr => ∃ (k : Nat), k ≤ h.length ∧ i = .int .i64 k ∧ Aside0 (J (idxK h k) wr) ∧ Aside0 (Below w0.heap.size w0 wr)) (fun i _ => h.length - (intOf i).toNat)
  case atStart => exact ⟨0, Nat.zero_le _, rfl, HJ, HB⟩
  case round =>
    clear HJ HB
    obtain ⟨k, hk, rfl, HJ, HB⟩ := hrel
    by_cases hlt : k < h.length
    · obtain ⟨ad, hA, hcell⟩ := bool_at HC.out k hlt
      replace hcell := (HB.out.cell (World.block_lt_of_cell? _ _ hcell)).trans hcell
      have HS := Lib.hid (idxK_succ h k)
      have hpl : Hid ((idxK h k).length < h.length) := Lib.hid (by have := idxK_len h k; omega)
      have hHL := Lib.hid hlt
      subst hA
      cases hq : h.getD k false with
      | false =>
        rw [hq] at hcell HS
        have HS2 := Lib.hid (show idxK h (k + 1) = idxK h k by rw [HS.out]; simp)
        clear HS hq
        gi_wp2_with (with_reducible refine skip_none ?_)
        go_roundw
        case rel => exact ⟨k + 1, hHL.out, by go_num, by rw [HS2.out]; exact HJ, HB⟩
        case measure => have := hHL.out; simp [intOf]; omega
      | true =>
        rw [hq] at hcell HS
        have HS2 := Lib.hid (show idxK h (k + 1) = idxK h k ++ [k] by rw [HS.out]; simp)
        clear HS hq
        obtain ⟨fn, tmps, assign, body, hy, hRd⟩ := HY.out (idxK h k) k wr HJ.out hlt hpl.out
        gi_wp2
        refine hRd.mono ?_
        rintro e3 W3 ⟨rfl, hJ3, hk3⟩
        gi_wp2
        go_roundw
        case rel => exact ⟨k + 1, hHL.out, by go_num, by rw [HS2.out]; exact ⟨hJ3⟩, ⟨HB.out.trans hk3⟩⟩
        case measure => have := hHL.out; simp [intOf]; omega
    · obtain rfl : k = h.length := by omega
      gi_wp2
      go_end0
      exact ⟨⟨_, rfl⟩, _, rfl, HJ.out⟩
end Go.Proofs.Ytlaflbjlgkdacaa
end
section
namespace Go.Proofs.Ytlaflbjlgkdacaa
open Go.RowKit Q Go.Proofs.YtlaflbjlgkdacaaW.PrintWords Go.Proofs.YtlaflbjlgkdacaaW.PrintLast Go.Proofs.YtlaflbjlgkdacaaW.PrintMore
attribute [local go_sem] Oper.semAt_some
theorem there_calls (A : Option Addr) (m c : Nat) (w : World) (n : Nat) : CallsIn Fence.wide n Try.prog 28 #[.slice A m c] w fun e w' => e = .returned (.func (.func 35) #[] #[.pointer (some ⟨w.heap.size, 0, none⟩)]) ∧ w' = w.alloc (.cells #[.slice A m c] 38) := by
  refine callsIn_of_wp Try.func28 rfl trivial ?_ rfl
  simp only [Try.ntmps28, List.size_toArray, List.length_cons, List.length_nil, Nat.reduceAdd, Nat.reduceSub, Array.replicate_succ, Array.replicate_zero, List.push_toArray, List.append_toArray, List.nil_append, List.cons_append]
  gi_wp2
  go_ret
  exact ⟨rfl, rfl⟩
theorem Fi.start {g : Nat} {S : Value} {w : World} {x : Value} : Fi g w.heap.size (w.heap.size + 1) (w.heap.size + 1 + 1) (w.heap.size + 1 + 1 + 1) S w (.slice none 0 0) (.slice none 0 0) (.slice none 0 0) (.slice none 0 0) [] [] [] (((((w.alloc (.cells #[.pointer (some ⟨g, 0, none⟩)] 22)).alloc (.cells #[S] 30)).alloc (.cells #[.slice none 0 0] 30)).alloc (.cells #[.slice none 0 0] 54)).alloc (.cells #[x] 38)) := by
  have e1 : (w.alloc (.cells #[.pointer (some ⟨g, 0, none⟩)] 22)).heap.size = w.heap.size + 1 := by simp
  have e2 : ((w.alloc (.cells #[.pointer (some ⟨g, 0, none⟩)] 22)).alloc (.cells #[S] 30)).heap.size = w.heap.size + 1 + 1 := by simp
  have e3 : (((w.alloc (.cells #[.pointer (some ⟨g, 0, none⟩)] 22)).alloc (.cells #[S] 30)).alloc (.cells #[.slice none 0 0] 30)).heap.size = w.heap.size + 1 + 1 + 1 := by simp
  have b1 := Boxed.new w 22 (.pointer (some ⟨g, 0, none⟩))
  have b2 := Boxed.new (w.alloc (.cells #[.pointer (some ⟨g, 0, none⟩)] 22)) 30 S
  have b3 := Boxed.new ((w.alloc (.cells #[.pointer (some ⟨g, 0, none⟩)] 22)).alloc (.cells #[S] 30)) 30 (.slice none 0 0)
  have b4 := Boxed.new (((w.alloc (.cells #[.pointer (some ⟨g, 0, none⟩)] 22)).alloc (.cells #[S] 30)).alloc (.cells #[.slice none 0 0] 30)) 54 (.slice none 0 0)
  rw [e1] at b2
  rw [e2] at b3
  rw [e3] at b4
  refine ⟨(((b1.alloc _).alloc _).alloc _).alloc _, ((b2.alloc _).alloc _).alloc _, (b3.alloc _).alloc _, b4.alloc _, Kd.R_nil _ _ _ _ _, Kd.R_nil _ _ _ _ _, rfl, fun i hi => absurd hi (Nat.not_lt_zero i), by simp, fun x hx => absurd hx (by simp), below_alloc (below_alloc (below_alloc (below_alloc (below_alloc (Below.refl _ w) _) _) _) _) _, by omega, by omega, by omega⟩
theorem Fi.br1 {g Bt Bs BL BR : Nat} {S : Value} {w0 W : World} {uL uR vL vR : Value} {LL : List ByteArray} {IX P : List Nat} (h : Fi g Bt Bs BL BR S w0 uL uR vL vR LL IX P W) (v : Value) : Boxed (W.setCell ⟨BL, 0, none⟩ v) BR 54 uR :=
  box_step_typed h.br (grown_set W BL 0 v) 30 (fun k e => by injection e with e; subst e; exact ⟨_, h.bl⟩) (by decide)
theorem R_calm2 {α : Type} {d : Kd α} {e base : Nat} {ok : Nat → Prop} {X Y : World} {v : Value} {xs : List α} {row : Option Nat} (h : d.R e X base ok v xs) (hg : X.grownBy Y row) (hr : ∀ r, row = some r → ∃ o : Obj, X.heap[r]? = some o ∧ o.isCells = false) : d.R e Y base ok v xs :=
  Kd.R_mono (Kd.R_move (Kd.R_bound h) (fun k hk => hg.block k hk.2.2.1 (fun e' => by
    obtain ⟨_, _, _, q, _, cells, hc⟩ := hk
    obtain ⟨o, ho, hn⟩ := hr k e'.symm
    rw [hc] at ho
    cases ho
    cases hn))) (fun _ hk => hk.1)
theorem evenB_take {l : List ByteArray} (h : evenB l = true) (k : Nat) (hk : 0 < k) : evenB (l.take k) = true := by
  unfold evenB
  rw [List.all_eq_true]
  intro s hs
  rw [take_wid l k hk]
  have := evenB_size h (List.mem_of_mem_take hs)
  simpa using this
theorem strAt_map (l : List ByteArray) (IX : List Nat) (i : Nat) (hi : i < IX.length) : strAt (IX.map (strAt l)) i = strAt l (IX.getD i 0) := by
  unfold strAt
  rw [List.getD_eq_getElem?_getD, List.getElem?_map, List.getElem?_eq_getElem hi, List.getD_eq_getElem?_getD (l := IX), List.getElem?_eq_getElem hi]
  rfl
theorem str_now {w W : World} {ad : Addr} {l : List ByteArray} {i : Nat} {s : ByteArray} (hC : Kd.C Kd.string w (some ad) l.length l) (b : Below w.heap.size w W) (hs : i < l.length ∧ strAt l i = s) : W.cell? (ad.add i) = some (.string s) := by
  obtain ⟨ad2, e, hc⟩ := strs_at hC i hs.1
  cases e
  rw [hs.2] at hc
  exact (b.cell (World.block_lt_of_cell? _ _ hc)).trans hc
theorem below_between {n : Nat} {w W W1 : World} (b1 : Below n w W) (b2 : Below n w W1) (hs : W.heap.size ≤ W1.heap.size) : Below n W W1 :=
  ⟨b2.os.trans b1.os.symm, b2.tape.trans b1.tape.symm, b2.output.trans b1.output.symm, hs, fun k hk => (b2.block k hk).trans (b1.block k hk).symm⟩
theorem keeps_typed {B : Nat} {W W1 : World} {row : Option Nat} (hg : W.grownBy W1 row) (t : TypeId) (hrow : ∀ k, row = some k → ∃ cells, W.heap[k]? = some (.cells cells t (0, 0))) : KeepsFrom B W W1 :=
  ⟨hg.size, fun k o _ hk ho => (hg.block k (Array.getElem?_eq_some_iff.1 hk).1 (fun e => by
    obtain ⟨cells, hc⟩ := hrow k e.symm
    rw [hc] at hk
    cases hk
    cases ho)).trans hk⟩
theorem keeps_below {B : Nat} {W W1 : World} (b : Below W.heap.size W W1) : KeepsFrom B W W1 := keeps_typed (grown_below b none) 0 (fun k e => by cases e)
set_option maxRecDepth 100000 in
set_option maxHeartbeats 4000000 in
theorem fill_calls (g : Nat) (A : Option Addr) (c : Nat) (l : List ByteArray) (D : Option Addr) (d : Nat) (h : List Bool) (w : World) (hI : IsTab w g) (hC : Kd.C Kd.string w A l.length l) (hc : l.length ≤ c) (hz : ∀ s ∈ l, s.size ≤ 140737488355328) (hD : Kd.C Kd.bool w D h.length h) (hd : h.length ≤ d) :
    Calls Try.prog 17 #[.pointer (some ⟨g, 0, none⟩), .slice A l.length c, .slice D h.length d] w (Told w.heap.size (fillR l h) w) := by
  refine (callsIn_wide (n := 5)).1 ?_
  have HI := Aside0.mk hI
  have HC := Aside0.mk hC
  have HZ := Aside0.mk hz
  have HDD := Aside0.mk hD
  have HL := Lib.hid hc
  have HDL := Lib.hid hd
  have hmx : l.length ≤ 9223372036854775807 := Kd.C_max hC
  have hmd : h.length ≤ 9223372036854775807 := Kd.C_max hD
  clear hI hC hz hc hD hd
  refine callsIn_of_wp_marks Try.func17 rfl trivial ?_ rfl
  simp only [Try.ntmps17, List.size_toArray, List.length_cons, List.length_nil, Nat.reduceAdd, Nat.reduceSub, Array.replicate_succ, Array.replicate_zero, List.push_toArray, List.append_toArray, List.nil_append, List.cons_append]
  have hF : Fence.wide.fn 28 := trivial
  by_cases h9 : l.length = 9
  · have h9n : ((l.length : Int) != 9) = false := by rw [h9]; rfl
    by_cases hh9 : h.length = 9
    · have hh9n : ((h.length : Int) != 9) = false := by rw [hh9]; rfl
      have H9 := Lib.hid h9
      have HH9 := Lib.hid hh9
      clear h9 hh9
      gi_wp2_with (first | (gi_at_call 28; refine (there_calls _ _ _ _ _).mono ?_; rintro e w' ⟨rfl, rfl⟩))
      have G := Fi.start (g := g) (S := .slice A l.length c) (w := w) (x := .slice D h.length d)
      have bH := Boxed.new ((((w.alloc (.cells #[.pointer (some ⟨g, 0, none⟩)] 22)).alloc (.cells #[.slice A l.length c] 30)).alloc (.cells #[.slice none 0 0] 30)).alloc (.cells #[.slice none 0 0] 54)) 38 (.slice D h.length d)
      simp only [World.size_alloc] at bH
      generalize ((((w.alloc (.cells #[.pointer (some ⟨g, 0, none⟩)] 22)).alloc (.cells #[.slice A l.length c] 30)).alloc (.cells #[.slice none 0 0] 30)).alloc (.cells #[.slice none 0 0] 54)).alloc (.cells #[.slice D h.length d] 38) = W0 at G bH ⊢
      have hn0 : w.heap.size ≤ W0.heap.size := G.bw.size
      generalize w.heap.size + 1 + 1 + 1 + 1 = BH at bH ⊢
      generalize w.heap.size + 1 + 1 + 1 = BR at G ⊢
      generalize w.heap.size + 1 + 1 = BL at G ⊢
      generalize w.heap.size + 1 = Bs at G ⊢
      refine wpIn_range_told rfl (by decide) (gf := 35) (lb := #[.pointer (some ⟨BH, 0, none⟩)]) rfl trivial (enters_of Try.func35 (by kernel_rfl) rfl) (encs := fun x : Nat => #[.int .i64 ((x : Nat) : Int)]) (fun x _ => x < h.length) (fun ys => ys = idx h) h.length w.heap.size hn0 (fun _ => rfl) ?seq (fun pre W => ∃ vL vR P, Fi g w.heap.size Bs BL BR (.slice A l.length c) w vL vR vL vR (pre.map (strAt l)) pre P W) ?own ⟨_, _, _, G⟩ (fun pre x a' W => x < h.length ∧ pre.length < h.length ∧ a' = { tmps := #[.pointer (some ⟨g, 0, none⟩), .slice A l.length c, .slice D h.length d, .pointer (some ⟨w.heap.size, 0, none⟩), .pointer (some ⟨Bs, 0, none⟩), undef, .slice none 0 0, .int .i64 0, .pointer (some ⟨BL, 0, none⟩), .pointer (some ⟨BR, 0, none⟩), .int .i64 ((x : Nat) : Int), undef, undef, undef, .pointer (some ⟨g, 0, none⟩), .bool false, .bool false, .slice A l.length c, .int .i64 l.length, .bool false, .bool false, .bool false, .slice D h.length d, .int .i64 h.length, .bool false, .bool false, .slice D h.length d, .func (.func 35) #[] #[.pointer (some ⟨BH, 0, none⟩)], .int .i64 ((x : Nat) : Int), undef, undef, undef, undef, undef, undef, undef, undef, undef, undef, undef, undef, undef, undef, undef, undef, undef, undef, undef, undef, undef, undef, undef, undef, undef, undef, undef, undef, undef, undef, undef, undef, undef, undef, undef, undef, undef, undef, undef, undef, undef, undef, undef, undef, undef, undef], defers := [] } ∧ ∃ vL vR P, Fi g w.heap.size Bs BL BR (.slice A l.length c) w vL vR vL vR (pre.map (strAt l)) pre P W) ?ax ?assign ?body ?done
      case seq =>
        intro lq J W hW hJ hY h0
        exact there_in _ (by decide) lq BH D d h w HDD.out HDL.out J (fun pre x W1 h1 h2 h3 => hY pre x W1 h1 h2 h3) W (below2 G.bw hn0 hW) ((hW.cell (p := ⟨BH, 0, none⟩) bH.lt).trans bH.cell) h0
      case own =>
        rintro pre X Y row ⟨vL, vR, P, hs⟩ hg hr
        exact ⟨vL, vR, P, hs.calm hg (fun r e => ⟨Nat.le_trans hn0 (hr r e).1, (hr r e).2⟩)⟩
      case ax =>
        rintro pre x a' _ X Y row ⟨h1, h2, h3, vL, vR, P, hs⟩ hg hr
        exact ⟨h1, h2, h3, vL, vR, P, hs.calm hg (fun r e => ⟨Nat.le_trans hn0 (hr r e).1, (hr r e).2⟩)⟩
      case assign =>
        rintro lq pre x W K ⟨vL, vR, P, hs⟩ hv hN hK
        gi_wp2
        exact hK _ _ ⟨Nat.le_refl _, fun _ _ _ hk _ => hk⟩ (Below.refl _ _) ⟨hv, hN, rfl, vL, vR, P, hs⟩
      case body =>
        rintro lq pre i a' W ⟨hi, hpl, rfl, vL, vR, P, HG⟩
        have hi9 : i < l.length := by have := H9.out; have := HH9.out; omega
        have hi8 : i ≤ 8 := by have := HH9.out; omega
        have hpl9 : pre.length < 9 := by have := HH9.out; omega
        obtain ⟨ad, hA, _⟩ := strs_at HC.out i hi9
        subst hA
        obtain ⟨s, hs⟩ : ∃ s, i < l.length ∧ strAt l i = s := ⟨_, hi9, rfl⟩
        have hs := Lib.hid hs
        have HG0 := HG.below (Below.drew (Below.refl _ _))
        have hii : (i : Int) < (l.length : Int) := by omega
        gi_wp2
        refine startIn_ (m := 15) (by kernel_rfl) (by rintro ⟨_, _, h1, _⟩; cases h1) (S := fun w' => w'.cell? ⟨BL, 0, none⟩ = some vL ∧ w'.cell? ⟨Bs, 0, none⟩ = some (.slice (some ad) l.length c) ∧ w'.cell? (ad.add i) = some (.string s) ∧ w'.cell? ⟨BR, 0, none⟩ = some vR ∧ w'.cell? ⟨w.heap.size, 0, none⟩ = some (.pointer (some ⟨g, 0, none⟩))) (ds := [13, 14]) #[false, false, false, false, false, false, false, false, false, false, false, false, false, false, false] (by kernel_rfl) rfl rfl ⟨HG0.bl.cell, HG0.bs.cell, (str_now HC.out HG0.bw hs.out), HG0.br.cell, HG0.bt.cell⟩ (fun hHeld => ?_)
        refine pure_ (i := 2) (N := some 31) (v := ?_) (a' := ?_) #[false, false, true, false, false, false, false, false, false, false, false, false, false, false, false] rfl rfl (by kernel_rfl) (fun _ _ _ h => h) (Or.inl ⟨by rfl, ?_⟩) ?_ ?_
        rotate_left
        · intro w'
          go_simp
          with_reducible rfl
        rotate_left
        · simp only [Act.put, List.setIfInBounds_toArray, List.set_cons_zero, List.set_cons_succ]
          rfl
        refine pure_ (i := 9) (N := some 38) (v := ?_) (a' := ?_) #[false, false, true, false, false, false, false, false, false, true, false, false, false, false, false] rfl rfl (by kernel_rfl) (fun _ _ _ h => h) (Or.inl ⟨by rfl, ?_⟩) ?_ ?_
        rotate_left
        · intro w'
          go_simp
          with_reducible rfl
        rotate_left
        · simp only [Act.put, List.setIfInBounds_toArray, List.set_cons_zero, List.set_cons_succ]
          rfl
        refine take_ (i := 0) (N := some 29) (v := ?_) (a' := ?_) #[true, false, true, false, false, false, false, false, false, true, false, false, false, false, false] rfl rfl (by kernel_rfl) (fun _ _ _ h => h) (Or.inl ⟨by rfl, ?_⟩) hHeld ?_ ?_
        rotate_left
        · rintro w' ⟨s0, s1, s2, s3, s4⟩
          go_simp
          with_reducible rfl
        rotate_left
        · simp only [Act.put, List.setIfInBounds_toArray, List.set_cons_zero, List.set_cons_succ]
          rfl
        refine take_ (i := 1) (N := some 30) (v := ?_) (a' := ?_) #[true, true, true, false, false, false, false, false, false, true, false, false, false, false, false] rfl rfl (by kernel_rfl) (fun _ _ _ h => h) (Or.inl ⟨by rfl, ?_⟩) hHeld ?_ ?_
        rotate_left
        · rintro w' ⟨s0, s1, s2, s3, s4⟩
          go_simp
          with_reducible rfl
        rotate_left
        · simp only [Act.put, List.setIfInBounds_toArray, List.set_cons_zero, List.set_cons_succ]
          rfl
        refine pure_ (i := 3) (N := some 32) (v := ?_) (a' := ?_) #[true, true, true, true, false, false, false, false, false, true, false, false, false, false, false] rfl rfl (by kernel_rfl) (fun _ _ _ h => h) (Or.inl ⟨by rfl, ?_⟩) ?_ ?_
        rotate_left
        · intro w'
          go_simp
          with_reducible rfl
        rotate_left
        · simp only [Act.put, List.setIfInBounds_toArray, List.set_cons_zero, List.set_cons_succ]
          rfl
        refine take_ (i := 4) (N := some 33) (v := ?_) (a' := ?_) #[true, true, true, true, true, false, false, false, false, true, false, false, false, false, false] rfl rfl (by kernel_rfl) (fun _ _ _ h => h) (Or.inl ⟨by rfl, ?_⟩) hHeld ?_ ?_
        rotate_left
        · rintro w' ⟨s0, s1, s2, s3, s4⟩
          go_simp
          with_reducible rfl
        rotate_left
        · simp only [Act.put, List.setIfInBounds_toArray, List.set_cons_zero, List.set_cons_succ]
          rfl
        refine take_ (i := 7) (N := some 36) (v := ?_) (a' := ?_) #[true, true, true, true, true, false, false, true, false, true, false, false, false, false, false] rfl rfl (by kernel_rfl) (fun _ _ _ h => h) (Or.inl ⟨by rfl, ?_⟩) hHeld ?_ ?_
        rotate_left
        · rintro w' ⟨s0, s1, s2, s3, s4⟩
          go_simp
          with_reducible rfl
        rotate_left
        · simp only [Act.put, List.setIfInBounds_toArray, List.set_cons_zero, List.set_cons_succ]
          rfl
        refine take_ (i := 8) (N := some 37) (v := ?_) (a' := ?_) #[true, true, true, true, true, false, false, true, true, true, false, false, false, false, false] rfl rfl (by kernel_rfl) (fun _ _ _ h => h) (Or.inl ⟨by rfl, ?_⟩) hHeld ?_ ?_
        rotate_left
        · rintro w' ⟨s0, s1, s2, s3, s4⟩
          go_simp
          with_reducible rfl
        rotate_left
        · simp only [Act.put, List.setIfInBounds_toArray, List.set_cons_zero, List.set_cons_succ]
          rfl
        refine one_ (i := 5) (N := some 34) #[true, true, true, true, true, true, false, true, true, true, false, false, false, false, false] rfl rfl (by kernel_rfl) (by decide) (fun K hK => ?_)
        refine value_ (w1 := ?_) (v := ?_) (by rfl) rfl ?_ ?_
        rotate_left 2
        · go_simp
          constructor
          · rfl
          · rfl
        have HG1 := HG0.below (below_alloc (Below.refl _ _) (.cells #[.string s] 9))
        refine hK.out _ _ ⟨HG1.bl.cell, HG1.bs.cell, (str_now HC.out HG1.bw hs.out), HG1.br.cell, HG1.bt.cell⟩ (fun hHeld => ?_)
        clear hK K
        refine norm_ (a' := ?_) ?_ ?_
        rotate_left
        · show Act.put _ (some 34) _ = _
          simp only [Act.put, List.setIfInBounds_toArray, List.set_cons_zero, List.set_cons_succ]
          rfl
        refine one_ (i := 6) (N := some 35) #[true, true, true, true, true, true, true, true, true, true, false, false, false, false, false] rfl rfl (by kernel_rfl) (by decide) (fun K hK => ?_)
        refine Kd.R_append_step Kd.string (w0 := w) w.heap.size (by rfl) (.tmp 29) (.tmp 34) 30 9 (.string ⟨#[]⟩) 16 rfl Try.underlying30 infoStr rfl (by decide) (by decide) vL (pre.map (strAt l)) s [.string s] (fun j => w.heap.size ≤ j) (fun _ => False) rfl rfl rfl (fun _ hk => hk.elim) (fun j hj => Nat.le_trans HG0.bw.size hj) HG0.oL HG0.bw HG0.bw.size (by rw [List.length_map]; omega) ?_
        intro v1 w3 hR hB hg _
        obtain ⟨A1, n1, c1, rfl⟩ : ∃ A1 n1 c1, v1 = .slice A1 n1 c1 := by obtain ⟨A1, c1, e⟩ := Kd.R_slice hR; exact ⟨A1, _, c1, e⟩
        have HG2 := HG0.left hR hg
        refine hK.out _ _ ⟨HG2.bl.cell, HG2.bs.cell, (str_now HC.out HG2.bw hs.out), HG2.br.cell, HG2.bt.cell⟩ (fun hHeld => ?_)
        clear hK K
        refine norm_ (a' := ?_) ?_ ?_
        rotate_left
        · show Act.put _ (some 35) _ = _
          simp only [Act.put, List.setIfInBounds_toArray, List.set_cons_zero, List.set_cons_succ]
          rfl
        refine one_ (i := 10) (N := some 39) #[true, true, true, true, true, true, true, true, true, true, true, false, false, false, false] rfl rfl (by kernel_rfl) (by decide) (fun K hK => ?_)
        refine goes_ Try.func24 (by kernel_rfl) rfl #[.pointer (some ⟨g, 0, none⟩), .int .i64 (i : Int)] (by rfl) rfl rfl (by simp only [List.map_toArray, List.map_cons, List.map_nil]; rfl) ?_
        with_reducible refine (row_told g i hi8 _ (HI.out.below HG2.bw)).mono ?_
        rintro e w4 ⟨b, rfl, hF, hbg, hb⟩
        refine ⟨_, rfl, ?_⟩
        have HG4 := HG2.below hb
        refine hK.out _ _ ⟨HG4.bl.cell, HG4.bs.cell, (str_now HC.out HG4.bw hs.out), HG4.br.cell, HG4.bt.cell⟩ (fun hHeld => ?_)
        clear hK K
        refine norm_ (a' := ?_) ?_ ?_
        rotate_left
        · show Act.put _ (some 39) _ = _
          simp only [Act.put, List.setIfInBounds_toArray, List.set_cons_zero, List.set_cons_succ]
          rfl
        refine one_ (i := 11) (N := some 40) #[true, true, true, true, true, true, true, true, true, true, true, true, false, false, false] rfl rfl (by kernel_rfl) (by decide) (fun K hK => ?_)
        refine value_ (w1 := ?_) (v := ?_) (by rfl) rfl ?_ ?_
        rotate_left 2
        · go_simp
          constructor
          · rfl
          · rfl
        have HG5 := HG4.below (below_alloc (Below.refl _ _) (.cells #[.slice (some ⟨b, 0, none⟩) 6 6] 51))
        refine hK.out _ _ ⟨HG5.bl.cell, HG5.bs.cell, (str_now HC.out HG5.bw hs.out), HG5.br.cell, HG5.bt.cell⟩ (fun hHeld => ?_)
        clear hK K
        refine norm_ (a' := ?_) ?_ ?_
        rotate_left
        · show Act.put _ (some 40) _ = _
          simp only [Act.put, List.setIfInBounds_toArray, List.set_cons_zero, List.set_cons_succ]
          rfl
        refine one_ (i := 12) (N := some 41) #[true, true, true, true, true, true, true, true, true, true, true, true, true, false, false] rfl rfl (by kernel_rfl) (by decide) (fun K hK => ?_)
        refine Kd.R_append_step kPtr (w0 := w) w.heap.size (by rfl) (.tmp 36) (.tmp 40) 54 51 (.slice none 0 0) 24 rfl Try.underlying54 infoPtr rfl (by decide) (by decide) vR P b [.slice (some ⟨b, 0, none⟩) 6 6] (fun j => w.heap.size ≤ j) (fun _ => False) rfl rfl rfl (fun _ hk => hk.elim) (fun j hj => Nat.le_trans HG4.bw.size hj) HG4.oR HG4.bw HG4.bw.size (by rw [HG0.lP]; omega) ?_
        intro v2 w5 hR2 hB2 hg2 _
        obtain ⟨A2, n2, c2, rfl⟩ : ∃ A2 n2 c2, v2 = .slice A2 n2 c2 := by obtain ⟨A2, c2, e⟩ := Kd.R_slice hR2; exact ⟨A2, _, c2, e⟩
        have HG6 := HG4.row hR2 hg2 hF (fun x hx => Nat.lt_of_lt_of_le (HG2.sP x hx).2 hbg) (Nat.le_trans HG2.bw.size hbg)
        have c13 := HG6.bl.cell
        have f13 := HG6.bl.frozen
        have c14 := (HG6.br1 (.slice A1 n1 c1)).cell
        have f14 := (HG6.br1 (.slice A1 n1 c1)).frozen
        refine hK.out _ _ ⟨HG6.bl.cell, HG6.bs.cell, (str_now HC.out HG6.bw hs.out), HG6.br.cell, HG6.bt.cell⟩ (fun hHeld => ?_)
        clear hK K
        refine norm_ (a' := ?_) ?_ ?_
        rotate_left
        · show Act.put _ (some 41) _ = _
          simp only [Act.put, List.setIfInBounds_toArray, List.set_cons_zero, List.set_cons_succ]
          rfl
        refine last_ (i := 13) (N := none) #[true, true, true, true, true, true, true, true, true, true, true, true, true, true, false] rfl rfl (by kernel_rfl) (by decide) (fun K hK => ?_)
        refine skip_ (w1 := ?_) (by rfl) rfl ?_ ?_
        rotate_left
        · go_simp
          rfl
        refine hK.out _ _ ?_
        clear hK K
        refine last_ (i := 14) (N := none) #[true, true, true, true, true, true, true, true, true, true, true, true, true, true, true] rfl rfl (by kernel_rfl) (by decide) (fun K hK => ?_)
        refine skip_ (w1 := ?_) (by rfl) rfl ?_ ?_
        rotate_left
        · go_simp
          rfl
        refine hK.out _ _ ?_
        clear hK K
        refine done_ (by kernel_rfl) ?_
        have hL2 := fun k e => Kd.R_typed HG0.oL k e
        have hR3 := fun k e => Kd.R_typed HG4.oR k e
        have hfin := HG6.put (.slice A1 n1 c1) (.slice A2 n2 c2)
        have b1 : KeepsFrom W0.heap.size W W.drew := keeps_below (Below.drew (Below.refl _ _))
        have b2 : KeepsFrom W0.heap.size W.drew w3 := keeps_typed hg _ hL2
        have b3 : KeepsFrom W0.heap.size w3 w4 := keeps_below hb
        have b4 : KeepsFrom W0.heap.size w4 w5 := keeps_typed hg2 _ hR3
        have b5 := (KeepsOthers.setCell w5 ⟨BL, 0, none⟩ (.slice A1 n1 c1)).from W0.heap.size
        have b6 := (KeepsOthers.setCell (w5.setCell ⟨BL, 0, none⟩ (.slice A1 n1 c1)) ⟨BR, 0, none⟩ (.slice A2 n2 c2)).from W0.heap.size
        have bk := ((((b1.trans b2).trans b3).trans b4).trans b5).trans b6
        refine ⟨rfl, bk, below_between HG.bw hfin.bw bk.size, .slice A1 n1 c1, .slice A2 n2 c2, P ++ [b], ?_⟩
        rw [List.map_append, List.map_singleton, hs.out.2]
        exact hfin
      case done =>
        rintro D0 ys W hDD hS ⟨vL, vR, P, HG⟩ hK
        subst hS
        obtain ⟨A1, c1, rfl⟩ := Kd.R_slice HG.oL
        have hlen : (List.map (strAt l) (idx h)).length = (idx h).length := List.length_map _
        have hRL := Kd.R_reads' HG.oL
        have HLC : Aside0 (Kd.C Kd.string W A1 (leftL l h).length (leftL l h)) := ⟨hRL.2.2⟩
        have HLL : Hid ((leftL l h).length ≤ c1) := Lib.hid hRL.2.1
        have HE := Aside0.mk (even_calls A1 c1 (leftL l h) W HLC.out HLL.out)
        have hbl : W.cell? ⟨BL, 0, none⟩ = some (.slice A1 (leftL l h).length c1) := HG.bl.cell
        have HG := Aside0.mk HG
        have HKD := Lib.hid hK
        clear hRL hK hlen
        cases he : evenB (leftL l h) with
        | false =>
          rw [he] at HE
          have HR := Lib.hid (show fillR l h = ([], 1) by unfold fillR; rw [if_pos ⟨H9.out, HH9.out⟩, if_neg (by rw [he]; simp)])
          have hF2 : Fence.wide.fn 22 := trivial
          gi_wp2_with (gi_at_call 22; refine (callsIn_wide.2 HE.out).mono ?_; rintro e W2 ⟨rfl, hb⟩)
          refine ⟨by simp, .inl ⟨_, _, rfl, run_takeDeferred ((hb.block _ (Array.getElem?_eq_some_iff.1 HKD.out).1).trans HKD.out), ?_⟩⟩
          refine ⟨_, results_tmp2 rfl _ _ _, none, 0, by rw [HR.out]; rfl, by rw [HR.out]; exact Kd.R_nil _ _ _ _ _, ?_⟩
          exact (below2 HG.out.bw HG.out.bw.size hb).trans (belowK_b (w := w) (Nat.le_refl _) W2 D0 _ _ (Nat.le_trans hn0 hDD) ((hb.block _ (Array.getElem?_eq_some_iff.1 HKD.out).1).trans HKD.out) rfl rfl)
        | true =>
          rw [he] at HE
          have hF2 : Fence.wide.fn 22 := trivial
          have hlen : (leftL l h).length = (idx h).length := List.length_map _
          by_cases h6 : (idx h).length < 6
          · have HR := Lib.hid (show fillR l h = ([], 2) by unfold fillR; rw [if_pos ⟨H9.out, HH9.out⟩, if_pos he, if_pos h6])
            have h6i : ((leftL l h).length : Int) < 6 := by omega
            replace h6 := Lib.hid h6
            replace hlen := Lib.hid hlen
            replace he := Lib.hid he
            gi_wp2_with (gi_at_call 22; refine (callsIn_wide.2 HE.out).mono ?_; rintro e W2 ⟨rfl, hb⟩; have hbl2 : W2.cell? ⟨BL, 0, none⟩ = some (.slice A1 (leftL l h).length c1) := (hb.cell (p := ⟨BL, 0, none⟩) HG.out.bl.lt).trans hbl)
            refine ⟨by simp, .inl ⟨_, _, rfl, run_takeDeferred ((hb.block _ (Array.getElem?_eq_some_iff.1 HKD.out).1).trans HKD.out), ?_⟩⟩
            refine ⟨_, results_tmp2 rfl _ _ _, none, 0, by rw [HR.out]; rfl, by rw [HR.out]; exact Kd.R_nil _ _ _ _ _, ?_⟩
            exact (below2 HG.out.bw HG.out.bw.size hb).trans (belowK_b (w := w) (Nat.le_refl _) W2 D0 _ _ (Nat.le_trans hn0 hDD) ((hb.block _ (Array.getElem?_eq_some_iff.1 HKD.out).1).trans HKD.out) rfl rfl)
          · have HR := Lib.hid (show fillR l h = encR (dataL l h) by unfold fillR; rw [if_pos ⟨H9.out, HH9.out⟩, if_pos he, if_neg h6])
            have h6i : (6 : Int) ≤ ((leftL l h).length : Int) := by omega
            have hn6 : 6 ≤ (leftL l h).length := by omega
            have hcut : decide (((leftL l h).length : Int) < 6) = false := by simp; omega
            have hc16 : 6 ≤ c1 := Nat.le_trans hn6 HLL.out
            obtain ⟨A2, c2, hv2⟩ := Kd.R_slice HG.out.oR
            subst hv2
            have hP6 : 6 ≤ P.length := by rw [HG.out.lP]; omega
            have hc26 : 6 ≤ c2 := Nat.le_trans hP6 (Kd.R_reads' HG.out.oR).2.1
            have hbr : W.cell? ⟨BR, 0, none⟩ = some (.slice A2 P.length c2) := HG.out.br.cell
            replace h6 := Lib.hid h6
            replace hlen := Lib.hid hlen
            replace he := Lib.hid he
            gi_wp2_with (gi_at_call 22; refine (callsIn_wide.2 HE.out).mono ?_; rintro e W2 ⟨rfl, hb⟩; have HG2 := Aside0.mk (HG.out.below hb); have hbl2 : W2.cell? ⟨BL, 0, none⟩ = some (.slice A1 (leftL l h).length c1) := HG2.out.bl.cell; have hbr2 : W2.cell? ⟨BR, 0, none⟩ = some (.slice A2 P.length c2) := HG2.out.br.cell; have HKD2 := Lib.hid ((hb.block _ (Array.getElem?_eq_some_iff.1 HKD.out).1).trans HKD.out); clear hbl hbr hb)
            refine wpIn_mono (Q := fun e a' w' => e = .normal ∧ a' = { tmps := #[.pointer (some ⟨g, 0, none⟩), .slice A l.length c, .slice D h.length d, .pointer (some ⟨w.heap.size, 0, none⟩), .pointer (some ⟨Bs, 0, none⟩), undef, .slice none 0 0, .int .i64 0, .pointer (some ⟨BL, 0, none⟩), .pointer (some ⟨BR, 0, none⟩), undef, undef, undef, undef, .pointer (some ⟨g, 0, none⟩), .bool false, .bool false, .slice A l.length c, .int .i64 l.length, .bool false, .bool false, .bool false, .slice D h.length d, .int .i64 h.length, .bool false, .bool false, .slice D h.length d, .func (.func 35) #[] #[.pointer (some ⟨BH, 0, none⟩)], undef, undef, undef, undef, undef, undef, undef, undef, undef, undef, undef, undef, undef, undef, .bool false, .slice A1 (leftL l h).length c1, .bool true, .bool false, .bool false, .slice A1 (leftL l h).length c1, .int .i64 ((leftL l h).length : Nat), .bool false, .slice A1 (leftL l h).length c1, .slice A1 6 c1, .slice A2 P.length c2, .slice A2 6 c2, undef, undef, undef, undef, undef, undef, undef, undef, undef, undef, undef, undef, undef, undef, undef, undef, undef, undef, undef, undef, undef], defers := [{ target := .collected D0, args := #[] }] } ∧ Fi g w.heap.size Bs BL BR (.slice A l.length c) w (.slice A1 6 c1) (.slice A2 6 c2) (.slice A1 (leftL l h).length c1) (.slice A2 P.length c2) (leftL l h) (idx h) P w' ∧ W2.heap.size ≤ w'.heap.size ∧ (∀ (D : Nat) (o : Obj), W2.heap[D]? = some o → o.isCells = false → w'.heap[D]? = some o)) ?reg ?cont
            case reg =>
              refine wpIn_wide.2 ?_
              have f1 := HG2.out.bl.frozen
              have f2 := HG2.out.br.frozen
              have hnel := HG2.out.bl
              have hne : BL ≠ BR := by
                intro e
                have e2 := HG2.out.br
                rw [← e] at e2
                have e3 : W2.heap[BL]? = _ := HG2.out.bl
                rw [show W2.heap[BL]? = _ from e2] at e3
                injection e3 with e3
                injection e3 with _ e3
                exact absurd e3 (by decide)
              have hne2 := Ne.symm hne
              go_region
              all_goals
                refine ⟨rfl, rfl, (HG2.out.put (.slice A1 6 c1) (.slice A2 6 c2)).below (Below.drew (Below.refl _ _)), by simp, fun D o ho hn => ?_⟩
                exact (((KeepsOthers.setCell W2 ⟨BL, 0, none⟩ (.slice A1 6 c1)).from 0).trans ((KeepsOthers.setCell (W2.setCell ⟨BL, 0, none⟩ (.slice A1 6 c1)) ⟨BR, 0, none⟩ (.slice A2 6 c2)).from 0)).same D o (Nat.zero_le _) ho hn
            case cont =>
              rintro e a' W3 ⟨rfl, rfl, HG3, hs3, hd3⟩
              obtain ⟨gR, cR, hvR, hgR, hPt, hPc⟩ := HG3.ptr (by omega)
              injection hvR with e1 e2 e3
              subst e1 e3
              have hP6l : (P.take 6).length = 6 := by rw [List.length_take]; omega
              have hil : ((idx h).take 6).length = 6 := by rw [List.length_take]; have := HG3.lP; omega
              have HSV := solve_calls g gR c2 (P.take 6) (((idx h).take 6).map frow) W3 (HI.out.below HG3.bw) (hPt.take 6) hP6l (HG3.nd.sublist (List.take_sublist 6 P)) (Wf.frows _ hil) (fun i hi => by
                rw [rowAt_map _ _ (by rw [hil]; exact hi), getD_take _ _ _ hi, getD_take _ _ _ hi]
                exact HG3.rw i (by omega)) ⟨by have := HI.out.2.2; omega, fun hm => by have := (HG3.sP g (List.mem_of_mem_take hm)).1; have := HI.out.2.2; omega⟩ hc26
              have HSV := Aside0.mk HSV
              have HKD3 := hd3 D0 _ HKD2.out rfl
              have ct3 := HG3.bt.cell
              have cr3 := HG3.br.cell
              have HSD := Aside0.mk (fun W4 (hF : Fr gR (P.take 6) W3 W4) => HG3.solved hPt hF hgR)
              have hs3' := Lib.hid hs3
              have HKD3 := Lib.hid HKD3
              have HG3 := Aside0.mk HG3
              clear hPt hd3 hs3 hP6l hil HG2 hbl2 hbr2 HKD2
              refine ‹∀ (a : Act) (w : World), Code.wpIn Fence.wide 5 Try.prog _ _ a w → _› _ _ (wpIn_wide.2 ?_)
              go_wp2_with (go_at_call 29; refine HSV.out.mono ?_; rintro e W4 ⟨gK, Q, rfl, hQp, hQ6, hQr, hWf, hgK, hI4, hFr⟩)
              obtain ⟨hbt4, hbl4, hoL4, hbw4, hdf4⟩ := HSD.out W4 hFr
              have HT4 := Aside0.mk hbt4
              have HB4 := Aside0.mk hbl4
              have HL4 := Aside0.mk (Kd.R_reads' hoL4).2.2
              have HW4 := Aside0.mk hbw4
              have HK4 := Lib.hid (hdf4 D0 _ HKD3.out rfl)
              have HQp := Aside0.mk hQp
              have HQ6 := Lib.hid hQ6
              have HQr := Aside0.mk hQr
              have HWf := Aside0.mk hWf
              have HI4 := Aside0.mk hI4
              have he6 : Hid (evenB ((leftL l h).take 6) = true) := Lib.hid (evenB_take he.out 6 (by omega))
              have hl6 : Hid (((leftL l h).take 6).length = 6) := Lib.hid (by rw [List.length_take]; omega)
              have hw6 : Hid (wid ((leftL l h).take 6) ≤ 140737488355328) := Lib.hid (by
                rw [take_wid _ _ (by omega)]
                unfold wid leftL
                rw [strAt_map _ _ _ (by have := hlen.out; omega)]
                have hm : (idx h).getD 0 0 < l.length := by
                  have h1 : (idx h).getD 0 0 ∈ idx h := mem_get (by have := hlen.out; omega)
                  have h2 := (List.mem_filter.1 h1).1
                  rw [List.mem_range] at h2
                  have := H9.out
                  have := HH9.out
                  omega
                rw [strAt_eq hm]
                exact HZ.out _ (List.getElem_mem hm))
              have HL6 := Aside0.mk (strs_take HL4.out 6 hn6)
              clear hFr hbt4 hbl4 hoL4 hbw4 hdf4 hQp hQ6 hQr hWf hI4 hgK HL4 HSD ct3 cr3 HKD3
              obtain ⟨R6, hR6⟩ : ∃ R, solveN (((idx h).take 6).map frow) = R := ⟨_, rfl⟩
              obtain ⟨l6, hl6e⟩ : ∃ x, (leftL l h).take 6 = x := ⟨_, rfl⟩
              rw [hR6] at HQr HWf
              rw [hl6e] at he6 hl6 hw6 HL6
              have hDL : Hid (dataL l h = dataK R6 l6 6) := Lib.hid (by unfold dataL; rw [hR6, hl6e])
              clear hR6 hl6e
              have G1 : Aside0 (RS W4.heap.size (.slice none 0 0) (dataK R6 l6 0) W4) := ⟨Kd.R_nil _ _ _ _ _⟩
              have G2 : Aside0 (Below W4.heap.size W4 W4) := ⟨Below.refl _ _⟩
              go_loopw [11, 58] (fun v i wr => ∃ k : Nat, k ≤ 6 ∧ i = .int .i64 k ∧ Aside0 (RS W4.heap.size v (dataK R6 l6 k) wr) ∧ Aside0 (Below W4.heap.size W4 wr)) (fun _ i _ => 6 - (intOf i).toNat)
              case atStart => exact ⟨0, by omega, rfl, G1, G2⟩
              case round =>
                clear G1 G2
                obtain ⟨k, hk, rfl, G1, G2⟩ := hrel
                by_cases hlt : k < 6
                · have HK := Lib.hid hlt
                  obtain ⟨qk, hqk⟩ : ∃ q, Q.getD k 0 = q := ⟨_, rfl⟩
                  have cq := (HQp.out.at' (G2.out.block _ HQp.out.lt)).cell k (by rw [HQ6.out]; exact hlt)
                  rw [hqk] at cq
                  have cq : wr.cell? ⟨gK, k, none⟩ = some (.slice (some ⟨qk, 0, none⟩) 6 6) := cq
                  have ct := (HT4.out.kept (grown_below G2.out none) (by simp)).cell
                  have cl := (HB4.out.kept (grown_below G2.out none) (by simp)).cell
                  have hrow := HQr.out k hlt
                  rw [hqk] at hrow
                  have MX := mix_calls g qk 6 (rowAt R6 k) A1 c1 l6 (wid l6) wr (HI4.out.below G2.out) (hrow.keep G2.out) (HWf.out.row hlt).2 (by rw [hl6.out, (HWf.out.row hlt).1]; exact Nat.le_refl _) (by rw [(HWf.out.row hlt).1]; exact Nat.le_refl _) (Kd.C_below HL6.out G2.out) (by rw [hl6.out]; exact hc16) (by rw [hl6.out]; decide) (fun s hs => evenB_size he6.out hs) hw6.out
                  rw [(HWf.out.row hlt).1, hl6.out] at MX
                  have MX := Aside0.mk (show Calls Try.prog 23 #[.pointer (some ⟨g, 0, none⟩), .slice (some ⟨qk, 0, none⟩) 6 6, .slice A1 6 c1] wr fun e w' => e = .returned (.string (mixS (rowAt R6 k) l6)) ∧ Below wr.heap.size wr w' from MX)
                  clear hqk hrow
                  go_wp2_with (first | (go_at_call 23; refine MX.out.mono ?_; rintro e w2 ⟨rfl, hb⟩; have G1 := Aside0.mk (G1.out.keep hb); have G2 := Aside0.mk (below2 G2.out G2.out.size hb); clear hb cq ct cl) | (at_builtin; refine Kd.R_append Kd.string (w0 := W4) W4.heap.size rfl (.tmp 62) (.tmp 67) 30 9 (.string ⟨#[]⟩) 16 rfl Try.underlying30 infoStr rfl (by decide) (by decide) u11 (dataK R6 l6 k) (mixS (rowAt R6 k) l6) [.string (mixS (rowAt R6 k) l6)] (fun j => W4.heap.size ≤ j) (fun _ => False) rfl rfl rfl (fun _ hk => hk.elim) (fun j hj => Nat.le_trans G2.out.size hj) G1.out G2.out G2.out.size (by rw [dataK_len]; have := HK.out; omega) ?_; intro v1 w3 hR hB hg _; rw [dataK_succ] at hR; have G1 := Aside0.mk hR; have G2 := Aside0.mk hB; clear hR hB hg))
                  go_roundw
                  case rel => exact ⟨k + 1, HK.out, by go_num, G1, G2⟩
                  case measure => have := HK.out; simp [intOf]; omega
                · obtain rfl : k = 6 := by omega
                  obtain ⟨A5, c5, hv5⟩ := Kd.R_slice G1.out
                  subst hv5
                  have hr5 := Kd.R_reads' G1.out
                  have EN := encode_calls g A5 c5 (dataK R6 l6 6) wr (HI4.out.below G2.out) hr5.2.2 hr5.2.1 (fun s hs => by
                    obtain ⟨i, hi, rfl⟩ := List.mem_map.1 hs
                    unfold mixS
                    rw [B_size, mixL_len]
                    exact hw6.out)
                  have EN := Aside0.mk EN
                  have ct := (HT4.out.kept (grown_below G2.out none) (by simp)).cell
                  clear hr5
                  go_wp2_with (go_at_call 12; refine EN.out.mono ?_; rintro e W5 ⟨A6, c6, rfl, hO, hB⟩)
                  have hK5 := (hB.block _ (Nat.lt_of_lt_of_le (Array.getElem?_eq_some_iff.1 HK4.out).1 G2.out.size)).trans ((G2.out.block _ (Array.getElem?_eq_some_iff.1 HK4.out).1).trans HK4.out)
                  have hbW := below2 HW4.out HW4.out.size (below2 G2.out G2.out.size hB)
                  refine ⟨by simp, .inl ⟨_, _, rfl, run_takeDeferred hK5, ?_⟩⟩
                  refine ⟨_, results_tmp2 rfl _ _ _, A6, c6, by rw [HR.out, hDL.out]; rfl, ?_, hbW.trans (belowK_b (w := w) (Nat.le_refl _) W5 D0 _ _ (Nat.le_trans hn0 hDD) hK5 rfl rfl)⟩
                  rw [HR.out, hDL.out]
                  refine R_calm2 (Kd.R_mono (Kd.R_lower hO (Nat.le_trans HW4.out.size G2.out.size)) (fun k hk => Nat.le_trans (Nat.le_trans HW4.out.size G2.out.size) hk)) (grownBy_putObj' W5 D0 (.deferred none)) (fun r e' => by cases e'; exact ⟨_, hK5, rfl⟩)
    · have hh9n : ((h.length : Int) != 9) = true := by rw [bne_iff_ne]; omega
      have HR := Lib.hid (show fillR l h = ([], 1) by unfold fillR; rw [if_neg (fun e => hh9 e.2)])
      have hh9 := Lib.hid hh9
      have h9 := Lib.hid h9
      gi_wp2_with fail
      refine ⟨_, results_tmp2 rfl _ _ _, none, 0, by rw [HR.out]; rfl, by rw [HR.out]; exact Kd.R_nil _ _ _ _ _, below_alloc (below_alloc (Below.refl _ w) _) _⟩
  · have h9n : ((l.length : Int) != 9) = true := by rw [bne_iff_ne]; omega
    have HR := Lib.hid (show fillR l h = ([], 1) by unfold fillR; rw [if_neg (fun e => h9 e.1)])
    have h9 := Lib.hid h9
    gi_wp2_with fail
    refine ⟨_, results_tmp2 rfl _ _ _, none, 0, by rw [HR.out]; rfl, by rw [HR.out]; exact Kd.R_nil _ _ _ _ _, below_alloc (below_alloc (Below.refl _ w) _) _⟩
end Go.Proofs.Ytlaflbjlgkdacaa
end
section
namespace Go.Proofs.Ytlaflbjlgkdacaa
open Go.RowKit Q Go.Proofs.YtlaflbjlgkdacaaW.PrintWords Go.Proofs.YtlaflbjlgkdacaaW.PrintLast Go.Proofs.YtlaflbjlgkdacaaW.PrintMore
theorem str_ext {a b : ByteArray} (hs : a.size = b.size) (h : ∀ p, p < a.size → byt a p = byt b p) : a = b := by
  apply eq_of_data
  apply List.ext_getElem
  · simpa using hs
  · intro i h1 h2
    have h1' : i < a.size := by simpa using h1
    have h3 := h i h1'
    have h2' : i < b.size := by omega
    rw [byt_eq a i h1', byt_eq b i h2'] at h3
    exact UInt8.toNat_inj.1 h3
theorem mixS_size (fs : List Nat) (l : List ByteArray) : (mixS fs l).size = wid l := by unfold mixS; rw [B_size, mixL_len]
theorem byt_mix (fs : List Nat) (l : List ByteArray) (p : Nat) (hp : p < wid l) : byt (mixS fs l) p = accAt fs l l.length p := by
  have h1 := accAt_le fs l l.length p
  unfold byt mixS
  rw [B_data, mixL, List.getD_eq_getElem?_getD, List.getElem?_map, List.getElem?_range hp]
  simp
  omega
theorem tried_all (h : List Bool) (hl : h.length = 9) : tried h = true := by
  match h, hl with
  | [a, b, c, d, e, f, g, i, j], _ => exact all_tried a b c d e f g i j
theorem six_idx (h : List Bool) (hl : h.length = 9) : six h = (idx h).take 6 := by unfold six idx; rw [hl]
theorem turned (h : List Bool) (hl : h.length = 9) (h6 : 6 ≤ (idx h).length) : turns (((idx h).take 6).map frow) (solveN (((idx h).take 6).map frow)) = true := by
  have ht := tried_all h hl
  unfold tried at ht
  have e : (six h).length = 6 := by rw [six_idx h hl, List.length_take]; omega
  rw [frcM_eq, solveF_eq, e, six_idx h hl] at ht
  simpa using ht
theorem turns_at {R M : List (List Nat)} (h : turns R M = true) (k j : Nat) (hk : k < 6) (hj : j < 6) : xsum 6 (fun l => tim (elem R k l) (elem M l j)) = (if k = j then 1 else 0) ∧ xsum 6 (fun l => tim (elem M k l) (elem R l j)) = (if k = j then 1 else 0) := by
  unfold turns at h
  simp only [Bool.and_eq_true, List.all_eq_true, decide_eq_true_eq] at h
  have := h.2 k (by rw [List.mem_range]; exact hk) j (by rw [List.mem_range]; exact hj)
  simp only [timF_eq] at this
  exact this
theorem turns_wf {R M : List (List Nat)} (h : turns R M = true) : Wf M := by
  unfold turns at h
  simp only [Bool.and_eq_true, List.all_eq_true, decide_eq_true_eq] at h
  refine ⟨h.1.1, fun i hi => ?_⟩
  have hm : rowAt M i ∈ M := by
    unfold rowAt
    rw [List.getD_eq_getElem?_getD, List.getElem?_eq_getElem (by rw [h.1.1]; exact hi)]
    exact List.getElem_mem _
  exact h.1.2 _ hm
theorem elem_frow (IX : List Nat) (k l : Nat) (hk : k < IX.length) (hl : l < 6) : elem (IX.map frow) k l = fac (IX.getD k 0) l := by
  unfold elem
  rw [rowAt_map _ _ hk, frow_get _ _ hl]
theorem strAt_dataK (R : List (List Nat)) (l : List ByteArray) (k i : Nat) (hi : i < k) : strAt (dataK R l k) i = mixS (rowAt R i) l := by
  unfold strAt dataK
  rw [List.getD_eq_getElem?_getD, List.getElem?_map, List.getElem?_range hi]
  rfl
theorem wid_dataK (R : List (List Nat)) (l : List ByteArray) (k : Nat) (hk : 0 < k) : wid (dataK R l k) = wid l := by
  unfold wid
  rw [strAt_dataK _ _ _ _ hk, mixS_size]
  rfl
theorem evenB_dataK (R : List (List Nat)) (l : List ByteArray) (k : Nat) : evenB (dataK R l k) = true := by
  unfold evenB
  rw [List.all_eq_true]
  intro s hs
  have hk : 0 < k := by
    cases k with
    | zero => cases hs
    | succ k => omega
  rw [wid_dataK _ _ _ hk]
  obtain ⟨i, _, rfl⟩ := List.mem_map.1 hs
  rw [mixS_size]
  simp
theorem strAt_wid {l : List ByteArray} (he : evenB l = true) {k : Nat} (hk : k < l.length) : (strAt l k).size = wid l := evenB_size he (by rw [strAt_eq hk]; exact List.getElem_mem hk)
theorem accAt_fac (i : Nat) (l : List ByteArray) (p : Nat) : accAt (frow i) l 6 p = xsum 6 fun j => tim (fac i j) (byt (strAt l j) p) := by
  unfold accAt
  exact xsum_congr _ _ _ fun j hj => by rw [frow_get i j hj]
theorem accAt_elem (M : List (List Nat)) (i : Nat) (l : List ByteArray) (p : Nat) : accAt (rowAt M i) l 6 p = xsum 6 fun j => tim (elem M i j) (byt (strAt l j) p) := rfl
theorem code_has (h : List Bool) (hl : h.length = 9) (h6 : 6 ≤ (idx h).length) (l6 : List ByteArray) (hl6 : l6.length = 6) (he : evenB l6 = true) (k : Nat) (hk : k < 6) :
    mixS (frow (((idx h).take 6).getD k 0)) (dataK (solveN (((idx h).take 6).map frow)) l6 6) = strAt l6 k := by
  have ht := turned h hl h6
  have hil : ((idx h).take 6).length = 6 := by rw [List.length_take]; omega
  generalize (idx h).take 6 = IX at *
  generalize hM : solveN (IX.map frow) = M at *
  have hw := turns_wf ht
  have hwd := wid_dataK M l6 6 (by omega)
  refine str_ext (by rw [mixS_size, hwd, strAt_wid he (by omega)]) fun p hp => ?_
  rw [mixS_size] at hp
  have hp6 : p < wid l6 := by rw [← hwd]; exact hp
  rw [byt_mix _ _ _ hp, dataK_len, accAt_fac]
  have e1 : (fun j => tim (fac (IX.getD k 0) j) (byt (strAt (dataK M l6 6) j) p)) = fun j => tim (fac (IX.getD k 0) j) (byt (strAt (dataK M l6 6) j) p) := rfl
  rw [xsum_congr 6 _ (fun j => tim (elem (IX.map frow) k j) (xsum 6 fun m => tim (elem M j m) (byt (strAt l6 m) p))) (fun j hj => by
    rw [elem_frow IX k j (by omega) hj, strAt_dataK _ _ _ _ hj, byt_mix _ _ _ hp6, hl6, accAt_elem])]
  rw [dot_assoc 6 6 _ _ _ (fun j hj => by rw [elem_frow IX k j (by omega) hj]; exact fac_le _ _) (fun j m hj hm => elem_le hw hj hm) (fun m _ => byt_le _ _)]
  rw [xsum_congr 6 _ (fun m => tim (if k = m then 1 else 0) (byt (strAt l6 m) p)) (fun m hm => by rw [(turns_at ht k m hk hm).1])]
  rw [xsum_unit 6 k _ (fun j _ => byt_le _ _), if_pos hk]
theorem data_back (h : List Bool) (hl : h.length = 9) (h6 : 6 ≤ (idx h).length) (d l6 : List ByteArray) (hd : d.length = 6) (he : evenB d = true) (hl6 : l6.length = 6) (hs : ∀ k, k < 6 → strAt l6 k = mixS (frow (((idx h).take 6).getD k 0)) d) :
    dataK (solveN (((idx h).take 6).map frow)) l6 6 = d := by
  have ht := turned h hl h6
  have hil : ((idx h).take 6).length = 6 := by rw [List.length_take]; omega
  generalize (idx h).take 6 = IX at *
  generalize hM : solveN (IX.map frow) = M at *
  have hw := turns_wf ht
  have hwl : wid l6 = wid d := by
    show (strAt l6 0).size = _
    rw [hs 0 (by omega), mixS_size]
  apply List.ext_getElem
  · rw [dataK_len, hd]
  · intro k h0 h2
    have h1 := h0
    rw [dataK_len] at h1
    have e0 : (dataK M l6 6)[k] = mixS (rowAt M k) l6 := by simp [dataK]
    refine e0.trans (Eq.trans ?_ (strAt_eq h2))
    refine str_ext (by rw [mixS_size, hwl, strAt_wid he h2]) fun p hp => ?_
    rw [mixS_size] at hp
    have hp6 : p < wid d := by rw [← hwl]; exact hp
    rw [byt_mix _ _ _ hp, hl6, accAt_elem]
    have e1 : ∀ j, j < 6 → byt (strAt l6 j) p = xsum 6 fun m => tim (elem (IX.map frow) j m) (byt (strAt d m) p) := fun j hj => by
      rw [hs j hj, byt_mix _ _ _ hp6, hd, accAt_fac]
      exact xsum_congr _ _ _ fun m hm => by rw [elem_frow IX j m (by omega) hm]
    rw [xsum_congr 6 _ (fun j => tim (elem M k j) (xsum 6 fun m => tim (elem (IX.map frow) j m) (byt (strAt d m) p))) (fun j hj => congrArg (tim (elem M k j)) (e1 j hj))]
    rw [dot_assoc 6 6 _ _ _ (fun j hj => elem_le hw h1 hj) (fun j m hj hm => by rw [elem_frow IX j m (by omega) hm]; exact fac_le _ _) (fun m _ => byt_le _ _)]
    rw [xsum_congr 6 _ (fun m => tim (if k = m then 1 else 0) (byt (strAt d m) p)) (fun m hm => by rw [(turns_at ht k m h1 hm).2])]
    rw [xsum_unit 6 k _ (fun j _ => byt_le _ _), if_pos h1]
theorem strAt_enc (d : List ByteArray) (i : Nat) (hi : i < 9) : strAt (encL d) i = mixS (frow i) d := by
  unfold strAt encL
  rw [List.getD_eq_getElem?_getD, List.getElem?_map, List.getElem?_range hi]
  rfl
theorem enc_data (d : List ByteArray) (hd : d.length = 6) (he : evenB d = true) (i : Nat) (hi : i < 6) : mixS (frow i) d = strAt d i := by
  refine str_ext (by rw [mixS_size, strAt_wid he (by omega)]) fun p hp => ?_
  rw [mixS_size] at hp
  rw [byt_mix _ _ _ hp, hd, accAt_fac]
  rw [xsum_congr 6 _ (fun j => tim (if i = j then 1 else 0) (byt (strAt d j) p)) (fun j hj => by
    have : fac i j = if i = j then 1 else 0 := by unfold fac; rw [if_neg (by omega)]
    rw [this])]
  rw [xsum_unit 6 i _ (fun j _ => byt_le _ _), if_pos hi]
theorem enc_take (d : List ByteArray) (hd : d.length = 6) (he : evenB d = true) : (encL d).take 6 = d := by
  apply List.ext_getElem
  · rw [List.length_take, encL_len, hd]; rfl
  · intro i h1 h2
    have hi : i < 6 := by omega
    rw [← strAt_eq h2, ← enc_data d hd he i hi, ← strAt_enc d i (by omega), List.getElem_take, strAt_eq (by rw [encL_len]; omega)]
theorem isB_enc (d : List ByteArray) (hd : d.length = 6) (he : evenB d = true) : isB (encL d) = true := by
  unfold isB
  rw [enc_take d hd he, encL_len, he]
  simp
theorem fillR_ok {l : List ByteArray} {h : List Bool} (hl : l.length = 9) (hh : h.length = 9) (he : evenB (leftL l h) = true) (h6 : 6 ≤ (idx h).length) : fillR l h = (encL (dataL l h), 0) := by
  unfold fillR
  rw [if_pos ⟨hl, hh⟩, if_pos he, if_neg (by omega)]
  unfold encR
  rw [if_pos ⟨dataK_len _ _ _, evenB_dataK _ _ _⟩]
theorem idx_mem {h : List Bool} {i : Nat} (hi : i ∈ idx h) : i < h.length ∧ h.getD i false = true := by
  have h1 := List.mem_filter.1 hi
  exact ⟨by simpa using h1.1, by simpa using h1.2⟩
theorem fillR_code {d : List ByteArray} (hd : d.length = 6) (he : evenB d = true) {l : List ByteArray} {h : List Bool} (hl : l.length = 9) (hh : h.length = 9) (hs : ∀ i, i < 9 → h.getD i false = true → strAt l i = strAt (encL d) i) :
    fillR l h = if (idx h).length < 6 then ([], 2) else (encL d, 0) := by
  have hsz : ∀ i ∈ idx h, (strAt l i).size = wid d := fun i hi => by
    have hm := idx_mem hi
    rw [hs i (by omega) hm.2, strAt_enc d i (by omega), mixS_size]
  have hev : evenB (leftL l h) = true := by
    unfold evenB
    rw [List.all_eq_true]
    intro s hsm
    obtain ⟨i, hi, rfl⟩ := List.mem_map.1 hsm
    have hpos : 0 < (idx h).length := List.length_pos_of_mem hi
    have hw : wid (leftL l h) = wid d := by
      unfold wid leftL
      rw [strAt_map _ _ _ hpos]
      exact hsz _ (mem_get hpos)
    rw [hw, hsz i hi]
    simp
  by_cases h6 : (idx h).length < 6
  · rw [if_pos h6]
    unfold fillR
    rw [if_pos ⟨hl, hh⟩, if_pos hev, if_pos h6]
  · rw [if_neg h6, fillR_ok hl hh hev (by omega)]
    have hdl : dataL l h = d := by
      unfold dataL
      refine data_back h hh (by omega) d _ hd he (by rw [List.length_take]; unfold leftL; rw [List.length_map]; omega) fun k hk => ?_
      have e1 : strAt ((leftL l h).take 6) k = strAt (leftL l h) k := by
        unfold strAt
        rw [List.getD_eq_getElem?_getD, List.getD_eq_getElem?_getD, List.getElem?_take, if_pos hk]
      rw [e1, getD_take _ _ _ hk]
      unfold leftL
      rw [strAt_map _ _ _ (by omega)]
      have hm := idx_mem (mem_get (P := idx h) (i := k) (by omega))
      rw [hs _ (by omega) hm.2, strAt_enc d _ (by omega)]
    rw [hdl]
end Go.Proofs.Ytlaflbjlgkdacaa
end
section
namespace Go.Proofs.Ytlaflbjlgkdacaa
open Go.RowKit Q Go.Proofs.YtlaflbjlgkdacaaW.PrintWords Go.Proofs.YtlaflbjlgkdacaaW.PrintLast Go.Proofs.YtlaflbjlgkdacaaW.PrintMore
theorem C_cells {α : Type} {enc : α → Value} {h1 : ∀ x, (enc x).oneCell' = true} {w : World} {g T : Nat} {cs : Array Value} {fz : Nat × Nat} (h : w.heap[g]? = some (.cells cs T fz)) (xs : List α) (he : cs = (xs.map enc).toArray) (hn : xs.length ≤ 9223372036854775807) : Kd.C (Kd.scalar enc h1) w (some ⟨g, 0, none⟩) xs.length xs := by
  refine ⟨rfl, hn, fun _ => ⟨_, rfl, fun j p hj => ⟨[enc p], rfl, rfl, fun i u hu => ?_⟩⟩⟩
  have hi : i = 0 := by
    rcases i with _ | i
    · rfl
    · simp at hu
  subst hi
  have hu : enc p = u := by simpa using hu
  subst hu
  have ha : (⟨g, 0, none⟩ : Addr).add (j * (Kd.scalar enc h1).sz + 0) = ⟨g, j, none⟩ := by
    show (⟨g, 0, none⟩ : Addr).add (j * 1 + 0) = _
    rw [Nat.mul_one, Nat.add_zero]
    exact add_plain g j
  rw [ha]
  simp [World.cell?, h, he, hj]
def d6 : List ByteArray := [⟨#[97]⟩, ⟨#[98]⟩, ⟨#[99]⟩, ⟨#[100]⟩, ⟨#[101]⟩, ⟨#[102]⟩]
theorem d6_even : evenB d6 = true := by decide
theorem d6_enc : encR d6 = (encL d6, 0) := by unfold encR; rw [if_pos ⟨rfl, d6_even⟩]
def h6L : List Bool := [false, false, false, true, true, true, true, true, true]
def l9 : List ByteArray := [⟨#[]⟩, ⟨#[]⟩, ⟨#[]⟩, strAt (encL d6) 3, strAt (encL d6) 4, strAt (encL d6) 5, strAt (encL d6) 6, strAt (encL d6) 7, strAt (encL d6) 8]
theorem l9_fill : fillR l9 h6L = (encL d6, 0) := by
  rw [fillR_code (d := d6) rfl d6_even rfl rfl (fun i hi hh => ?_)]
  · rw [if_neg (by decide)]
  · match i, hi with
    | 0, _ => cases hh
    | 1, _ => cases hh
    | 2, _ => cases hh
    | 3, _ => rfl
    | 4, _ => rfl
    | 5, _ => rfl
    | 6, _ => rfl
    | 7, _ => rfl
    | 8, _ => rfl
def hN : List Bool := [false, false, false, false, false, false, false, false, false]
theorem none_fill : fillR (encL d6) hN = ([], 2) := by
  rw [fillR_code (d := d6) rfl d6_even (encL_len _) rfl (fun i hi hh => ?_)]
  · rw [if_pos (by decide)]
  · match i, hi with
    | 0, _ => cases hh
    | 1, _ => cases hh
    | 2, _ => cases hh
    | 3, _ => cases hh
    | 4, _ => cases hh
    | 5, _ => cases hh
    | 6, _ => cases hh
    | 7, _ => cases hh
    | 8, _ => cases hh
theorem nine_enc : encR (encL d6) = ([], 1) := by unfold encR; rw [if_neg (by rw [encL_len]; rintro ⟨h, _⟩; cases h)]
theorem fac60 : fac 6 0 = 122 := by decide +kernel
theorem makeN (w : World) : (Instr.makeSlice 38 (.int .i64 9) (.int .i64 9)).run Try.prog w = .ok (.slice (some ⟨w.heap.size, 0, none⟩) 9 9) (w.alloc (.cells (hN.map Value.bool).toArray 4)) := by kernel_rfl
theorem is_nil (A : Option Addr) (c : Nat) (w : World) (hc : 9 ≤ c) : Calls Try.prog 15 #[.pointer none, .slice A 9 c] w fun e w' => e = .returned (.bool false) ∧ w = w' := by
  go_enter Try.func15, Try.ntmps15
  go_wp2_with (go_at_call 12; refine (encode_nil _ _).mono ?_; rintro e w' ⟨rfl, rfl⟩)
  go_ret
  exact ⟨rfl, rfl⟩
theorem enc_size (d : List ByteArray) (b : Nat) (hw : wid d ≤ b) : ∀ s ∈ encL d, s.size ≤ b := by
  intro s hs
  obtain ⟨i, _, rfl⟩ := List.mem_map.1 hs
  rw [mixS_size]
  exact hw
theorem e_size : ∀ i, i < 9 → (strAt (encL d6) i).size = 1 := by
  intro i hi
  rw [strAt_enc d6 i hi, mixS_size]
  rfl
theorem l9_size : ∀ s ∈ l9, s.size ≤ 140737488355328 := by
  have h3 := e_size 3 (by decide)
  have h4 := e_size 4 (by decide)
  have h5 := e_size 5 (by decide)
  have h6 := e_size 6 (by decide)
  have h7 := e_size 7 (by decide)
  have h8 := e_size 8 (by decide)
  intro s hs
  unfold l9 at hs
  simp only [List.mem_cons, List.not_mem_nil, or_false] at hs
  have h0 : (⟨#[]⟩ : ByteArray).size = 0 := rfl
  rcases hs with rfl | rfl | rfl | rfl | rfl | rfl | rfl | rfl | rfl <;> omega
theorem told_c {base : Nat} {r : List ByteArray} {n : Int} {k : Nat} (hk : r.length = k) {w : World} {e : Ending} {w' : World} (h : Told base (r, n) w e w') : ∃ A c, e = .returned (.tuple #[.slice A k c, .int .i64 n]) ∧ Kd.C Kd.string w' A k r ∧ k ≤ c ∧ Below base w w' := by
  obtain ⟨A, c, he, hO, hB⟩ := h
  have h2 := Kd.R_reads' hO
  refine ⟨A, c, ?_, ?_, ?_, hB⟩
  · rw [he, ← hk]
  · rw [← hk]; exact h2.2.2
  · rw [← hk]; exact h2.2.1
theorem own_at {base : Nat} {A : Option Addr} {n c : Nat} {r : List ByteArray} {w : World} (h : RS base (.slice A n c) r w) (h0 : 0 < r.length) : ∃ g, A = some ⟨g, 0, none⟩ := by
  have ho := Kd.own_of_R (h1 := fun _ => rfl) h
  rcases ho.2 with ⟨_, e⟩ | ⟨g1, cap, cur, hv, _⟩
  · omega
  · injection hv with e1
    exact ⟨g1, e1⟩
theorem C_at9 {w : World} {A : Option Addr} {k : Nat} {r : List ByteArray} (hk : r.length = k) (h : Kd.C Kd.string w A k r) : Kd.C Kd.string w A r.length r := by rw [hk]; exact h
theorem exE {g : Nat} {w : World} (hI : IsTab w g) (gl : Nat) (hl : w.heap[gl]? = some (.cells (d6.map Value.string).toArray 9 (0, 0))) : Calls Try.prog 12 #[.pointer (some ⟨g, 0, none⟩), .slice (some ⟨gl, 0, none⟩) 6 6] w fun e w' => ∃ gE c, e = .returned (.tuple #[.slice (some ⟨gE, 0, none⟩) 9 c, .int .i64 0]) ∧ Kd.C Kd.string w' (some ⟨gE, 0, none⟩) 9 (encL d6) ∧ 9 ≤ c ∧ Below w.heap.size w w' := by
  have := encode_calls g (some ⟨gl, 0, none⟩) 6 d6 w hI (C_cells hl d6 rfl (by decide)) (by decide) (by decide)
  rw [d6_enc] at this
  refine this.mono fun e w' h => ?_
  obtain ⟨A, c, he, hC, hc, hb⟩ := told_c (encL_len d6) h
  obtain ⟨A2, c2, he2, hO, _⟩ := h
  obtain ⟨gE, hg⟩ := own_at hO (by rw [encL_len]; decide)
  rw [he] at he2
  injection he2 with he2
  injection he2 with he2
  have e3 : A = A2 := by
    simp at he2
    exact he2.1
  subst e3
  subst hg
  exact ⟨gE, c, he, hC, hc, hb⟩
theorem exF {g : Nat} {w : World} (hI : IsTab w g) (gl gh : Nat) (hl : w.heap[gl]? = some (.cells (l9.map Value.string).toArray 9 (0, 0))) (hh : w.heap[gh]? = some (.cells (h6L.map Value.bool).toArray 4 (0, 0))) : Calls Try.prog 17 #[.pointer (some ⟨g, 0, none⟩), .slice (some ⟨gl, 0, none⟩) 9 9, .slice (some ⟨gh, 0, none⟩) 9 9] w fun e w' => ∃ A c, e = .returned (.tuple #[.slice A 9 c, .int .i64 0]) ∧ Kd.C Kd.string w' A 9 (encL d6) ∧ 9 ≤ c ∧ Below w.heap.size w w' := by
  have := fill_calls g (some ⟨gl, 0, none⟩) 9 l9 (some ⟨gh, 0, none⟩) 9 h6L w hI (C_cells hl l9 rfl (by decide)) (by decide) l9_size (C_cells hh h6L rfl (by decide)) (by decide)
  rw [l9_fill] at this
  exact this.mono fun e w' h => told_c (encL_len d6) h
theorem exN {g : Nat} {w : World} (hI : IsTab w g) (A : Option Addr) (c : Nat) (hC : Kd.C Kd.string w A 9 (encL d6)) (hc : 9 ≤ c) (gh : Nat) (hh : w.heap[gh]? = some (.cells (hN.map Value.bool).toArray 4 (0, 0))) : Calls Try.prog 17 #[.pointer (some ⟨g, 0, none⟩), .slice A 9 c, .slice (some ⟨gh, 0, none⟩) 9 9] w fun e w' => ∃ A c, e = .returned (.tuple #[.slice A 0 c, .int .i64 2]) ∧ Below w.heap.size w w' := by
  have := fill_calls g A c (encL d6) (some ⟨gh, 0, none⟩) 9 hN w hI (C_at9 (encL_len _) hC) (by rw [encL_len]; exact hc) (enc_size d6 _ (by decide)) (C_cells hh hN rfl (by decide)) (by decide)
  rw [none_fill, encL_len] at this
  exact this.mono fun e w' h => by
    obtain ⟨A1, c1, e1, _, _, h4⟩ := told_c (r := []) (k := 0) rfl h
    exact ⟨A1, c1, e1, h4⟩
theorem ex9 {g : Nat} {w : World} (hI : IsTab w g) (A : Option Addr) (c : Nat) (hC : Kd.C Kd.string w A 9 (encL d6)) (hc : 9 ≤ c) : Calls Try.prog 12 #[.pointer (some ⟨g, 0, none⟩), .slice A 9 c] w fun e w' => ∃ A c, e = .returned (.tuple #[.slice A 0 c, .int .i64 1]) ∧ Below w.heap.size w w' := by
  have := encode_calls g A c (encL d6) w hI (C_at9 (encL_len _) hC) (by rw [encL_len]; exact hc) (enc_size d6 _ (by decide))
  rw [nine_enc, encL_len] at this
  exact this.mono fun e w' h => by
    obtain ⟨A1, c1, e1, _, _, h4⟩ := told_c (r := []) (k := 0) rfl h
    exact ⟨A1, c1, e1, h4⟩
theorem exS {w : World} (A B : Option Addr) (c d : Nat) (hA : Kd.C Kd.string w A 9 (encL d6)) (hc : 9 ≤ c) (hB : Kd.C Kd.string w B 9 (encL d6)) (hd : 9 ≤ d) : Calls Try.prog 14 #[.slice A 9 c, .slice B 9 d] w fun e w' => e = .returned (.bool true) ∧ Below w.heap.size w w' := by
  have := sluicegateref02_Same.calls 10 A c (encL d6) B d (encL d6) _ w (C_at9 (encL_len _) hA) (by rw [encL_len]; exact hc) (C_at9 (encL_len _) hB) (by rw [encL_len]; exact hd) (same_f _ _ (by rw [encL_len]; omega) 10 (by rw [encL_len]; omega))
  rw [encL_len, decide_eq_true rfl] at this
  exact this.mono fun e w' h => ⟨h.1, h.2.below⟩
theorem exI {g : Nat} {w : World} (hI : IsTab w g) (A : Option Addr) (c : Nat) (hC : Kd.C Kd.string w A 9 (encL d6)) (hc : 9 ≤ c) : Calls Try.prog 15 #[.pointer (some ⟨g, 0, none⟩), .slice A 9 c] w fun e w' => e = .returned (.bool true) ∧ Below w.heap.size w w' := by
  have := is_calls g A c (encL d6) w hI (C_at9 (encL_len _) hC) (by rw [encL_len]; exact hc) (enc_size d6 _ (by decide))
  rw [isB_enc d6 rfl d6_even, encL_len] at this
  exact this
theorem e_at {w W : World} {gE : Nat} (h : Kd.C Kd.string w (some ⟨gE, 0, none⟩) 9 (encL d6)) (b : Below w.heap.size w W) (i : Nat) (hi : i < 9) : W.cell? ⟨gE, i, none⟩ = some (.string (strAt (encL d6) i)) := by
  have := str_now (l := encL d6) (C_at9 (encL_len _) h) b ⟨by rw [encL_len]; exact hi, rfl⟩
  rwa [add_plain] at this
theorem live_l9 (w3 : World) : (((w3.alloc (.cells (h6L.map Value.bool).toArray 4)).alloc (.cells (l9.map Value.string).toArray 9)).drew).heap[w3.heap.size + 1]? = some (.cells (l9.map Value.string).toArray 9 (0, 0)) := by
  have h := heap_alloc_new (w3.alloc (.cells (h6L.map Value.bool).toArray 4)) (.cells (l9.map Value.string).toArray 9)
  have e : (w3.alloc (.cells (h6L.map Value.bool).toArray 4)).heap.size = w3.heap.size + 1 := by simp
  rw [e] at h
  exact h
theorem live_h6 (w3 : World) : (((w3.alloc (.cells (h6L.map Value.bool).toArray 4)).alloc (.cells (l9.map Value.string).toArray 9)).drew).heap[w3.heap.size]? = some (.cells (h6L.map Value.bool).toArray 4 (0, 0)) := by
  have h := heap_alloc_new w3 (.cells (h6L.map Value.bool).toArray 4)
  exact (Lib.alloc_old (w3.alloc (.cells (h6L.map Value.bool).toArray 4)) _ _ (by simp)).trans h
set_option maxRecDepth 100000 in
set_option maxHeartbeats 2000000 in
theorem live02_calls (w : World) : Calls Try.prog 9 #[] w fun e w' => e = .returned (.bool true) ∧ Below w.heap.size w w' := by
  have hmk := makeN
  go_enter Try.func9, Try.ntmps9
  go_wp2_with fail
  refine (fnew_calls _).mono ?_
  rintro e w1 ⟨g, rfl, I, _, b1⟩
  have I1 := Aside0.mk I
  have B1 := Aside0.mk b1
  clear I b1
  go_wp2_with fail
  refine (exE (I1.out.below (below_alloc (Below.refl _ _) _)) w1.heap.size (heap_alloc_new w1 _)).mono ?_
  rintro e w2 ⟨gE, c, rfl, hC, hc, hb⟩
  have I2 := Aside0.mk ((I1.out.below (below_alloc (Below.refl _ _) _)).below hb)
  have B2 := Aside0.mk (below2 (below_alloc B1.out _) (by simp; exact Nat.le_succ_of_le B1.out.size) hb)
  have HE := Aside0.mk hC
  clear hC hb I1 B1
  go_wp2_with fail
  refine (factor_ok g 6 0 (by decide) (by decide) _ I2.out).mono ?_
  rw [fac60]
  rintro e w3 ⟨rfl, hb⟩
  have I3 := Aside0.mk (I2.out.below hb)
  have B3 := Aside0.mk hb
  have B0 := Aside0.mk (below2 B2.out B2.out.size hb)
  clear hb I2 B2
  go_wp2_with fail
  refine start_ (n := 27) (S := fun w' => w'.cell? ⟨gE, 3, none⟩ = some (.string (strAt (encL d6) 3)) ∧ w'.cell? ⟨gE, 4, none⟩ = some (.string (strAt (encL d6) 4)) ∧ w'.cell? ⟨gE, 5, none⟩ = some (.string (strAt (encL d6) 5)) ∧ w'.cell? ⟨gE, 6, none⟩ = some (.string (strAt (encL d6) 6)) ∧ w'.cell? ⟨gE, 7, none⟩ = some (.string (strAt (encL d6) 7)) ∧ w'.cell? ⟨gE, 8, none⟩ = some (.string (strAt (encL d6) 8))) (ds := [19, 21]) #[false, false, false, false, false, false, false, false, false, false, false, false, false, false, false, false, false, false, false, false, false, false, false, false, false, false, false] (by kernel_rfl) rfl rfl ⟨(e_at HE.out (Below.drew (below_alloc B3.out _)) 3 (by decide)), (e_at HE.out (Below.drew (below_alloc B3.out _)) 4 (by decide)), (e_at HE.out (Below.drew (below_alloc B3.out _)) 5 (by decide)), (e_at HE.out (Below.drew (below_alloc B3.out _)) 6 (by decide)), (e_at HE.out (Below.drew (below_alloc B3.out _)) 7 (by decide)), (e_at HE.out (Below.drew (below_alloc B3.out _)) 8 (by decide))⟩ (fun hHeld => ?_)
  refine pure_ (i := 0) (N := some 36) (v := ?_) (a' := ?_) #[true, false, false, false, false, false, false, false, false, false, false, false, false, false, false, false, false, false, false, false, false, false, false, false, false, false, false] rfl rfl (by kernel_rfl) (fun _ _ _ h => h) (Or.inl ⟨by rfl, ?_⟩) ?_ ?_
  rotate_left
  · intro w'
    go_simp
    with_reducible rfl
  rotate_left
  · simp only [Act.put, List.setIfInBounds_toArray, List.set_cons_zero, List.set_cons_succ]
    rfl
  refine pure_ (i := 1) (N := some 37) (v := ?_) (a' := ?_) #[true, true, false, false, false, false, false, false, false, false, false, false, false, false, false, false, false, false, false, false, false, false, false, false, false, false, false] rfl rfl (by kernel_rfl) (fun _ _ _ h => h) (Or.inl ⟨by rfl, ?_⟩) ?_ ?_
  rotate_left
  · intro w'
    go_simp
    with_reducible rfl
  rotate_left
  · simp only [Act.put, List.setIfInBounds_toArray, List.set_cons_zero, List.set_cons_succ]
    rfl
  refine pure_ (i := 2) (N := some 38) (v := ?_) (a' := ?_) #[true, true, true, false, false, false, false, false, false, false, false, false, false, false, false, false, false, false, false, false, false, false, false, false, false, false, false] rfl rfl (by kernel_rfl) (fun _ _ _ h => h) (Or.inl ⟨by rfl, ?_⟩) ?_ ?_
  rotate_left
  · intro w'
    go_simp
    with_reducible rfl
  rotate_left
  · simp only [Act.put, List.setIfInBounds_toArray, List.set_cons_zero, List.set_cons_succ]
    rfl
  refine pure_ (i := 4) (N := some 40) (v := ?_) (a' := ?_) #[true, true, true, false, true, false, false, false, false, false, false, false, false, false, false, false, false, false, false, false, false, false, false, false, false, false, false] rfl rfl (by kernel_rfl) (fun _ _ _ h => h) (Or.inl ⟨by rfl, ?_⟩) ?_ ?_
  rotate_left
  · intro w'
    go_simp
    with_reducible rfl
  rotate_left
  · simp only [Act.put, List.setIfInBounds_toArray, List.set_cons_zero, List.set_cons_succ]
    rfl
  refine pure_ (i := 5) (N := some 41) (v := ?_) (a' := ?_) #[true, true, true, false, true, true, false, false, false, false, false, false, false, false, false, false, false, false, false, false, false, false, false, false, false, false, false] rfl rfl (by kernel_rfl) (fun _ _ _ h => h) (Or.inl ⟨by rfl, ?_⟩) ?_ ?_
  rotate_left
  · intro w'
    go_simp
    with_reducible rfl
  rotate_left
  · simp only [Act.put, List.setIfInBounds_toArray, List.set_cons_zero, List.set_cons_succ]
    rfl
  refine pure_ (i := 7) (N := some 43) (v := ?_) (a' := ?_) #[true, true, true, false, true, true, false, true, false, false, false, false, false, false, false, false, false, false, false, false, false, false, false, false, false, false, false] rfl rfl (by kernel_rfl) (fun _ _ _ h => h) (Or.inl ⟨by rfl, ?_⟩) ?_ ?_
  rotate_left
  · intro w'
    go_simp
    with_reducible rfl
  rotate_left
  · simp only [Act.put, List.setIfInBounds_toArray, List.set_cons_zero, List.set_cons_succ]
    rfl
  refine pure_ (i := 8) (N := some 44) (v := ?_) (a' := ?_) #[true, true, true, false, true, true, false, true, true, false, false, false, false, false, false, false, false, false, false, false, false, false, false, false, false, false, false] rfl rfl (by kernel_rfl) (fun _ _ _ h => h) (Or.inl ⟨by rfl, ?_⟩) ?_ ?_
  rotate_left
  · intro w'
    go_simp
    with_reducible rfl
  rotate_left
  · simp only [Act.put, List.setIfInBounds_toArray, List.set_cons_zero, List.set_cons_succ]
    rfl
  refine pure_ (i := 10) (N := some 46) (v := ?_) (a' := ?_) #[true, true, true, false, true, true, false, true, true, false, true, false, false, false, false, false, false, false, false, false, false, false, false, false, false, false, false] rfl rfl (by kernel_rfl) (fun _ _ _ h => h) (Or.inl ⟨by rfl, ?_⟩) ?_ ?_
  rotate_left
  · intro w'
    go_simp
    with_reducible rfl
  rotate_left
  · simp only [Act.put, List.setIfInBounds_toArray, List.set_cons_zero, List.set_cons_succ]
    rfl
  refine pure_ (i := 11) (N := some 47) (v := ?_) (a' := ?_) #[true, true, true, false, true, true, false, true, true, false, true, true, false, false, false, false, false, false, false, false, false, false, false, false, false, false, false] rfl rfl (by kernel_rfl) (fun _ _ _ h => h) (Or.inl ⟨by rfl, ?_⟩) ?_ ?_
  rotate_left
  · intro w'
    go_simp
    with_reducible rfl
  rotate_left
  · simp only [Act.put, List.setIfInBounds_toArray, List.set_cons_zero, List.set_cons_succ]
    rfl
  refine pure_ (i := 13) (N := some 49) (v := ?_) (a' := ?_) #[true, true, true, false, true, true, false, true, true, false, true, true, false, true, false, false, false, false, false, false, false, false, false, false, false, false, false] rfl rfl (by kernel_rfl) (fun _ _ _ h => h) (Or.inl ⟨by rfl, ?_⟩) ?_ ?_
  rotate_left
  · intro w'
    go_simp
    with_reducible rfl
  rotate_left
  · simp only [Act.put, List.setIfInBounds_toArray, List.set_cons_zero, List.set_cons_succ]
    rfl
  refine pure_ (i := 14) (N := some 50) (v := ?_) (a' := ?_) #[true, true, true, false, true, true, false, true, true, false, true, true, false, true, true, false, false, false, false, false, false, false, false, false, false, false, false] rfl rfl (by kernel_rfl) (fun _ _ _ h => h) (Or.inl ⟨by rfl, ?_⟩) ?_ ?_
  rotate_left
  · intro w'
    go_simp
    with_reducible rfl
  rotate_left
  · simp only [Act.put, List.setIfInBounds_toArray, List.set_cons_zero, List.set_cons_succ]
    rfl
  refine pure_ (i := 16) (N := some 52) (v := ?_) (a' := ?_) #[true, true, true, false, true, true, false, true, true, false, true, true, false, true, true, false, true, false, false, false, false, false, false, false, false, false, false] rfl rfl (by kernel_rfl) (fun _ _ _ h => h) (Or.inl ⟨by rfl, ?_⟩) ?_ ?_
  rotate_left
  · intro w'
    go_simp
    with_reducible rfl
  rotate_left
  · simp only [Act.put, List.setIfInBounds_toArray, List.set_cons_zero, List.set_cons_succ]
    rfl
  refine pure_ (i := 17) (N := some 53) (v := ?_) (a' := ?_) #[true, true, true, false, true, true, false, true, true, false, true, true, false, true, true, false, true, true, false, false, false, false, false, false, false, false, false] rfl rfl (by kernel_rfl) (fun _ _ _ h => h) (Or.inl ⟨by rfl, ?_⟩) ?_ ?_
  rotate_left
  · intro w'
    go_simp
    with_reducible rfl
  rotate_left
  · simp only [Act.put, List.setIfInBounds_toArray, List.set_cons_zero, List.set_cons_succ]
    rfl
  refine pure_ (i := 20) (N := some 56) (v := ?_) (a' := ?_) #[true, true, true, false, true, true, false, true, true, false, true, true, false, true, true, false, true, true, false, false, true, false, false, false, false, false, false] rfl rfl (by kernel_rfl) (fun _ _ _ h => h) (Or.inl ⟨by rfl, ?_⟩) ?_ ?_
  rotate_left
  · intro w'
    go_simp
    with_reducible rfl
  rotate_left
  · simp only [Act.put, List.setIfInBounds_toArray, List.set_cons_zero, List.set_cons_succ]
    rfl
  refine take_ (i := 3) (N := some 39) (v := ?_) (a' := ?_) #[true, true, true, true, true, true, false, true, true, false, true, true, false, true, true, false, true, true, false, false, true, false, false, false, false, false, false] rfl rfl (by kernel_rfl) (fun _ _ _ h => h) (Or.inl ⟨by rfl, ?_⟩) hHeld ?_ ?_
  rotate_left
  · rintro w' ⟨s0, s1, s2, s3, s4, s5⟩
    go_simp
    with_reducible rfl
  rotate_left
  · simp only [Act.put, List.setIfInBounds_toArray, List.set_cons_zero, List.set_cons_succ]
    rfl
  refine take_ (i := 6) (N := some 42) (v := ?_) (a' := ?_) #[true, true, true, true, true, true, true, true, true, false, true, true, false, true, true, false, true, true, false, false, true, false, false, false, false, false, false] rfl rfl (by kernel_rfl) (fun _ _ _ h => h) (Or.inl ⟨by rfl, ?_⟩) hHeld ?_ ?_
  rotate_left
  · rintro w' ⟨s0, s1, s2, s3, s4, s5⟩
    go_simp
    with_reducible rfl
  rotate_left
  · simp only [Act.put, List.setIfInBounds_toArray, List.set_cons_zero, List.set_cons_succ]
    rfl
  refine take_ (i := 9) (N := some 45) (v := ?_) (a' := ?_) #[true, true, true, true, true, true, true, true, true, true, true, true, false, true, true, false, true, true, false, false, true, false, false, false, false, false, false] rfl rfl (by kernel_rfl) (fun _ _ _ h => h) (Or.inl ⟨by rfl, ?_⟩) hHeld ?_ ?_
  rotate_left
  · rintro w' ⟨s0, s1, s2, s3, s4, s5⟩
    go_simp
    with_reducible rfl
  rotate_left
  · simp only [Act.put, List.setIfInBounds_toArray, List.set_cons_zero, List.set_cons_succ]
    rfl
  refine take_ (i := 12) (N := some 48) (v := ?_) (a' := ?_) #[true, true, true, true, true, true, true, true, true, true, true, true, true, true, true, false, true, true, false, false, true, false, false, false, false, false, false] rfl rfl (by kernel_rfl) (fun _ _ _ h => h) (Or.inl ⟨by rfl, ?_⟩) hHeld ?_ ?_
  rotate_left
  · rintro w' ⟨s0, s1, s2, s3, s4, s5⟩
    go_simp
    with_reducible rfl
  rotate_left
  · simp only [Act.put, List.setIfInBounds_toArray, List.set_cons_zero, List.set_cons_succ]
    rfl
  refine take_ (i := 15) (N := some 51) (v := ?_) (a' := ?_) #[true, true, true, true, true, true, true, true, true, true, true, true, true, true, true, true, true, true, false, false, true, false, false, false, false, false, false] rfl rfl (by kernel_rfl) (fun _ _ _ h => h) (Or.inl ⟨by rfl, ?_⟩) hHeld ?_ ?_
  rotate_left
  · rintro w' ⟨s0, s1, s2, s3, s4, s5⟩
    go_simp
    with_reducible rfl
  rotate_left
  · simp only [Act.put, List.setIfInBounds_toArray, List.set_cons_zero, List.set_cons_succ]
    rfl
  refine take_ (i := 18) (N := some 54) (v := ?_) (a' := ?_) #[true, true, true, true, true, true, true, true, true, true, true, true, true, true, true, true, true, true, true, false, true, false, false, false, false, false, false] rfl rfl (by kernel_rfl) (fun _ _ _ h => h) (Or.inl ⟨by rfl, ?_⟩) hHeld ?_ ?_
  rotate_left
  · rintro w' ⟨s0, s1, s2, s3, s4, s5⟩
    go_simp
    with_reducible rfl
  rotate_left
  · simp only [Act.put, List.setIfInBounds_toArray, List.set_cons_zero, List.set_cons_succ]
    rfl
  refine last_ (i := 19) (N := some 55) #[true, true, true, true, true, true, true, true, true, true, true, true, true, true, true, true, true, true, true, true, true, false, false, false, false, false, false] rfl rfl (by kernel_rfl) (by decide) (fun K hK => ?_)
  refine value_ (w1 := ?_) (v := ?_) (by rfl) rfl ?_ ?_
  rotate_left 2
  · go_simp
    constructor
    · rfl
    · rfl
  refine hK.out _ _ ?_
  clear hK K
  refine norm_ (a' := ?_) ?_ ?_
  rotate_left
  · show Act.put _ (some 55) _ = _
    simp only [Act.put, List.setIfInBounds_toArray, List.set_cons_zero, List.set_cons_succ]
    rfl
  refine last_ (i := 21) (N := some 57) #[true, true, true, true, true, true, true, true, true, true, true, true, true, true, true, true, true, true, true, true, true, true, false, false, false, false, false] rfl rfl (by kernel_rfl) (by decide) (fun K hK => ?_)
  refine goes_ Try.func17 (by kernel_rfl) rfl #[.pointer (some ⟨g, 0, none⟩), .slice (some ⟨w3.heap.size + 1, 0, none⟩) 9 9, .slice (some ⟨w3.heap.size, 0, none⟩) 9 9] (by rfl) rfl rfl (by simp only [List.map_toArray, List.map_cons, List.map_nil, World.size_drew, World.size_alloc]; rfl) ?_
  refine (exF (I3.out.below (Below.drew (below_alloc (below_alloc (Below.refl _ _) _) _))) (w3.heap.size + 1) w3.heap.size (live_l9 w3) (live_h6 w3)).mono ?_
  rintro e w4 ⟨A4, c4, rfl, hC4, hc4, hb4⟩
  refine ⟨_, rfl, ?_⟩
  refine hK.out _ _ ?_
  clear hK K
  refine norm_ (a' := ?_) ?_ ?_
  rotate_left
  · show Act.put _ (some 57) _ = _
    simp only [Act.put, List.setIfInBounds_toArray, List.set_cons_zero, List.set_cons_succ]
    rfl
  refine pure_ (i := 22) (N := some 35) (v := ?_) (a' := ?_) #[true, true, true, true, true, true, true, true, true, true, true, true, true, true, true, true, true, true, true, true, true, true, true, false, false, false, false] rfl rfl (by kernel_rfl) (fun _ _ _ h => h) (Or.inl ⟨by rfl, ?_⟩) ?_ ?_
  rotate_left
  · intro w'
    go_simp
    with_reducible rfl
  rotate_left
  · simp only [Act.put, List.setIfInBounds_toArray, List.set_cons_zero, List.set_cons_succ]
    rfl
  refine pure_ (i := 23) (N := some 58) (v := ?_) (a' := ?_) #[true, true, true, true, true, true, true, true, true, true, true, true, true, true, true, true, true, true, true, true, true, true, true, true, false, false, false] rfl rfl (by kernel_rfl) (fun _ _ _ h => h) (Or.inl ⟨by rfl, ?_⟩) ?_ ?_
  rotate_left
  · intro w'
    go_simp
    with_reducible rfl
  rotate_left
  · simp only [Act.put, List.setIfInBounds_toArray, List.set_cons_zero, List.set_cons_succ]
    rfl
  refine pure_ (i := 24) (N := some 59) (v := ?_) (a' := ?_) #[true, true, true, true, true, true, true, true, true, true, true, true, true, true, true, true, true, true, true, true, true, true, true, true, true, false, false] rfl rfl (by kernel_rfl) (fun _ _ _ h => h) (Or.inl ⟨by rfl, ?_⟩) ?_ ?_
  rotate_left
  · intro w'
    go_simp
    with_reducible rfl
  rotate_left
  · simp only [Act.put, List.setIfInBounds_toArray, List.set_cons_zero, List.set_cons_succ]
    rfl
  refine pure_ (i := 25) (N := some 7) (v := ?_) (a' := ?_) #[true, true, true, true, true, true, true, true, true, true, true, true, true, true, true, true, true, true, true, true, true, true, true, true, true, true, false] rfl rfl (by kernel_rfl) (fun _ _ _ h => h) (Or.inl ⟨by rfl, ?_⟩) ?_ ?_
  rotate_left
  · intro w'
    go_simp
    with_reducible rfl
  rotate_left
  · simp only [Act.put, List.setIfInBounds_toArray, List.set_cons_zero, List.set_cons_succ]
    rfl
  refine pure_ (i := 26) (N := some 8) (v := ?_) (a' := ?_) #[true, true, true, true, true, true, true, true, true, true, true, true, true, true, true, true, true, true, true, true, true, true, true, true, true, true, true] rfl rfl (by kernel_rfl) (fun _ _ _ h => h) (Or.inl ⟨by rfl, ?_⟩) ?_ ?_
  rotate_left
  · intro w'
    go_simp
    with_reducible rfl
  rotate_left
  · simp only [Act.put, List.setIfInBounds_toArray, List.set_cons_zero, List.set_cons_succ]
    rfl
  refine done_ (by kernel_rfl) ?_
  have bA : Below w3.heap.size w3 ((w3.alloc (.cells (h6L.map Value.bool).toArray 4)).alloc (.cells (l9.map Value.string).toArray 9)).drew := Below.drew (below_alloc (below_alloc (Below.refl _ _) _) _)
  have b34 := below2 bA bA.size hb4
  have I4 := Aside0.mk (I3.out.below b34)
  have B4 := Aside0.mk (below2 B0.out B0.out.size b34)
  have HE4 := Aside0.mk (Kd.C_below (Kd.C_below HE.out B3.out) b34)
  have HX4 := Aside0.mk hC4
  have hc4 := Lib.hid hc4
  have hcl := Lib.hid hc
  have hc6 : 6 ≤ c := by omega
  clear hHeld bA b34 hb4 hC4 I3 B3 B0 HE hc
  go_wp2_with (go_at_call 17; refine (exN (I4.out.below (below_alloc (Below.refl _ _) _)) (some ⟨gE, 0, none⟩) c (Kd.C_below HE4.out (below_alloc (Below.refl _ _) _)) hcl.out w4.heap.size (heap_alloc_new w4 _)).mono ?_; rintro e w5 ⟨A5, c5, rfl, hb5⟩)
  have b45 := below2 (below_alloc (Below.refl _ w4) (.cells (hN.map Value.bool).toArray 4)) (by simp) hb5
  have I5 := Aside0.mk (I4.out.below b45)
  have B5 := Aside0.mk (below2 B4.out B4.out.size b45)
  have HE5 := Aside0.mk (Kd.C_below HE4.out b45)
  have HX5 := Aside0.mk (Kd.C_below HX4.out b45)
  clear b45 hb5 hmk I4 B4 HE4 HX4
  refine (ex9 I5.out (some ⟨gE, 0, none⟩) c HE5.out hcl.out).mono ?_
  rintro e w6 ⟨A6, c6, rfl, hb6⟩
  have I6 := Aside0.mk (I5.out.below hb6)
  have B6 := Aside0.mk (below2 B5.out B5.out.size hb6)
  have HE6 := Aside0.mk (Kd.C_below HE5.out hb6)
  have HX6 := Aside0.mk (Kd.C_below HX5.out hb6)
  clear hb6 I5 B5 HE5 HX5
  go_wp2_with fail
  refine (encode_nil _ _).mono ?_
  rintro e w' ⟨rfl, rfl⟩
  go_wp2_with fail
  refine (exS A4 (some ⟨gE, 0, none⟩) c4 c HX6.out hc4.out HE6.out hcl.out).mono ?_
  rintro e w7 ⟨rfl, hb7⟩
  have I7 := Aside0.mk (I6.out.below hb7)
  have B7 := Aside0.mk (below2 B6.out B6.out.size hb7)
  have HE7 := Aside0.mk (Kd.C_below HE6.out hb7)
  clear hb7 I6 B6 HE6 HX6
  go_wp2_with fail
  refine (exI I7.out (some ⟨gE, 0, none⟩) c HE7.out hcl.out).mono ?_
  rintro e w8 ⟨rfl, hb8⟩
  have B8 := Aside0.mk (below2 B7.out B7.out.size hb8)
  clear hb8 I7 B7 HE7
  go_wp2_with fail
  refine (is_nil _ _ _ hcl.out).mono ?_
  rintro e w' ⟨rfl, rfl⟩
  go_wp2_with fail
  go_ret
  exact ⟨rfl, B8.out⟩
end Go.Proofs.Ytlaflbjlgkdacaa
end
section
namespace Go.Proofs.Ytlaflbjlgkdacaa
open Go.RowKit Q Go.Proofs.YtlaflbjlgkdacaaW.PrintWords Go.Proofs.YtlaflbjlgkdacaaW.PrintLast Go.Proofs.YtlaflbjlgkdacaaW.PrintMore
def smallS (l : List ByteArray) (many long : Int) : Bool := decide (∀ s ∈ l, (s.size : Int) ≤ long) && decide ((l.length : Int) ≤ many)
theorem wrap_suc {n i : Nat} (h : i < n) (hn : n ≤ 9223372036854775807) : wrap64 ((i : Int) + 1) = ((i + 1 : Nat) : Int) := by
  unfold wrap64
  omega
theorem small_l0 (l : List ByteArray) (a b : Int) (hl : l.length ≤ 9223372036854775807) : ∀ m i : Nat, i + m = l.length → sluicegateref02_Small.l0 (m + 1) l a b (i : Int) = some (decide (∀ s ∈ l.drop i, (s.size : Int) ≤ b) && decide ((l.length : Int) ≤ a))
  | 0, i, h => by
    unfold sluicegateref02_Small.l0
    rw [if_neg (by omega), List.drop_eq_nil_of_le (by omega)]
    simp
  | m + 1, i, h => by
    have hi : i < l.length := by omega
    have ih := small_l0 l a b hl m (i + 1) (by omega)
    unfold sluicegateref02_Small.l0
    rw [if_pos (by omega), if_pos (by omega), wrap_suc hi hl, ih, List.drop_eq_getElem_cons hi]
    have hr : rdOf ByteArray.empty l (i : Int) = l[i] := by simp [rdOf, hi]
    rw [hr]
    by_cases hb : (l[i].size : Int) > b
    · rw [if_pos hb, decide_eq_false (fun h2 => by have := h2 _ List.mem_cons_self; omega)]
      rfl
    · rw [if_neg hb]
      congr 2
      simp only [List.mem_cons, forall_eq_or_imp]
      exact decide_eq_decide.mpr ⟨fun h2 => ⟨by omega, h2⟩, fun h2 => h2.2⟩
theorem small12_calls (A : Option Addr) (c : Nat) (l : List ByteArray) (a b : Int) (w : World) (hr : Kd.C Kd.string w A l.length l) (hc : l.length ≤ c) : Calls Try.prog 11 #[.slice A l.length c, .int .i64 a, .int .i64 b] w fun e w' => e = .returned (.bool (smallS l a b)) ∧ Below w.heap.size w w' := by
  have h := small_l0 l a b (Kd.C_max hr) l.length 0 (by omega)
  refine (sluicegateref02_Small.calls (l.length + 1) A c l a b _ w hr hc h).mono ?_
  rintro e w' ⟨rfl, hd⟩
  exact ⟨rfl, hd.below⟩
theorem smallS_has {l : List ByteArray} {a b : Int} (h : smallS l a b = true) : (∀ s ∈ l, (s.size : Int) ≤ b) ∧ (l.length : Int) ≤ a := by
  unfold smallS at h
  rw [Bool.and_eq_true, decide_eq_true_eq, decide_eq_true_eq] at h
  exact h
end Go.Proofs.Ytlaflbjlgkdacaa
end
section
namespace Go.Proofs.Ytlaflbjlgkdacaa
open Go.RowKit Q Go.Proofs.YtlaflbjlgkdacaaW.PrintWords Go.Proofs.YtlaflbjlgkdacaaW.PrintLast Go.Proofs.YtlaflbjlgkdacaaW.PrintMore
theorem small_sizes {l : List ByteArray} {b : Nat} (h : ∀ s ∈ l, (s.size : Int) ≤ (b : Int)) (hb : b ≤ 140737488355328) : ∀ s ∈ l, s.size ≤ 140737488355328 := fun s hs => by
  have := h s hs
  omega
theorem ris_calls (A : Option Addr) (c : Nat) (l : List ByteArray) (w : World) (hC : Kd.C Kd.string w A l.length l) (hc : l.length ≤ c) (hl : l.length ≤ 1000) (hw : wid l ≤ 1000) : Calls Try.prog 16 #[.slice A l.length c] w fun e w' => e = .returned (.bool (isB l)) ∧ Below w.heap.size w w' := by
  refine (sluicegateref02_Is.calls (8 * wid l + l.length + 451) A c l (isB l) w hC hc (is_f l (by omega) (by omega) _ (by omega))).mono ?_
  rintro e w' ⟨rfl, hb⟩
  exact ⟨rfl, by first | exact hb | exact hb.below⟩
end Go.Proofs.Ytlaflbjlgkdacaa
end
section
namespace Go.Proofs.Ytlaflbjlgkdacaa
open Go.RowKit Q Go.Proofs.YtlaflbjlgkdacaaW.PrintWords Go.Proofs.YtlaflbjlgkdacaaW.PrintLast Go.Proofs.YtlaflbjlgkdacaaW.PrintMore
theorem rdBool {h : List Bool} {k : Nat} : rdOf false h (k : Int) = h.getD k false := by simp [rdOf]
theorem idx_full (h : List Bool) (hh : h.length = 9) : idx h = idxK h 9 := by unfold idx idxK; rw [hh]
theorem check_l0 (l : List ByteArray) (h : List Bool) (hl : l.length = 9) (hh : h.length = 9) (n : Nat) : ∀ (k i : Nat), i + n = 9 → n + 30 < k → sluicegateref02_Check.l0 k l h ((idxK h i).map (strAt l)) (i : Int) = some (if evenB (leftL l h) = true then if (idx h).length < 6 then 2 else 0 else 1) := by
  induction n with
  | zero =>
    intro k i hi hk
    obtain ⟨k, rfl⟩ : ∃ m, k = m + 1 := ⟨k - 1, by omega⟩
    obtain rfl : i = 9 := by omega
    have hlen := idxK_len h 9
    simp only [sluicegateref02_Check.l0]
    rw [if_neg (by omega), one_f _ (by rw [List.length_map]; omega) k (by rw [List.length_map]; omega)]
    simp only [Option.bind_some]
    have e : leftL l h = (idxK h 9).map (strAt l) := by unfold leftL; rw [idx_full h hh]
    rw [← e]
    have e2 : (leftL l h).length = (idx h).length := by unfold leftL; rw [List.length_map]
    cases evenB (leftL l h) with
    | false => simp
    | true =>
      rw [if_pos rfl, if_pos rfl]
      by_cases h6 : (idx h).length < 6
      · rw [if_pos (by rw [e2]; omega), if_pos h6]
      · rw [if_neg (by rw [e2]; omega), if_neg h6]
  | succ n ih =>
    intro k i hi hk
    obtain ⟨k, rfl⟩ : ∃ m, k = m + 1 := ⟨k - 1, by omega⟩
    simp only [sluicegateref02_Check.l0]
    have hs := idxK_succ h i
    have hlen := idxK_len h i
    have ih2 := ih k (i + 1) (by omega) (by omega)
    rw [if_pos (by omega), if_pos (by omega), if_pos (by omega), rdBool, wrap_succ i (by omega)]
    cases hq : h.getD i false with
    | false =>
      rw [hq] at hs
      rw [if_neg (by simp)]
      rw [hs] at ih2
      simpa using ih2
    | true =>
      rw [hq] at hs
      rw [if_pos rfl, if_pos (by omega), if_pos (by rw [List.length_map]; omega), rdB (by omega)]
      rw [hs] at ih2
      simpa using ih2
theorem fillR_bad {l : List ByteArray} {h : List Bool} (hb : ¬ (l.length = 9 ∧ h.length = 9)) : fillR l h = ([], 1) := by unfold fillR; rw [if_neg hb]
theorem fillR_odd {l : List ByteArray} {h : List Bool} (hl : l.length = 9) (hh : h.length = 9) (he : evenB (leftL l h) = false) : fillR l h = ([], 1) := by
  unfold fillR
  rw [if_pos ⟨hl, hh⟩, if_neg (by rw [he]; simp)]
theorem fillR_few {l : List ByteArray} {h : List Bool} (hl : l.length = 9) (hh : h.length = 9) (he : evenB (leftL l h) = true) (h6 : (idx h).length < 6) : fillR l h = ([], 2) := by
  unfold fillR
  rw [if_pos ⟨hl, hh⟩, if_pos he, if_pos h6]
theorem check_f (l : List ByteArray) (h : List Bool) (k : Nat) (hk : 100 < k) : sluicegateref02_Check.f k l h = some (fillR l h).2 := by
  obtain ⟨k, rfl⟩ : ∃ m, k = m + 1 := ⟨k - 1, by omega⟩
  unfold sluicegateref02_Check.f
  by_cases hl : l.length = 9
  · rw [if_pos (by omega)]
    simp only [sluicegateref02_Check.j0]
    by_cases hh : h.length = 9
    · rw [if_neg (by rw [hh]; decide)]
      have := check_l0 l h hl hh 9 k 0 (by omega) (by omega)
      have this : sluicegateref02_Check.l0 k l h [] 0 = _ := this
      rw [this]
      cases he : evenB (leftL l h) with
      | false =>
        rw [fillR_odd hl hh he]
        rfl
      | true =>
        by_cases h6 : (idx h).length < 6
        · rw [fillR_few hl hh he h6, if_pos rfl, if_pos h6]
        · rw [fillR_ok hl hh he (by omega), if_pos rfl, if_neg h6]
    · rw [if_pos (by rw [bne_iff_ne]; omega), fillR_bad (fun e => hh e.2)]
  · rw [if_neg (by omega), fillR_bad (fun e => hl e.1)]
    simp only [sluicegateref02_Check.j0]
    rw [if_pos trivial]
theorem agrees_l0 (a l : List ByteArray) (h : List Bool) (ha : a.length = 9) (hl : l.length = 9) (hh : h.length = 9) (hag : ∀ i ∈ (idx h).take 6, strAt a i = strAt l i) (n : Nat) : ∀ (k i : Nat), i + n = 9 → 2 * n + 10 < k → sluicegateref02_Agrees.l0 k a l h ((idxK h i).length : Int) (i : Int) = some true := by
  induction n with
  | zero =>
    intro k i hi hk
    obtain ⟨k, rfl⟩ : ∃ m, k = m + 2 := ⟨k - 2, by omega⟩
    obtain rfl : i = 9 := by omega
    simp only [sluicegateref02_Agrees.l0, sluicegateref02_Agrees.j1]
    rw [if_neg (by omega)]
    simp
  | succ n ih =>
    intro k i hi hk
    obtain ⟨k, rfl⟩ : ∃ m, k = m + 2 := ⟨k - 2, by omega⟩
    have hs := idxK_succ h i
    have hlen := idxK_len h i
    have ih2 := ih k (i + 1) (by omega) (by omega)
    simp only [sluicegateref02_Agrees.l0, sluicegateref02_Agrees.j1]
    rw [if_pos (by omega)]
    by_cases h6 : (idxK h i).length < 6
    · rw [if_pos (by simp; omega), if_pos (by omega), if_pos (by omega), rdBool, wrap_succ i (by omega)]
      cases hq : h.getD i false with
      | false =>
        rw [hq] at hs
        rw [if_neg (by simp)]
        rw [hs] at ih2
        simpa using ih2
      | true =>
        rw [hq] at hs
        rw [if_pos rfl, if_pos (by omega), if_pos (by omega), rdB (by omega), rdB (by omega)]
        have hm : i ∈ (idx h).take 6 := by
          have e : idxK h 9 = idxK h (i + 1) ++ ((List.range' (i + 1) (9 - (i + 1))).filter fun j => h.getD j false) := by
            unfold idxK
            rw [← List.filter_append]
            congr 1
            rw [List.range_eq_range', List.range_eq_range']
            have := List.range'_append_1 (s := 0) (m := i + 1) (n := 9 - (i + 1))
            rw [Nat.zero_add] at this
            rw [this]
            congr 1
            omega
          rw [idx_full h hh, e, hs, List.take_append]
          refine List.mem_append_left _ ?_
          rw [List.take_of_length_le (by rw [List.length_append]; simp; omega)]
          simp
        rw [if_pos (by rw [hag i hm]), wrap_succ _ (by omega)]
        have e2 : (idxK h i).length + 1 = (idxK h (i + 1)).length := by rw [hs, List.length_append]; simp
        rw [e2]
        exact ih2
    · rw [if_neg (by simp; omega)]
theorem agrees_f (a l : List ByteArray) (h : List Bool) (ha : a.length = 9) (hl : l.length = 9) (hh : h.length = 9) (hag : ∀ i ∈ (idx h).take 6, strAt a i = strAt l i) (k : Nat) (hk : 100 < k) : sluicegateref02_Agrees.f k a l h = some true := by
  unfold sluicegateref02_Agrees.f
  exact agrees_l0 a l h ha hl hh hag 9 k 0 (by omega) (by omega)
theorem fill_agrees (l : List ByteArray) (h : List Bool) (hl : l.length = 9) (hh : h.length = 9) (he : evenB (leftL l h) = true) (h6 : 6 ≤ (idx h).length) : ∀ i ∈ (idx h).take 6, strAt (encL (dataL l h)) i = strAt l i := by
  intro i hi
  obtain ⟨k, hk, hik⟩ := List.getElem_of_mem hi
  have hk6 : k < 6 := by rw [List.length_take] at hk; omega
  have hm := idx_mem (List.mem_of_mem_take hi)
  have hg : ((idx h).take 6).getD k 0 = i := by rw [List.getD_eq_getElem?_getD, List.getElem?_eq_getElem hk, hik]; rfl
  rw [strAt_enc _ i (by omega)]
  have hL : (leftL l h).length = (idx h).length := by unfold leftL; rw [List.length_map]
  have := code_has h hh h6 ((leftL l h).take 6) (by rw [List.length_take]; omega) (evenB_take he 6 (by omega)) k hk6
  rw [hg] at this
  unfold dataL
  rw [this]
  have e1 : strAt ((leftL l h).take 6) k = strAt (leftL l h) k := by
    unfold strAt
    rw [List.getD_eq_getElem?_getD, List.getD_eq_getElem?_getD, List.getElem?_take, if_pos hk6]
  rw [e1]
  unfold leftL
  rw [strAt_map _ _ _ (by omega)]
  rw [getD_take _ _ _ hk6] at hg
  rw [hg]
end Go.Proofs.Ytlaflbjlgkdacaa
end
section
namespace Go.Proofs.Ytlaflbjlgkdacaa
open Go.RowKit Q Go.Proofs.YtlaflbjlgkdacaaW.PrintWords Go.Proofs.YtlaflbjlgkdacaaW.PrintLast Go.Proofs.YtlaflbjlgkdacaaW.PrintMore
theorem fillR_cases (l : List ByteArray) (h : List Bool) : (∃ x : Int, fillR l h = ([], x) ∧ x ≠ 0) ∨ (l.length = 9 ∧ h.length = 9 ∧ evenB (leftL l h) = true ∧ 6 ≤ (idx h).length ∧ fillR l h = (encL (dataL l h), 0)) := by
  by_cases hb : l.length = 9 ∧ h.length = 9
  · obtain ⟨hl, hh⟩ := hb
    cases he : evenB (leftL l h) with
    | false => exact .inl ⟨1, fillR_odd hl hh he, by decide⟩
    | true =>
      by_cases h6 : (idx h).length < 6
      · exact .inl ⟨2, fillR_few hl hh he h6, by decide⟩
      · exact .inr ⟨hl, hh, rfl, by omega, fillR_ok hl hh he (by omega)⟩
  · exact .inl ⟨1, fillR_bad hb, by decide⟩
theorem wid_enc (d : List ByteArray) : wid (encL d) = wid d := by
  unfold wid
  rw [strAt_enc d 0 (by omega), mixS_size]
  rfl
theorem wid_data {l : List ByteArray} {h : List Bool} (hl : l.length = 9) (hh : h.length = 9) (h6 : 6 ≤ (idx h).length) {b : Nat} (hb : ∀ s ∈ l, s.size ≤ b) : wid (dataL l h) ≤ b := by
  unfold dataL
  rw [wid_dataK _ _ _ (by omega), take_wid _ _ (by omega)]
  unfold wid leftL
  rw [strAt_map _ _ _ (by omega)]
  have hm := idx_mem (mem_get (P := idx h) (i := 0) (by omega))
  rw [strAt_eq (by omega)]
  exact hb _ (List.getElem_mem _)
theorem rcheck_calls (A : Option Addr) (c : Nat) (l : List ByteArray) (D : Option Addr) (d : Nat) (h : List Bool) (w : World) (hC : Kd.C Kd.string w A l.length l) (hc : l.length ≤ c) (hD : Kd.C Kd.bool w D h.length h) (hd : h.length ≤ d) : Calls Try.prog 18 #[.slice A l.length c, .slice D h.length d] w fun e w' => e = .returned (.int .i64 (fillR l h).2) ∧ Below w.heap.size w w' := by
  refine (sluicegateref02_Check.calls 101 A c l D d h (fillR l h).2 w hC hc hD hd (check_f l h 101 (by omega))).mono ?_
  rintro e w' ⟨rfl, hb⟩
  exact ⟨rfl, by first | exact hb | exact hb.below⟩
theorem ragrees_calls (A : Option Addr) (c : Nat) (a : List ByteArray) (B : Option Addr) (b : Nat) (l : List ByteArray) (D : Option Addr) (d : Nat) (h : List Bool) (w : World) (hA : Kd.C Kd.string w A a.length a) (hc : a.length ≤ c) (hB : Kd.C Kd.string w B l.length l) (hb : l.length ≤ b) (hD : Kd.C Kd.bool w D h.length h) (hd : h.length ≤ d) (ha : a.length = 9) (hl : l.length = 9) (hh : h.length = 9) (hag : ∀ i ∈ (idx h).take 6, strAt a i = strAt l i) :
    Calls Try.prog 19 #[.slice A a.length c, .slice B l.length b, .slice D h.length d] w fun e w' => e = .returned (.bool true) ∧ Below w.heap.size w w' := by
  refine (sluicegateref02_Agrees.calls 101 A c a B b l D d h true w hA hc hB hb hD hd (agrees_f a l h ha hl hh hag 101 (by omega))).mono ?_
  rintro e w' ⟨rfl, hb⟩
  exact ⟨rfl, by first | exact hb | exact hb.below⟩
set_option maxRecDepth 100000 in
set_option maxHeartbeats 2000000 in
theorem codeFills_walk (A0 : Option Addr) (c0 : Nat) (l0 : List ByteArray) (A1 : Option Addr) (c1 : Nat) (l1 : List Bool) (w : World) {P0 : ByteArray → Prop} {P1 : Bool → Prop} (hr0 : Kd.C Kd.string w A0 l0.length l0) (hc0 : l0.length ≤ c0) (_ : ∀ x ∈ l0, P0 x) (hr1 : Kd.C Kd.bool w A1 l1.length l1) (hc1 : l1.length ≤ c1) (_ : ∀ x ∈ l1, P1 x) :
    Calls Try.prog 5 #[.slice A0 l0.length c0, .slice A1 l1.length c1] w fun e w' => e = .returned (.bool true) ∧ Below w.heap.size w w' := by
  have H0 := Aside0.mk hr0
  have H1 := Aside0.mk hr1
  have C0 := Lib.hid hc0
  have C1 := Lib.hid hc1
  have hm0 : l0.length ≤ 9223372036854775807 := Kd.C_max hr0
  have hm1 : l1.length ≤ 9223372036854775807 := Kd.C_max hr1
  clear hr0 hr1 hc0 hc1
  go_enter Try.func5, Try.ntmps5
  go_wp2_with fail
  cases hs0 : smallS l0 12 60 with
  | false =>
    refine (small12_calls A0 c0 l0 12 60 w H0.out C0.out).mono ?_
    rw [hs0]
    rintro e w1 ⟨rfl, b1⟩
    have B1 := Aside0.mk b1
    clear b1 hs0
    go_wp2_with fail
    refine (live02_calls _).mono ?_
    rintro e w2 ⟨rfl, b2⟩
    go_wp2_with fail
    go_ret
    exact ⟨rfl, below2 B1.out B1.out.size b2⟩
  | true =>
    refine (small12_calls A0 c0 l0 12 60 w H0.out C0.out).mono ?_
    rw [hs0]
    rintro e w1 ⟨rfl, b1⟩
    have B1 := Aside0.mk b1
    clear b1
    obtain ⟨z0, n0⟩ := smallS_has hs0
    have Z0 := Aside0.mk (small_sizes (b := 60) z0 (by decide))
    have Z1 : Aside0 (∀ s ∈ l0, s.size ≤ 60) := ⟨fun s hs => by have := z0 s hs; omega⟩
    clear z0 hs0 n0
    by_cases h12 : 12 < l1.length
    · have t12 : decide ((12 : Int) < (l1.length : Int)) = true := by simp; omega
      go_wp2_with fail
      refine (live02_calls _).mono ?_
      rintro e w2 ⟨rfl, b2⟩
      go_wp2_with fail
      go_ret
      exact ⟨rfl, below2 B1.out B1.out.size b2⟩
    · have t12 : decide ((12 : Int) < (l1.length : Int)) = false := by simp; omega
      clear h12
      go_wp2_with fail
      refine (fnew_calls _).mono ?_
      rintro e w3 ⟨g, rfl, I, _, b3⟩
      have I3 := Aside0.mk I
      have B3 := Aside0.mk (below2 B1.out B1.out.size b3)
      clear I b3
      go_wp2_with fail
      refine (fill_calls g A0 c0 l0 A1 c1 l1 w3 I3.out (Kd.C_below H0.out B3.out) C0.out Z0.out (Kd.C_below H1.out B3.out) C1.out).mono ?_
      rintro e w4 ⟨A4, c4, rfl, hO4, b4⟩
      have h4 := Kd.R_reads' hO4
      have HA := Aside0.mk h4.2.2
      have HAc := Lib.hid h4.2.1
      have B4 := Aside0.mk (below2 B3.out B3.out.size b4)
      clear hO4 h4 b4 I3
      have CK := rcheck_calls A0 c0 l0 A1 c1 l1 w4 (Kd.C_below H0.out B4.out) C0.out (Kd.C_below H1.out B4.out) C1.out
      rcases fillR_cases l0 l1 with ⟨x, hf, hx⟩ | ⟨hl9, hh9, he, h6, hf⟩
      · rw [hf] at HA HAc CK ⊢
        have hx2 : (x != 0) = true := by rw [bne_iff_ne]; exact hx
        have CK := Aside0.mk CK
        clear hf hx
        go_wp2_with fail
        refine CK.out.mono ?_
        rintro e w5 ⟨rfl, b5⟩
        have B5 := Aside0.mk (below2 B4.out B4.out.size b5)
        clear b5
        go_wp2_with fail
        refine (live02_calls _).mono ?_
        rintro e w6 ⟨rfl, b6⟩
        go_wp2_with fail
        go_ret
        exact ⟨rfl, below2 B5.out B5.out.size b6⟩
      · rw [hf] at HA HAc CK ⊢
        have IS := isB_enc (dataL l0 l1) (dataK_len _ _ _) (evenB_dataK _ _ _)
        have AG := fill_agrees l0 l1 hl9 hh9 he h6
        have WD := wid_data hl9 hh9 h6 Z1.out
        rw [← wid_enc] at WD
        have EL := encL_len (dataL l0 l1)
        have CK := Aside0.mk CK
        clear hf he h6
        replace hl9 := Lib.hid hl9
        replace hh9 := Lib.hid hh9
        generalize encL (dataL l0 l1) = E at *
        replace IS := Lib.hid IS
        replace AG := Lib.hid AG
        replace WD := Lib.hid WD
        replace EL := Lib.hid EL
        go_wp2_with fail
        refine CK.out.mono ?_
        rintro e w5 ⟨rfl, b5⟩
        have B5 := Aside0.mk (below2 B4.out B4.out.size b5)
        have HA5 := Aside0.mk (Kd.C_below HA.out b5)
        clear b5 HA
        go_wp2_with fail
        refine (ris_calls A4 c4 E w5 HA5.out HAc.out (by rw [EL.out]; decide) (by have := WD.out; omega)).mono ?_
        rw [IS.out]
        rintro e w6 ⟨rfl, b6⟩
        have B6 := Aside0.mk (below2 B5.out B5.out.size b6)
        have HA6 := Aside0.mk (Kd.C_below HA5.out b6)
        clear b6 HA5
        go_wp2_with fail
        refine (ragrees_calls A4 c4 E A0 c0 l0 A1 c1 l1 w6 HA6.out HAc.out (Kd.C_below H0.out B6.out) C0.out (Kd.C_below H1.out B6.out) C1.out EL.out hl9.out hh9.out AG.out).mono ?_
        rintro e w7 ⟨rfl, b7⟩
        have B7 := Aside0.mk (below2 B6.out B6.out.size b7)
        clear b7 HA6
        go_wp2_with fail
        refine (live02_calls _).mono ?_
        rintro e w8 ⟨rfl, b8⟩
        go_wp2_with fail
        go_ret
        exact ⟨rfl, below2 B7.out B7.out.size b8⟩
end Go.Proofs.Ytlaflbjlgkdacaa
end
