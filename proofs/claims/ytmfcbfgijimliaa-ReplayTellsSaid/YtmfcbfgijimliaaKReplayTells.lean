/- sluicegate/sluicegatelaw12.ReplayTells: for every input the law returns true, and each argument reads behind the call as it read before. No condition. (The row, written by a program of this session, which drives print.py.) -/
import Derived.Test.YtmfcbfgijimliaaRows
import Derived.Test.YtmfcbfgijimliaaKReplayTells1
import Derived.Test.YtmfcbfgijimliaaKReplayTells2
import Derived.Test.YtmfcbfgijimliaaKReplayTells3
import Derived.Test.YtmfcbfgijimliaaKReplayTells4
import Derived.Test.YtmfcbfgijimliaaKReplayTells5
import Derived.Test.YtmfcbfgijimliaaKReplayTells6
import Derived.WalkKit
import Derived.ProofKit
import Derived.OpenShut
import Derived.ShutString
import Derived.ChangeOld
import Derived.Below
import Derived.SizedLaws
import Derived.Carry
namespace Go.Proofs.Ytmfcbfgijimliaa.replayTells
open Go.ChangeShapes Go.WideShapes Go.ChangeAt Go.RowKit Go.Proofs.YtmfcbfgijimliaaW.PrintWords Go.Proofs.Ytmfcbfgijimliaa.Q
open Go.ChangeMaps (open_string shut_string)
set_option linter.unusedVariables false
theorem own : ownKnob Try.prog.godebug = none := by kernel_rfl
theorem laidOut : laidOutB Try.prog = true := by kernel_rfl
def Q83 (x : S83) : Prop := ((Lit.int .i64 x.f0).wf = true) ∧ ((Lit.int .i64 x.f1).wf = true)
instance : Inhabited S83 := ⟨⟨default, default⟩⟩
theorem opens83 : Opens Try.prog 83 k83 Q83 := by
  intro H enc w base spare held fuel cs x h
  obtain ⟨hl, n, hf⟩ := field_of Try.underlying83 h
  have hl : cs.length = 2 := hl.trans (by kernel_rfl)
  obtain ⟨c0, r0, rfl, hl0⟩ := list_succ hl
  obtain ⟨c1, r1, rfl, hl1⟩ := list_succ hl0
  obtain rfl := list_zero hl1
  have n0 : Try.prog.cellsOf 3 = 1 := by kernel_rfl
  obtain ⟨y0, e0⟩ : ∃ y, DataW.trod enc Try.prog w base spare held n 3 ((([c0, c1] : List Value).drop 0).take (Try.prog.cellsOf 3)) = some y := hf 0 _ rfl
  rw [n0] at e0
  obtain ⟨x0, K0, q0⟩ := (opens_int Try.underlying3) H enc w base spare held n [c0] y0 e0
  have n1 : Try.prog.cellsOf 3 = 1 := by kernel_rfl
  obtain ⟨y1, e1⟩ : ∃ y, DataW.trod enc Try.prog w base spare held n 3 ((([c0, c1] : List Value).drop 1).take (Try.prog.cellsOf 3)) = some y := hf 1 _ rfl
  rw [n1] at e1
  obtain ⟨x1, K1, q1⟩ := (opens_int Try.underlying3) H enc w base spare held n [c1] y1 e1
  exact ⟨⟨x0, x1⟩, ⟨[c0], [c1], rfl, K0, K1⟩, ⟨q0, q1⟩⟩
def Q29 (x : S29) : Prop := ((Lit.int .i64 x.f0).wf = true) ∧ ((Lit.int .i64 x.f1).wf = true) ∧ ((Lit.int .i64 x.f2).wf = true) ∧ (∀ x_ ∈ x.f3, Q83 x_)
instance : Inhabited S29 := ⟨⟨default, default, default, default⟩⟩
theorem opens29 : Opens Try.prog 29 k29 Q29 := by
  intro H enc w base spare held fuel cs x h
  obtain ⟨hl, n, hf⟩ := field_of Try.underlying29 h
  have hl : cs.length = 4 := hl.trans (by kernel_rfl)
  obtain ⟨c0, r0, rfl, hl0⟩ := list_succ hl
  obtain ⟨c1, r1, rfl, hl1⟩ := list_succ hl0
  obtain ⟨c2, r2, rfl, hl2⟩ := list_succ hl1
  obtain ⟨c3, r3, rfl, hl3⟩ := list_succ hl2
  obtain rfl := list_zero hl3
  have n0 : Try.prog.cellsOf 3 = 1 := by kernel_rfl
  obtain ⟨y0, e0⟩ : ∃ y, DataW.trod enc Try.prog w base spare held n 3 ((([c0, c1, c2, c3] : List Value).drop 0).take (Try.prog.cellsOf 3)) = some y := hf 0 _ rfl
  rw [n0] at e0
  obtain ⟨x0, K0, q0⟩ := (opens_int Try.underlying3) H enc w base spare held n [c0] y0 e0
  have n1 : Try.prog.cellsOf 3 = 1 := by kernel_rfl
  obtain ⟨y1, e1⟩ : ∃ y, DataW.trod enc Try.prog w base spare held n 3 ((([c0, c1, c2, c3] : List Value).drop 1).take (Try.prog.cellsOf 3)) = some y := hf 1 _ rfl
  rw [n1] at e1
  obtain ⟨x1, K1, q1⟩ := (opens_int Try.underlying3) H enc w base spare held n [c1] y1 e1
  have n2 : Try.prog.cellsOf 3 = 1 := by kernel_rfl
  obtain ⟨y2, e2⟩ : ∃ y, DataW.trod enc Try.prog w base spare held n 3 ((([c0, c1, c2, c3] : List Value).drop 2).take (Try.prog.cellsOf 3)) = some y := hf 2 _ rfl
  rw [n2] at e2
  obtain ⟨x2, K2, q2⟩ := (opens_int Try.underlying3) H enc w base spare held n [c2] y2 e2
  have n3 : Try.prog.cellsOf 27 = 1 := by kernel_rfl
  obtain ⟨y3, e3⟩ : ∃ y, DataW.trod enc Try.prog w base spare held n 27 ((([c0, c1, c2, c3] : List Value).drop 3).take (Try.prog.cellsOf 27)) = some y := hf 3 _ rfl
  rw [n3] at e3
  obtain ⟨x3, K3, q3⟩ := (opens_slice Try.underlying27 (by kernel_rfl) opens83) H enc w base spare held n [c3] y3 e3
  exact ⟨⟨x0, x1, x2, x3⟩, ⟨[c0], [c1, c2, c3], rfl, K0, ⟨[c1], [c2, c3], rfl, K1, ⟨[c2], [c3], rfl, K2, K3⟩⟩⟩, ⟨q0, q1, q2, q3⟩⟩
def Q31 (x : S31) : Prop := (x.f0.size ≤ maxLen) ∧ ((Lit.int .i64 x.f1).wf = true) ∧ ((Lit.int .i64 x.f2).wf = true) ∧ ((Lit.int .i64 x.f3).wf = true) ∧ (x.f4.size ≤ maxLen)
instance : Inhabited S31 := ⟨⟨default, default, default, default, default⟩⟩
theorem opens31 : Opens Try.prog 31 k31 Q31 := by
  intro H enc w base spare held fuel cs x h
  obtain ⟨hl, n, hf⟩ := field_of Try.underlying31 h
  have hl : cs.length = 5 := hl.trans (by kernel_rfl)
  obtain ⟨c0, r0, rfl, hl0⟩ := list_succ hl
  obtain ⟨c1, r1, rfl, hl1⟩ := list_succ hl0
  obtain ⟨c2, r2, rfl, hl2⟩ := list_succ hl1
  obtain ⟨c3, r3, rfl, hl3⟩ := list_succ hl2
  obtain ⟨c4, r4, rfl, hl4⟩ := list_succ hl3
  obtain rfl := list_zero hl4
  have n0 : Try.prog.cellsOf 9 = 1 := by kernel_rfl
  obtain ⟨y0, e0⟩ : ∃ y, DataW.trod enc Try.prog w base spare held n 9 ((([c0, c1, c2, c3, c4] : List Value).drop 0).take (Try.prog.cellsOf 9)) = some y := hf 0 _ rfl
  rw [n0] at e0
  obtain ⟨x0, K0, q0⟩ := (opens_string Try.underlying9) H enc w base spare held n [c0] y0 e0
  have n1 : Try.prog.cellsOf 3 = 1 := by kernel_rfl
  obtain ⟨y1, e1⟩ : ∃ y, DataW.trod enc Try.prog w base spare held n 3 ((([c0, c1, c2, c3, c4] : List Value).drop 1).take (Try.prog.cellsOf 3)) = some y := hf 1 _ rfl
  rw [n1] at e1
  obtain ⟨x1, K1, q1⟩ := (opens_int Try.underlying3) H enc w base spare held n [c1] y1 e1
  have n2 : Try.prog.cellsOf 3 = 1 := by kernel_rfl
  obtain ⟨y2, e2⟩ : ∃ y, DataW.trod enc Try.prog w base spare held n 3 ((([c0, c1, c2, c3, c4] : List Value).drop 2).take (Try.prog.cellsOf 3)) = some y := hf 2 _ rfl
  rw [n2] at e2
  obtain ⟨x2, K2, q2⟩ := (opens_int Try.underlying3) H enc w base spare held n [c2] y2 e2
  have n3 : Try.prog.cellsOf 3 = 1 := by kernel_rfl
  obtain ⟨y3, e3⟩ : ∃ y, DataW.trod enc Try.prog w base spare held n 3 ((([c0, c1, c2, c3, c4] : List Value).drop 3).take (Try.prog.cellsOf 3)) = some y := hf 3 _ rfl
  rw [n3] at e3
  obtain ⟨x3, K3, q3⟩ := (opens_int Try.underlying3) H enc w base spare held n [c3] y3 e3
  have n4 : Try.prog.cellsOf 9 = 1 := by kernel_rfl
  obtain ⟨y4, e4⟩ : ∃ y, DataW.trod enc Try.prog w base spare held n 9 ((([c0, c1, c2, c3, c4] : List Value).drop 4).take (Try.prog.cellsOf 9)) = some y := hf 4 _ rfl
  rw [n4] at e4
  obtain ⟨x4, K4, q4⟩ := (opens_string Try.underlying9) H enc w base spare held n [c4] y4 e4
  exact ⟨⟨x0, x1, x2, x3, x4⟩, ⟨[c0], [c1, c2, c3, c4], rfl, K0, ⟨[c1], [c2, c3, c4], rfl, K1, ⟨[c2], [c3, c4], rfl, K2, ⟨[c3], [c4], rfl, K3, K4⟩⟩⟩⟩, ⟨q0, q1, q2, q3, q4⟩⟩
def Q33 (x : S33) : Prop := ((Lit.int .i64 x.f0).wf = true) ∧ ((Lit.int .i64 x.f1).wf = true) ∧ (Q29 x.f2) ∧ (Q31 x.f3) ∧ (x.f4.size ≤ maxLen) ∧ ((Lit.int .i64 x.f5).wf = true) ∧ ((Lit.int .i64 x.f6).wf = true)
instance : Inhabited S33 := ⟨⟨default, default, default, default, default, default, default⟩⟩
theorem opens33 : Opens Try.prog 33 k33 Q33 := by
  intro H enc w base spare held fuel cs x h
  obtain ⟨hl, n, hf⟩ := field_of Try.underlying33 h
  have hl : cs.length = 14 := hl.trans (by kernel_rfl)
  obtain ⟨c0, r0, rfl, hl0⟩ := list_succ hl
  obtain ⟨c1, r1, rfl, hl1⟩ := list_succ hl0
  obtain ⟨c2, r2, rfl, hl2⟩ := list_succ hl1
  obtain ⟨c3, r3, rfl, hl3⟩ := list_succ hl2
  obtain ⟨c4, r4, rfl, hl4⟩ := list_succ hl3
  obtain ⟨c5, r5, rfl, hl5⟩ := list_succ hl4
  obtain ⟨c6, r6, rfl, hl6⟩ := list_succ hl5
  obtain ⟨c7, r7, rfl, hl7⟩ := list_succ hl6
  obtain ⟨c8, r8, rfl, hl8⟩ := list_succ hl7
  obtain ⟨c9, r9, rfl, hl9⟩ := list_succ hl8
  obtain ⟨c10, r10, rfl, hl10⟩ := list_succ hl9
  obtain ⟨c11, r11, rfl, hl11⟩ := list_succ hl10
  obtain ⟨c12, r12, rfl, hl12⟩ := list_succ hl11
  obtain ⟨c13, r13, rfl, hl13⟩ := list_succ hl12
  obtain rfl := list_zero hl13
  have n0 : Try.prog.cellsOf 3 = 1 := by kernel_rfl
  obtain ⟨y0, e0⟩ : ∃ y, DataW.trod enc Try.prog w base spare held n 3 ((([c0, c1, c2, c3, c4, c5, c6, c7, c8, c9, c10, c11, c12, c13] : List Value).drop 0).take (Try.prog.cellsOf 3)) = some y := hf 0 _ rfl
  rw [n0] at e0
  obtain ⟨x0, K0, q0⟩ := (opens_int Try.underlying3) H enc w base spare held n [c0] y0 e0
  have n1 : Try.prog.cellsOf 3 = 1 := by kernel_rfl
  obtain ⟨y1, e1⟩ : ∃ y, DataW.trod enc Try.prog w base spare held n 3 ((([c0, c1, c2, c3, c4, c5, c6, c7, c8, c9, c10, c11, c12, c13] : List Value).drop 1).take (Try.prog.cellsOf 3)) = some y := hf 1 _ rfl
  rw [n1] at e1
  obtain ⟨x1, K1, q1⟩ := (opens_int Try.underlying3) H enc w base spare held n [c1] y1 e1
  have n2 : Try.prog.cellsOf 29 = 4 := by kernel_rfl
  obtain ⟨y2, e2⟩ : ∃ y, DataW.trod enc Try.prog w base spare held n 29 ((([c0, c1, c2, c3, c4, c5, c6, c7, c8, c9, c10, c11, c12, c13] : List Value).drop 2).take (Try.prog.cellsOf 29)) = some y := hf 2 _ rfl
  rw [n2] at e2
  obtain ⟨x2, K2, q2⟩ := opens29 H enc w base spare held n [c2, c3, c4, c5] y2 e2
  have n3 : Try.prog.cellsOf 31 = 5 := by kernel_rfl
  obtain ⟨y3, e3⟩ : ∃ y, DataW.trod enc Try.prog w base spare held n 31 ((([c0, c1, c2, c3, c4, c5, c6, c7, c8, c9, c10, c11, c12, c13] : List Value).drop 6).take (Try.prog.cellsOf 31)) = some y := hf 3 _ rfl
  rw [n3] at e3
  obtain ⟨x3, K3, q3⟩ := opens31 H enc w base spare held n [c6, c7, c8, c9, c10] y3 e3
  have n4 : Try.prog.cellsOf 9 = 1 := by kernel_rfl
  obtain ⟨y4, e4⟩ : ∃ y, DataW.trod enc Try.prog w base spare held n 9 ((([c0, c1, c2, c3, c4, c5, c6, c7, c8, c9, c10, c11, c12, c13] : List Value).drop 11).take (Try.prog.cellsOf 9)) = some y := hf 4 _ rfl
  rw [n4] at e4
  obtain ⟨x4, K4, q4⟩ := (opens_string Try.underlying9) H enc w base spare held n [c11] y4 e4
  have n5 : Try.prog.cellsOf 3 = 1 := by kernel_rfl
  obtain ⟨y5, e5⟩ : ∃ y, DataW.trod enc Try.prog w base spare held n 3 ((([c0, c1, c2, c3, c4, c5, c6, c7, c8, c9, c10, c11, c12, c13] : List Value).drop 12).take (Try.prog.cellsOf 3)) = some y := hf 5 _ rfl
  rw [n5] at e5
  obtain ⟨x5, K5, q5⟩ := (opens_int Try.underlying3) H enc w base spare held n [c12] y5 e5
  have n6 : Try.prog.cellsOf 3 = 1 := by kernel_rfl
  obtain ⟨y6, e6⟩ : ∃ y, DataW.trod enc Try.prog w base spare held n 3 ((([c0, c1, c2, c3, c4, c5, c6, c7, c8, c9, c10, c11, c12, c13] : List Value).drop 13).take (Try.prog.cellsOf 3)) = some y := hf 6 _ rfl
  rw [n6] at e6
  obtain ⟨x6, K6, q6⟩ := (opens_int Try.underlying3) H enc w base spare held n [c13] y6 e6
  exact ⟨⟨x0, x1, x2, x3, x4, x5, x6⟩, ⟨[c0], [c1, c2, c3, c4, c5, c6, c7, c8, c9, c10, c11, c12, c13], rfl, K0, ⟨[c1], [c2, c3, c4, c5, c6, c7, c8, c9, c10, c11, c12, c13], rfl, K1, ⟨[c2, c3, c4, c5], [c6, c7, c8, c9, c10, c11, c12, c13], rfl, K2, ⟨[c6, c7, c8, c9, c10], [c11, c12, c13], rfl, K3, ⟨[c11], [c12, c13], rfl, K4, ⟨[c12], [c13], rfl, K5, K6⟩⟩⟩⟩⟩⟩, ⟨q0, q1, q2, q3, q4, q5, q6⟩⟩
set_option maxRecDepth 100000 in
theorem lifted (os : Os) (started : os.Started) (H : Type) (enc : TypeId × Value → H) :
    ReturnsInHanded {} Try.checked os 3 .any (Rows.replayTellsSpec.pre6 enc Try.prog Try.f3 Rows.replayTellsRow.domain false) (Rows.replayTellsSpec.post enc Try.prog Try.f3 false true false false) := by
  refine returnsInHanded_of_change_sized (C := Try.checked) own started (by kernel_rfl) Try.func3
    (ChangeSpec.witness6 (enc := enc) (C := Try.checked) false ⟨#[], #[.slice none 0 0, .slice none 0 0], []⟩ 8 (by kernel_rfl) (by kernel_rfl) (by kernel_rfl) (by kernel_rfl)) ?_
  intro W base args ds gs before hval0 hW hcnd hsz0 _
  have hsz : (DataW.weightsEach Try.prog (Try.f3.params.toList ++ Rows.replayTellsSpec.plain.varTypes Try.prog) (ds ++ gs)).all (· ≤ reachBytes) = true := hsz0
  have hval : ∀ (j : Nat) t v, Try.f3.params[j]? = some t → args[j]? = some v → Value.okWide Try.prog W .any base t v := hval0
  have hW' := hW
  obtain ⟨p, q, hA0, hV, rfl, hfz, hnd⟩ := hW
  have hA : DataW.TrodAll enc Try.prog W 0 (fun _ => true) true Try.f3.params.toList args.toList ds p := hA0
  rw [Try.params3] at hA hval hsz
  obtain ⟨v0, vs0, d0, ds0, p0, q0, hargs, rfl, rfl, h0, r0⟩ := trodAll_cons hA
  obtain ⟨v1, vs1, d1, ds1, p1, q1, rfl, rfl, rfl, h1, r1⟩ := trodAll_cons r0
  obtain ⟨rfl, rfl, rfl⟩ := trodAll_nil r1
  obtain rfl : args = #[v0, v1] := by cases args; simp_all
  obtain ⟨rfl, rfl⟩ := trodVars_none hV
  have k0 := h0
  have lt0 : ∀ x ∈ p0, x.block < W.heap.size := by obtain ⟨m, hm⟩ := k0; exact DataW.trod_lt m _ _ _ hm
  obtain ⟨fu0, hf0⟩ := h0
  obtain ⟨z0, l0n, c0n, rfl⟩ := okWide_slice Try.underlying22 (hval 0 22 v0 rfl rfl)
  obtain ⟨l0, K0, hq0⟩ := (opens_slice Try.underlying22 (by kernel_rfl) (opens_string Try.underlying9)) H enc W 0 (fun _ => true) true fu0 [.slice z0 l0n c0n] _ hf0
  obtain ⟨A0, c0, E0, hc0, hr0⟩ := K0
  have E0 := (List.cons.inj E0).1
  simp only [Value.slice.injEq] at E0
  obtain ⟨rfl, rfl, rfl⟩ := E0
  have k1 := h1
  have lt1 : ∀ x ∈ p1, x.block < W.heap.size := by obtain ⟨m, hm⟩ := k1; exact DataW.trod_lt m _ _ _ hm
  obtain ⟨fu1, hf1⟩ := h1
  obtain ⟨z1, l1n, c1n, rfl⟩ := okWide_slice Try.underlying23 (hval 1 23 v1 rfl rfl)
  obtain ⟨l1, K1, hq1⟩ := (opens_slice Try.underlying23 (by kernel_rfl) opens33) H enc W 0 (fun _ => true) true fu1 [.slice z1 l1n c1n] _ hf1
  obtain ⟨A1, c1, E1, hc1, hr1⟩ := K1
  have E1 := (List.cons.inj E1).1
  simp only [Value.slice.injEq] at E1
  obtain ⟨rfl, rfl, rfl⟩ := E1
  clear hA0 hval0 hsz0 hsz
  refine (replayTells_walk z0 c0n l0 z1 c1n l1 W hr0 hc0 hq0 hr1 hc1 hq1).mono fun e W' ⟨he, bel⟩ => ?_
  subst he
  exact ⟨_, rfl, _, _, _, [], _, [], hW', trodAll_mk1 (shut_bool Try.underlying4 _), (trodAll_cons_mk (Below.trod laidOut (by kernel_rfl) (of_decide_eq_true (by kernel_rfl)) k0 bel lt0) (trodAll_cons_mk (Below.trod laidOut (by kernel_rfl) (of_decide_eq_true (by kernel_rfl)) k1 bel lt1) trodAll_mk0)), rfl, bel.frame _, fun h => by cases h⟩
theorem over : Rows.replayTellsRow.holds Try.pinned (OpenSpec.ofChange Rows.replayTellsSpec) :=
  OpenClaim.holds_of_wide 3 Try.f3 rfl rfl rfl rfl rfl rfl rfl ⟨rfl, rfl, rfl, rfl, rfl⟩ rfl rfl rfl rfl rfl (by kernel_rfl) Try.func3 (by kernel_rfl)
    (of_decide_eq_true (by kernel_rfl)) (by unfold Func.isWrapper; first | (rw [if_pos (by decide +kernel)]; kernel_rfl) | (rw [if_neg (by decide +kernel)]; exact ⟨rfl, rfl⟩))
    (fun os started H enc _ => lifted os started H enc)
theorem proved : Rows.ReplayTellsSaid := over
#print axioms proved
end Go.Proofs.Ytmfcbfgijimliaa.replayTells
namespace Go.Proofs.Ytmfcbfgijimliaa
/-- The row, under a short name, for the claim. -/
theorem replayTells_holds : Rows.ReplayTellsSaid := replayTells.proved
end Go.Proofs.Ytmfcbfgijimliaa
