/- sluicegate/sluicegatelaw12.ReplayChooses: for every input the law returns true, and each argument reads behind the call as it read before. No condition. (The row, written by a program of this session, which drives print.py.) -/
import Derived.Test.YtmfcbfgijimliaaRows
import Derived.Test.YtmfcbfgijimliaaKReplayChooses1
import Derived.Test.YtmfcbfgijimliaaKReplayChooses2
import Derived.Test.YtmfcbfgijimliaaKReplayChooses3
import Derived.Test.YtmfcbfgijimliaaKReplayChooses4
import Derived.Test.YtmfcbfgijimliaaKReplayChooses5
import Derived.Test.YtmfcbfgijimliaaKReplayChooses6
import Derived.WalkKit
import Derived.ProofKit
import Derived.OpenShut
import Derived.ShutString
import Derived.ChangeOld
import Derived.Below
import Derived.SizedLaws
import Derived.Carry
namespace Go.Proofs.Ytmfcbfgijimliaa.replayChooses
open Go.ChangeShapes Go.WideShapes Go.ChangeAt Go.RowKit Go.Proofs.YtmfcbfgijimliaaW.PrintWords Go.Proofs.Ytmfcbfgijimliaa.Q
open Go.ChangeMaps (open_string shut_string)
set_option linter.unusedVariables false
theorem own : ownKnob Try.prog.godebug = none := by kernel_rfl
theorem laidOut : laidOutB Try.prog = true := by kernel_rfl
set_option maxRecDepth 100000 in
theorem lifted (os : Os) (started : os.Started) (H : Type) (enc : TypeId × Value → H) :
    ReturnsInHanded {} Try.checked os 4 .any (Rows.replayChoosesSpec.pre6 enc Try.prog Try.f4 Rows.replayChoosesRow.domain false) (Rows.replayChoosesSpec.post enc Try.prog Try.f4 false true false false) := by
  refine returnsInHanded_of_change_sized (C := Try.checked) own started (by kernel_rfl) Try.func4
    (ChangeSpec.witness6 (enc := enc) (C := Try.checked) false ⟨#[], #[.slice none 0 0], []⟩ 8 (by kernel_rfl) (by kernel_rfl) (by kernel_rfl) (by kernel_rfl)) ?_
  intro W base args ds gs before hval0 hW hcnd hsz0 _
  have hsz : (DataW.weightsEach Try.prog (Try.f4.params.toList ++ Rows.replayChoosesSpec.plain.varTypes Try.prog) (ds ++ gs)).all (· ≤ reachBytes) = true := hsz0
  have hval : ∀ (j : Nat) t v, Try.f4.params[j]? = some t → args[j]? = some v → Value.okWide Try.prog W .any base t v := hval0
  have hW' := hW
  obtain ⟨p, q, hA0, hV, rfl, hfz, hnd⟩ := hW
  have hA : DataW.TrodAll enc Try.prog W 0 (fun _ => true) true Try.f4.params.toList args.toList ds p := hA0
  rw [Try.params4] at hA hval hsz
  obtain ⟨v0, vs0, d0, ds0, p0, q0, hargs, rfl, rfl, h0, r0⟩ := trodAll_cons hA
  obtain ⟨rfl, rfl, rfl⟩ := trodAll_nil r0
  obtain rfl : args = #[v0] := by cases args; simp_all
  obtain ⟨rfl, rfl⟩ := trodVars_none hV
  have k0 := h0
  have lt0 : ∀ x ∈ p0, x.block < W.heap.size := by obtain ⟨m, hm⟩ := k0; exact DataW.trod_lt m _ _ _ hm
  obtain ⟨fu0, hf0⟩ := h0
  obtain ⟨z0, l0n, c0n, rfl⟩ := okWide_slice Try.underlying46 (hval 0 46 v0 rfl rfl)
  obtain ⟨l0, K0, hq0⟩ := (opens_slice Try.underlying46 (by kernel_rfl) (opens_slice Try.underlying22 (by kernel_rfl) (opens_string Try.underlying9))) H enc W 0 (fun _ => true) true fu0 [.slice z0 l0n c0n] _ hf0
  obtain ⟨A0, c0, E0, hc0, hr0⟩ := K0
  have E0 := (List.cons.inj E0).1
  simp only [Value.slice.injEq] at E0
  obtain ⟨rfl, rfl, rfl⟩ := E0
  clear hA0 hval0 hsz0 hsz
  refine (replayChooses_walk z0 c0n l0 W hr0 hc0 hq0).mono fun e W' ⟨he, bel⟩ => ?_
  subst he
  exact ⟨_, rfl, _, _, _, [], _, [], hW', trodAll_mk1 (shut_bool Try.underlying4 _), (trodAll_cons_mk (Below.trod laidOut (by kernel_rfl) (of_decide_eq_true (by kernel_rfl)) k0 bel lt0) trodAll_mk0), rfl, bel.frame _, fun h => by cases h⟩
theorem over : Rows.replayChoosesRow.holds Try.pinned (OpenSpec.ofChange Rows.replayChoosesSpec) :=
  OpenClaim.holds_of_wide 4 Try.f4 rfl rfl rfl rfl rfl rfl rfl ⟨rfl, rfl, rfl, rfl, rfl⟩ rfl rfl rfl rfl rfl (by kernel_rfl) Try.func4 (by kernel_rfl)
    (of_decide_eq_true (by kernel_rfl)) (by unfold Func.isWrapper; first | (rw [if_pos (by decide +kernel)]; kernel_rfl) | (rw [if_neg (by decide +kernel)]; exact ⟨rfl, rfl⟩))
    (fun os started H enc _ => lifted os started H enc)
theorem proved : Rows.ReplayChoosesSaid := over
#print axioms proved
end Go.Proofs.Ytmfcbfgijimliaa.replayChooses
namespace Go.Proofs.Ytmfcbfgijimliaa
/-- The row, under a short name, for the claim. -/
theorem replayChooses_holds : Rows.ReplayChoosesSaid := replayChooses.proved
end Go.Proofs.Ytmfcbfgijimliaa
