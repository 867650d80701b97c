/- sluicegate/sluicegatelaw02.CodeFills: for every input the law returns true, and each argument reads behind the call as it read before. No condition. (The row, written by a program of this session, which drives print.py.) -/
import Derived.Test.YtlaflbjlgkdacaaRows
import Derived.Test.YtlaflbjlgkdacaaKCodeFills1
import Derived.Test.YtlaflbjlgkdacaaKCodeFills2
import Derived.Test.YtlaflbjlgkdacaaKCodeFills3
import Derived.WalkKit
import Derived.ProofKit
import Derived.OpenShut
import Derived.ShutString
import Derived.ChangeOld
import Derived.Below
import Derived.SizedLaws
import Derived.Carry
namespace Go.Proofs.Ytlaflbjlgkdacaa.codeFills
open Go.ChangeShapes Go.WideShapes Go.ChangeAt Go.RowKit Go.Proofs.YtlaflbjlgkdacaaW.PrintWords Go.Proofs.Ytlaflbjlgkdacaa.Q
open Go.ChangeMaps (open_string shut_string)
set_option linter.unusedVariables false
theorem own : ownKnob Try.prog.godebug = none := by kernel_rfl
theorem laidOut : laidOutB Try.prog = true := by kernel_rfl
set_option maxRecDepth 100000 in
theorem lifted (os : Os) (started : os.Started) (H : Type) (enc : TypeId × Value → H) :
    ReturnsInHanded {} Try.checked os 5 .any (Rows.codeFillsSpec.pre6 enc Try.prog Try.f5 Rows.codeFillsRow.domain false) (Rows.codeFillsSpec.post enc Try.prog Try.f5 false true false false) := by
  refine returnsInHanded_of_change_sized (C := Try.checked) own started (by kernel_rfl) Try.func5
    (ChangeSpec.witness6 (enc := enc) (C := Try.checked) false ⟨#[], #[.slice none 0 0, .slice none 0 0], []⟩ 8 (by kernel_rfl) (by kernel_rfl) (by kernel_rfl) (by kernel_rfl)) ?_
  intro W base args ds gs before hval0 hW hcnd hsz0 _
  have hsz : (DataW.weightsEach Try.prog (Try.f5.params.toList ++ Rows.codeFillsSpec.plain.varTypes Try.prog) (ds ++ gs)).all (· ≤ reachBytes) = true := hsz0
  have hval : ∀ (j : Nat) t v, Try.f5.params[j]? = some t → args[j]? = some v → Value.okWide Try.prog W .any base t v := hval0
  have hW' := hW
  obtain ⟨p, q, hA0, hV, rfl, hfz, hnd⟩ := hW
  have hA : DataW.TrodAll enc Try.prog W 0 (fun _ => true) true Try.f5.params.toList args.toList ds p := hA0
  rw [Try.params5] at hA hval hsz
  obtain ⟨v0, vs0, d0, ds0, p0, q0, hargs, rfl, rfl, h0, r0⟩ := trodAll_cons hA
  obtain ⟨v1, vs1, d1, ds1, p1, q1, rfl, rfl, rfl, h1, r1⟩ := trodAll_cons r0
  obtain ⟨rfl, rfl, rfl⟩ := trodAll_nil r1
  obtain rfl : args = #[v0, v1] := by cases args; simp_all
  obtain ⟨rfl, rfl⟩ := trodVars_none hV
  have k0 := h0
  have lt0 : ∀ x ∈ p0, x.block < W.heap.size := by obtain ⟨m, hm⟩ := k0; exact DataW.trod_lt m _ _ _ hm
  obtain ⟨fu0, hf0⟩ := h0
  obtain ⟨z0, l0n, c0n, rfl⟩ := okWide_slice Try.underlying30 (hval 0 30 v0 rfl rfl)
  obtain ⟨l0, K0, hq0⟩ := (opens_slice Try.underlying30 (by kernel_rfl) (opens_string Try.underlying9)) H enc W 0 (fun _ => true) true fu0 [.slice z0 l0n c0n] _ hf0
  obtain ⟨A0, c0, E0, hc0, hr0⟩ := K0
  have E0 := (List.cons.inj E0).1
  simp only [Value.slice.injEq] at E0
  obtain ⟨rfl, rfl, rfl⟩ := E0
  have k1 := h1
  have lt1 : ∀ x ∈ p1, x.block < W.heap.size := by obtain ⟨m, hm⟩ := k1; exact DataW.trod_lt m _ _ _ hm
  obtain ⟨fu1, hf1⟩ := h1
  obtain ⟨z1, l1n, c1n, rfl⟩ := okWide_slice Try.underlying38 (hval 1 38 v1 rfl rfl)
  obtain ⟨l1, K1, hq1⟩ := (opens_slice Try.underlying38 (by kernel_rfl) (opens_bool Try.underlying4)) H enc W 0 (fun _ => true) true fu1 [.slice z1 l1n c1n] _ hf1
  obtain ⟨A1, c1, E1, hc1, hr1⟩ := K1
  have E1 := (List.cons.inj E1).1
  simp only [Value.slice.injEq] at E1
  obtain ⟨rfl, rfl, rfl⟩ := E1
  clear hA0 hval0 hsz0 hsz
  refine (codeFills_walk z0 c0n l0 z1 c1n l1 W hr0 hc0 hq0 hr1 hc1 hq1).mono fun e W' ⟨he, bel⟩ => ?_
  subst he
  exact ⟨_, rfl, _, _, _, [], _, [], hW', trodAll_mk1 (shut_bool Try.underlying4 _), (trodAll_cons_mk (Below.trod laidOut (by kernel_rfl) (of_decide_eq_true (by kernel_rfl)) k0 bel lt0) (trodAll_cons_mk (Below.trod laidOut (by kernel_rfl) (of_decide_eq_true (by kernel_rfl)) k1 bel lt1) trodAll_mk0)), rfl, bel.frame _, fun h => by cases h⟩
theorem over : Rows.codeFillsRow.holds Try.pinned (OpenSpec.ofChange Rows.codeFillsSpec) :=
  OpenClaim.holds_of_wide 5 Try.f5 rfl rfl rfl rfl rfl rfl rfl ⟨rfl, rfl, rfl, rfl, rfl⟩ rfl rfl rfl rfl rfl (by kernel_rfl) Try.func5 (by kernel_rfl)
    (of_decide_eq_true (by kernel_rfl)) (by unfold Func.isWrapper; first | (rw [if_pos (by decide +kernel)]; kernel_rfl) | (rw [if_neg (by decide +kernel)]; exact ⟨rfl, rfl⟩))
    (fun os started H enc _ => lifted os started H enc)
theorem proved : Rows.CodeFillsSaid := over
#print axioms proved
end Go.Proofs.Ytlaflbjlgkdacaa.codeFills
namespace Go.Proofs.Ytlaflbjlgkdacaa
/-- The row, under a short name, for the claim. -/
theorem codeFills_holds : Rows.CodeFillsSaid := codeFills.proved
end Go.Proofs.Ytlaflbjlgkdacaa
