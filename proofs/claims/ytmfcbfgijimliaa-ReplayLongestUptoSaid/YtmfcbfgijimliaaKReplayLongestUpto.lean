/- sluicegate/sluicegatelaw12.ReplayLongest, where what it reads is of bulk at most 1048576: the law returns true, and each argument reads behind the call as it read before. -/
import Derived.Test.YtmfcbfgijimliaaRows
import Derived.Test.YtmfcbfgijimliaaKReplayLongestUpto1
import Derived.Test.YtmfcbfgijimliaaKReplayLongestUpto2
import Derived.Test.YtmfcbfgijimliaaKReplayLongestUpto3
import Derived.Test.YtmfcbfgijimliaaKReplayLongestUpto4
import Derived.JoinedCond
import Derived.WalkKit
import Derived.ProofKit
import Derived.OpenShut
import Derived.ShutString
import Derived.ChangeOld
import Derived.Below
import Derived.SizedLaws
import Derived.Carry
namespace Go.Proofs.Ytmfcbfgijimliaa.replayLongestUpto
open Go.ChangeShapes Go.WideShapes Go.ChangeAt Go.RowKit Go.Proofs.YtmfcbfgijimliaaW.PrintWords Go.Proofs.Ytmfcbfgijimliaa.Q
open Go.ChangeMaps (open_string shut_string)
set_option linter.unusedVariables false
theorem own : ownKnob Try.prog.godebug = none := by kernel_rfl
theorem laidOut : laidOutB Try.prog = true := by kernel_rfl
set_option maxRecDepth 100000 in
/-- What the bound gives: few sectors, and short ones. -/
theorem small {H : Type} {d : DataW H} {l : List (List ByteArray)} (hk : Rows.uptoSmall H [d] = true) (hq : l.length + 1 ≤ Rows.uptoBulk d ∧ ∀ a ∈ l, ∃ D' : DataW H, (a.length + 1 ≤ Rows.uptoBulk D' ∧ ∀ s ∈ a, ∃ E : DataW H, s.size + 1 ≤ Rows.uptoBulk E ∧ Rows.uptoBulk E ≤ Rows.uptoBulk D') ∧ Rows.uptoBulk D' ≤ Rows.uptoBulk d) : ∀ xs ∈ l, xs.length ≤ 1048576 ∧ ∀ s ∈ xs, s.size ≤ 140737488355328 := by
  have h : Rows.uptoBulkAll [d] ≤ 1048576 := of_decide_eq_true hk
  simp only [Rows.uptoBulkAll] at h
  intro xs hx
  obtain ⟨D', ⟨h1, h2⟩, h3⟩ := hq.2 xs hx
  refine ⟨by omega, fun s hs => ?_⟩
  obtain ⟨E, h4, h5⟩ := h2 s hs
  omega
set_option maxRecDepth 100000 in
theorem contract (H : Type) (enc : TypeId × Value → H) (W : World) (base : Nat) (args : Array Value) (ds gs : List (DataW H)) (before : List MemPlace)
    (hval0 : ∀ (j : Nat) t v, Try.f5.params[j]? = some t → args[j]? = some v → Value.okWide Try.prog W .any base t v)
    (hW : DataW.Whole enc Try.prog Try.f5.params.toList Rows.replayLongestSpec.vars false W args.toList ds gs before) (hk : Rows.uptoSmall H (ds ++ gs) = true) :
    Calls Try.prog 5 args W fun e W' => ∃ v, e = .returned v ∧ Rows.replayLongestSpec.post enc Try.prog Try.f5 false true false false W args v W' := by
  have hval : ∀ (j : Nat) t v, Try.f5.params[j]? = some t → args[j]? = some v → Value.okWide Try.prog W .any base t v := hval0
  have hW' := hW
  obtain ⟨p, q, hA0, hV, rfl, hfz, hnd⟩ := hW
  have hA : DataW.TrodAll enc Try.prog W 0 (fun _ => true) true Try.f5.params.toList args.toList ds p := hA0
  rw [Try.params5] at hA hval
  obtain ⟨v0, vs0, d0, ds0, p0, q0, hargs, rfl, rfl, h0, r0⟩ := trodAll_cons hA
  obtain ⟨rfl, rfl, rfl⟩ := trodAll_nil r0
  obtain rfl : args = #[v0] := by cases args; simp_all
  obtain ⟨rfl, rfl⟩ := trodVars_none hV
  have k0 := h0
  have lt0 : ∀ x ∈ p0, x.block < W.heap.size := by obtain ⟨m, hm⟩ := k0; exact DataW.trod_lt m _ _ _ hm
  obtain ⟨fu0, hf0⟩ := h0
  obtain ⟨z0, l0n, c0n, rfl⟩ := okWide_slice Try.underlying46 (hval 0 46 v0 rfl rfl)
  obtain ⟨l0, K0, hq0⟩ := (opensB_slice Try.underlying46 (by kernel_rfl) (opensB_slice Try.underlying22 (by kernel_rfl) (opensB_string Try.underlying9))) H enc W 0 (fun _ => true) true fu0 [.slice z0 l0n c0n] _ hf0
  obtain ⟨A0, c0, E0, hc0, hr0⟩ := K0
  have E0 := (List.cons.inj E0).1
  simp only [Value.slice.injEq] at E0
  obtain ⟨rfl, rfl, rfl⟩ := E0
  clear hA0 hval0
  simp only [List.append_nil] at hk
  refine (longest12 z0 c0n l0 W hr0 hc0 (small hk hq0)).mono fun e W' ⟨he, bel⟩ => ?_
  subst he
  exact ⟨_, rfl, _, _, _, [], _, [], hW', trodAll_mk1 (shut_bool Try.underlying4 _), (trodAll_cons_mk (Below.trod laidOut (by kernel_rfl) (of_decide_eq_true (by kernel_rfl)) k0 bel lt0) trodAll_mk0), rfl, bel.frame _, fun h => by cases h⟩
set_option maxRecDepth 100000 in
theorem lifted (os : Os) (started : os.Started) (H : Type) (enc : TypeId × Value → H) (F : Stop.Interp) :
    ReturnsInHanded {} Try.checked os 5 .any ((Rows.OpenSpec.upto Rows.replayLongestSpec).pre6 enc Try.prog Try.f5 Rows.replayLongestUptoRow.domain false) (((Rows.OpenSpec.upto Rows.replayLongestSpec).at F).post enc Try.prog Try.f5 false true false false) := by
  refine returnsInHanded_of_cond (C := Try.checked) (s := Rows.OpenSpec.upto Rows.replayLongestSpec) (k := Rows.uptoSmall) rfl own started (by kernel_rfl) Try.func5
    (OpenSpec.witness (enc := enc) (C := Try.checked) (s := Rows.OpenSpec.upto Rows.replayLongestSpec) (k := Rows.uptoSmall) rfl false ⟨#[], #[.slice none 0 0], []⟩ 8 (by kernel_rfl) (by kernel_rfl) (by kernel_rfl)
      (x := ([.nil], [], [])) (by kernel_rfl) rfl (by kernel_rfl)) ?_
  intro W base args ds gs before hval hW _ hk _
  exact contract H enc W base args ds gs before hval hW hk
theorem proved : Rows.ReplayLongestUptoSaid :=
  OpenClaim.holds_of_cond 5 Try.f5 rfl rfl rfl rfl rfl rfl rfl ⟨rfl, rfl, rfl, rfl, rfl⟩ rfl rfl rfl rfl rfl (by kernel_rfl) Try.func5 (by kernel_rfl)
    (of_decide_eq_true (by kernel_rfl)) (by unfold Func.isWrapper; first | (rw [if_pos (by decide +kernel)]; kernel_rfl) | (rw [if_neg (by decide +kernel)]; exact ⟨rfl, rfl⟩))
    (fun os started H enc _ F => lifted os started H enc F)
#print axioms proved
end Go.Proofs.Ytmfcbfgijimliaa.replayLongestUpto
namespace Go.Proofs.Ytmfcbfgijimliaa
/-- The row, under a short name, for the claim. -/
theorem replayLongestUpto_holds : Rows.ReplayLongestUptoSaid := replayLongestUpto.proved
end Go.Proofs.Ytmfcbfgijimliaa
