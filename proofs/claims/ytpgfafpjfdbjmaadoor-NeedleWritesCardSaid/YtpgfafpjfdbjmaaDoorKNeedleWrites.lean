/- sluicegate/sluicegatelaw08.NeedleWrites: for every input the law returns true, and each argument reads behind the call as it read before. No condition. (The row, written by a program of this session, which drives print.py.) -/
import Derived.Test.YtpgfafpjfdbjmaaDoorRows
import Derived.Test.YtpgfafpjfdbjmaaDoorCards
import Derived.Test.YtpgfafpjfdbjmaaDoorTie
import Derived.Deep.DeepHandedRow
import Derived.SevenTiedAt
import Derived.LaidLaws
import Derived.Test.YtpgfafpjfdbjmaaDoorKNeedleWrites1
import Derived.Test.YtpgfafpjfdbjmaaDoorKNeedleWrites2
import Derived.Test.YtpgfafpjfdbjmaaDoorKNeedleWrites3
import Derived.Test.YtpgfafpjfdbjmaaDoorKNeedleWrites4
import Derived.Test.YtpgfafpjfdbjmaaDoorKNeedleWrites5
import Derived.Test.YtpgfafpjfdbjmaaDoorKNeedleWrites6
import Derived.Test.YtpgfafpjfdbjmaaDoorKNeedleWrites7
import Derived.Test.YtpgfafpjfdbjmaaDoorKNeedleWrites8
import Derived.WalkKit
import Derived.ProofKit
import Derived.OpenShut
import Derived.ShutString
import Derived.ChangeOld
import Derived.Below
import Derived.SizedLaws
import Derived.Carry
namespace Go.Proofs.YtpgfafpjfdbjmaaDoor.needleWrites
open Go.ChangeShapes Go.WideShapes Go.ChangeAt Go.RowKit Go.Proofs.YtpgfafpjfdbjmaaDoorW.PrintWords Go.Proofs.YtpgfafpjfdbjmaaDoor.Q
open Go.ChangeMaps (open_string shut_string)
set_option linter.unusedVariables false
theorem own : ownKnob Tryd.prog.godebug = none := by kernel_rfl
theorem laidOut : laidOutB Tryd.prog = true := by kernel_rfl
theorem walk (a0_0 : ByteArray) (a0_1 : ByteArray) (w : World) (hq0_0 : a0_0.size ≤ maxLen) (hq0_1 : a0_1.size ≤ maxLen) :
    Calls Tryd.prog 3 #[.agg #[.string a0_0, .string a0_1]] w fun e w' => e = .returned (.bool true) ∧ Below w.heap.size w w' := by
  obtain ⟨k, h⟩ := Pure.NeedleWrites a0_0 a0_1 hq0_0 hq0_1
  refine (sluicegatelaw08_NeedleWrites.calls k a0_0 a0_1 true w  h).mono ?_
  rintro e w' ⟨rfl, hd⟩
  exact ⟨rfl, hd⟩
noncomputable def laidWorld (os : Os) : World :=
  { World.holding Tryd.prog os ⟨#[], #[], []⟩ with heap := ((World.holding Tryd.prog os ⟨#[], #[], []⟩).heap.modify 1 (fun | .cells _ t frozen => .cells (Go.Pinned.utf8FirstZ.map fun (x : Nat) => Value.int .u8 (x : Int)).toArray t frozen | o => o)).modify 2 (fun | .cells _ t frozen => .cells #[.int .u8 128, .int .u8 191, .int .u8 160, .int .u8 191, .int .u8 128, .int .u8 159, .int .u8 144, .int .u8 191, .int .u8 128, .int .u8 143, .int .u8 0, .int .u8 0, .int .u8 0, .int .u8 0, .int .u8 0, .int .u8 0, .int .u8 0, .int .u8 0, .int .u8 0, .int .u8 0, .int .u8 0, .int .u8 0, .int .u8 0, .int .u8 0, .int .u8 0, .int .u8 0, .int .u8 0, .int .u8 0, .int .u8 0, .int .u8 0, .int .u8 0, .int .u8 0] t frozen | o => o) }
theorem laid_met (os : Os) : laidMet Tryd.prog Rows.needleWritesRow.laid ((laidWorld os).forCall (fun _ _ => 0) ⟨#[], #[.agg #[.string ByteArray.empty, .string ByteArray.empty]], []⟩).memory :=
  laidMet_of_run' 8 (by kernel_rfl) (by kernel_rfl)
theorem reads (os : Os) {H : Type} (enc : TypeId × Value → H) : (DataW.whole enc Tryd.prog ((laidWorld os).forCall (fun _ _ => 0) ⟨#[], #[.agg #[.string ByteArray.empty, .string ByteArray.empty]], []⟩).memory Tryd.f3.params.toList Rows.needleWritesSpec.vars false (#[.agg #[.string ByteArray.empty, .string ByteArray.empty]] : Array Value).toList 8).isSome = true := by kernel_rfl
set_option maxRecDepth 100000 in
theorem lifted (os : Os) (started : os.Started) (H : Type) (enc : TypeId × Value → H) (F : Stop.Interp) :
    ReturnsInHanded {} Tryd.checked os 3 .any ((OpenSpec.ofChange Rows.needleWritesSpec).preRow enc Tryd.prog Tryd.f3 Rows.needleWritesRow.domain false Rows.needleWritesRow.laid) (((OpenSpec.ofChange Rows.needleWritesSpec).at F).post enc Tryd.prog Tryd.f3 false true false false) := by
  obtain ⟨x, hx⟩ := Option.isSome_iff_exists.1 (reads os enc)
  refine returnsInHanded_of_row (C := Tryd.checked) (s := OpenSpec.ofChange Rows.needleWritesSpec) own started (by kernel_rfl) Tryd.func3
    (witness_row_at (enc := enc) (C := Tryd.checked) false (laidWorld os) #[.agg #[.string ByteArray.empty, .string ByteArray.empty]] rfl (by kernel_rfl) (by kernel_rfl) (by kernel_rfl)
      (OpenSpec.preRow_of_cond 8 hx (by kernel_rfl) (fun k hk => by cases hk) (by kernel_rfl) (laid_met os))) ?_
  intro W base args ds gs before hval0 hW hcnd _ hsz0 _ _ _
  have hsz : (DataW.weightsEach Tryd.prog (Tryd.f3.params.toList ++ Rows.needleWritesSpec.plain.varTypes Tryd.prog) (ds ++ gs)).all (· ≤ reachBytes) = true := hsz0
  have hval : ∀ (j : Nat) t v, Tryd.f3.params[j]? = some t → args[j]? = some v → Value.okWide Tryd.prog W .any base t v := hval0
  have hW' := hW
  obtain ⟨p, q, hA0, hV, rfl, hfz, hnd⟩ := hW
  have hA : DataW.TrodAll enc Tryd.prog W 0 (fun _ => true) true Tryd.f3.params.toList args.toList ds p := hA0
  rw [Tryd.params3] at hA hval hsz
  obtain ⟨v0, vs0, d0, ds0, p0, q0, hargs, rfl, rfl, h0, r0⟩ := trodAll_cons hA
  obtain ⟨rfl, rfl, rfl⟩ := trodAll_nil r0
  obtain rfl : args = #[v0] := by cases args; simp_all
  obtain ⟨rfl, rfl⟩ := trodVars_none hV
  have k0 := h0
  have lt0 : ∀ x ∈ p0, x.block < W.heap.size := by obtain ⟨m, hm⟩ := k0; exact DataW.trod_lt m _ _ _ hm
  obtain ⟨fu0, hf0⟩ := h0
  obtain ⟨cs0, rfl, _⟩ := okWide_struct Tryd.underlying23 (hval 0 23 v0 rfl rfl)
  have hf0 : DataW.trod enc Tryd.prog W 0 (fun _ => true) true fu0 23 cs0.toList = some _ := hf0
  obtain ⟨hl0, n0, hg0⟩ := field_of Tryd.underlying23 hf0
  have hl0 : cs0.toList.length = 2 := hl0.trans (by kernel_rfl)
  obtain ⟨L0, EL0⟩ : ∃ L, cs0.toList = L := ⟨_, rfl⟩
  rw [EL0] at hl0 hg0
  obtain ⟨c0_0v, R0_0, rfl, hl0_0⟩ := list_succ hl0
  obtain ⟨c0_1v, R0_1, rfl, hl0_1⟩ := list_succ hl0_0
  obtain rfl := list_zero hl0_1
  obtain rfl := arr_of_list EL0
  clear EL0
  have Nhg0_0 : Tryd.prog.cellsOf 9 = 1 := by kernel_rfl
  obtain ⟨yhg0_0, ehg0_0⟩ : ∃ y, DataW.trod enc Tryd.prog W 0 (fun _ => true) true n0 9 ((([c0_0v, c0_1v] : List Value).drop 0).take (Tryd.prog.cellsOf 9)) = some y := hg0 0 _ rfl
  rw [Nhg0_0] at ehg0_0
  obtain ⟨a0_0, K0_0, hq0_0⟩ := (opens_string Tryd.underlying9) H enc W 0 (fun _ => true) true n0 [c0_0v] _ ehg0_0
  obtain rfl := (List.cons.inj K0_0).1
  have Nhg0_1 : Tryd.prog.cellsOf 9 = 1 := by kernel_rfl
  obtain ⟨yhg0_1, ehg0_1⟩ : ∃ y, DataW.trod enc Tryd.prog W 0 (fun _ => true) true n0 9 ((([(.string a0_0), c0_1v] : List Value).drop 1).take (Tryd.prog.cellsOf 9)) = some y := hg0 1 _ rfl
  rw [Nhg0_1] at ehg0_1
  obtain ⟨a0_1, K0_1, hq0_1⟩ := (opens_string Tryd.underlying9) H enc W 0 (fun _ => true) true n0 [c0_1v] _ ehg0_1
  obtain rfl := (List.cons.inj K0_1).1
  clear hA0 hval0 hsz0 hsz
  refine (walk a0_0 a0_1 W hq0_0 hq0_1).mono fun e W' ⟨he, bel⟩ => ?_
  subst he
  exact ⟨_, rfl, _, _, _, [], _, [], hW', trodAll_mk1 (shut_bool Tryd.underlying4 _), (trodAll_cons_mk (Below.trod laidOut (by kernel_rfl) (of_decide_eq_true (by kernel_rfl)) k0 bel lt0) trodAll_mk0), rfl, bel.frame _, fun h => by cases h⟩
theorem over : Rows.needleWritesRow.holds Tryd.pinned (OpenSpec.ofChange Rows.needleWritesSpec) :=
  OpenClaim.holds_of_cond 3 Tryd.f3 rfl rfl rfl rfl rfl rfl rfl ⟨rfl, rfl, rfl, rfl, rfl⟩ rfl rfl rfl rfl rfl (by kernel_rfl) Tryd.func3 (by kernel_rfl)
    (of_decide_eq_true (by kernel_rfl)) (by unfold Func.isWrapper; first | (rw [if_pos (by decide +kernel)]; kernel_rfl) | (rw [if_neg (by decide +kernel)]; exact ⟨rfl, rfl⟩))
    (fun os started H enc _ F => by rw [OpenClaim.pre_eq_preRow]; exact lifted os started H enc F)
theorem plain (f : FuncId) (fn : Func) (hf : Tryd.pinned.checked.prog.funcNamed Rows.needleWritesRow.func = some f) (hfn : Tryd.pinned.checked.prog.funcs[f]? = some fn) :
    false = Tryd.pinned.checked.prog.looks [] ∧ ∀ (j : Nat) t, fn.params[j]? = some t → Tryd.pinned.checked.prog.wantsStandIn t = false := by
  obtain rfl : f = 3 := Option.some.inj ((show Tryd.prog.funcNamed Rows.needleWritesRow.func = some 3 by kernel_rfl).symm.trans hf) |>.symm
  obtain rfl : fn = Tryd.f3 := (Option.some.inj (Tryd.func3.symm.trans hfn)).symm
  refine ⟨by kernel_rfl, fun j t ht => ?_⟩
  have hall : (Tryd.f3.params.all fun u => !Tryd.prog.wantsStandIn u) = true := by kernel_rfl
  have hm : t ∈ Tryd.f3.params := Array.mem_of_getElem? ht
  have h1 := Array.all_eq_true_iff_forall_mem.1 hall t hm
  exact (show Tryd.prog.wantsStandIn t = false by simpa using h1)
theorem proved : Rows.NeedleWritesCardSaid :=
  Claim7.holds_tied_plain_at .later [] _ _ _ _ over (fun _ h => by cases h) (by kernel_rfl) (fun _ h => by cases h) needleWrites_row_tie rfl ⟨rfl, rfl⟩ (by kernel_rfl) rfl plain (by kernel_rfl)
#print axioms proved
end Go.Proofs.YtpgfafpjfdbjmaaDoor.needleWrites
namespace Go.Proofs.YtpgfafpjfdbjmaaDoor
/-- The row, under a short name, for the claim. -/
theorem needleWrites_holds : Rows.NeedleWritesCardSaid := needleWrites.proved
end Go.Proofs.YtpgfafpjfdbjmaaDoor
