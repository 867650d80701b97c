/- sluicegate/sluicegatelaw08.NeedleBack: for every input the law returns true, and each argument reads behind the call as it read before. No condition. (The row, written by a program of this session, which drives print.py.) -/
import Derived.Test.YtpgfafpjfdbjmaaDoorRows
import Derived.Test.YtpgfafpjfdbjmaaDoorCards
import Derived.Test.YtpgfafpjfdbjmaaDoorTie
import Derived.Deep.DeepHandedRow
import Derived.SevenTiedAt
import Derived.LaidLaws
import Derived.Test.YtpgfafpjfdbjmaaDoorKNeedleBack1
import Derived.Test.YtpgfafpjfdbjmaaDoorKNeedleBack2
import Derived.Test.YtpgfafpjfdbjmaaDoorKNeedleBack3
import Derived.Test.YtpgfafpjfdbjmaaDoorKNeedleBack4
import Derived.Test.YtpgfafpjfdbjmaaDoorKNeedleBack5
import Derived.Test.YtpgfafpjfdbjmaaDoorKNeedleBack6
import Derived.WalkKit
import Derived.ProofKit
import Derived.OpenShut
import Derived.ShutString
import Derived.ChangeOld
import Derived.Below
import Derived.SizedLaws
import Derived.Carry
namespace Go.Proofs.YtpgfafpjfdbjmaaDoor.needleBack
open Go.ChangeShapes Go.WideShapes Go.ChangeAt Go.RowKit Go.Proofs.YtpgfafpjfdbjmaaDoorW.PrintWords Go.Proofs.YtpgfafpjfdbjmaaDoor.Q
open Go.ChangeMaps (open_string shut_string)
set_option linter.unusedVariables false
theorem own : ownKnob Tryd.prog.godebug = none := by kernel_rfl
theorem laidOut : laidOutB Tryd.prog = true := by kernel_rfl
def Q23 (x : S23) : Prop := (x.f0.size ≤ maxLen) ∧ (x.f1.size ≤ maxLen)
instance : Inhabited S23 := ⟨⟨default, default⟩⟩
theorem opens23 : Opens Tryd.prog 23 k23 Q23 := by
  intro H enc w base spare held fuel cs x h
  obtain ⟨hl, n, hf⟩ := field_of Tryd.underlying23 h
  have hl : cs.length = 2 := hl.trans (by kernel_rfl)
  obtain ⟨c0, r0, rfl, hl0⟩ := list_succ hl
  obtain ⟨c1, r1, rfl, hl1⟩ := list_succ hl0
  obtain rfl := list_zero hl1
  have n0 : Tryd.prog.cellsOf 9 = 1 := by kernel_rfl
  obtain ⟨y0, e0⟩ : ∃ y, DataW.trod enc Tryd.prog w base spare held n 9 ((([c0, c1] : List Value).drop 0).take (Tryd.prog.cellsOf 9)) = some y := hf 0 _ rfl
  rw [n0] at e0
  obtain ⟨x0, K0, q0⟩ := (opens_string Tryd.underlying9) H enc w base spare held n [c0] y0 e0
  have n1 : Tryd.prog.cellsOf 9 = 1 := by kernel_rfl
  obtain ⟨y1, e1⟩ : ∃ y, DataW.trod enc Tryd.prog w base spare held n 9 ((([c0, c1] : List Value).drop 1).take (Tryd.prog.cellsOf 9)) = some y := hf 1 _ rfl
  rw [n1] at e1
  obtain ⟨x1, K1, q1⟩ := (opens_string Tryd.underlying9) H enc w base spare held n [c1] y1 e1
  exact ⟨⟨x0, x1⟩, ⟨[c0], [c1], rfl, K0, K1⟩, ⟨q0, q1⟩⟩
theorem walk (A0 : Option Addr) (c0 : Nat) (l0 : List (S23)) (w : World) (hr0 : Kd.C k23 w A0 l0.length l0) (hc0 : l0.length ≤ c0) (hq0 : ∀ x_ ∈ l0, Q23 x_) :
    Calls Tryd.prog 6 #[.slice A0 l0.length c0] w fun e w' => e = .returned (.bool true) ∧ Below w.heap.size w w' := by
  obtain ⟨k, h⟩ := Pure.NeedleBack l0 hq0
  refine (sluicegatelaw08_NeedleBack.calls k _ _ l0 true w hr0 hc0 h).mono ?_
  rintro e w' ⟨rfl, hd⟩
  exact ⟨rfl, hd⟩
noncomputable def laidWorld (os : Os) : World :=
  { World.holding Tryd.prog os ⟨#[], #[], []⟩ with heap := ((World.holding Tryd.prog os ⟨#[], #[], []⟩).heap.modify 1 (fun | .cells _ t frozen => .cells (Go.Pinned.utf8FirstZ.map fun (x : Nat) => Value.int .u8 (x : Int)).toArray t frozen | o => o)).modify 2 (fun | .cells _ t frozen => .cells #[.int .u8 128, .int .u8 191, .int .u8 160, .int .u8 191, .int .u8 128, .int .u8 159, .int .u8 144, .int .u8 191, .int .u8 128, .int .u8 143, .int .u8 0, .int .u8 0, .int .u8 0, .int .u8 0, .int .u8 0, .int .u8 0, .int .u8 0, .int .u8 0, .int .u8 0, .int .u8 0, .int .u8 0, .int .u8 0, .int .u8 0, .int .u8 0, .int .u8 0, .int .u8 0, .int .u8 0, .int .u8 0, .int .u8 0, .int .u8 0, .int .u8 0, .int .u8 0] t frozen | o => o) }
theorem laid_met (os : Os) : laidMet Tryd.prog Rows.needleBackRow.laid ((laidWorld os).forCall (fun _ _ => 0) ⟨#[], #[.slice none 0 0], []⟩).memory :=
  laidMet_of_run' 8 (by kernel_rfl) (by kernel_rfl)
theorem reads (os : Os) {H : Type} (enc : TypeId × Value → H) : (DataW.whole enc Tryd.prog ((laidWorld os).forCall (fun _ _ => 0) ⟨#[], #[.slice none 0 0], []⟩).memory Tryd.f6.params.toList Rows.needleBackSpec.vars false (#[.slice none 0 0] : Array Value).toList 8).isSome = true := by kernel_rfl
set_option maxRecDepth 100000 in
theorem lifted (os : Os) (started : os.Started) (H : Type) (enc : TypeId × Value → H) (F : Stop.Interp) :
    ReturnsInHanded {} Tryd.checked os 6 .any ((OpenSpec.ofChange Rows.needleBackSpec).preRow enc Tryd.prog Tryd.f6 Rows.needleBackRow.domain false Rows.needleBackRow.laid) (((OpenSpec.ofChange Rows.needleBackSpec).at F).post enc Tryd.prog Tryd.f6 false true false false) := by
  obtain ⟨x, hx⟩ := Option.isSome_iff_exists.1 (reads os enc)
  refine returnsInHanded_of_row (C := Tryd.checked) (s := OpenSpec.ofChange Rows.needleBackSpec) own started (by kernel_rfl) Tryd.func6
    (witness_row_at (enc := enc) (C := Tryd.checked) false (laidWorld os) #[.slice none 0 0] rfl (by kernel_rfl) (by kernel_rfl) (by kernel_rfl)
      (OpenSpec.preRow_of_cond 8 hx (by kernel_rfl) (fun k hk => by cases hk) (by kernel_rfl) (laid_met os))) ?_
  intro W base args ds gs before hval0 hW hcnd _ hsz0 _ _ _
  have hsz : (DataW.weightsEach Tryd.prog (Tryd.f6.params.toList ++ Rows.needleBackSpec.plain.varTypes Tryd.prog) (ds ++ gs)).all (· ≤ reachBytes) = true := hsz0
  have hval : ∀ (j : Nat) t v, Tryd.f6.params[j]? = some t → args[j]? = some v → Value.okWide Tryd.prog W .any base t v := hval0
  have hW' := hW
  obtain ⟨p, q, hA0, hV, rfl, hfz, hnd⟩ := hW
  have hA : DataW.TrodAll enc Tryd.prog W 0 (fun _ => true) true Tryd.f6.params.toList args.toList ds p := hA0
  rw [Tryd.params6] at hA hval hsz
  obtain ⟨v0, vs0, d0, ds0, p0, q0, hargs, rfl, rfl, h0, r0⟩ := trodAll_cons hA
  obtain ⟨rfl, rfl, rfl⟩ := trodAll_nil r0
  obtain rfl : args = #[v0] := by cases args; simp_all
  obtain ⟨rfl, rfl⟩ := trodVars_none hV
  have k0 := h0
  have lt0 : ∀ x ∈ p0, x.block < W.heap.size := by obtain ⟨m, hm⟩ := k0; exact DataW.trod_lt m _ _ _ hm
  obtain ⟨fu0, hf0⟩ := h0
  obtain ⟨z0, l0n, c0n, rfl⟩ := okWide_slice Tryd.underlying42 (hval 0 42 v0 rfl rfl)
  obtain ⟨l0, K0, hq0⟩ := (opens_slice Tryd.underlying42 (by kernel_rfl) opens23) H enc W 0 (fun _ => true) true fu0 [.slice z0 l0n c0n] _ hf0
  obtain ⟨A0, c0, E0, hc0, hr0⟩ := K0
  have E0 := (List.cons.inj E0).1
  simp only [Value.slice.injEq] at E0
  obtain ⟨rfl, rfl, rfl⟩ := E0
  clear hA0 hval0 hsz0 hsz
  refine (walk z0 c0n l0 W hr0 hc0 hq0).mono fun e W' ⟨he, bel⟩ => ?_
  subst he
  exact ⟨_, rfl, _, _, _, [], _, [], hW', trodAll_mk1 (shut_bool Tryd.underlying4 _), (trodAll_cons_mk (Below.trod laidOut (by kernel_rfl) (of_decide_eq_true (by kernel_rfl)) k0 bel lt0) trodAll_mk0), rfl, bel.frame _, fun h => by cases h⟩
theorem over : Rows.needleBackRow.holds Tryd.pinned (OpenSpec.ofChange Rows.needleBackSpec) :=
  OpenClaim.holds_of_cond 6 Tryd.f6 rfl rfl rfl rfl rfl rfl rfl ⟨rfl, rfl, rfl, rfl, rfl⟩ rfl rfl rfl rfl rfl (by kernel_rfl) Tryd.func6 (by kernel_rfl)
    (of_decide_eq_true (by kernel_rfl)) (by unfold Func.isWrapper; first | (rw [if_pos (by decide +kernel)]; kernel_rfl) | (rw [if_neg (by decide +kernel)]; exact ⟨rfl, rfl⟩))
    (fun os started H enc _ F => by rw [OpenClaim.pre_eq_preRow]; exact lifted os started H enc F)
theorem plain (f : FuncId) (fn : Func) (hf : Tryd.pinned.checked.prog.funcNamed Rows.needleBackRow.func = some f) (hfn : Tryd.pinned.checked.prog.funcs[f]? = some fn) :
    false = Tryd.pinned.checked.prog.looks [] ∧ ∀ (j : Nat) t, fn.params[j]? = some t → Tryd.pinned.checked.prog.wantsStandIn t = false := by
  obtain rfl : f = 6 := Option.some.inj ((show Tryd.prog.funcNamed Rows.needleBackRow.func = some 6 by kernel_rfl).symm.trans hf) |>.symm
  obtain rfl : fn = Tryd.f6 := (Option.some.inj (Tryd.func6.symm.trans hfn)).symm
  refine ⟨by kernel_rfl, fun j t ht => ?_⟩
  have hall : (Tryd.f6.params.all fun u => !Tryd.prog.wantsStandIn u) = true := by kernel_rfl
  have hm : t ∈ Tryd.f6.params := Array.mem_of_getElem? ht
  have h1 := Array.all_eq_true_iff_forall_mem.1 hall t hm
  exact (show Tryd.prog.wantsStandIn t = false by simpa using h1)
theorem proved : Rows.NeedleBackCardSaid :=
  Claim7.holds_tied_plain_at .later [] _ _ _ _ over (fun _ h => by cases h) (by kernel_rfl) (fun _ h => by cases h) needleBack_row_tie rfl ⟨rfl, rfl⟩ (by kernel_rfl) rfl plain (by kernel_rfl)
#print axioms proved
end Go.Proofs.YtpgfafpjfdbjmaaDoor.needleBack
namespace Go.Proofs.YtpgfafpjfdbjmaaDoor
/-- The row, under a short name, for the claim. -/
theorem needleBack_holds : Rows.NeedleBackCardSaid := needleBack.proved
end Go.Proofs.YtpgfafpjfdbjmaaDoor
