/- sluicegate/sluicegatelaw19.StripeWrites: for every input the law returns true, and each argument reads behind the call as it read before. No condition. (The row, written by a program of this session, which drives print.py.) -/
import Derived.Test.YtdcfonmjbelgbaaGreatDoorRows
import Derived.Test.YtdcfonmjbelgbaaGreatDoorCards
import Derived.Test.YtdcfonmjbelgbaaGreatDoorTie
import Derived.Deep.DeepHandedRow
import Derived.SevenTiedAt
import Derived.LaidLaws
import Derived.Test.YtdcfonmjbelgbaaGreatDoorKStripeWrites1
import Derived.Test.YtdcfonmjbelgbaaGreatDoorKStripeWrites2
import Derived.Test.YtdcfonmjbelgbaaGreatDoorKStripeWrites3
import Derived.Test.YtdcfonmjbelgbaaGreatDoorKStripeWrites4
import Derived.Test.YtdcfonmjbelgbaaGreatDoorKStripeWrites5
import Derived.Test.YtdcfonmjbelgbaaGreatDoorKStripeWrites6
import Derived.Test.YtdcfonmjbelgbaaGreatDoorKStripeWrites7
import Derived.WalkKit
import Derived.ProofKit
import Derived.OpenShut
import Derived.ShutString
import Derived.ChangeOld
import Derived.Below
import Derived.SizedLaws
import Derived.Carry
namespace Go.Proofs.YtdcfonmjbelgbaaGreatDoor.stripeWrites
open Go.ChangeShapes Go.WideShapes Go.ChangeAt Go.RowKit Go.Proofs.YtdcfonmjbelgbaaGreatDoorW.PrintWords Go.Proofs.YtdcfonmjbelgbaaGreatDoor.Q
open Go.ChangeMaps (open_string shut_string)
set_option linter.unusedVariables false
theorem own : ownKnob Tryz.prog.godebug = none := by kernel_rfl
theorem laidOut : laidOutB Tryz.prog = true := by kernel_rfl
def Q59 (x : S59) : Prop := ((Lit.int .i64 x.f0).wf = true) ∧ ((Lit.int .i64 x.f1).wf = true)
instance : Inhabited S59 := ⟨⟨default, default⟩⟩
theorem opens59 : Opens Tryz.prog 59 k59 Q59 := by
  intro H enc w base spare held fuel cs x h
  obtain ⟨hl, n, hf⟩ := field_of Tryz.underlying59 h
  have hl : cs.length = 2 := hl.trans (by kernel_rfl)
  obtain ⟨c0, r0, rfl, hl0⟩ := list_succ hl
  obtain ⟨c1, r1, rfl, hl1⟩ := list_succ hl0
  obtain rfl := list_zero hl1
  have n0 : Tryz.prog.cellsOf 3 = 1 := by kernel_rfl
  obtain ⟨y0, e0⟩ : ∃ y, DataW.trod enc Tryz.prog w base spare held n 3 ((([c0, c1] : List Value).drop 0).take (Tryz.prog.cellsOf 3)) = some y := hf 0 _ rfl
  rw [n0] at e0
  obtain ⟨x0, K0, q0⟩ := (opens_int Tryz.underlying3) H enc w base spare held n [c0] y0 e0
  have n1 : Tryz.prog.cellsOf 3 = 1 := by kernel_rfl
  obtain ⟨y1, e1⟩ : ∃ y, DataW.trod enc Tryz.prog w base spare held n 3 ((([c0, c1] : List Value).drop 1).take (Tryz.prog.cellsOf 3)) = some y := hf 1 _ rfl
  rw [n1] at e1
  obtain ⟨x1, K1, q1⟩ := (opens_int Tryz.underlying3) H enc w base spare held n [c1] y1 e1
  exact ⟨⟨x0, x1⟩, ⟨[c0], [c1], rfl, K0, K1⟩, ⟨q0, q1⟩⟩
theorem walk (a0_0 : Int) (a0_1 : Int) (a0_2 : Int) (A0_3 : Option Addr) (c0_3 : Nat) (l0_3 : List (S59)) (a1 : ByteArray) (w : World) (hq0_0 : (Lit.int .i64 a0_0).wf = true) (hq0_1 : (Lit.int .i64 a0_1).wf = true) (hq0_2 : (Lit.int .i64 a0_2).wf = true) (hr0_3 : Kd.C k59 w A0_3 l0_3.length l0_3) (hc0_3 : l0_3.length ≤ c0_3) (hq0_3 : ∀ x_ ∈ l0_3, Q59 x_) (hq1 : a1.size ≤ 140737488351232) :
    Calls Tryz.prog 3 #[.agg #[.int .i64 a0_0, .int .i64 a0_1, .int .i64 a0_2, .slice A0_3 l0_3.length c0_3], .string a1] w fun e w' => e = .returned (.bool true) ∧ Below w.heap.size w w' := by
  obtain ⟨k, h⟩ := Pure.StripeWrites a0_0 a0_1 a0_2 l0_3 a1 hq0_0 hq0_1 hq0_2 hq0_3 hq1
  refine (sluicegatelaw19_StripeWrites.calls k a0_0 a0_1 a0_2 _ _ l0_3 a1 true w hr0_3 hc0_3 h).mono ?_
  rintro e w' ⟨rfl, hd⟩
  exact ⟨rfl, hd⟩
noncomputable def laidWorld (os : Os) : World :=
  { World.holding Tryz.prog os ⟨#[], #[], []⟩ with heap := ((World.holding Tryz.prog os ⟨#[], #[], []⟩).heap.modify 1 (fun | .cells _ t frozen => .cells (Go.Pinned.utf8FirstZ.map fun (x : Nat) => Value.int .u8 (x : Int)).toArray t frozen | o => o)).modify 2 (fun | .cells _ t frozen => .cells #[.int .u8 128, .int .u8 191, .int .u8 160, .int .u8 191, .int .u8 128, .int .u8 159, .int .u8 144, .int .u8 191, .int .u8 128, .int .u8 143, .int .u8 0, .int .u8 0, .int .u8 0, .int .u8 0, .int .u8 0, .int .u8 0, .int .u8 0, .int .u8 0, .int .u8 0, .int .u8 0, .int .u8 0, .int .u8 0, .int .u8 0, .int .u8 0, .int .u8 0, .int .u8 0, .int .u8 0, .int .u8 0, .int .u8 0, .int .u8 0, .int .u8 0, .int .u8 0] t frozen | o => o) }
theorem laid_met (os : Os) : laidMet Tryz.prog Rows.stripeWritesRow.laid ((laidWorld os).forCall (fun _ _ => 0) ⟨#[], #[.agg #[.int .i64 0, .int .i64 0, .int .i64 0, .slice none 0 0], .string ByteArray.empty], []⟩).memory :=
  laidMet_of_run' 8 (by kernel_rfl) (by kernel_rfl)
theorem reads (os : Os) {H : Type} (enc : TypeId × Value → H) : (DataW.whole enc Tryz.prog ((laidWorld os).forCall (fun _ _ => 0) ⟨#[], #[.agg #[.int .i64 0, .int .i64 0, .int .i64 0, .slice none 0 0], .string ByteArray.empty], []⟩).memory Tryz.f3.params.toList Rows.stripeWritesSpec.vars false (#[.agg #[.int .i64 0, .int .i64 0, .int .i64 0, .slice none 0 0], .string ByteArray.empty] : Array Value).toList 8).isSome = true := by kernel_rfl
set_option maxRecDepth 100000 in
theorem lifted (os : Os) (started : os.Started) (H : Type) (enc : TypeId × Value → H) (F : Stop.Interp) :
    ReturnsInHanded {} Tryz.checked os 3 .any ((OpenSpec.ofChange Rows.stripeWritesSpec).preRow enc Tryz.prog Tryz.f3 Rows.stripeWritesRow.domain false Rows.stripeWritesRow.laid) (((OpenSpec.ofChange Rows.stripeWritesSpec).at F).post enc Tryz.prog Tryz.f3 false true false false) := by
  obtain ⟨x, hx⟩ := Option.isSome_iff_exists.1 (reads os enc)
  refine returnsInHanded_of_row (C := Tryz.checked) (s := OpenSpec.ofChange Rows.stripeWritesSpec) own started (by kernel_rfl) Tryz.func3
    (witness_row_at (enc := enc) (C := Tryz.checked) false (laidWorld os) #[.agg #[.int .i64 0, .int .i64 0, .int .i64 0, .slice none 0 0], .string ByteArray.empty] rfl (by kernel_rfl) (by kernel_rfl) (by kernel_rfl)
      (OpenSpec.preRow_of_cond 8 hx (by kernel_rfl) (fun k hk => by cases hk) (by kernel_rfl) (laid_met os))) ?_
  intro W base args ds gs before hval0 hW hcnd _ hsz0 _ _ _
  have hsz : (DataW.weightsEach Tryz.prog (Tryz.f3.params.toList ++ Rows.stripeWritesSpec.plain.varTypes Tryz.prog) (ds ++ gs)).all (· ≤ reachBytes) = true := hsz0
  have hval : ∀ (j : Nat) t v, Tryz.f3.params[j]? = some t → args[j]? = some v → Value.okWide Tryz.prog W .any base t v := hval0
  have hW' := hW
  obtain ⟨p, q, hA0, hV, rfl, hfz, hnd⟩ := hW
  have hA : DataW.TrodAll enc Tryz.prog W 0 (fun _ => true) true Tryz.f3.params.toList args.toList ds p := hA0
  rw [Tryz.params3] at hA hval hsz
  obtain ⟨v0, vs0, d0, ds0, p0, q0, hargs, rfl, rfl, h0, r0⟩ := trodAll_cons hA
  obtain ⟨v1, vs1, d1, ds1, p1, q1, rfl, rfl, rfl, h1, r1⟩ := trodAll_cons r0
  obtain ⟨rfl, rfl, rfl⟩ := trodAll_nil r1
  obtain rfl : args = #[v0, v1] := by cases args; simp_all
  obtain ⟨rfl, rfl⟩ := trodVars_none hV
  have k0 := h0
  have lt0 : ∀ x ∈ p0, x.block < W.heap.size := by obtain ⟨m, hm⟩ := k0; exact DataW.trod_lt m _ _ _ hm
  obtain ⟨fu0, hf0⟩ := h0
  obtain ⟨cs0, rfl, _⟩ := okWide_struct Tryz.underlying24 (hval 0 24 v0 rfl rfl)
  have hf0 : DataW.trod enc Tryz.prog W 0 (fun _ => true) true fu0 24 cs0.toList = some _ := hf0
  obtain ⟨hl0, n0, hg0⟩ := field_of Tryz.underlying24 hf0
  have hl0 : cs0.toList.length = 4 := hl0.trans (by kernel_rfl)
  obtain ⟨L0, EL0⟩ : ∃ L, cs0.toList = L := ⟨_, rfl⟩
  rw [EL0] at hl0 hg0
  obtain ⟨c0_0v, R0_0, rfl, hl0_0⟩ := list_succ hl0
  obtain ⟨c0_1v, R0_1, rfl, hl0_1⟩ := list_succ hl0_0
  obtain ⟨c0_2v, R0_2, rfl, hl0_2⟩ := list_succ hl0_1
  obtain ⟨c0_3v, R0_3, rfl, hl0_3⟩ := list_succ hl0_2
  obtain rfl := list_zero hl0_3
  obtain rfl := arr_of_list EL0
  clear EL0
  have Nhg0_0 : Tryz.prog.cellsOf 3 = 1 := by kernel_rfl
  obtain ⟨yhg0_0, ehg0_0⟩ : ∃ y, DataW.trod enc Tryz.prog W 0 (fun _ => true) true n0 3 ((([c0_0v, c0_1v, c0_2v, c0_3v] : List Value).drop 0).take (Tryz.prog.cellsOf 3)) = some y := hg0 0 _ rfl
  rw [Nhg0_0] at ehg0_0
  obtain ⟨a0_0, K0_0, hq0_0⟩ := (opens_int Tryz.underlying3) H enc W 0 (fun _ => true) true n0 [c0_0v] _ ehg0_0
  obtain rfl := (List.cons.inj K0_0).1
  have Nhg0_1 : Tryz.prog.cellsOf 3 = 1 := by kernel_rfl
  obtain ⟨yhg0_1, ehg0_1⟩ : ∃ y, DataW.trod enc Tryz.prog W 0 (fun _ => true) true n0 3 ((([(.int .i64 a0_0), c0_1v, c0_2v, c0_3v] : List Value).drop 1).take (Tryz.prog.cellsOf 3)) = some y := hg0 1 _ rfl
  rw [Nhg0_1] at ehg0_1
  obtain ⟨a0_1, K0_1, hq0_1⟩ := (opens_int Tryz.underlying3) H enc W 0 (fun _ => true) true n0 [c0_1v] _ ehg0_1
  obtain rfl := (List.cons.inj K0_1).1
  have Nhg0_2 : Tryz.prog.cellsOf 3 = 1 := by kernel_rfl
  obtain ⟨yhg0_2, ehg0_2⟩ : ∃ y, DataW.trod enc Tryz.prog W 0 (fun _ => true) true n0 3 ((([(.int .i64 a0_0), (.int .i64 a0_1), c0_2v, c0_3v] : List Value).drop 2).take (Tryz.prog.cellsOf 3)) = some y := hg0 2 _ rfl
  rw [Nhg0_2] at ehg0_2
  obtain ⟨a0_2, K0_2, hq0_2⟩ := (opens_int Tryz.underlying3) H enc W 0 (fun _ => true) true n0 [c0_2v] _ ehg0_2
  obtain rfl := (List.cons.inj K0_2).1
  have Nhg0_3 : Tryz.prog.cellsOf 22 = 1 := by kernel_rfl
  obtain ⟨yhg0_3, ehg0_3⟩ : ∃ y, DataW.trod enc Tryz.prog W 0 (fun _ => true) true n0 22 ((([(.int .i64 a0_0), (.int .i64 a0_1), (.int .i64 a0_2), c0_3v] : List Value).drop 3).take (Tryz.prog.cellsOf 22)) = some y := hg0 3 _ rfl
  rw [Nhg0_3] at ehg0_3
  obtain ⟨l0_3, K0_3, hq0_3⟩ := (opens_slice Tryz.underlying22 (by kernel_rfl) opens59) H enc W 0 (fun _ => true) true n0 [c0_3v] _ ehg0_3
  obtain ⟨A0_3, c0_3, E0_3, hc0_3, hr0_3⟩ := K0_3
  obtain rfl := (List.cons.inj E0_3).1
  obtain ⟨a1, rfl, rfl, rfl, y1⟩ := open_string Tryz.underlying9 (hval 1 9 v1 rfl rfl) h1
  have hq1 : a1.size ≤ 140737488351232 := by
    have z := sized_string hsz (j := 1) (t := 9) rfl rfl
    rw [Array.length_toList] at z
    exact z
  clear hA0 hval0 hsz0 hsz
  refine (walk a0_0 a0_1 a0_2 A0_3 c0_3 l0_3 a1 W hq0_0 hq0_1 hq0_2 hr0_3 hc0_3 hq0_3 hq1).mono fun e W' ⟨he, bel⟩ => ?_
  subst he
  exact ⟨_, rfl, _, _, _, [], _, [], hW', trodAll_mk1 (shut_bool Tryz.underlying4 _), (trodAll_cons_mk (Below.trod laidOut (by kernel_rfl) (of_decide_eq_true (by kernel_rfl)) k0 bel lt0) (trodAll_cons_mk (shut_string Tryz.underlying9 y1) trodAll_mk0)), rfl, bel.frame _, fun h => by cases h⟩
theorem over : Rows.stripeWritesRow.holds Tryz.pinned (OpenSpec.ofChange Rows.stripeWritesSpec) :=
  OpenClaim.holds_of_cond 3 Tryz.f3 rfl rfl rfl rfl rfl rfl rfl ⟨rfl, rfl, rfl, rfl, rfl⟩ rfl rfl rfl rfl rfl (by kernel_rfl) Tryz.func3 (by kernel_rfl)
    (of_decide_eq_true (by kernel_rfl)) (by unfold Func.isWrapper; first | (rw [if_pos (by decide +kernel)]; kernel_rfl) | (rw [if_neg (by decide +kernel)]; exact ⟨rfl, rfl⟩))
    (fun os started H enc _ F => by rw [OpenClaim.pre_eq_preRow]; exact lifted os started H enc F)
theorem plain (f : FuncId) (fn : Func) (hf : Tryz.pinned.checked.prog.funcNamed Rows.stripeWritesRow.func = some f) (hfn : Tryz.pinned.checked.prog.funcs[f]? = some fn) :
    false = Tryz.pinned.checked.prog.looks [] ∧ ∀ (j : Nat) t, fn.params[j]? = some t → Tryz.pinned.checked.prog.wantsStandIn t = false := by
  obtain rfl : f = 3 := Option.some.inj ((show Tryz.prog.funcNamed Rows.stripeWritesRow.func = some 3 by kernel_rfl).symm.trans hf) |>.symm
  obtain rfl : fn = Tryz.f3 := (Option.some.inj (Tryz.func3.symm.trans hfn)).symm
  refine ⟨by kernel_rfl, fun j t ht => ?_⟩
  have hall : (Tryz.f3.params.all fun u => !Tryz.prog.wantsStandIn u) = true := by kernel_rfl
  have hm : t ∈ Tryz.f3.params := Array.mem_of_getElem? ht
  have h1 := Array.all_eq_true_iff_forall_mem.1 hall t hm
  exact (show Tryz.prog.wantsStandIn t = false by simpa using h1)
theorem proved : Rows.StripeWritesCardSaid :=
  Claim7.holds_tied_plain_at .later [] _ _ _ _ over (fun _ h => by cases h) (by kernel_rfl) (fun _ h => by cases h) stripeWrites_row_tie rfl ⟨rfl, rfl⟩ (by kernel_rfl) rfl plain (by kernel_rfl)
#print axioms proved
end Go.Proofs.YtdcfonmjbelgbaaGreatDoor.stripeWrites
namespace Go.Proofs.YtdcfonmjbelgbaaGreatDoor
/-- The row, under a short name, for the claim. -/
theorem stripeWrites_holds : Rows.StripeWritesCardSaid := stripeWrites.proved
end Go.Proofs.YtdcfonmjbelgbaaGreatDoor
