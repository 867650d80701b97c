/- sluicegate/sluicegatelaw11.RecordCut: for every input the law returns true, and each argument reads behind the call as it read before. No condition. (The row, written by a program of this session, which drives print.py.) -/
import Derived.Test.YtkceobahefjlnaaRows
import Derived.Test.YtkceobahefjlnaaKRecordCut1
import Derived.Test.YtkceobahefjlnaaKRecordCut2
import Derived.Test.YtkceobahefjlnaaKRecordCut3
import Derived.Test.YtkceobahefjlnaaKRecordCut4
import Derived.Test.YtkceobahefjlnaaKRecordCut5
import Derived.Test.YtkceobahefjlnaaKRecordCut6
import Derived.WalkKit
import Derived.ProofKit
import Derived.OpenShut
import Derived.ShutString
import Derived.ChangeOld
import Derived.Below
import Derived.SizedLaws
import Derived.Carry
namespace Go.Proofs.Ytkceobahefjlnaa.recordCut
open Go.ChangeShapes Go.WideShapes Go.ChangeAt Go.RowKit Go.Proofs.YtkceobahefjlnaaW.PrintWords Go.Proofs.Ytkceobahefjlnaa.Q
open Go.ChangeMaps (open_string shut_string)
set_option linter.unusedVariables false
theorem own : ownKnob Try.prog.godebug = none := by kernel_rfl
theorem laidOut : laidOutB Try.prog = true := by kernel_rfl
def Q67 (x : S67) : Prop := ((Lit.int .i64 x.f0).wf = true) ∧ ((Lit.int .i64 x.f1).wf = true)
instance : Inhabited S67 := ⟨⟨default, default⟩⟩
theorem opens67 : Opens Try.prog 67 k67 Q67 := by
  intro H enc w base spare held fuel cs x h
  obtain ⟨hl, n, hf⟩ := field_of Try.underlying67 h
  have hl : cs.length = 2 := hl.trans (by kernel_rfl)
  obtain ⟨c0, r0, rfl, hl0⟩ := list_succ hl
  obtain ⟨c1, r1, rfl, hl1⟩ := list_succ hl0
  obtain rfl := list_zero hl1
  have n0 : Try.prog.cellsOf 3 = 1 := by kernel_rfl
  obtain ⟨y0, e0⟩ : ∃ y, DataW.trod enc Try.prog w base spare held n 3 ((([c0, c1] : List Value).drop 0).take (Try.prog.cellsOf 3)) = some y := hf 0 _ rfl
  rw [n0] at e0
  obtain ⟨x0, K0, q0⟩ := (opens_int Try.underlying3) H enc w base spare held n [c0] y0 e0
  have n1 : Try.prog.cellsOf 3 = 1 := by kernel_rfl
  obtain ⟨y1, e1⟩ : ∃ y, DataW.trod enc Try.prog w base spare held n 3 ((([c0, c1] : List Value).drop 1).take (Try.prog.cellsOf 3)) = some y := hf 1 _ rfl
  rw [n1] at e1
  obtain ⟨x1, K1, q1⟩ := (opens_int Try.underlying3) H enc w base spare held n [c1] y1 e1
  exact ⟨⟨x0, x1⟩, ⟨[c0], [c1], rfl, K0, K1⟩, ⟨q0, q1⟩⟩
set_option maxRecDepth 100000 in
theorem lifted (os : Os) (started : os.Started) (H : Type) (enc : TypeId × Value → H) :
    ReturnsInHanded {} Try.checked os 8 .any (Rows.recordCutSpec.pre6 enc Try.prog Try.f8 Rows.recordCutRow.domain false) (Rows.recordCutSpec.post enc Try.prog Try.f8 false true false false) := by
  refine returnsInHanded_of_change_sized (C := Try.checked) own started (by kernel_rfl) Try.func8
    (ChangeSpec.witness6 (enc := enc) (C := Try.checked) false ⟨#[], #[.agg #[.int .i64 0, .int .i64 0, .int .i64 0, .int .i64 0, .int .i64 0, .slice none 0 0, .string ByteArray.empty, .int .i64 0, .int .i64 0, .int .i64 0, .string ByteArray.empty, .string ByteArray.empty, .int .i64 0, .int .i64 0], .int .i64 0], []⟩ 8 (by kernel_rfl) (by kernel_rfl) (by kernel_rfl) (by kernel_rfl)) ?_
  intro W base args ds gs before hval0 hW hcnd hsz0 _
  have hsz : (DataW.weightsEach Try.prog (Try.f8.params.toList ++ Rows.recordCutSpec.plain.varTypes Try.prog) (ds ++ gs)).all (· ≤ reachBytes) = true := hsz0
  have hval : ∀ (j : Nat) t v, Try.f8.params[j]? = some t → args[j]? = some v → Value.okWide Try.prog W .any base t v := hval0
  have hW' := hW
  obtain ⟨p, q, hA0, hV, rfl, hfz, hnd⟩ := hW
  have hA : DataW.TrodAll enc Try.prog W 0 (fun _ => true) true Try.f8.params.toList args.toList ds p := hA0
  rw [Try.params8] at hA hval hsz
  obtain ⟨v0, vs0, d0, ds0, p0, q0, hargs, rfl, rfl, h0, r0⟩ := trodAll_cons hA
  obtain ⟨v1, vs1, d1, ds1, p1, q1, rfl, rfl, rfl, h1, r1⟩ := trodAll_cons r0
  obtain ⟨rfl, rfl, rfl⟩ := trodAll_nil r1
  obtain rfl : args = #[v0, v1] := by cases args; simp_all
  obtain ⟨rfl, rfl⟩ := trodVars_none hV
  have k0 := h0
  have lt0 : ∀ x ∈ p0, x.block < W.heap.size := by obtain ⟨m, hm⟩ := k0; exact DataW.trod_lt m _ _ _ hm
  obtain ⟨fu0, hf0⟩ := h0
  obtain ⟨cs0, rfl, _⟩ := okWide_struct Try.underlying28 (hval 0 28 v0 rfl rfl)
  have hf0 : DataW.trod enc Try.prog W 0 (fun _ => true) true fu0 28 cs0.toList = some _ := hf0
  obtain ⟨hl0, n0, hg0⟩ := field_of Try.underlying28 hf0
  have hl0 : cs0.toList.length = 14 := hl0.trans (by kernel_rfl)
  obtain ⟨L0, EL0⟩ : ∃ L, cs0.toList = L := ⟨_, rfl⟩
  rw [EL0] at hl0 hg0
  obtain ⟨c0_0v, R0_0, rfl, hl0_0⟩ := list_succ hl0
  obtain ⟨c0_1v, R0_1, rfl, hl0_1⟩ := list_succ hl0_0
  obtain ⟨c0_2v, R0_2, rfl, hl0_2⟩ := list_succ hl0_1
  obtain ⟨c0_3v, R0_3, rfl, hl0_3⟩ := list_succ hl0_2
  obtain ⟨c0_4v, R0_4, rfl, hl0_4⟩ := list_succ hl0_3
  obtain ⟨c0_5v, R0_5, rfl, hl0_5⟩ := list_succ hl0_4
  obtain ⟨c0_6v, R0_6, rfl, hl0_6⟩ := list_succ hl0_5
  obtain ⟨c0_7v, R0_7, rfl, hl0_7⟩ := list_succ hl0_6
  obtain ⟨c0_8v, R0_8, rfl, hl0_8⟩ := list_succ hl0_7
  obtain ⟨c0_9v, R0_9, rfl, hl0_9⟩ := list_succ hl0_8
  obtain ⟨c0_10v, R0_10, rfl, hl0_10⟩ := list_succ hl0_9
  obtain ⟨c0_11v, R0_11, rfl, hl0_11⟩ := list_succ hl0_10
  obtain ⟨c0_12v, R0_12, rfl, hl0_12⟩ := list_succ hl0_11
  obtain ⟨c0_13v, R0_13, rfl, hl0_13⟩ := list_succ hl0_12
  obtain rfl := list_zero hl0_13
  obtain rfl := arr_of_list EL0
  clear EL0
  have Nhg0_0 : Try.prog.cellsOf 3 = 1 := by kernel_rfl
  obtain ⟨yhg0_0, ehg0_0⟩ : ∃ y, DataW.trod enc Try.prog W 0 (fun _ => true) true n0 3 ((([c0_0v, c0_1v, c0_2v, c0_3v, c0_4v, c0_5v, c0_6v, c0_7v, c0_8v, c0_9v, c0_10v, c0_11v, c0_12v, c0_13v] : List Value).drop 0).take (Try.prog.cellsOf 3)) = some y := hg0 0 _ rfl
  rw [Nhg0_0] at ehg0_0
  obtain ⟨a0_0, K0_0, hq0_0⟩ := (opens_int Try.underlying3) H enc W 0 (fun _ => true) true n0 [c0_0v] _ ehg0_0
  obtain rfl := (List.cons.inj K0_0).1
  have Nhg0_1 : Try.prog.cellsOf 3 = 1 := by kernel_rfl
  obtain ⟨yhg0_1, ehg0_1⟩ : ∃ y, DataW.trod enc Try.prog W 0 (fun _ => true) true n0 3 ((([(.int .i64 a0_0), c0_1v, c0_2v, c0_3v, c0_4v, c0_5v, c0_6v, c0_7v, c0_8v, c0_9v, c0_10v, c0_11v, c0_12v, c0_13v] : List Value).drop 1).take (Try.prog.cellsOf 3)) = some y := hg0 1 _ rfl
  rw [Nhg0_1] at ehg0_1
  obtain ⟨a0_1, K0_1, hq0_1⟩ := (opens_int Try.underlying3) H enc W 0 (fun _ => true) true n0 [c0_1v] _ ehg0_1
  obtain rfl := (List.cons.inj K0_1).1
  have Nhg0_2 : Try.prog.cellsOf 24 = 4 := by kernel_rfl
  obtain ⟨yhg0_2, ehg0_2⟩ : ∃ y, DataW.trod enc Try.prog W 0 (fun _ => true) true n0 24 ((([(.int .i64 a0_0), (.int .i64 a0_1), c0_2v, c0_3v, c0_4v, c0_5v, c0_6v, c0_7v, c0_8v, c0_9v, c0_10v, c0_11v, c0_12v, c0_13v] : List Value).drop 2).take (Try.prog.cellsOf 24)) = some y := hg0 2 _ rfl
  rw [Nhg0_2] at ehg0_2
  obtain ⟨_, nhg0_2, ghg0_2⟩ := field_of (cs := [c0_2v, c0_3v, c0_4v, c0_5v]) Try.underlying24 ehg0_2
  have Nghg0_2_0 : Try.prog.cellsOf 3 = 1 := by kernel_rfl
  obtain ⟨yghg0_2_0, eghg0_2_0⟩ : ∃ y, DataW.trod enc Try.prog W 0 (fun _ => true) true nhg0_2 3 ((([c0_2v, c0_3v, c0_4v, c0_5v] : List Value).drop 0).take (Try.prog.cellsOf 3)) = some y := ghg0_2 0 _ rfl
  rw [Nghg0_2_0] at eghg0_2_0
  obtain ⟨a0_2, K0_2, hq0_2⟩ := (opens_int Try.underlying3) H enc W 0 (fun _ => true) true nhg0_2 [c0_2v] _ eghg0_2_0
  obtain rfl := (List.cons.inj K0_2).1
  have Nghg0_2_1 : Try.prog.cellsOf 3 = 1 := by kernel_rfl
  obtain ⟨yghg0_2_1, eghg0_2_1⟩ : ∃ y, DataW.trod enc Try.prog W 0 (fun _ => true) true nhg0_2 3 ((([(.int .i64 a0_2), c0_3v, c0_4v, c0_5v] : List Value).drop 1).take (Try.prog.cellsOf 3)) = some y := ghg0_2 1 _ rfl
  rw [Nghg0_2_1] at eghg0_2_1
  obtain ⟨a0_3, K0_3, hq0_3⟩ := (opens_int Try.underlying3) H enc W 0 (fun _ => true) true nhg0_2 [c0_3v] _ eghg0_2_1
  obtain rfl := (List.cons.inj K0_3).1
  have Nghg0_2_2 : Try.prog.cellsOf 3 = 1 := by kernel_rfl
  obtain ⟨yghg0_2_2, eghg0_2_2⟩ : ∃ y, DataW.trod enc Try.prog W 0 (fun _ => true) true nhg0_2 3 ((([(.int .i64 a0_2), (.int .i64 a0_3), c0_4v, c0_5v] : List Value).drop 2).take (Try.prog.cellsOf 3)) = some y := ghg0_2 2 _ rfl
  rw [Nghg0_2_2] at eghg0_2_2
  obtain ⟨a0_4, K0_4, hq0_4⟩ := (opens_int Try.underlying3) H enc W 0 (fun _ => true) true nhg0_2 [c0_4v] _ eghg0_2_2
  obtain rfl := (List.cons.inj K0_4).1
  have Nghg0_2_3 : Try.prog.cellsOf 22 = 1 := by kernel_rfl
  obtain ⟨yghg0_2_3, eghg0_2_3⟩ : ∃ y, DataW.trod enc Try.prog W 0 (fun _ => true) true nhg0_2 22 ((([(.int .i64 a0_2), (.int .i64 a0_3), (.int .i64 a0_4), c0_5v] : List Value).drop 3).take (Try.prog.cellsOf 22)) = some y := ghg0_2 3 _ rfl
  rw [Nghg0_2_3] at eghg0_2_3
  obtain ⟨l0_5, K0_5, hq0_5⟩ := (opens_slice Try.underlying22 (by kernel_rfl) opens67) H enc W 0 (fun _ => true) true nhg0_2 [c0_5v] _ eghg0_2_3
  obtain ⟨A0_5, c0_5, E0_5, hc0_5, hr0_5⟩ := K0_5
  obtain rfl := (List.cons.inj E0_5).1
  have Nhg0_3 : Try.prog.cellsOf 26 = 5 := by kernel_rfl
  obtain ⟨yhg0_3, ehg0_3⟩ : ∃ y, DataW.trod enc Try.prog W 0 (fun _ => true) true n0 26 ((([(.int .i64 a0_0), (.int .i64 a0_1), (.int .i64 a0_2), (.int .i64 a0_3), (.int .i64 a0_4), (.slice A0_5 l0_5.length c0_5), c0_6v, c0_7v, c0_8v, c0_9v, c0_10v, c0_11v, c0_12v, c0_13v] : List Value).drop 6).take (Try.prog.cellsOf 26)) = some y := hg0 3 _ rfl
  rw [Nhg0_3] at ehg0_3
  obtain ⟨_, nhg0_3, ghg0_3⟩ := field_of (cs := [c0_6v, c0_7v, c0_8v, c0_9v, c0_10v]) Try.underlying26 ehg0_3
  have Nghg0_3_0 : Try.prog.cellsOf 9 = 1 := by kernel_rfl
  obtain ⟨yghg0_3_0, eghg0_3_0⟩ : ∃ y, DataW.trod enc Try.prog W 0 (fun _ => true) true nhg0_3 9 ((([c0_6v, c0_7v, c0_8v, c0_9v, c0_10v] : List Value).drop 0).take (Try.prog.cellsOf 9)) = some y := ghg0_3 0 _ rfl
  rw [Nghg0_3_0] at eghg0_3_0
  obtain ⟨a0_6, K0_6, hq0_6⟩ := (opens_string Try.underlying9) H enc W 0 (fun _ => true) true nhg0_3 [c0_6v] _ eghg0_3_0
  obtain rfl := (List.cons.inj K0_6).1
  have Nghg0_3_1 : Try.prog.cellsOf 3 = 1 := by kernel_rfl
  obtain ⟨yghg0_3_1, eghg0_3_1⟩ : ∃ y, DataW.trod enc Try.prog W 0 (fun _ => true) true nhg0_3 3 ((([(.string a0_6), c0_7v, c0_8v, c0_9v, c0_10v] : List Value).drop 1).take (Try.prog.cellsOf 3)) = some y := ghg0_3 1 _ rfl
  rw [Nghg0_3_1] at eghg0_3_1
  obtain ⟨a0_7, K0_7, hq0_7⟩ := (opens_int Try.underlying3) H enc W 0 (fun _ => true) true nhg0_3 [c0_7v] _ eghg0_3_1
  obtain rfl := (List.cons.inj K0_7).1
  have Nghg0_3_2 : Try.prog.cellsOf 3 = 1 := by kernel_rfl
  obtain ⟨yghg0_3_2, eghg0_3_2⟩ : ∃ y, DataW.trod enc Try.prog W 0 (fun _ => true) true nhg0_3 3 ((([(.string a0_6), (.int .i64 a0_7), c0_8v, c0_9v, c0_10v] : List Value).drop 2).take (Try.prog.cellsOf 3)) = some y := ghg0_3 2 _ rfl
  rw [Nghg0_3_2] at eghg0_3_2
  obtain ⟨a0_8, K0_8, hq0_8⟩ := (opens_int Try.underlying3) H enc W 0 (fun _ => true) true nhg0_3 [c0_8v] _ eghg0_3_2
  obtain rfl := (List.cons.inj K0_8).1
  have Nghg0_3_3 : Try.prog.cellsOf 3 = 1 := by kernel_rfl
  obtain ⟨yghg0_3_3, eghg0_3_3⟩ : ∃ y, DataW.trod enc Try.prog W 0 (fun _ => true) true nhg0_3 3 ((([(.string a0_6), (.int .i64 a0_7), (.int .i64 a0_8), c0_9v, c0_10v] : List Value).drop 3).take (Try.prog.cellsOf 3)) = some y := ghg0_3 3 _ rfl
  rw [Nghg0_3_3] at eghg0_3_3
  obtain ⟨a0_9, K0_9, hq0_9⟩ := (opens_int Try.underlying3) H enc W 0 (fun _ => true) true nhg0_3 [c0_9v] _ eghg0_3_3
  obtain rfl := (List.cons.inj K0_9).1
  have Nghg0_3_4 : Try.prog.cellsOf 9 = 1 := by kernel_rfl
  obtain ⟨yghg0_3_4, eghg0_3_4⟩ : ∃ y, DataW.trod enc Try.prog W 0 (fun _ => true) true nhg0_3 9 ((([(.string a0_6), (.int .i64 a0_7), (.int .i64 a0_8), (.int .i64 a0_9), c0_10v] : List Value).drop 4).take (Try.prog.cellsOf 9)) = some y := ghg0_3 4 _ rfl
  rw [Nghg0_3_4] at eghg0_3_4
  obtain ⟨a0_10, K0_10, hq0_10⟩ := (opens_string Try.underlying9) H enc W 0 (fun _ => true) true nhg0_3 [c0_10v] _ eghg0_3_4
  obtain rfl := (List.cons.inj K0_10).1
  have Nhg0_4 : Try.prog.cellsOf 9 = 1 := by kernel_rfl
  obtain ⟨yhg0_4, ehg0_4⟩ : ∃ y, DataW.trod enc Try.prog W 0 (fun _ => true) true n0 9 ((([(.int .i64 a0_0), (.int .i64 a0_1), (.int .i64 a0_2), (.int .i64 a0_3), (.int .i64 a0_4), (.slice A0_5 l0_5.length c0_5), (.string a0_6), (.int .i64 a0_7), (.int .i64 a0_8), (.int .i64 a0_9), (.string a0_10), c0_11v, c0_12v, c0_13v] : List Value).drop 11).take (Try.prog.cellsOf 9)) = some y := hg0 4 _ rfl
  rw [Nhg0_4] at ehg0_4
  obtain ⟨a0_11, K0_11, hq0_11⟩ := (opens_string Try.underlying9) H enc W 0 (fun _ => true) true n0 [c0_11v] _ ehg0_4
  obtain rfl := (List.cons.inj K0_11).1
  have Nhg0_5 : Try.prog.cellsOf 3 = 1 := by kernel_rfl
  obtain ⟨yhg0_5, ehg0_5⟩ : ∃ y, DataW.trod enc Try.prog W 0 (fun _ => true) true n0 3 ((([(.int .i64 a0_0), (.int .i64 a0_1), (.int .i64 a0_2), (.int .i64 a0_3), (.int .i64 a0_4), (.slice A0_5 l0_5.length c0_5), (.string a0_6), (.int .i64 a0_7), (.int .i64 a0_8), (.int .i64 a0_9), (.string a0_10), (.string a0_11), c0_12v, c0_13v] : List Value).drop 12).take (Try.prog.cellsOf 3)) = some y := hg0 5 _ rfl
  rw [Nhg0_5] at ehg0_5
  obtain ⟨a0_12, K0_12, hq0_12⟩ := (opens_int Try.underlying3) H enc W 0 (fun _ => true) true n0 [c0_12v] _ ehg0_5
  obtain rfl := (List.cons.inj K0_12).1
  have Nhg0_6 : Try.prog.cellsOf 3 = 1 := by kernel_rfl
  obtain ⟨yhg0_6, ehg0_6⟩ : ∃ y, DataW.trod enc Try.prog W 0 (fun _ => true) true n0 3 ((([(.int .i64 a0_0), (.int .i64 a0_1), (.int .i64 a0_2), (.int .i64 a0_3), (.int .i64 a0_4), (.slice A0_5 l0_5.length c0_5), (.string a0_6), (.int .i64 a0_7), (.int .i64 a0_8), (.int .i64 a0_9), (.string a0_10), (.string a0_11), (.int .i64 a0_12), c0_13v] : List Value).drop 13).take (Try.prog.cellsOf 3)) = some y := hg0 6 _ rfl
  rw [Nhg0_6] at ehg0_6
  obtain ⟨a0_13, K0_13, hq0_13⟩ := (opens_int Try.underlying3) H enc W 0 (fun _ => true) true n0 [c0_13v] _ ehg0_6
  obtain rfl := (List.cons.inj K0_13).1
  obtain ⟨a1, rfl, rfl, rfl, hq1⟩ := open_int Try.underlying3 (hval 1 3 v1 rfl rfl) h1
  clear hA0 hval0 hsz0 hsz
  refine (recordCut_walk a0_0 a0_1 a0_2 a0_3 a0_4 A0_5 c0_5 l0_5 a0_6 a0_7 a0_8 a0_9 a0_10 a0_11 a0_12 a0_13 a1 W hq0_0 hq0_1 hq0_2 hq0_3 hq0_4 hr0_5 hc0_5 hq0_5 hq0_6 hq0_7 hq0_8 hq0_9 hq0_10 hq0_11 hq0_12 hq0_13 hq1).mono fun e W' ⟨he, bel⟩ => ?_
  subst he
  exact ⟨_, rfl, _, _, _, [], _, [], hW', trodAll_mk1 (shut_bool Try.underlying4 _), (trodAll_cons_mk (Below.trod laidOut (by kernel_rfl) (of_decide_eq_true (by kernel_rfl)) k0 bel lt0) (trodAll_cons_mk (shut_int Try.underlying3 hq1) trodAll_mk0)), rfl, bel.frame _, fun h => by cases h⟩
theorem over : Rows.recordCutRow.holds Try.pinned (OpenSpec.ofChange Rows.recordCutSpec) :=
  OpenClaim.holds_of_wide 8 Try.f8 rfl rfl rfl rfl rfl rfl rfl ⟨rfl, rfl, rfl, rfl, rfl⟩ rfl rfl rfl rfl rfl (by kernel_rfl) Try.func8 (by kernel_rfl)
    (of_decide_eq_true (by kernel_rfl)) (by unfold Func.isWrapper; first | (rw [if_pos (by decide +kernel)]; kernel_rfl) | (rw [if_neg (by decide +kernel)]; exact ⟨rfl, rfl⟩))
    (fun os started H enc _ => lifted os started H enc)
theorem proved : Rows.RecordCutSaid := over
#print axioms proved
end Go.Proofs.Ytkceobahefjlnaa.recordCut
namespace Go.Proofs.Ytkceobahefjlnaa
/-- The row, under a short name, for the claim. -/
theorem recordCut_holds : Rows.RecordCutSaid := recordCut.proved
end Go.Proofs.Ytkceobahefjlnaa
