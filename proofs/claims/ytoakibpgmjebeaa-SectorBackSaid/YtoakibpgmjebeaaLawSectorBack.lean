/- sluicegate/sluicegatelaw07.SectorBack: for every input the law returns true, and each argument reads behind the call as it read before. No condition. (The row, written by a program of this session, which drives print.py.) -/
import Derived.Test.YtoakibpgmjebeaaRows
import Derived.Test.YtoakibpgmjebeaaOpen
import Derived.Test.YtoakibpgmjebeaaWalk07Back
import Derived.WalkKit
import Derived.ProofKit
import Derived.OpenShut
import Derived.ShutString
import Derived.ChangeOld
import Derived.Below
import Derived.SizedLaws
import Derived.Carry
namespace Go.Proofs.Ytoakibpgmjebeaa.sectorBack
open Go.ChangeShapes Go.WideShapes Go.ChangeAt Go.RowKit Go.Proofs.YtoakibpgmjebeaaW.PrintWords Go.Proofs.Ytoakibpgmjebeaa.Q
open Go.ChangeMaps (open_string shut_string)
set_option linter.unusedVariables false
theorem own : ownKnob Try.prog.godebug = none := by kernel_rfl
theorem laidOut : laidOutB Try.prog = true := by kernel_rfl
def Q23 (x : S23) : Prop := ((Lit.int .i64 x.f0).wf = true) ∧ ((Lit.int .i64 x.f1).wf = true)
instance : Inhabited S23 := ⟨⟨default, default⟩⟩
theorem opens23 : Opens Try.prog 23 k23 Q23 := by
  intro H enc w base spare held fuel cs x h
  obtain ⟨hl, n, hf⟩ := field_of Try.underlying23 h
  have hl : cs.length = 2 := hl.trans (by kernel_rfl)
  obtain ⟨c0, r0, rfl, hl0⟩ := list_succ hl
  obtain ⟨c1, r1, rfl, hl1⟩ := list_succ hl0
  obtain rfl := list_zero hl1
  have n0 : Try.prog.cellsOf 3 = 1 := by kernel_rfl
  obtain ⟨y0, e0⟩ : ∃ y, DataW.trod enc Try.prog w base spare held n 3 ((([c0, c1] : List Value).drop 0).take (Try.prog.cellsOf 3)) = some y := hf 0 _ rfl
  rw [n0] at e0
  obtain ⟨x0, K0, q0⟩ := (opens_int Try.underlying3) H enc w base spare held n [c0] y0 e0
  have n1 : Try.prog.cellsOf 3 = 1 := by kernel_rfl
  obtain ⟨y1, e1⟩ : ∃ y, DataW.trod enc Try.prog w base spare held n 3 ((([c0, c1] : List Value).drop 1).take (Try.prog.cellsOf 3)) = some y := hf 1 _ rfl
  rw [n1] at e1
  obtain ⟨x1, K1, q1⟩ := (opens_int Try.underlying3) H enc w base spare held n [c1] y1 e1
  exact ⟨⟨x0, x1⟩, ⟨[c0], [c1], rfl, K0, K1⟩, ⟨q0, q1⟩⟩
set_option maxRecDepth 100000 in
theorem lifted (os : Os) (started : os.Started) (H : Type) (enc : TypeId × Value → H) :
    ReturnsInHanded {} Try.checked os 6 .any (Rows.sectorBackSpec.pre6 enc Try.prog Try.f6 Rows.sectorBackRow.domain false) (Rows.sectorBackSpec.post enc Try.prog Try.f6 false true false false) := by
  refine returnsInHanded_of_change_sized (C := Try.checked) own started (by kernel_rfl) Try.func6
    (ChangeSpec.witness6 (enc := enc) (C := Try.checked) false ⟨#[], #[.agg #[.int .i64 0, .int .i64 0, .int .i64 0, .int .i64 0, .int .i64 0, .string ByteArray.empty], .agg #[.int .i64 0, .int .i64 0, .int .i64 0, .slice none 0 0], .int .i64 0], []⟩ 8 (by kernel_rfl) (by kernel_rfl) (by kernel_rfl) (by kernel_rfl)) ?_
  intro W base args ds gs before hval0 hW hcnd hsz0 _
  have hsz : (DataW.weightsEach Try.prog (Try.f6.params.toList ++ Rows.sectorBackSpec.plain.varTypes Try.prog) (ds ++ gs)).all (· ≤ reachBytes) = true := hsz0
  have hval : ∀ (j : Nat) t v, Try.f6.params[j]? = some t → args[j]? = some v → Value.okWide Try.prog W .any base t v := hval0
  have hW' := hW
  obtain ⟨p, q, hA0, hV, rfl, hfz, hnd⟩ := hW
  have hA : DataW.TrodAll enc Try.prog W 0 (fun _ => true) true Try.f6.params.toList args.toList ds p := hA0
  rw [Try.params6] at hA hval hsz
  obtain ⟨v0, vs0, d0, ds0, p0, q0, hargs, rfl, rfl, h0, r0⟩ := trodAll_cons hA
  obtain ⟨v1, vs1, d1, ds1, p1, q1, rfl, rfl, rfl, h1, r1⟩ := trodAll_cons r0
  obtain ⟨v2, vs2, d2, ds2, p2, q2, rfl, rfl, rfl, h2, r2⟩ := trodAll_cons r1
  obtain ⟨rfl, rfl, rfl⟩ := trodAll_nil r2
  obtain rfl : args = #[v0, v1, v2] := by cases args; simp_all
  obtain ⟨rfl, rfl⟩ := trodVars_none hV
  have k0 := h0
  have lt0 : ∀ x ∈ p0, x.block < W.heap.size := by obtain ⟨m, hm⟩ := k0; exact DataW.trod_lt m _ _ _ hm
  obtain ⟨fu0, hf0⟩ := h0
  obtain ⟨cs0, rfl, _⟩ := okWide_struct Try.underlying25 (hval 0 25 v0 rfl rfl)
  have hf0 : DataW.trod enc Try.prog W 0 (fun _ => true) true fu0 25 cs0.toList = some _ := hf0
  obtain ⟨hl0, n0, hg0⟩ := field_of Try.underlying25 hf0
  have hl0 : cs0.toList.length = 6 := hl0.trans (by kernel_rfl)
  obtain ⟨L0, EL0⟩ : ∃ L, cs0.toList = L := ⟨_, rfl⟩
  rw [EL0] at hl0 hg0
  obtain ⟨c0_0v, R0_0, rfl, hl0_0⟩ := list_succ hl0
  obtain ⟨c0_1v, R0_1, rfl, hl0_1⟩ := list_succ hl0_0
  obtain ⟨c0_2v, R0_2, rfl, hl0_2⟩ := list_succ hl0_1
  obtain ⟨c0_3v, R0_3, rfl, hl0_3⟩ := list_succ hl0_2
  obtain ⟨c0_4v, R0_4, rfl, hl0_4⟩ := list_succ hl0_3
  obtain ⟨c0_5v, R0_5, rfl, hl0_5⟩ := list_succ hl0_4
  obtain rfl := list_zero hl0_5
  obtain rfl := arr_of_list EL0
  clear EL0
  have Nhg0_0 : Try.prog.cellsOf 3 = 1 := by kernel_rfl
  obtain ⟨yhg0_0, ehg0_0⟩ : ∃ y, DataW.trod enc Try.prog W 0 (fun _ => true) true n0 3 ((([c0_0v, c0_1v, c0_2v, c0_3v, c0_4v, c0_5v] : List Value).drop 0).take (Try.prog.cellsOf 3)) = some y := hg0 0 _ rfl
  rw [Nhg0_0] at ehg0_0
  obtain ⟨a0_0, K0_0, hq0_0⟩ := (opens_int Try.underlying3) H enc W 0 (fun _ => true) true n0 [c0_0v] _ ehg0_0
  obtain rfl := (List.cons.inj K0_0).1
  have Nhg0_1 : Try.prog.cellsOf 3 = 1 := by kernel_rfl
  obtain ⟨yhg0_1, ehg0_1⟩ : ∃ y, DataW.trod enc Try.prog W 0 (fun _ => true) true n0 3 ((([(.int .i64 a0_0), c0_1v, c0_2v, c0_3v, c0_4v, c0_5v] : List Value).drop 1).take (Try.prog.cellsOf 3)) = some y := hg0 1 _ rfl
  rw [Nhg0_1] at ehg0_1
  obtain ⟨a0_1, K0_1, hq0_1⟩ := (opens_int Try.underlying3) H enc W 0 (fun _ => true) true n0 [c0_1v] _ ehg0_1
  obtain rfl := (List.cons.inj K0_1).1
  have Nhg0_2 : Try.prog.cellsOf 3 = 1 := by kernel_rfl
  obtain ⟨yhg0_2, ehg0_2⟩ : ∃ y, DataW.trod enc Try.prog W 0 (fun _ => true) true n0 3 ((([(.int .i64 a0_0), (.int .i64 a0_1), c0_2v, c0_3v, c0_4v, c0_5v] : List Value).drop 2).take (Try.prog.cellsOf 3)) = some y := hg0 2 _ rfl
  rw [Nhg0_2] at ehg0_2
  obtain ⟨a0_2, K0_2, hq0_2⟩ := (opens_int Try.underlying3) H enc W 0 (fun _ => true) true n0 [c0_2v] _ ehg0_2
  obtain rfl := (List.cons.inj K0_2).1
  have Nhg0_3 : Try.prog.cellsOf 23 = 2 := by kernel_rfl
  obtain ⟨yhg0_3, ehg0_3⟩ : ∃ y, DataW.trod enc Try.prog W 0 (fun _ => true) true n0 23 ((([(.int .i64 a0_0), (.int .i64 a0_1), (.int .i64 a0_2), c0_3v, c0_4v, c0_5v] : List Value).drop 3).take (Try.prog.cellsOf 23)) = some y := hg0 3 _ rfl
  rw [Nhg0_3] at ehg0_3
  obtain ⟨_, nhg0_3, ghg0_3⟩ := field_of (cs := [c0_3v, c0_4v]) Try.underlying23 ehg0_3
  have Nghg0_3_0 : Try.prog.cellsOf 3 = 1 := by kernel_rfl
  obtain ⟨yghg0_3_0, eghg0_3_0⟩ : ∃ y, DataW.trod enc Try.prog W 0 (fun _ => true) true nhg0_3 3 ((([c0_3v, c0_4v] : List Value).drop 0).take (Try.prog.cellsOf 3)) = some y := ghg0_3 0 _ rfl
  rw [Nghg0_3_0] at eghg0_3_0
  obtain ⟨a0_3, K0_3, hq0_3⟩ := (opens_int Try.underlying3) H enc W 0 (fun _ => true) true nhg0_3 [c0_3v] _ eghg0_3_0
  obtain rfl := (List.cons.inj K0_3).1
  have Nghg0_3_1 : Try.prog.cellsOf 3 = 1 := by kernel_rfl
  obtain ⟨yghg0_3_1, eghg0_3_1⟩ : ∃ y, DataW.trod enc Try.prog W 0 (fun _ => true) true nhg0_3 3 ((([(.int .i64 a0_3), c0_4v] : List Value).drop 1).take (Try.prog.cellsOf 3)) = some y := ghg0_3 1 _ rfl
  rw [Nghg0_3_1] at eghg0_3_1
  obtain ⟨a0_4, K0_4, hq0_4⟩ := (opens_int Try.underlying3) H enc W 0 (fun _ => true) true nhg0_3 [c0_4v] _ eghg0_3_1
  obtain rfl := (List.cons.inj K0_4).1
  have Nhg0_4 : Try.prog.cellsOf 9 = 1 := by kernel_rfl
  obtain ⟨yhg0_4, ehg0_4⟩ : ∃ y, DataW.trod enc Try.prog W 0 (fun _ => true) true n0 9 ((([(.int .i64 a0_0), (.int .i64 a0_1), (.int .i64 a0_2), (.int .i64 a0_3), (.int .i64 a0_4), c0_5v] : List Value).drop 5).take (Try.prog.cellsOf 9)) = some y := hg0 4 _ rfl
  rw [Nhg0_4] at ehg0_4
  obtain ⟨a0_5, K0_5, hq0_5⟩ := (opens_string Try.underlying9) H enc W 0 (fun _ => true) true n0 [c0_5v] _ ehg0_4
  obtain rfl := (List.cons.inj K0_5).1
  have k1 := h1
  have lt1 : ∀ x ∈ p1, x.block < W.heap.size := by obtain ⟨m, hm⟩ := k1; exact DataW.trod_lt m _ _ _ hm
  obtain ⟨fu1, hf1⟩ := h1
  obtain ⟨cs1, rfl, _⟩ := okWide_struct Try.underlying36 (hval 1 36 v1 rfl rfl)
  have hf1 : DataW.trod enc Try.prog W 0 (fun _ => true) true fu1 36 cs1.toList = some _ := hf1
  obtain ⟨hl1, n1, hg1⟩ := field_of Try.underlying36 hf1
  have hl1 : cs1.toList.length = 4 := hl1.trans (by kernel_rfl)
  obtain ⟨L1, EL1⟩ : ∃ L, cs1.toList = L := ⟨_, rfl⟩
  rw [EL1] at hl1 hg1
  obtain ⟨c1_0v, R1_0, rfl, hl1_0⟩ := list_succ hl1
  obtain ⟨c1_1v, R1_1, rfl, hl1_1⟩ := list_succ hl1_0
  obtain ⟨c1_2v, R1_2, rfl, hl1_2⟩ := list_succ hl1_1
  obtain ⟨c1_3v, R1_3, rfl, hl1_3⟩ := list_succ hl1_2
  obtain rfl := list_zero hl1_3
  obtain rfl := arr_of_list EL1
  clear EL1
  have Nhg1_0 : Try.prog.cellsOf 3 = 1 := by kernel_rfl
  obtain ⟨yhg1_0, ehg1_0⟩ : ∃ y, DataW.trod enc Try.prog W 0 (fun _ => true) true n1 3 ((([c1_0v, c1_1v, c1_2v, c1_3v] : List Value).drop 0).take (Try.prog.cellsOf 3)) = some y := hg1 0 _ rfl
  rw [Nhg1_0] at ehg1_0
  obtain ⟨a1_0, K1_0, hq1_0⟩ := (opens_int Try.underlying3) H enc W 0 (fun _ => true) true n1 [c1_0v] _ ehg1_0
  obtain rfl := (List.cons.inj K1_0).1
  have Nhg1_1 : Try.prog.cellsOf 3 = 1 := by kernel_rfl
  obtain ⟨yhg1_1, ehg1_1⟩ : ∃ y, DataW.trod enc Try.prog W 0 (fun _ => true) true n1 3 ((([(.int .i64 a1_0), c1_1v, c1_2v, c1_3v] : List Value).drop 1).take (Try.prog.cellsOf 3)) = some y := hg1 1 _ rfl
  rw [Nhg1_1] at ehg1_1
  obtain ⟨a1_1, K1_1, hq1_1⟩ := (opens_int Try.underlying3) H enc W 0 (fun _ => true) true n1 [c1_1v] _ ehg1_1
  obtain rfl := (List.cons.inj K1_1).1
  have Nhg1_2 : Try.prog.cellsOf 3 = 1 := by kernel_rfl
  obtain ⟨yhg1_2, ehg1_2⟩ : ∃ y, DataW.trod enc Try.prog W 0 (fun _ => true) true n1 3 ((([(.int .i64 a1_0), (.int .i64 a1_1), c1_2v, c1_3v] : List Value).drop 2).take (Try.prog.cellsOf 3)) = some y := hg1 2 _ rfl
  rw [Nhg1_2] at ehg1_2
  obtain ⟨a1_2, K1_2, hq1_2⟩ := (opens_int Try.underlying3) H enc W 0 (fun _ => true) true n1 [c1_2v] _ ehg1_2
  obtain rfl := (List.cons.inj K1_2).1
  have Nhg1_3 : Try.prog.cellsOf 34 = 1 := by kernel_rfl
  obtain ⟨yhg1_3, ehg1_3⟩ : ∃ y, DataW.trod enc Try.prog W 0 (fun _ => true) true n1 34 ((([(.int .i64 a1_0), (.int .i64 a1_1), (.int .i64 a1_2), c1_3v] : List Value).drop 3).take (Try.prog.cellsOf 34)) = some y := hg1 3 _ rfl
  rw [Nhg1_3] at ehg1_3
  obtain ⟨l1_3, K1_3, hq1_3⟩ := (opens_slice Try.underlying34 (by kernel_rfl) opens23) H enc W 0 (fun _ => true) true n1 [c1_3v] _ ehg1_3
  obtain ⟨A1_3, c1_3, E1_3, hc1_3, hr1_3⟩ := K1_3
  obtain rfl := (List.cons.inj E1_3).1
  obtain ⟨a2, rfl, rfl, rfl, hq2⟩ := open_int Try.underlying3 (hval 2 3 v2 rfl rfl) h2
  clear hA0 hval0 hsz0 hsz
  refine (sectorBack_walk a0_0 a0_1 a0_2 a0_3 a0_4 a0_5 a1_0 a1_1 a1_2 A1_3 c1_3 l1_3 a2 W hq0_0 hq0_1 hq0_2 hq0_3 hq0_4 hq0_5 hq1_0 hq1_1 hq1_2 hr1_3 hc1_3 hq1_3 hq2).mono fun e W' ⟨he, bel⟩ => ?_
  subst he
  exact ⟨_, rfl, _, _, _, [], _, [], hW', trodAll_mk1 (shut_bool Try.underlying4 _), (trodAll_cons_mk (Below.trod laidOut (by kernel_rfl) (of_decide_eq_true (by kernel_rfl)) k0 bel lt0) (trodAll_cons_mk (Below.trod laidOut (by kernel_rfl) (of_decide_eq_true (by kernel_rfl)) k1 bel lt1) (trodAll_cons_mk (shut_int Try.underlying3 hq2) trodAll_mk0))), rfl, bel.frame _, fun h => by cases h⟩
theorem over : Rows.sectorBackRow.holds Try.pinned (OpenSpec.ofChange Rows.sectorBackSpec) :=
  OpenClaim.holds_of_wide 6 Try.f6 rfl rfl rfl rfl rfl rfl rfl ⟨rfl, rfl, rfl, rfl, rfl⟩ rfl rfl rfl rfl rfl (by kernel_rfl) Try.func6 (by kernel_rfl)
    (of_decide_eq_true (by kernel_rfl)) (by unfold Func.isWrapper; first | (rw [if_pos (by decide +kernel)]; kernel_rfl) | (rw [if_neg (by decide +kernel)]; exact ⟨rfl, rfl⟩))
    (fun os started H enc _ => lifted os started H enc)
theorem proved : Rows.SectorBackSaid := over
#print axioms proved
end Go.Proofs.Ytoakibpgmjebeaa.sectorBack
namespace Go.Proofs.Ytoakibpgmjebeaa
/-- The row, under a short name, for the claim. -/
theorem sectorBack_holds : Rows.SectorBackSaid := sectorBack.proved
end Go.Proofs.Ytoakibpgmjebeaa
