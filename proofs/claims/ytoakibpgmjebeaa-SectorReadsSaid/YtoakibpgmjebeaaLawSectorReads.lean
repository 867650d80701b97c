/- sluicegate/sluicegatelaw07.SectorReads: for every input the law returns true, and each argument reads behind the call as it read before. No condition. (The row, written by a program of this session, which drives print.py.) -/
import Derived.Test.YtoakibpgmjebeaaRows
import Derived.Test.YtoakibpgmjebeaaOpen
import Derived.Test.YtoakibpgmjebeaaQx9
import Derived.Test.YtoakibpgmjebeaaPureSectorReads
import Derived.WalkKit
import Derived.ProofKit
import Derived.OpenShut
import Derived.ShutString
import Derived.ChangeOld
import Derived.Below
import Derived.SizedLaws
import Derived.Carry
namespace Go.Proofs.Ytoakibpgmjebeaa.sectorReads
open Go.ChangeShapes Go.WideShapes Go.ChangeAt Go.RowKit Go.Proofs.YtoakibpgmjebeaaW.PrintWords Go.Proofs.Ytoakibpgmjebeaa.Q
open Go.ChangeMaps (open_string shut_string)
set_option linter.unusedVariables false
theorem own : ownKnob Try.prog.godebug = none := by kernel_rfl
theorem laidOut : laidOutB Try.prog = true := by kernel_rfl
def Q23 (x : S23) : Prop := ((Lit.int .i64 x.f0).wf = true) ∧ ((Lit.int .i64 x.f1).wf = true)
instance : Inhabited S23 := ⟨⟨default, default⟩⟩
theorem opens23 : Opens Try.prog 23 k23 Q23 := by
  intro H enc w base spare held fuel cs x h
  obtain ⟨hl, n, hf⟩ := field_of Try.underlying23 h
  have hl : cs.length = 2 := hl.trans (by kernel_rfl)
  obtain ⟨c0, r0, rfl, hl0⟩ := list_succ hl
  obtain ⟨c1, r1, rfl, hl1⟩ := list_succ hl0
  obtain rfl := list_zero hl1
  have n0 : Try.prog.cellsOf 3 = 1 := by kernel_rfl
  obtain ⟨y0, e0⟩ : ∃ y, DataW.trod enc Try.prog w base spare held n 3 ((([c0, c1] : List Value).drop 0).take (Try.prog.cellsOf 3)) = some y := hf 0 _ rfl
  rw [n0] at e0
  obtain ⟨x0, K0, q0⟩ := (opens_int Try.underlying3) H enc w base spare held n [c0] y0 e0
  have n1 : Try.prog.cellsOf 3 = 1 := by kernel_rfl
  obtain ⟨y1, e1⟩ : ∃ y, DataW.trod enc Try.prog w base spare held n 3 ((([c0, c1] : List Value).drop 1).take (Try.prog.cellsOf 3)) = some y := hf 1 _ rfl
  rw [n1] at e1
  obtain ⟨x1, K1, q1⟩ := (opens_int Try.underlying3) H enc w base spare held n [c1] y1 e1
  exact ⟨⟨x0, x1⟩, ⟨[c0], [c1], rfl, K0, K1⟩, ⟨q0, q1⟩⟩
theorem walk (a0 : ByteArray) (a1_0 : Int) (a1_1 : Int) (a1_2 : Int) (A1_3 : Option Addr) (c1_3 : Nat) (l1_3 : List (S23)) (a2 : Int) (w : World) (hq0 : a0.size ≤ 140737488351232) (hq1_0 : (Lit.int .i64 a1_0).wf = true) (hq1_1 : (Lit.int .i64 a1_1).wf = true) (hq1_2 : (Lit.int .i64 a1_2).wf = true) (hr1_3 : Kd.C k23 w A1_3 l1_3.length l1_3) (hc1_3 : l1_3.length ≤ c1_3) (hq1_3 : ∀ x_ ∈ l1_3, Q23 x_) (hq2 : (Lit.int .i64 a2).wf = true) :
    Calls Try.prog 4 #[.string a0, .agg #[.int .i64 a1_0, .int .i64 a1_1, .int .i64 a1_2, .slice A1_3 l1_3.length c1_3], .int .i64 a2] w fun e w' => e = .returned (.bool true) ∧ Below w.heap.size w w' := by
  obtain ⟨k, h⟩ := Pure.SectorReads a0 a1_0 a1_1 a1_2 l1_3 a2 hq0 hq1_0 hq1_1 hq1_2 hq1_3 hq2
  refine (sluicegatelaw07_SectorReads.calls k a0 a1_0 a1_1 a1_2 _ _ l1_3 a2 true w hr1_3 hc1_3 h).mono ?_
  rintro e w' ⟨rfl, hd⟩
  exact ⟨rfl, hd⟩
set_option maxRecDepth 100000 in
theorem lifted (os : Os) (started : os.Started) (H : Type) (enc : TypeId × Value → H) :
    ReturnsInHanded {} Try.checked os 4 .any (Rows.sectorReadsSpec.pre6 enc Try.prog Try.f4 Rows.sectorReadsRow.domain false) (Rows.sectorReadsSpec.post enc Try.prog Try.f4 false true false false) := by
  refine returnsInHanded_of_change_sized (C := Try.checked) own started (by kernel_rfl) Try.func4
    (ChangeSpec.witness6 (enc := enc) (C := Try.checked) false ⟨#[], #[.string ByteArray.empty, .agg #[.int .i64 0, .int .i64 0, .int .i64 0, .slice none 0 0], .int .i64 0], []⟩ 8 (by kernel_rfl) (by kernel_rfl) (by kernel_rfl) (by kernel_rfl)) ?_
  intro W base args ds gs before hval0 hW hcnd hsz0 _
  have hsz : (DataW.weightsEach Try.prog (Try.f4.params.toList ++ Rows.sectorReadsSpec.plain.varTypes Try.prog) (ds ++ gs)).all (· ≤ reachBytes) = true := hsz0
  have hval : ∀ (j : Nat) t v, Try.f4.params[j]? = some t → args[j]? = some v → Value.okWide Try.prog W .any base t v := hval0
  have hW' := hW
  obtain ⟨p, q, hA0, hV, rfl, hfz, hnd⟩ := hW
  have hA : DataW.TrodAll enc Try.prog W 0 (fun _ => true) true Try.f4.params.toList args.toList ds p := hA0
  rw [Try.params4] at hA hval hsz
  obtain ⟨v0, vs0, d0, ds0, p0, q0, hargs, rfl, rfl, h0, r0⟩ := trodAll_cons hA
  obtain ⟨v1, vs1, d1, ds1, p1, q1, rfl, rfl, rfl, h1, r1⟩ := trodAll_cons r0
  obtain ⟨v2, vs2, d2, ds2, p2, q2, rfl, rfl, rfl, h2, r2⟩ := trodAll_cons r1
  obtain ⟨rfl, rfl, rfl⟩ := trodAll_nil r2
  obtain rfl : args = #[v0, v1, v2] := by cases args; simp_all
  obtain ⟨rfl, rfl⟩ := trodVars_none hV
  obtain ⟨a0, rfl, rfl, rfl, y0⟩ := open_string Try.underlying9 (hval 0 9 v0 rfl rfl) h0
  have hq0 : a0.size ≤ 140737488351232 := by
    have z := sized_string hsz (j := 0) (t := 9) rfl rfl
    rw [Array.length_toList] at z
    exact z
  have k1 := h1
  have lt1 : ∀ x ∈ p1, x.block < W.heap.size := by obtain ⟨m, hm⟩ := k1; exact DataW.trod_lt m _ _ _ hm
  obtain ⟨fu1, hf1⟩ := h1
  obtain ⟨cs1, rfl, _⟩ := okWide_struct Try.underlying36 (hval 1 36 v1 rfl rfl)
  have hf1 : DataW.trod enc Try.prog W 0 (fun _ => true) true fu1 36 cs1.toList = some _ := hf1
  obtain ⟨hl1, n1, hg1⟩ := field_of Try.underlying36 hf1
  have hl1 : cs1.toList.length = 4 := hl1.trans (by kernel_rfl)
  obtain ⟨L1, EL1⟩ : ∃ L, cs1.toList = L := ⟨_, rfl⟩
  rw [EL1] at hl1 hg1
  obtain ⟨c1_0v, R1_0, rfl, hl1_0⟩ := list_succ hl1
  obtain ⟨c1_1v, R1_1, rfl, hl1_1⟩ := list_succ hl1_0
  obtain ⟨c1_2v, R1_2, rfl, hl1_2⟩ := list_succ hl1_1
  obtain ⟨c1_3v, R1_3, rfl, hl1_3⟩ := list_succ hl1_2
  obtain rfl := list_zero hl1_3
  obtain rfl := arr_of_list EL1
  clear EL1
  have Nhg1_0 : Try.prog.cellsOf 3 = 1 := by kernel_rfl
  obtain ⟨yhg1_0, ehg1_0⟩ : ∃ y, DataW.trod enc Try.prog W 0 (fun _ => true) true n1 3 ((([c1_0v, c1_1v, c1_2v, c1_3v] : List Value).drop 0).take (Try.prog.cellsOf 3)) = some y := hg1 0 _ rfl
  rw [Nhg1_0] at ehg1_0
  obtain ⟨a1_0, K1_0, hq1_0⟩ := (opens_int Try.underlying3) H enc W 0 (fun _ => true) true n1 [c1_0v] _ ehg1_0
  obtain rfl := (List.cons.inj K1_0).1
  have Nhg1_1 : Try.prog.cellsOf 3 = 1 := by kernel_rfl
  obtain ⟨yhg1_1, ehg1_1⟩ : ∃ y, DataW.trod enc Try.prog W 0 (fun _ => true) true n1 3 ((([(.int .i64 a1_0), c1_1v, c1_2v, c1_3v] : List Value).drop 1).take (Try.prog.cellsOf 3)) = some y := hg1 1 _ rfl
  rw [Nhg1_1] at ehg1_1
  obtain ⟨a1_1, K1_1, hq1_1⟩ := (opens_int Try.underlying3) H enc W 0 (fun _ => true) true n1 [c1_1v] _ ehg1_1
  obtain rfl := (List.cons.inj K1_1).1
  have Nhg1_2 : Try.prog.cellsOf 3 = 1 := by kernel_rfl
  obtain ⟨yhg1_2, ehg1_2⟩ : ∃ y, DataW.trod enc Try.prog W 0 (fun _ => true) true n1 3 ((([(.int .i64 a1_0), (.int .i64 a1_1), c1_2v, c1_3v] : List Value).drop 2).take (Try.prog.cellsOf 3)) = some y := hg1 2 _ rfl
  rw [Nhg1_2] at ehg1_2
  obtain ⟨a1_2, K1_2, hq1_2⟩ := (opens_int Try.underlying3) H enc W 0 (fun _ => true) true n1 [c1_2v] _ ehg1_2
  obtain rfl := (List.cons.inj K1_2).1
  have Nhg1_3 : Try.prog.cellsOf 34 = 1 := by kernel_rfl
  obtain ⟨yhg1_3, ehg1_3⟩ : ∃ y, DataW.trod enc Try.prog W 0 (fun _ => true) true n1 34 ((([(.int .i64 a1_0), (.int .i64 a1_1), (.int .i64 a1_2), c1_3v] : List Value).drop 3).take (Try.prog.cellsOf 34)) = some y := hg1 3 _ rfl
  rw [Nhg1_3] at ehg1_3
  obtain ⟨l1_3, K1_3, hq1_3⟩ := (opens_slice Try.underlying34 (by kernel_rfl) opens23) H enc W 0 (fun _ => true) true n1 [c1_3v] _ ehg1_3
  obtain ⟨A1_3, c1_3, E1_3, hc1_3, hr1_3⟩ := K1_3
  obtain rfl := (List.cons.inj E1_3).1
  obtain ⟨a2, rfl, rfl, rfl, hq2⟩ := open_int Try.underlying3 (hval 2 3 v2 rfl rfl) h2
  clear hA0 hval0 hsz0 hsz
  refine (walk a0 a1_0 a1_1 a1_2 A1_3 c1_3 l1_3 a2 W hq0 hq1_0 hq1_1 hq1_2 hr1_3 hc1_3 hq1_3 hq2).mono fun e W' ⟨he, bel⟩ => ?_
  subst he
  exact ⟨_, rfl, _, _, _, [], _, [], hW', trodAll_mk1 (shut_bool Try.underlying4 _), (trodAll_cons_mk (shut_string Try.underlying9 y0) (trodAll_cons_mk (Below.trod laidOut (by kernel_rfl) (of_decide_eq_true (by kernel_rfl)) k1 bel lt1) (trodAll_cons_mk (shut_int Try.underlying3 hq2) trodAll_mk0))), rfl, bel.frame _, fun h => by cases h⟩
theorem over : Rows.sectorReadsRow.holds Try.pinned (OpenSpec.ofChange Rows.sectorReadsSpec) :=
  OpenClaim.holds_of_wide 4 Try.f4 rfl rfl rfl rfl rfl rfl rfl ⟨rfl, rfl, rfl, rfl, rfl⟩ rfl rfl rfl rfl rfl (by kernel_rfl) Try.func4 (by kernel_rfl)
    (of_decide_eq_true (by kernel_rfl)) (by unfold Func.isWrapper; first | (rw [if_pos (by decide +kernel)]; kernel_rfl) | (rw [if_neg (by decide +kernel)]; exact ⟨rfl, rfl⟩))
    (fun os started H enc _ => lifted os started H enc)
theorem proved : Rows.SectorReadsSaid := over
#print axioms proved
end Go.Proofs.Ytoakibpgmjebeaa.sectorReads
namespace Go.Proofs.Ytoakibpgmjebeaa
/-- The row, under a short name, for the claim. -/
theorem sectorReads_holds : Rows.SectorReadsSaid := sectorReads.proved
end Go.Proofs.Ytoakibpgmjebeaa
