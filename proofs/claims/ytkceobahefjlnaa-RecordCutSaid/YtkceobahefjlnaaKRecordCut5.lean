/- Lemmas for the law RecordCut, merged out of several texts and cut down to what it names, by a program of this session (some of the first ones are of the words that print.sh wrote for this claim). -/
import Derived.Test.YtkceobahefjlnaaKRecordCut1
import Derived.Test.YtkceobahefjlnaaKRecordCut2
import Derived.Test.YtkceobahefjlnaaKRecordCut3
import Derived.Test.YtkceobahefjlnaaKRecordCut4
set_option linter.unusedVariables false
set_option linter.unusedSimpArgs false
section
/- Functions of the translation told as plain Lean functions, and that the calls come to just these. Written by a program of this session, which drives print.py; not a text of print.sh. -/
namespace Go.Proofs.Ytkceobahefjlnaa.Q
open Go.RowKit Go.Proofs.YtkceobahefjlnaaW.PrintWords Go.Proofs.YtkceobahefjlnaaW.PrintLast Go.Proofs.YtkceobahefjlnaaW.PrintMore
attribute [local go_sem] max2_int min2_int max_two min_two max_three min_three max_four min_four   -- for this text's walks alone
set_option linter.unusedVariables false
set_option linter.unusedSimpArgs false
/-! ### record_Read: function 19 -/
def record_Read.j0 : Nat → Bool → ByteArray → Int → Int → Int → Int → Int → Int → List (S67) → ByteArray → Int → Int → Int → ByteArray → ByteArray → Int → Int → Option (Int × Int × Int × Int × Int × (List (S67)) × ByteArray × Int × Int × Int × ByteArray × ByteArray × Int × Int × Int)
  | 0, _, _, _, _, _, _, _, _, _, _, _, _, _, _, _, _, _ => none
  | k + 1, x6, x180000, x180001, x187000, x187001, x187002, x187003, x187004, x187005, x187006, x187007, x187008, x187009, x187010, x187011, x187012, x187013 => if x6 = true then ((pack_Reader_End.f x180000 x180001).bind fun bt232 => (if bt232.1 = 0 then ((record_Check.f x187000 x187001 x187002 x187003 x187004 x187005 x187006 x187007 x187008 x187009 x187010 x187011 x187012 x187013).bind fun t235 => (if t235 = 0 then (some (x187000, x187001, x187002, x187003, x187004, x187005, x187006, x187007, x187008, x187009, x187010, x187011, x187012, x187013, 0)) else (some (0, 0, 0, 0, 0, ([] : List (S67)), (⟨#[]⟩ : ByteArray), 0, 0, 0, (⟨#[]⟩ : ByteArray), (⟨#[]⟩ : ByteArray), 0, 0, 4)))) else (some (0, 0, 0, 0, 0, ([] : List (S67)), (⟨#[]⟩ : ByteArray), 0, 0, 0, (⟨#[]⟩ : ByteArray), (⟨#[]⟩ : ByteArray), 0, 0, 4)))) else (some (0, 0, 0, 0, 0, ([] : List (S67)), (⟨#[]⟩ : ByteArray), 0, 0, 0, (⟨#[]⟩ : ByteArray), (⟨#[]⟩ : ByteArray), 0, 0, 4))
def record_Read.f (k : Nat) (a0 : ByteArray) : Option (Int × Int × Int × Int × Int × (List (S67)) × ByteArray × Int × Int × Int × ByteArray × ByteArray × Int × Int × Int) := (check_Open.f a0).bind fun bt173 => (if bt173.2 = 0 then ((strings_CutPrefix.f bt173.1 (⟨#[83, 74]⟩ : ByteArray)).bind fun bt175 => ((pack_Read.f bt175.1).bind fun bt177 => ((pack_Reader_Number.f k bt177.1 bt177.2).bind fun bt180 => ((pack_Reader_Number.f k bt180.2.1 bt180.2.2).bind fun bt183 => (if bt183.1 = 1 then ((pack_Reader_Text.f k bt183.2.1 bt183.2.2).bind fun bt187 => (record_Read.j0 k bt175.2 bt187.2.1 bt187.2.2 bt180.1 bt183.1 0 0 0 ([] : List (S67)) (⟨#[]⟩ : ByteArray) 0 0 0 (⟨#[]⟩ : ByteArray) bt187.1 0 0)) else (if bt183.1 = 0 then ((record_volume.f k bt183.2.1 bt183.2.2).bind fun bt190 => ((pack_Reader_Text.f k bt190.2.2.2.2.1 bt190.2.2.2.2.2).bind fun bt198 => ((pack_Reader_Number.f k bt198.2.1 bt198.2.2).bind fun bt201 => ((pack_Reader_Number.f k bt201.2.1 bt201.2.2).bind fun bt204 => ((pack_Reader_Rest.f bt204.2.1 bt204.2.2).bind fun bt207 => (record_Read.j0 k bt175.2 bt207.2.1 bt207.2.2 bt180.1 bt183.1 bt190.1 bt190.2.1 bt190.2.2.1 bt190.2.2.2.1 bt198.1 bt190.1 bt201.1 bt204.1 bt207.1 (⟨#[]⟩ : ByteArray) 0 0)))))) else (if bt183.1 = 2 then ((record_volume.f k bt183.2.1 bt183.2.2).bind fun bt210 => (record_Read.j0 k bt175.2 bt210.2.2.2.2.1 bt210.2.2.2.2.2 bt180.1 bt183.1 bt210.1 bt210.2.1 bt210.2.2.1 bt210.2.2.2.1 (⟨#[]⟩ : ByteArray) 0 0 0 (⟨#[]⟩ : ByteArray) (⟨#[]⟩ : ByteArray) 0 0)) else (if bt183.1 = 3 then ((record_volume.f k bt183.2.1 bt183.2.2).bind fun bt218 => ((pack_Reader_Number.f k bt218.2.2.2.2.1 bt218.2.2.2.2.2).bind fun bt226 => ((pack_Reader_Number.f k bt226.2.1 bt226.2.2).bind fun bt229 => (record_Read.j0 k bt175.2 bt229.2.1 bt229.2.2 bt180.1 bt183.1 bt218.1 bt218.2.1 bt218.2.2.1 bt218.2.2.2.1 (⟨#[]⟩ : ByteArray) 0 0 0 (⟨#[]⟩ : ByteArray) (⟨#[]⟩ : ByteArray) bt226.1 bt229.1)))) else (record_Read.j0 k bt175.2 bt183.2.1 bt183.2.2 bt180.1 bt183.1 0 0 0 ([] : List (S67)) (⟨#[]⟩ : ByteArray) 0 0 0 (⟨#[]⟩ : ByteArray) (⟨#[]⟩ : ByteArray) 0 0))))))))) else (some (0, 0, 0, 0, 0, ([] : List (S67)), (⟨#[]⟩ : ByteArray), 0, 0, 0, (⟨#[]⟩ : ByteArray), (⟨#[]⟩ : ByteArray), 0, 0, bt173.2)))
theorem record_Read.mono_l : ∀ k, (∀ y0 y1 y2 y3 y4 y5 y6 y7 y8 y9 y10 y11 y12 y13 y14 y15 y16, LeO (record_Read.j0 k y0 y1 y2 y3 y4 y5 y6 y7 y8 y9 y10 y11 y12 y13 y14 y15 y16) (record_Read.j0 (k + 1) y0 y1 y2 y3 y4 y5 y6 y7 y8 y9 y10 y11 y12 y13 y14 y15 y16))
  | 0 => fun _ _ _ _ _ _ _ _ _ _ _ _ _ _ _ _ _ r h => by simp [record_Read.j0] at h
  | k + 1 => by
    have ih0 := record_Read.mono_l k
    · intro y0 y1 y2 y3 y4 y5 y6 y7 y8 y9 y10 y11 y12 y13 y14 y15 y16
      unfold record_Read.j0
      repeat' first
      | (with_reducible exact ih0 _ _ _ _ _ _ _ _ _ _ _ _ _ _ _ _ _)
      | (with_reducible exact pack_Reader_Number.mono _ _ _)
      | (with_reducible exact pack_Reader_Text.mono _ _ _)
      | (with_reducible exact record_volume.mono _ _ _)
      | (with_reducible exact LeO.refl _)
      | (with_reducible exact LeO.none _)
      | (with_reducible refine LeO.ite ?_ ?_)
      | (with_reducible refine LeO.bind ?_ (fun _ => ?_))
      | exact ih0 _ _ _ _ _ _ _ _ _ _ _ _ _ _ _ _ _
      | exact pack_Reader_Number.mono _ _ _
      | exact pack_Reader_Text.mono _ _ _
      | exact record_volume.mono _ _ _
      | exact LeO.none _
      | refine LeO.ite ?_ ?_
      | refine LeO.bind ?_ (fun _ => ?_)
theorem record_Read.mono : ∀ a0 k, LeO (record_Read.f k a0) (record_Read.f (k + 1) a0) := by
  intro a0 k
  have ih0 := record_Read.mono_l k
  unfold record_Read.f
  repeat' first
      | (with_reducible exact ih0 _ _ _ _ _ _ _ _ _ _ _ _ _ _ _ _ _)
      | (with_reducible exact pack_Reader_Number.mono _ _ _)
      | (with_reducible exact pack_Reader_Text.mono _ _ _)
      | (with_reducible exact record_volume.mono _ _ _)
      | (with_reducible exact LeO.refl _)
      | (with_reducible exact LeO.none _)
      | (with_reducible refine LeO.ite ?_ ?_)
      | (with_reducible refine LeO.bind ?_ (fun _ => ?_))
      | exact ih0 _ _ _ _ _ _ _ _ _ _ _ _ _ _ _ _ _
      | exact pack_Reader_Number.mono _ _ _
      | exact pack_Reader_Text.mono _ _ _
      | exact record_volume.mono _ _ _
      | exact LeO.none _
      | refine LeO.ite ?_ ?_
      | refine LeO.bind ?_ (fun _ => ?_)
def record_Read.T12 : Bool × List (List Nat × List Nat) := (true, [([], []), ([0], [0]), ([], []), ([2], [2]), ([3], [3]), ([], []), ([5, 1], [5]), ([], []), ([7, 6], [7]), ([], []), ([9, 8], [9]), ([1, 4, 6, 8, 10], [1, 4, 6, 8, 10]), ([0, 1, 2, 3, 4, 5, 6, 7, 8, 9, 10, 11], []), ([12, 11, 10, 0, 1, 2, 3, 4, 5, 6, 7, 8, 9, 10, 11], [11, 12])])
def record_Read.B12 : List Nat := [0, 1, 0, 4, 12, 0, 35, 0, 227, 0, 995, 2047, 4095, 8191]
theorem record_Read.tab12 : rtab .any (opsOf Try.f19 12) = record_Read.T12 := by kernel_rfl
theorem record_Read.bits12 : waitsOk record_Read.T12.2 record_Read.B12 = true := by kernel_rfl
set_option maxHeartbeats 8000000 in
set_option maxRecDepth 100000 in
theorem record_Read.calls (k : Nat) (a0 : ByteArray) (r1 : Int) (r2 : Int) (r3 : Int) (r4 : Int) (r5 : Int) (r6 : List (S67)) (r7 : ByteArray) (r8 : Int) (r9 : Int) (r10 : Int) (r11 : ByteArray) (r12 : ByteArray) (r13 : Int) (r14 : Int) (r15 : Int) (w : World) (h : record_Read.f k a0 = some (r1, r2, r3, r4, r5, r6, r7, r8, r9, r10, r11, r12, r13, r14, r15)) :
    Calls Try.prog 19 #[.string a0] w fun e w' => ∃ v5_ : Value, e = .returned (.tuple #[.agg #[.int .i64 r1, .int .i64 r2, .int .i64 r3, .int .i64 r4, .int .i64 r5, v5_, .string r7, .int .i64 r8, .int .i64 r9, .int .i64 r10, .string r11, .string r12, .int .i64 r13, .int .i64 r14], .int .i64 r15]) ∧ Kd.R k67 67 w' w.heap.size (fun _ => True) v5_ r6 ∧ Below w.heap.size w w' := by
  have hu34 := Try.underlying34
  have hu24 := Try.underlying24
  have hu26 := Try.underlying26
  have HB := Aside0.mk (Below.refl w.heap.size w)
  have H : ((check_Open.f a0).bind fun bt173 => (if bt173.2 = 0 then ((strings_CutPrefix.f bt173.1 (⟨#[83, 74]⟩ : ByteArray)).bind fun bt175 => ((pack_Read.f bt175.1).bind fun bt177 => ((pack_Reader_Number.f k bt177.1 bt177.2).bind fun bt180 => ((pack_Reader_Number.f k bt180.2.1 bt180.2.2).bind fun bt183 => (if bt183.1 = 1 then ((pack_Reader_Text.f k bt183.2.1 bt183.2.2).bind fun bt187 => (record_Read.j0 k bt175.2 bt187.2.1 bt187.2.2 bt180.1 bt183.1 0 0 0 ([] : List (S67)) (⟨#[]⟩ : ByteArray) 0 0 0 (⟨#[]⟩ : ByteArray) bt187.1 0 0)) else (if bt183.1 = 0 then ((record_volume.f k bt183.2.1 bt183.2.2).bind fun bt190 => ((pack_Reader_Text.f k bt190.2.2.2.2.1 bt190.2.2.2.2.2).bind fun bt198 => ((pack_Reader_Number.f k bt198.2.1 bt198.2.2).bind fun bt201 => ((pack_Reader_Number.f k bt201.2.1 bt201.2.2).bind fun bt204 => ((pack_Reader_Rest.f bt204.2.1 bt204.2.2).bind fun bt207 => (record_Read.j0 k bt175.2 bt207.2.1 bt207.2.2 bt180.1 bt183.1 bt190.1 bt190.2.1 bt190.2.2.1 bt190.2.2.2.1 bt198.1 bt190.1 bt201.1 bt204.1 bt207.1 (⟨#[]⟩ : ByteArray) 0 0)))))) else (if bt183.1 = 2 then ((record_volume.f k bt183.2.1 bt183.2.2).bind fun bt210 => (record_Read.j0 k bt175.2 bt210.2.2.2.2.1 bt210.2.2.2.2.2 bt180.1 bt183.1 bt210.1 bt210.2.1 bt210.2.2.1 bt210.2.2.2.1 (⟨#[]⟩ : ByteArray) 0 0 0 (⟨#[]⟩ : ByteArray) (⟨#[]⟩ : ByteArray) 0 0)) else (if bt183.1 = 3 then ((record_volume.f k bt183.2.1 bt183.2.2).bind fun bt218 => ((pack_Reader_Number.f k bt218.2.2.2.2.1 bt218.2.2.2.2.2).bind fun bt226 => ((pack_Reader_Number.f k bt226.2.1 bt226.2.2).bind fun bt229 => (record_Read.j0 k bt175.2 bt229.2.1 bt229.2.2 bt180.1 bt183.1 bt218.1 bt218.2.1 bt218.2.2.1 bt218.2.2.2.1 (⟨#[]⟩ : ByteArray) 0 0 0 (⟨#[]⟩ : ByteArray) (⟨#[]⟩ : ByteArray) bt226.1 bt229.1)))) else (record_Read.j0 k bt175.2 bt183.2.1 bt183.2.2 bt180.1 bt183.1 0 0 0 ([] : List (S67)) (⟨#[]⟩ : ByteArray) 0 0 0 (⟨#[]⟩ : ByteArray) (⟨#[]⟩ : ByteArray) 0 0))))))))) else (some (0, 0, 0, 0, 0, ([] : List (S67)), (⟨#[]⟩ : ByteArray), 0, 0, 0, (⟨#[]⟩ : ByteArray), (⟨#[]⟩ : ByteArray), 0, 0, bt173.2)))) = some (r1, r2, r3, r4, r5, r6, r7, r8, r9, r10, r11, r12, r13, r14, r15) := h
  clear h
  replace H := Option.bind_eq_some_iff.mp H
  obtain ⟨⟨t173, t174⟩, A20, H⟩ := H
  replace H : (if t174 = 0 then ((strings_CutPrefix.f t173 (⟨#[83, 74]⟩ : ByteArray)).bind fun bt175 => ((pack_Read.f bt175.1).bind fun bt177 => ((pack_Reader_Number.f k bt177.1 bt177.2).bind fun bt180 => ((pack_Reader_Number.f k bt180.2.1 bt180.2.2).bind fun bt183 => (if bt183.1 = 1 then ((pack_Reader_Text.f k bt183.2.1 bt183.2.2).bind fun bt187 => (record_Read.j0 k bt175.2 bt187.2.1 bt187.2.2 bt180.1 bt183.1 0 0 0 ([] : List (S67)) (⟨#[]⟩ : ByteArray) 0 0 0 (⟨#[]⟩ : ByteArray) bt187.1 0 0)) else (if bt183.1 = 0 then ((record_volume.f k bt183.2.1 bt183.2.2).bind fun bt190 => ((pack_Reader_Text.f k bt190.2.2.2.2.1 bt190.2.2.2.2.2).bind fun bt198 => ((pack_Reader_Number.f k bt198.2.1 bt198.2.2).bind fun bt201 => ((pack_Reader_Number.f k bt201.2.1 bt201.2.2).bind fun bt204 => ((pack_Reader_Rest.f bt204.2.1 bt204.2.2).bind fun bt207 => (record_Read.j0 k bt175.2 bt207.2.1 bt207.2.2 bt180.1 bt183.1 bt190.1 bt190.2.1 bt190.2.2.1 bt190.2.2.2.1 bt198.1 bt190.1 bt201.1 bt204.1 bt207.1 (⟨#[]⟩ : ByteArray) 0 0)))))) else (if bt183.1 = 2 then ((record_volume.f k bt183.2.1 bt183.2.2).bind fun bt210 => (record_Read.j0 k bt175.2 bt210.2.2.2.2.1 bt210.2.2.2.2.2 bt180.1 bt183.1 bt210.1 bt210.2.1 bt210.2.2.1 bt210.2.2.2.1 (⟨#[]⟩ : ByteArray) 0 0 0 (⟨#[]⟩ : ByteArray) (⟨#[]⟩ : ByteArray) 0 0)) else (if bt183.1 = 3 then ((record_volume.f k bt183.2.1 bt183.2.2).bind fun bt218 => ((pack_Reader_Number.f k bt218.2.2.2.2.1 bt218.2.2.2.2.2).bind fun bt226 => ((pack_Reader_Number.f k bt226.2.1 bt226.2.2).bind fun bt229 => (record_Read.j0 k bt175.2 bt229.2.1 bt229.2.2 bt180.1 bt183.1 bt218.1 bt218.2.1 bt218.2.2.1 bt218.2.2.2.1 (⟨#[]⟩ : ByteArray) 0 0 0 (⟨#[]⟩ : ByteArray) (⟨#[]⟩ : ByteArray) bt226.1 bt229.1)))) else (record_Read.j0 k bt175.2 bt183.2.1 bt183.2.2 bt180.1 bt183.1 0 0 0 ([] : List (S67)) (⟨#[]⟩ : ByteArray) 0 0 0 (⟨#[]⟩ : ByteArray) (⟨#[]⟩ : ByteArray) 0 0))))))))) else (some (0, 0, 0, 0, 0, ([] : List (S67)), (⟨#[]⟩ : ByteArray), 0, 0, 0, (⟨#[]⟩ : ByteArray), (⟨#[]⟩ : ByteArray), 0, 0, t174))) = some (r1, r2, r3, r4, r5, r6, r7, r8, r9, r10, r11, r12, r13, r14, r15) := H
  have A2 := Aside0.mk A20
  clear A20
  by_cases c3 : t174 = 0
  · rw [if_pos c3] at H
    have c3b0 : (t174 == 0) = true := beq_iff_eq.mpr c3
    have c3b1 : (t174 != 0) = false := bne_eq_false_iff_eq.mpr c3
    clear c3
    replace H := Option.bind_eq_some_iff.mp H
    obtain ⟨⟨t175, t176⟩, A40, H⟩ := H
    replace H : ((pack_Read.f t175).bind fun bt177 => ((pack_Reader_Number.f k bt177.1 bt177.2).bind fun bt180 => ((pack_Reader_Number.f k bt180.2.1 bt180.2.2).bind fun bt183 => (if bt183.1 = 1 then ((pack_Reader_Text.f k bt183.2.1 bt183.2.2).bind fun bt187 => (record_Read.j0 k t176 bt187.2.1 bt187.2.2 bt180.1 bt183.1 0 0 0 ([] : List (S67)) (⟨#[]⟩ : ByteArray) 0 0 0 (⟨#[]⟩ : ByteArray) bt187.1 0 0)) else (if bt183.1 = 0 then ((record_volume.f k bt183.2.1 bt183.2.2).bind fun bt190 => ((pack_Reader_Text.f k bt190.2.2.2.2.1 bt190.2.2.2.2.2).bind fun bt198 => ((pack_Reader_Number.f k bt198.2.1 bt198.2.2).bind fun bt201 => ((pack_Reader_Number.f k bt201.2.1 bt201.2.2).bind fun bt204 => ((pack_Reader_Rest.f bt204.2.1 bt204.2.2).bind fun bt207 => (record_Read.j0 k t176 bt207.2.1 bt207.2.2 bt180.1 bt183.1 bt190.1 bt190.2.1 bt190.2.2.1 bt190.2.2.2.1 bt198.1 bt190.1 bt201.1 bt204.1 bt207.1 (⟨#[]⟩ : ByteArray) 0 0)))))) else (if bt183.1 = 2 then ((record_volume.f k bt183.2.1 bt183.2.2).bind fun bt210 => (record_Read.j0 k t176 bt210.2.2.2.2.1 bt210.2.2.2.2.2 bt180.1 bt183.1 bt210.1 bt210.2.1 bt210.2.2.1 bt210.2.2.2.1 (⟨#[]⟩ : ByteArray) 0 0 0 (⟨#[]⟩ : ByteArray) (⟨#[]⟩ : ByteArray) 0 0)) else (if bt183.1 = 3 then ((record_volume.f k bt183.2.1 bt183.2.2).bind fun bt218 => ((pack_Reader_Number.f k bt218.2.2.2.2.1 bt218.2.2.2.2.2).bind fun bt226 => ((pack_Reader_Number.f k bt226.2.1 bt226.2.2).bind fun bt229 => (record_Read.j0 k t176 bt229.2.1 bt229.2.2 bt180.1 bt183.1 bt218.1 bt218.2.1 bt218.2.2.1 bt218.2.2.2.1 (⟨#[]⟩ : ByteArray) 0 0 0 (⟨#[]⟩ : ByteArray) (⟨#[]⟩ : ByteArray) bt226.1 bt229.1)))) else (record_Read.j0 k t176 bt183.2.1 bt183.2.2 bt180.1 bt183.1 0 0 0 ([] : List (S67)) (⟨#[]⟩ : ByteArray) 0 0 0 (⟨#[]⟩ : ByteArray) (⟨#[]⟩ : ByteArray) 0 0)))))))) = some (r1, r2, r3, r4, r5, r6, r7, r8, r9, r10, r11, r12, r13, r14, r15) := H
    have A4 := Aside0.mk A40
    clear A40
    replace H := Option.bind_eq_some_iff.mp H
    obtain ⟨⟨t177, t178⟩, A50, H⟩ := H
    replace H : ((pack_Reader_Number.f k t177 t178).bind fun bt180 => ((pack_Reader_Number.f k bt180.2.1 bt180.2.2).bind fun bt183 => (if bt183.1 = 1 then ((pack_Reader_Text.f k bt183.2.1 bt183.2.2).bind fun bt187 => (record_Read.j0 k t176 bt187.2.1 bt187.2.2 bt180.1 bt183.1 0 0 0 ([] : List (S67)) (⟨#[]⟩ : ByteArray) 0 0 0 (⟨#[]⟩ : ByteArray) bt187.1 0 0)) else (if bt183.1 = 0 then ((record_volume.f k bt183.2.1 bt183.2.2).bind fun bt190 => ((pack_Reader_Text.f k bt190.2.2.2.2.1 bt190.2.2.2.2.2).bind fun bt198 => ((pack_Reader_Number.f k bt198.2.1 bt198.2.2).bind fun bt201 => ((pack_Reader_Number.f k bt201.2.1 bt201.2.2).bind fun bt204 => ((pack_Reader_Rest.f bt204.2.1 bt204.2.2).bind fun bt207 => (record_Read.j0 k t176 bt207.2.1 bt207.2.2 bt180.1 bt183.1 bt190.1 bt190.2.1 bt190.2.2.1 bt190.2.2.2.1 bt198.1 bt190.1 bt201.1 bt204.1 bt207.1 (⟨#[]⟩ : ByteArray) 0 0)))))) else (if bt183.1 = 2 then ((record_volume.f k bt183.2.1 bt183.2.2).bind fun bt210 => (record_Read.j0 k t176 bt210.2.2.2.2.1 bt210.2.2.2.2.2 bt180.1 bt183.1 bt210.1 bt210.2.1 bt210.2.2.1 bt210.2.2.2.1 (⟨#[]⟩ : ByteArray) 0 0 0 (⟨#[]⟩ : ByteArray) (⟨#[]⟩ : ByteArray) 0 0)) else (if bt183.1 = 3 then ((record_volume.f k bt183.2.1 bt183.2.2).bind fun bt218 => ((pack_Reader_Number.f k bt218.2.2.2.2.1 bt218.2.2.2.2.2).bind fun bt226 => ((pack_Reader_Number.f k bt226.2.1 bt226.2.2).bind fun bt229 => (record_Read.j0 k t176 bt229.2.1 bt229.2.2 bt180.1 bt183.1 bt218.1 bt218.2.1 bt218.2.2.1 bt218.2.2.2.1 (⟨#[]⟩ : ByteArray) 0 0 0 (⟨#[]⟩ : ByteArray) (⟨#[]⟩ : ByteArray) bt226.1 bt229.1)))) else (record_Read.j0 k t176 bt183.2.1 bt183.2.2 bt180.1 bt183.1 0 0 0 ([] : List (S67)) (⟨#[]⟩ : ByteArray) 0 0 0 (⟨#[]⟩ : ByteArray) (⟨#[]⟩ : ByteArray) 0 0))))))) = some (r1, r2, r3, r4, r5, r6, r7, r8, r9, r10, r11, r12, r13, r14, r15) := H
    have A5 := Aside0.mk A50
    clear A50
    replace H := Option.bind_eq_some_iff.mp H
    obtain ⟨⟨t180, t181, t182⟩, A60, H⟩ := H
    replace H : ((pack_Reader_Number.f k t181 t182).bind fun bt183 => (if bt183.1 = 1 then ((pack_Reader_Text.f k bt183.2.1 bt183.2.2).bind fun bt187 => (record_Read.j0 k t176 bt187.2.1 bt187.2.2 t180 bt183.1 0 0 0 ([] : List (S67)) (⟨#[]⟩ : ByteArray) 0 0 0 (⟨#[]⟩ : ByteArray) bt187.1 0 0)) else (if bt183.1 = 0 then ((record_volume.f k bt183.2.1 bt183.2.2).bind fun bt190 => ((pack_Reader_Text.f k bt190.2.2.2.2.1 bt190.2.2.2.2.2).bind fun bt198 => ((pack_Reader_Number.f k bt198.2.1 bt198.2.2).bind fun bt201 => ((pack_Reader_Number.f k bt201.2.1 bt201.2.2).bind fun bt204 => ((pack_Reader_Rest.f bt204.2.1 bt204.2.2).bind fun bt207 => (record_Read.j0 k t176 bt207.2.1 bt207.2.2 t180 bt183.1 bt190.1 bt190.2.1 bt190.2.2.1 bt190.2.2.2.1 bt198.1 bt190.1 bt201.1 bt204.1 bt207.1 (⟨#[]⟩ : ByteArray) 0 0)))))) else (if bt183.1 = 2 then ((record_volume.f k bt183.2.1 bt183.2.2).bind fun bt210 => (record_Read.j0 k t176 bt210.2.2.2.2.1 bt210.2.2.2.2.2 t180 bt183.1 bt210.1 bt210.2.1 bt210.2.2.1 bt210.2.2.2.1 (⟨#[]⟩ : ByteArray) 0 0 0 (⟨#[]⟩ : ByteArray) (⟨#[]⟩ : ByteArray) 0 0)) else (if bt183.1 = 3 then ((record_volume.f k bt183.2.1 bt183.2.2).bind fun bt218 => ((pack_Reader_Number.f k bt218.2.2.2.2.1 bt218.2.2.2.2.2).bind fun bt226 => ((pack_Reader_Number.f k bt226.2.1 bt226.2.2).bind fun bt229 => (record_Read.j0 k t176 bt229.2.1 bt229.2.2 t180 bt183.1 bt218.1 bt218.2.1 bt218.2.2.1 bt218.2.2.2.1 (⟨#[]⟩ : ByteArray) 0 0 0 (⟨#[]⟩ : ByteArray) (⟨#[]⟩ : ByteArray) bt226.1 bt229.1)))) else (record_Read.j0 k t176 bt183.2.1 bt183.2.2 t180 bt183.1 0 0 0 ([] : List (S67)) (⟨#[]⟩ : ByteArray) 0 0 0 (⟨#[]⟩ : ByteArray) (⟨#[]⟩ : ByteArray) 0 0)))))) = some (r1, r2, r3, r4, r5, r6, r7, r8, r9, r10, r11, r12, r13, r14, r15) := H
    have A6 := Aside0.mk A60
    clear A60
    replace H := Option.bind_eq_some_iff.mp H
    obtain ⟨⟨t183, t184, t185⟩, A70, H⟩ := H
    replace H : (if t183 = 1 then ((pack_Reader_Text.f k t184 t185).bind fun bt187 => (record_Read.j0 k t176 bt187.2.1 bt187.2.2 t180 t183 0 0 0 ([] : List (S67)) (⟨#[]⟩ : ByteArray) 0 0 0 (⟨#[]⟩ : ByteArray) bt187.1 0 0)) else (if t183 = 0 then ((record_volume.f k t184 t185).bind fun bt190 => ((pack_Reader_Text.f k bt190.2.2.2.2.1 bt190.2.2.2.2.2).bind fun bt198 => ((pack_Reader_Number.f k bt198.2.1 bt198.2.2).bind fun bt201 => ((pack_Reader_Number.f k bt201.2.1 bt201.2.2).bind fun bt204 => ((pack_Reader_Rest.f bt204.2.1 bt204.2.2).bind fun bt207 => (record_Read.j0 k t176 bt207.2.1 bt207.2.2 t180 t183 bt190.1 bt190.2.1 bt190.2.2.1 bt190.2.2.2.1 bt198.1 bt190.1 bt201.1 bt204.1 bt207.1 (⟨#[]⟩ : ByteArray) 0 0)))))) else (if t183 = 2 then ((record_volume.f k t184 t185).bind fun bt210 => (record_Read.j0 k t176 bt210.2.2.2.2.1 bt210.2.2.2.2.2 t180 t183 bt210.1 bt210.2.1 bt210.2.2.1 bt210.2.2.2.1 (⟨#[]⟩ : ByteArray) 0 0 0 (⟨#[]⟩ : ByteArray) (⟨#[]⟩ : ByteArray) 0 0)) else (if t183 = 3 then ((record_volume.f k t184 t185).bind fun bt218 => ((pack_Reader_Number.f k bt218.2.2.2.2.1 bt218.2.2.2.2.2).bind fun bt226 => ((pack_Reader_Number.f k bt226.2.1 bt226.2.2).bind fun bt229 => (record_Read.j0 k t176 bt229.2.1 bt229.2.2 t180 t183 bt218.1 bt218.2.1 bt218.2.2.1 bt218.2.2.2.1 (⟨#[]⟩ : ByteArray) 0 0 0 (⟨#[]⟩ : ByteArray) (⟨#[]⟩ : ByteArray) bt226.1 bt229.1)))) else (record_Read.j0 k t176 t184 t185 t180 t183 0 0 0 ([] : List (S67)) (⟨#[]⟩ : ByteArray) 0 0 0 (⟨#[]⟩ : ByteArray) (⟨#[]⟩ : ByteArray) 0 0))))) = some (r1, r2, r3, r4, r5, r6, r7, r8, r9, r10, r11, r12, r13, r14, r15) := H
    have A7 := Aside0.mk A70
    clear A70
    have HC8 := Aside0.mk H
    clear H
    go_enter Try.func19, Try.ntmps19
    go_upto_block 0 with (first | ((with_reducible refine gate_dst (N := 2) rfl ?_); refine box_event ?hg (N := 2) ?hd (cs := #[.int .i64 0, .int .i64 0, .int .i64 0, .int .i64 0, .int .i64 0, .slice none 0 0, .string (⟨#[]⟩ : ByteArray), .int .i64 0, .int .i64 0, .int .i64 0, .string (⟨#[]⟩ : ByteArray), .string (⟨#[]⟩ : ByteArray), .int .i64 0, .int .i64 0]) (t := 34) ?hr ?_; (case hd => rfl); (case hg => rfl); (case hr => first | (go_simp; done) | (go_simp; rfl)); intro gb172 hg w9 hbox hb; have n0_ := Aside0.mk (below_step (by repeat (first | (with_reducible first | exact HB.out | apply below_alloc | apply pw_below_drewN | apply below_drew1) | exact HB.out)) hb); have n1_ := Aside0.mk (hbox); have n2_ := Aside0.mk ((by rw [hg]; exact (below_size (by repeat (first | (with_reducible first | exact HB.out | apply below_alloc | apply pw_below_drewN | apply below_drew1) | exact HB.out))) : w.heap.size ≤ gb172)); have n3_ := Aside0.mk ((by rw [hg]; exact (below_size (by repeat (first | (with_reducible first | exact HB.out | apply below_alloc | apply pw_below_drewN | apply below_drew1) | exact HB.out))) : w.heap.size ≤ gb172)); clear HB; have HB := n0_; have BK172 := n1_; have GW172 := n2_; have GE172 := n3_; clear n0_ n1_ n2_ n3_; clear hb hbox hg) | ((with_reducible refine gate_callee (f := 39) rfl ?_); refine goesL_ (some 11) rfl rfl Try.func39 (by kernel_rfl) rfl #[.string a0] rfl (by (try simp only [List.map_toArray, List.map_cons, List.map_nil]); first | done | rfl | (simp only [List.length_drop, List.length_take]; rfl)) ?_; (with_reducible refine (check_Open.calls a0 t173 t174 _ A2.out).mono ?_); rintro e w10 ⟨rfl, hb⟩; refine ⟨_, rfl, ?_⟩; have n0_ := Aside0.mk (blk_below (g := gb172) (o := .cells #[.int .i64 0, .int .i64 0, .int .i64 0, .int .i64 0, .int .i64 0, .slice none 0 0, .string (⟨#[]⟩ : ByteArray), .int .i64 0, .int .i64 0, .int .i64 0, .string (⟨#[]⟩ : ByteArray), .string (⟨#[]⟩ : ByteArray), .int .i64 0, .int .i64 0] 34 (0, 0)) (by (with_reducible repeat (first | refine blk_drewN ?_ _ | refine blk_drew ?_ | refine blk_alloc ?_ _)); exact BK172.out) hb); have n1_ := Aside0.mk (below_step (by repeat (first | (with_reducible first | exact HB.out | apply below_alloc | apply pw_below_drewN | apply below_drew1 | refine below_set ?_ GE172.out) | exact HB.out)) hb); clear BK172; clear HB; have BK172 := n0_; have HB := n1_; clear n0_ n1_; (try clear hb); (try clear hb2); (try clear hk); (try clear hi)) | ((with_reducible refine gate_callee (f := 40) rfl ?_); refine goesL_ (some 20) rfl rfl Try.func40 (by kernel_rfl) rfl #[.string t173, .string (⟨#[83, 74]⟩ : ByteArray)] rfl (by (try simp only [List.map_toArray, List.map_cons, List.map_nil]); first | done | rfl | (simp only [List.length_drop, List.length_take]; rfl)) ?_; (with_reducible refine (strings_CutPrefix.calls t173 (⟨#[83, 74]⟩ : ByteArray) t175 t176 _ A4.out).mono ?_); rintro e w' ⟨rfl, ⟨nd, rfl⟩⟩; refine ⟨_, rfl, ?_⟩; (try (rw [drewN_self w10]; generalize hq_ : World.drewN w10 _ = w10; have n0_ : Aside0 (w10.heap[gb172]? = some (.cells #[.int .i64 0, .int .i64 0, .int .i64 0, .int .i64 0, .int .i64 0, .slice none 0 0, .string (⟨#[]⟩ : ByteArray), .int .i64 0, .int .i64 0, .int .i64 0, .string (⟨#[]⟩ : ByteArray), .string (⟨#[]⟩ : ByteArray), .int .i64 0, .int .i64 0] 34 (0, 0))) := ⟨by rw [← hq_]; exact (by (with_reducible repeat (first | refine blk_drewN ?_ _ | refine blk_drew ?_ | refine blk_alloc ?_ _)); exact BK172.out)⟩; have n1_ : Aside0 (Below w.heap.size w w10) := ⟨by rw [← hq_]; exact (by repeat (first | (with_reducible first | exact HB.out | apply below_alloc | apply pw_below_drewN | apply below_drew1 | refine below_set ?_ GE172.out) | exact HB.out))⟩; clear BK172 HB hq_; have BK172 := n0_; have HB := n1_; clear n0_ n1_))) | ((with_reducible refine gate_callee (f := 41) rfl ?_); refine goesL_ (some 24) rfl rfl Try.func41 (by kernel_rfl) rfl #[.string t175] rfl (by (try simp only [List.map_toArray, List.map_cons, List.map_nil]); first | done | rfl | (simp only [List.length_drop, List.length_take]; rfl)) ?_; (with_reducible refine (pack_Read.calls t175 t177 t178 w _ ?side1 A5.out).mono ?_); (case side1 => repeat (first | (with_reducible first | exact HB.out | apply below_alloc | apply pw_below_drewN | apply below_drew1 | refine below_set ?_ GE172.out) | exact HB.out)); rintro e w11 ⟨g179, rfl, hi, hb, hb2⟩; refine ⟨_, rfl, ?_⟩; have n0_ := Aside0.mk (blk_below (g := gb172) (o := .cells #[.int .i64 0, .int .i64 0, .int .i64 0, .int .i64 0, .int .i64 0, .slice none 0 0, .string (⟨#[]⟩ : ByteArray), .int .i64 0, .int .i64 0, .int .i64 0, .string (⟨#[]⟩ : ByteArray), .string (⟨#[]⟩ : ByteArray), .int .i64 0, .int .i64 0] 34 (0, 0)) (by (with_reducible repeat (first | refine blk_drewN ?_ _ | refine blk_drew ?_ | refine blk_alloc ?_ _)); exact BK172.out) hb2); have n1_ := Aside0.mk (hb); have n2_ := Aside0.mk (hi); have n3_ := Aside0.mk (IsS99.ne_blk hi (blk_below (g := gb172) (o := .cells #[.int .i64 0, .int .i64 0, .int .i64 0, .int .i64 0, .int .i64 0, .slice none 0 0, .string (⟨#[]⟩ : ByteArray), .int .i64 0, .int .i64 0, .int .i64 0, .string (⟨#[]⟩ : ByteArray), .string (⟨#[]⟩ : ByteArray), .int .i64 0, .int .i64 0] 34 (0, 0)) (by (with_reducible repeat (first | refine blk_drewN ?_ _ | refine blk_drew ?_ | refine blk_alloc ?_ _)); exact BK172.out) hb2) (by decide)); have n4_ := Aside0.mk (Ne.symm (IsS99.ne_blk hi (blk_below (g := gb172) (o := .cells #[.int .i64 0, .int .i64 0, .int .i64 0, .int .i64 0, .int .i64 0, .slice none 0 0, .string (⟨#[]⟩ : ByteArray), .int .i64 0, .int .i64 0, .int .i64 0, .string (⟨#[]⟩ : ByteArray), .string (⟨#[]⟩ : ByteArray), .int .i64 0, .int .i64 0] 34 (0, 0)) (by (with_reducible repeat (first | refine blk_drewN ?_ _ | refine blk_drew ?_ | refine blk_alloc ?_ _)); exact BK172.out) hb2) (by decide))); clear BK172; clear HB; have BK172 := n0_; have HB := n1_; have HI179 := n2_; have NB179_172 := n3_; have NB172_179 := n4_; clear n0_ n1_ n2_ n3_ n4_; (try clear hb); (try clear hb2); (try clear hk); (try clear hi)) | ((with_reducible refine gate_callee (f := 42) rfl ?_); refine goesL_ (some 26) rfl rfl Try.func42 (by kernel_rfl) rfl #[.pointer (some ⟨g179, 0, none⟩)] rfl (by (try simp only [List.map_toArray, List.map_cons, List.map_nil]); first | done | rfl | (simp only [List.length_drop, List.length_take]; rfl)) ?_; (with_reducible refine (pack_Reader_Number.calls k g179 t177 t178 t180 t181 t182 w _ ?side1 ?side2 A6.out).mono ?_); (case side1 => repeat (first | (with_reducible first | exact HI179.out | apply IsS99.alloc | apply IsS99.drewN | apply IsS99.drew | apply IsS99.set_0 | apply IsS99.set_1 | refine IsS99.far ?_ NB179_172.out _) | exact HI179.out)); (case side2 => repeat (first | (with_reducible first | exact HB.out | apply below_alloc | apply pw_below_drewN | apply below_drew1 | refine below_set ?_ (IsS99.ge HI179.out) | refine below_set ?_ GE172.out) | exact HB.out)); rintro e w12 ⟨rfl, hi, hb, hk⟩; refine ⟨_, rfl, ?_⟩; have n0_ := Aside0.mk (KeepBut.blk hk (g' := gb172) (o := .cells #[.int .i64 0, .int .i64 0, .int .i64 0, .int .i64 0, .int .i64 0, .slice none 0 0, .string (⟨#[]⟩ : ByteArray), .int .i64 0, .int .i64 0, .int .i64 0, .string (⟨#[]⟩ : ByteArray), .string (⟨#[]⟩ : ByteArray), .int .i64 0, .int .i64 0] 34 (0, 0)) (by (with_reducible repeat (first | refine blk_drewN ?_ _ | refine blk_drew ?_ | refine blk_alloc ?_ _)); exact BK172.out) NB172_179.out (by simp)); have n1_ := Aside0.mk (hb); have n2_ := Aside0.mk (hi); clear BK172; clear HB; clear HI179; have BK172 := n0_; have HB := n1_; have HI179 := n2_; clear n0_ n1_ n2_; (try clear hb); (try clear hb2); (try clear hk); (try clear hi)) | ((with_reducible refine gate_callee (f := 42) rfl ?_); refine goesL_ (some 28) rfl rfl Try.func42 (by kernel_rfl) rfl #[.pointer (some ⟨g179, 0, none⟩)] rfl (by (try simp only [List.map_toArray, List.map_cons, List.map_nil]); first | done | rfl | (simp only [List.length_drop, List.length_take]; rfl)) ?_; (with_reducible refine (pack_Reader_Number.calls k g179 t181 t182 t183 t184 t185 w _ ?side1 ?side2 A7.out).mono ?_); (case side1 => repeat (first | (with_reducible first | exact HI179.out | apply IsS99.alloc | apply IsS99.drewN | apply IsS99.drew | apply IsS99.set_0 | apply IsS99.set_1 | refine IsS99.far ?_ NB179_172.out _) | exact HI179.out)); (case side2 => repeat (first | (with_reducible first | exact HB.out | apply below_alloc | apply pw_below_drewN | apply below_drew1 | refine below_set ?_ (IsS99.ge HI179.out) | refine below_set ?_ GE172.out) | exact HB.out)); rintro e w13 ⟨rfl, hi, hb, hk⟩; refine ⟨_, rfl, ?_⟩; have n0_ := Aside0.mk (KeepBut.blk hk (g' := gb172) (o := .cells #[.int .i64 0, .int .i64 0, .int .i64 0, .int .i64 0, .int .i64 0, .slice none 0 0, .string (⟨#[]⟩ : ByteArray), .int .i64 0, .int .i64 0, .int .i64 0, .string (⟨#[]⟩ : ByteArray), .string (⟨#[]⟩ : ByteArray), .int .i64 0, .int .i64 0] 34 (0, 0)) (by (with_reducible repeat (first | refine blk_drewN ?_ _ | refine blk_drew ?_ | refine blk_alloc ?_ _)); exact BK172.out) NB172_179.out (by simp)); have n1_ := Aside0.mk (hb); have n2_ := Aside0.mk (hi); clear BK172; clear HB; clear HI179; have BK172 := n0_; have HB := n1_; have HI179 := n2_; clear n0_ n1_ n2_; (try clear hb); (try clear hb2); (try clear hk); (try clear hi)) | ((with_reducible refine gate_dst (N := 8) rfl ?_); refine box_event ?hg (N := 8) ?hd (cs := #[.int .i64 0, .int .i64 0, .int .i64 0, .int .i64 0, .int .i64 0, .slice none 0 0, .string (⟨#[]⟩ : ByteArray), .int .i64 0, .int .i64 0, .int .i64 0, .string (⟨#[]⟩ : ByteArray), .string (⟨#[]⟩ : ByteArray), .int .i64 0, .int .i64 0]) (t := 34) ?hr ?_; (case hd => rfl); (case hg => rfl); (case hr => first | (go_simp; done) | (go_simp; rfl)); intro gb186 hg w14 hbox hb; have n0_ := Aside0.mk (blk_below (g := gb172) (o := .cells #[.int .i64 0, .int .i64 0, .int .i64 0, .int .i64 0, .int .i64 0, .slice none 0 0, .string (⟨#[]⟩ : ByteArray), .int .i64 0, .int .i64 0, .int .i64 0, .string (⟨#[]⟩ : ByteArray), .string (⟨#[]⟩ : ByteArray), .int .i64 0, .int .i64 0] 34 (0, 0)) (by (with_reducible repeat (first | refine blk_drewN ?_ _ | refine blk_drew ?_ | refine blk_alloc ?_ _)); exact BK172.out) hb); have n1_ := Aside0.mk (IsS99.below (by repeat (first | (with_reducible first | exact HI179.out | apply IsS99.alloc | apply IsS99.drewN | apply IsS99.drew | apply IsS99.set_0 | apply IsS99.set_1 | refine IsS99.far ?_ NB179_172.out _) | exact HI179.out)) hb); have n2_ := Aside0.mk (below_step (by repeat (first | (with_reducible first | exact HB.out | apply below_alloc | apply pw_below_drewN | apply below_drew1 | refine below_set ?_ (IsS99.ge HI179.out) | refine below_set ?_ GE172.out) | exact HB.out)) hb); have n3_ := Aside0.mk (hbox); have n4_ := Aside0.mk ((by rw [hg]; exact (below_size (by repeat (first | (with_reducible first | exact HB.out | apply below_alloc | apply pw_below_drewN | apply below_drew1 | refine below_set ?_ (IsS99.ge HI179.out) | refine below_set ?_ GE172.out) | exact HB.out))) : w.heap.size ≤ gb186)); have n5_ := Aside0.mk ((by rw [hg]; exact (below_size (by repeat (first | (with_reducible first | exact HB.out | apply below_alloc | apply pw_below_drewN | apply below_drew1 | refine below_set ?_ (IsS99.ge HI179.out) | refine below_set ?_ GE172.out) | exact HB.out))) : w.heap.size ≤ gb186)); have n6_ := Aside0.mk ((by rw [hg]; exact Nat.ne_of_lt (blk_lt (g := gb172) (o := .cells #[.int .i64 0, .int .i64 0, .int .i64 0, .int .i64 0, .int .i64 0, .slice none 0 0, .string (⟨#[]⟩ : ByteArray), .int .i64 0, .int .i64 0, .int .i64 0, .string (⟨#[]⟩ : ByteArray), .string (⟨#[]⟩ : ByteArray), .int .i64 0, .int .i64 0] 34 (0, 0)) (by (with_reducible repeat (first | refine blk_drewN ?_ _ | refine blk_drew ?_ | refine blk_alloc ?_ _)); exact BK172.out)) : gb172 ≠ gb186)); have n7_ := Aside0.mk ((by rw [hg]; exact Nat.ne_of_gt (blk_lt (g := gb172) (o := .cells #[.int .i64 0, .int .i64 0, .int .i64 0, .int .i64 0, .int .i64 0, .slice none 0 0, .string (⟨#[]⟩ : ByteArray), .int .i64 0, .int .i64 0, .int .i64 0, .string (⟨#[]⟩ : ByteArray), .string (⟨#[]⟩ : ByteArray), .int .i64 0, .int .i64 0] 34 (0, 0)) (by (with_reducible repeat (first | refine blk_drewN ?_ _ | refine blk_drew ?_ | refine blk_alloc ?_ _)); exact BK172.out)) : gb186 ≠ gb172)); have n8_ := Aside0.mk ((by rw [hg]; exact Nat.ne_of_lt (IsS99.lt (show IsS99 w _ g179 t184 t185 from by repeat (first | (with_reducible first | exact HI179.out | apply IsS99.alloc | apply IsS99.drewN | apply IsS99.drew | apply IsS99.set_0 | apply IsS99.set_1 | refine IsS99.far ?_ NB179_172.out _) | exact HI179.out))) : g179 ≠ gb186)); have n9_ := Aside0.mk ((by rw [hg]; exact Nat.ne_of_gt (IsS99.lt (show IsS99 w _ g179 t184 t185 from by repeat (first | (with_reducible first | exact HI179.out | apply IsS99.alloc | apply IsS99.drewN | apply IsS99.drew | apply IsS99.set_0 | apply IsS99.set_1 | refine IsS99.far ?_ NB179_172.out _) | exact HI179.out))) : gb186 ≠ g179)); clear BK172; clear HI179; clear HB; have BK172 := n0_; have HI179 := n1_; have HB := n2_; have BK186 := n3_; have GW186 := n4_; have GE186 := n5_; have NB172_186 := n6_; have NB186_172 := n7_; have NB179_186 := n8_; have NB186_179 := n9_; clear n0_ n1_ n2_ n3_ n4_ n5_ n6_ n7_ n8_ n9_; clear hb hbox hg; have hnb15 := NB186_172.out; have hnc15 := NB172_186.out; have hnb16 := NB186_179.out; have hnc16 := NB179_186.out; have hcz17_0 : w14.cell? ⟨gb186, 0, none⟩ = some (.int .i64 0) := (blk_cell BK186.out 0).trans rfl; have hcz17_1 : w14.cell? ⟨gb186, 1, none⟩ = some (.int .i64 0) := (blk_cell BK186.out 1).trans rfl; have hcz17_2 : w14.cell? ⟨gb186, 2, none⟩ = some (.int .i64 0) := (blk_cell BK186.out 2).trans rfl; have hcz17_3 : w14.cell? ⟨gb186, 3, none⟩ = some (.int .i64 0) := (blk_cell BK186.out 3).trans rfl; have hcz17_4 : w14.cell? ⟨gb186, 4, none⟩ = some (.int .i64 0) := (blk_cell BK186.out 4).trans rfl; have hcz17_5 : w14.cell? ⟨gb186, 5, none⟩ = some (.slice none 0 0) := (blk_cell BK186.out 5).trans rfl; have hcz17_6 : w14.cell? ⟨gb186, 6, none⟩ = some (.string (⟨#[]⟩ : ByteArray)) := (blk_cell BK186.out 6).trans rfl; have hcz17_7 : w14.cell? ⟨gb186, 7, none⟩ = some (.int .i64 0) := (blk_cell BK186.out 7).trans rfl; have hcz17_8 : w14.cell? ⟨gb186, 8, none⟩ = some (.int .i64 0) := (blk_cell BK186.out 8).trans rfl; have hcz17_9 : w14.cell? ⟨gb186, 9, none⟩ = some (.int .i64 0) := (blk_cell BK186.out 9).trans rfl; have hcz17_10 : w14.cell? ⟨gb186, 10, none⟩ = some (.string (⟨#[]⟩ : ByteArray)) := (blk_cell BK186.out 10).trans rfl; have hcz17_11 : w14.cell? ⟨gb186, 11, none⟩ = some (.string (⟨#[]⟩ : ByteArray)) := (blk_cell BK186.out 11).trans rfl; have hcz17_12 : w14.cell? ⟨gb186, 12, none⟩ = some (.int .i64 0) := (blk_cell BK186.out 12).trans rfl; have hcz17_13 : w14.cell? ⟨gb186, 13, none⟩ = some (.int .i64 0) := (blk_cell BK186.out 13).trans rfl; have hfz17_0 := blk_frozen BK186.out 0; have hfz17_1 := blk_frozen BK186.out 1; have hfz17_2 := blk_frozen BK186.out 2; have hfz17_3 := blk_frozen BK186.out 3; have hfz17_4 := blk_frozen BK186.out 4; have hfz17_5 := blk_frozen BK186.out 5; have hfz17_6 := blk_frozen BK186.out 6; have hfz17_7 := blk_frozen BK186.out 7; have hfz17_8 := blk_frozen BK186.out 8; have hfz17_9 := blk_frozen BK186.out 9; have hfz17_10 := blk_frozen BK186.out 10; have hfz17_11 := blk_frozen BK186.out 11; have hfz17_12 := blk_frozen BK186.out 12; have hfz17_13 := blk_frozen BK186.out 13))
    (try simp only [Act.put, List.setIfInBounds_toArray, List.set_cons_zero, List.set_cons_succ])
    go_cut [] (fun wc => ∃ (kq : Nat) (x180000_7 : ByteArray) (x180001_7 : Int) (x187002_7 : Int) (x187003_7 : Int) (x187004_7 : Int) (x187005_7 : List (S67)) (x187006_7 : ByteArray) (x187007_7 : Int) (x187008_7 : Int) (x187009_7 : Int) (x187010_7 : ByteArray) (x187011_7 : ByteArray) (x187012_7 : Int) (x187013_7 : Int) (u187005 : Value), Aside0 (record_Read.j0 kq t176 x180000_7 x180001_7 t180 t183 x187002_7 x187003_7 x187004_7 x187005_7 x187006_7 x187007_7 x187008_7 x187009_7 x187010_7 x187011_7 x187012_7 x187013_7 = some (r1, r2, r3, r4, r5, r6, r7, r8, r9, r10, r11, r12, r13, r14, r15)) ∧ Aside0 (kq ≤ k) ∧ Aside0 (Kd.R k67 67 wc w.heap.size (fun _ => True) u187005 x187005_7) ∧ Aside0 (wc.heap[gb172]? = some (.cells #[.int .i64 0, .int .i64 0, .int .i64 0, .int .i64 0, .int .i64 0, (.slice none 0 0), .string (⟨#[]⟩ : ByteArray), .int .i64 0, .int .i64 0, .int .i64 0, .string (⟨#[]⟩ : ByteArray), .string (⟨#[]⟩ : ByteArray), .int .i64 0, .int .i64 0] 34 (0, 0))) ∧ Aside0 (wc.heap[gb186]? = some (.cells #[.int .i64 t180, .int .i64 t183, .int .i64 x187002_7, .int .i64 x187003_7, .int .i64 x187004_7, u187005, .string x187006_7, .int .i64 x187007_7, .int .i64 x187008_7, .int .i64 x187009_7, .string x187010_7, .string x187011_7, .int .i64 x187012_7, .int .i64 x187013_7] 34 (0, 0))) ∧ Aside0 (IsS99 w wc g179 x180000_7 x180001_7) ∧ Aside0 (Below w.heap.size w wc))
    case first =>
      have H := HC8.out
      clear HC8
      by_cases c18 : t183 = 1
      · rw [if_pos c18] at H
        have c18b0 : (t183 == 1) = true := beq_iff_eq.mpr c18
        have c18b1 : (t183 != 1) = false := bne_eq_false_iff_eq.mpr c18
        clear c18
        (first | rw [c18b0] | (simp only [i64_w, i32_w]; rw [c18b0]) | skip)
        replace H := Option.bind_eq_some_iff.mp H
        obtain ⟨⟨t187, t188, t189⟩, A190, H⟩ := H
        replace H : (record_Read.j0 k t176 t188 t189 t180 t183 0 0 0 ([] : List (S67)) (⟨#[]⟩ : ByteArray) 0 0 0 (⟨#[]⟩ : ByteArray) t187 0 0) = some (r1, r2, r3, r4, r5, r6, r7, r8, r9, r10, r11, r12, r13, r14, r15) := H
        have A19 := Aside0.mk A190
        clear A190
        have H' := Aside0.mk H
        clear H
        go_wp2_with (first | ((with_reducible refine gate_callee (f := 43) rfl ?_); refine goesL_ (some 35) rfl rfl Try.func43 (by kernel_rfl) rfl #[.pointer (some ⟨g179, 0, none⟩)] rfl (by (try simp only [List.map_toArray, List.map_cons, List.map_nil]); first | done | rfl | (simp only [List.length_drop, List.length_take]; rfl)) ?_; (with_reducible refine (pack_Reader_Text.calls k g179 t184 t185 t187 t188 t189 w _ ?side1 ?side2 A19.out).mono ?_); (case side1 => repeat (first | (with_reducible first | exact HI179.out | apply IsS99.alloc | apply IsS99.drewN | apply IsS99.drew | apply IsS99.set_0 | apply IsS99.set_1 | refine IsS99.far ?_ NB179_172.out _ | refine IsS99.far ?_ NB179_186.out _) | exact HI179.out)); (case side2 => repeat (first | (with_reducible first | exact HB.out | apply below_alloc | apply pw_below_drewN | apply below_drew1 | refine below_set ?_ (IsS99.ge HI179.out) | refine below_set ?_ GE172.out | refine below_set ?_ GE186.out) | exact HB.out)); rintro e w20 ⟨rfl, hi, hb, hk⟩; refine ⟨_, rfl, ?_⟩; have n0_ := Aside0.mk (KeepBut.blk hk (g' := gb172) (o := .cells #[.int .i64 0, .int .i64 0, .int .i64 0, .int .i64 0, .int .i64 0, .slice none 0 0, .string (⟨#[]⟩ : ByteArray), .int .i64 0, .int .i64 0, .int .i64 0, .string (⟨#[]⟩ : ByteArray), .string (⟨#[]⟩ : ByteArray), .int .i64 0, .int .i64 0] 34 (0, 0)) (by (with_reducible repeat (first | refine blk_drewN ?_ _ | refine blk_drew ?_ | refine blk_alloc ?_ _)); refine blk_far ?_ NB172_186.out _; (with_reducible repeat (first | refine blk_drewN ?_ _ | refine blk_drew ?_ | refine blk_alloc ?_ _)); refine blk_far ?_ NB172_186.out _; (with_reducible repeat (first | refine blk_drewN ?_ _ | refine blk_drew ?_ | refine blk_alloc ?_ _)); refine blk_far ?_ NB172_186.out _; (with_reducible repeat (first | refine blk_drewN ?_ _ | refine blk_drew ?_ | refine blk_alloc ?_ _)); refine blk_far ?_ NB172_186.out _; (with_reducible repeat (first | refine blk_drewN ?_ _ | refine blk_drew ?_ | refine blk_alloc ?_ _)); refine blk_far ?_ NB172_186.out _; (with_reducible repeat (first | refine blk_drewN ?_ _ | refine blk_drew ?_ | refine blk_alloc ?_ _)); refine blk_far ?_ NB172_186.out _; (with_reducible repeat (first | refine blk_drewN ?_ _ | refine blk_drew ?_ | refine blk_alloc ?_ _)); refine blk_far ?_ NB172_186.out _; (with_reducible repeat (first | refine blk_drewN ?_ _ | refine blk_drew ?_ | refine blk_alloc ?_ _)); refine blk_far ?_ NB172_186.out _; (with_reducible repeat (first | refine blk_drewN ?_ _ | refine blk_drew ?_ | refine blk_alloc ?_ _)); refine blk_far ?_ NB172_186.out _; (with_reducible repeat (first | refine blk_drewN ?_ _ | refine blk_drew ?_ | refine blk_alloc ?_ _)); refine blk_far ?_ NB172_186.out _; (with_reducible repeat (first | refine blk_drewN ?_ _ | refine blk_drew ?_ | refine blk_alloc ?_ _)); refine blk_far ?_ NB172_186.out _; (with_reducible repeat (first | refine blk_drewN ?_ _ | refine blk_drew ?_ | refine blk_alloc ?_ _)); refine blk_far ?_ NB172_186.out _; (with_reducible repeat (first | refine blk_drewN ?_ _ | refine blk_drew ?_ | refine blk_alloc ?_ _)); refine blk_far ?_ NB172_186.out _; (with_reducible repeat (first | refine blk_drewN ?_ _ | refine blk_drew ?_ | refine blk_alloc ?_ _)); refine blk_far ?_ NB172_186.out _; (with_reducible repeat (first | refine blk_drewN ?_ _ | refine blk_drew ?_ | refine blk_alloc ?_ _)); exact BK172.out) NB172_179.out (by simp)); have n1_ := Aside0.mk (KeepBut.blk hk (g' := gb186) (o := .cells #[.int .i64 t180, .int .i64 t183, .int .i64 0, .int .i64 0, .int .i64 0, .slice none 0 0, .string (⟨#[]⟩ : ByteArray), .int .i64 0, .int .i64 0, .int .i64 0, .string (⟨#[]⟩ : ByteArray), .string (⟨#[]⟩ : ByteArray), .int .i64 0, .int .i64 0] 34 (0, 0)) (by (with_reducible repeat (first | refine blk_drewN ?_ _ | refine blk_drew ?_ | refine blk_alloc ?_ _)); refine blk_put (cs := #[.int .i64 t180, .int .i64 t183, .int .i64 0, .int .i64 0, .int .i64 0, .slice none 0 0, .string (⟨#[]⟩ : ByteArray), .int .i64 0, .int .i64 0, .int .i64 0, .string (⟨#[]⟩ : ByteArray), .string (⟨#[]⟩ : ByteArray), .int .i64 0, .int .i64 0]) ?_ 13 _ rfl; (with_reducible repeat (first | refine blk_drewN ?_ _ | refine blk_drew ?_ | refine blk_alloc ?_ _)); refine blk_put (cs := #[.int .i64 t180, .int .i64 t183, .int .i64 0, .int .i64 0, .int .i64 0, .slice none 0 0, .string (⟨#[]⟩ : ByteArray), .int .i64 0, .int .i64 0, .int .i64 0, .string (⟨#[]⟩ : ByteArray), .string (⟨#[]⟩ : ByteArray), .int .i64 0, .int .i64 0]) ?_ 12 _ rfl; (with_reducible repeat (first | refine blk_drewN ?_ _ | refine blk_drew ?_ | refine blk_alloc ?_ _)); refine blk_put (cs := #[.int .i64 t180, .int .i64 t183, .int .i64 0, .int .i64 0, .int .i64 0, .slice none 0 0, .string (⟨#[]⟩ : ByteArray), .int .i64 0, .int .i64 0, .int .i64 0, .string (⟨#[]⟩ : ByteArray), .string (⟨#[]⟩ : ByteArray), .int .i64 0, .int .i64 0]) ?_ 11 _ rfl; (with_reducible repeat (first | refine blk_drewN ?_ _ | refine blk_drew ?_ | refine blk_alloc ?_ _)); refine blk_put (cs := #[.int .i64 t180, .int .i64 t183, .int .i64 0, .int .i64 0, .int .i64 0, .slice none 0 0, .string (⟨#[]⟩ : ByteArray), .int .i64 0, .int .i64 0, .int .i64 0, .string (⟨#[]⟩ : ByteArray), .string (⟨#[]⟩ : ByteArray), .int .i64 0, .int .i64 0]) ?_ 10 _ rfl; (with_reducible repeat (first | refine blk_drewN ?_ _ | refine blk_drew ?_ | refine blk_alloc ?_ _)); refine blk_put (cs := #[.int .i64 t180, .int .i64 t183, .int .i64 0, .int .i64 0, .int .i64 0, .slice none 0 0, .string (⟨#[]⟩ : ByteArray), .int .i64 0, .int .i64 0, .int .i64 0, .string (⟨#[]⟩ : ByteArray), .string (⟨#[]⟩ : ByteArray), .int .i64 0, .int .i64 0]) ?_ 9 _ rfl; (with_reducible repeat (first | refine blk_drewN ?_ _ | refine blk_drew ?_ | refine blk_alloc ?_ _)); refine blk_put (cs := #[.int .i64 t180, .int .i64 t183, .int .i64 0, .int .i64 0, .int .i64 0, .slice none 0 0, .string (⟨#[]⟩ : ByteArray), .int .i64 0, .int .i64 0, .int .i64 0, .string (⟨#[]⟩ : ByteArray), .string (⟨#[]⟩ : ByteArray), .int .i64 0, .int .i64 0]) ?_ 8 _ rfl; (with_reducible repeat (first | refine blk_drewN ?_ _ | refine blk_drew ?_ | refine blk_alloc ?_ _)); refine blk_put (cs := #[.int .i64 t180, .int .i64 t183, .int .i64 0, .int .i64 0, .int .i64 0, .slice none 0 0, .string (⟨#[]⟩ : ByteArray), .int .i64 0, .int .i64 0, .int .i64 0, .string (⟨#[]⟩ : ByteArray), .string (⟨#[]⟩ : ByteArray), .int .i64 0, .int .i64 0]) ?_ 7 _ rfl; (with_reducible repeat (first | refine blk_drewN ?_ _ | refine blk_drew ?_ | refine blk_alloc ?_ _)); refine blk_put (cs := #[.int .i64 t180, .int .i64 t183, .int .i64 0, .int .i64 0, .int .i64 0, .slice none 0 0, .string (⟨#[]⟩ : ByteArray), .int .i64 0, .int .i64 0, .int .i64 0, .string (⟨#[]⟩ : ByteArray), .string (⟨#[]⟩ : ByteArray), .int .i64 0, .int .i64 0]) ?_ 6 _ rfl; (with_reducible repeat (first | refine blk_drewN ?_ _ | refine blk_drew ?_ | refine blk_alloc ?_ _)); refine blk_put (cs := #[.int .i64 t180, .int .i64 t183, .int .i64 0, .int .i64 0, .int .i64 0, .slice none 0 0, .string (⟨#[]⟩ : ByteArray), .int .i64 0, .int .i64 0, .int .i64 0, .string (⟨#[]⟩ : ByteArray), .string (⟨#[]⟩ : ByteArray), .int .i64 0, .int .i64 0]) ?_ 5 _ rfl; (with_reducible repeat (first | refine blk_drewN ?_ _ | refine blk_drew ?_ | refine blk_alloc ?_ _)); refine blk_put (cs := #[.int .i64 t180, .int .i64 t183, .int .i64 0, .int .i64 0, .int .i64 0, .slice none 0 0, .string (⟨#[]⟩ : ByteArray), .int .i64 0, .int .i64 0, .int .i64 0, .string (⟨#[]⟩ : ByteArray), .string (⟨#[]⟩ : ByteArray), .int .i64 0, .int .i64 0]) ?_ 4 _ rfl; (with_reducible repeat (first | refine blk_drewN ?_ _ | refine blk_drew ?_ | refine blk_alloc ?_ _)); refine blk_put (cs := #[.int .i64 t180, .int .i64 t183, .int .i64 0, .int .i64 0, .int .i64 0, .slice none 0 0, .string (⟨#[]⟩ : ByteArray), .int .i64 0, .int .i64 0, .int .i64 0, .string (⟨#[]⟩ : ByteArray), .string (⟨#[]⟩ : ByteArray), .int .i64 0, .int .i64 0]) ?_ 3 _ rfl; (with_reducible repeat (first | refine blk_drewN ?_ _ | refine blk_drew ?_ | refine blk_alloc ?_ _)); refine blk_put (cs := #[.int .i64 t180, .int .i64 t183, .int .i64 0, .int .i64 0, .int .i64 0, .slice none 0 0, .string (⟨#[]⟩ : ByteArray), .int .i64 0, .int .i64 0, .int .i64 0, .string (⟨#[]⟩ : ByteArray), .string (⟨#[]⟩ : ByteArray), .int .i64 0, .int .i64 0]) ?_ 2 _ rfl; (with_reducible repeat (first | refine blk_drewN ?_ _ | refine blk_drew ?_ | refine blk_alloc ?_ _)); refine blk_put (cs := #[.int .i64 t180, .int .i64 0, .int .i64 0, .int .i64 0, .int .i64 0, .slice none 0 0, .string (⟨#[]⟩ : ByteArray), .int .i64 0, .int .i64 0, .int .i64 0, .string (⟨#[]⟩ : ByteArray), .string (⟨#[]⟩ : ByteArray), .int .i64 0, .int .i64 0]) ?_ 1 _ rfl; (with_reducible repeat (first | refine blk_drewN ?_ _ | refine blk_drew ?_ | refine blk_alloc ?_ _)); refine blk_put (cs := #[.int .i64 0, .int .i64 0, .int .i64 0, .int .i64 0, .int .i64 0, .slice none 0 0, .string (⟨#[]⟩ : ByteArray), .int .i64 0, .int .i64 0, .int .i64 0, .string (⟨#[]⟩ : ByteArray), .string (⟨#[]⟩ : ByteArray), .int .i64 0, .int .i64 0]) ?_ 0 _ rfl; (with_reducible repeat (first | refine blk_drewN ?_ _ | refine blk_drew ?_ | refine blk_alloc ?_ _)); exact BK186.out) NB186_179.out (by simp)); have n2_ := Aside0.mk (hb); have n3_ := Aside0.mk (hi); clear BK172; clear BK186; clear HB; clear HI179; have BK172 := n0_; have BK186 := n1_; have HB := n2_; have HI179 := n3_; clear n0_ n1_ n2_ n3_; (try clear hb); (try clear hb2); (try clear hk); (try clear hi); have hnb21 := NB186_172.out; have hnc21 := NB172_186.out; have hnb22 := NB186_179.out; have hnc22 := NB179_186.out; have hcz23_0 : w20.cell? ⟨gb186, 0, none⟩ = some (.int .i64 t180) := (blk_cell BK186.out 0).trans rfl; have hcz23_1 : w20.cell? ⟨gb186, 1, none⟩ = some (.int .i64 t183) := (blk_cell BK186.out 1).trans rfl; have hcz23_2 : w20.cell? ⟨gb186, 2, none⟩ = some (.int .i64 0) := (blk_cell BK186.out 2).trans rfl; have hcz23_3 : w20.cell? ⟨gb186, 3, none⟩ = some (.int .i64 0) := (blk_cell BK186.out 3).trans rfl; have hcz23_4 : w20.cell? ⟨gb186, 4, none⟩ = some (.int .i64 0) := (blk_cell BK186.out 4).trans rfl; have hcz23_5 : w20.cell? ⟨gb186, 5, none⟩ = some (.slice none 0 0) := (blk_cell BK186.out 5).trans rfl; have hcz23_6 : w20.cell? ⟨gb186, 6, none⟩ = some (.string (⟨#[]⟩ : ByteArray)) := (blk_cell BK186.out 6).trans rfl; have hcz23_7 : w20.cell? ⟨gb186, 7, none⟩ = some (.int .i64 0) := (blk_cell BK186.out 7).trans rfl; have hcz23_8 : w20.cell? ⟨gb186, 8, none⟩ = some (.int .i64 0) := (blk_cell BK186.out 8).trans rfl; have hcz23_9 : w20.cell? ⟨gb186, 9, none⟩ = some (.int .i64 0) := (blk_cell BK186.out 9).trans rfl; have hcz23_10 : w20.cell? ⟨gb186, 10, none⟩ = some (.string (⟨#[]⟩ : ByteArray)) := (blk_cell BK186.out 10).trans rfl; have hcz23_11 : w20.cell? ⟨gb186, 11, none⟩ = some (.string (⟨#[]⟩ : ByteArray)) := (blk_cell BK186.out 11).trans rfl; have hcz23_12 : w20.cell? ⟨gb186, 12, none⟩ = some (.int .i64 0) := (blk_cell BK186.out 12).trans rfl; have hcz23_13 : w20.cell? ⟨gb186, 13, none⟩ = some (.int .i64 0) := (blk_cell BK186.out 13).trans rfl; have hfz23_0 := blk_frozen BK186.out 0; have hfz23_1 := blk_frozen BK186.out 1; have hfz23_2 := blk_frozen BK186.out 2; have hfz23_3 := blk_frozen BK186.out 3; have hfz23_4 := blk_frozen BK186.out 4; have hfz23_5 := blk_frozen BK186.out 5; have hfz23_6 := blk_frozen BK186.out 6; have hfz23_7 := blk_frozen BK186.out 7; have hfz23_8 := blk_frozen BK186.out 8; have hfz23_9 := blk_frozen BK186.out 9; have hfz23_10 := blk_frozen BK186.out 10; have hfz23_11 := blk_frozen BK186.out 11; have hfz23_12 := blk_frozen BK186.out 12; have hfz23_13 := blk_frozen BK186.out 13))
        go_meet
        case rel => exact ⟨_, (t188), (t189), (0), (0), (0), (([] : List (S67))), ((⟨#[]⟩ : ByteArray)), (0), (0), (0), ((⟨#[]⟩ : ByteArray)), (t187), (0), (0), (.slice none 0 0), H', ⟨by first | omega | exact Nat.le_refl _⟩, ⟨by first | exact Kd.R_nil _ _ _ _ _ | exact Kd.N_nil _ _ _ _ _ | exact Kd.V_nil _ _ _ _ _ | exact Kd.Q_nil _ _ _ _ _ | exact Kd.S_nil _ _ _ _ _⟩, ⟨by (with_reducible repeat (first | refine blk_drewN ?_ _ | refine blk_drew ?_ | refine blk_alloc ?_ _)); refine blk_far ?_ NB172_186.out _; (with_reducible repeat (first | refine blk_drewN ?_ _ | refine blk_drew ?_ | refine blk_alloc ?_ _)); exact BK172.out⟩, ⟨by (with_reducible repeat (first | refine blk_drewN ?_ _ | refine blk_drew ?_ | refine blk_alloc ?_ _)); refine blk_put (cs := #[.int .i64 t180, .int .i64 t183, .int .i64 0, .int .i64 0, .int .i64 0, .slice none 0 0, .string (⟨#[]⟩ : ByteArray), .int .i64 0, .int .i64 0, .int .i64 0, .string (⟨#[]⟩ : ByteArray), .string (⟨#[]⟩ : ByteArray), .int .i64 0, .int .i64 0]) ?_ 11 _ rfl; (with_reducible repeat (first | refine blk_drewN ?_ _ | refine blk_drew ?_ | refine blk_alloc ?_ _)); exact BK186.out⟩, ⟨by repeat (first | (with_reducible first | exact HI179.out | apply IsS99.alloc | apply IsS99.drewN | apply IsS99.drew | apply IsS99.set_0 | apply IsS99.set_1 | refine IsS99.far ?_ NB179_172.out _ | refine IsS99.far ?_ NB179_186.out _) | exact HI179.out)⟩, ⟨by repeat (first | (with_reducible first | exact HB.out | apply below_alloc | apply pw_below_drewN | apply below_drew1 | refine below_set ?_ (IsS99.ge HI179.out) | refine below_set ?_ GE172.out | refine below_set ?_ GE186.out) | exact HB.out)⟩⟩
      · rw [if_neg c18] at H
        have c18b0 : (t183 == 1) = false := beq_eq_false_iff_ne.mpr c18
        have c18b1 : (t183 != 1) = true := bne_iff_ne.mpr c18
        (first | rw [c18b0] | (simp only [i64_w, i32_w]; rw [c18b0]) | skip)
        by_cases c24 : t183 = 0
        · rw [if_pos c24] at H
          have c24b0 : (t183 == 0) = true := beq_iff_eq.mpr c24
          have c24b1 : (t183 != 0) = false := bne_eq_false_iff_eq.mpr c24
          clear c24
          replace H := Option.bind_eq_some_iff.mp H
          obtain ⟨⟨t190, t191, t192, t193, t196, t197⟩, A250, H⟩ := H
          replace H : ((pack_Reader_Text.f k t196 t197).bind fun bt198 => ((pack_Reader_Number.f k bt198.2.1 bt198.2.2).bind fun bt201 => ((pack_Reader_Number.f k bt201.2.1 bt201.2.2).bind fun bt204 => ((pack_Reader_Rest.f bt204.2.1 bt204.2.2).bind fun bt207 => (record_Read.j0 k t176 bt207.2.1 bt207.2.2 t180 t183 t190 t191 t192 t193 bt198.1 t190 bt201.1 bt204.1 bt207.1 (⟨#[]⟩ : ByteArray) 0 0))))) = some (r1, r2, r3, r4, r5, r6, r7, r8, r9, r10, r11, r12, r13, r14, r15) := H
          have A25 := Aside0.mk A250
          clear A250
          replace H := Option.bind_eq_some_iff.mp H
          obtain ⟨⟨t198, t199, t200⟩, A260, H⟩ := H
          replace H : ((pack_Reader_Number.f k t199 t200).bind fun bt201 => ((pack_Reader_Number.f k bt201.2.1 bt201.2.2).bind fun bt204 => ((pack_Reader_Rest.f bt204.2.1 bt204.2.2).bind fun bt207 => (record_Read.j0 k t176 bt207.2.1 bt207.2.2 t180 t183 t190 t191 t192 t193 t198 t190 bt201.1 bt204.1 bt207.1 (⟨#[]⟩ : ByteArray) 0 0)))) = some (r1, r2, r3, r4, r5, r6, r7, r8, r9, r10, r11, r12, r13, r14, r15) := H
          have A26 := Aside0.mk A260
          clear A260
          replace H := Option.bind_eq_some_iff.mp H
          obtain ⟨⟨t201, t202, t203⟩, A270, H⟩ := H
          replace H : ((pack_Reader_Number.f k t202 t203).bind fun bt204 => ((pack_Reader_Rest.f bt204.2.1 bt204.2.2).bind fun bt207 => (record_Read.j0 k t176 bt207.2.1 bt207.2.2 t180 t183 t190 t191 t192 t193 t198 t190 t201 bt204.1 bt207.1 (⟨#[]⟩ : ByteArray) 0 0))) = some (r1, r2, r3, r4, r5, r6, r7, r8, r9, r10, r11, r12, r13, r14, r15) := H
          have A27 := Aside0.mk A270
          clear A270
          replace H := Option.bind_eq_some_iff.mp H
          obtain ⟨⟨t204, t205, t206⟩, A280, H⟩ := H
          replace H : ((pack_Reader_Rest.f t205 t206).bind fun bt207 => (record_Read.j0 k t176 bt207.2.1 bt207.2.2 t180 t183 t190 t191 t192 t193 t198 t190 t201 t204 bt207.1 (⟨#[]⟩ : ByteArray) 0 0)) = some (r1, r2, r3, r4, r5, r6, r7, r8, r9, r10, r11, r12, r13, r14, r15) := H
          have A28 := Aside0.mk A280
          clear A280
          replace H := Option.bind_eq_some_iff.mp H
          obtain ⟨⟨t207, t208, t209⟩, A290, H⟩ := H
          replace H : (record_Read.j0 k t176 t208 t209 t180 t183 t190 t191 t192 t193 t198 t190 t201 t204 t207 (⟨#[]⟩ : ByteArray) 0 0) = some (r1, r2, r3, r4, r5, r6, r7, r8, r9, r10, r11, r12, r13, r14, r15) := H
          have A29 := Aside0.mk A290
          clear A290
          have H' := Aside0.mk H
          clear H
          try go_wp2_with (first | ((with_reducible refine gate_callee (f := 44) rfl ?_); refine goesL_ (some 40) rfl rfl Try.func44 (by kernel_rfl) rfl #[.pointer (some ⟨g179, 0, none⟩)] rfl (by (try simp only [List.map_toArray, List.map_cons, List.map_nil]); first | done | rfl | (simp only [List.length_drop, List.length_take]; rfl)) ?_; (with_reducible refine (record_volume.calls k g179 t184 t185 t190 t191 t192 t193 t196 t197 w _ ?side1 ?side2 A25.out).mono ?_); (case side1 => repeat (first | (with_reducible first | exact HI179.out | apply IsS99.alloc | apply IsS99.drewN | apply IsS99.drew | apply IsS99.set_0 | apply IsS99.set_1 | refine IsS99.far ?_ NB179_172.out _ | refine IsS99.far ?_ NB179_186.out _) | exact HI179.out)); (case side2 => repeat (first | (with_reducible first | exact HB.out | apply below_alloc | apply pw_below_drewN | apply below_drew1 | refine below_set ?_ (IsS99.ge HI179.out) | refine below_set ?_ GE172.out | refine below_set ?_ GE186.out) | exact HB.out)); rintro e w30 ⟨v194, rfl, ho0, hi, hb, hk⟩; refine ⟨_, rfl, ?_⟩; have n0_ := Aside0.mk (KeepBut.blk hk (g' := gb172) (o := .cells #[.int .i64 0, .int .i64 0, .int .i64 0, .int .i64 0, .int .i64 0, .slice none 0 0, .string (⟨#[]⟩ : ByteArray), .int .i64 0, .int .i64 0, .int .i64 0, .string (⟨#[]⟩ : ByteArray), .string (⟨#[]⟩ : ByteArray), .int .i64 0, .int .i64 0] 34 (0, 0)) (by (with_reducible repeat (first | refine blk_drewN ?_ _ | refine blk_drew ?_ | refine blk_alloc ?_ _)); refine blk_far ?_ NB172_186.out _; (with_reducible repeat (first | refine blk_drewN ?_ _ | refine blk_drew ?_ | refine blk_alloc ?_ _)); refine blk_far ?_ NB172_186.out _; (with_reducible repeat (first | refine blk_drewN ?_ _ | refine blk_drew ?_ | refine blk_alloc ?_ _)); refine blk_far ?_ NB172_186.out _; (with_reducible repeat (first | refine blk_drewN ?_ _ | refine blk_drew ?_ | refine blk_alloc ?_ _)); refine blk_far ?_ NB172_186.out _; (with_reducible repeat (first | refine blk_drewN ?_ _ | refine blk_drew ?_ | refine blk_alloc ?_ _)); refine blk_far ?_ NB172_186.out _; (with_reducible repeat (first | refine blk_drewN ?_ _ | refine blk_drew ?_ | refine blk_alloc ?_ _)); refine blk_far ?_ NB172_186.out _; (with_reducible repeat (first | refine blk_drewN ?_ _ | refine blk_drew ?_ | refine blk_alloc ?_ _)); refine blk_far ?_ NB172_186.out _; (with_reducible repeat (first | refine blk_drewN ?_ _ | refine blk_drew ?_ | refine blk_alloc ?_ _)); refine blk_far ?_ NB172_186.out _; (with_reducible repeat (first | refine blk_drewN ?_ _ | refine blk_drew ?_ | refine blk_alloc ?_ _)); refine blk_far ?_ NB172_186.out _; (with_reducible repeat (first | refine blk_drewN ?_ _ | refine blk_drew ?_ | refine blk_alloc ?_ _)); refine blk_far ?_ NB172_186.out _; (with_reducible repeat (first | refine blk_drewN ?_ _ | refine blk_drew ?_ | refine blk_alloc ?_ _)); refine blk_far ?_ NB172_186.out _; (with_reducible repeat (first | refine blk_drewN ?_ _ | refine blk_drew ?_ | refine blk_alloc ?_ _)); refine blk_far ?_ NB172_186.out _; (with_reducible repeat (first | refine blk_drewN ?_ _ | refine blk_drew ?_ | refine blk_alloc ?_ _)); refine blk_far ?_ NB172_186.out _; (with_reducible repeat (first | refine blk_drewN ?_ _ | refine blk_drew ?_ | refine blk_alloc ?_ _)); refine blk_far ?_ NB172_186.out _; (with_reducible repeat (first | refine blk_drewN ?_ _ | refine blk_drew ?_ | refine blk_alloc ?_ _)); exact BK172.out) NB172_179.out (by simp)); have n1_ := Aside0.mk (KeepBut.blk hk (g' := gb186) (o := .cells #[.int .i64 t180, .int .i64 t183, .int .i64 0, .int .i64 0, .int .i64 0, .slice none 0 0, .string (⟨#[]⟩ : ByteArray), .int .i64 0, .int .i64 0, .int .i64 0, .string (⟨#[]⟩ : ByteArray), .string (⟨#[]⟩ : ByteArray), .int .i64 0, .int .i64 0] 34 (0, 0)) (by (with_reducible repeat (first | refine blk_drewN ?_ _ | refine blk_drew ?_ | refine blk_alloc ?_ _)); refine blk_put (cs := #[.int .i64 t180, .int .i64 t183, .int .i64 0, .int .i64 0, .int .i64 0, .slice none 0 0, .string (⟨#[]⟩ : ByteArray), .int .i64 0, .int .i64 0, .int .i64 0, .string (⟨#[]⟩ : ByteArray), .string (⟨#[]⟩ : ByteArray), .int .i64 0, .int .i64 0]) ?_ 13 _ rfl; (with_reducible repeat (first | refine blk_drewN ?_ _ | refine blk_drew ?_ | refine blk_alloc ?_ _)); refine blk_put (cs := #[.int .i64 t180, .int .i64 t183, .int .i64 0, .int .i64 0, .int .i64 0, .slice none 0 0, .string (⟨#[]⟩ : ByteArray), .int .i64 0, .int .i64 0, .int .i64 0, .string (⟨#[]⟩ : ByteArray), .string (⟨#[]⟩ : ByteArray), .int .i64 0, .int .i64 0]) ?_ 12 _ rfl; (with_reducible repeat (first | refine blk_drewN ?_ _ | refine blk_drew ?_ | refine blk_alloc ?_ _)); refine blk_put (cs := #[.int .i64 t180, .int .i64 t183, .int .i64 0, .int .i64 0, .int .i64 0, .slice none 0 0, .string (⟨#[]⟩ : ByteArray), .int .i64 0, .int .i64 0, .int .i64 0, .string (⟨#[]⟩ : ByteArray), .string (⟨#[]⟩ : ByteArray), .int .i64 0, .int .i64 0]) ?_ 11 _ rfl; (with_reducible repeat (first | refine blk_drewN ?_ _ | refine blk_drew ?_ | refine blk_alloc ?_ _)); refine blk_put (cs := #[.int .i64 t180, .int .i64 t183, .int .i64 0, .int .i64 0, .int .i64 0, .slice none 0 0, .string (⟨#[]⟩ : ByteArray), .int .i64 0, .int .i64 0, .int .i64 0, .string (⟨#[]⟩ : ByteArray), .string (⟨#[]⟩ : ByteArray), .int .i64 0, .int .i64 0]) ?_ 10 _ rfl; (with_reducible repeat (first | refine blk_drewN ?_ _ | refine blk_drew ?_ | refine blk_alloc ?_ _)); refine blk_put (cs := #[.int .i64 t180, .int .i64 t183, .int .i64 0, .int .i64 0, .int .i64 0, .slice none 0 0, .string (⟨#[]⟩ : ByteArray), .int .i64 0, .int .i64 0, .int .i64 0, .string (⟨#[]⟩ : ByteArray), .string (⟨#[]⟩ : ByteArray), .int .i64 0, .int .i64 0]) ?_ 9 _ rfl; (with_reducible repeat (first | refine blk_drewN ?_ _ | refine blk_drew ?_ | refine blk_alloc ?_ _)); refine blk_put (cs := #[.int .i64 t180, .int .i64 t183, .int .i64 0, .int .i64 0, .int .i64 0, .slice none 0 0, .string (⟨#[]⟩ : ByteArray), .int .i64 0, .int .i64 0, .int .i64 0, .string (⟨#[]⟩ : ByteArray), .string (⟨#[]⟩ : ByteArray), .int .i64 0, .int .i64 0]) ?_ 8 _ rfl; (with_reducible repeat (first | refine blk_drewN ?_ _ | refine blk_drew ?_ | refine blk_alloc ?_ _)); refine blk_put (cs := #[.int .i64 t180, .int .i64 t183, .int .i64 0, .int .i64 0, .int .i64 0, .slice none 0 0, .string (⟨#[]⟩ : ByteArray), .int .i64 0, .int .i64 0, .int .i64 0, .string (⟨#[]⟩ : ByteArray), .string (⟨#[]⟩ : ByteArray), .int .i64 0, .int .i64 0]) ?_ 7 _ rfl; (with_reducible repeat (first | refine blk_drewN ?_ _ | refine blk_drew ?_ | refine blk_alloc ?_ _)); refine blk_put (cs := #[.int .i64 t180, .int .i64 t183, .int .i64 0, .int .i64 0, .int .i64 0, .slice none 0 0, .string (⟨#[]⟩ : ByteArray), .int .i64 0, .int .i64 0, .int .i64 0, .string (⟨#[]⟩ : ByteArray), .string (⟨#[]⟩ : ByteArray), .int .i64 0, .int .i64 0]) ?_ 6 _ rfl; (with_reducible repeat (first | refine blk_drewN ?_ _ | refine blk_drew ?_ | refine blk_alloc ?_ _)); refine blk_put (cs := #[.int .i64 t180, .int .i64 t183, .int .i64 0, .int .i64 0, .int .i64 0, .slice none 0 0, .string (⟨#[]⟩ : ByteArray), .int .i64 0, .int .i64 0, .int .i64 0, .string (⟨#[]⟩ : ByteArray), .string (⟨#[]⟩ : ByteArray), .int .i64 0, .int .i64 0]) ?_ 5 _ rfl; (with_reducible repeat (first | refine blk_drewN ?_ _ | refine blk_drew ?_ | refine blk_alloc ?_ _)); refine blk_put (cs := #[.int .i64 t180, .int .i64 t183, .int .i64 0, .int .i64 0, .int .i64 0, .slice none 0 0, .string (⟨#[]⟩ : ByteArray), .int .i64 0, .int .i64 0, .int .i64 0, .string (⟨#[]⟩ : ByteArray), .string (⟨#[]⟩ : ByteArray), .int .i64 0, .int .i64 0]) ?_ 4 _ rfl; (with_reducible repeat (first | refine blk_drewN ?_ _ | refine blk_drew ?_ | refine blk_alloc ?_ _)); refine blk_put (cs := #[.int .i64 t180, .int .i64 t183, .int .i64 0, .int .i64 0, .int .i64 0, .slice none 0 0, .string (⟨#[]⟩ : ByteArray), .int .i64 0, .int .i64 0, .int .i64 0, .string (⟨#[]⟩ : ByteArray), .string (⟨#[]⟩ : ByteArray), .int .i64 0, .int .i64 0]) ?_ 3 _ rfl; (with_reducible repeat (first | refine blk_drewN ?_ _ | refine blk_drew ?_ | refine blk_alloc ?_ _)); refine blk_put (cs := #[.int .i64 t180, .int .i64 t183, .int .i64 0, .int .i64 0, .int .i64 0, .slice none 0 0, .string (⟨#[]⟩ : ByteArray), .int .i64 0, .int .i64 0, .int .i64 0, .string (⟨#[]⟩ : ByteArray), .string (⟨#[]⟩ : ByteArray), .int .i64 0, .int .i64 0]) ?_ 2 _ rfl; (with_reducible repeat (first | refine blk_drewN ?_ _ | refine blk_drew ?_ | refine blk_alloc ?_ _)); refine blk_put (cs := #[.int .i64 t180, .int .i64 0, .int .i64 0, .int .i64 0, .int .i64 0, .slice none 0 0, .string (⟨#[]⟩ : ByteArray), .int .i64 0, .int .i64 0, .int .i64 0, .string (⟨#[]⟩ : ByteArray), .string (⟨#[]⟩ : ByteArray), .int .i64 0, .int .i64 0]) ?_ 1 _ rfl; (with_reducible repeat (first | refine blk_drewN ?_ _ | refine blk_drew ?_ | refine blk_alloc ?_ _)); refine blk_put (cs := #[.int .i64 0, .int .i64 0, .int .i64 0, .int .i64 0, .int .i64 0, .slice none 0 0, .string (⟨#[]⟩ : ByteArray), .int .i64 0, .int .i64 0, .int .i64 0, .string (⟨#[]⟩ : ByteArray), .string (⟨#[]⟩ : ByteArray), .int .i64 0, .int .i64 0]) ?_ 0 _ rfl; (with_reducible repeat (first | refine blk_drewN ?_ _ | refine blk_drew ?_ | refine blk_alloc ?_ _)); exact BK186.out) NB186_179.out (by simp)); have n2_ := Aside0.mk (Kd.R_lower ho0 (below_size (by repeat (first | (with_reducible first | exact HB.out | apply below_alloc | apply pw_below_drewN | apply below_drew1 | refine below_set ?_ (IsS99.ge HI179.out) | refine below_set ?_ GE172.out | refine below_set ?_ GE186.out) | exact HB.out)))); have n3_ := Aside0.mk (hb); have n4_ := Aside0.mk (hi); clear BK172; clear BK186; clear HB; clear HI179; have BK172 := n0_; have BK186 := n1_; have HO195 := n2_; have HB := n3_; have HI179 := n4_; clear n0_ n1_ n2_ n3_ n4_; (try clear hb); (try clear hb2); (try clear hk); (try clear hi); (try clear ho0); have hnb31 := NB186_172.out; have hnc31 := NB172_186.out; have hnb32 := NB186_179.out; have hnc32 := NB179_186.out; have hcz33_0 : w30.cell? ⟨gb186, 0, none⟩ = some (.int .i64 t180) := (blk_cell BK186.out 0).trans rfl; have hcz33_1 : w30.cell? ⟨gb186, 1, none⟩ = some (.int .i64 t183) := (blk_cell BK186.out 1).trans rfl; have hcz33_2 : w30.cell? ⟨gb186, 2, none⟩ = some (.int .i64 0) := (blk_cell BK186.out 2).trans rfl; have hcz33_3 : w30.cell? ⟨gb186, 3, none⟩ = some (.int .i64 0) := (blk_cell BK186.out 3).trans rfl; have hcz33_4 : w30.cell? ⟨gb186, 4, none⟩ = some (.int .i64 0) := (blk_cell BK186.out 4).trans rfl; have hcz33_5 : w30.cell? ⟨gb186, 5, none⟩ = some (.slice none 0 0) := (blk_cell BK186.out 5).trans rfl; have hcz33_6 : w30.cell? ⟨gb186, 6, none⟩ = some (.string (⟨#[]⟩ : ByteArray)) := (blk_cell BK186.out 6).trans rfl; have hcz33_7 : w30.cell? ⟨gb186, 7, none⟩ = some (.int .i64 0) := (blk_cell BK186.out 7).trans rfl; have hcz33_8 : w30.cell? ⟨gb186, 8, none⟩ = some (.int .i64 0) := (blk_cell BK186.out 8).trans rfl; have hcz33_9 : w30.cell? ⟨gb186, 9, none⟩ = some (.int .i64 0) := (blk_cell BK186.out 9).trans rfl; have hcz33_10 : w30.cell? ⟨gb186, 10, none⟩ = some (.string (⟨#[]⟩ : ByteArray)) := (blk_cell BK186.out 10).trans rfl; have hcz33_11 : w30.cell? ⟨gb186, 11, none⟩ = some (.string (⟨#[]⟩ : ByteArray)) := (blk_cell BK186.out 11).trans rfl; have hcz33_12 : w30.cell? ⟨gb186, 12, none⟩ = some (.int .i64 0) := (blk_cell BK186.out 12).trans rfl; have hcz33_13 : w30.cell? ⟨gb186, 13, none⟩ = some (.int .i64 0) := (blk_cell BK186.out 13).trans rfl; have hfz33_0 := blk_frozen BK186.out 0; have hfz33_1 := blk_frozen BK186.out 1; have hfz33_2 := blk_frozen BK186.out 2; have hfz33_3 := blk_frozen BK186.out 3; have hfz33_4 := blk_frozen BK186.out 4; have hfz33_5 := blk_frozen BK186.out 5; have hfz33_6 := blk_frozen BK186.out 6; have hfz33_7 := blk_frozen BK186.out 7; have hfz33_8 := blk_frozen BK186.out 8; have hfz33_9 := blk_frozen BK186.out 9; have hfz33_10 := blk_frozen BK186.out 10; have hfz33_11 := blk_frozen BK186.out 11; have hfz33_12 := blk_frozen BK186.out 12; have hfz33_13 := blk_frozen BK186.out 13; obtain ⟨Ao34, co34, eo34⟩ := Kd.R_slice HO195.out; subst eo34))
          have n0_ : Aside0 (Kd.R k67 67 ((((w30.setCell ⟨gb186, 2, none⟩ (.int .i64 t190)).setCell ⟨gb186, 3, none⟩ (.int .i64 t191)).setCell ⟨gb186, 4, none⟩ (.int .i64 t192)).setCell ⟨gb186, 5, none⟩ (.slice Ao34 t193.length co34)) w.heap.size (fun _ => True) (.slice Ao34 t193.length co34) t193) := ⟨by (with_reducible repeat (first | apply Kd.R_alloc | apply Kd.R_drewN | apply Kd.R_drew)); exact Kd.R_mono (Kd.R_far (p := ⟨gb186, 5, none⟩) (Kd.R_far (p := ⟨gb186, 4, none⟩) (Kd.R_far (p := ⟨gb186, 3, none⟩) (Kd.R_far (p := ⟨gb186, 2, none⟩) (Kd.R_types HO195.out BK186.out (by decide)) (fun _ hk => hk.2) (.int .i64 t190)) (fun _ hk => hk.2) (.int .i64 t191)) (fun _ hk => hk.2) (.int .i64 t192)) (fun _ hk => hk.2) (.slice Ao34 t193.length co34)) (fun _ hk => trivial)⟩
          have n1_ : Aside0 (((((w30.setCell ⟨gb186, 2, none⟩ (.int .i64 t190)).setCell ⟨gb186, 3, none⟩ (.int .i64 t191)).setCell ⟨gb186, 4, none⟩ (.int .i64 t192)).setCell ⟨gb186, 5, none⟩ (.slice Ao34 t193.length co34)).heap[gb172]? = some (.cells #[.int .i64 0, .int .i64 0, .int .i64 0, .int .i64 0, .int .i64 0, .slice none 0 0, .string (⟨#[]⟩ : ByteArray), .int .i64 0, .int .i64 0, .int .i64 0, .string (⟨#[]⟩ : ByteArray), .string (⟨#[]⟩ : ByteArray), .int .i64 0, .int .i64 0] 34 (0, 0))) := ⟨by (with_reducible repeat (first | refine blk_drewN ?_ _ | refine blk_drew ?_ | refine blk_alloc ?_ _)); refine blk_far ?_ NB172_186.out _; (with_reducible repeat (first | refine blk_drewN ?_ _ | refine blk_drew ?_ | refine blk_alloc ?_ _)); refine blk_far ?_ NB172_186.out _; (with_reducible repeat (first | refine blk_drewN ?_ _ | refine blk_drew ?_ | refine blk_alloc ?_ _)); refine blk_far ?_ NB172_186.out _; (with_reducible repeat (first | refine blk_drewN ?_ _ | refine blk_drew ?_ | refine blk_alloc ?_ _)); refine blk_far ?_ NB172_186.out _; (with_reducible repeat (first | refine blk_drewN ?_ _ | refine blk_drew ?_ | refine blk_alloc ?_ _)); exact BK172.out⟩
          have n2_ : Aside0 (((((w30.setCell ⟨gb186, 2, none⟩ (.int .i64 t190)).setCell ⟨gb186, 3, none⟩ (.int .i64 t191)).setCell ⟨gb186, 4, none⟩ (.int .i64 t192)).setCell ⟨gb186, 5, none⟩ (.slice Ao34 t193.length co34)).heap[gb186]? = some (.cells #[.int .i64 t180, .int .i64 t183, .int .i64 t190, .int .i64 t191, .int .i64 t192, .slice Ao34 t193.length co34, .string (⟨#[]⟩ : ByteArray), .int .i64 0, .int .i64 0, .int .i64 0, .string (⟨#[]⟩ : ByteArray), .string (⟨#[]⟩ : ByteArray), .int .i64 0, .int .i64 0] 34 (0, 0))) := ⟨by (with_reducible repeat (first | refine blk_drewN ?_ _ | refine blk_drew ?_ | refine blk_alloc ?_ _)); refine blk_put (cs := #[.int .i64 t180, .int .i64 t183, .int .i64 t190, .int .i64 t191, .int .i64 t192, .slice none 0 0, .string (⟨#[]⟩ : ByteArray), .int .i64 0, .int .i64 0, .int .i64 0, .string (⟨#[]⟩ : ByteArray), .string (⟨#[]⟩ : ByteArray), .int .i64 0, .int .i64 0]) ?_ 5 _ rfl; (with_reducible repeat (first | refine blk_drewN ?_ _ | refine blk_drew ?_ | refine blk_alloc ?_ _)); refine blk_put (cs := #[.int .i64 t180, .int .i64 t183, .int .i64 t190, .int .i64 t191, .int .i64 0, .slice none 0 0, .string (⟨#[]⟩ : ByteArray), .int .i64 0, .int .i64 0, .int .i64 0, .string (⟨#[]⟩ : ByteArray), .string (⟨#[]⟩ : ByteArray), .int .i64 0, .int .i64 0]) ?_ 4 _ rfl; (with_reducible repeat (first | refine blk_drewN ?_ _ | refine blk_drew ?_ | refine blk_alloc ?_ _)); refine blk_put (cs := #[.int .i64 t180, .int .i64 t183, .int .i64 t190, .int .i64 0, .int .i64 0, .slice none 0 0, .string (⟨#[]⟩ : ByteArray), .int .i64 0, .int .i64 0, .int .i64 0, .string (⟨#[]⟩ : ByteArray), .string (⟨#[]⟩ : ByteArray), .int .i64 0, .int .i64 0]) ?_ 3 _ rfl; (with_reducible repeat (first | refine blk_drewN ?_ _ | refine blk_drew ?_ | refine blk_alloc ?_ _)); refine blk_put (cs := #[.int .i64 t180, .int .i64 t183, .int .i64 0, .int .i64 0, .int .i64 0, .slice none 0 0, .string (⟨#[]⟩ : ByteArray), .int .i64 0, .int .i64 0, .int .i64 0, .string (⟨#[]⟩ : ByteArray), .string (⟨#[]⟩ : ByteArray), .int .i64 0, .int .i64 0]) ?_ 2 _ rfl; (with_reducible repeat (first | refine blk_drewN ?_ _ | refine blk_drew ?_ | refine blk_alloc ?_ _)); exact BK186.out⟩
          have n3_ : Aside0 (IsS99 w ((((w30.setCell ⟨gb186, 2, none⟩ (.int .i64 t190)).setCell ⟨gb186, 3, none⟩ (.int .i64 t191)).setCell ⟨gb186, 4, none⟩ (.int .i64 t192)).setCell ⟨gb186, 5, none⟩ (.slice Ao34 t193.length co34)) g179 t196 t197) := ⟨by repeat (first | (with_reducible first | exact HI179.out | apply IsS99.alloc | apply IsS99.drewN | apply IsS99.drew | apply IsS99.set_0 | apply IsS99.set_1 | refine IsS99.far ?_ NB179_172.out _ | refine IsS99.far ?_ NB179_186.out _) | exact HI179.out)⟩
          have n4_ : Aside0 (Below w.heap.size w ((((w30.setCell ⟨gb186, 2, none⟩ (.int .i64 t190)).setCell ⟨gb186, 3, none⟩ (.int .i64 t191)).setCell ⟨gb186, 4, none⟩ (.int .i64 t192)).setCell ⟨gb186, 5, none⟩ (.slice Ao34 t193.length co34))) := ⟨by repeat (first | (with_reducible first | exact HB.out | apply below_alloc | apply pw_below_drewN | apply below_drew1 | refine below_set ?_ (IsS99.ge HI179.out) | refine below_set ?_ GE172.out | refine below_set ?_ GE186.out) | exact HB.out)⟩
          (try clear HO195)
          (try clear BK172)
          (try clear BK186)
          (try clear HI179)
          (try clear HB)
          generalize ((((w30.setCell ⟨gb186, 2, none⟩ (.int .i64 t190)).setCell ⟨gb186, 3, none⟩ (.int .i64 t191)).setCell ⟨gb186, 4, none⟩ (.int .i64 t192)).setCell ⟨gb186, 5, none⟩ (.slice Ao34 t193.length co34)) = w35 at n0_ n1_ n2_ n3_ n4_ ⊢
          have HO195 := n0_
          have BK172 := n1_
          have BK186 := n2_
          have HI179 := n3_
          have HB := n4_
          clear n0_ n1_ n2_ n3_ n4_
          have n0_ := Aside0.mk (Kd.R_drew HO195.out)
          have n1_ := Aside0.mk (blk_drew BK172.out)
          have n2_ := Aside0.mk (blk_drew BK186.out)
          have n3_ := Aside0.mk (IsS99.drew HI179.out)
          have n4_ := Aside0.mk (below_drew1 HB.out)
          clear HO195
          clear BK172
          clear BK186
          clear HI179
          clear HB
          have HO195 := n0_
          have BK172 := n1_
          have BK186 := n2_
          have HI179 := n3_
          have HB := n4_
          clear n0_ n1_ n2_ n3_ n4_
          refine start_ (n := 14) (S := fun w' => w'.cell? ⟨gb186, 0, none⟩ = some (.int .i64 t180) ∧ w'.cell? ⟨gb186, 1, none⟩ = some (.int .i64 t183) ∧ w'.cell? ⟨gb186, 2, none⟩ = some (.int .i64 t190) ∧ w'.cell? ⟨gb186, 3, none⟩ = some (.int .i64 t191) ∧ w'.cell? ⟨gb186, 4, none⟩ = some (.int .i64 t192) ∧ w'.cell? ⟨gb186, 5, none⟩ = some (.slice Ao34 t193.length co34) ∧ w'.cell? ⟨gb186, 6, none⟩ = some (.string (⟨#[]⟩ : ByteArray)) ∧ w'.cell? ⟨gb186, 7, none⟩ = some (.int .i64 0) ∧ w'.cell? ⟨gb186, 8, none⟩ = some (.int .i64 0) ∧ w'.cell? ⟨gb186, 9, none⟩ = some (.int .i64 0) ∧ w'.cell? ⟨gb186, 10, none⟩ = some (.string (⟨#[]⟩ : ByteArray)) ∧ w'.cell? ⟨gb186, 11, none⟩ = some (.string (⟨#[]⟩ : ByteArray)) ∧ w'.cell? ⟨gb186, 12, none⟩ = some (.int .i64 0) ∧ w'.cell? ⟨gb186, 13, none⟩ = some (.int .i64 0)) (ds := [13]) #[false, false, false, false, false, false, false, false, false, false, false, false, false, false] (by kernel_rfl) rfl rfl ⟨(blk_cell BK186.out 0).trans rfl, (blk_cell BK186.out 1).trans rfl, (blk_cell BK186.out 2).trans rfl, (blk_cell BK186.out 3).trans rfl, (blk_cell BK186.out 4).trans rfl, (blk_cell BK186.out 5).trans rfl, (blk_cell BK186.out 6).trans rfl, (blk_cell BK186.out 7).trans rfl, (blk_cell BK186.out 8).trans rfl, (blk_cell BK186.out 9).trans rfl, (blk_cell BK186.out 10).trans rfl, (blk_cell BK186.out 11).trans rfl, (blk_cell BK186.out 12).trans rfl, (blk_cell BK186.out 13).trans rfl⟩ (fun hHeld => ?_); refine with_tabW record_Read.tab12 record_Read.bits12 (fun HT_ HW_ => ?_)
          generalize w35.drew = w36 at HO195 BK172 BK186 HI179 HB hHeld ⊢
          refine pure_ (i := 0) (N := some 42) (v := ?_) (a' := ?_) #[true, false, false, false, false, false, false, false, false, false, false, false, false, false] rfl rfl (any_of HT_.out (by kernel_rfl)) (fun _ _ _ h => h) (Or.inl ⟨by rfl, ?_⟩) ?_ ?_
          rotate_left
          · intro w'
            go_simp
            with_reducible rfl
          rotate_left
          · simp only [Act.put, List.setIfInBounds_toArray, List.set_cons_zero, List.set_cons_succ, i64_w, i32_w]
            rfl
          refine pure_ (i := 2) (N := some 44) (v := ?_) (a' := ?_) #[true, false, true, false, false, false, false, false, false, false, false, false, false, false] rfl rfl (any_of HT_.out (by kernel_rfl)) (fun _ _ _ h => h) (Or.inl ⟨by rfl, ?_⟩) ?_ ?_
          rotate_left
          · intro w'
            go_simp
            with_reducible rfl
          rotate_left
          · simp only [Act.put, List.setIfInBounds_toArray, List.set_cons_zero, List.set_cons_succ, i64_w, i32_w]
            rfl
          refine pure_ (i := 3) (N := some 45) (v := ?_) (a' := ?_) #[true, false, true, true, false, false, false, false, false, false, false, false, false, false] rfl rfl (any_of HT_.out (by kernel_rfl)) (fun _ _ _ h => h) (Or.inl ⟨by rfl, ?_⟩) ?_ ?_
          rotate_left
          · intro w'
            go_simp
            with_reducible rfl
          rotate_left
          · simp only [Act.put, List.setIfInBounds_toArray, List.set_cons_zero, List.set_cons_succ, i64_w, i32_w]
            rfl
          refine pure_ (i := 5) (N := some 47) (v := ?_) (a' := ?_) #[true, false, true, true, false, true, false, false, false, false, false, false, false, false] rfl rfl (any_of HT_.out (by kernel_rfl)) (fun _ _ _ h => h) (Or.inl ⟨by rfl, ?_⟩) ?_ ?_
          rotate_left
          · intro w'
            go_simp
            with_reducible rfl
          rotate_left
          · simp only [Act.put, List.setIfInBounds_toArray, List.set_cons_zero, List.set_cons_succ, i64_w, i32_w]
            rfl
          refine pure_ (i := 7) (N := some 49) (v := ?_) (a' := ?_) #[true, false, true, true, false, true, false, true, false, false, false, false, false, false] rfl rfl (any_of HT_.out (by kernel_rfl)) (fun _ _ _ h => h) (Or.inl ⟨by rfl, ?_⟩) ?_ ?_
          rotate_left
          · intro w'
            go_simp
            with_reducible rfl
          rotate_left
          · simp only [Act.put, List.setIfInBounds_toArray, List.set_cons_zero, List.set_cons_succ, i64_w, i32_w]
            rfl
          refine pure_ (i := 9) (N := some 51) (v := ?_) (a' := ?_) #[true, false, true, true, false, true, false, true, false, true, false, false, false, false] rfl rfl (any_of HT_.out (by kernel_rfl)) (fun _ _ _ h => h) (Or.inl ⟨by rfl, ?_⟩) ?_ ?_
          rotate_left
          · intro w'
            go_simp
            with_reducible rfl
          rotate_left
          · simp only [Act.put, List.setIfInBounds_toArray, List.set_cons_zero, List.set_cons_succ, i64_w, i32_w]
            rfl
          refine take_ (i := 4) (N := some 46) (v := ?_) (a' := ?_) #[true, false, true, true, true, true, false, true, false, true, false, false, false, false] rfl rfl (take_ofW HT_.out HW_.out (by kernel_rfl)) (fun _ _ _ h => h) (Or.inl ⟨by rfl, ?_⟩) hHeld ?_ ?_
          rotate_left
          · rintro w' ⟨s0, s1, s2, s3, s4, s5, s6, s7, s8, s9, s10, s11, s12, s13⟩
            go_simp
            with_reducible rfl
          rotate_left
          · simp only [Act.put, List.setIfInBounds_toArray, List.set_cons_zero, List.set_cons_succ, i64_w, i32_w]
            rfl
          refine one_ (i := 1) (N := some 43) #[true, true, true, true, true, true, false, true, false, true, false, false, false, false] rfl rfl (one_of HT_.out (by kernel_rfl)) (by decide) (fun K hK => ?_)
          refine goes_ Try.func43 (by kernel_rfl) rfl #[.pointer (some ⟨g179, 0, none⟩)] (by rfl) rfl rfl (by (try simp only [List.map_toArray, List.map_cons, List.map_nil]); first | done | rfl | (simp only [List.length_drop, List.length_take]; rfl)) ?_
          with_reducible refine (pack_Reader_Text.calls k g179 t196 t197 t198 t199 t200 w _ ?side1 ?side2 A26.out).mono ?_
          (case side1 => repeat (first | (with_reducible first | exact HI179.out | apply IsS99.alloc | apply IsS99.drewN | apply IsS99.drew | apply IsS99.set_0 | apply IsS99.set_1 | refine IsS99.far ?_ NB179_172.out _ | refine IsS99.far ?_ NB179_186.out _) | exact HI179.out))
          (case side2 => repeat (first | (with_reducible first | exact HB.out | apply below_alloc | apply pw_below_drewN | apply below_drew1 | refine below_set ?_ (IsS99.ge HI179.out) | refine below_set ?_ GE172.out | refine below_set ?_ GE186.out) | exact HB.out))
          rintro e w37 ⟨rfl, hi, hb, hk⟩
          refine ⟨_, rfl, ?_⟩
          have n0_ := Aside0.mk (KeepBut.blk hk (g' := gb172) (o := .cells #[.int .i64 0, .int .i64 0, .int .i64 0, .int .i64 0, .int .i64 0, .slice none 0 0, .string (⟨#[]⟩ : ByteArray), .int .i64 0, .int .i64 0, .int .i64 0, .string (⟨#[]⟩ : ByteArray), .string (⟨#[]⟩ : ByteArray), .int .i64 0, .int .i64 0] 34 (0, 0)) (by (with_reducible repeat (first | refine blk_drewN ?_ _ | refine blk_drew ?_ | refine blk_alloc ?_ _)); exact BK172.out) NB172_179.out (by simp))
          have n1_ := Aside0.mk (KeepBut.blk hk (g' := gb186) (o := .cells #[.int .i64 t180, .int .i64 t183, .int .i64 t190, .int .i64 t191, .int .i64 t192, .slice Ao34 t193.length co34, .string (⟨#[]⟩ : ByteArray), .int .i64 0, .int .i64 0, .int .i64 0, .string (⟨#[]⟩ : ByteArray), .string (⟨#[]⟩ : ByteArray), .int .i64 0, .int .i64 0] 34 (0, 0)) (by (with_reducible repeat (first | refine blk_drewN ?_ _ | refine blk_drew ?_ | refine blk_alloc ?_ _)); exact BK186.out) NB186_179.out (by simp))
          have n2_ := Aside0.mk (Kd.R_mono (Kd.R_keep (IsS99.apart (show IsS99 w _ g179 t196 t197 from by repeat (first | (with_reducible first | exact HI179.out | apply IsS99.alloc | apply IsS99.drewN | apply IsS99.drew | apply IsS99.set_0 | apply IsS99.set_1 | refine IsS99.far ?_ NB179_172.out _ | refine IsS99.far ?_ NB179_186.out _) | exact HI179.out)) (by (with_reducible repeat (first | apply Kd.R_alloc | apply Kd.R_drewN | apply Kd.R_drew)); exact HO195.out) (by decide)) hk (fun _ h => h.2)) (fun _ h => h.1))
          have n3_ := Aside0.mk (hb)
          have n4_ := Aside0.mk (hi)
          clear BK172
          clear BK186
          clear HO195
          clear HB
          clear HI179
          have BK172 := n0_
          have BK186 := n1_
          have HO195 := n2_
          have HB := n3_
          have HI179 := n4_
          clear n0_ n1_ n2_ n3_ n4_
          (try clear hb)
          (try clear hb2)
          (try clear hk)
          (try clear hi)
          refine hK.out _ _ ⟨(blk_cell BK186.out 0).trans rfl, (blk_cell BK186.out 1).trans rfl, (blk_cell BK186.out 2).trans rfl, (blk_cell BK186.out 3).trans rfl, (blk_cell BK186.out 4).trans rfl, (blk_cell BK186.out 5).trans rfl, (blk_cell BK186.out 6).trans rfl, (blk_cell BK186.out 7).trans rfl, (blk_cell BK186.out 8).trans rfl, (blk_cell BK186.out 9).trans rfl, (blk_cell BK186.out 10).trans rfl, (blk_cell BK186.out 11).trans rfl, (blk_cell BK186.out 12).trans rfl, (blk_cell BK186.out 13).trans rfl⟩ (fun hHeld => ?_)
          clear hK K
          refine norm_ (a' := ?_) ?_ ?_
          rotate_left
          · show Act.put _ (some 43) _ = _
            simp only [Act.put, List.setIfInBounds_toArray, List.set_cons_zero, List.set_cons_succ, i64_w, i32_w]
            rfl
          refine one_ (i := 6) (N := some 48) #[true, true, true, true, true, true, true, true, false, true, false, false, false, false] rfl rfl (one_of HT_.out (by kernel_rfl)) (by decide) (fun K hK => ?_)
          refine goes_ Try.func42 (by kernel_rfl) rfl #[.pointer (some ⟨g179, 0, none⟩)] (by rfl) rfl rfl (by (try simp only [List.map_toArray, List.map_cons, List.map_nil]); first | done | rfl | (simp only [List.length_drop, List.length_take]; rfl)) ?_
          with_reducible refine (pack_Reader_Number.calls k g179 t199 t200 t201 t202 t203 w _ ?side1 ?side2 A27.out).mono ?_
          (case side1 => repeat (first | (with_reducible first | exact HI179.out | apply IsS99.alloc | apply IsS99.drewN | apply IsS99.drew | apply IsS99.set_0 | apply IsS99.set_1 | refine IsS99.far ?_ NB179_172.out _ | refine IsS99.far ?_ NB179_186.out _) | exact HI179.out))
          (case side2 => repeat (first | (with_reducible first | exact HB.out | apply below_alloc | apply pw_below_drewN | apply below_drew1 | refine below_set ?_ (IsS99.ge HI179.out) | refine below_set ?_ GE172.out | refine below_set ?_ GE186.out) | exact HB.out))
          rintro e w38 ⟨rfl, hi, hb, hk⟩
          refine ⟨_, rfl, ?_⟩
          have n0_ := Aside0.mk (KeepBut.blk hk (g' := gb172) (o := .cells #[.int .i64 0, .int .i64 0, .int .i64 0, .int .i64 0, .int .i64 0, .slice none 0 0, .string (⟨#[]⟩ : ByteArray), .int .i64 0, .int .i64 0, .int .i64 0, .string (⟨#[]⟩ : ByteArray), .string (⟨#[]⟩ : ByteArray), .int .i64 0, .int .i64 0] 34 (0, 0)) (by (with_reducible repeat (first | refine blk_drewN ?_ _ | refine blk_drew ?_ | refine blk_alloc ?_ _)); exact BK172.out) NB172_179.out (by simp))
          have n1_ := Aside0.mk (KeepBut.blk hk (g' := gb186) (o := .cells #[.int .i64 t180, .int .i64 t183, .int .i64 t190, .int .i64 t191, .int .i64 t192, .slice Ao34 t193.length co34, .string (⟨#[]⟩ : ByteArray), .int .i64 0, .int .i64 0, .int .i64 0, .string (⟨#[]⟩ : ByteArray), .string (⟨#[]⟩ : ByteArray), .int .i64 0, .int .i64 0] 34 (0, 0)) (by (with_reducible repeat (first | refine blk_drewN ?_ _ | refine blk_drew ?_ | refine blk_alloc ?_ _)); exact BK186.out) NB186_179.out (by simp))
          have n2_ := Aside0.mk (Kd.R_mono (Kd.R_keep (IsS99.apart (show IsS99 w _ g179 t199 t200 from by repeat (first | (with_reducible first | exact HI179.out | apply IsS99.alloc | apply IsS99.drewN | apply IsS99.drew | apply IsS99.set_0 | apply IsS99.set_1 | refine IsS99.far ?_ NB179_172.out _ | refine IsS99.far ?_ NB179_186.out _) | exact HI179.out)) (by (with_reducible repeat (first | apply Kd.R_alloc | apply Kd.R_drewN | apply Kd.R_drew)); exact HO195.out) (by decide)) hk (fun _ h => h.2)) (fun _ h => h.1))
          have n3_ := Aside0.mk (hb)
          have n4_ := Aside0.mk (hi)
          clear BK172
          clear BK186
          clear HO195
          clear HB
          clear HI179
          have BK172 := n0_
          have BK186 := n1_
          have HO195 := n2_
          have HB := n3_
          have HI179 := n4_
          clear n0_ n1_ n2_ n3_ n4_
          (try clear hb)
          (try clear hb2)
          (try clear hk)
          (try clear hi)
          refine hK.out _ _ ⟨(blk_cell BK186.out 0).trans rfl, (blk_cell BK186.out 1).trans rfl, (blk_cell BK186.out 2).trans rfl, (blk_cell BK186.out 3).trans rfl, (blk_cell BK186.out 4).trans rfl, (blk_cell BK186.out 5).trans rfl, (blk_cell BK186.out 6).trans rfl, (blk_cell BK186.out 7).trans rfl, (blk_cell BK186.out 8).trans rfl, (blk_cell BK186.out 9).trans rfl, (blk_cell BK186.out 10).trans rfl, (blk_cell BK186.out 11).trans rfl, (blk_cell BK186.out 12).trans rfl, (blk_cell BK186.out 13).trans rfl⟩ (fun hHeld => ?_)
          clear hK K
          refine norm_ (a' := ?_) ?_ ?_
          rotate_left
          · show Act.put _ (some 48) _ = _
            simp only [Act.put, List.setIfInBounds_toArray, List.set_cons_zero, List.set_cons_succ, i64_w, i32_w]
            rfl
          refine one_ (i := 8) (N := some 50) #[true, true, true, true, true, true, true, true, true, true, false, false, false, false] rfl rfl (one_of HT_.out (by kernel_rfl)) (by decide) (fun K hK => ?_)
          refine goes_ Try.func42 (by kernel_rfl) rfl #[.pointer (some ⟨g179, 0, none⟩)] (by rfl) rfl rfl (by (try simp only [List.map_toArray, List.map_cons, List.map_nil]); first | done | rfl | (simp only [List.length_drop, List.length_take]; rfl)) ?_
          with_reducible refine (pack_Reader_Number.calls k g179 t202 t203 t204 t205 t206 w _ ?side1 ?side2 A28.out).mono ?_
          (case side1 => repeat (first | (with_reducible first | exact HI179.out | apply IsS99.alloc | apply IsS99.drewN | apply IsS99.drew | apply IsS99.set_0 | apply IsS99.set_1 | refine IsS99.far ?_ NB179_172.out _ | refine IsS99.far ?_ NB179_186.out _) | exact HI179.out))
          (case side2 => repeat (first | (with_reducible first | exact HB.out | apply below_alloc | apply pw_below_drewN | apply below_drew1 | refine below_set ?_ (IsS99.ge HI179.out) | refine below_set ?_ GE172.out | refine below_set ?_ GE186.out) | exact HB.out))
          rintro e w39 ⟨rfl, hi, hb, hk⟩
          refine ⟨_, rfl, ?_⟩
          have n0_ := Aside0.mk (KeepBut.blk hk (g' := gb172) (o := .cells #[.int .i64 0, .int .i64 0, .int .i64 0, .int .i64 0, .int .i64 0, .slice none 0 0, .string (⟨#[]⟩ : ByteArray), .int .i64 0, .int .i64 0, .int .i64 0, .string (⟨#[]⟩ : ByteArray), .string (⟨#[]⟩ : ByteArray), .int .i64 0, .int .i64 0] 34 (0, 0)) (by (with_reducible repeat (first | refine blk_drewN ?_ _ | refine blk_drew ?_ | refine blk_alloc ?_ _)); exact BK172.out) NB172_179.out (by simp))
          have n1_ := Aside0.mk (KeepBut.blk hk (g' := gb186) (o := .cells #[.int .i64 t180, .int .i64 t183, .int .i64 t190, .int .i64 t191, .int .i64 t192, .slice Ao34 t193.length co34, .string (⟨#[]⟩ : ByteArray), .int .i64 0, .int .i64 0, .int .i64 0, .string (⟨#[]⟩ : ByteArray), .string (⟨#[]⟩ : ByteArray), .int .i64 0, .int .i64 0] 34 (0, 0)) (by (with_reducible repeat (first | refine blk_drewN ?_ _ | refine blk_drew ?_ | refine blk_alloc ?_ _)); exact BK186.out) NB186_179.out (by simp))
          have n2_ := Aside0.mk (Kd.R_mono (Kd.R_keep (IsS99.apart (show IsS99 w _ g179 t202 t203 from by repeat (first | (with_reducible first | exact HI179.out | apply IsS99.alloc | apply IsS99.drewN | apply IsS99.drew | apply IsS99.set_0 | apply IsS99.set_1 | refine IsS99.far ?_ NB179_172.out _ | refine IsS99.far ?_ NB179_186.out _) | exact HI179.out)) (by (with_reducible repeat (first | apply Kd.R_alloc | apply Kd.R_drewN | apply Kd.R_drew)); exact HO195.out) (by decide)) hk (fun _ h => h.2)) (fun _ h => h.1))
          have n3_ := Aside0.mk (hb)
          have n4_ := Aside0.mk (hi)
          clear BK172
          clear BK186
          clear HO195
          clear HB
          clear HI179
          have BK172 := n0_
          have BK186 := n1_
          have HO195 := n2_
          have HB := n3_
          have HI179 := n4_
          clear n0_ n1_ n2_ n3_ n4_
          (try clear hb)
          (try clear hb2)
          (try clear hk)
          (try clear hi)
          refine hK.out _ _ ⟨(blk_cell BK186.out 0).trans rfl, (blk_cell BK186.out 1).trans rfl, (blk_cell BK186.out 2).trans rfl, (blk_cell BK186.out 3).trans rfl, (blk_cell BK186.out 4).trans rfl, (blk_cell BK186.out 5).trans rfl, (blk_cell BK186.out 6).trans rfl, (blk_cell BK186.out 7).trans rfl, (blk_cell BK186.out 8).trans rfl, (blk_cell BK186.out 9).trans rfl, (blk_cell BK186.out 10).trans rfl, (blk_cell BK186.out 11).trans rfl, (blk_cell BK186.out 12).trans rfl, (blk_cell BK186.out 13).trans rfl⟩ (fun hHeld => ?_)
          clear hK K
          refine norm_ (a' := ?_) ?_ ?_
          rotate_left
          · show Act.put _ (some 50) _ = _
            simp only [Act.put, List.setIfInBounds_toArray, List.set_cons_zero, List.set_cons_succ, i64_w, i32_w]
            rfl
          refine one_ (i := 10) (N := some 52) #[true, true, true, true, true, true, true, true, true, true, true, false, false, false] rfl rfl (one_of HT_.out (by kernel_rfl)) (by decide) (fun K hK => ?_)
          refine goes_ Try.func45 (by kernel_rfl) rfl #[.pointer (some ⟨g179, 0, none⟩)] (by rfl) rfl rfl (by (try simp only [List.map_toArray, List.map_cons, List.map_nil]); first | done | rfl | (simp only [List.length_drop, List.length_take]; rfl)) ?_
          with_reducible refine (pack_Reader_Rest.calls g179 t205 t206 t207 t208 t209 w _ ?side1 ?side2 A29.out).mono ?_
          (case side1 => repeat (first | (with_reducible first | exact HI179.out | apply IsS99.alloc | apply IsS99.drewN | apply IsS99.drew | apply IsS99.set_0 | apply IsS99.set_1 | refine IsS99.far ?_ NB179_172.out _ | refine IsS99.far ?_ NB179_186.out _) | exact HI179.out))
          (case side2 => repeat (first | (with_reducible first | exact HB.out | apply below_alloc | apply pw_below_drewN | apply below_drew1 | refine below_set ?_ (IsS99.ge HI179.out) | refine below_set ?_ GE172.out | refine below_set ?_ GE186.out) | exact HB.out))
          rintro e w40 ⟨rfl, hi, hb, hk⟩
          refine ⟨_, rfl, ?_⟩
          have n0_ := Aside0.mk (KeepBut.blk hk (g' := gb172) (o := .cells #[.int .i64 0, .int .i64 0, .int .i64 0, .int .i64 0, .int .i64 0, .slice none 0 0, .string (⟨#[]⟩ : ByteArray), .int .i64 0, .int .i64 0, .int .i64 0, .string (⟨#[]⟩ : ByteArray), .string (⟨#[]⟩ : ByteArray), .int .i64 0, .int .i64 0] 34 (0, 0)) (by (with_reducible repeat (first | refine blk_drewN ?_ _ | refine blk_drew ?_ | refine blk_alloc ?_ _)); exact BK172.out) NB172_179.out (by simp))
          have n1_ := Aside0.mk (KeepBut.blk hk (g' := gb186) (o := .cells #[.int .i64 t180, .int .i64 t183, .int .i64 t190, .int .i64 t191, .int .i64 t192, .slice Ao34 t193.length co34, .string (⟨#[]⟩ : ByteArray), .int .i64 0, .int .i64 0, .int .i64 0, .string (⟨#[]⟩ : ByteArray), .string (⟨#[]⟩ : ByteArray), .int .i64 0, .int .i64 0] 34 (0, 0)) (by (with_reducible repeat (first | refine blk_drewN ?_ _ | refine blk_drew ?_ | refine blk_alloc ?_ _)); exact BK186.out) NB186_179.out (by simp))
          have n2_ := Aside0.mk (Kd.R_mono (Kd.R_keep (IsS99.apart (show IsS99 w _ g179 t205 t206 from by repeat (first | (with_reducible first | exact HI179.out | apply IsS99.alloc | apply IsS99.drewN | apply IsS99.drew | apply IsS99.set_0 | apply IsS99.set_1 | refine IsS99.far ?_ NB179_172.out _ | refine IsS99.far ?_ NB179_186.out _) | exact HI179.out)) (by (with_reducible repeat (first | apply Kd.R_alloc | apply Kd.R_drewN | apply Kd.R_drew)); exact HO195.out) (by decide)) hk (fun _ h => h.2)) (fun _ h => h.1))
          have n3_ := Aside0.mk (hb)
          have n4_ := Aside0.mk (hi)
          clear BK172
          clear BK186
          clear HO195
          clear HB
          clear HI179
          have BK172 := n0_
          have BK186 := n1_
          have HO195 := n2_
          have HB := n3_
          have HI179 := n4_
          clear n0_ n1_ n2_ n3_ n4_
          (try clear hb)
          (try clear hb2)
          (try clear hk)
          (try clear hi)
          refine hK.out _ _ ⟨(blk_cell BK186.out 0).trans rfl, (blk_cell BK186.out 1).trans rfl, (blk_cell BK186.out 2).trans rfl, (blk_cell BK186.out 3).trans rfl, (blk_cell BK186.out 4).trans rfl, (blk_cell BK186.out 5).trans rfl, (blk_cell BK186.out 6).trans rfl, (blk_cell BK186.out 7).trans rfl, (blk_cell BK186.out 8).trans rfl, (blk_cell BK186.out 9).trans rfl, (blk_cell BK186.out 10).trans rfl, (blk_cell BK186.out 11).trans rfl, (blk_cell BK186.out 12).trans rfl, (blk_cell BK186.out 13).trans rfl⟩ (fun hHeld => ?_)
          clear hK K
          refine norm_ (a' := ?_) ?_ ?_
          rotate_left
          · show Act.put _ (some 52) _ = _
            simp only [Act.put, List.setIfInBounds_toArray, List.set_cons_zero, List.set_cons_succ, i64_w, i32_w]
            rfl
          refine pure_ (i := 11) (N := some 53) (v := ?_) (a' := ?_) #[true, true, true, true, true, true, true, true, true, true, true, true, false, false] rfl rfl (any_of HT_.out (by kernel_rfl)) (fun _ _ _ h => h) (Or.inl ⟨by rfl, ?_⟩) ?_ ?_
          rotate_left
          · intro w'
            go_simp
            with_reducible rfl
          rotate_left
          · simp only [Act.put, List.setIfInBounds_toArray, List.set_cons_zero, List.set_cons_succ, i64_w, i32_w]
            rfl
          refine pure_ (i := 12) (N := some 54) (v := ?_) (a' := ?_) #[true, true, true, true, true, true, true, true, true, true, true, true, true, false] rfl rfl (any_of HT_.out (by kernel_rfl)) (fun _ _ _ h => h) (Or.inl ⟨by rfl, ?_⟩) ?_ ?_
          rotate_left
          · intro w'
            go_simp
            with_reducible rfl
          rotate_left
          · simp only [Act.put, List.setIfInBounds_toArray, List.set_cons_zero, List.set_cons_succ, i64_w, i32_w]
            rfl
          refine last_ (i := 13) (N := none) #[true, true, true, true, true, true, true, true, true, true, true, true, true, true] rfl rfl (one_of HT_.out (by kernel_rfl)) (by decide) (fun K hK => ?_)
          have hs41 : w40.cell? ⟨gb186, 6, none⟩ = some (.string (⟨#[]⟩ : ByteArray)) := (blk_cell BK186.out 6).trans rfl
          have hfs41 := blk_frozen BK186.out 6
          have hns41_0 := NB172_186.out
          have hms41_0 := NB186_172.out
          have hs42 : w40.cell? ⟨gb186, 7, none⟩ = some (.int .i64 0) := (blk_cell BK186.out 7).trans rfl
          have hfs42 := blk_frozen BK186.out 7
          have hns42_0 := NB172_186.out
          have hms42_0 := NB186_172.out
          have hs43 : w40.cell? ⟨gb186, 8, none⟩ = some (.int .i64 0) := (blk_cell BK186.out 8).trans rfl
          have hfs43 := blk_frozen BK186.out 8
          have hns43_0 := NB172_186.out
          have hms43_0 := NB186_172.out
          have hs44 : w40.cell? ⟨gb186, 9, none⟩ = some (.int .i64 0) := (blk_cell BK186.out 9).trans rfl
          have hfs44 := blk_frozen BK186.out 9
          have hns44_0 := NB172_186.out
          have hms44_0 := NB186_172.out
          have hs45 : w40.cell? ⟨gb186, 10, none⟩ = some (.string (⟨#[]⟩ : ByteArray)) := (blk_cell BK186.out 10).trans rfl
          have hfs45 := blk_frozen BK186.out 10
          have hns45_0 := NB172_186.out
          have hms45_0 := NB186_172.out
          refine skip_ (w1 := ?_) (by rfl) rfl ?_ ?_
          rotate_left
          · go_simp
            rfl
          refine hK.out _ _ ?_
          clear hK K
          refine done_ (done_of HT_.out (by kernel_rfl)) ?_
          try go_wp2
          go_meet
          case rel => exact ⟨_, (t208), (t209), (t190), (t191), (t192), (t193), (t198), (t190), (t201), (t204), (t207), ((⟨#[]⟩ : ByteArray)), (0), (0), (.slice Ao34 t193.length co34), H', ⟨by first | omega | exact Nat.le_refl _⟩, ⟨by (with_reducible repeat (first | apply Kd.R_alloc | apply Kd.R_drewN | apply Kd.R_drew)); exact Kd.R_mono (Kd.R_far (p := ⟨gb186, 10, none⟩) (Kd.R_far (p := ⟨gb186, 9, none⟩) (Kd.R_far (p := ⟨gb186, 8, none⟩) (Kd.R_far (p := ⟨gb186, 7, none⟩) (Kd.R_far (p := ⟨gb186, 6, none⟩) (Kd.R_types HO195.out BK186.out (by decide)) (fun _ hk => hk.2) (.string t198)) (fun _ hk => hk.2) (.int .i64 t190)) (fun _ hk => hk.2) (.int .i64 t201)) (fun _ hk => hk.2) (.int .i64 t204)) (fun _ hk => hk.2) (.string t207)) (fun _ hk => trivial)⟩, ⟨by (with_reducible repeat (first | refine blk_drewN ?_ _ | refine blk_drew ?_ | refine blk_alloc ?_ _)); refine blk_far ?_ NB172_186.out _; (with_reducible repeat (first | refine blk_drewN ?_ _ | refine blk_drew ?_ | refine blk_alloc ?_ _)); refine blk_far ?_ NB172_186.out _; (with_reducible repeat (first | refine blk_drewN ?_ _ | refine blk_drew ?_ | refine blk_alloc ?_ _)); refine blk_far ?_ NB172_186.out _; (with_reducible repeat (first | refine blk_drewN ?_ _ | refine blk_drew ?_ | refine blk_alloc ?_ _)); refine blk_far ?_ NB172_186.out _; (with_reducible repeat (first | refine blk_drewN ?_ _ | refine blk_drew ?_ | refine blk_alloc ?_ _)); refine blk_far ?_ NB172_186.out _; (with_reducible repeat (first | refine blk_drewN ?_ _ | refine blk_drew ?_ | refine blk_alloc ?_ _)); exact BK172.out⟩, ⟨by (with_reducible repeat (first | refine blk_drewN ?_ _ | refine blk_drew ?_ | refine blk_alloc ?_ _)); refine blk_put (cs := #[.int .i64 t180, .int .i64 t183, .int .i64 t190, .int .i64 t191, .int .i64 t192, .slice Ao34 t193.length co34, .string t198, .int .i64 t190, .int .i64 t201, .int .i64 t204, .string (⟨#[]⟩ : ByteArray), .string (⟨#[]⟩ : ByteArray), .int .i64 0, .int .i64 0]) ?_ 10 _ rfl; (with_reducible repeat (first | refine blk_drewN ?_ _ | refine blk_drew ?_ | refine blk_alloc ?_ _)); refine blk_put (cs := #[.int .i64 t180, .int .i64 t183, .int .i64 t190, .int .i64 t191, .int .i64 t192, .slice Ao34 t193.length co34, .string t198, .int .i64 t190, .int .i64 t201, .int .i64 0, .string (⟨#[]⟩ : ByteArray), .string (⟨#[]⟩ : ByteArray), .int .i64 0, .int .i64 0]) ?_ 9 _ rfl; (with_reducible repeat (first | refine blk_drewN ?_ _ | refine blk_drew ?_ | refine blk_alloc ?_ _)); refine blk_put (cs := #[.int .i64 t180, .int .i64 t183, .int .i64 t190, .int .i64 t191, .int .i64 t192, .slice Ao34 t193.length co34, .string t198, .int .i64 t190, .int .i64 0, .int .i64 0, .string (⟨#[]⟩ : ByteArray), .string (⟨#[]⟩ : ByteArray), .int .i64 0, .int .i64 0]) ?_ 8 _ rfl; (with_reducible repeat (first | refine blk_drewN ?_ _ | refine blk_drew ?_ | refine blk_alloc ?_ _)); refine blk_put (cs := #[.int .i64 t180, .int .i64 t183, .int .i64 t190, .int .i64 t191, .int .i64 t192, .slice Ao34 t193.length co34, .string t198, .int .i64 0, .int .i64 0, .int .i64 0, .string (⟨#[]⟩ : ByteArray), .string (⟨#[]⟩ : ByteArray), .int .i64 0, .int .i64 0]) ?_ 7 _ rfl; (with_reducible repeat (first | refine blk_drewN ?_ _ | refine blk_drew ?_ | refine blk_alloc ?_ _)); refine blk_put (cs := #[.int .i64 t180, .int .i64 t183, .int .i64 t190, .int .i64 t191, .int .i64 t192, .slice Ao34 t193.length co34, .string (⟨#[]⟩ : ByteArray), .int .i64 0, .int .i64 0, .int .i64 0, .string (⟨#[]⟩ : ByteArray), .string (⟨#[]⟩ : ByteArray), .int .i64 0, .int .i64 0]) ?_ 6 _ rfl; (with_reducible repeat (first | refine blk_drewN ?_ _ | refine blk_drew ?_ | refine blk_alloc ?_ _)); exact BK186.out⟩, ⟨by repeat (first | (with_reducible first | exact HI179.out | apply IsS99.alloc | apply IsS99.drewN | apply IsS99.drew | apply IsS99.set_0 | apply IsS99.set_1 | refine IsS99.far ?_ NB179_172.out _ | refine IsS99.far ?_ NB179_186.out _) | exact HI179.out)⟩, ⟨by repeat (first | (with_reducible first | exact HB.out | apply below_alloc | apply pw_below_drewN | apply below_drew1 | refine below_set ?_ (IsS99.ge HI179.out) | refine below_set ?_ GE172.out | refine below_set ?_ GE186.out) | exact HB.out)⟩⟩
        · rw [if_neg c24] at H
          have c24b0 : (t183 == 0) = false := beq_eq_false_iff_ne.mpr c24
          have c24b1 : (t183 != 0) = true := bne_iff_ne.mpr c24
          by_cases c46 : t183 = 2
          · rw [if_pos c46] at H
            have c46b0 : (t183 == 2) = true := beq_iff_eq.mpr c46
            have c46b1 : (t183 != 2) = false := bne_eq_false_iff_eq.mpr c46
            clear c46
            replace H := Option.bind_eq_some_iff.mp H
            obtain ⟨⟨t210, t211, t212, t213, t216, t217⟩, A470, H⟩ := H
            replace H : (record_Read.j0 k t176 t216 t217 t180 t183 t210 t211 t212 t213 (⟨#[]⟩ : ByteArray) 0 0 0 (⟨#[]⟩ : ByteArray) (⟨#[]⟩ : ByteArray) 0 0) = some (r1, r2, r3, r4, r5, r6, r7, r8, r9, r10, r11, r12, r13, r14, r15) := H
            have A47 := Aside0.mk A470
            clear A470
            have H' := Aside0.mk H
            clear H
            go_wp2_with (first | ((with_reducible refine gate_callee (f := 44) rfl ?_); refine goesL_ (some 58) rfl rfl Try.func44 (by kernel_rfl) rfl #[.pointer (some ⟨g179, 0, none⟩)] rfl (by (try simp only [List.map_toArray, List.map_cons, List.map_nil]); first | done | rfl | (simp only [List.length_drop, List.length_take]; rfl)) ?_; (with_reducible refine (record_volume.calls k g179 t184 t185 t210 t211 t212 t213 t216 t217 w _ ?side1 ?side2 A47.out).mono ?_); (case side1 => repeat (first | (with_reducible first | exact HI179.out | apply IsS99.alloc | apply IsS99.drewN | apply IsS99.drew | apply IsS99.set_0 | apply IsS99.set_1 | refine IsS99.far ?_ NB179_172.out _ | refine IsS99.far ?_ NB179_186.out _) | exact HI179.out)); (case side2 => repeat (first | (with_reducible first | exact HB.out | apply below_alloc | apply pw_below_drewN | apply below_drew1 | refine below_set ?_ (IsS99.ge HI179.out) | refine below_set ?_ GE172.out | refine below_set ?_ GE186.out) | exact HB.out)); rintro e w48 ⟨v214, rfl, ho0, hi, hb, hk⟩; refine ⟨_, rfl, ?_⟩; have n0_ := Aside0.mk (KeepBut.blk hk (g' := gb172) (o := .cells #[.int .i64 0, .int .i64 0, .int .i64 0, .int .i64 0, .int .i64 0, .slice none 0 0, .string (⟨#[]⟩ : ByteArray), .int .i64 0, .int .i64 0, .int .i64 0, .string (⟨#[]⟩ : ByteArray), .string (⟨#[]⟩ : ByteArray), .int .i64 0, .int .i64 0] 34 (0, 0)) (by (with_reducible repeat (first | refine blk_drewN ?_ _ | refine blk_drew ?_ | refine blk_alloc ?_ _)); refine blk_far ?_ NB172_186.out _; (with_reducible repeat (first | refine blk_drewN ?_ _ | refine blk_drew ?_ | refine blk_alloc ?_ _)); refine blk_far ?_ NB172_186.out _; (with_reducible repeat (first | refine blk_drewN ?_ _ | refine blk_drew ?_ | refine blk_alloc ?_ _)); refine blk_far ?_ NB172_186.out _; (with_reducible repeat (first | refine blk_drewN ?_ _ | refine blk_drew ?_ | refine blk_alloc ?_ _)); refine blk_far ?_ NB172_186.out _; (with_reducible repeat (first | refine blk_drewN ?_ _ | refine blk_drew ?_ | refine blk_alloc ?_ _)); refine blk_far ?_ NB172_186.out _; (with_reducible repeat (first | refine blk_drewN ?_ _ | refine blk_drew ?_ | refine blk_alloc ?_ _)); refine blk_far ?_ NB172_186.out _; (with_reducible repeat (first | refine blk_drewN ?_ _ | refine blk_drew ?_ | refine blk_alloc ?_ _)); refine blk_far ?_ NB172_186.out _; (with_reducible repeat (first | refine blk_drewN ?_ _ | refine blk_drew ?_ | refine blk_alloc ?_ _)); refine blk_far ?_ NB172_186.out _; (with_reducible repeat (first | refine blk_drewN ?_ _ | refine blk_drew ?_ | refine blk_alloc ?_ _)); refine blk_far ?_ NB172_186.out _; (with_reducible repeat (first | refine blk_drewN ?_ _ | refine blk_drew ?_ | refine blk_alloc ?_ _)); refine blk_far ?_ NB172_186.out _; (with_reducible repeat (first | refine blk_drewN ?_ _ | refine blk_drew ?_ | refine blk_alloc ?_ _)); refine blk_far ?_ NB172_186.out _; (with_reducible repeat (first | refine blk_drewN ?_ _ | refine blk_drew ?_ | refine blk_alloc ?_ _)); refine blk_far ?_ NB172_186.out _; (with_reducible repeat (first | refine blk_drewN ?_ _ | refine blk_drew ?_ | refine blk_alloc ?_ _)); refine blk_far ?_ NB172_186.out _; (with_reducible repeat (first | refine blk_drewN ?_ _ | refine blk_drew ?_ | refine blk_alloc ?_ _)); refine blk_far ?_ NB172_186.out _; (with_reducible repeat (first | refine blk_drewN ?_ _ | refine blk_drew ?_ | refine blk_alloc ?_ _)); exact BK172.out) NB172_179.out (by simp)); have n1_ := Aside0.mk (KeepBut.blk hk (g' := gb186) (o := .cells #[.int .i64 t180, .int .i64 t183, .int .i64 0, .int .i64 0, .int .i64 0, .slice none 0 0, .string (⟨#[]⟩ : ByteArray), .int .i64 0, .int .i64 0, .int .i64 0, .string (⟨#[]⟩ : ByteArray), .string (⟨#[]⟩ : ByteArray), .int .i64 0, .int .i64 0] 34 (0, 0)) (by (with_reducible repeat (first | refine blk_drewN ?_ _ | refine blk_drew ?_ | refine blk_alloc ?_ _)); refine blk_put (cs := #[.int .i64 t180, .int .i64 t183, .int .i64 0, .int .i64 0, .int .i64 0, .slice none 0 0, .string (⟨#[]⟩ : ByteArray), .int .i64 0, .int .i64 0, .int .i64 0, .string (⟨#[]⟩ : ByteArray), .string (⟨#[]⟩ : ByteArray), .int .i64 0, .int .i64 0]) ?_ 13 _ rfl; (with_reducible repeat (first | refine blk_drewN ?_ _ | refine blk_drew ?_ | refine blk_alloc ?_ _)); refine blk_put (cs := #[.int .i64 t180, .int .i64 t183, .int .i64 0, .int .i64 0, .int .i64 0, .slice none 0 0, .string (⟨#[]⟩ : ByteArray), .int .i64 0, .int .i64 0, .int .i64 0, .string (⟨#[]⟩ : ByteArray), .string (⟨#[]⟩ : ByteArray), .int .i64 0, .int .i64 0]) ?_ 12 _ rfl; (with_reducible repeat (first | refine blk_drewN ?_ _ | refine blk_drew ?_ | refine blk_alloc ?_ _)); refine blk_put (cs := #[.int .i64 t180, .int .i64 t183, .int .i64 0, .int .i64 0, .int .i64 0, .slice none 0 0, .string (⟨#[]⟩ : ByteArray), .int .i64 0, .int .i64 0, .int .i64 0, .string (⟨#[]⟩ : ByteArray), .string (⟨#[]⟩ : ByteArray), .int .i64 0, .int .i64 0]) ?_ 11 _ rfl; (with_reducible repeat (first | refine blk_drewN ?_ _ | refine blk_drew ?_ | refine blk_alloc ?_ _)); refine blk_put (cs := #[.int .i64 t180, .int .i64 t183, .int .i64 0, .int .i64 0, .int .i64 0, .slice none 0 0, .string (⟨#[]⟩ : ByteArray), .int .i64 0, .int .i64 0, .int .i64 0, .string (⟨#[]⟩ : ByteArray), .string (⟨#[]⟩ : ByteArray), .int .i64 0, .int .i64 0]) ?_ 10 _ rfl; (with_reducible repeat (first | refine blk_drewN ?_ _ | refine blk_drew ?_ | refine blk_alloc ?_ _)); refine blk_put (cs := #[.int .i64 t180, .int .i64 t183, .int .i64 0, .int .i64 0, .int .i64 0, .slice none 0 0, .string (⟨#[]⟩ : ByteArray), .int .i64 0, .int .i64 0, .int .i64 0, .string (⟨#[]⟩ : ByteArray), .string (⟨#[]⟩ : ByteArray), .int .i64 0, .int .i64 0]) ?_ 9 _ rfl; (with_reducible repeat (first | refine blk_drewN ?_ _ | refine blk_drew ?_ | refine blk_alloc ?_ _)); refine blk_put (cs := #[.int .i64 t180, .int .i64 t183, .int .i64 0, .int .i64 0, .int .i64 0, .slice none 0 0, .string (⟨#[]⟩ : ByteArray), .int .i64 0, .int .i64 0, .int .i64 0, .string (⟨#[]⟩ : ByteArray), .string (⟨#[]⟩ : ByteArray), .int .i64 0, .int .i64 0]) ?_ 8 _ rfl; (with_reducible repeat (first | refine blk_drewN ?_ _ | refine blk_drew ?_ | refine blk_alloc ?_ _)); refine blk_put (cs := #[.int .i64 t180, .int .i64 t183, .int .i64 0, .int .i64 0, .int .i64 0, .slice none 0 0, .string (⟨#[]⟩ : ByteArray), .int .i64 0, .int .i64 0, .int .i64 0, .string (⟨#[]⟩ : ByteArray), .string (⟨#[]⟩ : ByteArray), .int .i64 0, .int .i64 0]) ?_ 7 _ rfl; (with_reducible repeat (first | refine blk_drewN ?_ _ | refine blk_drew ?_ | refine blk_alloc ?_ _)); refine blk_put (cs := #[.int .i64 t180, .int .i64 t183, .int .i64 0, .int .i64 0, .int .i64 0, .slice none 0 0, .string (⟨#[]⟩ : ByteArray), .int .i64 0, .int .i64 0, .int .i64 0, .string (⟨#[]⟩ : ByteArray), .string (⟨#[]⟩ : ByteArray), .int .i64 0, .int .i64 0]) ?_ 6 _ rfl; (with_reducible repeat (first | refine blk_drewN ?_ _ | refine blk_drew ?_ | refine blk_alloc ?_ _)); refine blk_put (cs := #[.int .i64 t180, .int .i64 t183, .int .i64 0, .int .i64 0, .int .i64 0, .slice none 0 0, .string (⟨#[]⟩ : ByteArray), .int .i64 0, .int .i64 0, .int .i64 0, .string (⟨#[]⟩ : ByteArray), .string (⟨#[]⟩ : ByteArray), .int .i64 0, .int .i64 0]) ?_ 5 _ rfl; (with_reducible repeat (first | refine blk_drewN ?_ _ | refine blk_drew ?_ | refine blk_alloc ?_ _)); refine blk_put (cs := #[.int .i64 t180, .int .i64 t183, .int .i64 0, .int .i64 0, .int .i64 0, .slice none 0 0, .string (⟨#[]⟩ : ByteArray), .int .i64 0, .int .i64 0, .int .i64 0, .string (⟨#[]⟩ : ByteArray), .string (⟨#[]⟩ : ByteArray), .int .i64 0, .int .i64 0]) ?_ 4 _ rfl; (with_reducible repeat (first | refine blk_drewN ?_ _ | refine blk_drew ?_ | refine blk_alloc ?_ _)); refine blk_put (cs := #[.int .i64 t180, .int .i64 t183, .int .i64 0, .int .i64 0, .int .i64 0, .slice none 0 0, .string (⟨#[]⟩ : ByteArray), .int .i64 0, .int .i64 0, .int .i64 0, .string (⟨#[]⟩ : ByteArray), .string (⟨#[]⟩ : ByteArray), .int .i64 0, .int .i64 0]) ?_ 3 _ rfl; (with_reducible repeat (first | refine blk_drewN ?_ _ | refine blk_drew ?_ | refine blk_alloc ?_ _)); refine blk_put (cs := #[.int .i64 t180, .int .i64 t183, .int .i64 0, .int .i64 0, .int .i64 0, .slice none 0 0, .string (⟨#[]⟩ : ByteArray), .int .i64 0, .int .i64 0, .int .i64 0, .string (⟨#[]⟩ : ByteArray), .string (⟨#[]⟩ : ByteArray), .int .i64 0, .int .i64 0]) ?_ 2 _ rfl; (with_reducible repeat (first | refine blk_drewN ?_ _ | refine blk_drew ?_ | refine blk_alloc ?_ _)); refine blk_put (cs := #[.int .i64 t180, .int .i64 0, .int .i64 0, .int .i64 0, .int .i64 0, .slice none 0 0, .string (⟨#[]⟩ : ByteArray), .int .i64 0, .int .i64 0, .int .i64 0, .string (⟨#[]⟩ : ByteArray), .string (⟨#[]⟩ : ByteArray), .int .i64 0, .int .i64 0]) ?_ 1 _ rfl; (with_reducible repeat (first | refine blk_drewN ?_ _ | refine blk_drew ?_ | refine blk_alloc ?_ _)); refine blk_put (cs := #[.int .i64 0, .int .i64 0, .int .i64 0, .int .i64 0, .int .i64 0, .slice none 0 0, .string (⟨#[]⟩ : ByteArray), .int .i64 0, .int .i64 0, .int .i64 0, .string (⟨#[]⟩ : ByteArray), .string (⟨#[]⟩ : ByteArray), .int .i64 0, .int .i64 0]) ?_ 0 _ rfl; (with_reducible repeat (first | refine blk_drewN ?_ _ | refine blk_drew ?_ | refine blk_alloc ?_ _)); exact BK186.out) NB186_179.out (by simp)); have n2_ := Aside0.mk (Kd.R_lower ho0 (below_size (by repeat (first | (with_reducible first | exact HB.out | apply below_alloc | apply pw_below_drewN | apply below_drew1 | refine below_set ?_ (IsS99.ge HI179.out) | refine below_set ?_ GE172.out | refine below_set ?_ GE186.out) | exact HB.out)))); have n3_ := Aside0.mk (hb); have n4_ := Aside0.mk (hi); clear BK172; clear BK186; clear HB; clear HI179; have BK172 := n0_; have BK186 := n1_; have HO215 := n2_; have HB := n3_; have HI179 := n4_; clear n0_ n1_ n2_ n3_ n4_; (try clear hb); (try clear hb2); (try clear hk); (try clear hi); (try clear ho0); have hnb49 := NB186_172.out; have hnc49 := NB172_186.out; have hnb50 := NB186_179.out; have hnc50 := NB179_186.out; have hcz51_0 : w48.cell? ⟨gb186, 0, none⟩ = some (.int .i64 t180) := (blk_cell BK186.out 0).trans rfl; have hcz51_1 : w48.cell? ⟨gb186, 1, none⟩ = some (.int .i64 t183) := (blk_cell BK186.out 1).trans rfl; have hcz51_2 : w48.cell? ⟨gb186, 2, none⟩ = some (.int .i64 0) := (blk_cell BK186.out 2).trans rfl; have hcz51_3 : w48.cell? ⟨gb186, 3, none⟩ = some (.int .i64 0) := (blk_cell BK186.out 3).trans rfl; have hcz51_4 : w48.cell? ⟨gb186, 4, none⟩ = some (.int .i64 0) := (blk_cell BK186.out 4).trans rfl; have hcz51_5 : w48.cell? ⟨gb186, 5, none⟩ = some (.slice none 0 0) := (blk_cell BK186.out 5).trans rfl; have hcz51_6 : w48.cell? ⟨gb186, 6, none⟩ = some (.string (⟨#[]⟩ : ByteArray)) := (blk_cell BK186.out 6).trans rfl; have hcz51_7 : w48.cell? ⟨gb186, 7, none⟩ = some (.int .i64 0) := (blk_cell BK186.out 7).trans rfl; have hcz51_8 : w48.cell? ⟨gb186, 8, none⟩ = some (.int .i64 0) := (blk_cell BK186.out 8).trans rfl; have hcz51_9 : w48.cell? ⟨gb186, 9, none⟩ = some (.int .i64 0) := (blk_cell BK186.out 9).trans rfl; have hcz51_10 : w48.cell? ⟨gb186, 10, none⟩ = some (.string (⟨#[]⟩ : ByteArray)) := (blk_cell BK186.out 10).trans rfl; have hcz51_11 : w48.cell? ⟨gb186, 11, none⟩ = some (.string (⟨#[]⟩ : ByteArray)) := (blk_cell BK186.out 11).trans rfl; have hcz51_12 : w48.cell? ⟨gb186, 12, none⟩ = some (.int .i64 0) := (blk_cell BK186.out 12).trans rfl; have hcz51_13 : w48.cell? ⟨gb186, 13, none⟩ = some (.int .i64 0) := (blk_cell BK186.out 13).trans rfl; have hfz51_0 := blk_frozen BK186.out 0; have hfz51_1 := blk_frozen BK186.out 1; have hfz51_2 := blk_frozen BK186.out 2; have hfz51_3 := blk_frozen BK186.out 3; have hfz51_4 := blk_frozen BK186.out 4; have hfz51_5 := blk_frozen BK186.out 5; have hfz51_6 := blk_frozen BK186.out 6; have hfz51_7 := blk_frozen BK186.out 7; have hfz51_8 := blk_frozen BK186.out 8; have hfz51_9 := blk_frozen BK186.out 9; have hfz51_10 := blk_frozen BK186.out 10; have hfz51_11 := blk_frozen BK186.out 11; have hfz51_12 := blk_frozen BK186.out 12; have hfz51_13 := blk_frozen BK186.out 13; obtain ⟨Ao52, co52, eo52⟩ := Kd.R_slice HO215.out; subst eo52))
            go_meet
            case rel => exact ⟨_, (t216), (t217), (t210), (t211), (t212), (t213), ((⟨#[]⟩ : ByteArray)), (0), (0), (0), ((⟨#[]⟩ : ByteArray)), ((⟨#[]⟩ : ByteArray)), (0), (0), (.slice Ao52 t213.length co52), H', ⟨by first | omega | exact Nat.le_refl _⟩, ⟨by (with_reducible repeat (first | apply Kd.R_alloc | apply Kd.R_drewN | apply Kd.R_drew)); exact Kd.R_mono (Kd.R_far (p := ⟨gb186, 5, none⟩) (Kd.R_far (p := ⟨gb186, 4, none⟩) (Kd.R_far (p := ⟨gb186, 3, none⟩) (Kd.R_far (p := ⟨gb186, 2, none⟩) (Kd.R_types HO215.out BK186.out (by decide)) (fun _ hk => hk.2) (.int .i64 t210)) (fun _ hk => hk.2) (.int .i64 t211)) (fun _ hk => hk.2) (.int .i64 t212)) (fun _ hk => hk.2) (.slice Ao52 t213.length co52)) (fun _ hk => trivial)⟩, ⟨by (with_reducible repeat (first | refine blk_drewN ?_ _ | refine blk_drew ?_ | refine blk_alloc ?_ _)); refine blk_far ?_ NB172_186.out _; (with_reducible repeat (first | refine blk_drewN ?_ _ | refine blk_drew ?_ | refine blk_alloc ?_ _)); refine blk_far ?_ NB172_186.out _; (with_reducible repeat (first | refine blk_drewN ?_ _ | refine blk_drew ?_ | refine blk_alloc ?_ _)); refine blk_far ?_ NB172_186.out _; (with_reducible repeat (first | refine blk_drewN ?_ _ | refine blk_drew ?_ | refine blk_alloc ?_ _)); refine blk_far ?_ NB172_186.out _; (with_reducible repeat (first | refine blk_drewN ?_ _ | refine blk_drew ?_ | refine blk_alloc ?_ _)); exact BK172.out⟩, ⟨by (with_reducible repeat (first | refine blk_drewN ?_ _ | refine blk_drew ?_ | refine blk_alloc ?_ _)); refine blk_put (cs := #[.int .i64 t180, .int .i64 t183, .int .i64 t210, .int .i64 t211, .int .i64 t212, .slice none 0 0, .string (⟨#[]⟩ : ByteArray), .int .i64 0, .int .i64 0, .int .i64 0, .string (⟨#[]⟩ : ByteArray), .string (⟨#[]⟩ : ByteArray), .int .i64 0, .int .i64 0]) ?_ 5 _ rfl; (with_reducible repeat (first | refine blk_drewN ?_ _ | refine blk_drew ?_ | refine blk_alloc ?_ _)); refine blk_put (cs := #[.int .i64 t180, .int .i64 t183, .int .i64 t210, .int .i64 t211, .int .i64 0, .slice none 0 0, .string (⟨#[]⟩ : ByteArray), .int .i64 0, .int .i64 0, .int .i64 0, .string (⟨#[]⟩ : ByteArray), .string (⟨#[]⟩ : ByteArray), .int .i64 0, .int .i64 0]) ?_ 4 _ rfl; (with_reducible repeat (first | refine blk_drewN ?_ _ | refine blk_drew ?_ | refine blk_alloc ?_ _)); refine blk_put (cs := #[.int .i64 t180, .int .i64 t183, .int .i64 t210, .int .i64 0, .int .i64 0, .slice none 0 0, .string (⟨#[]⟩ : ByteArray), .int .i64 0, .int .i64 0, .int .i64 0, .string (⟨#[]⟩ : ByteArray), .string (⟨#[]⟩ : ByteArray), .int .i64 0, .int .i64 0]) ?_ 3 _ rfl; (with_reducible repeat (first | refine blk_drewN ?_ _ | refine blk_drew ?_ | refine blk_alloc ?_ _)); refine blk_put (cs := #[.int .i64 t180, .int .i64 t183, .int .i64 0, .int .i64 0, .int .i64 0, .slice none 0 0, .string (⟨#[]⟩ : ByteArray), .int .i64 0, .int .i64 0, .int .i64 0, .string (⟨#[]⟩ : ByteArray), .string (⟨#[]⟩ : ByteArray), .int .i64 0, .int .i64 0]) ?_ 2 _ rfl; (with_reducible repeat (first | refine blk_drewN ?_ _ | refine blk_drew ?_ | refine blk_alloc ?_ _)); exact BK186.out⟩, ⟨by repeat (first | (with_reducible first | exact HI179.out | apply IsS99.alloc | apply IsS99.drewN | apply IsS99.drew | apply IsS99.set_0 | apply IsS99.set_1 | refine IsS99.far ?_ NB179_172.out _ | refine IsS99.far ?_ NB179_186.out _) | exact HI179.out)⟩, ⟨by repeat (first | (with_reducible first | exact HB.out | apply below_alloc | apply pw_below_drewN | apply below_drew1 | refine below_set ?_ (IsS99.ge HI179.out) | refine below_set ?_ GE172.out | refine below_set ?_ GE186.out) | exact HB.out)⟩⟩
          · rw [if_neg c46] at H
            have c46b0 : (t183 == 2) = false := beq_eq_false_iff_ne.mpr c46
            have c46b1 : (t183 != 2) = true := bne_iff_ne.mpr c46
            by_cases c53 : t183 = 3
            · rw [if_pos c53] at H
              have c53b0 : (t183 == 3) = true := beq_iff_eq.mpr c53
              have c53b1 : (t183 != 3) = false := bne_eq_false_iff_eq.mpr c53
              clear c53
              replace H := Option.bind_eq_some_iff.mp H
              obtain ⟨⟨t218, t219, t220, t221, t224, t225⟩, A540, H⟩ := H
              replace H : ((pack_Reader_Number.f k t224 t225).bind fun bt226 => ((pack_Reader_Number.f k bt226.2.1 bt226.2.2).bind fun bt229 => (record_Read.j0 k t176 bt229.2.1 bt229.2.2 t180 t183 t218 t219 t220 t221 (⟨#[]⟩ : ByteArray) 0 0 0 (⟨#[]⟩ : ByteArray) (⟨#[]⟩ : ByteArray) bt226.1 bt229.1))) = some (r1, r2, r3, r4, r5, r6, r7, r8, r9, r10, r11, r12, r13, r14, r15) := H
              have A54 := Aside0.mk A540
              clear A540
              replace H := Option.bind_eq_some_iff.mp H
              obtain ⟨⟨t226, t227, t228⟩, A550, H⟩ := H
              replace H : ((pack_Reader_Number.f k t227 t228).bind fun bt229 => (record_Read.j0 k t176 bt229.2.1 bt229.2.2 t180 t183 t218 t219 t220 t221 (⟨#[]⟩ : ByteArray) 0 0 0 (⟨#[]⟩ : ByteArray) (⟨#[]⟩ : ByteArray) t226 bt229.1)) = some (r1, r2, r3, r4, r5, r6, r7, r8, r9, r10, r11, r12, r13, r14, r15) := H
              have A55 := Aside0.mk A550
              clear A550
              replace H := Option.bind_eq_some_iff.mp H
              obtain ⟨⟨t229, t230, t231⟩, A560, H⟩ := H
              replace H : (record_Read.j0 k t176 t230 t231 t180 t183 t218 t219 t220 t221 (⟨#[]⟩ : ByteArray) 0 0 0 (⟨#[]⟩ : ByteArray) (⟨#[]⟩ : ByteArray) t226 t229) = some (r1, r2, r3, r4, r5, r6, r7, r8, r9, r10, r11, r12, r13, r14, r15) := H
              have A56 := Aside0.mk A560
              clear A560
              have H' := Aside0.mk H
              clear H
              go_wp2_with (first | ((with_reducible refine gate_callee (f := 44) rfl ?_); refine goesL_ (some 63) rfl rfl Try.func44 (by kernel_rfl) rfl #[.pointer (some ⟨g179, 0, none⟩)] rfl (by (try simp only [List.map_toArray, List.map_cons, List.map_nil]); first | done | rfl | (simp only [List.length_drop, List.length_take]; rfl)) ?_; (with_reducible refine (record_volume.calls k g179 t184 t185 t218 t219 t220 t221 t224 t225 w _ ?side1 ?side2 A54.out).mono ?_); (case side1 => repeat (first | (with_reducible first | exact HI179.out | apply IsS99.alloc | apply IsS99.drewN | apply IsS99.drew | apply IsS99.set_0 | apply IsS99.set_1 | refine IsS99.far ?_ NB179_172.out _ | refine IsS99.far ?_ NB179_186.out _) | exact HI179.out)); (case side2 => repeat (first | (with_reducible first | exact HB.out | apply below_alloc | apply pw_below_drewN | apply below_drew1 | refine below_set ?_ (IsS99.ge HI179.out) | refine below_set ?_ GE172.out | refine below_set ?_ GE186.out) | exact HB.out)); rintro e w57 ⟨v222, rfl, ho0, hi, hb, hk⟩; refine ⟨_, rfl, ?_⟩; have n0_ := Aside0.mk (KeepBut.blk hk (g' := gb172) (o := .cells #[.int .i64 0, .int .i64 0, .int .i64 0, .int .i64 0, .int .i64 0, .slice none 0 0, .string (⟨#[]⟩ : ByteArray), .int .i64 0, .int .i64 0, .int .i64 0, .string (⟨#[]⟩ : ByteArray), .string (⟨#[]⟩ : ByteArray), .int .i64 0, .int .i64 0] 34 (0, 0)) (by (with_reducible repeat (first | refine blk_drewN ?_ _ | refine blk_drew ?_ | refine blk_alloc ?_ _)); refine blk_far ?_ NB172_186.out _; (with_reducible repeat (first | refine blk_drewN ?_ _ | refine blk_drew ?_ | refine blk_alloc ?_ _)); refine blk_far ?_ NB172_186.out _; (with_reducible repeat (first | refine blk_drewN ?_ _ | refine blk_drew ?_ | refine blk_alloc ?_ _)); refine blk_far ?_ NB172_186.out _; (with_reducible repeat (first | refine blk_drewN ?_ _ | refine blk_drew ?_ | refine blk_alloc ?_ _)); refine blk_far ?_ NB172_186.out _; (with_reducible repeat (first | refine blk_drewN ?_ _ | refine blk_drew ?_ | refine blk_alloc ?_ _)); refine blk_far ?_ NB172_186.out _; (with_reducible repeat (first | refine blk_drewN ?_ _ | refine blk_drew ?_ | refine blk_alloc ?_ _)); refine blk_far ?_ NB172_186.out _; (with_reducible repeat (first | refine blk_drewN ?_ _ | refine blk_drew ?_ | refine blk_alloc ?_ _)); refine blk_far ?_ NB172_186.out _; (with_reducible repeat (first | refine blk_drewN ?_ _ | refine blk_drew ?_ | refine blk_alloc ?_ _)); refine blk_far ?_ NB172_186.out _; (with_reducible repeat (first | refine blk_drewN ?_ _ | refine blk_drew ?_ | refine blk_alloc ?_ _)); refine blk_far ?_ NB172_186.out _; (with_reducible repeat (first | refine blk_drewN ?_ _ | refine blk_drew ?_ | refine blk_alloc ?_ _)); refine blk_far ?_ NB172_186.out _; (with_reducible repeat (first | refine blk_drewN ?_ _ | refine blk_drew ?_ | refine blk_alloc ?_ _)); refine blk_far ?_ NB172_186.out _; (with_reducible repeat (first | refine blk_drewN ?_ _ | refine blk_drew ?_ | refine blk_alloc ?_ _)); refine blk_far ?_ NB172_186.out _; (with_reducible repeat (first | refine blk_drewN ?_ _ | refine blk_drew ?_ | refine blk_alloc ?_ _)); refine blk_far ?_ NB172_186.out _; (with_reducible repeat (first | refine blk_drewN ?_ _ | refine blk_drew ?_ | refine blk_alloc ?_ _)); refine blk_far ?_ NB172_186.out _; (with_reducible repeat (first | refine blk_drewN ?_ _ | refine blk_drew ?_ | refine blk_alloc ?_ _)); exact BK172.out) NB172_179.out (by simp)); have n1_ := Aside0.mk (KeepBut.blk hk (g' := gb186) (o := .cells #[.int .i64 t180, .int .i64 t183, .int .i64 0, .int .i64 0, .int .i64 0, .slice none 0 0, .string (⟨#[]⟩ : ByteArray), .int .i64 0, .int .i64 0, .int .i64 0, .string (⟨#[]⟩ : ByteArray), .string (⟨#[]⟩ : ByteArray), .int .i64 0, .int .i64 0] 34 (0, 0)) (by (with_reducible repeat (first | refine blk_drewN ?_ _ | refine blk_drew ?_ | refine blk_alloc ?_ _)); refine blk_put (cs := #[.int .i64 t180, .int .i64 t183, .int .i64 0, .int .i64 0, .int .i64 0, .slice none 0 0, .string (⟨#[]⟩ : ByteArray), .int .i64 0, .int .i64 0, .int .i64 0, .string (⟨#[]⟩ : ByteArray), .string (⟨#[]⟩ : ByteArray), .int .i64 0, .int .i64 0]) ?_ 13 _ rfl; (with_reducible repeat (first | refine blk_drewN ?_ _ | refine blk_drew ?_ | refine blk_alloc ?_ _)); refine blk_put (cs := #[.int .i64 t180, .int .i64 t183, .int .i64 0, .int .i64 0, .int .i64 0, .slice none 0 0, .string (⟨#[]⟩ : ByteArray), .int .i64 0, .int .i64 0, .int .i64 0, .string (⟨#[]⟩ : ByteArray), .string (⟨#[]⟩ : ByteArray), .int .i64 0, .int .i64 0]) ?_ 12 _ rfl; (with_reducible repeat (first | refine blk_drewN ?_ _ | refine blk_drew ?_ | refine blk_alloc ?_ _)); refine blk_put (cs := #[.int .i64 t180, .int .i64 t183, .int .i64 0, .int .i64 0, .int .i64 0, .slice none 0 0, .string (⟨#[]⟩ : ByteArray), .int .i64 0, .int .i64 0, .int .i64 0, .string (⟨#[]⟩ : ByteArray), .string (⟨#[]⟩ : ByteArray), .int .i64 0, .int .i64 0]) ?_ 11 _ rfl; (with_reducible repeat (first | refine blk_drewN ?_ _ | refine blk_drew ?_ | refine blk_alloc ?_ _)); refine blk_put (cs := #[.int .i64 t180, .int .i64 t183, .int .i64 0, .int .i64 0, .int .i64 0, .slice none 0 0, .string (⟨#[]⟩ : ByteArray), .int .i64 0, .int .i64 0, .int .i64 0, .string (⟨#[]⟩ : ByteArray), .string (⟨#[]⟩ : ByteArray), .int .i64 0, .int .i64 0]) ?_ 10 _ rfl; (with_reducible repeat (first | refine blk_drewN ?_ _ | refine blk_drew ?_ | refine blk_alloc ?_ _)); refine blk_put (cs := #[.int .i64 t180, .int .i64 t183, .int .i64 0, .int .i64 0, .int .i64 0, .slice none 0 0, .string (⟨#[]⟩ : ByteArray), .int .i64 0, .int .i64 0, .int .i64 0, .string (⟨#[]⟩ : ByteArray), .string (⟨#[]⟩ : ByteArray), .int .i64 0, .int .i64 0]) ?_ 9 _ rfl; (with_reducible repeat (first | refine blk_drewN ?_ _ | refine blk_drew ?_ | refine blk_alloc ?_ _)); refine blk_put (cs := #[.int .i64 t180, .int .i64 t183, .int .i64 0, .int .i64 0, .int .i64 0, .slice none 0 0, .string (⟨#[]⟩ : ByteArray), .int .i64 0, .int .i64 0, .int .i64 0, .string (⟨#[]⟩ : ByteArray), .string (⟨#[]⟩ : ByteArray), .int .i64 0, .int .i64 0]) ?_ 8 _ rfl; (with_reducible repeat (first | refine blk_drewN ?_ _ | refine blk_drew ?_ | refine blk_alloc ?_ _)); refine blk_put (cs := #[.int .i64 t180, .int .i64 t183, .int .i64 0, .int .i64 0, .int .i64 0, .slice none 0 0, .string (⟨#[]⟩ : ByteArray), .int .i64 0, .int .i64 0, .int .i64 0, .string (⟨#[]⟩ : ByteArray), .string (⟨#[]⟩ : ByteArray), .int .i64 0, .int .i64 0]) ?_ 7 _ rfl; (with_reducible repeat (first | refine blk_drewN ?_ _ | refine blk_drew ?_ | refine blk_alloc ?_ _)); refine blk_put (cs := #[.int .i64 t180, .int .i64 t183, .int .i64 0, .int .i64 0, .int .i64 0, .slice none 0 0, .string (⟨#[]⟩ : ByteArray), .int .i64 0, .int .i64 0, .int .i64 0, .string (⟨#[]⟩ : ByteArray), .string (⟨#[]⟩ : ByteArray), .int .i64 0, .int .i64 0]) ?_ 6 _ rfl; (with_reducible repeat (first | refine blk_drewN ?_ _ | refine blk_drew ?_ | refine blk_alloc ?_ _)); refine blk_put (cs := #[.int .i64 t180, .int .i64 t183, .int .i64 0, .int .i64 0, .int .i64 0, .slice none 0 0, .string (⟨#[]⟩ : ByteArray), .int .i64 0, .int .i64 0, .int .i64 0, .string (⟨#[]⟩ : ByteArray), .string (⟨#[]⟩ : ByteArray), .int .i64 0, .int .i64 0]) ?_ 5 _ rfl; (with_reducible repeat (first | refine blk_drewN ?_ _ | refine blk_drew ?_ | refine blk_alloc ?_ _)); refine blk_put (cs := #[.int .i64 t180, .int .i64 t183, .int .i64 0, .int .i64 0, .int .i64 0, .slice none 0 0, .string (⟨#[]⟩ : ByteArray), .int .i64 0, .int .i64 0, .int .i64 0, .string (⟨#[]⟩ : ByteArray), .string (⟨#[]⟩ : ByteArray), .int .i64 0, .int .i64 0]) ?_ 4 _ rfl; (with_reducible repeat (first | refine blk_drewN ?_ _ | refine blk_drew ?_ | refine blk_alloc ?_ _)); refine blk_put (cs := #[.int .i64 t180, .int .i64 t183, .int .i64 0, .int .i64 0, .int .i64 0, .slice none 0 0, .string (⟨#[]⟩ : ByteArray), .int .i64 0, .int .i64 0, .int .i64 0, .string (⟨#[]⟩ : ByteArray), .string (⟨#[]⟩ : ByteArray), .int .i64 0, .int .i64 0]) ?_ 3 _ rfl; (with_reducible repeat (first | refine blk_drewN ?_ _ | refine blk_drew ?_ | refine blk_alloc ?_ _)); refine blk_put (cs := #[.int .i64 t180, .int .i64 t183, .int .i64 0, .int .i64 0, .int .i64 0, .slice none 0 0, .string (⟨#[]⟩ : ByteArray), .int .i64 0, .int .i64 0, .int .i64 0, .string (⟨#[]⟩ : ByteArray), .string (⟨#[]⟩ : ByteArray), .int .i64 0, .int .i64 0]) ?_ 2 _ rfl; (with_reducible repeat (first | refine blk_drewN ?_ _ | refine blk_drew ?_ | refine blk_alloc ?_ _)); refine blk_put (cs := #[.int .i64 t180, .int .i64 0, .int .i64 0, .int .i64 0, .int .i64 0, .slice none 0 0, .string (⟨#[]⟩ : ByteArray), .int .i64 0, .int .i64 0, .int .i64 0, .string (⟨#[]⟩ : ByteArray), .string (⟨#[]⟩ : ByteArray), .int .i64 0, .int .i64 0]) ?_ 1 _ rfl; (with_reducible repeat (first | refine blk_drewN ?_ _ | refine blk_drew ?_ | refine blk_alloc ?_ _)); refine blk_put (cs := #[.int .i64 0, .int .i64 0, .int .i64 0, .int .i64 0, .int .i64 0, .slice none 0 0, .string (⟨#[]⟩ : ByteArray), .int .i64 0, .int .i64 0, .int .i64 0, .string (⟨#[]⟩ : ByteArray), .string (⟨#[]⟩ : ByteArray), .int .i64 0, .int .i64 0]) ?_ 0 _ rfl; (with_reducible repeat (first | refine blk_drewN ?_ _ | refine blk_drew ?_ | refine blk_alloc ?_ _)); exact BK186.out) NB186_179.out (by simp)); have n2_ := Aside0.mk (Kd.R_lower ho0 (below_size (by repeat (first | (with_reducible first | exact HB.out | apply below_alloc | apply pw_below_drewN | apply below_drew1 | refine below_set ?_ (IsS99.ge HI179.out) | refine below_set ?_ GE172.out | refine below_set ?_ GE186.out) | exact HB.out)))); have n3_ := Aside0.mk (hb); have n4_ := Aside0.mk (hi); clear BK172; clear BK186; clear HB; clear HI179; have BK172 := n0_; have BK186 := n1_; have HO223 := n2_; have HB := n3_; have HI179 := n4_; clear n0_ n1_ n2_ n3_ n4_; (try clear hb); (try clear hb2); (try clear hk); (try clear hi); (try clear ho0)) | ((with_reducible refine gate_callee (f := 42) rfl ?_); refine goesL_ (some 65) rfl rfl Try.func42 (by kernel_rfl) rfl #[.pointer (some ⟨g179, 0, none⟩)] rfl (by (try simp only [List.map_toArray, List.map_cons, List.map_nil]); first | done | rfl | (simp only [List.length_drop, List.length_take]; rfl)) ?_; (with_reducible refine (pack_Reader_Number.calls k g179 t224 t225 t226 t227 t228 w _ ?side1 ?side2 A55.out).mono ?_); (case side1 => repeat (first | (with_reducible first | exact HI179.out | apply IsS99.alloc | apply IsS99.drewN | apply IsS99.drew | apply IsS99.set_0 | apply IsS99.set_1 | refine IsS99.far ?_ NB179_172.out _ | refine IsS99.far ?_ NB179_186.out _) | exact HI179.out)); (case side2 => repeat (first | (with_reducible first | exact HB.out | apply below_alloc | apply pw_below_drewN | apply below_drew1 | refine below_set ?_ (IsS99.ge HI179.out) | refine below_set ?_ GE172.out | refine below_set ?_ GE186.out) | exact HB.out)); rintro e w58 ⟨rfl, hi, hb, hk⟩; refine ⟨_, rfl, ?_⟩; have n0_ := Aside0.mk (KeepBut.blk hk (g' := gb172) (o := .cells #[.int .i64 0, .int .i64 0, .int .i64 0, .int .i64 0, .int .i64 0, .slice none 0 0, .string (⟨#[]⟩ : ByteArray), .int .i64 0, .int .i64 0, .int .i64 0, .string (⟨#[]⟩ : ByteArray), .string (⟨#[]⟩ : ByteArray), .int .i64 0, .int .i64 0] 34 (0, 0)) (by (with_reducible repeat (first | refine blk_drewN ?_ _ | refine blk_drew ?_ | refine blk_alloc ?_ _)); exact BK172.out) NB172_179.out (by simp)); have n1_ := Aside0.mk (KeepBut.blk hk (g' := gb186) (o := .cells #[.int .i64 t180, .int .i64 t183, .int .i64 0, .int .i64 0, .int .i64 0, .slice none 0 0, .string (⟨#[]⟩ : ByteArray), .int .i64 0, .int .i64 0, .int .i64 0, .string (⟨#[]⟩ : ByteArray), .string (⟨#[]⟩ : ByteArray), .int .i64 0, .int .i64 0] 34 (0, 0)) (by (with_reducible repeat (first | refine blk_drewN ?_ _ | refine blk_drew ?_ | refine blk_alloc ?_ _)); exact BK186.out) NB186_179.out (by simp)); have n2_ := Aside0.mk (Kd.R_mono (Kd.R_keep (IsS99.apart (show IsS99 w _ g179 t224 t225 from by repeat (first | (with_reducible first | exact HI179.out | apply IsS99.alloc | apply IsS99.drewN | apply IsS99.drew | apply IsS99.set_0 | apply IsS99.set_1 | refine IsS99.far ?_ NB179_172.out _ | refine IsS99.far ?_ NB179_186.out _) | exact HI179.out)) (by (with_reducible repeat (first | apply Kd.R_alloc | apply Kd.R_drewN | apply Kd.R_drew)); exact HO223.out) (by decide)) hk (fun _ h => h.2)) (fun _ h => h.1)); have n3_ := Aside0.mk (hb); have n4_ := Aside0.mk (hi); clear BK172; clear BK186; clear HO223; clear HB; clear HI179; have BK172 := n0_; have BK186 := n1_; have HO223 := n2_; have HB := n3_; have HI179 := n4_; clear n0_ n1_ n2_ n3_ n4_; (try clear hb); (try clear hb2); (try clear hk); (try clear hi)) | ((with_reducible refine gate_callee (f := 42) rfl ?_); refine goesL_ (some 67) rfl rfl Try.func42 (by kernel_rfl) rfl #[.pointer (some ⟨g179, 0, none⟩)] rfl (by (try simp only [List.map_toArray, List.map_cons, List.map_nil]); first | done | rfl | (simp only [List.length_drop, List.length_take]; rfl)) ?_; (with_reducible refine (pack_Reader_Number.calls k g179 t227 t228 t229 t230 t231 w _ ?side1 ?side2 A56.out).mono ?_); (case side1 => repeat (first | (with_reducible first | exact HI179.out | apply IsS99.alloc | apply IsS99.drewN | apply IsS99.drew | apply IsS99.set_0 | apply IsS99.set_1 | refine IsS99.far ?_ NB179_172.out _ | refine IsS99.far ?_ NB179_186.out _) | exact HI179.out)); (case side2 => repeat (first | (with_reducible first | exact HB.out | apply below_alloc | apply pw_below_drewN | apply below_drew1 | refine below_set ?_ (IsS99.ge HI179.out) | refine below_set ?_ GE172.out | refine below_set ?_ GE186.out) | exact HB.out)); rintro e w59 ⟨rfl, hi, hb, hk⟩; refine ⟨_, rfl, ?_⟩; have n0_ := Aside0.mk (KeepBut.blk hk (g' := gb172) (o := .cells #[.int .i64 0, .int .i64 0, .int .i64 0, .int .i64 0, .int .i64 0, .slice none 0 0, .string (⟨#[]⟩ : ByteArray), .int .i64 0, .int .i64 0, .int .i64 0, .string (⟨#[]⟩ : ByteArray), .string (⟨#[]⟩ : ByteArray), .int .i64 0, .int .i64 0] 34 (0, 0)) (by (with_reducible repeat (first | refine blk_drewN ?_ _ | refine blk_drew ?_ | refine blk_alloc ?_ _)); exact BK172.out) NB172_179.out (by simp)); have n1_ := Aside0.mk (KeepBut.blk hk (g' := gb186) (o := .cells #[.int .i64 t180, .int .i64 t183, .int .i64 0, .int .i64 0, .int .i64 0, .slice none 0 0, .string (⟨#[]⟩ : ByteArray), .int .i64 0, .int .i64 0, .int .i64 0, .string (⟨#[]⟩ : ByteArray), .string (⟨#[]⟩ : ByteArray), .int .i64 0, .int .i64 0] 34 (0, 0)) (by (with_reducible repeat (first | refine blk_drewN ?_ _ | refine blk_drew ?_ | refine blk_alloc ?_ _)); exact BK186.out) NB186_179.out (by simp)); have n2_ := Aside0.mk (Kd.R_mono (Kd.R_keep (IsS99.apart (show IsS99 w _ g179 t227 t228 from by repeat (first | (with_reducible first | exact HI179.out | apply IsS99.alloc | apply IsS99.drewN | apply IsS99.drew | apply IsS99.set_0 | apply IsS99.set_1 | refine IsS99.far ?_ NB179_172.out _ | refine IsS99.far ?_ NB179_186.out _) | exact HI179.out)) (by (with_reducible repeat (first | apply Kd.R_alloc | apply Kd.R_drewN | apply Kd.R_drew)); exact HO223.out) (by decide)) hk (fun _ h => h.2)) (fun _ h => h.1)); have n3_ := Aside0.mk (hb); have n4_ := Aside0.mk (hi); clear BK172; clear BK186; clear HO223; clear HB; clear HI179; have BK172 := n0_; have BK186 := n1_; have HO223 := n2_; have HB := n3_; have HI179 := n4_; clear n0_ n1_ n2_ n3_ n4_; (try clear hb); (try clear hb2); (try clear hk); (try clear hi); have hnb60 := NB186_172.out; have hnc60 := NB172_186.out; have hnb61 := NB186_179.out; have hnc61 := NB179_186.out; have hcz62_0 : w59.cell? ⟨gb186, 0, none⟩ = some (.int .i64 t180) := (blk_cell BK186.out 0).trans rfl; have hcz62_1 : w59.cell? ⟨gb186, 1, none⟩ = some (.int .i64 t183) := (blk_cell BK186.out 1).trans rfl; have hcz62_2 : w59.cell? ⟨gb186, 2, none⟩ = some (.int .i64 0) := (blk_cell BK186.out 2).trans rfl; have hcz62_3 : w59.cell? ⟨gb186, 3, none⟩ = some (.int .i64 0) := (blk_cell BK186.out 3).trans rfl; have hcz62_4 : w59.cell? ⟨gb186, 4, none⟩ = some (.int .i64 0) := (blk_cell BK186.out 4).trans rfl; have hcz62_5 : w59.cell? ⟨gb186, 5, none⟩ = some (.slice none 0 0) := (blk_cell BK186.out 5).trans rfl; have hcz62_6 : w59.cell? ⟨gb186, 6, none⟩ = some (.string (⟨#[]⟩ : ByteArray)) := (blk_cell BK186.out 6).trans rfl; have hcz62_7 : w59.cell? ⟨gb186, 7, none⟩ = some (.int .i64 0) := (blk_cell BK186.out 7).trans rfl; have hcz62_8 : w59.cell? ⟨gb186, 8, none⟩ = some (.int .i64 0) := (blk_cell BK186.out 8).trans rfl; have hcz62_9 : w59.cell? ⟨gb186, 9, none⟩ = some (.int .i64 0) := (blk_cell BK186.out 9).trans rfl; have hcz62_10 : w59.cell? ⟨gb186, 10, none⟩ = some (.string (⟨#[]⟩ : ByteArray)) := (blk_cell BK186.out 10).trans rfl; have hcz62_11 : w59.cell? ⟨gb186, 11, none⟩ = some (.string (⟨#[]⟩ : ByteArray)) := (blk_cell BK186.out 11).trans rfl; have hcz62_12 : w59.cell? ⟨gb186, 12, none⟩ = some (.int .i64 0) := (blk_cell BK186.out 12).trans rfl; have hcz62_13 : w59.cell? ⟨gb186, 13, none⟩ = some (.int .i64 0) := (blk_cell BK186.out 13).trans rfl; have hfz62_0 := blk_frozen BK186.out 0; have hfz62_1 := blk_frozen BK186.out 1; have hfz62_2 := blk_frozen BK186.out 2; have hfz62_3 := blk_frozen BK186.out 3; have hfz62_4 := blk_frozen BK186.out 4; have hfz62_5 := blk_frozen BK186.out 5; have hfz62_6 := blk_frozen BK186.out 6; have hfz62_7 := blk_frozen BK186.out 7; have hfz62_8 := blk_frozen BK186.out 8; have hfz62_9 := blk_frozen BK186.out 9; have hfz62_10 := blk_frozen BK186.out 10; have hfz62_11 := blk_frozen BK186.out 11; have hfz62_12 := blk_frozen BK186.out 12; have hfz62_13 := blk_frozen BK186.out 13; obtain ⟨Ao63, co63, eo63⟩ := Kd.R_slice HO223.out; subst eo63))
              go_meet
              case rel => exact ⟨_, (t230), (t231), (t218), (t219), (t220), (t221), ((⟨#[]⟩ : ByteArray)), (0), (0), (0), ((⟨#[]⟩ : ByteArray)), ((⟨#[]⟩ : ByteArray)), (t226), (t229), (.slice Ao63 t221.length co63), H', ⟨by first | omega | exact Nat.le_refl _⟩, ⟨by (with_reducible repeat (first | apply Kd.R_alloc | apply Kd.R_drewN | apply Kd.R_drew)); exact Kd.R_mono (Kd.R_far (p := ⟨gb186, 13, none⟩) (Kd.R_far (p := ⟨gb186, 12, none⟩) (Kd.R_far (p := ⟨gb186, 5, none⟩) (Kd.R_far (p := ⟨gb186, 4, none⟩) (Kd.R_far (p := ⟨gb186, 3, none⟩) (Kd.R_far (p := ⟨gb186, 2, none⟩) (Kd.R_types HO223.out BK186.out (by decide)) (fun _ hk => hk.2) (.int .i64 t218)) (fun _ hk => hk.2) (.int .i64 t219)) (fun _ hk => hk.2) (.int .i64 t220)) (fun _ hk => hk.2) (.slice Ao63 t221.length co63)) (fun _ hk => hk.2) (.int .i64 t226)) (fun _ hk => hk.2) (.int .i64 t229)) (fun _ hk => trivial)⟩, ⟨by (with_reducible repeat (first | refine blk_drewN ?_ _ | refine blk_drew ?_ | refine blk_alloc ?_ _)); refine blk_far ?_ NB172_186.out _; (with_reducible repeat (first | refine blk_drewN ?_ _ | refine blk_drew ?_ | refine blk_alloc ?_ _)); refine blk_far ?_ NB172_186.out _; (with_reducible repeat (first | refine blk_drewN ?_ _ | refine blk_drew ?_ | refine blk_alloc ?_ _)); refine blk_far ?_ NB172_186.out _; (with_reducible repeat (first | refine blk_drewN ?_ _ | refine blk_drew ?_ | refine blk_alloc ?_ _)); refine blk_far ?_ NB172_186.out _; (with_reducible repeat (first | refine blk_drewN ?_ _ | refine blk_drew ?_ | refine blk_alloc ?_ _)); refine blk_far ?_ NB172_186.out _; (with_reducible repeat (first | refine blk_drewN ?_ _ | refine blk_drew ?_ | refine blk_alloc ?_ _)); refine blk_far ?_ NB172_186.out _; (with_reducible repeat (first | refine blk_drewN ?_ _ | refine blk_drew ?_ | refine blk_alloc ?_ _)); exact BK172.out⟩, ⟨by (with_reducible repeat (first | refine blk_drewN ?_ _ | refine blk_drew ?_ | refine blk_alloc ?_ _)); refine blk_put (cs := #[.int .i64 t180, .int .i64 t183, .int .i64 t218, .int .i64 t219, .int .i64 t220, .slice Ao63 t221.length co63, .string (⟨#[]⟩ : ByteArray), .int .i64 0, .int .i64 0, .int .i64 0, .string (⟨#[]⟩ : ByteArray), .string (⟨#[]⟩ : ByteArray), .int .i64 t226, .int .i64 0]) ?_ 13 _ rfl; (with_reducible repeat (first | refine blk_drewN ?_ _ | refine blk_drew ?_ | refine blk_alloc ?_ _)); refine blk_put (cs := #[.int .i64 t180, .int .i64 t183, .int .i64 t218, .int .i64 t219, .int .i64 t220, .slice Ao63 t221.length co63, .string (⟨#[]⟩ : ByteArray), .int .i64 0, .int .i64 0, .int .i64 0, .string (⟨#[]⟩ : ByteArray), .string (⟨#[]⟩ : ByteArray), .int .i64 0, .int .i64 0]) ?_ 12 _ rfl; (with_reducible repeat (first | refine blk_drewN ?_ _ | refine blk_drew ?_ | refine blk_alloc ?_ _)); refine blk_put (cs := #[.int .i64 t180, .int .i64 t183, .int .i64 t218, .int .i64 t219, .int .i64 t220, .slice none 0 0, .string (⟨#[]⟩ : ByteArray), .int .i64 0, .int .i64 0, .int .i64 0, .string (⟨#[]⟩ : ByteArray), .string (⟨#[]⟩ : ByteArray), .int .i64 0, .int .i64 0]) ?_ 5 _ rfl; (with_reducible repeat (first | refine blk_drewN ?_ _ | refine blk_drew ?_ | refine blk_alloc ?_ _)); refine blk_put (cs := #[.int .i64 t180, .int .i64 t183, .int .i64 t218, .int .i64 t219, .int .i64 0, .slice none 0 0, .string (⟨#[]⟩ : ByteArray), .int .i64 0, .int .i64 0, .int .i64 0, .string (⟨#[]⟩ : ByteArray), .string (⟨#[]⟩ : ByteArray), .int .i64 0, .int .i64 0]) ?_ 4 _ rfl; (with_reducible repeat (first | refine blk_drewN ?_ _ | refine blk_drew ?_ | refine blk_alloc ?_ _)); refine blk_put (cs := #[.int .i64 t180, .int .i64 t183, .int .i64 t218, .int .i64 0, .int .i64 0, .slice none 0 0, .string (⟨#[]⟩ : ByteArray), .int .i64 0, .int .i64 0, .int .i64 0, .string (⟨#[]⟩ : ByteArray), .string (⟨#[]⟩ : ByteArray), .int .i64 0, .int .i64 0]) ?_ 3 _ rfl; (with_reducible repeat (first | refine blk_drewN ?_ _ | refine blk_drew ?_ | refine blk_alloc ?_ _)); refine blk_put (cs := #[.int .i64 t180, .int .i64 t183, .int .i64 0, .int .i64 0, .int .i64 0, .slice none 0 0, .string (⟨#[]⟩ : ByteArray), .int .i64 0, .int .i64 0, .int .i64 0, .string (⟨#[]⟩ : ByteArray), .string (⟨#[]⟩ : ByteArray), .int .i64 0, .int .i64 0]) ?_ 2 _ rfl; (with_reducible repeat (first | refine blk_drewN ?_ _ | refine blk_drew ?_ | refine blk_alloc ?_ _)); exact BK186.out⟩, ⟨by repeat (first | (with_reducible first | exact HI179.out | apply IsS99.alloc | apply IsS99.drewN | apply IsS99.drew | apply IsS99.set_0 | apply IsS99.set_1 | refine IsS99.far ?_ NB179_172.out _ | refine IsS99.far ?_ NB179_186.out _) | exact HI179.out)⟩, ⟨by repeat (first | (with_reducible first | exact HB.out | apply below_alloc | apply pw_below_drewN | apply below_drew1 | refine below_set ?_ (IsS99.ge HI179.out) | refine below_set ?_ GE172.out | refine below_set ?_ GE186.out) | exact HB.out)⟩⟩
            · rw [if_neg c53] at H
              have c53b0 : (t183 == 3) = false := beq_eq_false_iff_ne.mpr c53
              have c53b1 : (t183 != 3) = true := bne_iff_ne.mpr c53
              have H' := Aside0.mk H
              clear H
              go_wp2
              go_meet
              case rel => exact ⟨_, (t184), (t185), (0), (0), (0), (([] : List (S67))), ((⟨#[]⟩ : ByteArray)), (0), (0), (0), ((⟨#[]⟩ : ByteArray)), ((⟨#[]⟩ : ByteArray)), (0), (0), (.slice none 0 0), H', ⟨by first | omega | exact Nat.le_refl _⟩, ⟨by first | exact Kd.R_nil _ _ _ _ _ | exact Kd.N_nil _ _ _ _ _ | exact Kd.V_nil _ _ _ _ _ | exact Kd.Q_nil _ _ _ _ _ | exact Kd.S_nil _ _ _ _ _⟩, ⟨by (with_reducible repeat (first | refine blk_drewN ?_ _ | refine blk_drew ?_ | refine blk_alloc ?_ _)); refine blk_far ?_ NB172_186.out _; (with_reducible repeat (first | refine blk_drewN ?_ _ | refine blk_drew ?_ | refine blk_alloc ?_ _)); refine blk_far ?_ NB172_186.out _; (with_reducible repeat (first | refine blk_drewN ?_ _ | refine blk_drew ?_ | refine blk_alloc ?_ _)); refine blk_far ?_ NB172_186.out _; (with_reducible repeat (first | refine blk_drewN ?_ _ | refine blk_drew ?_ | refine blk_alloc ?_ _)); refine blk_far ?_ NB172_186.out _; (with_reducible repeat (first | refine blk_drewN ?_ _ | refine blk_drew ?_ | refine blk_alloc ?_ _)); refine blk_far ?_ NB172_186.out _; (with_reducible repeat (first | refine blk_drewN ?_ _ | refine blk_drew ?_ | refine blk_alloc ?_ _)); refine blk_far ?_ NB172_186.out _; (with_reducible repeat (first | refine blk_drewN ?_ _ | refine blk_drew ?_ | refine blk_alloc ?_ _)); refine blk_far ?_ NB172_186.out _; (with_reducible repeat (first | refine blk_drewN ?_ _ | refine blk_drew ?_ | refine blk_alloc ?_ _)); refine blk_far ?_ NB172_186.out _; (with_reducible repeat (first | refine blk_drewN ?_ _ | refine blk_drew ?_ | refine blk_alloc ?_ _)); refine blk_far ?_ NB172_186.out _; (with_reducible repeat (first | refine blk_drewN ?_ _ | refine blk_drew ?_ | refine blk_alloc ?_ _)); refine blk_far ?_ NB172_186.out _; (with_reducible repeat (first | refine blk_drewN ?_ _ | refine blk_drew ?_ | refine blk_alloc ?_ _)); refine blk_far ?_ NB172_186.out _; (with_reducible repeat (first | refine blk_drewN ?_ _ | refine blk_drew ?_ | refine blk_alloc ?_ _)); refine blk_far ?_ NB172_186.out _; (with_reducible repeat (first | refine blk_drewN ?_ _ | refine blk_drew ?_ | refine blk_alloc ?_ _)); refine blk_far ?_ NB172_186.out _; (with_reducible repeat (first | refine blk_drewN ?_ _ | refine blk_drew ?_ | refine blk_alloc ?_ _)); refine blk_far ?_ NB172_186.out _; (with_reducible repeat (first | refine blk_drewN ?_ _ | refine blk_drew ?_ | refine blk_alloc ?_ _)); exact BK172.out⟩, ⟨by (with_reducible repeat (first | refine blk_drewN ?_ _ | refine blk_drew ?_ | refine blk_alloc ?_ _)); refine blk_put (cs := #[.int .i64 t180, .int .i64 t183, .int .i64 0, .int .i64 0, .int .i64 0, .slice none 0 0, .string (⟨#[]⟩ : ByteArray), .int .i64 0, .int .i64 0, .int .i64 0, .string (⟨#[]⟩ : ByteArray), .string (⟨#[]⟩ : ByteArray), .int .i64 0, .int .i64 0]) ?_ 13 _ rfl; (with_reducible repeat (first | refine blk_drewN ?_ _ | refine blk_drew ?_ | refine blk_alloc ?_ _)); refine blk_put (cs := #[.int .i64 t180, .int .i64 t183, .int .i64 0, .int .i64 0, .int .i64 0, .slice none 0 0, .string (⟨#[]⟩ : ByteArray), .int .i64 0, .int .i64 0, .int .i64 0, .string (⟨#[]⟩ : ByteArray), .string (⟨#[]⟩ : ByteArray), .int .i64 0, .int .i64 0]) ?_ 12 _ rfl; (with_reducible repeat (first | refine blk_drewN ?_ _ | refine blk_drew ?_ | refine blk_alloc ?_ _)); refine blk_put (cs := #[.int .i64 t180, .int .i64 t183, .int .i64 0, .int .i64 0, .int .i64 0, .slice none 0 0, .string (⟨#[]⟩ : ByteArray), .int .i64 0, .int .i64 0, .int .i64 0, .string (⟨#[]⟩ : ByteArray), .string (⟨#[]⟩ : ByteArray), .int .i64 0, .int .i64 0]) ?_ 11 _ rfl; (with_reducible repeat (first | refine blk_drewN ?_ _ | refine blk_drew ?_ | refine blk_alloc ?_ _)); refine blk_put (cs := #[.int .i64 t180, .int .i64 t183, .int .i64 0, .int .i64 0, .int .i64 0, .slice none 0 0, .string (⟨#[]⟩ : ByteArray), .int .i64 0, .int .i64 0, .int .i64 0, .string (⟨#[]⟩ : ByteArray), .string (⟨#[]⟩ : ByteArray), .int .i64 0, .int .i64 0]) ?_ 10 _ rfl; (with_reducible repeat (first | refine blk_drewN ?_ _ | refine blk_drew ?_ | refine blk_alloc ?_ _)); refine blk_put (cs := #[.int .i64 t180, .int .i64 t183, .int .i64 0, .int .i64 0, .int .i64 0, .slice none 0 0, .string (⟨#[]⟩ : ByteArray), .int .i64 0, .int .i64 0, .int .i64 0, .string (⟨#[]⟩ : ByteArray), .string (⟨#[]⟩ : ByteArray), .int .i64 0, .int .i64 0]) ?_ 9 _ rfl; (with_reducible repeat (first | refine blk_drewN ?_ _ | refine blk_drew ?_ | refine blk_alloc ?_ _)); refine blk_put (cs := #[.int .i64 t180, .int .i64 t183, .int .i64 0, .int .i64 0, .int .i64 0, .slice none 0 0, .string (⟨#[]⟩ : ByteArray), .int .i64 0, .int .i64 0, .int .i64 0, .string (⟨#[]⟩ : ByteArray), .string (⟨#[]⟩ : ByteArray), .int .i64 0, .int .i64 0]) ?_ 8 _ rfl; (with_reducible repeat (first | refine blk_drewN ?_ _ | refine blk_drew ?_ | refine blk_alloc ?_ _)); refine blk_put (cs := #[.int .i64 t180, .int .i64 t183, .int .i64 0, .int .i64 0, .int .i64 0, .slice none 0 0, .string (⟨#[]⟩ : ByteArray), .int .i64 0, .int .i64 0, .int .i64 0, .string (⟨#[]⟩ : ByteArray), .string (⟨#[]⟩ : ByteArray), .int .i64 0, .int .i64 0]) ?_ 7 _ rfl; (with_reducible repeat (first | refine blk_drewN ?_ _ | refine blk_drew ?_ | refine blk_alloc ?_ _)); refine blk_put (cs := #[.int .i64 t180, .int .i64 t183, .int .i64 0, .int .i64 0, .int .i64 0, .slice none 0 0, .string (⟨#[]⟩ : ByteArray), .int .i64 0, .int .i64 0, .int .i64 0, .string (⟨#[]⟩ : ByteArray), .string (⟨#[]⟩ : ByteArray), .int .i64 0, .int .i64 0]) ?_ 6 _ rfl; (with_reducible repeat (first | refine blk_drewN ?_ _ | refine blk_drew ?_ | refine blk_alloc ?_ _)); refine blk_put (cs := #[.int .i64 t180, .int .i64 t183, .int .i64 0, .int .i64 0, .int .i64 0, .slice none 0 0, .string (⟨#[]⟩ : ByteArray), .int .i64 0, .int .i64 0, .int .i64 0, .string (⟨#[]⟩ : ByteArray), .string (⟨#[]⟩ : ByteArray), .int .i64 0, .int .i64 0]) ?_ 5 _ rfl; (with_reducible repeat (first | refine blk_drewN ?_ _ | refine blk_drew ?_ | refine blk_alloc ?_ _)); refine blk_put (cs := #[.int .i64 t180, .int .i64 t183, .int .i64 0, .int .i64 0, .int .i64 0, .slice none 0 0, .string (⟨#[]⟩ : ByteArray), .int .i64 0, .int .i64 0, .int .i64 0, .string (⟨#[]⟩ : ByteArray), .string (⟨#[]⟩ : ByteArray), .int .i64 0, .int .i64 0]) ?_ 4 _ rfl; (with_reducible repeat (first | refine blk_drewN ?_ _ | refine blk_drew ?_ | refine blk_alloc ?_ _)); refine blk_put (cs := #[.int .i64 t180, .int .i64 t183, .int .i64 0, .int .i64 0, .int .i64 0, .slice none 0 0, .string (⟨#[]⟩ : ByteArray), .int .i64 0, .int .i64 0, .int .i64 0, .string (⟨#[]⟩ : ByteArray), .string (⟨#[]⟩ : ByteArray), .int .i64 0, .int .i64 0]) ?_ 3 _ rfl; (with_reducible repeat (first | refine blk_drewN ?_ _ | refine blk_drew ?_ | refine blk_alloc ?_ _)); refine blk_put (cs := #[.int .i64 t180, .int .i64 t183, .int .i64 0, .int .i64 0, .int .i64 0, .slice none 0 0, .string (⟨#[]⟩ : ByteArray), .int .i64 0, .int .i64 0, .int .i64 0, .string (⟨#[]⟩ : ByteArray), .string (⟨#[]⟩ : ByteArray), .int .i64 0, .int .i64 0]) ?_ 2 _ rfl; (with_reducible repeat (first | refine blk_drewN ?_ _ | refine blk_drew ?_ | refine blk_alloc ?_ _)); refine blk_put (cs := #[.int .i64 t180, .int .i64 0, .int .i64 0, .int .i64 0, .int .i64 0, .slice none 0 0, .string (⟨#[]⟩ : ByteArray), .int .i64 0, .int .i64 0, .int .i64 0, .string (⟨#[]⟩ : ByteArray), .string (⟨#[]⟩ : ByteArray), .int .i64 0, .int .i64 0]) ?_ 1 _ rfl; (with_reducible repeat (first | refine blk_drewN ?_ _ | refine blk_drew ?_ | refine blk_alloc ?_ _)); refine blk_put (cs := #[.int .i64 0, .int .i64 0, .int .i64 0, .int .i64 0, .int .i64 0, .slice none 0 0, .string (⟨#[]⟩ : ByteArray), .int .i64 0, .int .i64 0, .int .i64 0, .string (⟨#[]⟩ : ByteArray), .string (⟨#[]⟩ : ByteArray), .int .i64 0, .int .i64 0]) ?_ 0 _ rfl; (with_reducible repeat (first | refine blk_drewN ?_ _ | refine blk_drew ?_ | refine blk_alloc ?_ _)); exact BK186.out⟩, ⟨by repeat (first | (with_reducible first | exact HI179.out | apply IsS99.alloc | apply IsS99.drewN | apply IsS99.drew | apply IsS99.set_0 | apply IsS99.set_1 | refine IsS99.far ?_ NB179_172.out _ | refine IsS99.far ?_ NB179_186.out _) | exact HI179.out)⟩, ⟨by repeat (first | (with_reducible first | exact HB.out | apply below_alloc | apply pw_below_drewN | apply below_drew1 | refine below_set ?_ (IsS99.ge HI179.out) | refine below_set ?_ GE172.out | refine below_set ?_ GE186.out) | exact HB.out)⟩⟩
    case rest =>
      clear HC8
      try clear c1
      try clear c2
      try clear p2
      try clear c3
      try clear c3b0
      try clear c3b1
      try clear c4
      try clear c5
      try clear c6
      try clear c15
      try clear c16
      try clear c18
      try clear c18b0
      try clear c18b1
      try clear c19
      try clear c21
      try clear c22
      try clear c24
      try clear c24b0
      try clear c24b1
      try clear c31
      try clear c32
      try clear c39
      try clear c40
      try clear c41
      try clear c42
      try clear c43
      try clear c44
      try clear c45
      try clear c46
      try clear c46b0
      try clear c46b1
      try clear c49
      try clear c50
      try clear c53
      try clear c53b0
      try clear c53b1
      try clear c60
      try clear c61
      try clear hcz17_0
      try clear hcz17_1
      try clear hcz17_10
      try clear hcz17_11
      try clear hcz17_12
      try clear hcz17_13
      try clear hcz17_2
      try clear hcz17_3
      try clear hcz17_4
      try clear hcz17_5
      try clear hcz17_6
      try clear hcz17_7
      try clear hcz17_8
      try clear hcz17_9
      try clear hcz23_0
      try clear hcz23_1
      try clear hcz23_10
      try clear hcz23_11
      try clear hcz23_12
      try clear hcz23_13
      try clear hcz23_2
      try clear hcz23_3
      try clear hcz23_4
      try clear hcz23_5
      try clear hcz23_6
      try clear hcz23_7
      try clear hcz23_8
      try clear hcz23_9
      try clear hcz33_0
      try clear hcz33_1
      try clear hcz33_10
      try clear hcz33_11
      try clear hcz33_12
      try clear hcz33_13
      try clear hcz33_2
      try clear hcz33_3
      try clear hcz33_4
      try clear hcz33_5
      try clear hcz33_6
      try clear hcz33_7
      try clear hcz33_8
      try clear hcz33_9
      try clear hcz51_0
      try clear hcz51_1
      try clear hcz51_10
      try clear hcz51_11
      try clear hcz51_12
      try clear hcz51_13
      try clear hcz51_2
      try clear hcz51_3
      try clear hcz51_4
      try clear hcz51_5
      try clear hcz51_6
      try clear hcz51_7
      try clear hcz51_8
      try clear hcz51_9
      try clear hcz62_0
      try clear hcz62_1
      try clear hcz62_10
      try clear hcz62_11
      try clear hcz62_12
      try clear hcz62_13
      try clear hcz62_2
      try clear hcz62_3
      try clear hcz62_4
      try clear hcz62_5
      try clear hcz62_6
      try clear hcz62_7
      try clear hcz62_8
      try clear hcz62_9
      try clear hfz17_0
      try clear hfz17_1
      try clear hfz17_10
      try clear hfz17_11
      try clear hfz17_12
      try clear hfz17_13
      try clear hfz17_2
      try clear hfz17_3
      try clear hfz17_4
      try clear hfz17_5
      try clear hfz17_6
      try clear hfz17_7
      try clear hfz17_8
      try clear hfz17_9
      try clear hfz23_0
      try clear hfz23_1
      try clear hfz23_10
      try clear hfz23_11
      try clear hfz23_12
      try clear hfz23_13
      try clear hfz23_2
      try clear hfz23_3
      try clear hfz23_4
      try clear hfz23_5
      try clear hfz23_6
      try clear hfz23_7
      try clear hfz23_8
      try clear hfz23_9
      try clear hfz33_0
      try clear hfz33_1
      try clear hfz33_10
      try clear hfz33_11
      try clear hfz33_12
      try clear hfz33_13
      try clear hfz33_2
      try clear hfz33_3
      try clear hfz33_4
      try clear hfz33_5
      try clear hfz33_6
      try clear hfz33_7
      try clear hfz33_8
      try clear hfz33_9
      try clear hfz51_0
      try clear hfz51_1
      try clear hfz51_10
      try clear hfz51_11
      try clear hfz51_12
      try clear hfz51_13
      try clear hfz51_2
      try clear hfz51_3
      try clear hfz51_4
      try clear hfz51_5
      try clear hfz51_6
      try clear hfz51_7
      try clear hfz51_8
      try clear hfz51_9
      try clear hfz62_0
      try clear hfz62_1
      try clear hfz62_10
      try clear hfz62_11
      try clear hfz62_12
      try clear hfz62_13
      try clear hfz62_2
      try clear hfz62_3
      try clear hfz62_4
      try clear hfz62_5
      try clear hfz62_6
      try clear hfz62_7
      try clear hfz62_8
      try clear hfz62_9
      obtain ⟨kq, x180000_7, x180001_7, x187002_7, x187003_7, x187004_7, x187005_7, x187006_7, x187007_7, x187008_7, x187009_7, x187010_7, x187011_7, x187012_7, x187013_7, u187005, HA, HJ7, HO_187005, BK172, BK186, HI179, HB⟩ := hcut
      cases kq with
      | zero => exact absurd HA.out (by simp [record_Read.j0])
      | succ kj7 =>
        have H := HA.out
        clear HA
        simp only [record_Read.j0] at H
        by_cases c64 : t176 = true
        · subst c64
          have H1 : ((pack_Reader_End.f x180000_7 x180001_7).bind fun bt232 => (if bt232.1 = 0 then ((record_Check.f t180 t183 x187002_7 x187003_7 x187004_7 x187005_7 x187006_7 x187007_7 x187008_7 x187009_7 x187010_7 x187011_7 x187012_7 x187013_7).bind fun t235 => (if t235 = 0 then (some (t180, t183, x187002_7, x187003_7, x187004_7, x187005_7, x187006_7, x187007_7, x187008_7, x187009_7, x187010_7, x187011_7, x187012_7, x187013_7, 0)) else (some (0, 0, 0, 0, 0, ([] : List (S67)), (⟨#[]⟩ : ByteArray), 0, 0, 0, (⟨#[]⟩ : ByteArray), (⟨#[]⟩ : ByteArray), 0, 0, 4)))) else (some (0, 0, 0, 0, 0, ([] : List (S67)), (⟨#[]⟩ : ByteArray), 0, 0, 0, (⟨#[]⟩ : ByteArray), (⟨#[]⟩ : ByteArray), 0, 0, 4)))) = some (r1, r2, r3, r4, r5, r6, r7, r8, r9, r10, r11, r12, r13, r14, r15) := by rw [if_pos rfl] at H; exact H
          clear H
          have H := H1
          clear H1
          replace H := Option.bind_eq_some_iff.mp H
          obtain ⟨⟨t232, t233, t234⟩, A650, H⟩ := H
          replace H : (if t232 = 0 then ((record_Check.f t180 t183 x187002_7 x187003_7 x187004_7 x187005_7 x187006_7 x187007_7 x187008_7 x187009_7 x187010_7 x187011_7 x187012_7 x187013_7).bind fun t235 => (if t235 = 0 then (some (t180, t183, x187002_7, x187003_7, x187004_7, x187005_7, x187006_7, x187007_7, x187008_7, x187009_7, x187010_7, x187011_7, x187012_7, x187013_7, 0)) else (some (0, 0, 0, 0, 0, ([] : List (S67)), (⟨#[]⟩ : ByteArray), 0, 0, 0, (⟨#[]⟩ : ByteArray), (⟨#[]⟩ : ByteArray), 0, 0, 4)))) else (some (0, 0, 0, 0, 0, ([] : List (S67)), (⟨#[]⟩ : ByteArray), 0, 0, 0, (⟨#[]⟩ : ByteArray), (⟨#[]⟩ : ByteArray), 0, 0, 4))) = some (r1, r2, r3, r4, r5, r6, r7, r8, r9, r10, r11, r12, r13, r14, r15) := H
          have A65 := Aside0.mk A650
          clear A650
          by_cases c66 : t232 = 0
          · rw [if_pos c66] at H
            have c66b0 : (t232 == 0) = true := beq_iff_eq.mpr c66
            have c66b1 : (t232 != 0) = false := bne_eq_false_iff_eq.mpr c66
            clear c66
            replace H := Option.bind_eq_some_iff.mp H
            obtain ⟨t235, A670, H⟩ := H
            replace H : (if t235 = 0 then (some (t180, t183, x187002_7, x187003_7, x187004_7, x187005_7, x187006_7, x187007_7, x187008_7, x187009_7, x187010_7, x187011_7, x187012_7, x187013_7, 0)) else (some (0, 0, 0, 0, 0, ([] : List (S67)), (⟨#[]⟩ : ByteArray), 0, 0, 0, (⟨#[]⟩ : ByteArray), (⟨#[]⟩ : ByteArray), 0, 0, 4))) = some (r1, r2, r3, r4, r5, r6, r7, r8, r9, r10, r11, r12, r13, r14, r15) := H
            have A67 := Aside0.mk A670
            clear A670
            by_cases c68 : t235 = 0
            · rw [if_pos c68] at H
              have c68b0 : (t235 == 0) = true := beq_iff_eq.mpr c68
              have c68b1 : (t235 != 0) = false := bne_eq_false_iff_eq.mpr c68
              clear c68
              simp only [Option.some.injEq, Prod.mk.injEq] at H
              obtain ⟨rfl, rfl, rfl, rfl, rfl, rfl, rfl, rfl, rfl, rfl, rfl, rfl, rfl, rfl, rfl⟩ := H
              go_wp2_with (first | (go_at_call 46; (with_reducible refine (pack_Reader_End.calls g179 x180000_7 x180001_7 t232 t233 t234 w _ ?side1 ?side2 A65.out).mono ?_); (case side1 => repeat (first | (with_reducible first | exact HI179.out | apply IsS99.alloc | apply IsS99.drewN | apply IsS99.drew | apply IsS99.set_0 | apply IsS99.set_1 | refine IsS99.far ?_ NB179_172.out _ | refine IsS99.far ?_ NB179_186.out _) | exact HI179.out)); (case side2 => repeat (first | (with_reducible first | exact HB.out | apply below_alloc | apply pw_below_drewN | apply below_drew1 | refine below_set ?_ (IsS99.ge HI179.out) | refine below_set ?_ GE172.out | refine below_set ?_ GE186.out) | exact HB.out)); rintro e w69 ⟨rfl, hi, hb, hk⟩; have n0_ := Aside0.mk (Kd.R_mono (Kd.R_keep (IsS99.apart (show IsS99 w _ g179 x180000_7 x180001_7 from by repeat (first | (with_reducible first | exact HI179.out | apply IsS99.alloc | apply IsS99.drewN | apply IsS99.drew | apply IsS99.set_0 | apply IsS99.set_1 | refine IsS99.far ?_ NB179_172.out _ | refine IsS99.far ?_ NB179_186.out _) | exact HI179.out)) (by (with_reducible repeat (first | apply Kd.R_alloc | apply Kd.R_drewN | apply Kd.R_drew)); exact HO_187005.out) (by decide)) hk (fun _ h => h.2)) (fun _ h => h.1)); have n1_ := Aside0.mk (KeepBut.blk hk (g' := gb172) (o := .cells #[.int .i64 0, .int .i64 0, .int .i64 0, .int .i64 0, .int .i64 0, .slice none 0 0, .string (⟨#[]⟩ : ByteArray), .int .i64 0, .int .i64 0, .int .i64 0, .string (⟨#[]⟩ : ByteArray), .string (⟨#[]⟩ : ByteArray), .int .i64 0, .int .i64 0] 34 (0, 0)) (by (with_reducible repeat (first | refine blk_drewN ?_ _ | refine blk_drew ?_ | refine blk_alloc ?_ _)); exact BK172.out) NB172_179.out (by simp)); have n2_ := Aside0.mk (KeepBut.blk hk (g' := gb186) (o := .cells #[.int .i64 t180, .int .i64 t183, .int .i64 x187002_7, .int .i64 x187003_7, .int .i64 x187004_7, u187005, .string x187006_7, .int .i64 x187007_7, .int .i64 x187008_7, .int .i64 x187009_7, .string x187010_7, .string x187011_7, .int .i64 x187012_7, .int .i64 x187013_7] 34 (0, 0)) (by (with_reducible repeat (first | refine blk_drewN ?_ _ | refine blk_drew ?_ | refine blk_alloc ?_ _)); exact BK186.out) NB186_179.out (by simp)); have n3_ := Aside0.mk (hb); have n4_ := Aside0.mk (hi); clear HO_187005; clear BK172; clear BK186; clear HB; clear HI179; have HO_187005 := n0_; have BK172 := n1_; have BK186 := n2_; have HB := n3_; have HI179 := n4_; clear n0_ n1_ n2_ n3_ n4_; (try clear hb); (try clear hb2); (try clear hk); (try clear hi); have hnb70 := NB186_172.out; have hnc70 := NB172_186.out; have hnb71 := NB186_179.out; have hnc71 := NB179_186.out; have hcz72_0 : w69.cell? ⟨gb186, 0, none⟩ = some (.int .i64 t180) := (blk_cell BK186.out 0).trans rfl; have hcz72_1 : w69.cell? ⟨gb186, 1, none⟩ = some (.int .i64 t183) := (blk_cell BK186.out 1).trans rfl; have hcz72_2 : w69.cell? ⟨gb186, 2, none⟩ = some (.int .i64 x187002_7) := (blk_cell BK186.out 2).trans rfl; have hcz72_3 : w69.cell? ⟨gb186, 3, none⟩ = some (.int .i64 x187003_7) := (blk_cell BK186.out 3).trans rfl; have hcz72_4 : w69.cell? ⟨gb186, 4, none⟩ = some (.int .i64 x187004_7) := (blk_cell BK186.out 4).trans rfl; have hcz72_5 : w69.cell? ⟨gb186, 5, none⟩ = some (u187005) := (blk_cell BK186.out 5).trans rfl; have hcz72_6 : w69.cell? ⟨gb186, 6, none⟩ = some (.string x187006_7) := (blk_cell BK186.out 6).trans rfl; have hcz72_7 : w69.cell? ⟨gb186, 7, none⟩ = some (.int .i64 x187007_7) := (blk_cell BK186.out 7).trans rfl; have hcz72_8 : w69.cell? ⟨gb186, 8, none⟩ = some (.int .i64 x187008_7) := (blk_cell BK186.out 8).trans rfl; have hcz72_9 : w69.cell? ⟨gb186, 9, none⟩ = some (.int .i64 x187009_7) := (blk_cell BK186.out 9).trans rfl; have hcz72_10 : w69.cell? ⟨gb186, 10, none⟩ = some (.string x187010_7) := (blk_cell BK186.out 10).trans rfl; have hcz72_11 : w69.cell? ⟨gb186, 11, none⟩ = some (.string x187011_7) := (blk_cell BK186.out 11).trans rfl; have hcz72_12 : w69.cell? ⟨gb186, 12, none⟩ = some (.int .i64 x187012_7) := (blk_cell BK186.out 12).trans rfl; have hcz72_13 : w69.cell? ⟨gb186, 13, none⟩ = some (.int .i64 x187013_7) := (blk_cell BK186.out 13).trans rfl; have hfz72_0 := blk_frozen BK186.out 0; have hfz72_1 := blk_frozen BK186.out 1; have hfz72_2 := blk_frozen BK186.out 2; have hfz72_3 := blk_frozen BK186.out 3; have hfz72_4 := blk_frozen BK186.out 4; have hfz72_5 := blk_frozen BK186.out 5; have hfz72_6 := blk_frozen BK186.out 6; have hfz72_7 := blk_frozen BK186.out 7; have hfz72_8 := blk_frozen BK186.out 8; have hfz72_9 := blk_frozen BK186.out 9; have hfz72_10 := blk_frozen BK186.out 10; have hfz72_11 := blk_frozen BK186.out 11; have hfz72_12 := blk_frozen BK186.out 12; have hfz72_13 := blk_frozen BK186.out 13; obtain ⟨Ao73, co73, eo73⟩ := Kd.R_slice HO_187005.out; subst eo73) | (go_at_call 14; (with_reducible refine (record_Check.calls t180 t183 x187002_7 x187003_7 x187004_7 _ _ x187005_7 x187006_7 x187007_7 x187008_7 x187009_7 x187010_7 x187011_7 x187012_7 x187013_7 t235 _ ?side1 ?side2 A67.out).mono ?_); (case side1 => repeat (first | exact (Kd.R_reads' HO_187005.out).2.2 | (with_reducible refine Kd.C_alloc ?_ _) | (with_reducible refine Kd.C_drewN ?_ _) | (with_reducible refine Kd.C_drew ?_))); (case side2 => exact (Kd.R_reads' HO_187005.out).2.1); rintro e w74 ⟨rfl, hb⟩; have n0_ := Aside0.mk (Kd.R_below (by (with_reducible repeat (first | apply Kd.R_alloc | apply Kd.R_drewN | apply Kd.R_drew)); exact HO_187005.out) hb); have n1_ := Aside0.mk (blk_below (g := gb172) (o := .cells #[.int .i64 0, .int .i64 0, .int .i64 0, .int .i64 0, .int .i64 0, .slice none 0 0, .string (⟨#[]⟩ : ByteArray), .int .i64 0, .int .i64 0, .int .i64 0, .string (⟨#[]⟩ : ByteArray), .string (⟨#[]⟩ : ByteArray), .int .i64 0, .int .i64 0] 34 (0, 0)) (by (with_reducible repeat (first | refine blk_drewN ?_ _ | refine blk_drew ?_ | refine blk_alloc ?_ _)); exact BK172.out) hb); have n2_ := Aside0.mk (blk_below (g := gb186) (o := .cells #[.int .i64 t180, .int .i64 t183, .int .i64 x187002_7, .int .i64 x187003_7, .int .i64 x187004_7, .slice Ao73 x187005_7.length co73, .string x187006_7, .int .i64 x187007_7, .int .i64 x187008_7, .int .i64 x187009_7, .string x187010_7, .string x187011_7, .int .i64 x187012_7, .int .i64 x187013_7] 34 (0, 0)) (by (with_reducible repeat (first | refine blk_drewN ?_ _ | refine blk_drew ?_ | refine blk_alloc ?_ _)); exact BK186.out) hb); have n3_ := Aside0.mk (IsS99.below (by repeat (first | (with_reducible first | exact HI179.out | apply IsS99.alloc | apply IsS99.drewN | apply IsS99.drew | apply IsS99.set_0 | apply IsS99.set_1 | refine IsS99.far ?_ NB179_172.out _ | refine IsS99.far ?_ NB179_186.out _) | exact HI179.out)) hb); have n4_ := Aside0.mk (below_step (by repeat (first | (with_reducible first | exact HB.out | apply below_alloc | apply pw_below_drewN | apply below_drew1 | refine below_set ?_ (IsS99.ge HI179.out) | refine below_set ?_ GE172.out | refine below_set ?_ GE186.out) | exact HB.out)) hb); clear HO_187005; clear BK172; clear BK186; clear HI179; clear HB; have HO_187005 := n0_; have BK172 := n1_; have BK186 := n2_; have HI179 := n3_; have HB := n4_; clear n0_ n1_ n2_ n3_ n4_; (try clear hb); (try clear hb2); (try clear hk); (try clear hi); have hcz75_0 : w74.cell? ⟨gb186, 0, none⟩ = some (.int .i64 t180) := (blk_cell BK186.out 0).trans rfl; have hcz75_1 : w74.cell? ⟨gb186, 1, none⟩ = some (.int .i64 t183) := (blk_cell BK186.out 1).trans rfl; have hcz75_2 : w74.cell? ⟨gb186, 2, none⟩ = some (.int .i64 x187002_7) := (blk_cell BK186.out 2).trans rfl; have hcz75_3 : w74.cell? ⟨gb186, 3, none⟩ = some (.int .i64 x187003_7) := (blk_cell BK186.out 3).trans rfl; have hcz75_4 : w74.cell? ⟨gb186, 4, none⟩ = some (.int .i64 x187004_7) := (blk_cell BK186.out 4).trans rfl; have hcz75_5 : w74.cell? ⟨gb186, 5, none⟩ = some (.slice Ao73 x187005_7.length co73) := (blk_cell BK186.out 5).trans rfl; have hcz75_6 : w74.cell? ⟨gb186, 6, none⟩ = some (.string x187006_7) := (blk_cell BK186.out 6).trans rfl; have hcz75_7 : w74.cell? ⟨gb186, 7, none⟩ = some (.int .i64 x187007_7) := (blk_cell BK186.out 7).trans rfl; have hcz75_8 : w74.cell? ⟨gb186, 8, none⟩ = some (.int .i64 x187008_7) := (blk_cell BK186.out 8).trans rfl; have hcz75_9 : w74.cell? ⟨gb186, 9, none⟩ = some (.int .i64 x187009_7) := (blk_cell BK186.out 9).trans rfl; have hcz75_10 : w74.cell? ⟨gb186, 10, none⟩ = some (.string x187010_7) := (blk_cell BK186.out 10).trans rfl; have hcz75_11 : w74.cell? ⟨gb186, 11, none⟩ = some (.string x187011_7) := (blk_cell BK186.out 11).trans rfl; have hcz75_12 : w74.cell? ⟨gb186, 12, none⟩ = some (.int .i64 x187012_7) := (blk_cell BK186.out 12).trans rfl; have hcz75_13 : w74.cell? ⟨gb186, 13, none⟩ = some (.int .i64 x187013_7) := (blk_cell BK186.out 13).trans rfl; have hfz75_0 := blk_frozen BK186.out 0; have hfz75_1 := blk_frozen BK186.out 1; have hfz75_2 := blk_frozen BK186.out 2; have hfz75_3 := blk_frozen BK186.out 3; have hfz75_4 := blk_frozen BK186.out 4; have hfz75_5 := blk_frozen BK186.out 5; have hfz75_6 := blk_frozen BK186.out 6; have hfz75_7 := blk_frozen BK186.out 7; have hfz75_8 := blk_frozen BK186.out 8; have hfz75_9 := blk_frozen BK186.out 9; have hfz75_10 := blk_frozen BK186.out 10; have hfz75_11 := blk_frozen BK186.out 11; have hfz75_12 := blk_frozen BK186.out 12; have hfz75_13 := blk_frozen BK186.out 13; have hnb76 := NB172_179.out; have hnc76 := NB179_172.out; have hcz77_0 : w74.cell? ⟨gb172, 0, none⟩ = some (.int .i64 0) := (blk_cell BK172.out 0).trans rfl; have hcz77_1 : w74.cell? ⟨gb172, 1, none⟩ = some (.int .i64 0) := (blk_cell BK172.out 1).trans rfl; have hcz77_2 : w74.cell? ⟨gb172, 2, none⟩ = some (.int .i64 0) := (blk_cell BK172.out 2).trans rfl; have hcz77_3 : w74.cell? ⟨gb172, 3, none⟩ = some (.int .i64 0) := (blk_cell BK172.out 3).trans rfl; have hcz77_4 : w74.cell? ⟨gb172, 4, none⟩ = some (.int .i64 0) := (blk_cell BK172.out 4).trans rfl; have hcz77_5 : w74.cell? ⟨gb172, 5, none⟩ = some (.slice none 0 0) := (blk_cell BK172.out 5).trans rfl; have hcz77_6 : w74.cell? ⟨gb172, 6, none⟩ = some (.string (⟨#[]⟩ : ByteArray)) := (blk_cell BK172.out 6).trans rfl; have hcz77_7 : w74.cell? ⟨gb172, 7, none⟩ = some (.int .i64 0) := (blk_cell BK172.out 7).trans rfl; have hcz77_8 : w74.cell? ⟨gb172, 8, none⟩ = some (.int .i64 0) := (blk_cell BK172.out 8).trans rfl; have hcz77_9 : w74.cell? ⟨gb172, 9, none⟩ = some (.int .i64 0) := (blk_cell BK172.out 9).trans rfl; have hcz77_10 : w74.cell? ⟨gb172, 10, none⟩ = some (.string (⟨#[]⟩ : ByteArray)) := (blk_cell BK172.out 10).trans rfl; have hcz77_11 : w74.cell? ⟨gb172, 11, none⟩ = some (.string (⟨#[]⟩ : ByteArray)) := (blk_cell BK172.out 11).trans rfl; have hcz77_12 : w74.cell? ⟨gb172, 12, none⟩ = some (.int .i64 0) := (blk_cell BK172.out 12).trans rfl; have hcz77_13 : w74.cell? ⟨gb172, 13, none⟩ = some (.int .i64 0) := (blk_cell BK172.out 13).trans rfl; have hfz77_0 := blk_frozen BK172.out 0; have hfz77_1 := blk_frozen BK172.out 1; have hfz77_2 := blk_frozen BK172.out 2; have hfz77_3 := blk_frozen BK172.out 3; have hfz77_4 := blk_frozen BK172.out 4; have hfz77_5 := blk_frozen BK172.out 5; have hfz77_6 := blk_frozen BK172.out 6; have hfz77_7 := blk_frozen BK172.out 7; have hfz77_8 := blk_frozen BK172.out 8; have hfz77_9 := blk_frozen BK172.out 9; have hfz77_10 := blk_frozen BK172.out 10; have hfz77_11 := blk_frozen BK172.out 11; have hfz77_12 := blk_frozen BK172.out 12; have hfz77_13 := blk_frozen BK172.out 13))
              refine bodyPost_ret (results_ct rfl _ _ gb172 34 #[.int .i64 t180, .int .i64 t183, .int .i64 x187002_7, .int .i64 x187003_7, .int .i64 x187004_7, .slice Ao73 x187005_7.length co73, .string x187006_7, .int .i64 x187007_7, .int .i64 x187008_7, .int .i64 x187009_7, .string x187010_7, .string x187011_7, .int .i64 x187012_7, .int .i64 x187013_7] (0, 0) _ rfl (by (with_reducible repeat (first | refine blk_drewN ?_ _ | refine blk_drew ?_ | refine blk_alloc ?_ _)); refine blk_put (cs := #[.int .i64 t180, .int .i64 t183, .int .i64 x187002_7, .int .i64 x187003_7, .int .i64 x187004_7, .slice Ao73 x187005_7.length co73, .string x187006_7, .int .i64 x187007_7, .int .i64 x187008_7, .int .i64 x187009_7, .string x187010_7, .string x187011_7, .int .i64 x187012_7, .int .i64 0]) ?_ 13 _ rfl; (with_reducible repeat (first | refine blk_drewN ?_ _ | refine blk_drew ?_ | refine blk_alloc ?_ _)); refine blk_put (cs := #[.int .i64 t180, .int .i64 t183, .int .i64 x187002_7, .int .i64 x187003_7, .int .i64 x187004_7, .slice Ao73 x187005_7.length co73, .string x187006_7, .int .i64 x187007_7, .int .i64 x187008_7, .int .i64 x187009_7, .string x187010_7, .string x187011_7, .int .i64 0, .int .i64 0]) ?_ 12 _ rfl; (with_reducible repeat (first | refine blk_drewN ?_ _ | refine blk_drew ?_ | refine blk_alloc ?_ _)); refine blk_put (cs := #[.int .i64 t180, .int .i64 t183, .int .i64 x187002_7, .int .i64 x187003_7, .int .i64 x187004_7, .slice Ao73 x187005_7.length co73, .string x187006_7, .int .i64 x187007_7, .int .i64 x187008_7, .int .i64 x187009_7, .string x187010_7, .string (⟨#[]⟩ : ByteArray), .int .i64 0, .int .i64 0]) ?_ 11 _ rfl; (with_reducible repeat (first | refine blk_drewN ?_ _ | refine blk_drew ?_ | refine blk_alloc ?_ _)); refine blk_put (cs := #[.int .i64 t180, .int .i64 t183, .int .i64 x187002_7, .int .i64 x187003_7, .int .i64 x187004_7, .slice Ao73 x187005_7.length co73, .string x187006_7, .int .i64 x187007_7, .int .i64 x187008_7, .int .i64 x187009_7, .string (⟨#[]⟩ : ByteArray), .string (⟨#[]⟩ : ByteArray), .int .i64 0, .int .i64 0]) ?_ 10 _ rfl; (with_reducible repeat (first | refine blk_drewN ?_ _ | refine blk_drew ?_ | refine blk_alloc ?_ _)); refine blk_put (cs := #[.int .i64 t180, .int .i64 t183, .int .i64 x187002_7, .int .i64 x187003_7, .int .i64 x187004_7, .slice Ao73 x187005_7.length co73, .string x187006_7, .int .i64 x187007_7, .int .i64 x187008_7, .int .i64 0, .string (⟨#[]⟩ : ByteArray), .string (⟨#[]⟩ : ByteArray), .int .i64 0, .int .i64 0]) ?_ 9 _ rfl; (with_reducible repeat (first | refine blk_drewN ?_ _ | refine blk_drew ?_ | refine blk_alloc ?_ _)); refine blk_put (cs := #[.int .i64 t180, .int .i64 t183, .int .i64 x187002_7, .int .i64 x187003_7, .int .i64 x187004_7, .slice Ao73 x187005_7.length co73, .string x187006_7, .int .i64 x187007_7, .int .i64 0, .int .i64 0, .string (⟨#[]⟩ : ByteArray), .string (⟨#[]⟩ : ByteArray), .int .i64 0, .int .i64 0]) ?_ 8 _ rfl; (with_reducible repeat (first | refine blk_drewN ?_ _ | refine blk_drew ?_ | refine blk_alloc ?_ _)); refine blk_put (cs := #[.int .i64 t180, .int .i64 t183, .int .i64 x187002_7, .int .i64 x187003_7, .int .i64 x187004_7, .slice Ao73 x187005_7.length co73, .string x187006_7, .int .i64 0, .int .i64 0, .int .i64 0, .string (⟨#[]⟩ : ByteArray), .string (⟨#[]⟩ : ByteArray), .int .i64 0, .int .i64 0]) ?_ 7 _ rfl; (with_reducible repeat (first | refine blk_drewN ?_ _ | refine blk_drew ?_ | refine blk_alloc ?_ _)); refine blk_put (cs := #[.int .i64 t180, .int .i64 t183, .int .i64 x187002_7, .int .i64 x187003_7, .int .i64 x187004_7, .slice Ao73 x187005_7.length co73, .string (⟨#[]⟩ : ByteArray), .int .i64 0, .int .i64 0, .int .i64 0, .string (⟨#[]⟩ : ByteArray), .string (⟨#[]⟩ : ByteArray), .int .i64 0, .int .i64 0]) ?_ 6 _ rfl; (with_reducible repeat (first | refine blk_drewN ?_ _ | refine blk_drew ?_ | refine blk_alloc ?_ _)); refine blk_put (cs := #[.int .i64 t180, .int .i64 t183, .int .i64 x187002_7, .int .i64 x187003_7, .int .i64 x187004_7, .slice none 0 0, .string (⟨#[]⟩ : ByteArray), .int .i64 0, .int .i64 0, .int .i64 0, .string (⟨#[]⟩ : ByteArray), .string (⟨#[]⟩ : ByteArray), .int .i64 0, .int .i64 0]) ?_ 5 _ rfl; (with_reducible repeat (first | refine blk_drewN ?_ _ | refine blk_drew ?_ | refine blk_alloc ?_ _)); refine blk_put (cs := #[.int .i64 t180, .int .i64 t183, .int .i64 x187002_7, .int .i64 x187003_7, .int .i64 0, .slice none 0 0, .string (⟨#[]⟩ : ByteArray), .int .i64 0, .int .i64 0, .int .i64 0, .string (⟨#[]⟩ : ByteArray), .string (⟨#[]⟩ : ByteArray), .int .i64 0, .int .i64 0]) ?_ 4 _ rfl; (with_reducible repeat (first | refine blk_drewN ?_ _ | refine blk_drew ?_ | refine blk_alloc ?_ _)); refine blk_put (cs := #[.int .i64 t180, .int .i64 t183, .int .i64 x187002_7, .int .i64 0, .int .i64 0, .slice none 0 0, .string (⟨#[]⟩ : ByteArray), .int .i64 0, .int .i64 0, .int .i64 0, .string (⟨#[]⟩ : ByteArray), .string (⟨#[]⟩ : ByteArray), .int .i64 0, .int .i64 0]) ?_ 3 _ rfl; (with_reducible repeat (first | refine blk_drewN ?_ _ | refine blk_drew ?_ | refine blk_alloc ?_ _)); refine blk_put (cs := #[.int .i64 t180, .int .i64 t183, .int .i64 0, .int .i64 0, .int .i64 0, .slice none 0 0, .string (⟨#[]⟩ : ByteArray), .int .i64 0, .int .i64 0, .int .i64 0, .string (⟨#[]⟩ : ByteArray), .string (⟨#[]⟩ : ByteArray), .int .i64 0, .int .i64 0]) ?_ 2 _ rfl; (with_reducible repeat (first | refine blk_drewN ?_ _ | refine blk_drew ?_ | refine blk_alloc ?_ _)); refine blk_put (cs := #[.int .i64 t180, .int .i64 0, .int .i64 0, .int .i64 0, .int .i64 0, .slice none 0 0, .string (⟨#[]⟩ : ByteArray), .int .i64 0, .int .i64 0, .int .i64 0, .string (⟨#[]⟩ : ByteArray), .string (⟨#[]⟩ : ByteArray), .int .i64 0, .int .i64 0]) ?_ 1 _ rfl; (with_reducible repeat (first | refine blk_drewN ?_ _ | refine blk_drew ?_ | refine blk_alloc ?_ _)); refine blk_put (cs := #[.int .i64 0, .int .i64 0, .int .i64 0, .int .i64 0, .int .i64 0, .slice none 0 0, .string (⟨#[]⟩ : ByteArray), .int .i64 0, .int .i64 0, .int .i64 0, .string (⟨#[]⟩ : ByteArray), .string (⟨#[]⟩ : ByteArray), .int .i64 0, .int .i64 0]) ?_ 0 _ rfl; (with_reducible repeat (first | refine blk_drewN ?_ _ | refine blk_drew ?_ | refine blk_alloc ?_ _)); exact BK172.out) Try.underlying34 rfl (by kernel_rfl)) rfl ?_
              exact ⟨_, by first | rfl | (simp [errW_none, errW_some] <;> rfl) | (simp [*, errW_none, errW_some] <;> rfl), by (with_reducible repeat (first | apply Kd.R_alloc | apply Kd.R_drewN | apply Kd.R_drew)); exact Kd.R_mono (Kd.R_far (p := ⟨gb172, 13, none⟩) (Kd.R_far (p := ⟨gb172, 12, none⟩) (Kd.R_far (p := ⟨gb172, 11, none⟩) (Kd.R_far (p := ⟨gb172, 10, none⟩) (Kd.R_far (p := ⟨gb172, 9, none⟩) (Kd.R_far (p := ⟨gb172, 8, none⟩) (Kd.R_far (p := ⟨gb172, 7, none⟩) (Kd.R_far (p := ⟨gb172, 6, none⟩) (Kd.R_far (p := ⟨gb172, 5, none⟩) (Kd.R_far (p := ⟨gb172, 4, none⟩) (Kd.R_far (p := ⟨gb172, 3, none⟩) (Kd.R_far (p := ⟨gb172, 2, none⟩) (Kd.R_far (p := ⟨gb172, 1, none⟩) (Kd.R_far (p := ⟨gb172, 0, none⟩) (Kd.R_types HO_187005.out BK172.out (by decide)) (fun _ hk => hk.2) (.int .i64 t180)) (fun _ hk => hk.2) (.int .i64 t183)) (fun _ hk => hk.2) (.int .i64 x187002_7)) (fun _ hk => hk.2) (.int .i64 x187003_7)) (fun _ hk => hk.2) (.int .i64 x187004_7)) (fun _ hk => hk.2) (.slice Ao73 x187005_7.length co73)) (fun _ hk => hk.2) (.string x187006_7)) (fun _ hk => hk.2) (.int .i64 x187007_7)) (fun _ hk => hk.2) (.int .i64 x187008_7)) (fun _ hk => hk.2) (.int .i64 x187009_7)) (fun _ hk => hk.2) (.string x187010_7)) (fun _ hk => hk.2) (.string x187011_7)) (fun _ hk => hk.2) (.int .i64 x187012_7)) (fun _ hk => hk.2) (.int .i64 x187013_7)) (fun _ hk => trivial), by repeat (first | (with_reducible first | exact HB.out | apply below_alloc | apply pw_below_drewN | apply below_drew1 | refine below_set ?_ (IsS99.ge HI179.out) | refine below_set ?_ GE172.out | refine below_set ?_ GE186.out) | exact HB.out)⟩
            · rw [if_neg c68] at H
              have c68b0 : (t235 == 0) = false := beq_eq_false_iff_ne.mpr c68
              have c68b1 : (t235 != 0) = true := bne_iff_ne.mpr c68
              simp only [Option.some.injEq, Prod.mk.injEq] at H
              obtain ⟨rfl, rfl, rfl, rfl, rfl, rfl, rfl, rfl, rfl, rfl, rfl, rfl, rfl, rfl, rfl⟩ := H
              go_wp2_with (first | (go_at_call 46; (with_reducible refine (pack_Reader_End.calls g179 x180000_7 x180001_7 t232 t233 t234 w _ ?side1 ?side2 A65.out).mono ?_); (case side1 => repeat (first | (with_reducible first | exact HI179.out | apply IsS99.alloc | apply IsS99.drewN | apply IsS99.drew | apply IsS99.set_0 | apply IsS99.set_1 | refine IsS99.far ?_ NB179_172.out _ | refine IsS99.far ?_ NB179_186.out _) | exact HI179.out)); (case side2 => repeat (first | (with_reducible first | exact HB.out | apply below_alloc | apply pw_below_drewN | apply below_drew1 | refine below_set ?_ (IsS99.ge HI179.out) | refine below_set ?_ GE172.out | refine below_set ?_ GE186.out) | exact HB.out)); rintro e w78 ⟨rfl, hi, hb, hk⟩; have n0_ := Aside0.mk (Kd.R_mono (Kd.R_keep (IsS99.apart (show IsS99 w _ g179 x180000_7 x180001_7 from by repeat (first | (with_reducible first | exact HI179.out | apply IsS99.alloc | apply IsS99.drewN | apply IsS99.drew | apply IsS99.set_0 | apply IsS99.set_1 | refine IsS99.far ?_ NB179_172.out _ | refine IsS99.far ?_ NB179_186.out _) | exact HI179.out)) (by (with_reducible repeat (first | apply Kd.R_alloc | apply Kd.R_drewN | apply Kd.R_drew)); exact HO_187005.out) (by decide)) hk (fun _ h => h.2)) (fun _ h => h.1)); have n1_ := Aside0.mk (KeepBut.blk hk (g' := gb172) (o := .cells #[.int .i64 0, .int .i64 0, .int .i64 0, .int .i64 0, .int .i64 0, .slice none 0 0, .string (⟨#[]⟩ : ByteArray), .int .i64 0, .int .i64 0, .int .i64 0, .string (⟨#[]⟩ : ByteArray), .string (⟨#[]⟩ : ByteArray), .int .i64 0, .int .i64 0] 34 (0, 0)) (by (with_reducible repeat (first | refine blk_drewN ?_ _ | refine blk_drew ?_ | refine blk_alloc ?_ _)); exact BK172.out) NB172_179.out (by simp)); have n2_ := Aside0.mk (KeepBut.blk hk (g' := gb186) (o := .cells #[.int .i64 t180, .int .i64 t183, .int .i64 x187002_7, .int .i64 x187003_7, .int .i64 x187004_7, u187005, .string x187006_7, .int .i64 x187007_7, .int .i64 x187008_7, .int .i64 x187009_7, .string x187010_7, .string x187011_7, .int .i64 x187012_7, .int .i64 x187013_7] 34 (0, 0)) (by (with_reducible repeat (first | refine blk_drewN ?_ _ | refine blk_drew ?_ | refine blk_alloc ?_ _)); exact BK186.out) NB186_179.out (by simp)); have n3_ := Aside0.mk (hb); have n4_ := Aside0.mk (hi); clear HO_187005; clear BK172; clear BK186; clear HB; clear HI179; have HO_187005 := n0_; have BK172 := n1_; have BK186 := n2_; have HB := n3_; have HI179 := n4_; clear n0_ n1_ n2_ n3_ n4_; (try clear hb); (try clear hb2); (try clear hk); (try clear hi); have hnb79 := NB186_172.out; have hnc79 := NB172_186.out; have hnb80 := NB186_179.out; have hnc80 := NB179_186.out; have hcz81_0 : w78.cell? ⟨gb186, 0, none⟩ = some (.int .i64 t180) := (blk_cell BK186.out 0).trans rfl; have hcz81_1 : w78.cell? ⟨gb186, 1, none⟩ = some (.int .i64 t183) := (blk_cell BK186.out 1).trans rfl; have hcz81_2 : w78.cell? ⟨gb186, 2, none⟩ = some (.int .i64 x187002_7) := (blk_cell BK186.out 2).trans rfl; have hcz81_3 : w78.cell? ⟨gb186, 3, none⟩ = some (.int .i64 x187003_7) := (blk_cell BK186.out 3).trans rfl; have hcz81_4 : w78.cell? ⟨gb186, 4, none⟩ = some (.int .i64 x187004_7) := (blk_cell BK186.out 4).trans rfl; have hcz81_5 : w78.cell? ⟨gb186, 5, none⟩ = some (u187005) := (blk_cell BK186.out 5).trans rfl; have hcz81_6 : w78.cell? ⟨gb186, 6, none⟩ = some (.string x187006_7) := (blk_cell BK186.out 6).trans rfl; have hcz81_7 : w78.cell? ⟨gb186, 7, none⟩ = some (.int .i64 x187007_7) := (blk_cell BK186.out 7).trans rfl; have hcz81_8 : w78.cell? ⟨gb186, 8, none⟩ = some (.int .i64 x187008_7) := (blk_cell BK186.out 8).trans rfl; have hcz81_9 : w78.cell? ⟨gb186, 9, none⟩ = some (.int .i64 x187009_7) := (blk_cell BK186.out 9).trans rfl; have hcz81_10 : w78.cell? ⟨gb186, 10, none⟩ = some (.string x187010_7) := (blk_cell BK186.out 10).trans rfl; have hcz81_11 : w78.cell? ⟨gb186, 11, none⟩ = some (.string x187011_7) := (blk_cell BK186.out 11).trans rfl; have hcz81_12 : w78.cell? ⟨gb186, 12, none⟩ = some (.int .i64 x187012_7) := (blk_cell BK186.out 12).trans rfl; have hcz81_13 : w78.cell? ⟨gb186, 13, none⟩ = some (.int .i64 x187013_7) := (blk_cell BK186.out 13).trans rfl; have hfz81_0 := blk_frozen BK186.out 0; have hfz81_1 := blk_frozen BK186.out 1; have hfz81_2 := blk_frozen BK186.out 2; have hfz81_3 := blk_frozen BK186.out 3; have hfz81_4 := blk_frozen BK186.out 4; have hfz81_5 := blk_frozen BK186.out 5; have hfz81_6 := blk_frozen BK186.out 6; have hfz81_7 := blk_frozen BK186.out 7; have hfz81_8 := blk_frozen BK186.out 8; have hfz81_9 := blk_frozen BK186.out 9; have hfz81_10 := blk_frozen BK186.out 10; have hfz81_11 := blk_frozen BK186.out 11; have hfz81_12 := blk_frozen BK186.out 12; have hfz81_13 := blk_frozen BK186.out 13; obtain ⟨Ao82, co82, eo82⟩ := Kd.R_slice HO_187005.out; subst eo82) | (go_at_call 14; (with_reducible refine (record_Check.calls t180 t183 x187002_7 x187003_7 x187004_7 _ _ x187005_7 x187006_7 x187007_7 x187008_7 x187009_7 x187010_7 x187011_7 x187012_7 x187013_7 t235 _ ?side1 ?side2 A67.out).mono ?_); (case side1 => repeat (first | exact (Kd.R_reads' HO_187005.out).2.2 | (with_reducible refine Kd.C_alloc ?_ _) | (with_reducible refine Kd.C_drewN ?_ _) | (with_reducible refine Kd.C_drew ?_))); (case side2 => exact (Kd.R_reads' HO_187005.out).2.1); rintro e w83 ⟨rfl, hb⟩; have n0_ := Aside0.mk (Kd.R_below (by (with_reducible repeat (first | apply Kd.R_alloc | apply Kd.R_drewN | apply Kd.R_drew)); exact HO_187005.out) hb); have n1_ := Aside0.mk (blk_below (g := gb172) (o := .cells #[.int .i64 0, .int .i64 0, .int .i64 0, .int .i64 0, .int .i64 0, .slice none 0 0, .string (⟨#[]⟩ : ByteArray), .int .i64 0, .int .i64 0, .int .i64 0, .string (⟨#[]⟩ : ByteArray), .string (⟨#[]⟩ : ByteArray), .int .i64 0, .int .i64 0] 34 (0, 0)) (by (with_reducible repeat (first | refine blk_drewN ?_ _ | refine blk_drew ?_ | refine blk_alloc ?_ _)); exact BK172.out) hb); have n2_ := Aside0.mk (blk_below (g := gb186) (o := .cells #[.int .i64 t180, .int .i64 t183, .int .i64 x187002_7, .int .i64 x187003_7, .int .i64 x187004_7, .slice Ao82 x187005_7.length co82, .string x187006_7, .int .i64 x187007_7, .int .i64 x187008_7, .int .i64 x187009_7, .string x187010_7, .string x187011_7, .int .i64 x187012_7, .int .i64 x187013_7] 34 (0, 0)) (by (with_reducible repeat (first | refine blk_drewN ?_ _ | refine blk_drew ?_ | refine blk_alloc ?_ _)); exact BK186.out) hb); have n3_ := Aside0.mk (IsS99.below (by repeat (first | (with_reducible first | exact HI179.out | apply IsS99.alloc | apply IsS99.drewN | apply IsS99.drew | apply IsS99.set_0 | apply IsS99.set_1 | refine IsS99.far ?_ NB179_172.out _ | refine IsS99.far ?_ NB179_186.out _) | exact HI179.out)) hb); have n4_ := Aside0.mk (below_step (by repeat (first | (with_reducible first | exact HB.out | apply below_alloc | apply pw_below_drewN | apply below_drew1 | refine below_set ?_ (IsS99.ge HI179.out) | refine below_set ?_ GE172.out | refine below_set ?_ GE186.out) | exact HB.out)) hb); clear HO_187005; clear BK172; clear BK186; clear HI179; clear HB; have HO_187005 := n0_; have BK172 := n1_; have BK186 := n2_; have HI179 := n3_; have HB := n4_; clear n0_ n1_ n2_ n3_ n4_; (try clear hb); (try clear hb2); (try clear hk); (try clear hi); have hnb84 := NB172_179.out; have hnc84 := NB179_172.out; have hcz85_0 : w83.cell? ⟨gb172, 0, none⟩ = some (.int .i64 0) := (blk_cell BK172.out 0).trans rfl; have hcz85_1 : w83.cell? ⟨gb172, 1, none⟩ = some (.int .i64 0) := (blk_cell BK172.out 1).trans rfl; have hcz85_2 : w83.cell? ⟨gb172, 2, none⟩ = some (.int .i64 0) := (blk_cell BK172.out 2).trans rfl; have hcz85_3 : w83.cell? ⟨gb172, 3, none⟩ = some (.int .i64 0) := (blk_cell BK172.out 3).trans rfl; have hcz85_4 : w83.cell? ⟨gb172, 4, none⟩ = some (.int .i64 0) := (blk_cell BK172.out 4).trans rfl; have hcz85_5 : w83.cell? ⟨gb172, 5, none⟩ = some (.slice none 0 0) := (blk_cell BK172.out 5).trans rfl; have hcz85_6 : w83.cell? ⟨gb172, 6, none⟩ = some (.string (⟨#[]⟩ : ByteArray)) := (blk_cell BK172.out 6).trans rfl; have hcz85_7 : w83.cell? ⟨gb172, 7, none⟩ = some (.int .i64 0) := (blk_cell BK172.out 7).trans rfl; have hcz85_8 : w83.cell? ⟨gb172, 8, none⟩ = some (.int .i64 0) := (blk_cell BK172.out 8).trans rfl; have hcz85_9 : w83.cell? ⟨gb172, 9, none⟩ = some (.int .i64 0) := (blk_cell BK172.out 9).trans rfl; have hcz85_10 : w83.cell? ⟨gb172, 10, none⟩ = some (.string (⟨#[]⟩ : ByteArray)) := (blk_cell BK172.out 10).trans rfl; have hcz85_11 : w83.cell? ⟨gb172, 11, none⟩ = some (.string (⟨#[]⟩ : ByteArray)) := (blk_cell BK172.out 11).trans rfl; have hcz85_12 : w83.cell? ⟨gb172, 12, none⟩ = some (.int .i64 0) := (blk_cell BK172.out 12).trans rfl; have hcz85_13 : w83.cell? ⟨gb172, 13, none⟩ = some (.int .i64 0) := (blk_cell BK172.out 13).trans rfl; have hfz85_0 := blk_frozen BK172.out 0; have hfz85_1 := blk_frozen BK172.out 1; have hfz85_2 := blk_frozen BK172.out 2; have hfz85_3 := blk_frozen BK172.out 3; have hfz85_4 := blk_frozen BK172.out 4; have hfz85_5 := blk_frozen BK172.out 5; have hfz85_6 := blk_frozen BK172.out 6; have hfz85_7 := blk_frozen BK172.out 7; have hfz85_8 := blk_frozen BK172.out 8; have hfz85_9 := blk_frozen BK172.out 9; have hfz85_10 := blk_frozen BK172.out 10; have hfz85_11 := blk_frozen BK172.out 11; have hfz85_12 := blk_frozen BK172.out 12; have hfz85_13 := blk_frozen BK172.out 13))
              refine bodyPost_ret (results_ct rfl _ _ gb172 34 #[.int .i64 0, .int .i64 0, .int .i64 0, .int .i64 0, .int .i64 0, .slice none 0 0, .string (⟨#[]⟩ : ByteArray), .int .i64 0, .int .i64 0, .int .i64 0, .string (⟨#[]⟩ : ByteArray), .string (⟨#[]⟩ : ByteArray), .int .i64 0, .int .i64 0] (0, 0) _ rfl (by (with_reducible repeat (first | refine blk_drewN ?_ _ | refine blk_drew ?_ | refine blk_alloc ?_ _)); refine blk_put (cs := #[.int .i64 0, .int .i64 0, .int .i64 0, .int .i64 0, .int .i64 0, .slice none 0 0, .string (⟨#[]⟩ : ByteArray), .int .i64 0, .int .i64 0, .int .i64 0, .string (⟨#[]⟩ : ByteArray), .string (⟨#[]⟩ : ByteArray), .int .i64 0, .int .i64 0]) ?_ 13 _ rfl; (with_reducible repeat (first | refine blk_drewN ?_ _ | refine blk_drew ?_ | refine blk_alloc ?_ _)); refine blk_put (cs := #[.int .i64 0, .int .i64 0, .int .i64 0, .int .i64 0, .int .i64 0, .slice none 0 0, .string (⟨#[]⟩ : ByteArray), .int .i64 0, .int .i64 0, .int .i64 0, .string (⟨#[]⟩ : ByteArray), .string (⟨#[]⟩ : ByteArray), .int .i64 0, .int .i64 0]) ?_ 12 _ rfl; (with_reducible repeat (first | refine blk_drewN ?_ _ | refine blk_drew ?_ | refine blk_alloc ?_ _)); refine blk_put (cs := #[.int .i64 0, .int .i64 0, .int .i64 0, .int .i64 0, .int .i64 0, .slice none 0 0, .string (⟨#[]⟩ : ByteArray), .int .i64 0, .int .i64 0, .int .i64 0, .string (⟨#[]⟩ : ByteArray), .string (⟨#[]⟩ : ByteArray), .int .i64 0, .int .i64 0]) ?_ 11 _ rfl; (with_reducible repeat (first | refine blk_drewN ?_ _ | refine blk_drew ?_ | refine blk_alloc ?_ _)); refine blk_put (cs := #[.int .i64 0, .int .i64 0, .int .i64 0, .int .i64 0, .int .i64 0, .slice none 0 0, .string (⟨#[]⟩ : ByteArray), .int .i64 0, .int .i64 0, .int .i64 0, .string (⟨#[]⟩ : ByteArray), .string (⟨#[]⟩ : ByteArray), .int .i64 0, .int .i64 0]) ?_ 10 _ rfl; (with_reducible repeat (first | refine blk_drewN ?_ _ | refine blk_drew ?_ | refine blk_alloc ?_ _)); refine blk_put (cs := #[.int .i64 0, .int .i64 0, .int .i64 0, .int .i64 0, .int .i64 0, .slice none 0 0, .string (⟨#[]⟩ : ByteArray), .int .i64 0, .int .i64 0, .int .i64 0, .string (⟨#[]⟩ : ByteArray), .string (⟨#[]⟩ : ByteArray), .int .i64 0, .int .i64 0]) ?_ 9 _ rfl; (with_reducible repeat (first | refine blk_drewN ?_ _ | refine blk_drew ?_ | refine blk_alloc ?_ _)); refine blk_put (cs := #[.int .i64 0, .int .i64 0, .int .i64 0, .int .i64 0, .int .i64 0, .slice none 0 0, .string (⟨#[]⟩ : ByteArray), .int .i64 0, .int .i64 0, .int .i64 0, .string (⟨#[]⟩ : ByteArray), .string (⟨#[]⟩ : ByteArray), .int .i64 0, .int .i64 0]) ?_ 8 _ rfl; (with_reducible repeat (first | refine blk_drewN ?_ _ | refine blk_drew ?_ | refine blk_alloc ?_ _)); refine blk_put (cs := #[.int .i64 0, .int .i64 0, .int .i64 0, .int .i64 0, .int .i64 0, .slice none 0 0, .string (⟨#[]⟩ : ByteArray), .int .i64 0, .int .i64 0, .int .i64 0, .string (⟨#[]⟩ : ByteArray), .string (⟨#[]⟩ : ByteArray), .int .i64 0, .int .i64 0]) ?_ 7 _ rfl; (with_reducible repeat (first | refine blk_drewN ?_ _ | refine blk_drew ?_ | refine blk_alloc ?_ _)); refine blk_put (cs := #[.int .i64 0, .int .i64 0, .int .i64 0, .int .i64 0, .int .i64 0, .slice none 0 0, .string (⟨#[]⟩ : ByteArray), .int .i64 0, .int .i64 0, .int .i64 0, .string (⟨#[]⟩ : ByteArray), .string (⟨#[]⟩ : ByteArray), .int .i64 0, .int .i64 0]) ?_ 6 _ rfl; (with_reducible repeat (first | refine blk_drewN ?_ _ | refine blk_drew ?_ | refine blk_alloc ?_ _)); refine blk_put (cs := #[.int .i64 0, .int .i64 0, .int .i64 0, .int .i64 0, .int .i64 0, .slice none 0 0, .string (⟨#[]⟩ : ByteArray), .int .i64 0, .int .i64 0, .int .i64 0, .string (⟨#[]⟩ : ByteArray), .string (⟨#[]⟩ : ByteArray), .int .i64 0, .int .i64 0]) ?_ 5 _ rfl; (with_reducible repeat (first | refine blk_drewN ?_ _ | refine blk_drew ?_ | refine blk_alloc ?_ _)); refine blk_put (cs := #[.int .i64 0, .int .i64 0, .int .i64 0, .int .i64 0, .int .i64 0, .slice none 0 0, .string (⟨#[]⟩ : ByteArray), .int .i64 0, .int .i64 0, .int .i64 0, .string (⟨#[]⟩ : ByteArray), .string (⟨#[]⟩ : ByteArray), .int .i64 0, .int .i64 0]) ?_ 4 _ rfl; (with_reducible repeat (first | refine blk_drewN ?_ _ | refine blk_drew ?_ | refine blk_alloc ?_ _)); refine blk_put (cs := #[.int .i64 0, .int .i64 0, .int .i64 0, .int .i64 0, .int .i64 0, .slice none 0 0, .string (⟨#[]⟩ : ByteArray), .int .i64 0, .int .i64 0, .int .i64 0, .string (⟨#[]⟩ : ByteArray), .string (⟨#[]⟩ : ByteArray), .int .i64 0, .int .i64 0]) ?_ 3 _ rfl; (with_reducible repeat (first | refine blk_drewN ?_ _ | refine blk_drew ?_ | refine blk_alloc ?_ _)); refine blk_put (cs := #[.int .i64 0, .int .i64 0, .int .i64 0, .int .i64 0, .int .i64 0, .slice none 0 0, .string (⟨#[]⟩ : ByteArray), .int .i64 0, .int .i64 0, .int .i64 0, .string (⟨#[]⟩ : ByteArray), .string (⟨#[]⟩ : ByteArray), .int .i64 0, .int .i64 0]) ?_ 2 _ rfl; (with_reducible repeat (first | refine blk_drewN ?_ _ | refine blk_drew ?_ | refine blk_alloc ?_ _)); refine blk_put (cs := #[.int .i64 0, .int .i64 0, .int .i64 0, .int .i64 0, .int .i64 0, .slice none 0 0, .string (⟨#[]⟩ : ByteArray), .int .i64 0, .int .i64 0, .int .i64 0, .string (⟨#[]⟩ : ByteArray), .string (⟨#[]⟩ : ByteArray), .int .i64 0, .int .i64 0]) ?_ 1 _ rfl; (with_reducible repeat (first | refine blk_drewN ?_ _ | refine blk_drew ?_ | refine blk_alloc ?_ _)); refine blk_put (cs := #[.int .i64 0, .int .i64 0, .int .i64 0, .int .i64 0, .int .i64 0, .slice none 0 0, .string (⟨#[]⟩ : ByteArray), .int .i64 0, .int .i64 0, .int .i64 0, .string (⟨#[]⟩ : ByteArray), .string (⟨#[]⟩ : ByteArray), .int .i64 0, .int .i64 0]) ?_ 0 _ rfl; (with_reducible repeat (first | refine blk_drewN ?_ _ | refine blk_drew ?_ | refine blk_alloc ?_ _)); exact BK172.out) Try.underlying34 rfl (by kernel_rfl)) rfl ?_
              exact ⟨_, by first | rfl | (simp [errW_none, errW_some] <;> rfl) | (simp [*, errW_none, errW_some] <;> rfl), by first | exact Kd.R_nil _ _ _ _ _ | exact Kd.N_nil _ _ _ _ _ | exact Kd.V_nil _ _ _ _ _ | exact Kd.Q_nil _ _ _ _ _ | exact Kd.S_nil _ _ _ _ _, by repeat (first | (with_reducible first | exact HB.out | apply below_alloc | apply pw_below_drewN | apply below_drew1 | refine below_set ?_ (IsS99.ge HI179.out) | refine below_set ?_ GE172.out | refine below_set ?_ GE186.out) | exact HB.out)⟩
          · rw [if_neg c66] at H
            have c66b0 : (t232 == 0) = false := beq_eq_false_iff_ne.mpr c66
            have c66b1 : (t232 != 0) = true := bne_iff_ne.mpr c66
            simp only [Option.some.injEq, Prod.mk.injEq] at H
            obtain ⟨rfl, rfl, rfl, rfl, rfl, rfl, rfl, rfl, rfl, rfl, rfl, rfl, rfl, rfl, rfl⟩ := H
            go_wp2_with (first | (go_at_call 46; (with_reducible refine (pack_Reader_End.calls g179 x180000_7 x180001_7 t232 t233 t234 w _ ?side1 ?side2 A65.out).mono ?_); (case side1 => repeat (first | (with_reducible first | exact HI179.out | apply IsS99.alloc | apply IsS99.drewN | apply IsS99.drew | apply IsS99.set_0 | apply IsS99.set_1 | refine IsS99.far ?_ NB179_172.out _ | refine IsS99.far ?_ NB179_186.out _) | exact HI179.out)); (case side2 => repeat (first | (with_reducible first | exact HB.out | apply below_alloc | apply pw_below_drewN | apply below_drew1 | refine below_set ?_ (IsS99.ge HI179.out) | refine below_set ?_ GE172.out | refine below_set ?_ GE186.out) | exact HB.out)); rintro e w86 ⟨rfl, hi, hb, hk⟩; have n0_ := Aside0.mk (Kd.R_mono (Kd.R_keep (IsS99.apart (show IsS99 w _ g179 x180000_7 x180001_7 from by repeat (first | (with_reducible first | exact HI179.out | apply IsS99.alloc | apply IsS99.drewN | apply IsS99.drew | apply IsS99.set_0 | apply IsS99.set_1 | refine IsS99.far ?_ NB179_172.out _ | refine IsS99.far ?_ NB179_186.out _) | exact HI179.out)) (by (with_reducible repeat (first | apply Kd.R_alloc | apply Kd.R_drewN | apply Kd.R_drew)); exact HO_187005.out) (by decide)) hk (fun _ h => h.2)) (fun _ h => h.1)); have n1_ := Aside0.mk (KeepBut.blk hk (g' := gb172) (o := .cells #[.int .i64 0, .int .i64 0, .int .i64 0, .int .i64 0, .int .i64 0, .slice none 0 0, .string (⟨#[]⟩ : ByteArray), .int .i64 0, .int .i64 0, .int .i64 0, .string (⟨#[]⟩ : ByteArray), .string (⟨#[]⟩ : ByteArray), .int .i64 0, .int .i64 0] 34 (0, 0)) (by (with_reducible repeat (first | refine blk_drewN ?_ _ | refine blk_drew ?_ | refine blk_alloc ?_ _)); exact BK172.out) NB172_179.out (by simp)); have n2_ := Aside0.mk (KeepBut.blk hk (g' := gb186) (o := .cells #[.int .i64 t180, .int .i64 t183, .int .i64 x187002_7, .int .i64 x187003_7, .int .i64 x187004_7, u187005, .string x187006_7, .int .i64 x187007_7, .int .i64 x187008_7, .int .i64 x187009_7, .string x187010_7, .string x187011_7, .int .i64 x187012_7, .int .i64 x187013_7] 34 (0, 0)) (by (with_reducible repeat (first | refine blk_drewN ?_ _ | refine blk_drew ?_ | refine blk_alloc ?_ _)); exact BK186.out) NB186_179.out (by simp)); have n3_ := Aside0.mk (hb); have n4_ := Aside0.mk (hi); clear HO_187005; clear BK172; clear BK186; clear HB; clear HI179; have HO_187005 := n0_; have BK172 := n1_; have BK186 := n2_; have HB := n3_; have HI179 := n4_; clear n0_ n1_ n2_ n3_ n4_; (try clear hb); (try clear hb2); (try clear hk); (try clear hi); have hnb87 := NB172_186.out; have hnc87 := NB186_172.out; have hnb88 := NB172_179.out; have hnc88 := NB179_172.out; have hcz89_0 : w86.cell? ⟨gb172, 0, none⟩ = some (.int .i64 0) := (blk_cell BK172.out 0).trans rfl; have hcz89_1 : w86.cell? ⟨gb172, 1, none⟩ = some (.int .i64 0) := (blk_cell BK172.out 1).trans rfl; have hcz89_2 : w86.cell? ⟨gb172, 2, none⟩ = some (.int .i64 0) := (blk_cell BK172.out 2).trans rfl; have hcz89_3 : w86.cell? ⟨gb172, 3, none⟩ = some (.int .i64 0) := (blk_cell BK172.out 3).trans rfl; have hcz89_4 : w86.cell? ⟨gb172, 4, none⟩ = some (.int .i64 0) := (blk_cell BK172.out 4).trans rfl; have hcz89_5 : w86.cell? ⟨gb172, 5, none⟩ = some (.slice none 0 0) := (blk_cell BK172.out 5).trans rfl; have hcz89_6 : w86.cell? ⟨gb172, 6, none⟩ = some (.string (⟨#[]⟩ : ByteArray)) := (blk_cell BK172.out 6).trans rfl; have hcz89_7 : w86.cell? ⟨gb172, 7, none⟩ = some (.int .i64 0) := (blk_cell BK172.out 7).trans rfl; have hcz89_8 : w86.cell? ⟨gb172, 8, none⟩ = some (.int .i64 0) := (blk_cell BK172.out 8).trans rfl; have hcz89_9 : w86.cell? ⟨gb172, 9, none⟩ = some (.int .i64 0) := (blk_cell BK172.out 9).trans rfl; have hcz89_10 : w86.cell? ⟨gb172, 10, none⟩ = some (.string (⟨#[]⟩ : ByteArray)) := (blk_cell BK172.out 10).trans rfl; have hcz89_11 : w86.cell? ⟨gb172, 11, none⟩ = some (.string (⟨#[]⟩ : ByteArray)) := (blk_cell BK172.out 11).trans rfl; have hcz89_12 : w86.cell? ⟨gb172, 12, none⟩ = some (.int .i64 0) := (blk_cell BK172.out 12).trans rfl; have hcz89_13 : w86.cell? ⟨gb172, 13, none⟩ = some (.int .i64 0) := (blk_cell BK172.out 13).trans rfl; have hfz89_0 := blk_frozen BK172.out 0; have hfz89_1 := blk_frozen BK172.out 1; have hfz89_2 := blk_frozen BK172.out 2; have hfz89_3 := blk_frozen BK172.out 3; have hfz89_4 := blk_frozen BK172.out 4; have hfz89_5 := blk_frozen BK172.out 5; have hfz89_6 := blk_frozen BK172.out 6; have hfz89_7 := blk_frozen BK172.out 7; have hfz89_8 := blk_frozen BK172.out 8; have hfz89_9 := blk_frozen BK172.out 9; have hfz89_10 := blk_frozen BK172.out 10; have hfz89_11 := blk_frozen BK172.out 11; have hfz89_12 := blk_frozen BK172.out 12; have hfz89_13 := blk_frozen BK172.out 13))
            refine bodyPost_ret (results_ct rfl _ _ gb172 34 #[.int .i64 0, .int .i64 0, .int .i64 0, .int .i64 0, .int .i64 0, .slice none 0 0, .string (⟨#[]⟩ : ByteArray), .int .i64 0, .int .i64 0, .int .i64 0, .string (⟨#[]⟩ : ByteArray), .string (⟨#[]⟩ : ByteArray), .int .i64 0, .int .i64 0] (0, 0) _ rfl (by (with_reducible repeat (first | refine blk_drewN ?_ _ | refine blk_drew ?_ | refine blk_alloc ?_ _)); refine blk_put (cs := #[.int .i64 0, .int .i64 0, .int .i64 0, .int .i64 0, .int .i64 0, .slice none 0 0, .string (⟨#[]⟩ : ByteArray), .int .i64 0, .int .i64 0, .int .i64 0, .string (⟨#[]⟩ : ByteArray), .string (⟨#[]⟩ : ByteArray), .int .i64 0, .int .i64 0]) ?_ 13 _ rfl; (with_reducible repeat (first | refine blk_drewN ?_ _ | refine blk_drew ?_ | refine blk_alloc ?_ _)); refine blk_put (cs := #[.int .i64 0, .int .i64 0, .int .i64 0, .int .i64 0, .int .i64 0, .slice none 0 0, .string (⟨#[]⟩ : ByteArray), .int .i64 0, .int .i64 0, .int .i64 0, .string (⟨#[]⟩ : ByteArray), .string (⟨#[]⟩ : ByteArray), .int .i64 0, .int .i64 0]) ?_ 12 _ rfl; (with_reducible repeat (first | refine blk_drewN ?_ _ | refine blk_drew ?_ | refine blk_alloc ?_ _)); refine blk_put (cs := #[.int .i64 0, .int .i64 0, .int .i64 0, .int .i64 0, .int .i64 0, .slice none 0 0, .string (⟨#[]⟩ : ByteArray), .int .i64 0, .int .i64 0, .int .i64 0, .string (⟨#[]⟩ : ByteArray), .string (⟨#[]⟩ : ByteArray), .int .i64 0, .int .i64 0]) ?_ 11 _ rfl; (with_reducible repeat (first | refine blk_drewN ?_ _ | refine blk_drew ?_ | refine blk_alloc ?_ _)); refine blk_put (cs := #[.int .i64 0, .int .i64 0, .int .i64 0, .int .i64 0, .int .i64 0, .slice none 0 0, .string (⟨#[]⟩ : ByteArray), .int .i64 0, .int .i64 0, .int .i64 0, .string (⟨#[]⟩ : ByteArray), .string (⟨#[]⟩ : ByteArray), .int .i64 0, .int .i64 0]) ?_ 10 _ rfl; (with_reducible repeat (first | refine blk_drewN ?_ _ | refine blk_drew ?_ | refine blk_alloc ?_ _)); refine blk_put (cs := #[.int .i64 0, .int .i64 0, .int .i64 0, .int .i64 0, .int .i64 0, .slice none 0 0, .string (⟨#[]⟩ : ByteArray), .int .i64 0, .int .i64 0, .int .i64 0, .string (⟨#[]⟩ : ByteArray), .string (⟨#[]⟩ : ByteArray), .int .i64 0, .int .i64 0]) ?_ 9 _ rfl; (with_reducible repeat (first | refine blk_drewN ?_ _ | refine blk_drew ?_ | refine blk_alloc ?_ _)); refine blk_put (cs := #[.int .i64 0, .int .i64 0, .int .i64 0, .int .i64 0, .int .i64 0, .slice none 0 0, .string (⟨#[]⟩ : ByteArray), .int .i64 0, .int .i64 0, .int .i64 0, .string (⟨#[]⟩ : ByteArray), .string (⟨#[]⟩ : ByteArray), .int .i64 0, .int .i64 0]) ?_ 8 _ rfl; (with_reducible repeat (first | refine blk_drewN ?_ _ | refine blk_drew ?_ | refine blk_alloc ?_ _)); refine blk_put (cs := #[.int .i64 0, .int .i64 0, .int .i64 0, .int .i64 0, .int .i64 0, .slice none 0 0, .string (⟨#[]⟩ : ByteArray), .int .i64 0, .int .i64 0, .int .i64 0, .string (⟨#[]⟩ : ByteArray), .string (⟨#[]⟩ : ByteArray), .int .i64 0, .int .i64 0]) ?_ 7 _ rfl; (with_reducible repeat (first | refine blk_drewN ?_ _ | refine blk_drew ?_ | refine blk_alloc ?_ _)); refine blk_put (cs := #[.int .i64 0, .int .i64 0, .int .i64 0, .int .i64 0, .int .i64 0, .slice none 0 0, .string (⟨#[]⟩ : ByteArray), .int .i64 0, .int .i64 0, .int .i64 0, .string (⟨#[]⟩ : ByteArray), .string (⟨#[]⟩ : ByteArray), .int .i64 0, .int .i64 0]) ?_ 6 _ rfl; (with_reducible repeat (first | refine blk_drewN ?_ _ | refine blk_drew ?_ | refine blk_alloc ?_ _)); refine blk_put (cs := #[.int .i64 0, .int .i64 0, .int .i64 0, .int .i64 0, .int .i64 0, .slice none 0 0, .string (⟨#[]⟩ : ByteArray), .int .i64 0, .int .i64 0, .int .i64 0, .string (⟨#[]⟩ : ByteArray), .string (⟨#[]⟩ : ByteArray), .int .i64 0, .int .i64 0]) ?_ 5 _ rfl; (with_reducible repeat (first | refine blk_drewN ?_ _ | refine blk_drew ?_ | refine blk_alloc ?_ _)); refine blk_put (cs := #[.int .i64 0, .int .i64 0, .int .i64 0, .int .i64 0, .int .i64 0, .slice none 0 0, .string (⟨#[]⟩ : ByteArray), .int .i64 0, .int .i64 0, .int .i64 0, .string (⟨#[]⟩ : ByteArray), .string (⟨#[]⟩ : ByteArray), .int .i64 0, .int .i64 0]) ?_ 4 _ rfl; (with_reducible repeat (first | refine blk_drewN ?_ _ | refine blk_drew ?_ | refine blk_alloc ?_ _)); refine blk_put (cs := #[.int .i64 0, .int .i64 0, .int .i64 0, .int .i64 0, .int .i64 0, .slice none 0 0, .string (⟨#[]⟩ : ByteArray), .int .i64 0, .int .i64 0, .int .i64 0, .string (⟨#[]⟩ : ByteArray), .string (⟨#[]⟩ : ByteArray), .int .i64 0, .int .i64 0]) ?_ 3 _ rfl; (with_reducible repeat (first | refine blk_drewN ?_ _ | refine blk_drew ?_ | refine blk_alloc ?_ _)); refine blk_put (cs := #[.int .i64 0, .int .i64 0, .int .i64 0, .int .i64 0, .int .i64 0, .slice none 0 0, .string (⟨#[]⟩ : ByteArray), .int .i64 0, .int .i64 0, .int .i64 0, .string (⟨#[]⟩ : ByteArray), .string (⟨#[]⟩ : ByteArray), .int .i64 0, .int .i64 0]) ?_ 2 _ rfl; (with_reducible repeat (first | refine blk_drewN ?_ _ | refine blk_drew ?_ | refine blk_alloc ?_ _)); refine blk_put (cs := #[.int .i64 0, .int .i64 0, .int .i64 0, .int .i64 0, .int .i64 0, .slice none 0 0, .string (⟨#[]⟩ : ByteArray), .int .i64 0, .int .i64 0, .int .i64 0, .string (⟨#[]⟩ : ByteArray), .string (⟨#[]⟩ : ByteArray), .int .i64 0, .int .i64 0]) ?_ 1 _ rfl; (with_reducible repeat (first | refine blk_drewN ?_ _ | refine blk_drew ?_ | refine blk_alloc ?_ _)); refine blk_put (cs := #[.int .i64 0, .int .i64 0, .int .i64 0, .int .i64 0, .int .i64 0, .slice none 0 0, .string (⟨#[]⟩ : ByteArray), .int .i64 0, .int .i64 0, .int .i64 0, .string (⟨#[]⟩ : ByteArray), .string (⟨#[]⟩ : ByteArray), .int .i64 0, .int .i64 0]) ?_ 0 _ rfl; (with_reducible repeat (first | refine blk_drewN ?_ _ | refine blk_drew ?_ | refine blk_alloc ?_ _)); exact BK172.out) Try.underlying34 rfl (by kernel_rfl)) rfl ?_
            exact ⟨_, by first | rfl | (simp [errW_none, errW_some] <;> rfl) | (simp [*, errW_none, errW_some] <;> rfl), by first | exact Kd.R_nil _ _ _ _ _ | exact Kd.N_nil _ _ _ _ _ | exact Kd.V_nil _ _ _ _ _ | exact Kd.Q_nil _ _ _ _ _ | exact Kd.S_nil _ _ _ _ _, by repeat (first | (with_reducible first | exact HB.out | apply below_alloc | apply pw_below_drewN | apply below_drew1 | refine below_set ?_ (IsS99.ge HI179.out) | refine below_set ?_ GE172.out | refine below_set ?_ GE186.out) | exact HB.out)⟩
        · replace c64 := Bool.eq_false_iff.mpr c64
          subst c64
          have H1 : (some (0, 0, 0, 0, 0, ([] : List (S67)), (⟨#[]⟩ : ByteArray), 0, 0, 0, (⟨#[]⟩ : ByteArray), (⟨#[]⟩ : ByteArray), 0, 0, 4)) = some (r1, r2, r3, r4, r5, r6, r7, r8, r9, r10, r11, r12, r13, r14, r15) := by rw [if_neg (show ¬ (false = true) by decide)] at H; exact H
          clear H
          have H := H1
          clear H1
          simp only [Option.some.injEq, Prod.mk.injEq] at H
          obtain ⟨rfl, rfl, rfl, rfl, rfl, rfl, rfl, rfl, rfl, rfl, rfl, rfl, rfl, rfl, rfl⟩ := H
          have hnb90 := NB172_186.out
          have hnc90 := NB186_172.out
          have hnb91 := NB172_179.out
          have hnc91 := NB179_172.out
          have hcz92_0 : wc.cell? ⟨gb172, 0, none⟩ = some (.int .i64 0) := (blk_cell BK172.out 0).trans rfl
          have hcz92_1 : wc.cell? ⟨gb172, 1, none⟩ = some (.int .i64 0) := (blk_cell BK172.out 1).trans rfl
          have hcz92_2 : wc.cell? ⟨gb172, 2, none⟩ = some (.int .i64 0) := (blk_cell BK172.out 2).trans rfl
          have hcz92_3 : wc.cell? ⟨gb172, 3, none⟩ = some (.int .i64 0) := (blk_cell BK172.out 3).trans rfl
          have hcz92_4 : wc.cell? ⟨gb172, 4, none⟩ = some (.int .i64 0) := (blk_cell BK172.out 4).trans rfl
          have hcz92_5 : wc.cell? ⟨gb172, 5, none⟩ = some (.slice none 0 0) := (blk_cell BK172.out 5).trans rfl
          have hcz92_6 : wc.cell? ⟨gb172, 6, none⟩ = some (.string (⟨#[]⟩ : ByteArray)) := (blk_cell BK172.out 6).trans rfl
          have hcz92_7 : wc.cell? ⟨gb172, 7, none⟩ = some (.int .i64 0) := (blk_cell BK172.out 7).trans rfl
          have hcz92_8 : wc.cell? ⟨gb172, 8, none⟩ = some (.int .i64 0) := (blk_cell BK172.out 8).trans rfl
          have hcz92_9 : wc.cell? ⟨gb172, 9, none⟩ = some (.int .i64 0) := (blk_cell BK172.out 9).trans rfl
          have hcz92_10 : wc.cell? ⟨gb172, 10, none⟩ = some (.string (⟨#[]⟩ : ByteArray)) := (blk_cell BK172.out 10).trans rfl
          have hcz92_11 : wc.cell? ⟨gb172, 11, none⟩ = some (.string (⟨#[]⟩ : ByteArray)) := (blk_cell BK172.out 11).trans rfl
          have hcz92_12 : wc.cell? ⟨gb172, 12, none⟩ = some (.int .i64 0) := (blk_cell BK172.out 12).trans rfl
          have hcz92_13 : wc.cell? ⟨gb172, 13, none⟩ = some (.int .i64 0) := (blk_cell BK172.out 13).trans rfl
          have hfz92_0 := blk_frozen BK172.out 0
          have hfz92_1 := blk_frozen BK172.out 1
          have hfz92_2 := blk_frozen BK172.out 2
          have hfz92_3 := blk_frozen BK172.out 3
          have hfz92_4 := blk_frozen BK172.out 4
          have hfz92_5 := blk_frozen BK172.out 5
          have hfz92_6 := blk_frozen BK172.out 6
          have hfz92_7 := blk_frozen BK172.out 7
          have hfz92_8 := blk_frozen BK172.out 8
          have hfz92_9 := blk_frozen BK172.out 9
          have hfz92_10 := blk_frozen BK172.out 10
          have hfz92_11 := blk_frozen BK172.out 11
          have hfz92_12 := blk_frozen BK172.out 12
          have hfz92_13 := blk_frozen BK172.out 13
          go_wp2
          refine bodyPost_ret (results_ct rfl _ _ gb172 34 #[.int .i64 0, .int .i64 0, .int .i64 0, .int .i64 0, .int .i64 0, .slice none 0 0, .string (⟨#[]⟩ : ByteArray), .int .i64 0, .int .i64 0, .int .i64 0, .string (⟨#[]⟩ : ByteArray), .string (⟨#[]⟩ : ByteArray), .int .i64 0, .int .i64 0] (0, 0) _ rfl (by (with_reducible repeat (first | refine blk_drewN ?_ _ | refine blk_drew ?_ | refine blk_alloc ?_ _)); refine blk_put (cs := #[.int .i64 0, .int .i64 0, .int .i64 0, .int .i64 0, .int .i64 0, .slice none 0 0, .string (⟨#[]⟩ : ByteArray), .int .i64 0, .int .i64 0, .int .i64 0, .string (⟨#[]⟩ : ByteArray), .string (⟨#[]⟩ : ByteArray), .int .i64 0, .int .i64 0]) ?_ 13 _ rfl; (with_reducible repeat (first | refine blk_drewN ?_ _ | refine blk_drew ?_ | refine blk_alloc ?_ _)); refine blk_put (cs := #[.int .i64 0, .int .i64 0, .int .i64 0, .int .i64 0, .int .i64 0, .slice none 0 0, .string (⟨#[]⟩ : ByteArray), .int .i64 0, .int .i64 0, .int .i64 0, .string (⟨#[]⟩ : ByteArray), .string (⟨#[]⟩ : ByteArray), .int .i64 0, .int .i64 0]) ?_ 12 _ rfl; (with_reducible repeat (first | refine blk_drewN ?_ _ | refine blk_drew ?_ | refine blk_alloc ?_ _)); refine blk_put (cs := #[.int .i64 0, .int .i64 0, .int .i64 0, .int .i64 0, .int .i64 0, .slice none 0 0, .string (⟨#[]⟩ : ByteArray), .int .i64 0, .int .i64 0, .int .i64 0, .string (⟨#[]⟩ : ByteArray), .string (⟨#[]⟩ : ByteArray), .int .i64 0, .int .i64 0]) ?_ 11 _ rfl; (with_reducible repeat (first | refine blk_drewN ?_ _ | refine blk_drew ?_ | refine blk_alloc ?_ _)); refine blk_put (cs := #[.int .i64 0, .int .i64 0, .int .i64 0, .int .i64 0, .int .i64 0, .slice none 0 0, .string (⟨#[]⟩ : ByteArray), .int .i64 0, .int .i64 0, .int .i64 0, .string (⟨#[]⟩ : ByteArray), .string (⟨#[]⟩ : ByteArray), .int .i64 0, .int .i64 0]) ?_ 10 _ rfl; (with_reducible repeat (first | refine blk_drewN ?_ _ | refine blk_drew ?_ | refine blk_alloc ?_ _)); refine blk_put (cs := #[.int .i64 0, .int .i64 0, .int .i64 0, .int .i64 0, .int .i64 0, .slice none 0 0, .string (⟨#[]⟩ : ByteArray), .int .i64 0, .int .i64 0, .int .i64 0, .string (⟨#[]⟩ : ByteArray), .string (⟨#[]⟩ : ByteArray), .int .i64 0, .int .i64 0]) ?_ 9 _ rfl; (with_reducible repeat (first | refine blk_drewN ?_ _ | refine blk_drew ?_ | refine blk_alloc ?_ _)); refine blk_put (cs := #[.int .i64 0, .int .i64 0, .int .i64 0, .int .i64 0, .int .i64 0, .slice none 0 0, .string (⟨#[]⟩ : ByteArray), .int .i64 0, .int .i64 0, .int .i64 0, .string (⟨#[]⟩ : ByteArray), .string (⟨#[]⟩ : ByteArray), .int .i64 0, .int .i64 0]) ?_ 8 _ rfl; (with_reducible repeat (first | refine blk_drewN ?_ _ | refine blk_drew ?_ | refine blk_alloc ?_ _)); refine blk_put (cs := #[.int .i64 0, .int .i64 0, .int .i64 0, .int .i64 0, .int .i64 0, .slice none 0 0, .string (⟨#[]⟩ : ByteArray), .int .i64 0, .int .i64 0, .int .i64 0, .string (⟨#[]⟩ : ByteArray), .string (⟨#[]⟩ : ByteArray), .int .i64 0, .int .i64 0]) ?_ 7 _ rfl; (with_reducible repeat (first | refine blk_drewN ?_ _ | refine blk_drew ?_ | refine blk_alloc ?_ _)); refine blk_put (cs := #[.int .i64 0, .int .i64 0, .int .i64 0, .int .i64 0, .int .i64 0, .slice none 0 0, .string (⟨#[]⟩ : ByteArray), .int .i64 0, .int .i64 0, .int .i64 0, .string (⟨#[]⟩ : ByteArray), .string (⟨#[]⟩ : ByteArray), .int .i64 0, .int .i64 0]) ?_ 6 _ rfl; (with_reducible repeat (first | refine blk_drewN ?_ _ | refine blk_drew ?_ | refine blk_alloc ?_ _)); refine blk_put (cs := #[.int .i64 0, .int .i64 0, .int .i64 0, .int .i64 0, .int .i64 0, .slice none 0 0, .string (⟨#[]⟩ : ByteArray), .int .i64 0, .int .i64 0, .int .i64 0, .string (⟨#[]⟩ : ByteArray), .string (⟨#[]⟩ : ByteArray), .int .i64 0, .int .i64 0]) ?_ 5 _ rfl; (with_reducible repeat (first | refine blk_drewN ?_ _ | refine blk_drew ?_ | refine blk_alloc ?_ _)); refine blk_put (cs := #[.int .i64 0, .int .i64 0, .int .i64 0, .int .i64 0, .int .i64 0, .slice none 0 0, .string (⟨#[]⟩ : ByteArray), .int .i64 0, .int .i64 0, .int .i64 0, .string (⟨#[]⟩ : ByteArray), .string (⟨#[]⟩ : ByteArray), .int .i64 0, .int .i64 0]) ?_ 4 _ rfl; (with_reducible repeat (first | refine blk_drewN ?_ _ | refine blk_drew ?_ | refine blk_alloc ?_ _)); refine blk_put (cs := #[.int .i64 0, .int .i64 0, .int .i64 0, .int .i64 0, .int .i64 0, .slice none 0 0, .string (⟨#[]⟩ : ByteArray), .int .i64 0, .int .i64 0, .int .i64 0, .string (⟨#[]⟩ : ByteArray), .string (⟨#[]⟩ : ByteArray), .int .i64 0, .int .i64 0]) ?_ 3 _ rfl; (with_reducible repeat (first | refine blk_drewN ?_ _ | refine blk_drew ?_ | refine blk_alloc ?_ _)); refine blk_put (cs := #[.int .i64 0, .int .i64 0, .int .i64 0, .int .i64 0, .int .i64 0, .slice none 0 0, .string (⟨#[]⟩ : ByteArray), .int .i64 0, .int .i64 0, .int .i64 0, .string (⟨#[]⟩ : ByteArray), .string (⟨#[]⟩ : ByteArray), .int .i64 0, .int .i64 0]) ?_ 2 _ rfl; (with_reducible repeat (first | refine blk_drewN ?_ _ | refine blk_drew ?_ | refine blk_alloc ?_ _)); refine blk_put (cs := #[.int .i64 0, .int .i64 0, .int .i64 0, .int .i64 0, .int .i64 0, .slice none 0 0, .string (⟨#[]⟩ : ByteArray), .int .i64 0, .int .i64 0, .int .i64 0, .string (⟨#[]⟩ : ByteArray), .string (⟨#[]⟩ : ByteArray), .int .i64 0, .int .i64 0]) ?_ 1 _ rfl; (with_reducible repeat (first | refine blk_drewN ?_ _ | refine blk_drew ?_ | refine blk_alloc ?_ _)); refine blk_put (cs := #[.int .i64 0, .int .i64 0, .int .i64 0, .int .i64 0, .int .i64 0, .slice none 0 0, .string (⟨#[]⟩ : ByteArray), .int .i64 0, .int .i64 0, .int .i64 0, .string (⟨#[]⟩ : ByteArray), .string (⟨#[]⟩ : ByteArray), .int .i64 0, .int .i64 0]) ?_ 0 _ rfl; (with_reducible repeat (first | refine blk_drewN ?_ _ | refine blk_drew ?_ | refine blk_alloc ?_ _)); exact BK172.out) Try.underlying34 rfl (by kernel_rfl)) rfl ?_
          exact ⟨_, by first | rfl | (simp [errW_none, errW_some] <;> rfl) | (simp [*, errW_none, errW_some] <;> rfl), by first | exact Kd.R_nil _ _ _ _ _ | exact Kd.N_nil _ _ _ _ _ | exact Kd.V_nil _ _ _ _ _ | exact Kd.Q_nil _ _ _ _ _ | exact Kd.S_nil _ _ _ _ _, by repeat (first | (with_reducible first | exact HB.out | apply below_alloc | apply pw_below_drewN | apply below_drew1 | refine below_set ?_ (IsS99.ge HI179.out) | refine below_set ?_ GE172.out | refine below_set ?_ GE186.out) | exact HB.out)⟩
  · rw [if_neg c3] at H
    have c3b0 : (t174 == 0) = false := beq_eq_false_iff_ne.mpr c3
    have c3b1 : (t174 != 0) = true := bne_iff_ne.mpr c3
    simp only [Option.some.injEq, Prod.mk.injEq] at H
    obtain ⟨rfl, rfl, rfl, rfl, rfl, rfl, rfl, rfl, rfl, rfl, rfl, rfl, rfl, rfl, rfl⟩ := H
    go_enter Try.func19, Try.ntmps19
    go_wp2_with (first | ((with_reducible refine gate_dst (N := 2) rfl ?_); refine box_event ?hg (N := 2) ?hd (cs := #[.int .i64 0, .int .i64 0, .int .i64 0, .int .i64 0, .int .i64 0, .slice none 0 0, .string (⟨#[]⟩ : ByteArray), .int .i64 0, .int .i64 0, .int .i64 0, .string (⟨#[]⟩ : ByteArray), .string (⟨#[]⟩ : ByteArray), .int .i64 0, .int .i64 0]) (t := 34) ?hr ?_; (case hd => rfl); (case hg => rfl); (case hr => first | (go_simp; done) | (go_simp; rfl)); intro gb172 hg w93 hbox hb; have n0_ := Aside0.mk (below_step (by repeat (first | (with_reducible first | exact HB.out | apply below_alloc | apply pw_below_drewN | apply below_drew1) | exact HB.out)) hb); have n1_ := Aside0.mk (hbox); have n2_ := Aside0.mk ((by rw [hg]; exact (below_size (by repeat (first | (with_reducible first | exact HB.out | apply below_alloc | apply pw_below_drewN | apply below_drew1) | exact HB.out))) : w.heap.size ≤ gb172)); have n3_ := Aside0.mk ((by rw [hg]; exact (below_size (by repeat (first | (with_reducible first | exact HB.out | apply below_alloc | apply pw_below_drewN | apply below_drew1) | exact HB.out))) : w.heap.size ≤ gb172)); clear HB; have HB := n0_; have BK172 := n1_; have GW172 := n2_; have GE172 := n3_; clear n0_ n1_ n2_ n3_; clear hb hbox hg) | ((with_reducible refine gate_callee (f := 39) rfl ?_); refine goesL_ (some 11) rfl rfl Try.func39 (by kernel_rfl) rfl #[.string a0] rfl (by (try simp only [List.map_toArray, List.map_cons, List.map_nil]); first | done | rfl | (simp only [List.length_drop, List.length_take]; rfl)) ?_; (with_reducible refine (check_Open.calls a0 t173 t174 _ A2.out).mono ?_); rintro e w94 ⟨rfl, hb⟩; refine ⟨_, rfl, ?_⟩; have n0_ := Aside0.mk (blk_below (g := gb172) (o := .cells #[.int .i64 0, .int .i64 0, .int .i64 0, .int .i64 0, .int .i64 0, .slice none 0 0, .string (⟨#[]⟩ : ByteArray), .int .i64 0, .int .i64 0, .int .i64 0, .string (⟨#[]⟩ : ByteArray), .string (⟨#[]⟩ : ByteArray), .int .i64 0, .int .i64 0] 34 (0, 0)) (by (with_reducible repeat (first | refine blk_drewN ?_ _ | refine blk_drew ?_ | refine blk_alloc ?_ _)); exact BK172.out) hb); have n1_ := Aside0.mk (below_step (by repeat (first | (with_reducible first | exact HB.out | apply below_alloc | apply pw_below_drewN | apply below_drew1 | refine below_set ?_ GE172.out) | exact HB.out)) hb); clear BK172; clear HB; have BK172 := n0_; have HB := n1_; clear n0_ n1_; (try clear hb); (try clear hb2); (try clear hk); (try clear hi); have hcz95_0 : w94.cell? ⟨gb172, 0, none⟩ = some (.int .i64 0) := (blk_cell BK172.out 0).trans rfl; have hcz95_1 : w94.cell? ⟨gb172, 1, none⟩ = some (.int .i64 0) := (blk_cell BK172.out 1).trans rfl; have hcz95_2 : w94.cell? ⟨gb172, 2, none⟩ = some (.int .i64 0) := (blk_cell BK172.out 2).trans rfl; have hcz95_3 : w94.cell? ⟨gb172, 3, none⟩ = some (.int .i64 0) := (blk_cell BK172.out 3).trans rfl; have hcz95_4 : w94.cell? ⟨gb172, 4, none⟩ = some (.int .i64 0) := (blk_cell BK172.out 4).trans rfl; have hcz95_5 : w94.cell? ⟨gb172, 5, none⟩ = some (.slice none 0 0) := (blk_cell BK172.out 5).trans rfl; have hcz95_6 : w94.cell? ⟨gb172, 6, none⟩ = some (.string (⟨#[]⟩ : ByteArray)) := (blk_cell BK172.out 6).trans rfl; have hcz95_7 : w94.cell? ⟨gb172, 7, none⟩ = some (.int .i64 0) := (blk_cell BK172.out 7).trans rfl; have hcz95_8 : w94.cell? ⟨gb172, 8, none⟩ = some (.int .i64 0) := (blk_cell BK172.out 8).trans rfl; have hcz95_9 : w94.cell? ⟨gb172, 9, none⟩ = some (.int .i64 0) := (blk_cell BK172.out 9).trans rfl; have hcz95_10 : w94.cell? ⟨gb172, 10, none⟩ = some (.string (⟨#[]⟩ : ByteArray)) := (blk_cell BK172.out 10).trans rfl; have hcz95_11 : w94.cell? ⟨gb172, 11, none⟩ = some (.string (⟨#[]⟩ : ByteArray)) := (blk_cell BK172.out 11).trans rfl; have hcz95_12 : w94.cell? ⟨gb172, 12, none⟩ = some (.int .i64 0) := (blk_cell BK172.out 12).trans rfl; have hcz95_13 : w94.cell? ⟨gb172, 13, none⟩ = some (.int .i64 0) := (blk_cell BK172.out 13).trans rfl; have hfz95_0 := blk_frozen BK172.out 0; have hfz95_1 := blk_frozen BK172.out 1; have hfz95_2 := blk_frozen BK172.out 2; have hfz95_3 := blk_frozen BK172.out 3; have hfz95_4 := blk_frozen BK172.out 4; have hfz95_5 := blk_frozen BK172.out 5; have hfz95_6 := blk_frozen BK172.out 6; have hfz95_7 := blk_frozen BK172.out 7; have hfz95_8 := blk_frozen BK172.out 8; have hfz95_9 := blk_frozen BK172.out 9; have hfz95_10 := blk_frozen BK172.out 10; have hfz95_11 := blk_frozen BK172.out 11; have hfz95_12 := blk_frozen BK172.out 12; have hfz95_13 := blk_frozen BK172.out 13))
    refine bodyPost_ret (results_ct rfl _ _ gb172 34 #[.int .i64 0, .int .i64 0, .int .i64 0, .int .i64 0, .int .i64 0, .slice none 0 0, .string (⟨#[]⟩ : ByteArray), .int .i64 0, .int .i64 0, .int .i64 0, .string (⟨#[]⟩ : ByteArray), .string (⟨#[]⟩ : ByteArray), .int .i64 0, .int .i64 0] (0, 0) _ rfl (by (with_reducible repeat (first | refine blk_drewN ?_ _ | refine blk_drew ?_ | refine blk_alloc ?_ _)); refine blk_put (cs := #[.int .i64 0, .int .i64 0, .int .i64 0, .int .i64 0, .int .i64 0, .slice none 0 0, .string (⟨#[]⟩ : ByteArray), .int .i64 0, .int .i64 0, .int .i64 0, .string (⟨#[]⟩ : ByteArray), .string (⟨#[]⟩ : ByteArray), .int .i64 0, .int .i64 0]) ?_ 13 _ rfl; (with_reducible repeat (first | refine blk_drewN ?_ _ | refine blk_drew ?_ | refine blk_alloc ?_ _)); refine blk_put (cs := #[.int .i64 0, .int .i64 0, .int .i64 0, .int .i64 0, .int .i64 0, .slice none 0 0, .string (⟨#[]⟩ : ByteArray), .int .i64 0, .int .i64 0, .int .i64 0, .string (⟨#[]⟩ : ByteArray), .string (⟨#[]⟩ : ByteArray), .int .i64 0, .int .i64 0]) ?_ 12 _ rfl; (with_reducible repeat (first | refine blk_drewN ?_ _ | refine blk_drew ?_ | refine blk_alloc ?_ _)); refine blk_put (cs := #[.int .i64 0, .int .i64 0, .int .i64 0, .int .i64 0, .int .i64 0, .slice none 0 0, .string (⟨#[]⟩ : ByteArray), .int .i64 0, .int .i64 0, .int .i64 0, .string (⟨#[]⟩ : ByteArray), .string (⟨#[]⟩ : ByteArray), .int .i64 0, .int .i64 0]) ?_ 11 _ rfl; (with_reducible repeat (first | refine blk_drewN ?_ _ | refine blk_drew ?_ | refine blk_alloc ?_ _)); refine blk_put (cs := #[.int .i64 0, .int .i64 0, .int .i64 0, .int .i64 0, .int .i64 0, .slice none 0 0, .string (⟨#[]⟩ : ByteArray), .int .i64 0, .int .i64 0, .int .i64 0, .string (⟨#[]⟩ : ByteArray), .string (⟨#[]⟩ : ByteArray), .int .i64 0, .int .i64 0]) ?_ 10 _ rfl; (with_reducible repeat (first | refine blk_drewN ?_ _ | refine blk_drew ?_ | refine blk_alloc ?_ _)); refine blk_put (cs := #[.int .i64 0, .int .i64 0, .int .i64 0, .int .i64 0, .int .i64 0, .slice none 0 0, .string (⟨#[]⟩ : ByteArray), .int .i64 0, .int .i64 0, .int .i64 0, .string (⟨#[]⟩ : ByteArray), .string (⟨#[]⟩ : ByteArray), .int .i64 0, .int .i64 0]) ?_ 9 _ rfl; (with_reducible repeat (first | refine blk_drewN ?_ _ | refine blk_drew ?_ | refine blk_alloc ?_ _)); refine blk_put (cs := #[.int .i64 0, .int .i64 0, .int .i64 0, .int .i64 0, .int .i64 0, .slice none 0 0, .string (⟨#[]⟩ : ByteArray), .int .i64 0, .int .i64 0, .int .i64 0, .string (⟨#[]⟩ : ByteArray), .string (⟨#[]⟩ : ByteArray), .int .i64 0, .int .i64 0]) ?_ 8 _ rfl; (with_reducible repeat (first | refine blk_drewN ?_ _ | refine blk_drew ?_ | refine blk_alloc ?_ _)); refine blk_put (cs := #[.int .i64 0, .int .i64 0, .int .i64 0, .int .i64 0, .int .i64 0, .slice none 0 0, .string (⟨#[]⟩ : ByteArray), .int .i64 0, .int .i64 0, .int .i64 0, .string (⟨#[]⟩ : ByteArray), .string (⟨#[]⟩ : ByteArray), .int .i64 0, .int .i64 0]) ?_ 7 _ rfl; (with_reducible repeat (first | refine blk_drewN ?_ _ | refine blk_drew ?_ | refine blk_alloc ?_ _)); refine blk_put (cs := #[.int .i64 0, .int .i64 0, .int .i64 0, .int .i64 0, .int .i64 0, .slice none 0 0, .string (⟨#[]⟩ : ByteArray), .int .i64 0, .int .i64 0, .int .i64 0, .string (⟨#[]⟩ : ByteArray), .string (⟨#[]⟩ : ByteArray), .int .i64 0, .int .i64 0]) ?_ 6 _ rfl; (with_reducible repeat (first | refine blk_drewN ?_ _ | refine blk_drew ?_ | refine blk_alloc ?_ _)); refine blk_put (cs := #[.int .i64 0, .int .i64 0, .int .i64 0, .int .i64 0, .int .i64 0, .slice none 0 0, .string (⟨#[]⟩ : ByteArray), .int .i64 0, .int .i64 0, .int .i64 0, .string (⟨#[]⟩ : ByteArray), .string (⟨#[]⟩ : ByteArray), .int .i64 0, .int .i64 0]) ?_ 5 _ rfl; (with_reducible repeat (first | refine blk_drewN ?_ _ | refine blk_drew ?_ | refine blk_alloc ?_ _)); refine blk_put (cs := #[.int .i64 0, .int .i64 0, .int .i64 0, .int .i64 0, .int .i64 0, .slice none 0 0, .string (⟨#[]⟩ : ByteArray), .int .i64 0, .int .i64 0, .int .i64 0, .string (⟨#[]⟩ : ByteArray), .string (⟨#[]⟩ : ByteArray), .int .i64 0, .int .i64 0]) ?_ 4 _ rfl; (with_reducible repeat (first | refine blk_drewN ?_ _ | refine blk_drew ?_ | refine blk_alloc ?_ _)); refine blk_put (cs := #[.int .i64 0, .int .i64 0, .int .i64 0, .int .i64 0, .int .i64 0, .slice none 0 0, .string (⟨#[]⟩ : ByteArray), .int .i64 0, .int .i64 0, .int .i64 0, .string (⟨#[]⟩ : ByteArray), .string (⟨#[]⟩ : ByteArray), .int .i64 0, .int .i64 0]) ?_ 3 _ rfl; (with_reducible repeat (first | refine blk_drewN ?_ _ | refine blk_drew ?_ | refine blk_alloc ?_ _)); refine blk_put (cs := #[.int .i64 0, .int .i64 0, .int .i64 0, .int .i64 0, .int .i64 0, .slice none 0 0, .string (⟨#[]⟩ : ByteArray), .int .i64 0, .int .i64 0, .int .i64 0, .string (⟨#[]⟩ : ByteArray), .string (⟨#[]⟩ : ByteArray), .int .i64 0, .int .i64 0]) ?_ 2 _ rfl; (with_reducible repeat (first | refine blk_drewN ?_ _ | refine blk_drew ?_ | refine blk_alloc ?_ _)); refine blk_put (cs := #[.int .i64 0, .int .i64 0, .int .i64 0, .int .i64 0, .int .i64 0, .slice none 0 0, .string (⟨#[]⟩ : ByteArray), .int .i64 0, .int .i64 0, .int .i64 0, .string (⟨#[]⟩ : ByteArray), .string (⟨#[]⟩ : ByteArray), .int .i64 0, .int .i64 0]) ?_ 1 _ rfl; (with_reducible repeat (first | refine blk_drewN ?_ _ | refine blk_drew ?_ | refine blk_alloc ?_ _)); refine blk_put (cs := #[.int .i64 0, .int .i64 0, .int .i64 0, .int .i64 0, .int .i64 0, .slice none 0 0, .string (⟨#[]⟩ : ByteArray), .int .i64 0, .int .i64 0, .int .i64 0, .string (⟨#[]⟩ : ByteArray), .string (⟨#[]⟩ : ByteArray), .int .i64 0, .int .i64 0]) ?_ 0 _ rfl; (with_reducible repeat (first | refine blk_drewN ?_ _ | refine blk_drew ?_ | refine blk_alloc ?_ _)); exact BK172.out) Try.underlying34 rfl (by kernel_rfl)) rfl ?_
    exact ⟨_, by first | rfl | (simp [errW_none, errW_some] <;> rfl) | (simp [*, errW_none, errW_some] <;> rfl), by first | exact Kd.R_nil _ _ _ _ _ | exact Kd.N_nil _ _ _ _ _ | exact Kd.V_nil _ _ _ _ _ | exact Kd.Q_nil _ _ _ _ _ | exact Kd.S_nil _ _ _ _ _, by repeat (first | (with_reducible first | exact HB.out | apply below_alloc | apply pw_below_drewN | apply below_drew1 | refine below_set ?_ GE172.out) | exact HB.out)⟩
end Go.Proofs.Ytkceobahefjlnaa.Q
end
section
/- record.Read, told as a plain function. -/
namespace Go.Proofs.Ytkceobahefjlnaa
open Go.RowKit Q Go.Proofs.YtkceobahefjlnaaW.PrintWords Go.Proofs.YtkceobahefjlnaaW.PrintLast
theorem rnx_k (s : List UInt8 × Int) (k : Nat) (hk : 20 ≤ k) (h : s.1.length ≤ 140737488355328) : pack_Reader_Number.f k (B s.1) s.2 = some (((nx s).1 : Int), B (nx s).2.1, (nx s).2.2) := by
  obtain ⟨l, e⟩ := s
  unfold nx
  simp only
  by_cases he : e = 0
  · subst he
    rw [if_pos rfl]
    exact rnum_f l k h hk
  · rw [if_neg he]
    exact rnum_err (B l) e k he
theorem rtx_k (s : List UInt8 × Int) (k : Nat) (hk : 21 ≤ k) (h : s.1.length ≤ 140737488355328) : pack_Reader_Text.f k (B s.1) s.2 = some (B (tx s).1, B (tx s).2.1, (tx s).2.2) := by
  obtain ⟨l, e⟩ := s
  unfold tx
  simp only
  by_cases he : e = 0
  · subst he
    rw [if_pos rfl]
    exact rtext_f l k h hk
  · rw [if_neg he]
    exact rtext_err (B l) e k he (by omega)
theorem tx_le (s : List UInt8 × Int) : (tx s).2.1.length ≤ s.1.length := by
  unfold tx
  split
  · exact (tkT_le _).1
  · exact Nat.le_refl _
/-- All that is left. -/
def rst (s : List UInt8 × Int) : List UInt8 × List UInt8 × Int := if s.2 = 0 then (s.1, [], 0) else ([], s.1, s.2)
theorem rst_f (s : List UInt8 × Int) : pack_Reader_Rest.f (B s.1) s.2 = some (B (rst s).1, B (rst s).2.1, (rst s).2.2) := by
  obtain ⟨l, e⟩ := s
  unfold pack_Reader_Rest.f pack_Reader_works.f rst
  by_cases he : e = 0
  · subst he
    simp
    rfl
  · simp [he]
    rfl
/-- n places taken. -/
def locsN : Nat → List UInt8 × Int → List S67 × List UInt8 × Int
  | 0, s => ([], s)
  | n + 1, s => (⟨((nx s).1 : Int), ((nx (nx s).2).1 : Int)⟩ :: (locsN n (nx (nx s).2).2).1, (locsN n (nx (nx s).2).2).2)
theorem locsN_le : ∀ (n : Nat) (s : List UInt8 × Int), (locsN n s).2.1.length ≤ s.1.length
  | 0, _ => Nat.le_refl _
  | n + 1, s => Nat.le_trans (locsN_le n _) (Nat.le_trans (nx_le _) (nx_le _))
theorem locsN_len : ∀ (n : Nat) (s : List UInt8 × Int), (locsN n s).1.length = n
  | 0, _ => rfl
  | n + 1, s => by
    show (locsN n _).1.length + 1 = n + 1
    rw [locsN_len n]
theorem vol_loop (V G N : Int) (n : Nat) : ∀ (i k : Nat) (s : List UInt8 × Int) (acc : List S67), i + n = 9 → n + 21 ≤ k → s.1.length ≤ 140737488355328 → acc.length = i → record_volume.l0 k (i : Int) (B s.1) s.2 V G N acc = some (V, G, N, acc ++ (locsN n s).1, B (locsN n s).2.1, (locsN n s).2.2) := by
  induction n with
  | zero =>
    intro i k s acc hi hk hs ha
    obtain ⟨k, rfl⟩ : ∃ m, k = m + 1 := ⟨k - 1, by omega⟩
    simp only [record_volume.l0]
    rw [if_neg (by omega)]
    simp [locsN]
  | succ n ih =>
    intro i k s acc hi hk hs ha
    obtain ⟨k, rfl⟩ : ∃ m, k = m + 1 := ⟨k - 1, by omega⟩
    simp only [record_volume.l0]
    rw [if_pos (by omega), rnx_k s k (by omega) hs]
    simp only [Option.bind_some]
    rw [rnx_k (nx s).2 k (by omega) (Nat.le_trans (nx_le _) hs)]
    simp only [Option.bind_some]
    rw [if_pos (by omega), wrap_s i (by omega)]
    rw [ih (i + 1) k (nx (nx s).2).2 _ (by omega) (by omega) (Nat.le_trans (Nat.le_trans (nx_le _) (nx_le _)) hs) (by rw [List.length_append, ha]; rfl), List.append_assoc]
    rfl
/-- A volume taken. -/
def volS (s : List UInt8 × Int) : (Int × Int × Int × List S67) × List UInt8 × Int :=
  ((((nx s).1 : Int), ((nx (nx s).2).1 : Int), ((nx (nx (nx s).2).2).1 : Int), (locsN 9 (nx (nx (nx s).2).2).2).1), (locsN 9 (nx (nx (nx s).2).2).2).2)
theorem volS_le (s : List UInt8 × Int) : (volS s).2.1.length ≤ s.1.length := Nat.le_trans (locsN_le 9 _) (Nat.le_trans (nx_le _) (Nat.le_trans (nx_le _) (nx_le _)))
theorem volS_f (s : List UInt8 × Int) (k : Nat) (hk : 40 ≤ k) (hs : s.1.length ≤ 140737488355328) : record_volume.f k (B s.1) s.2 = some ((volS s).1.1, (volS s).1.2.1, (volS s).1.2.2.1, (volS s).1.2.2.2, B (volS s).2.1, (volS s).2.2) := by
  have h1 := Nat.le_trans (nx_le s) hs
  have h2 := Nat.le_trans (nx_le (nx s).2) h1
  have h3 := Nat.le_trans (nx_le (nx (nx s).2).2) h2
  unfold record_volume.f
  rw [rnx_k s k (by omega) hs]
  simp only [Option.bind_some]
  rw [rnx_k (nx s).2 k (by omega) h1]
  simp only [Option.bind_some]
  rw [rnx_k (nx (nx s).2).2 k (by omega) h2]
  simp only [Option.bind_some]
  have := vol_loop ((nx s).1 : Int) ((nx (nx s).2).1 : Int) ((nx (nx (nx s).2).2).1 : Int) 9 0 k (nx (nx (nx s).2).2).2 [] rfl (by omega) h3 rfl
  exact this
def zeroR : RecP := ⟨0, 0, 0, 0, 0, [], ⟨#[]⟩, 0, 0, 0, ⟨#[]⟩, ⟨#[]⟩, 0, 0⟩
/-- What is taken behind the first two numbers; and what is left. -/
def recK (q d : Nat) (s : List UInt8 × Int) : RecP × List UInt8 × Int :=
  if d = 1 then (⟨q, d, 0, 0, 0, [], ⟨#[]⟩, 0, 0, 0, ⟨#[]⟩, B (tx s).1, 0, 0⟩, (tx s).2)
  else if d = 0 then (⟨q, d, (volS s).1.1, (volS s).1.2.1, (volS s).1.2.2.1, (volS s).1.2.2.2, B (tx (volS s).2).1, (volS s).1.1, (nx (tx (volS s).2).2).1, (nx (nx (tx (volS s).2).2).2).1, B (rst (nx (nx (tx (volS s).2).2).2).2).1, ⟨#[]⟩, 0, 0⟩, (rst (nx (nx (tx (volS s).2).2).2).2).2)
  else if d = 2 then (⟨q, d, (volS s).1.1, (volS s).1.2.1, (volS s).1.2.2.1, (volS s).1.2.2.2, ⟨#[]⟩, 0, 0, 0, ⟨#[]⟩, ⟨#[]⟩, 0, 0⟩, (volS s).2)
  else if d = 3 then (⟨q, d, (volS s).1.1, (volS s).1.2.1, (volS s).1.2.2.1, (volS s).1.2.2.2, ⟨#[]⟩, 0, 0, 0, ⟨#[]⟩, ⟨#[]⟩, (nx (volS s).2).1, (nx (nx (volS s).2).2).1⟩, (nx (nx (volS s).2).2).2)
  else (⟨q, d, 0, 0, 0, [], ⟨#[]⟩, 0, 0, 0, ⟨#[]⟩, ⟨#[]⟩, 0, 0⟩, s)
def recS (l : List UInt8) : RecP × List UInt8 × Int := recK (nx (l, 0)).1 (nx (nx (l, 0)).2).1 (nx (nx (l, 0)).2).2
/-- A text's begin cut off. -/
def cutJ (u : List UInt8) : List UInt8 × Bool := if u.take 2 = [83, 74] then (u.drop 2, true) else (u, false)
def recR (m : List UInt8) : RecP × Int :=
  if (openL m).2 = 0 then
    (if (cutJ (openL m).1.data.toList).2 = true ∧ endE (recS (cutJ (openL m).1.data.toList).1).2 = 0 ∧ chkR (recS (cutJ (openL m).1.data.toList).1).1 = 0 then ((recS (cutJ (openL m).1.data.toList).1).1, 0) else (zeroR, 4))
  else (zeroR, (openL m).2)
theorem recS_locs (l : List UInt8) : (recS l).1.locs.length ≤ 9 := by
  have hv : ∀ s, (volS s).1.2.2.2.length = 9 := fun s => locsN_len 9 _
  unfold recS recK
  split
  · exact Nat.zero_le _
  · split
    · exact Nat.le_of_eq (hv _)
    · split
      · exact Nat.le_of_eq (hv _)
      · split
        · exact Nat.le_of_eq (hv _)
        · exact Nat.zero_le _
theorem cutJ_f (u : List UInt8) : strings_CutPrefix.f (B u) ⟨#[83, 74]⟩ = some (B (cutJ u).1, (cutJ u).2) := by
  have h2 : (⟨#[83, 74]⟩ : ByteArray).size = 2 := rfl
  have hl : (⟨#[83, 74]⟩ : ByteArray).toList = [83, 74] := by rw [ByteArray.toList_eq]
  have hx : ((B u).extract 0 2).toList = u.take 2 := by rw [B_extract, B_toList, List.drop_zero]
  unfold strings_CutPrefix.f stringslite_CutPrefix.f stringslite_HasPrefix.f cutJ
  rw [h2, hl, hx, B_size]
  by_cases hs : 2 ≤ u.length
  · rw [if_pos (by omega), if_pos (by omega), if_pos (by omega)]
    simp only [Option.bind_some]
    by_cases he : u.take 2 = [83, 74]
    · rw [he]
      simp only [beq_self_eq_true, if_true]
      rw [if_pos (by omega), if_pos (by omega)]
      simp only [Option.bind_some]
      rw [B_extract, List.take_of_length_le (by rw [List.length_drop]; exact Nat.le_refl _)]
    · have hb : (u.take 2 == [83, 74]) = false := by simpa using he
      rw [hb, if_neg he]
      rfl
  · rw [if_neg (by omega)]
    have he : ¬ u.take 2 = [83, 74] := by
      intro h
      have := congrArg List.length h
      rw [List.length_take] at this
      simp only [List.length_cons, List.length_nil] at this
      omega
    rw [if_neg he]
    rfl
/-- The end of record.Read: what was taken is looked at. -/
theorem read_j0 (k : Nat) (c : Bool) (s : List UInt8 × Int) (r : RecP) (hl : r.locs.length ≤ 1000) : record_Read.j0 (k + 1) c (B s.1) s.2 r.seq r.kind r.id r.gen r.len r.locs r.ekey r.evol r.eoff r.elen r.dig r.key r.frm r.til = some (if c = true ∧ endE s = 0 ∧ chkR r = 0 then (r.seq, r.kind, r.id, r.gen, r.len, r.locs, r.ekey, r.evol, r.eoff, r.elen, r.dig, r.key, r.frm, r.til, (0 : Int)) else (0, 0, 0, 0, 0, ([] : List S67), (⟨#[]⟩ : ByteArray), 0, 0, 0, (⟨#[]⟩ : ByteArray), (⟨#[]⟩ : ByteArray), 0, 0, 4)) := by
  simp only [record_Read.j0]
  cases c with
  | false => rfl
  | true =>
    rw [if_pos rfl]
    have hc : record_Check.f r.seq r.kind r.id r.gen r.len r.locs r.ekey r.evol r.eoff r.elen r.dig r.key r.frm r.til = some (chkR r) := if_pos hl
    by_cases he : endE s = 0
    · rcases rend_f s with h | h <;> rw [h] <;> simp only [Option.bind_some] <;> rw [if_pos he, hc] <;> simp only [Option.bind_some] <;> by_cases hk : chkR r = 0
      · rw [if_pos hk, if_pos (by simp [he, hk])]
      · rw [if_neg hk, if_neg (fun h => hk h.2.2)]
      · rw [if_pos hk, if_pos (by simp [he, hk])]
      · rw [if_neg hk, if_neg (fun h => hk h.2.2)]
    · rcases rend_f s with h | h <;> rw [h] <;> simp only [Option.bind_some] <;> rw [if_neg he, if_neg (fun h => he h.2.1)]
/-- A record and an error, as Read's results. -/
def tupR (x : RecP × Int) : Int × Int × Int × Int × Int × List S67 × ByteArray × Int × Int × Int × ByteArray × ByteArray × Int × Int × Int := (x.1.seq, x.1.kind, x.1.id, x.1.gen, x.1.len, x.1.locs, x.1.ekey, x.1.evol, x.1.eoff, x.1.elen, x.1.dig, x.1.key, x.1.frm, x.1.til, x.2)
theorem read_fin (c : Bool) (x : RecP × List UInt8 × Int) (hl : x.1.locs.length ≤ 9) : record_Read.j0 60 c (B x.2.1) x.2.2 x.1.seq x.1.kind x.1.id x.1.gen x.1.len x.1.locs x.1.ekey x.1.evol x.1.eoff x.1.elen x.1.dig x.1.key x.1.frm x.1.til = some (tupR (if c = true ∧ endE x.2 = 0 ∧ chkR x.1 = 0 then (x.1, 0) else (zeroR, 4))) := by
  rw [read_j0 59 c x.2 x.1 (by omega)]
  by_cases h : c = true ∧ endE x.2 = 0 ∧ chkR x.1 = 0
  · rw [if_pos h, if_pos h]
    rfl
  · rw [if_neg h, if_neg h]
    rfl
theorem recread_f (m : List UInt8) (hm : m.length ≤ 140737488355328) : record_Read.f 60 (B m) = some (tupR (recR m)) := by
  unfold record_Read.f
  rw [open_f m hm]
  simp only [Option.bind_some]
  unfold recR
  by_cases ho : (openL m).2 = 0
  · rw [if_pos ho, if_pos ho]
    obtain ⟨u, hu⟩ := exB (openL m).1
    have hul : u.length ≤ 140737488355328 := by
      have : (openL m).1.size ≤ m.length := by
        unfold openL
        split
        · rw [B_size]; exact Nat.zero_le _
        · split
          · rw [B_size, List.length_take]; omega
          · rw [B_size]; exact Nat.zero_le _
      rw [hu, B_size] at this
      omega
    rw [hu, cutJ_f u, B_data]
    have hcl : (cutJ u).1.length ≤ 140737488355328 := by
      unfold cutJ
      split
      · rw [List.length_drop]; omega
      · exact hul
    generalize cutJ u = c at hcl ⊢
    simp only [Option.bind_some]
    unfold pack_Read.f
    simp only [Option.bind_some]
    have h1 := Nat.le_trans (nx_le (c.1, 0)) hcl
    have h2 := Nat.le_trans (nx_le (nx (c.1, 0)).2) h1
    rw [rnx_k (c.1, 0) 60 (by decide) hcl]
    simp only [Option.bind_some]
    rw [rnx_k (nx (c.1, 0)).2 60 (by decide) h1]
    simp only [Option.bind_some]
    have hl := recS_locs c.1
    unfold recS at hl ⊢
    generalize (nx (c.1, 0)).1 = q at hl ⊢
    generalize nx (nx (c.1, 0)).2 = b at h2 hl ⊢
    obtain ⟨d, s⟩ := b
    simp only at h2 hl ⊢
    have hv := Nat.le_trans (volS_le s) h2
    unfold recK at hl ⊢
    have ht := Nat.le_trans (tx_le (volS s).2) hv
    have hn := Nat.le_trans (nx_le (tx (volS s).2).2) ht
    have hm1 := Nat.le_trans (nx_le (volS s).2) hv
    by_cases h1 : d = 1
    · rw [if_pos (show (d : Int) = 1 by omega)]
      rw [if_pos h1] at hl ⊢
      rw [rtx_k s 60 (by decide) h2]
      exact read_fin c.2 _ hl
    · rw [if_neg (show ¬ (d : Int) = 1 by omega)]
      rw [if_neg h1] at hl ⊢
      by_cases h0 : d = 0
      · rw [if_pos (show (d : Int) = 0 by omega)]
        rw [if_pos h0] at hl ⊢
        rw [volS_f s 60 (by decide) h2]
        simp only [Option.bind_some]
        rw [rtx_k (volS s).2 60 (by decide) hv]
        simp only [Option.bind_some]
        rw [rnx_k (tx (volS s).2).2 60 (by decide) ht]
        simp only [Option.bind_some]
        rw [rnx_k (nx (tx (volS s).2).2).2 60 (by decide) hn]
        simp only [Option.bind_some]
        rw [rst_f (nx (nx (tx (volS s).2).2).2).2]
        exact read_fin c.2 _ hl
      · rw [if_neg (show ¬ (d : Int) = 0 by omega)]
        rw [if_neg h0] at hl ⊢
        by_cases h2' : d = 2
        · rw [if_pos (show (d : Int) = 2 by omega)]
          rw [if_pos h2'] at hl ⊢
          rw [volS_f s 60 (by decide) h2]
          exact read_fin c.2 _ hl
        · rw [if_neg (show ¬ (d : Int) = 2 by omega)]
          rw [if_neg h2'] at hl ⊢
          by_cases h3 : d = 3
          · rw [if_pos (show (d : Int) = 3 by omega)]
            rw [if_pos h3] at hl ⊢
            rw [volS_f s 60 (by decide) h2]
            simp only [Option.bind_some]
            rw [rnx_k (volS s).2 60 (by decide) hv]
            simp only [Option.bind_some]
            rw [rnx_k (nx (volS s).2).2 60 (by decide) hm1]
            exact read_fin c.2 _ hl
          · rw [if_neg (show ¬ (d : Int) = 3 by omega)]
            rw [if_neg h3] at hl ⊢
            exact read_fin c.2 _ hl
  · rw [if_neg ho, if_neg ho]
    rfl
end Go.Proofs.Ytkceobahefjlnaa
end
section
/- The plain laws of records: what is written is read as it was; what is read was written. -/
namespace Go.Proofs.Ytkceobahefjlnaa
open Go.RowKit Q Go.Proofs.YtkceobahefjlnaaW.PrintWords Go.Proofs.YtkceobahefjlnaaW.PrintLast
set_option linter.unusedSimpArgs false
theorem enc2K (a b : Nat) : encK [a, b] 2 = enc a ++ enc b := by simp [encK]
theorem enc3K (a b c : Nat) : encK [a, b, c] 3 = enc a ++ enc b ++ enc c := by simp [encK]
def locsC : List S67 → List UInt8
  | [] => []
  | x :: r => enc x.f0.toNat ++ (enc x.f1.toNat ++ locsC r)
theorem locsC_append : ∀ a b : List S67, locsC (a ++ b) = locsC a ++ locsC b
  | [], _ => rfl
  | x :: r, b => by
    show enc x.f0.toNat ++ (enc x.f1.toNat ++ locsC (r ++ b)) = _
    rw [locsC_append r b]
    simp [locsC]
theorem locsT_C (l : List S67) : ∀ k : Nat, k ≤ l.length → locsT l k = locsC (l.take k)
  | 0, _ => rfl
  | k + 1, h => by
    have hk : k < l.length := h
    rw [locsT, locsT_C l k (by omega), List.take_add_one, List.getElem?_eq_getElem hk, locsC_append, enc2K]
    have : rd_T67 l k = l[k] := by
      unfold rd_T67
      simp [List.getD, List.getElem?_eq_getElem hk]
    rw [this]
    simp [locsC]
theorem locsT_all (l : List S67) : locsT l l.length = locsC l := by rw [locsT_C l _ (Nat.le_refl _), List.take_of_length_le (Nat.le_refl _)]
theorem locsN_back (r : List UInt8) : ∀ l : List S67, (∀ x ∈ l, (0 ≤ x.f0 ∧ x.f0 ≤ 11) ∧ (0 ≤ x.f1 ∧ x.f1 ≤ 47)) → locsN l.length (locsC l ++ r, 0) = (l, r, 0)
  | [], _ => rfl
  | x :: t, h => by
    have hx := h x (List.mem_cons_self ..)
    have ih := locsN_back r t (fun y hy => h y (List.mem_cons_of_mem _ hy))
    have e1 := nx_enc x.f0.toNat (enc x.f1.toNat ++ (locsC t ++ r)) (by omega)
    have e2 := nx_enc x.f1.toNat (locsC t ++ r) (by omega)
    have e0 : locsC (x :: t) ++ r = enc x.f0.toNat ++ (enc x.f1.toNat ++ (locsC t ++ r)) := by simp [locsC]
    show (⟨((nx (locsC (x :: t) ++ r, 0)).1 : Int), ((nx (nx (locsC (x :: t) ++ r, 0)).2).1 : Int)⟩ :: (locsN t.length (nx (nx (locsC (x :: t) ++ r, 0)).2).2).1, (locsN t.length (nx (nx (locsC (x :: t) ++ r, 0)).2).2).2) = _
    rw [e0, e1]
    simp only
    rw [e2]
    simp only
    rw [ih]
    simp only
    rw [Int.toNat_of_nonneg hx.1.1, Int.toNat_of_nonneg hx.2.1]
theorem locsN_inv : ∀ (n : Nat) (s : List UInt8 × Int), (locsN n s).2.2 = 0 → s.2 = 0 ∧ s.1 = locsC (locsN n s).1 ++ (locsN n s).2.1
  | 0, s, h => ⟨h, rfl⟩
  | n + 1, s, h => by
    obtain ⟨h1, e1⟩ := locsN_inv n (nx (nx s).2).2 h
    obtain ⟨h2, e2⟩ := nx_inv (nx s).2 h1
    obtain ⟨h3, e3⟩ := nx_inv s h2
    refine ⟨h3, ?_⟩
    rw [e3, e2, e1]
    show _ = locsC (⟨((nx s).1 : Int), ((nx (nx s).2).1 : Int)⟩ :: (locsN n (nx (nx s).2).2).1) ++ (locsN n (nx (nx s).2).2).2.1
    simp [locsC]
theorem tx_txt (s r : List UInt8) (h : s.length < 2 ^ 56) : tx (txt s ++ r, 0) = (s, r, 0) := by
  unfold tx
  simp only [if_true]
  exact tkT_txt s r h
theorem tx_inv2 (s : List UInt8 × Int) (h : (tx s).2.2 = 0) : s.2 = 0 ∧ s.1 = txt (tx s).1 ++ (tx s).2.1 := by
  unfold tx at h ⊢
  by_cases hs : s.2 = 0
  · rw [if_pos hs] at h ⊢
    exact ⟨hs, (tkT_inv (l := s.1) (s := (tkT s.1).1) (r := (tkT s.1).2.1) (by rw [← h])).1⟩
  · rw [if_neg hs] at h
    exact absurd h hs
theorem volS_back {i g n : Int} {l : List S67} (h : VolOk i g n l) (r : List UInt8) : volS (enc i.toNat ++ (enc g.toNat ++ (enc n.toNat ++ (locsC l ++ r))), 0) = ((i, g, n, l), r, 0) := by
  have hi := h.i
  have hg := h.g
  have hn := h.n
  have e1 := nx_enc i.toNat (enc g.toNat ++ (enc n.toNat ++ (locsC l ++ r))) (by omega)
  have e2 := nx_enc g.toNat (enc n.toNat ++ (locsC l ++ r)) (by omega)
  have e3 := nx_enc n.toNat (locsC l ++ r) (by omega)
  have e4 := locsN_back r l (by
    intro x hx
    obtain ⟨k, hk, rfl⟩ := List.getElem_of_mem hx
    have := h.locs k (by have := h.nine; omega)
    have hr : rd_T67 l k = l[k] := by
      unfold rd_T67
      simp [List.getD, List.getElem?_eq_getElem hk]
    rw [hr] at this
    exact this)
  rw [h.nine] at e4
  unfold volS
  rw [e1]
  simp only
  rw [e2]
  simp only
  rw [e3]
  simp only
  rw [e4]
  simp only
  rw [Int.toNat_of_nonneg hi.1, Int.toNat_of_nonneg hg.1, Int.toNat_of_nonneg hn.1]
theorem volS_inv (s : List UInt8 × Int) (h : (volS s).2.2 = 0) : s.2 = 0 ∧ s.1 = enc (volS s).1.1.toNat ++ (enc (volS s).1.2.1.toNat ++ (enc (volS s).1.2.2.1.toNat ++ (locsC (volS s).1.2.2.2 ++ (volS s).2.1))) := by
  obtain ⟨h1, e1⟩ := locsN_inv 9 (nx (nx (nx s).2).2).2 h
  obtain ⟨h2, e2⟩ := nx_inv _ h1
  obtain ⟨h3, e3⟩ := nx_inv _ h2
  obtain ⟨h4, e4⟩ := nx_inv _ h3
  refine ⟨h4, ?_⟩
  rw [e4, e3, e2, e1]
  rfl
theorem end_inv {s : List UInt8 × Int} (h : endE s = 0) : s.1 = [] ∧ s.2 = 0 := by
  unfold endE at h
  by_cases hs : s.1 = []
  · rw [if_pos hs] at h
    exact ⟨hs, h⟩
  · rw [if_neg hs] at h
    cases h
theorem rst_inv (s : List UInt8 × Int) (h : (rst s).2.2 = 0) : s.2 = 0 ∧ s.1 = (rst s).1 := by
  unfold rst at h ⊢
  by_cases hs : s.2 = 0
  · rw [if_pos hs]
    exact ⟨hs, rfl⟩
  · rw [if_neg hs] at h
    exact absurd h hs
/-! Back, and the other way. -/
theorem back_0 (q0 q2 q3 q4 : Int) (l : List S67) (q6 : ByteArray) (q7 q8 q9 : Int) (q10 q11 : ByteArray) (q12 q13 : Int) (h : chkR (⟨q0, 0, q2, q3, q4, l, q6, q7, q8, q9, q10, q11, q12, q13⟩ : RecP) = 0) : recT (⟨q0, 0, q2, q3, q4, l, q6, q7, q8, q9, q10, q11, q12, q13⟩ : RecP) = [83, 74] ++ (enc q0.toNat ++ (enc 0 ++ (enc q2.toNat ++ (enc q3.toNat ++ (enc q4.toNat ++ (locsC l ++ (txt q6.data.toList ++ (enc q8.toNat ++ (enc q9.toNat ++ q10.data.toList))))))))) ∧ recS (enc q0.toNat ++ (enc 0 ++ (enc q2.toNat ++ (enc q3.toNat ++ (enc q4.toNat ++ (locsC l ++ (txt q6.data.toList ++ (enc q8.toNat ++ (enc q9.toNat ++ q10.data.toList))))))))) = ((⟨q0, 0, q2, q3, q4, l, q6, q7, q8, q9, q10, q11, q12, q13⟩ : RecP), [], 0) := by
  obtain ⟨h0, hv, hk, h7, h8, h9, h10, hn⟩ := chk0_0 q0 q2 q3 q4 l q6 q7 q8 q9 q10 q11 q12 q13 h
  refine ⟨?_, ?_⟩
  · simp [recT, headT, volT, enc2K, enc3K, locsT_all]
  unfold recS
  rw [nx_enc _ _ (by omega)]
  simp only
  rw [nx_enc _ _ (by decide)]
  simp only
  unfold recK
  rw [if_neg (by decide), if_pos rfl]
  rw [volS_back hv]
  simp only
  rw [tx_txt _ _ (by have := (key_ok hk).1; omega)]
  simp only
  have hvn := hv.n
  rw [nx_enc _ _ (by omega)]
  simp only
  rw [nx_enc _ _ (by omega)]
  simp only [rst, if_true]
  rw [← hn]
  simp [namedP, B_eta, Int.toNat_of_nonneg h0.1, Int.toNat_of_nonneg h8.1, Int.toNat_of_nonneg h9.1, h7]
theorem back_1 (q0 q2 q3 q4 : Int) (l : List S67) (q6 : ByteArray) (q7 q8 q9 : Int) (q10 q11 : ByteArray) (q12 q13 : Int) (h : chkR (⟨q0, 1, q2, q3, q4, l, q6, q7, q8, q9, q10, q11, q12, q13⟩ : RecP) = 0) : recT (⟨q0, 1, q2, q3, q4, l, q6, q7, q8, q9, q10, q11, q12, q13⟩ : RecP) = [83, 74] ++ (enc q0.toNat ++ (enc 1 ++ (txt q11.data.toList ++ []))) ∧ recS (enc q0.toNat ++ (enc 1 ++ (txt q11.data.toList ++ []))) = ((⟨q0, 1, q2, q3, q4, l, q6, q7, q8, q9, q10, q11, q12, q13⟩ : RecP), [], 0) := by
  obtain ⟨h0, hk, hn⟩ := chk0_1 q0 q2 q3 q4 l q6 q7 q8 q9 q10 q11 q12 q13 h
  refine ⟨?_, ?_⟩
  · simp [recT, headT, volT, enc2K, enc3K, locsT_all]
  unfold recS
  rw [nx_enc _ _ (by omega)]
  simp only
  rw [nx_enc _ _ (by decide)]
  simp only
  unfold recK
  rw [if_pos rfl]
  rw [tx_txt _ _ (by have := (key_ok hk).1; omega)]
  simp only
  rw [← hn]
  simp [namedP, B_eta, Int.toNat_of_nonneg h0.1]
theorem back_2 (q0 q2 q3 q4 : Int) (l : List S67) (q6 : ByteArray) (q7 q8 q9 : Int) (q10 q11 : ByteArray) (q12 q13 : Int) (h : chkR (⟨q0, 2, q2, q3, q4, l, q6, q7, q8, q9, q10, q11, q12, q13⟩ : RecP) = 0) : recT (⟨q0, 2, q2, q3, q4, l, q6, q7, q8, q9, q10, q11, q12, q13⟩ : RecP) = [83, 74] ++ (enc q0.toNat ++ (enc 2 ++ (enc q2.toNat ++ (enc q3.toNat ++ (enc q4.toNat ++ (locsC l ++ ([]))))))) ∧ recS (enc q0.toNat ++ (enc 2 ++ (enc q2.toNat ++ (enc q3.toNat ++ (enc q4.toNat ++ (locsC l ++ ([]))))))) = ((⟨q0, 2, q2, q3, q4, l, q6, q7, q8, q9, q10, q11, q12, q13⟩ : RecP), [], 0) := by
  obtain ⟨h0, hv, hn⟩ := chk0_2 q0 q2 q3 q4 l q6 q7 q8 q9 q10 q11 q12 q13 h
  refine ⟨?_, ?_⟩
  · simp [recT, headT, volT, enc2K, enc3K, locsT_all]
  unfold recS
  rw [nx_enc _ _ (by omega)]
  simp only
  rw [nx_enc _ _ (by decide)]
  simp only
  unfold recK
  rw [if_neg (by decide), if_neg (by decide), if_pos rfl]
  rw [volS_back hv]
  rw [← hn]
  simp [namedP, Int.toNat_of_nonneg h0.1]
theorem back_3 (q0 q2 q3 q4 : Int) (l : List S67) (q6 : ByteArray) (q7 q8 q9 : Int) (q10 q11 : ByteArray) (q12 q13 : Int) (h : chkR (⟨q0, 3, q2, q3, q4, l, q6, q7, q8, q9, q10, q11, q12, q13⟩ : RecP) = 0) : recT (⟨q0, 3, q2, q3, q4, l, q6, q7, q8, q9, q10, q11, q12, q13⟩ : RecP) = [83, 74] ++ (enc q0.toNat ++ (enc 3 ++ (enc q2.toNat ++ (enc q3.toNat ++ (enc q4.toNat ++ (locsC l ++ (enc q12.toNat ++ (enc q13.toNat ++ [])))))))) ∧ recS (enc q0.toNat ++ (enc 3 ++ (enc q2.toNat ++ (enc q3.toNat ++ (enc q4.toNat ++ (locsC l ++ (enc q12.toNat ++ (enc q13.toNat ++ [])))))))) = ((⟨q0, 3, q2, q3, q4, l, q6, q7, q8, q9, q10, q11, q12, q13⟩ : RecP), [], 0) := by
  obtain ⟨h0, hv, hf, ht, _, hn⟩ := chk0_3 q0 q2 q3 q4 l q6 q7 q8 q9 q10 q11 q12 q13 h
  refine ⟨?_, ?_⟩
  · simp [recT, headT, volT, enc2K, enc3K, locsT_all]
  unfold recS
  rw [nx_enc _ _ (by omega)]
  simp only
  rw [nx_enc _ _ (by decide)]
  simp only
  unfold recK
  rw [if_neg (by decide), if_neg (by decide), if_neg (by decide), if_pos rfl]
  rw [volS_back hv]
  simp only
  rw [nx_enc _ _ (by omega)]
  simp only
  rw [nx_enc _ _ (by omega)]
  rw [← hn]
  simp [namedP, Int.toNat_of_nonneg h0.1, Int.toNat_of_nonneg hf.1, Int.toNat_of_nonneg ht.1]
theorem recS_back (r : RecP) (h : chkR r = 0) : ∃ p, recT r = [83, 74] ++ p ∧ recS p = (r, [], 0) := by
  have hk := kind_chk r h
  obtain ⟨q0, q1, q2, q3, q4, l, q6, q7, q8, q9, q10, q11, q12, q13⟩ := r
  rcases hk with e | e | e | e
  · change q1 = 0 at e; subst e; exact ⟨_, back_0 q0 q2 q3 q4 l q6 q7 q8 q9 q10 q11 q12 q13 h⟩
  · change q1 = 1 at e; subst e; exact ⟨_, back_1 q0 q2 q3 q4 l q6 q7 q8 q9 q10 q11 q12 q13 h⟩
  · change q1 = 2 at e; subst e; exact ⟨_, back_2 q0 q2 q3 q4 l q6 q7 q8 q9 q10 q11 q12 q13 h⟩
  · change q1 = 3 at e; subst e; exact ⟨_, back_3 q0 q2 q3 q4 l q6 q7 q8 q9 q10 q11 q12 q13 h⟩
theorem cutJ_SJ (p : List UInt8) : cutJ ([83, 74] ++ p) = (p, true) := by
  unfold cutJ
  rw [if_pos (by simp)]
  rfl
theorem recR_back (r : RecP) (h : chkR r = 0) : recR (sealL (recT r)) = (r, 0) := by
  obtain ⟨p, hp, hs⟩ := recS_back r h
  have hu : openL (sealL (recT r)) = (B (recT r), 0) := openL_seal _
  have hc : cutJ (openL (sealL (recT r))).1.data.toList = (p, true) := by
    rw [hu]
    show cutJ (recT r) = _
    rw [hp, cutJ_SJ]
  unfold recR
  rw [if_pos (show (openL (sealL (recT r))).2 = 0 by rw [hu])]
  rw [if_pos (show _ ∧ _ ∧ _ from ⟨by rw [hc], by rw [hc]; simp only; rw [hs]; rfl, by rw [hc]; simp only; rw [hs]; exact h⟩), hc]
  simp only
  rw [hs]
def recK0 (q : Nat) (s : List UInt8 × Int) : RecP × List UInt8 × Int := (⟨q, (0 : Nat), (volS s).1.1, (volS s).1.2.1, (volS s).1.2.2.1, (volS s).1.2.2.2, B (tx (volS s).2).1, (volS s).1.1, (nx (tx (volS s).2).2).1, (nx (nx (tx (volS s).2).2).2).1, B (rst (nx (nx (tx (volS s).2).2).2).2).1, ⟨#[]⟩, 0, 0⟩, (rst (nx (nx (tx (volS s).2).2).2).2).2)
theorem recK_0 (q : Nat) (s : List UInt8 × Int) : recK q 0 s = recK0 q s := by
  unfold recK
  rw [if_neg (by decide), if_pos rfl]
  rfl
theorem recK_1 (q : Nat) (s : List UInt8 × Int) : recK q 1 s = (⟨q, (1 : Nat), 0, 0, 0, [], ⟨#[]⟩, 0, 0, 0, ⟨#[]⟩, B (tx s).1, 0, 0⟩, (tx s).2) := by
  unfold recK
  rw [if_pos rfl]
theorem recK_2 (q : Nat) (s : List UInt8 × Int) : recK q 2 s = (⟨q, (2 : Nat), (volS s).1.1, (volS s).1.2.1, (volS s).1.2.2.1, (volS s).1.2.2.2, ⟨#[]⟩, 0, 0, 0, ⟨#[]⟩, ⟨#[]⟩, 0, 0⟩, (volS s).2) := by
  unfold recK
  rw [if_neg (by decide), if_neg (by decide), if_pos rfl]
theorem recK_3 (q : Nat) (s : List UInt8 × Int) : recK q 3 s = (⟨q, (3 : Nat), (volS s).1.1, (volS s).1.2.1, (volS s).1.2.2.1, (volS s).1.2.2.2, ⟨#[]⟩, 0, 0, 0, ⟨#[]⟩, ⟨#[]⟩, (nx (volS s).2).1, (nx (nx (volS s).2).2).1⟩, (nx (nx (volS s).2).2).2) := by
  unfold recK
  rw [if_neg (by decide), if_neg (by decide), if_neg (by decide), if_pos rfl]
theorem recK_inv (q d : Nat) (s : List UInt8 × Int) (he : endE (recK q d s).2 = 0) (hd : (recK q d s).1.kind = d) (hc : chkR (recK q d s).1 = 0) : s.2 = 0 ∧ recT (recK q d s).1 = [83, 74] ++ (enc q ++ (enc d ++ s.1)) := by
  have hk := kind_chk _ hc
  rw [hd] at hk
  obtain ⟨e1, e2⟩ := end_inv he
  clear hd
  have hz : d = 0 ∨ d = 1 ∨ d = 2 ∨ d = 3 := by omega
  clear hk
  clear he hc
  rcases hz with rfl | rfl | rfl | rfl
  · rw [recK_0] at e1 e2 ⊢
    obtain ⟨a5, b5⟩ := rst_inv (nx (nx (tx (volS s).2).2).2).2 e2
    obtain ⟨a4, b4⟩ := nx_inv (nx (tx (volS s).2).2).2 a5
    obtain ⟨a3, b3⟩ := nx_inv (tx (volS s).2).2 a4
    obtain ⟨a2, b2⟩ := tx_inv2 (volS s).2 a3
    obtain ⟨a1, b1⟩ := volS_inv s a2
    refine ⟨a1, ?_⟩
    rw [b1, b2, b3, b4, b5]
    clear a1 a2 a3 a4 a5 b1 b2 b3 b4 b5 e1 e2
    unfold recK0
    simp only [recT, headT, volT, enc2K, enc3K, locsT_all, B_data, Int.toNat_natCast]
    rw [if_neg (by decide), if_pos (by decide)]
    simp only [List.append_assoc]
  · rw [recK_1] at e1 e2 ⊢
    obtain ⟨a2, b2⟩ := tx_inv2 s e2
    refine ⟨a2, ?_⟩
    simp only at e1
    rw [b2, e1]
    simp only [recT, headT, volT, enc2K, enc3K, locsT_all, B_data, Int.toNat_natCast]
    rw [if_pos (by decide)]
    simp only [List.append_assoc, List.append_nil]
  · rw [recK_2] at e1 e2 ⊢
    obtain ⟨a1, b1⟩ := volS_inv s e2
    refine ⟨a1, ?_⟩
    simp only at e1
    rw [b1, e1]
    simp only [recT, headT, volT, enc2K, enc3K, locsT_all, B_data, Int.toNat_natCast]
    rw [if_neg (by decide), if_neg (by decide), if_neg (by decide)]
    simp only [List.append_assoc, List.append_nil]
  · rw [recK_3] at e1 e2 ⊢
    obtain ⟨a4, b4⟩ := nx_inv (nx (volS s).2).2 e2
    obtain ⟨a3, b3⟩ := nx_inv (volS s).2 a4
    obtain ⟨a1, b1⟩ := volS_inv s a3
    refine ⟨a1, ?_⟩
    simp only at e1
    rw [b1, b3, b4, e1]
    simp only [recT, headT, volT, enc2K, enc3K, locsT_all, B_data, Int.toNat_natCast]
    rw [if_neg (by decide), if_neg (by decide), if_pos (by decide)]
    simp only [List.append_assoc, List.append_nil]
theorem recS_inv (l : List UInt8) (he : endE (recS l).2 = 0) (hc : chkR (recS l).1 = 0) : recT (recS l).1 = [83, 74] ++ l := by
  have hd : (recS l).1.kind = ((nx (nx (l, 0)).2).1 : Int) := by
    unfold recS recK
    split
    · rfl
    · split
      · rfl
      · split
        · rfl
        · split <;> rfl
  obtain ⟨h1, e1⟩ := recK_inv _ _ _ he hd hc
  obtain ⟨h2, e2⟩ := nx_inv (nx (l, 0)).2 h1
  obtain ⟨_, e3⟩ := nx_inv (l, 0) h2
  have e3' : l = enc (nx (l, 0)).1 ++ (nx (l, 0)).2.1 := e3
  show recT (recK _ _ _).1 = _
  rw [e1, ← e2, ← e3']
theorem recR_inv (m : List UInt8) (h : (recR m).2 = 0) : recR m = ((recR m).1, 0) ∧ m = sealL (recT (recR m).1) ∧ chkR (recR m).1 = 0 := by
  unfold recR at h ⊢
  by_cases ho : (openL m).2 = 0
  · rw [if_pos ho] at h ⊢
    by_cases hc : (cutJ (openL m).1.data.toList).2 = true ∧ endE (recS (cutJ (openL m).1.data.toList).1).2 = 0 ∧ chkR (recS (cutJ (openL m).1.data.toList).1).1 = 0
    · rw [if_pos hc]
      refine ⟨rfl, ?_, hc.2.2⟩
      have hi := recS_inv _ hc.2.1 hc.2.2
      simp only
      rw [hi]
      rcases openL_cases m with ⟨_, e⟩ | ⟨_, _, e⟩ | ⟨u, hu, e⟩
      · rw [e] at ho; cases ho
      · rw [e] at ho; cases ho
      · have hc1 := hc.1
        rw [e] at hc1 ⊢
        simp only [B_data] at hc1 ⊢
        rw [hu]
        congr 1
        unfold cutJ at hc1 ⊢
        by_cases h2 : u.take 2 = [83, 74]
        · rw [if_pos h2]
          simp only
          rw [← h2, List.take_append_drop]
        · rw [if_neg h2] at hc1
          cases hc1
    · rw [if_neg hc] at h
      cases h
  · rw [if_neg ho] at h
    exact absurd h ho
end Go.Proofs.Ytkceobahefjlnaa
end
section
/- record.Read, in the form that the walks by hand take. -/
namespace Go.Proofs.Ytkceobahefjlnaa
open Go.RowKit Q Go.Proofs.YtkceobahefjlnaaW.PrintWords Go.Proofs.YtkceobahefjlnaaW.PrintLast Go.Proofs.YtkceobahefjlnaaW.PrintMore
theorem recread_calls (m : List UInt8) (hm : m.length ≤ 140737488355328) (w : World) : Calls Try.prog 19 #[.string (B m)] w fun e w' => ∃ (A : Option Addr) (c : Nat), e = .returned (.tuple #[.agg #[.int .i64 (recR m).1.seq, .int .i64 (recR m).1.kind, .int .i64 (recR m).1.id, .int .i64 (recR m).1.gen, .int .i64 (recR m).1.len, .slice A (recR m).1.locs.length c, .string (recR m).1.ekey, .int .i64 (recR m).1.evol, .int .i64 (recR m).1.eoff, .int .i64 (recR m).1.elen, .string (recR m).1.dig, .string (recR m).1.key, .int .i64 (recR m).1.frm, .int .i64 (recR m).1.til], .int .i64 (recR m).2]) ∧ Kd.C k67 w' A (recR m).1.locs.length (recR m).1.locs ∧ (recR m).1.locs.length ≤ c ∧ Below w.heap.size w w' := by
  refine (record_Read.calls 60 (B m) _ _ _ _ _ _ _ _ _ _ _ _ _ _ _ w (recread_f m hm)).mono ?_
  rintro e w' ⟨v, rfl, hR, hB⟩
  obtain ⟨A, c, rfl⟩ := Kd.R_slice hR
  have h2 := Kd.R_reads' hR
  exact ⟨A, c, rfl, h2.2.2, h2.2.1, hB⟩
end Go.Proofs.Ytkceobahefjlnaa
end
