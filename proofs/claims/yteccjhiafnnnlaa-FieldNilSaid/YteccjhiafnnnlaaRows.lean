/-
  No cell of these rows narrows 'for every input' (looked for: loops, veiled, ifaces, maps, wideKeys, modest, calm, conditions, laid).
  DERIVED. THE GIVEN ROWS OF THIS SEAT. 7 by the template 'for every input the law returns true; each argument reads behind the call as it read before'; 0 by the template 'total and deterministic' (their statements: YteccjhiafnnnlaaTotals.lean).
  GIVEN WITH THE SEED: the statements are not yours to turn. If you find one false, say at which input.
  Laid BY PROGRAM, IN A SANDBOX (cutbox-rows.mjs): the forced cells as the released guide's own fill.sh prints them over the translation 27ed543b5deae3c8… (all of the seat's roots in one cut). By AI agents, Wed Nov 11 2026. No macro, syntax, notation, axiom, sorry.
-/
import Derived.Test.YteccjhiafnnnlaaChecked
import GoSem.Claim
import GoSem.ClaimJoined
import GoSem.ClaimMapViews
import Derived.JoinedTies
import Derived.KernelRfl
namespace Go.Proofs.Yteccjhiafnnnlaa
/- THE CELL 'sum', in the pinned program and in every row, IS THE sha256 OF THE DUMP (.gsa) THAT YteccjhiafnnnlaaProg.lean LOADS. Nothing in Lean hashes anything: it is a label: what it is worth is what the hold of that sum in a sandbox is worth. -/
noncomputable def Try.pinned : Pinned := { name := "yteccjhiafnnnlaa", sum := "27ed543b5deae3c86e72b6c297267a225cf73f5ce24048f33abbe998d7d078de", checked := Try.checked }
namespace Rows
def none {H : Type} : Left H := { results := [], args := [] }

/-- 'sluicegatelaw01.FieldTimes': WHATEVER THE INPUT: true; the input reads as it did. -/
def fieldTimesSpec : ChangeSpec := { name := "fieldTimes", fn := fun _ => fun
  | [d1, d2] => { results := [.lit (.bool true)], args := [d1, d2] }
  | _ => none }
def fieldTimesRow : OpenClaim := { program := "yteccjhiafnnnlaa", sum := "27ed543b5deae3c86e72b6c297267a225cf73f5ce24048f33abbe998d7d078de", func := "sluicegate/sluicegatelaw01.FieldTimes", spec := "fieldTimes", apart := false }
def FieldTimesSaid : Prop := fieldTimesRow.holds Try.pinned (OpenSpec.ofChange fieldTimesSpec)

/-- ITS FALSE NEIGHBOUR: 'it returns false'. Refute it at one input. -/
def fieldTimesWrong : ChangeSpec := { name := "fieldTimes", fn := fun _ => fun
  | [d1, d2] => { results := [.lit (.bool false)], args := [d1, d2] }
  | _ => none }
def FieldTimesWrongFalsely : Prop := fieldTimesRow.holds Try.pinned (OpenSpec.ofChange fieldTimesWrong)

/-- 'sluicegatelaw01.FieldPowers': WHATEVER THE INPUT: true; the input reads as it did. -/
def fieldPowersSpec : ChangeSpec := { name := "fieldPowers", fn := fun _ => fun
  | [d1, d2] => { results := [.lit (.bool true)], args := [d1, d2] }
  | _ => none }
def fieldPowersRow : OpenClaim := { program := "yteccjhiafnnnlaa", sum := "27ed543b5deae3c86e72b6c297267a225cf73f5ce24048f33abbe998d7d078de", func := "sluicegate/sluicegatelaw01.FieldPowers", spec := "fieldPowers", apart := false }
def FieldPowersSaid : Prop := fieldPowersRow.holds Try.pinned (OpenSpec.ofChange fieldPowersSpec)

/-- ITS FALSE NEIGHBOUR: 'it returns false'. Refute it at one input. -/
def fieldPowersWrong : ChangeSpec := { name := "fieldPowers", fn := fun _ => fun
  | [d1, d2] => { results := [.lit (.bool false)], args := [d1, d2] }
  | _ => none }
def FieldPowersWrongFalsely : Prop := fieldPowersRow.holds Try.pinned (OpenSpec.ofChange fieldPowersWrong)

/-- 'sluicegatelaw01.FieldRules': WHATEVER THE INPUT: true; the input reads as it did. -/
def fieldRulesSpec : ChangeSpec := { name := "fieldRules", fn := fun _ => fun
  | [d1, d2, d3] => { results := [.lit (.bool true)], args := [d1, d2, d3] }
  | _ => none }
def fieldRulesRow : OpenClaim := { program := "yteccjhiafnnnlaa", sum := "27ed543b5deae3c86e72b6c297267a225cf73f5ce24048f33abbe998d7d078de", func := "sluicegate/sluicegatelaw01.FieldRules", spec := "fieldRules", apart := false }
def FieldRulesSaid : Prop := fieldRulesRow.holds Try.pinned (OpenSpec.ofChange fieldRulesSpec)

/-- ITS FALSE NEIGHBOUR: 'it returns false'. Refute it at one input. -/
def fieldRulesWrong : ChangeSpec := { name := "fieldRules", fn := fun _ => fun
  | [d1, d2, d3] => { results := [.lit (.bool false)], args := [d1, d2, d3] }
  | _ => none }
def FieldRulesWrongFalsely : Prop := fieldRulesRow.holds Try.pinned (OpenSpec.ofChange fieldRulesWrong)

/-- 'sluicegatelaw01.FieldBack': WHATEVER THE INPUT: true; the input reads as it did. -/
def fieldBackSpec : ChangeSpec := { name := "fieldBack", fn := fun _ => fun
  | [d1, d2] => { results := [.lit (.bool true)], args := [d1, d2] }
  | _ => none }
def fieldBackRow : OpenClaim := { program := "yteccjhiafnnnlaa", sum := "27ed543b5deae3c86e72b6c297267a225cf73f5ce24048f33abbe998d7d078de", func := "sluicegate/sluicegatelaw01.FieldBack", spec := "fieldBack", apart := false }
def FieldBackSaid : Prop := fieldBackRow.holds Try.pinned (OpenSpec.ofChange fieldBackSpec)

/-- ITS FALSE NEIGHBOUR: 'it returns false'. Refute it at one input. -/
def fieldBackWrong : ChangeSpec := { name := "fieldBack", fn := fun _ => fun
  | [d1, d2] => { results := [.lit (.bool false)], args := [d1, d2] }
  | _ => none }
def FieldBackWrongFalsely : Prop := fieldBackRow.holds Try.pinned (OpenSpec.ofChange fieldBackWrong)

/-- 'sluicegatelaw01.FieldAdds': WHATEVER THE INPUT: true; the input reads as it did. -/
def fieldAddsSpec : ChangeSpec := { name := "fieldAdds", fn := fun _ => fun
  | [d1, d2] => { results := [.lit (.bool true)], args := [d1, d2] }
  | _ => none }
def fieldAddsRow : OpenClaim := { program := "yteccjhiafnnnlaa", sum := "27ed543b5deae3c86e72b6c297267a225cf73f5ce24048f33abbe998d7d078de", func := "sluicegate/sluicegatelaw01.FieldAdds", spec := "fieldAdds", apart := false }
def FieldAddsSaid : Prop := fieldAddsRow.holds Try.pinned (OpenSpec.ofChange fieldAddsSpec)

/-- ITS FALSE NEIGHBOUR: 'it returns false'. Refute it at one input. -/
def fieldAddsWrong : ChangeSpec := { name := "fieldAdds", fn := fun _ => fun
  | [d1, d2] => { results := [.lit (.bool false)], args := [d1, d2] }
  | _ => none }
def FieldAddsWrongFalsely : Prop := fieldAddsRow.holds Try.pinned (OpenSpec.ofChange fieldAddsWrong)

/-- 'sluicegatelaw01.FieldNil': WHATEVER THE INPUT: true; the input reads as it did. -/
def fieldNilSpec : ChangeSpec := { name := "fieldNil", fn := fun _ => fun
  | [d1, d2, d3] => { results := [.lit (.bool true)], args := [d1, d2, d3] }
  | _ => none }
def fieldNilRow : OpenClaim := { program := "yteccjhiafnnnlaa", sum := "27ed543b5deae3c86e72b6c297267a225cf73f5ce24048f33abbe998d7d078de", func := "sluicegate/sluicegatelaw01.FieldNil", spec := "fieldNil", apart := false }
def FieldNilSaid : Prop := fieldNilRow.holds Try.pinned (OpenSpec.ofChange fieldNilSpec)

/-- ITS FALSE NEIGHBOUR: 'it returns false'. Refute it at one input. -/
def fieldNilWrong : ChangeSpec := { name := "fieldNil", fn := fun _ => fun
  | [d1, d2, d3] => { results := [.lit (.bool false)], args := [d1, d2, d3] }
  | _ => none }
def FieldNilWrongFalsely : Prop := fieldNilRow.holds Try.pinned (OpenSpec.ofChange fieldNilWrong)

/-- 'sluicegatelaw01.FieldEach': WHATEVER THE INPUT: true; the input reads as it did. -/
def fieldEachSpec : ChangeSpec := { name := "fieldEach", fn := fun _ => fun
  | [d] => { results := [.lit (.bool true)], args := [d] }
  | _ => none }
def fieldEachRow : OpenClaim := { program := "yteccjhiafnnnlaa", sum := "27ed543b5deae3c86e72b6c297267a225cf73f5ce24048f33abbe998d7d078de", func := "sluicegate/sluicegatelaw01.FieldEach", spec := "fieldEach", apart := false }
def FieldEachSaid : Prop := fieldEachRow.holds Try.pinned (OpenSpec.ofChange fieldEachSpec)

/-- ITS FALSE NEIGHBOUR: 'it returns false'. Refute it at one input. -/
def fieldEachWrong : ChangeSpec := { name := "fieldEach", fn := fun _ => fun
  | [d] => { results := [.lit (.bool false)], args := [d] }
  | _ => none }
def FieldEachWrongFalsely : Prop := fieldEachRow.holds Try.pinned (OpenSpec.ofChange fieldEachWrong)

/- THE SECOND FORM. 'bulk': how many values and letters a reading holds, each counted each time it is reached (what is shared counts as often as it is met; a slice's spare places count too). A statement '..UptoSaid' is the law's where the arguments, and the package variables that the reading takes, are together of bulk at most 1048576: NARROWER than '..Said'. Prove '..Said' where nothing that the law and all that it calls make is longer than what came in: it says more and counts as full. Else prove '..UptoSaid'. A law counts once. -/
mutual
def uptoBulk {H : Type} : DataW H → Nat
  | .lit (.string bytes) => bytes.length + 1
  | .lit _ => 1
  | .nil => 1
  | .ptr d => uptoBulk d + 1
  | .slice elems spare => uptoBulkAll elems + uptoBulkAll spare + 1
  | .agg parts => uptoBulkAll parts + 1
  | .iface _ d => uptoBulk d + 1
  | .map entries => uptoBulkEntries entries + 1
  | .held _ => 1
def uptoBulkAll {H : Type} : List (DataW H) → Nat
  | [] => 0
  | d :: r => uptoBulk d + uptoBulkAll r
def uptoBulkEntries {H : Type} : List (Lit × DataW H) → Nat
  | [] => 0
  | x :: r => uptoBulkEntry x + uptoBulkEntries r
def uptoBulkEntry {H : Type} : Lit × DataW H → Nat
  | (.string bytes, d) => bytes.length + uptoBulk d + 1
  | (_, d) => uptoBulk d + 1
 end
def uptoSmall : (H : Type) → List (DataW H) → Bool := fun _ ds => decide (uptoBulkAll ds ≤ 1048576)
def OpenSpec.upto (s : _root_.Go.ChangeSpec) : _root_.Go.OpenSpec := { _root_.Go.OpenSpec.ofChange s with cond := some uptoSmall }

/-- 'sluicegatelaw01.FieldTimes', WHERE WHAT IT READS IS OF BULK AT MOST 1048576: true; the input reads as it did. -/
def fieldTimesUptoRow : OpenClaim := { program := "yteccjhiafnnnlaa", sum := "27ed543b5deae3c86e72b6c297267a225cf73f5ce24048f33abbe998d7d078de", func := "sluicegate/sluicegatelaw01.FieldTimes", spec := "fieldTimes", apart := false, narrowed := true }
def FieldTimesUptoSaid : Prop := fieldTimesUptoRow.holds Try.pinned (OpenSpec.upto fieldTimesSpec)

/-- 'sluicegatelaw01.FieldPowers', WHERE WHAT IT READS IS OF BULK AT MOST 1048576: true; the input reads as it did. -/
def fieldPowersUptoRow : OpenClaim := { program := "yteccjhiafnnnlaa", sum := "27ed543b5deae3c86e72b6c297267a225cf73f5ce24048f33abbe998d7d078de", func := "sluicegate/sluicegatelaw01.FieldPowers", spec := "fieldPowers", apart := false, narrowed := true }
def FieldPowersUptoSaid : Prop := fieldPowersUptoRow.holds Try.pinned (OpenSpec.upto fieldPowersSpec)

/-- 'sluicegatelaw01.FieldRules', WHERE WHAT IT READS IS OF BULK AT MOST 1048576: true; the input reads as it did. -/
def fieldRulesUptoRow : OpenClaim := { program := "yteccjhiafnnnlaa", sum := "27ed543b5deae3c86e72b6c297267a225cf73f5ce24048f33abbe998d7d078de", func := "sluicegate/sluicegatelaw01.FieldRules", spec := "fieldRules", apart := false, narrowed := true }
def FieldRulesUptoSaid : Prop := fieldRulesUptoRow.holds Try.pinned (OpenSpec.upto fieldRulesSpec)

/-- 'sluicegatelaw01.FieldBack', WHERE WHAT IT READS IS OF BULK AT MOST 1048576: true; the input reads as it did. -/
def fieldBackUptoRow : OpenClaim := { program := "yteccjhiafnnnlaa", sum := "27ed543b5deae3c86e72b6c297267a225cf73f5ce24048f33abbe998d7d078de", func := "sluicegate/sluicegatelaw01.FieldBack", spec := "fieldBack", apart := false, narrowed := true }
def FieldBackUptoSaid : Prop := fieldBackUptoRow.holds Try.pinned (OpenSpec.upto fieldBackSpec)

/-- 'sluicegatelaw01.FieldAdds', WHERE WHAT IT READS IS OF BULK AT MOST 1048576: true; the input reads as it did. -/
def fieldAddsUptoRow : OpenClaim := { program := "yteccjhiafnnnlaa", sum := "27ed543b5deae3c86e72b6c297267a225cf73f5ce24048f33abbe998d7d078de", func := "sluicegate/sluicegatelaw01.FieldAdds", spec := "fieldAdds", apart := false, narrowed := true }
def FieldAddsUptoSaid : Prop := fieldAddsUptoRow.holds Try.pinned (OpenSpec.upto fieldAddsSpec)

/-- 'sluicegatelaw01.FieldNil', WHERE WHAT IT READS IS OF BULK AT MOST 1048576: true; the input reads as it did. -/
def fieldNilUptoRow : OpenClaim := { program := "yteccjhiafnnnlaa", sum := "27ed543b5deae3c86e72b6c297267a225cf73f5ce24048f33abbe998d7d078de", func := "sluicegate/sluicegatelaw01.FieldNil", spec := "fieldNil", apart := false, narrowed := true }
def FieldNilUptoSaid : Prop := fieldNilUptoRow.holds Try.pinned (OpenSpec.upto fieldNilSpec)

/-- 'sluicegatelaw01.FieldEach', WHERE WHAT IT READS IS OF BULK AT MOST 1048576: true; the input reads as it did. -/
def fieldEachUptoRow : OpenClaim := { program := "yteccjhiafnnnlaa", sum := "27ed543b5deae3c86e72b6c297267a225cf73f5ce24048f33abbe998d7d078de", func := "sluicegate/sluicegatelaw01.FieldEach", spec := "fieldEach", apart := false, narrowed := true }
def FieldEachUptoSaid : Prop := fieldEachUptoRow.holds Try.pinned (OpenSpec.upto fieldEachSpec)

end Rows
end Go.Proofs.Yteccjhiafnnnlaa
