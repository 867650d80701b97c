/-
  No cell of these rows narrows 'for every input' (looked for: loops, veiled, ifaces, maps, wideKeys, modest, calm, conditions, laid).
  DERIVED. THE GIVEN ROWS OF THIS SEAT. 6 by the template 'for every input the law returns true; each argument reads behind the call as it read before'; 0 by the template 'total and deterministic' (their statements: YtoejejdolacpgaaTotals.lean).
  GIVEN WITH THE SEED: the statements are not yours to turn. If you find one false, say at which input.
  Laid BY PROGRAM, IN A SANDBOX (cutbox-rows.mjs): the forced cells as the released guide's own fill.sh prints them over the translation 150377dee5213a3b… (all of the seat's roots in one cut). By AI agents, Wed Nov 11 2026. No macro, syntax, notation, axiom, sorry.
-/
import Derived.Test.YtoejejdolacpgaaChecked
import GoSem.Claim
import GoSem.ClaimJoined
import GoSem.ClaimMapViews
import Derived.JoinedTies
import Derived.KernelRfl
namespace Go.Proofs.Ytoejejdolacpgaa
/- THE CELL 'sum', in the pinned program and in every row, IS THE sha256 OF THE DUMP (.gsa) THAT YtoejejdolacpgaaProg.lean LOADS. Nothing in Lean hashes anything: it is a label: what it is worth is what the hold of that sum in a sandbox is worth. -/
noncomputable def Try.pinned : Pinned := { name := "ytoejejdolacpgaa", sum := "150377dee5213a3b6fcbdef9d4e4acac0e5ee72dfe8ad556b795481566d8e9a4", checked := Try.checked }
namespace Rows
def none {H : Type} : Left H := { results := [], args := [] }

/-- 'sluicegatelaw04.CheckTells': WHATEVER THE INPUT: true; the input reads as it did. -/
def checkTellsSpec : ChangeSpec := { name := "checkTells", fn := fun _ => fun
  | [d] => { results := [.lit (.bool true)], args := [d] }
  | _ => none }
def checkTellsRow : OpenClaim := { program := "ytoejejdolacpgaa", sum := "150377dee5213a3b6fcbdef9d4e4acac0e5ee72dfe8ad556b795481566d8e9a4", func := "sluicegate/sluicegatelaw04.CheckTells", spec := "checkTells", unfollowed := true, recurses := true, apart := false }
def CheckTellsSaid : Prop := checkTellsRow.holds Try.pinned (OpenSpec.ofChange checkTellsSpec)

/-- ITS FALSE NEIGHBOUR: 'it returns false'. Refute it at one input. -/
def checkTellsWrong : ChangeSpec := { name := "checkTells", fn := fun _ => fun
  | [d] => { results := [.lit (.bool false)], args := [d] }
  | _ => none }
def CheckTellsWrongFalsely : Prop := checkTellsRow.holds Try.pinned (OpenSpec.ofChange checkTellsWrong)

/-- 'sluicegatelaw04.CheckBack': WHATEVER THE INPUT: true; the input reads as it did. -/
def checkBackSpec : ChangeSpec := { name := "checkBack", fn := fun _ => fun
  | [d1, d2] => { results := [.lit (.bool true)], args := [d1, d2] }
  | _ => none }
def checkBackRow : OpenClaim := { program := "ytoejejdolacpgaa", sum := "150377dee5213a3b6fcbdef9d4e4acac0e5ee72dfe8ad556b795481566d8e9a4", func := "sluicegate/sluicegatelaw04.CheckBack", spec := "checkBack", unfollowed := true, recurses := true, apart := false }
def CheckBackSaid : Prop := checkBackRow.holds Try.pinned (OpenSpec.ofChange checkBackSpec)

/-- ITS FALSE NEIGHBOUR: 'it returns false'. Refute it at one input. -/
def checkBackWrong : ChangeSpec := { name := "checkBack", fn := fun _ => fun
  | [d1, d2] => { results := [.lit (.bool false)], args := [d1, d2] }
  | _ => none }
def CheckBackWrongFalsely : Prop := checkBackRow.holds Try.pinned (OpenSpec.ofChange checkBackWrong)

/-- 'sluicegatelaw04.CheckSeen': WHATEVER THE INPUT: true; the input reads as it did. -/
def checkSeenSpec : ChangeSpec := { name := "checkSeen", fn := fun _ => fun
  | [d1, d2, d3] => { results := [.lit (.bool true)], args := [d1, d2, d3] }
  | _ => none }
def checkSeenRow : OpenClaim := { program := "ytoejejdolacpgaa", sum := "150377dee5213a3b6fcbdef9d4e4acac0e5ee72dfe8ad556b795481566d8e9a4", func := "sluicegate/sluicegatelaw04.CheckSeen", spec := "checkSeen", unfollowed := true, recurses := true, apart := false }
def CheckSeenSaid : Prop := checkSeenRow.holds Try.pinned (OpenSpec.ofChange checkSeenSpec)

/-- ITS FALSE NEIGHBOUR: 'it returns false'. Refute it at one input. -/
def checkSeenWrong : ChangeSpec := { name := "checkSeen", fn := fun _ => fun
  | [d1, d2, d3] => { results := [.lit (.bool false)], args := [d1, d2, d3] }
  | _ => none }
def CheckSeenWrongFalsely : Prop := checkSeenRow.holds Try.pinned (OpenSpec.ofChange checkSeenWrong)

/-- 'sluicegatelaw04.CheckThree': WHATEVER THE INPUT: true; the input reads as it did. -/
def checkThreeSpec : ChangeSpec := { name := "checkThree", fn := fun _ => fun
  | [d1, d2, d3] => { results := [.lit (.bool true)], args := [d1, d2, d3] }
  | _ => none }
def checkThreeRow : OpenClaim := { program := "ytoejejdolacpgaa", sum := "150377dee5213a3b6fcbdef9d4e4acac0e5ee72dfe8ad556b795481566d8e9a4", func := "sluicegate/sluicegatelaw04.CheckThree", spec := "checkThree", unfollowed := true, recurses := true, apart := false }
def CheckThreeSaid : Prop := checkThreeRow.holds Try.pinned (OpenSpec.ofChange checkThreeSpec)

/-- ITS FALSE NEIGHBOUR: 'it returns false'. Refute it at one input. -/
def checkThreeWrong : ChangeSpec := { name := "checkThree", fn := fun _ => fun
  | [d1, d2, d3] => { results := [.lit (.bool false)], args := [d1, d2, d3] }
  | _ => none }
def CheckThreeWrongFalsely : Prop := checkThreeRow.holds Try.pinned (OpenSpec.ofChange checkThreeWrong)

/-- 'sluicegatelaw04.CheckEnds': WHATEVER THE INPUT: true; the input reads as it did. -/
def checkEndsSpec : ChangeSpec := { name := "checkEnds", fn := fun _ => fun
  | [d1, d2, d3] => { results := [.lit (.bool true)], args := [d1, d2, d3] }
  | _ => none }
def checkEndsRow : OpenClaim := { program := "ytoejejdolacpgaa", sum := "150377dee5213a3b6fcbdef9d4e4acac0e5ee72dfe8ad556b795481566d8e9a4", func := "sluicegate/sluicegatelaw04.CheckEnds", spec := "checkEnds", unfollowed := true, recurses := true, apart := false }
def CheckEndsSaid : Prop := checkEndsRow.holds Try.pinned (OpenSpec.ofChange checkEndsSpec)

/-- ITS FALSE NEIGHBOUR: 'it returns false'. Refute it at one input. -/
def checkEndsWrong : ChangeSpec := { name := "checkEnds", fn := fun _ => fun
  | [d1, d2, d3] => { results := [.lit (.bool false)], args := [d1, d2, d3] }
  | _ => none }
def CheckEndsWrongFalsely : Prop := checkEndsRow.holds Try.pinned (OpenSpec.ofChange checkEndsWrong)

/-- 'sluicegatelaw04.CheckTwice': WHATEVER THE INPUT: true; the input reads as it did. -/
def checkTwiceSpec : ChangeSpec := { name := "checkTwice", fn := fun _ => fun
  | [d1, d2] => { results := [.lit (.bool true)], args := [d1, d2] }
  | _ => none }
def checkTwiceRow : OpenClaim := { program := "ytoejejdolacpgaa", sum := "150377dee5213a3b6fcbdef9d4e4acac0e5ee72dfe8ad556b795481566d8e9a4", func := "sluicegate/sluicegatelaw04.CheckTwice", spec := "checkTwice", unfollowed := true, recurses := true, apart := false }
def CheckTwiceSaid : Prop := checkTwiceRow.holds Try.pinned (OpenSpec.ofChange checkTwiceSpec)

/-- ITS FALSE NEIGHBOUR: 'it returns false'. Refute it at one input. -/
def checkTwiceWrong : ChangeSpec := { name := "checkTwice", fn := fun _ => fun
  | [d1, d2] => { results := [.lit (.bool false)], args := [d1, d2] }
  | _ => none }
def CheckTwiceWrongFalsely : Prop := checkTwiceRow.holds Try.pinned (OpenSpec.ofChange checkTwiceWrong)

/- THE SECOND FORM. 'bulk': how many values and letters a reading holds, each counted each time it is reached (what is shared counts as often as it is met; a slice's spare places count too). A statement '..UptoSaid' is the law's where the arguments, and the package variables that the reading takes, are together of bulk at most 1048576: NARROWER than '..Said'. Prove '..Said' where nothing that the law and all that it calls make is longer than what came in: it says more and counts as full. Else prove '..UptoSaid'. A law counts once. -/
mutual
def uptoBulk {H : Type} : DataW H → Nat
  | .lit (.string bytes) => bytes.length + 1
  | .lit _ => 1
  | .nil => 1
  | .ptr d => uptoBulk d + 1
  | .slice elems spare => uptoBulkAll elems + uptoBulkAll spare + 1
  | .agg parts => uptoBulkAll parts + 1
  | .iface _ d => uptoBulk d + 1
  | .map entries => uptoBulkEntries entries + 1
  | .held _ => 1
def uptoBulkAll {H : Type} : List (DataW H) → Nat
  | [] => 0
  | d :: r => uptoBulk d + uptoBulkAll r
def uptoBulkEntries {H : Type} : List (Lit × DataW H) → Nat
  | [] => 0
  | x :: r => uptoBulkEntry x + uptoBulkEntries r
def uptoBulkEntry {H : Type} : Lit × DataW H → Nat
  | (.string bytes, d) => bytes.length + uptoBulk d + 1
  | (_, d) => uptoBulk d + 1
 end
def uptoSmall : (H : Type) → List (DataW H) → Bool := fun _ ds => decide (uptoBulkAll ds ≤ 1048576)
def OpenSpec.upto (s : _root_.Go.ChangeSpec) : _root_.Go.OpenSpec := { _root_.Go.OpenSpec.ofChange s with cond := some uptoSmall }

/-- 'sluicegatelaw04.CheckTells', WHERE WHAT IT READS IS OF BULK AT MOST 1048576: true; the input reads as it did. -/
def checkTellsUptoRow : OpenClaim := { program := "ytoejejdolacpgaa", sum := "150377dee5213a3b6fcbdef9d4e4acac0e5ee72dfe8ad556b795481566d8e9a4", func := "sluicegate/sluicegatelaw04.CheckTells", spec := "checkTells", unfollowed := true, recurses := true, apart := false, narrowed := true }
def CheckTellsUptoSaid : Prop := checkTellsUptoRow.holds Try.pinned (OpenSpec.upto checkTellsSpec)

/-- 'sluicegatelaw04.CheckBack', WHERE WHAT IT READS IS OF BULK AT MOST 1048576: true; the input reads as it did. -/
def checkBackUptoRow : OpenClaim := { program := "ytoejejdolacpgaa", sum := "150377dee5213a3b6fcbdef9d4e4acac0e5ee72dfe8ad556b795481566d8e9a4", func := "sluicegate/sluicegatelaw04.CheckBack", spec := "checkBack", unfollowed := true, recurses := true, apart := false, narrowed := true }
def CheckBackUptoSaid : Prop := checkBackUptoRow.holds Try.pinned (OpenSpec.upto checkBackSpec)

/-- 'sluicegatelaw04.CheckSeen', WHERE WHAT IT READS IS OF BULK AT MOST 1048576: true; the input reads as it did. -/
def checkSeenUptoRow : OpenClaim := { program := "ytoejejdolacpgaa", sum := "150377dee5213a3b6fcbdef9d4e4acac0e5ee72dfe8ad556b795481566d8e9a4", func := "sluicegate/sluicegatelaw04.CheckSeen", spec := "checkSeen", unfollowed := true, recurses := true, apart := false, narrowed := true }
def CheckSeenUptoSaid : Prop := checkSeenUptoRow.holds Try.pinned (OpenSpec.upto checkSeenSpec)

/-- 'sluicegatelaw04.CheckThree', WHERE WHAT IT READS IS OF BULK AT MOST 1048576: true; the input reads as it did. -/
def checkThreeUptoRow : OpenClaim := { program := "ytoejejdolacpgaa", sum := "150377dee5213a3b6fcbdef9d4e4acac0e5ee72dfe8ad556b795481566d8e9a4", func := "sluicegate/sluicegatelaw04.CheckThree", spec := "checkThree", unfollowed := true, recurses := true, apart := false, narrowed := true }
def CheckThreeUptoSaid : Prop := checkThreeUptoRow.holds Try.pinned (OpenSpec.upto checkThreeSpec)

/-- 'sluicegatelaw04.CheckEnds', WHERE WHAT IT READS IS OF BULK AT MOST 1048576: true; the input reads as it did. -/
def checkEndsUptoRow : OpenClaim := { program := "ytoejejdolacpgaa", sum := "150377dee5213a3b6fcbdef9d4e4acac0e5ee72dfe8ad556b795481566d8e9a4", func := "sluicegate/sluicegatelaw04.CheckEnds", spec := "checkEnds", unfollowed := true, recurses := true, apart := false, narrowed := true }
def CheckEndsUptoSaid : Prop := checkEndsUptoRow.holds Try.pinned (OpenSpec.upto checkEndsSpec)

/-- 'sluicegatelaw04.CheckTwice', WHERE WHAT IT READS IS OF BULK AT MOST 1048576: true; the input reads as it did. -/
def checkTwiceUptoRow : OpenClaim := { program := "ytoejejdolacpgaa", sum := "150377dee5213a3b6fcbdef9d4e4acac0e5ee72dfe8ad556b795481566d8e9a4", func := "sluicegate/sluicegatelaw04.CheckTwice", spec := "checkTwice", unfollowed := true, recurses := true, apart := false, narrowed := true }
def CheckTwiceUptoSaid : Prop := checkTwiceUptoRow.holds Try.pinned (OpenSpec.upto checkTwiceSpec)

end Rows
end Go.Proofs.Ytoejejdolacpgaa
