/-
  No cell of these rows narrows 'for every input' (looked for: loops, veiled, ifaces, maps, wideKeys, modest, calm, conditions, laid).
  DERIVED. THE GIVEN ROWS OF THIS SEAT. 4 by the template 'for every input the law returns true; each argument reads behind the call as it read before'; 0 by the template 'total and deterministic' (their statements: YtlaflbjlgkdacaaTotals.lean).
  GIVEN WITH THE SEED: the statements are not yours to turn. If you find one false, say at which input.
  Laid BY PROGRAM, IN A SANDBOX (cutbox-rows.mjs): the forced cells as the released guide's own fill.sh prints them over the translation 500f8f1111470eec… (all of the seat's roots in one cut). By AI agents, Wed Nov 11 2026. No macro, syntax, notation, axiom, sorry.
-/
import Derived.Test.YtlaflbjlgkdacaaChecked
import GoSem.Claim
import GoSem.ClaimJoined
import GoSem.ClaimMapViews
import Derived.JoinedTies
import Derived.KernelRfl
namespace Go.Proofs.Ytlaflbjlgkdacaa
/- THE CELL 'sum', in the pinned program and in every row, IS THE sha256 OF THE DUMP (.gsa) THAT YtlaflbjlgkdacaaProg.lean LOADS. Nothing in Lean hashes anything: it is a label: what it is worth is what the hold of that sum in a sandbox is worth. -/
noncomputable def Try.pinned : Pinned := { name := "ytlaflbjlgkdacaa", sum := "500f8f1111470eec8701c4f868403ea9ff495656c01c95ffc6d12ca1c67a1b0f", checked := Try.checked }
namespace Rows
def none {H : Type} : Left H := { results := [], args := [] }

/-- 'sluicegatelaw02.CodeFactors': WHATEVER THE INPUT: true; the input reads as it did. -/
def codeFactorsSpec : ChangeSpec := { name := "codeFactors", fn := fun _ => fun
  | [d1, d2] => { results := [.lit (.bool true)], args := [d1, d2] }
  | _ => none }
def codeFactorsRow : OpenClaim := { program := "ytlaflbjlgkdacaa", sum := "500f8f1111470eec8701c4f868403ea9ff495656c01c95ffc6d12ca1c67a1b0f", func := "sluicegate/sluicegatelaw02.CodeFactors", spec := "codeFactors", unfollowed := true, recurses := true, apart := false }
def CodeFactorsSaid : Prop := codeFactorsRow.holds Try.pinned (OpenSpec.ofChange codeFactorsSpec)

/-- ITS FALSE NEIGHBOUR: 'it returns false'. Refute it at one input. -/
def codeFactorsWrong : ChangeSpec := { name := "codeFactors", fn := fun _ => fun
  | [d1, d2] => { results := [.lit (.bool false)], args := [d1, d2] }
  | _ => none }
def CodeFactorsWrongFalsely : Prop := codeFactorsRow.holds Try.pinned (OpenSpec.ofChange codeFactorsWrong)

/-- 'sluicegatelaw02.CodeEncodes': WHATEVER THE INPUT: true; the input reads as it did. -/
def codeEncodesSpec : ChangeSpec := { name := "codeEncodes", fn := fun _ => fun
  | [d1, d2] => { results := [.lit (.bool true)], args := [d1, d2] }
  | _ => none }
def codeEncodesRow : OpenClaim := { program := "ytlaflbjlgkdacaa", sum := "500f8f1111470eec8701c4f868403ea9ff495656c01c95ffc6d12ca1c67a1b0f", func := "sluicegate/sluicegatelaw02.CodeEncodes", spec := "codeEncodes", unfollowed := true, recurses := true, apart := false }
def CodeEncodesSaid : Prop := codeEncodesRow.holds Try.pinned (OpenSpec.ofChange codeEncodesSpec)

/-- ITS FALSE NEIGHBOUR: 'it returns false'. Refute it at one input. -/
def codeEncodesWrong : ChangeSpec := { name := "codeEncodes", fn := fun _ => fun
  | [d1, d2] => { results := [.lit (.bool false)], args := [d1, d2] }
  | _ => none }
def CodeEncodesWrongFalsely : Prop := codeEncodesRow.holds Try.pinned (OpenSpec.ofChange codeEncodesWrong)

/-- 'sluicegatelaw02.CodeFills': WHATEVER THE INPUT: true; the input reads as it did. -/
def codeFillsSpec : ChangeSpec := { name := "codeFills", fn := fun _ => fun
  | [d1, d2] => { results := [.lit (.bool true)], args := [d1, d2] }
  | _ => none }
def codeFillsRow : OpenClaim := { program := "ytlaflbjlgkdacaa", sum := "500f8f1111470eec8701c4f868403ea9ff495656c01c95ffc6d12ca1c67a1b0f", func := "sluicegate/sluicegatelaw02.CodeFills", spec := "codeFills", unfollowed := true, recurses := true, apart := false }
def CodeFillsSaid : Prop := codeFillsRow.holds Try.pinned (OpenSpec.ofChange codeFillsSpec)

/-- ITS FALSE NEIGHBOUR: 'it returns false'. Refute it at one input. -/
def codeFillsWrong : ChangeSpec := { name := "codeFills", fn := fun _ => fun
  | [d1, d2] => { results := [.lit (.bool false)], args := [d1, d2] }
  | _ => none }
def CodeFillsWrongFalsely : Prop := codeFillsRow.holds Try.pinned (OpenSpec.ofChange codeFillsWrong)

/-- 'sluicegatelaw02.CodeBack': WHATEVER THE INPUT: true; the input reads as it did. -/
def codeBackSpec : ChangeSpec := { name := "codeBack", fn := fun _ => fun
  | [d1, d2, d3] => { results := [.lit (.bool true)], args := [d1, d2, d3] }
  | _ => none }
def codeBackRow : OpenClaim := { program := "ytlaflbjlgkdacaa", sum := "500f8f1111470eec8701c4f868403ea9ff495656c01c95ffc6d12ca1c67a1b0f", func := "sluicegate/sluicegatelaw02.CodeBack", spec := "codeBack", unfollowed := true, recurses := true, apart := false }
def CodeBackSaid : Prop := codeBackRow.holds Try.pinned (OpenSpec.ofChange codeBackSpec)

/-- ITS FALSE NEIGHBOUR: 'it returns false'. Refute it at one input. -/
def codeBackWrong : ChangeSpec := { name := "codeBack", fn := fun _ => fun
  | [d1, d2, d3] => { results := [.lit (.bool false)], args := [d1, d2, d3] }
  | _ => none }
def CodeBackWrongFalsely : Prop := codeBackRow.holds Try.pinned (OpenSpec.ofChange codeBackWrong)

/- THE SECOND FORM. 'bulk': how many values and letters a reading holds, each counted each time it is reached (what is shared counts as often as it is met; a slice's spare places count too). A statement '..UptoSaid' is the law's where the arguments, and the package variables that the reading takes, are together of bulk at most 1048576: NARROWER than '..Said'. Prove '..Said' where nothing that the law and all that it calls make is longer than what came in: it says more and counts as full. Else prove '..UptoSaid'. A law counts once. -/
mutual
def uptoBulk {H : Type} : DataW H → Nat
  | .lit (.string bytes) => bytes.length + 1
  | .lit _ => 1
  | .nil => 1
  | .ptr d => uptoBulk d + 1
  | .slice elems spare => uptoBulkAll elems + uptoBulkAll spare + 1
  | .agg parts => uptoBulkAll parts + 1
  | .iface _ d => uptoBulk d + 1
  | .map entries => uptoBulkEntries entries + 1
  | .held _ => 1
def uptoBulkAll {H : Type} : List (DataW H) → Nat
  | [] => 0
  | d :: r => uptoBulk d + uptoBulkAll r
def uptoBulkEntries {H : Type} : List (Lit × DataW H) → Nat
  | [] => 0
  | x :: r => uptoBulkEntry x + uptoBulkEntries r
def uptoBulkEntry {H : Type} : Lit × DataW H → Nat
  | (.string bytes, d) => bytes.length + uptoBulk d + 1
  | (_, d) => uptoBulk d + 1
 end
def uptoSmall : (H : Type) → List (DataW H) → Bool := fun _ ds => decide (uptoBulkAll ds ≤ 1048576)
def OpenSpec.upto (s : _root_.Go.ChangeSpec) : _root_.Go.OpenSpec := { _root_.Go.OpenSpec.ofChange s with cond := some uptoSmall }

/-- 'sluicegatelaw02.CodeFactors', WHERE WHAT IT READS IS OF BULK AT MOST 1048576: true; the input reads as it did. -/
def codeFactorsUptoRow : OpenClaim := { program := "ytlaflbjlgkdacaa", sum := "500f8f1111470eec8701c4f868403ea9ff495656c01c95ffc6d12ca1c67a1b0f", func := "sluicegate/sluicegatelaw02.CodeFactors", spec := "codeFactors", unfollowed := true, recurses := true, apart := false, narrowed := true }
def CodeFactorsUptoSaid : Prop := codeFactorsUptoRow.holds Try.pinned (OpenSpec.upto codeFactorsSpec)

/-- 'sluicegatelaw02.CodeEncodes', WHERE WHAT IT READS IS OF BULK AT MOST 1048576: true; the input reads as it did. -/
def codeEncodesUptoRow : OpenClaim := { program := "ytlaflbjlgkdacaa", sum := "500f8f1111470eec8701c4f868403ea9ff495656c01c95ffc6d12ca1c67a1b0f", func := "sluicegate/sluicegatelaw02.CodeEncodes", spec := "codeEncodes", unfollowed := true, recurses := true, apart := false, narrowed := true }
def CodeEncodesUptoSaid : Prop := codeEncodesUptoRow.holds Try.pinned (OpenSpec.upto codeEncodesSpec)

/-- 'sluicegatelaw02.CodeFills', WHERE WHAT IT READS IS OF BULK AT MOST 1048576: true; the input reads as it did. -/
def codeFillsUptoRow : OpenClaim := { program := "ytlaflbjlgkdacaa", sum := "500f8f1111470eec8701c4f868403ea9ff495656c01c95ffc6d12ca1c67a1b0f", func := "sluicegate/sluicegatelaw02.CodeFills", spec := "codeFills", unfollowed := true, recurses := true, apart := false, narrowed := true }
def CodeFillsUptoSaid : Prop := codeFillsUptoRow.holds Try.pinned (OpenSpec.upto codeFillsSpec)

/-- 'sluicegatelaw02.CodeBack', WHERE WHAT IT READS IS OF BULK AT MOST 1048576: true; the input reads as it did. -/
def codeBackUptoRow : OpenClaim := { program := "ytlaflbjlgkdacaa", sum := "500f8f1111470eec8701c4f868403ea9ff495656c01c95ffc6d12ca1c67a1b0f", func := "sluicegate/sluicegatelaw02.CodeBack", spec := "codeBack", unfollowed := true, recurses := true, apart := false, narrowed := true }
def CodeBackUptoSaid : Prop := codeBackUptoRow.holds Try.pinned (OpenSpec.upto codeBackSpec)

end Rows
end Go.Proofs.Ytlaflbjlgkdacaa
