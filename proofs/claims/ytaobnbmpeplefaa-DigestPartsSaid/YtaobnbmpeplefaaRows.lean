/-
  No cell of these rows narrows 'for every input' (looked for: loops, veiled, ifaces, maps, wideKeys, modest, calm, conditions, laid).
  DERIVED. THE GIVEN ROWS OF THIS SEAT. 6 by the template 'for every input the law returns true; each argument reads behind the call as it read before'; 0 by the template 'total and deterministic' (their statements: YtaobnbmpeplefaaTotals.lean).
  GIVEN WITH THE SEED: the statements are not yours to turn. If you find one false, say at which input.
  Laid BY PROGRAM, IN A SANDBOX (cutbox-rows.mjs): the forced cells as the released guide's own fill.sh prints them over the translation e242993223b85451… (all of the seat's roots in one cut). By AI agents, Wed Nov 11 2026. No macro, syntax, notation, axiom, sorry.
-/
import Derived.Test.YtaobnbmpeplefaaChecked
import GoSem.Claim
import GoSem.ClaimJoined
import GoSem.ClaimMapViews
import Derived.JoinedTies
import Derived.KernelRfl
namespace Go.Proofs.Ytaobnbmpeplefaa
/- THE CELL 'sum', in the pinned program and in every row, IS THE sha256 OF THE DUMP (.gsa) THAT YtaobnbmpeplefaaProg.lean LOADS. Nothing in Lean hashes anything: it is a label: what it is worth is what the hold of that sum in a sandbox is worth. -/
noncomputable def Try.pinned : Pinned := { name := "ytaobnbmpeplefaa", sum := "e242993223b85451a47a0d883d185bed2ac74a11b87c30901a59a51922563cba", checked := Try.checked }
namespace Rows
def none {H : Type} : Left H := { results := [], args := [] }

/-- 'sluicegatelaw03.DigestSums': WHATEVER THE INPUT: true; the input reads as it did. -/
def digestSumsSpec : ChangeSpec := { name := "digestSums", fn := fun _ => fun
  | [d] => { results := [.lit (.bool true)], args := [d] }
  | _ => none }
def digestSumsRow : OpenClaim := { program := "ytaobnbmpeplefaa", sum := "e242993223b85451a47a0d883d185bed2ac74a11b87c30901a59a51922563cba", func := "sluicegate/sluicegatelaw03.DigestSums", spec := "digestSums", inPlace := ["internal/abi.NoEscape"], apart := false }
def DigestSumsSaid : Prop := digestSumsRow.holds Try.pinned (OpenSpec.ofChange digestSumsSpec)

/-- ITS FALSE NEIGHBOUR: 'it returns false'. Refute it at one input. -/
def digestSumsWrong : ChangeSpec := { name := "digestSums", fn := fun _ => fun
  | [d] => { results := [.lit (.bool false)], args := [d] }
  | _ => none }
def DigestSumsWrongFalsely : Prop := digestSumsRow.holds Try.pinned (OpenSpec.ofChange digestSumsWrong)

/-- 'sluicegatelaw03.DigestParts': WHATEVER THE INPUT: true; the input reads as it did. -/
def digestPartsSpec : ChangeSpec := { name := "digestParts", fn := fun _ => fun
  | [d] => { results := [.lit (.bool true)], args := [d] }
  | _ => none }
def digestPartsRow : OpenClaim := { program := "ytaobnbmpeplefaa", sum := "e242993223b85451a47a0d883d185bed2ac74a11b87c30901a59a51922563cba", func := "sluicegate/sluicegatelaw03.DigestParts", spec := "digestParts", inPlace := ["internal/abi.NoEscape"], apart := false }
def DigestPartsSaid : Prop := digestPartsRow.holds Try.pinned (OpenSpec.ofChange digestPartsSpec)

/-- ITS FALSE NEIGHBOUR: 'it returns false'. Refute it at one input. -/
def digestPartsWrong : ChangeSpec := { name := "digestParts", fn := fun _ => fun
  | [d] => { results := [.lit (.bool false)], args := [d] }
  | _ => none }
def DigestPartsWrongFalsely : Prop := digestPartsRow.holds Try.pinned (OpenSpec.ofChange digestPartsWrong)

/-- 'sluicegatelaw03.DigestLong': WHATEVER THE INPUT: true; the input reads as it did. -/
def digestLongSpec : ChangeSpec := { name := "digestLong", fn := fun _ => fun
  | [d1, d2, d3] => { results := [.lit (.bool true)], args := [d1, d2, d3] }
  | _ => none }
def digestLongRow : OpenClaim := { program := "ytaobnbmpeplefaa", sum := "e242993223b85451a47a0d883d185bed2ac74a11b87c30901a59a51922563cba", func := "sluicegate/sluicegatelaw03.DigestLong", spec := "digestLong", inPlace := ["internal/abi.NoEscape"], apart := false }
def DigestLongSaid : Prop := digestLongRow.holds Try.pinned (OpenSpec.ofChange digestLongSpec)

/-- ITS FALSE NEIGHBOUR: 'it returns false'. Refute it at one input. -/
def digestLongWrong : ChangeSpec := { name := "digestLong", fn := fun _ => fun
  | [d1, d2, d3] => { results := [.lit (.bool false)], args := [d1, d2, d3] }
  | _ => none }
def DigestLongWrongFalsely : Prop := digestLongRow.holds Try.pinned (OpenSpec.ofChange digestLongWrong)

/-- 'sluicegatelaw03.DigestHex': WHATEVER THE INPUT: true; the input reads as it did. -/
def digestHexSpec : ChangeSpec := { name := "digestHex", fn := fun _ => fun
  | [d1, d2] => { results := [.lit (.bool true)], args := [d1, d2] }
  | _ => none }
def digestHexRow : OpenClaim := { program := "ytaobnbmpeplefaa", sum := "e242993223b85451a47a0d883d185bed2ac74a11b87c30901a59a51922563cba", func := "sluicegate/sluicegatelaw03.DigestHex", spec := "digestHex", inPlace := ["internal/abi.NoEscape"], apart := false }
def DigestHexSaid : Prop := digestHexRow.holds Try.pinned (OpenSpec.ofChange digestHexSpec)

/-- ITS FALSE NEIGHBOUR: 'it returns false'. Refute it at one input. -/
def digestHexWrong : ChangeSpec := { name := "digestHex", fn := fun _ => fun
  | [d1, d2] => { results := [.lit (.bool false)], args := [d1, d2] }
  | _ => none }
def DigestHexWrongFalsely : Prop := digestHexRow.holds Try.pinned (OpenSpec.ofChange digestHexWrong)

/-- 'sluicegatelaw03.DigestNil': WHATEVER THE INPUT: true; the input reads as it did. -/
def digestNilSpec : ChangeSpec := { name := "digestNil", fn := fun _ => fun
  | [d] => { results := [.lit (.bool true)], args := [d] }
  | _ => none }
def digestNilRow : OpenClaim := { program := "ytaobnbmpeplefaa", sum := "e242993223b85451a47a0d883d185bed2ac74a11b87c30901a59a51922563cba", func := "sluicegate/sluicegatelaw03.DigestNil", spec := "digestNil", inPlace := ["internal/abi.NoEscape"], apart := false }
def DigestNilSaid : Prop := digestNilRow.holds Try.pinned (OpenSpec.ofChange digestNilSpec)

/-- ITS FALSE NEIGHBOUR: 'it returns false'. Refute it at one input. -/
def digestNilWrong : ChangeSpec := { name := "digestNil", fn := fun _ => fun
  | [d] => { results := [.lit (.bool false)], args := [d] }
  | _ => none }
def DigestNilWrongFalsely : Prop := digestNilRow.holds Try.pinned (OpenSpec.ofChange digestNilWrong)

/-- 'sluicegatelaw03.DigestApart': WHATEVER THE INPUT: true; the input reads as it did. -/
def digestApartSpec : ChangeSpec := { name := "digestApart", fn := fun _ => fun
  | [d1, d2] => { results := [.lit (.bool true)], args := [d1, d2] }
  | _ => none }
def digestApartRow : OpenClaim := { program := "ytaobnbmpeplefaa", sum := "e242993223b85451a47a0d883d185bed2ac74a11b87c30901a59a51922563cba", func := "sluicegate/sluicegatelaw03.DigestApart", spec := "digestApart", inPlace := ["internal/abi.NoEscape"], apart := false }
def DigestApartSaid : Prop := digestApartRow.holds Try.pinned (OpenSpec.ofChange digestApartSpec)

/-- ITS FALSE NEIGHBOUR: 'it returns false'. Refute it at one input. -/
def digestApartWrong : ChangeSpec := { name := "digestApart", fn := fun _ => fun
  | [d1, d2] => { results := [.lit (.bool false)], args := [d1, d2] }
  | _ => none }
def DigestApartWrongFalsely : Prop := digestApartRow.holds Try.pinned (OpenSpec.ofChange digestApartWrong)

/- THE SECOND FORM. 'bulk': how many values and letters a reading holds, each counted each time it is reached (what is shared counts as often as it is met; a slice's spare places count too). A statement '..UptoSaid' is the law's where the arguments, and the package variables that the reading takes, are together of bulk at most 1048576: NARROWER than '..Said'. Prove '..Said' where nothing that the law and all that it calls make is longer than what came in: it says more and counts as full. Else prove '..UptoSaid'. A law counts once. -/
mutual
def uptoBulk {H : Type} : DataW H → Nat
  | .lit (.string bytes) => bytes.length + 1
  | .lit _ => 1
  | .nil => 1
  | .ptr d => uptoBulk d + 1
  | .slice elems spare => uptoBulkAll elems + uptoBulkAll spare + 1
  | .agg parts => uptoBulkAll parts + 1
  | .iface _ d => uptoBulk d + 1
  | .map entries => uptoBulkEntries entries + 1
  | .held _ => 1
def uptoBulkAll {H : Type} : List (DataW H) → Nat
  | [] => 0
  | d :: r => uptoBulk d + uptoBulkAll r
def uptoBulkEntries {H : Type} : List (Lit × DataW H) → Nat
  | [] => 0
  | x :: r => uptoBulkEntry x + uptoBulkEntries r
def uptoBulkEntry {H : Type} : Lit × DataW H → Nat
  | (.string bytes, d) => bytes.length + uptoBulk d + 1
  | (_, d) => uptoBulk d + 1
 end
def uptoSmall : (H : Type) → List (DataW H) → Bool := fun _ ds => decide (uptoBulkAll ds ≤ 1048576)
def OpenSpec.upto (s : _root_.Go.ChangeSpec) : _root_.Go.OpenSpec := { _root_.Go.OpenSpec.ofChange s with cond := some uptoSmall }

/-- 'sluicegatelaw03.DigestSums', WHERE WHAT IT READS IS OF BULK AT MOST 1048576: true; the input reads as it did. -/
def digestSumsUptoRow : OpenClaim := { program := "ytaobnbmpeplefaa", sum := "e242993223b85451a47a0d883d185bed2ac74a11b87c30901a59a51922563cba", func := "sluicegate/sluicegatelaw03.DigestSums", spec := "digestSums", inPlace := ["internal/abi.NoEscape"], apart := false, narrowed := true }
def DigestSumsUptoSaid : Prop := digestSumsUptoRow.holds Try.pinned (OpenSpec.upto digestSumsSpec)

/-- 'sluicegatelaw03.DigestParts', WHERE WHAT IT READS IS OF BULK AT MOST 1048576: true; the input reads as it did. -/
def digestPartsUptoRow : OpenClaim := { program := "ytaobnbmpeplefaa", sum := "e242993223b85451a47a0d883d185bed2ac74a11b87c30901a59a51922563cba", func := "sluicegate/sluicegatelaw03.DigestParts", spec := "digestParts", inPlace := ["internal/abi.NoEscape"], apart := false, narrowed := true }
def DigestPartsUptoSaid : Prop := digestPartsUptoRow.holds Try.pinned (OpenSpec.upto digestPartsSpec)

/-- 'sluicegatelaw03.DigestLong', WHERE WHAT IT READS IS OF BULK AT MOST 1048576: true; the input reads as it did. -/
def digestLongUptoRow : OpenClaim := { program := "ytaobnbmpeplefaa", sum := "e242993223b85451a47a0d883d185bed2ac74a11b87c30901a59a51922563cba", func := "sluicegate/sluicegatelaw03.DigestLong", spec := "digestLong", inPlace := ["internal/abi.NoEscape"], apart := false, narrowed := true }
def DigestLongUptoSaid : Prop := digestLongUptoRow.holds Try.pinned (OpenSpec.upto digestLongSpec)

/-- 'sluicegatelaw03.DigestHex', WHERE WHAT IT READS IS OF BULK AT MOST 1048576: true; the input reads as it did. -/
def digestHexUptoRow : OpenClaim := { program := "ytaobnbmpeplefaa", sum := "e242993223b85451a47a0d883d185bed2ac74a11b87c30901a59a51922563cba", func := "sluicegate/sluicegatelaw03.DigestHex", spec := "digestHex", inPlace := ["internal/abi.NoEscape"], apart := false, narrowed := true }
def DigestHexUptoSaid : Prop := digestHexUptoRow.holds Try.pinned (OpenSpec.upto digestHexSpec)

/-- 'sluicegatelaw03.DigestNil', WHERE WHAT IT READS IS OF BULK AT MOST 1048576: true; the input reads as it did. -/
def digestNilUptoRow : OpenClaim := { program := "ytaobnbmpeplefaa", sum := "e242993223b85451a47a0d883d185bed2ac74a11b87c30901a59a51922563cba", func := "sluicegate/sluicegatelaw03.DigestNil", spec := "digestNil", inPlace := ["internal/abi.NoEscape"], apart := false, narrowed := true }
def DigestNilUptoSaid : Prop := digestNilUptoRow.holds Try.pinned (OpenSpec.upto digestNilSpec)

/-- 'sluicegatelaw03.DigestApart', WHERE WHAT IT READS IS OF BULK AT MOST 1048576: true; the input reads as it did. -/
def digestApartUptoRow : OpenClaim := { program := "ytaobnbmpeplefaa", sum := "e242993223b85451a47a0d883d185bed2ac74a11b87c30901a59a51922563cba", func := "sluicegate/sluicegatelaw03.DigestApart", spec := "digestApart", inPlace := ["internal/abi.NoEscape"], apart := false, narrowed := true }
def DigestApartUptoSaid : Prop := digestApartUptoRow.holds Try.pinned (OpenSpec.upto digestApartSpec)

end Rows
end Go.Proofs.Ytaobnbmpeplefaa
