/-
  No cell of these rows narrows 'for every input' (looked for: loops, veiled, ifaces, maps, wideKeys, modest, calm, conditions, laid).
  DERIVED. THE GIVEN ROWS OF THIS SEAT. 7 by the template 'for every input the law returns true; each argument reads behind the call as it read before'; 0 by the template 'total and deterministic' (their statements: YtoakibpgmjebeaaTotals.lean).
  GIVEN WITH THE SEED: the statements are not yours to turn. If you find one false, say at which input.
  Laid BY PROGRAM, IN A SANDBOX (cutbox-rows.mjs): the forced cells as the released guide's own fill.sh prints them over the translation a7e0a8576eeea12c… (all of the seat's roots in one cut). By AI agents, Wed Nov 11 2026. No macro, syntax, notation, axiom, sorry.
-/
import Derived.Test.YtoakibpgmjebeaaChecked
import GoSem.Claim
import GoSem.ClaimJoined
import GoSem.ClaimMapViews
import Derived.JoinedTies
import Derived.KernelRfl
namespace Go.Proofs.Ytoakibpgmjebeaa
/- THE CELL 'sum', in the pinned program and in every row, IS THE sha256 OF THE DUMP (.gsa) THAT YtoakibpgmjebeaaProg.lean LOADS. Nothing in Lean hashes anything: it is a label: what it is worth is what the hold of that sum in a sandbox is worth. -/
noncomputable def Try.pinned : Pinned := { name := "ytoakibpgmjebeaa", sum := "a7e0a8576eeea12cd52c9d1712d4e4b649a0df14087e077a2203b0caf728dabd", checked := Try.checked }
namespace Rows
def none {H : Type} : Left H := { results := [], args := [] }

/-- 'sluicegatelaw07.SectorWrites': WHATEVER THE INPUT: true; the input reads as it did. -/
def sectorWritesSpec : ChangeSpec := { name := "sectorWrites", fn := fun _ => fun
  | [d] => { results := [.lit (.bool true)], args := [d] }
  | _ => none }
def sectorWritesRow : OpenClaim := { program := "ytoakibpgmjebeaa", sum := "a7e0a8576eeea12cd52c9d1712d4e4b649a0df14087e077a2203b0caf728dabd", func := "sluicegate/sluicegatelaw07.SectorWrites", spec := "sectorWrites", inPlace := ["internal/abi.NoEscape"], unfollowed := true, recurses := true, apart := false }
def SectorWritesSaid : Prop := sectorWritesRow.holds Try.pinned (OpenSpec.ofChange sectorWritesSpec)

/-- ITS FALSE NEIGHBOUR: 'it returns false'. Refute it at one input. -/
def sectorWritesWrong : ChangeSpec := { name := "sectorWrites", fn := fun _ => fun
  | [d] => { results := [.lit (.bool false)], args := [d] }
  | _ => none }
def SectorWritesWrongFalsely : Prop := sectorWritesRow.holds Try.pinned (OpenSpec.ofChange sectorWritesWrong)

/-- 'sluicegatelaw07.SectorReads': WHATEVER THE INPUT: true; the input reads as it did. -/
def sectorReadsSpec : ChangeSpec := { name := "sectorReads", fn := fun _ => fun
  | [d1, d2, d3] => { results := [.lit (.bool true)], args := [d1, d2, d3] }
  | _ => none }
def sectorReadsRow : OpenClaim := { program := "ytoakibpgmjebeaa", sum := "a7e0a8576eeea12cd52c9d1712d4e4b649a0df14087e077a2203b0caf728dabd", func := "sluicegate/sluicegatelaw07.SectorReads", spec := "sectorReads", inPlace := ["internal/abi.NoEscape"], unfollowed := true, recurses := true, apart := false }
def SectorReadsSaid : Prop := sectorReadsRow.holds Try.pinned (OpenSpec.ofChange sectorReadsSpec)

/-- ITS FALSE NEIGHBOUR: 'it returns false'. Refute it at one input. -/
def sectorReadsWrong : ChangeSpec := { name := "sectorReads", fn := fun _ => fun
  | [d1, d2, d3] => { results := [.lit (.bool false)], args := [d1, d2, d3] }
  | _ => none }
def SectorReadsWrongFalsely : Prop := sectorReadsRow.holds Try.pinned (OpenSpec.ofChange sectorReadsWrong)

/-- 'sluicegatelaw07.SectorInside': WHATEVER THE INPUT: true; the input reads as it did. -/
def sectorInsideSpec : ChangeSpec := { name := "sectorInside", fn := fun _ => fun
  | [d] => { results := [.lit (.bool true)], args := [d] }
  | _ => none }
def sectorInsideRow : OpenClaim := { program := "ytoakibpgmjebeaa", sum := "a7e0a8576eeea12cd52c9d1712d4e4b649a0df14087e077a2203b0caf728dabd", func := "sluicegate/sluicegatelaw07.SectorInside", spec := "sectorInside", inPlace := ["internal/abi.NoEscape"], unfollowed := true, recurses := true, apart := false }
def SectorInsideSaid : Prop := sectorInsideRow.holds Try.pinned (OpenSpec.ofChange sectorInsideSpec)

/-- ITS FALSE NEIGHBOUR: 'it returns false'. Refute it at one input. -/
def sectorInsideWrong : ChangeSpec := { name := "sectorInside", fn := fun _ => fun
  | [d] => { results := [.lit (.bool false)], args := [d] }
  | _ => none }
def SectorInsideWrongFalsely : Prop := sectorInsideRow.holds Try.pinned (OpenSpec.ofChange sectorInsideWrong)

/-- 'sluicegatelaw07.SectorBack': WHATEVER THE INPUT: true; the input reads as it did. -/
def sectorBackSpec : ChangeSpec := { name := "sectorBack", fn := fun _ => fun
  | [d1, d2, d3] => { results := [.lit (.bool true)], args := [d1, d2, d3] }
  | _ => none }
def sectorBackRow : OpenClaim := { program := "ytoakibpgmjebeaa", sum := "a7e0a8576eeea12cd52c9d1712d4e4b649a0df14087e077a2203b0caf728dabd", func := "sluicegate/sluicegatelaw07.SectorBack", spec := "sectorBack", inPlace := ["internal/abi.NoEscape"], unfollowed := true, recurses := true, apart := false }
def SectorBackSaid : Prop := sectorBackRow.holds Try.pinned (OpenSpec.ofChange sectorBackSpec)

/-- ITS FALSE NEIGHBOUR: 'it returns false'. Refute it at one input. -/
def sectorBackWrong : ChangeSpec := { name := "sectorBack", fn := fun _ => fun
  | [d1, d2, d3] => { results := [.lit (.bool false)], args := [d1, d2, d3] }
  | _ => none }
def SectorBackWrongFalsely : Prop := sectorBackRow.holds Try.pinned (OpenSpec.ofChange sectorBackWrong)

/-- 'sluicegatelaw07.SectorSeen': WHATEVER THE INPUT: true; the input reads as it did. -/
def sectorSeenSpec : ChangeSpec := { name := "sectorSeen", fn := fun _ => fun
  | [d1, d2, d3] => { results := [.lit (.bool true)], args := [d1, d2, d3] }
  | _ => none }
def sectorSeenRow : OpenClaim := { program := "ytoakibpgmjebeaa", sum := "a7e0a8576eeea12cd52c9d1712d4e4b649a0df14087e077a2203b0caf728dabd", func := "sluicegate/sluicegatelaw07.SectorSeen", spec := "sectorSeen", inPlace := ["internal/abi.NoEscape"], unfollowed := true, recurses := true, apart := false }
def SectorSeenSaid : Prop := sectorSeenRow.holds Try.pinned (OpenSpec.ofChange sectorSeenSpec)

/-- ITS FALSE NEIGHBOUR: 'it returns false'. Refute it at one input. -/
def sectorSeenWrong : ChangeSpec := { name := "sectorSeen", fn := fun _ => fun
  | [d1, d2, d3] => { results := [.lit (.bool false)], args := [d1, d2, d3] }
  | _ => none }
def SectorSeenWrongFalsely : Prop := sectorSeenRow.holds Try.pinned (OpenSpec.ofChange sectorSeenWrong)

/-- 'sluicegatelaw07.SectorApart': WHATEVER THE INPUT: true; the input reads as it did. -/
def sectorApartSpec : ChangeSpec := { name := "sectorApart", fn := fun _ => fun
  | [d1, d2] => { results := [.lit (.bool true)], args := [d1, d2] }
  | _ => none }
def sectorApartRow : OpenClaim := { program := "ytoakibpgmjebeaa", sum := "a7e0a8576eeea12cd52c9d1712d4e4b649a0df14087e077a2203b0caf728dabd", func := "sluicegate/sluicegatelaw07.SectorApart", spec := "sectorApart", inPlace := ["internal/abi.NoEscape"], unfollowed := true, recurses := true, apart := false }
def SectorApartSaid : Prop := sectorApartRow.holds Try.pinned (OpenSpec.ofChange sectorApartSpec)

/-- ITS FALSE NEIGHBOUR: 'it returns false'. Refute it at one input. -/
def sectorApartWrong : ChangeSpec := { name := "sectorApart", fn := fun _ => fun
  | [d1, d2] => { results := [.lit (.bool false)], args := [d1, d2] }
  | _ => none }
def SectorApartWrongFalsely : Prop := sectorApartRow.holds Try.pinned (OpenSpec.ofChange sectorApartWrong)

/-- 'sluicegatelaw07.SectorCut': WHATEVER THE INPUT: true; the input reads as it did. -/
def sectorCutSpec : ChangeSpec := { name := "sectorCut", fn := fun _ => fun
  | [d1, d2] => { results := [.lit (.bool true)], args := [d1, d2] }
  | _ => none }
def sectorCutRow : OpenClaim := { program := "ytoakibpgmjebeaa", sum := "a7e0a8576eeea12cd52c9d1712d4e4b649a0df14087e077a2203b0caf728dabd", func := "sluicegate/sluicegatelaw07.SectorCut", spec := "sectorCut", inPlace := ["internal/abi.NoEscape"], unfollowed := true, recurses := true, apart := false }
def SectorCutSaid : Prop := sectorCutRow.holds Try.pinned (OpenSpec.ofChange sectorCutSpec)

/-- ITS FALSE NEIGHBOUR: 'it returns false'. Refute it at one input. -/
def sectorCutWrong : ChangeSpec := { name := "sectorCut", fn := fun _ => fun
  | [d1, d2] => { results := [.lit (.bool false)], args := [d1, d2] }
  | _ => none }
def SectorCutWrongFalsely : Prop := sectorCutRow.holds Try.pinned (OpenSpec.ofChange sectorCutWrong)

/- THE SECOND FORM. 'bulk': how many values and letters a reading holds, each counted each time it is reached (what is shared counts as often as it is met; a slice's spare places count too). A statement '..UptoSaid' is the law's where the arguments, and the package variables that the reading takes, are together of bulk at most 1048576: NARROWER than '..Said'. Prove '..Said' where nothing that the law and all that it calls make is longer than what came in: it says more and counts as full. Else prove '..UptoSaid'. A law counts once. -/
mutual
def uptoBulk {H : Type} : DataW H → Nat
  | .lit (.string bytes) => bytes.length + 1
  | .lit _ => 1
  | .nil => 1
  | .ptr d => uptoBulk d + 1
  | .slice elems spare => uptoBulkAll elems + uptoBulkAll spare + 1
  | .agg parts => uptoBulkAll parts + 1
  | .iface _ d => uptoBulk d + 1
  | .map entries => uptoBulkEntries entries + 1
  | .held _ => 1
def uptoBulkAll {H : Type} : List (DataW H) → Nat
  | [] => 0
  | d :: r => uptoBulk d + uptoBulkAll r
def uptoBulkEntries {H : Type} : List (Lit × DataW H) → Nat
  | [] => 0
  | x :: r => uptoBulkEntry x + uptoBulkEntries r
def uptoBulkEntry {H : Type} : Lit × DataW H → Nat
  | (.string bytes, d) => bytes.length + uptoBulk d + 1
  | (_, d) => uptoBulk d + 1
 end
def uptoSmall : (H : Type) → List (DataW H) → Bool := fun _ ds => decide (uptoBulkAll ds ≤ 1048576)
def OpenSpec.upto (s : _root_.Go.ChangeSpec) : _root_.Go.OpenSpec := { _root_.Go.OpenSpec.ofChange s with cond := some uptoSmall }

/-- 'sluicegatelaw07.SectorWrites', WHERE WHAT IT READS IS OF BULK AT MOST 1048576: true; the input reads as it did. -/
def sectorWritesUptoRow : OpenClaim := { program := "ytoakibpgmjebeaa", sum := "a7e0a8576eeea12cd52c9d1712d4e4b649a0df14087e077a2203b0caf728dabd", func := "sluicegate/sluicegatelaw07.SectorWrites", spec := "sectorWrites", inPlace := ["internal/abi.NoEscape"], unfollowed := true, recurses := true, apart := false, narrowed := true }
def SectorWritesUptoSaid : Prop := sectorWritesUptoRow.holds Try.pinned (OpenSpec.upto sectorWritesSpec)

/-- 'sluicegatelaw07.SectorReads', WHERE WHAT IT READS IS OF BULK AT MOST 1048576: true; the input reads as it did. -/
def sectorReadsUptoRow : OpenClaim := { program := "ytoakibpgmjebeaa", sum := "a7e0a8576eeea12cd52c9d1712d4e4b649a0df14087e077a2203b0caf728dabd", func := "sluicegate/sluicegatelaw07.SectorReads", spec := "sectorReads", inPlace := ["internal/abi.NoEscape"], unfollowed := true, recurses := true, apart := false, narrowed := true }
def SectorReadsUptoSaid : Prop := sectorReadsUptoRow.holds Try.pinned (OpenSpec.upto sectorReadsSpec)

/-- 'sluicegatelaw07.SectorInside', WHERE WHAT IT READS IS OF BULK AT MOST 1048576: true; the input reads as it did. -/
def sectorInsideUptoRow : OpenClaim := { program := "ytoakibpgmjebeaa", sum := "a7e0a8576eeea12cd52c9d1712d4e4b649a0df14087e077a2203b0caf728dabd", func := "sluicegate/sluicegatelaw07.SectorInside", spec := "sectorInside", inPlace := ["internal/abi.NoEscape"], unfollowed := true, recurses := true, apart := false, narrowed := true }
def SectorInsideUptoSaid : Prop := sectorInsideUptoRow.holds Try.pinned (OpenSpec.upto sectorInsideSpec)

/-- 'sluicegatelaw07.SectorBack', WHERE WHAT IT READS IS OF BULK AT MOST 1048576: true; the input reads as it did. -/
def sectorBackUptoRow : OpenClaim := { program := "ytoakibpgmjebeaa", sum := "a7e0a8576eeea12cd52c9d1712d4e4b649a0df14087e077a2203b0caf728dabd", func := "sluicegate/sluicegatelaw07.SectorBack", spec := "sectorBack", inPlace := ["internal/abi.NoEscape"], unfollowed := true, recurses := true, apart := false, narrowed := true }
def SectorBackUptoSaid : Prop := sectorBackUptoRow.holds Try.pinned (OpenSpec.upto sectorBackSpec)

/-- 'sluicegatelaw07.SectorSeen', WHERE WHAT IT READS IS OF BULK AT MOST 1048576: true; the input reads as it did. -/
def sectorSeenUptoRow : OpenClaim := { program := "ytoakibpgmjebeaa", sum := "a7e0a8576eeea12cd52c9d1712d4e4b649a0df14087e077a2203b0caf728dabd", func := "sluicegate/sluicegatelaw07.SectorSeen", spec := "sectorSeen", inPlace := ["internal/abi.NoEscape"], unfollowed := true, recurses := true, apart := false, narrowed := true }
def SectorSeenUptoSaid : Prop := sectorSeenUptoRow.holds Try.pinned (OpenSpec.upto sectorSeenSpec)

/-- 'sluicegatelaw07.SectorApart', WHERE WHAT IT READS IS OF BULK AT MOST 1048576: true; the input reads as it did. -/
def sectorApartUptoRow : OpenClaim := { program := "ytoakibpgmjebeaa", sum := "a7e0a8576eeea12cd52c9d1712d4e4b649a0df14087e077a2203b0caf728dabd", func := "sluicegate/sluicegatelaw07.SectorApart", spec := "sectorApart", inPlace := ["internal/abi.NoEscape"], unfollowed := true, recurses := true, apart := false, narrowed := true }
def SectorApartUptoSaid : Prop := sectorApartUptoRow.holds Try.pinned (OpenSpec.upto sectorApartSpec)

/-- 'sluicegatelaw07.SectorCut', WHERE WHAT IT READS IS OF BULK AT MOST 1048576: true; the input reads as it did. -/
def sectorCutUptoRow : OpenClaim := { program := "ytoakibpgmjebeaa", sum := "a7e0a8576eeea12cd52c9d1712d4e4b649a0df14087e077a2203b0caf728dabd", func := "sluicegate/sluicegatelaw07.SectorCut", spec := "sectorCut", inPlace := ["internal/abi.NoEscape"], unfollowed := true, recurses := true, apart := false, narrowed := true }
def SectorCutUptoSaid : Prop := sectorCutUptoRow.holds Try.pinned (OpenSpec.upto sectorCutSpec)

end Rows
end Go.Proofs.Ytoakibpgmjebeaa
