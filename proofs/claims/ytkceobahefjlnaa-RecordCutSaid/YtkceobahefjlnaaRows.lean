/-
  No cell of these rows narrows 'for every input' (looked for: loops, veiled, ifaces, maps, wideKeys, modest, calm, conditions, laid).
  DERIVED. THE GIVEN ROWS OF THIS SEAT. 6 by the template 'for every input the law returns true; each argument reads behind the call as it read before'; 0 by the template 'total and deterministic' (their statements: YtkceobahefjlnaaTotals.lean).
  GIVEN WITH THE SEED: the statements are not yours to turn. If you find one false, say at which input.
  Laid BY PROGRAM, IN A SANDBOX (cutbox-rows.mjs): the forced cells as the released guide's own fill.sh prints them over the translation feaf8d2919025206… (all of the seat's roots in one cut). By AI agents, Wed Nov 11 2026. No macro, syntax, notation, axiom, sorry.
-/
import Derived.Test.YtkceobahefjlnaaChecked
import GoSem.Claim
import GoSem.ClaimJoined
import GoSem.ClaimMapViews
import Derived.JoinedTies
import Derived.KernelRfl
namespace Go.Proofs.Ytkceobahefjlnaa
/- THE CELL 'sum', in the pinned program and in every row, IS THE sha256 OF THE DUMP (.gsa) THAT YtkceobahefjlnaaProg.lean LOADS. Nothing in Lean hashes anything: it is a label: what it is worth is what the hold of that sum in a sandbox is worth. -/
noncomputable def Try.pinned : Pinned := { name := "ytkceobahefjlnaa", sum := "feaf8d2919025206740cb971d5ce0d5f708e033d32b0293b13ab2f3e418162d1", checked := Try.checked }
namespace Rows
def none {H : Type} : Left H := { results := [], args := [] }

/-- 'sluicegatelaw11.RecordWrites': WHATEVER THE INPUT: true; the input reads as it did. -/
def recordWritesSpec : ChangeSpec := { name := "recordWrites", fn := fun _ => fun
  | [d] => { results := [.lit (.bool true)], args := [d] }
  | _ => none }
def recordWritesRow : OpenClaim := { program := "ytkceobahefjlnaa", sum := "feaf8d2919025206740cb971d5ce0d5f708e033d32b0293b13ab2f3e418162d1", func := "sluicegate/sluicegatelaw11.RecordWrites", spec := "recordWrites", inPlace := ["internal/abi.NoEscape"], unfollowed := true, recurses := true, apart := false }
def RecordWritesSaid : Prop := recordWritesRow.holds Try.pinned (OpenSpec.ofChange recordWritesSpec)

/-- ITS FALSE NEIGHBOUR: 'it returns false'. Refute it at one input. -/
def recordWritesWrong : ChangeSpec := { name := "recordWrites", fn := fun _ => fun
  | [d] => { results := [.lit (.bool false)], args := [d] }
  | _ => none }
def RecordWritesWrongFalsely : Prop := recordWritesRow.holds Try.pinned (OpenSpec.ofChange recordWritesWrong)

/-- 'sluicegatelaw11.RecordReads': WHATEVER THE INPUT: true; the input reads as it did. -/
def recordReadsSpec : ChangeSpec := { name := "recordReads", fn := fun _ => fun
  | [d] => { results := [.lit (.bool true)], args := [d] }
  | _ => none }
def recordReadsRow : OpenClaim := { program := "ytkceobahefjlnaa", sum := "feaf8d2919025206740cb971d5ce0d5f708e033d32b0293b13ab2f3e418162d1", func := "sluicegate/sluicegatelaw11.RecordReads", spec := "recordReads", inPlace := ["internal/abi.NoEscape"], unfollowed := true, recurses := true, apart := false }
def RecordReadsSaid : Prop := recordReadsRow.holds Try.pinned (OpenSpec.ofChange recordReadsSpec)

/-- ITS FALSE NEIGHBOUR: 'it returns false'. Refute it at one input. -/
def recordReadsWrong : ChangeSpec := { name := "recordReads", fn := fun _ => fun
  | [d] => { results := [.lit (.bool false)], args := [d] }
  | _ => none }
def RecordReadsWrongFalsely : Prop := recordReadsRow.holds Try.pinned (OpenSpec.ofChange recordReadsWrong)

/-- 'sluicegatelaw11.RecordBack': WHATEVER THE INPUT: true; the input reads as it did. -/
def recordBackSpec : ChangeSpec := { name := "recordBack", fn := fun _ => fun
  | [d1, d2] => { results := [.lit (.bool true)], args := [d1, d2] }
  | _ => none }
def recordBackRow : OpenClaim := { program := "ytkceobahefjlnaa", sum := "feaf8d2919025206740cb971d5ce0d5f708e033d32b0293b13ab2f3e418162d1", func := "sluicegate/sluicegatelaw11.RecordBack", spec := "recordBack", inPlace := ["internal/abi.NoEscape"], unfollowed := true, recurses := true, apart := false }
def RecordBackSaid : Prop := recordBackRow.holds Try.pinned (OpenSpec.ofChange recordBackSpec)

/-- ITS FALSE NEIGHBOUR: 'it returns false'. Refute it at one input. -/
def recordBackWrong : ChangeSpec := { name := "recordBack", fn := fun _ => fun
  | [d1, d2] => { results := [.lit (.bool false)], args := [d1, d2] }
  | _ => none }
def RecordBackWrongFalsely : Prop := recordBackRow.holds Try.pinned (OpenSpec.ofChange recordBackWrong)

/-- 'sluicegatelaw11.RecordSame': WHATEVER THE INPUT: true; the input reads as it did. -/
def recordSameSpec : ChangeSpec := { name := "recordSame", fn := fun _ => fun
  | [d1, d2] => { results := [.lit (.bool true)], args := [d1, d2] }
  | _ => none }
def recordSameRow : OpenClaim := { program := "ytkceobahefjlnaa", sum := "feaf8d2919025206740cb971d5ce0d5f708e033d32b0293b13ab2f3e418162d1", func := "sluicegate/sluicegatelaw11.RecordSame", spec := "recordSame", inPlace := ["internal/abi.NoEscape"], unfollowed := true, recurses := true, apart := false }
def RecordSameSaid : Prop := recordSameRow.holds Try.pinned (OpenSpec.ofChange recordSameSpec)

/-- ITS FALSE NEIGHBOUR: 'it returns false'. Refute it at one input. -/
def recordSameWrong : ChangeSpec := { name := "recordSame", fn := fun _ => fun
  | [d1, d2] => { results := [.lit (.bool false)], args := [d1, d2] }
  | _ => none }
def RecordSameWrongFalsely : Prop := recordSameRow.holds Try.pinned (OpenSpec.ofChange recordSameWrong)

/-- 'sluicegatelaw11.RecordSeen': WHATEVER THE INPUT: true; the input reads as it did. -/
def recordSeenSpec : ChangeSpec := { name := "recordSeen", fn := fun _ => fun
  | [d1, d2, d3] => { results := [.lit (.bool true)], args := [d1, d2, d3] }
  | _ => none }
def recordSeenRow : OpenClaim := { program := "ytkceobahefjlnaa", sum := "feaf8d2919025206740cb971d5ce0d5f708e033d32b0293b13ab2f3e418162d1", func := "sluicegate/sluicegatelaw11.RecordSeen", spec := "recordSeen", inPlace := ["internal/abi.NoEscape"], unfollowed := true, recurses := true, apart := false }
def RecordSeenSaid : Prop := recordSeenRow.holds Try.pinned (OpenSpec.ofChange recordSeenSpec)

/-- ITS FALSE NEIGHBOUR: 'it returns false'. Refute it at one input. -/
def recordSeenWrong : ChangeSpec := { name := "recordSeen", fn := fun _ => fun
  | [d1, d2, d3] => { results := [.lit (.bool false)], args := [d1, d2, d3] }
  | _ => none }
def RecordSeenWrongFalsely : Prop := recordSeenRow.holds Try.pinned (OpenSpec.ofChange recordSeenWrong)

/-- 'sluicegatelaw11.RecordCut': WHATEVER THE INPUT: true; the input reads as it did. -/
def recordCutSpec : ChangeSpec := { name := "recordCut", fn := fun _ => fun
  | [d1, d2] => { results := [.lit (.bool true)], args := [d1, d2] }
  | _ => none }
def recordCutRow : OpenClaim := { program := "ytkceobahefjlnaa", sum := "feaf8d2919025206740cb971d5ce0d5f708e033d32b0293b13ab2f3e418162d1", func := "sluicegate/sluicegatelaw11.RecordCut", spec := "recordCut", inPlace := ["internal/abi.NoEscape"], unfollowed := true, recurses := true, apart := false }
def RecordCutSaid : Prop := recordCutRow.holds Try.pinned (OpenSpec.ofChange recordCutSpec)

/-- ITS FALSE NEIGHBOUR: 'it returns false'. Refute it at one input. -/
def recordCutWrong : ChangeSpec := { name := "recordCut", fn := fun _ => fun
  | [d1, d2] => { results := [.lit (.bool false)], args := [d1, d2] }
  | _ => none }
def RecordCutWrongFalsely : Prop := recordCutRow.holds Try.pinned (OpenSpec.ofChange recordCutWrong)

/- THE SECOND FORM. 'bulk': how many values and letters a reading holds, each counted each time it is reached (what is shared counts as often as it is met; a slice's spare places count too). A statement '..UptoSaid' is the law's where the arguments, and the package variables that the reading takes, are together of bulk at most 1048576: NARROWER than '..Said'. Prove '..Said' where nothing that the law and all that it calls make is longer than what came in: it says more and counts as full. Else prove '..UptoSaid'. A law counts once. -/
mutual
def uptoBulk {H : Type} : DataW H → Nat
  | .lit (.string bytes) => bytes.length + 1
  | .lit _ => 1
  | .nil => 1
  | .ptr d => uptoBulk d + 1
  | .slice elems spare => uptoBulkAll elems + uptoBulkAll spare + 1
  | .agg parts => uptoBulkAll parts + 1
  | .iface _ d => uptoBulk d + 1
  | .map entries => uptoBulkEntries entries + 1
  | .held _ => 1
def uptoBulkAll {H : Type} : List (DataW H) → Nat
  | [] => 0
  | d :: r => uptoBulk d + uptoBulkAll r
def uptoBulkEntries {H : Type} : List (Lit × DataW H) → Nat
  | [] => 0
  | x :: r => uptoBulkEntry x + uptoBulkEntries r
def uptoBulkEntry {H : Type} : Lit × DataW H → Nat
  | (.string bytes, d) => bytes.length + uptoBulk d + 1
  | (_, d) => uptoBulk d + 1
 end
def uptoSmall : (H : Type) → List (DataW H) → Bool := fun _ ds => decide (uptoBulkAll ds ≤ 1048576)
def OpenSpec.upto (s : _root_.Go.ChangeSpec) : _root_.Go.OpenSpec := { _root_.Go.OpenSpec.ofChange s with cond := some uptoSmall }

/-- 'sluicegatelaw11.RecordWrites', WHERE WHAT IT READS IS OF BULK AT MOST 1048576: true; the input reads as it did. -/
def recordWritesUptoRow : OpenClaim := { program := "ytkceobahefjlnaa", sum := "feaf8d2919025206740cb971d5ce0d5f708e033d32b0293b13ab2f3e418162d1", func := "sluicegate/sluicegatelaw11.RecordWrites", spec := "recordWrites", inPlace := ["internal/abi.NoEscape"], unfollowed := true, recurses := true, apart := false, narrowed := true }
def RecordWritesUptoSaid : Prop := recordWritesUptoRow.holds Try.pinned (OpenSpec.upto recordWritesSpec)

/-- 'sluicegatelaw11.RecordReads', WHERE WHAT IT READS IS OF BULK AT MOST 1048576: true; the input reads as it did. -/
def recordReadsUptoRow : OpenClaim := { program := "ytkceobahefjlnaa", sum := "feaf8d2919025206740cb971d5ce0d5f708e033d32b0293b13ab2f3e418162d1", func := "sluicegate/sluicegatelaw11.RecordReads", spec := "recordReads", inPlace := ["internal/abi.NoEscape"], unfollowed := true, recurses := true, apart := false, narrowed := true }
def RecordReadsUptoSaid : Prop := recordReadsUptoRow.holds Try.pinned (OpenSpec.upto recordReadsSpec)

/-- 'sluicegatelaw11.RecordBack', WHERE WHAT IT READS IS OF BULK AT MOST 1048576: true; the input reads as it did. -/
def recordBackUptoRow : OpenClaim := { program := "ytkceobahefjlnaa", sum := "feaf8d2919025206740cb971d5ce0d5f708e033d32b0293b13ab2f3e418162d1", func := "sluicegate/sluicegatelaw11.RecordBack", spec := "recordBack", inPlace := ["internal/abi.NoEscape"], unfollowed := true, recurses := true, apart := false, narrowed := true }
def RecordBackUptoSaid : Prop := recordBackUptoRow.holds Try.pinned (OpenSpec.upto recordBackSpec)

/-- 'sluicegatelaw11.RecordSame', WHERE WHAT IT READS IS OF BULK AT MOST 1048576: true; the input reads as it did. -/
def recordSameUptoRow : OpenClaim := { program := "ytkceobahefjlnaa", sum := "feaf8d2919025206740cb971d5ce0d5f708e033d32b0293b13ab2f3e418162d1", func := "sluicegate/sluicegatelaw11.RecordSame", spec := "recordSame", inPlace := ["internal/abi.NoEscape"], unfollowed := true, recurses := true, apart := false, narrowed := true }
def RecordSameUptoSaid : Prop := recordSameUptoRow.holds Try.pinned (OpenSpec.upto recordSameSpec)

/-- 'sluicegatelaw11.RecordSeen', WHERE WHAT IT READS IS OF BULK AT MOST 1048576: true; the input reads as it did. -/
def recordSeenUptoRow : OpenClaim := { program := "ytkceobahefjlnaa", sum := "feaf8d2919025206740cb971d5ce0d5f708e033d32b0293b13ab2f3e418162d1", func := "sluicegate/sluicegatelaw11.RecordSeen", spec := "recordSeen", inPlace := ["internal/abi.NoEscape"], unfollowed := true, recurses := true, apart := false, narrowed := true }
def RecordSeenUptoSaid : Prop := recordSeenUptoRow.holds Try.pinned (OpenSpec.upto recordSeenSpec)

/-- 'sluicegatelaw11.RecordCut', WHERE WHAT IT READS IS OF BULK AT MOST 1048576: true; the input reads as it did. -/
def recordCutUptoRow : OpenClaim := { program := "ytkceobahefjlnaa", sum := "feaf8d2919025206740cb971d5ce0d5f708e033d32b0293b13ab2f3e418162d1", func := "sluicegate/sluicegatelaw11.RecordCut", spec := "recordCut", inPlace := ["internal/abi.NoEscape"], unfollowed := true, recurses := true, apart := false, narrowed := true }
def RecordCutUptoSaid : Prop := recordCutUptoRow.holds Try.pinned (OpenSpec.upto recordCutSpec)

end Rows
end Go.Proofs.Ytkceobahefjlnaa
