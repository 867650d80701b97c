/-
  NARROWER THAN 'FOR EVERY INPUT', by the rows' own cells (each row's printed sentence says how): NeedleWrites: laid · NeedleReads: laid · NeedleShards: laid · NeedleBack: laid · NeedleJoins: laid · NeedleApart: laid.
  DERIVED. THE GIVEN ROWS OF THIS SEAT. 6 by the template 'for every input the law returns true; each argument reads behind the call as it read before'; 0 by the template 'total and deterministic' (their statements: YtpgfafpjfdbjmaaDoorTotals.lean).
  GIVEN WITH THE SEED: the statements are not yours to turn. If you find one false, say at which input.
  Laid BY PROGRAM, IN A SANDBOX (cutbox-rows.mjs): the forced cells as the released guide's own fill.sh prints them over the translation 0d167153ce107143… (all of the seat's roots in one cut). By AI agents, Wed Nov 11 2026. No macro, syntax, notation, axiom, sorry.
-/
import Derived.Test.YtpgfafpjfdbjmaaDoorChecked
import GoSem.PinnedTables
import GoSem.Claim
import GoSem.ClaimJoined
import GoSem.ClaimMapViews
import Derived.JoinedTies
import Derived.KernelRfl
namespace Go.Proofs.YtpgfafpjfdbjmaaDoor
/- THE CELL 'sum', in the pinned program and in every row, IS THE sha256 OF THE DUMP (.gsa) THAT YtpgfafpjfdbjmaaDoorProg.lean LOADS. Nothing in Lean hashes anything: it is a label: what it is worth is what the hold of that sum in a sandbox is worth. -/
noncomputable def Tryd.pinned : Pinned := { name := "ytpgfafpjfdbjmaadoor", sum := "0d167153ce1071433221e268f17fb96390286a302c733a705064babc63b303f8", checked := Tryd.checked }
namespace Rows
def none {H : Type} : Left H := { results := [], args := [] }

/- WHAT THE LISTED PACKAGE-LEVEL VARIABLES READ AS WHEN THE CALL BEGINS. Each datum BY PROGRAM (the guide's laid-datum.mjs) off the statement by which the dump's own 'gosem.cut.vars' lays the variable. In a bare row this is a premise. The card (YtpgfafpjfdbjmaaDoorCards.lean) ties it to the program's text. -/
def laid_unicode_utf8_acceptRanges {H : Type} : DataW H := .agg [.agg [.lit (.int .u8 128), .lit (.int .u8 191)], .agg [.lit (.int .u8 160), .lit (.int .u8 191)], .agg [.lit (.int .u8 128), .lit (.int .u8 159)], .agg [.lit (.int .u8 144), .lit (.int .u8 191)], .agg [.lit (.int .u8 128), .lit (.int .u8 143)], .agg [.lit (.int .u8 0), .lit (.int .u8 0)], .agg [.lit (.int .u8 0), .lit (.int .u8 0)], .agg [.lit (.int .u8 0), .lit (.int .u8 0)], .agg [.lit (.int .u8 0), .lit (.int .u8 0)], .agg [.lit (.int .u8 0), .lit (.int .u8 0)], .agg [.lit (.int .u8 0), .lit (.int .u8 0)], .agg [.lit (.int .u8 0), .lit (.int .u8 0)], .agg [.lit (.int .u8 0), .lit (.int .u8 0)], .agg [.lit (.int .u8 0), .lit (.int .u8 0)], .agg [.lit (.int .u8 0), .lit (.int .u8 0)], .agg [.lit (.int .u8 0), .lit (.int .u8 0)]]
/-- One of Go's own tables, pinned by name: the form's constant. -/
def laid_unicode_utf8_first : DataW Unit := Go.Pinned.utf8First

/-- 'sluicegatelaw08.NeedleWrites': WHATEVER THE INPUT: true; the input reads as it did. -/
def needleWritesSpec : ChangeSpec := { name := "needleWrites", fn := fun _ => fun
  | [d] => { results := [.lit (.bool true)], args := [d] }
  | _ => none }
def needleWritesRow : OpenClaim := { program := "ytpgfafpjfdbjmaadoor", sum := "0d167153ce1071433221e268f17fb96390286a302c733a705064babc63b303f8", func := "sluicegate/sluicegatelaw08.NeedleWrites", spec := "needleWrites", inPlace := ["internal/abi.NoEscape", "internal/bytealg.MakeNoZero", "internal/bytealg.IndexByteString", "internal/bytealg.IndexString"], unfollowed := true, recurses := true, named := ["unicode/utf8.first", "unicode/utf8.acceptRanges", "internal/bytealg.MaxLen"], apart := false, laid := [("unicode/utf8.acceptRanges", laid_unicode_utf8_acceptRanges), ("unicode/utf8.first", laid_unicode_utf8_first)] }
def NeedleWritesSaid : Prop := needleWritesRow.holds Tryd.pinned (OpenSpec.ofChange needleWritesSpec)

/-- ITS FALSE NEIGHBOUR: 'it returns false'. Refute it at one input. -/
def needleWritesWrong : ChangeSpec := { name := "needleWrites", fn := fun _ => fun
  | [d] => { results := [.lit (.bool false)], args := [d] }
  | _ => none }
def NeedleWritesWrongFalsely : Prop := needleWritesRow.holds Tryd.pinned (OpenSpec.ofChange needleWritesWrong)

/-- 'sluicegatelaw08.NeedleReads': WHATEVER THE INPUT: true; the input reads as it did. -/
def needleReadsSpec : ChangeSpec := { name := "needleReads", fn := fun _ => fun
  | [d] => { results := [.lit (.bool true)], args := [d] }
  | _ => none }
def needleReadsRow : OpenClaim := { program := "ytpgfafpjfdbjmaadoor", sum := "0d167153ce1071433221e268f17fb96390286a302c733a705064babc63b303f8", func := "sluicegate/sluicegatelaw08.NeedleReads", spec := "needleReads", inPlace := ["internal/abi.NoEscape", "internal/bytealg.MakeNoZero", "internal/bytealg.IndexByteString", "internal/bytealg.IndexString"], unfollowed := true, recurses := true, named := ["unicode/utf8.first", "unicode/utf8.acceptRanges", "internal/bytealg.MaxLen"], apart := false, laid := [("unicode/utf8.acceptRanges", laid_unicode_utf8_acceptRanges), ("unicode/utf8.first", laid_unicode_utf8_first)] }
def NeedleReadsSaid : Prop := needleReadsRow.holds Tryd.pinned (OpenSpec.ofChange needleReadsSpec)

/-- ITS FALSE NEIGHBOUR: 'it returns false'. Refute it at one input. -/
def needleReadsWrong : ChangeSpec := { name := "needleReads", fn := fun _ => fun
  | [d] => { results := [.lit (.bool false)], args := [d] }
  | _ => none }
def NeedleReadsWrongFalsely : Prop := needleReadsRow.holds Tryd.pinned (OpenSpec.ofChange needleReadsWrong)

/-- 'sluicegatelaw08.NeedleShards': WHATEVER THE INPUT: true; the input reads as it did. -/
def needleShardsSpec : ChangeSpec := { name := "needleShards", fn := fun _ => fun
  | [d1, d2, d3] => { results := [.lit (.bool true)], args := [d1, d2, d3] }
  | _ => none }
def needleShardsRow : OpenClaim := { program := "ytpgfafpjfdbjmaadoor", sum := "0d167153ce1071433221e268f17fb96390286a302c733a705064babc63b303f8", func := "sluicegate/sluicegatelaw08.NeedleShards", spec := "needleShards", inPlace := ["internal/abi.NoEscape", "internal/bytealg.MakeNoZero", "internal/bytealg.IndexByteString", "internal/bytealg.IndexString"], unfollowed := true, recurses := true, named := ["unicode/utf8.first", "unicode/utf8.acceptRanges", "internal/bytealg.MaxLen"], apart := false, laid := [("unicode/utf8.acceptRanges", laid_unicode_utf8_acceptRanges), ("unicode/utf8.first", laid_unicode_utf8_first)] }
def NeedleShardsSaid : Prop := needleShardsRow.holds Tryd.pinned (OpenSpec.ofChange needleShardsSpec)

/-- ITS FALSE NEIGHBOUR: 'it returns false'. Refute it at one input. -/
def needleShardsWrong : ChangeSpec := { name := "needleShards", fn := fun _ => fun
  | [d1, d2, d3] => { results := [.lit (.bool false)], args := [d1, d2, d3] }
  | _ => none }
def NeedleShardsWrongFalsely : Prop := needleShardsRow.holds Tryd.pinned (OpenSpec.ofChange needleShardsWrong)

/-- 'sluicegatelaw08.NeedleBack': WHATEVER THE INPUT: true; the input reads as it did. -/
def needleBackSpec : ChangeSpec := { name := "needleBack", fn := fun _ => fun
  | [d] => { results := [.lit (.bool true)], args := [d] }
  | _ => none }
def needleBackRow : OpenClaim := { program := "ytpgfafpjfdbjmaadoor", sum := "0d167153ce1071433221e268f17fb96390286a302c733a705064babc63b303f8", func := "sluicegate/sluicegatelaw08.NeedleBack", spec := "needleBack", inPlace := ["internal/abi.NoEscape", "internal/bytealg.MakeNoZero", "internal/bytealg.IndexByteString", "internal/bytealg.IndexString"], unfollowed := true, recurses := true, named := ["unicode/utf8.first", "unicode/utf8.acceptRanges", "internal/bytealg.MaxLen"], apart := false, laid := [("unicode/utf8.acceptRanges", laid_unicode_utf8_acceptRanges), ("unicode/utf8.first", laid_unicode_utf8_first)] }
def NeedleBackSaid : Prop := needleBackRow.holds Tryd.pinned (OpenSpec.ofChange needleBackSpec)

/-- ITS FALSE NEIGHBOUR: 'it returns false'. Refute it at one input. -/
def needleBackWrong : ChangeSpec := { name := "needleBack", fn := fun _ => fun
  | [d] => { results := [.lit (.bool false)], args := [d] }
  | _ => none }
def NeedleBackWrongFalsely : Prop := needleBackRow.holds Tryd.pinned (OpenSpec.ofChange needleBackWrong)

/-- 'sluicegatelaw08.NeedleJoins': WHATEVER THE INPUT: true; the input reads as it did. -/
def needleJoinsSpec : ChangeSpec := { name := "needleJoins", fn := fun _ => fun
  | [d1, d2] => { results := [.lit (.bool true)], args := [d1, d2] }
  | _ => none }
def needleJoinsRow : OpenClaim := { program := "ytpgfafpjfdbjmaadoor", sum := "0d167153ce1071433221e268f17fb96390286a302c733a705064babc63b303f8", func := "sluicegate/sluicegatelaw08.NeedleJoins", spec := "needleJoins", inPlace := ["internal/abi.NoEscape", "internal/bytealg.MakeNoZero", "internal/bytealg.IndexByteString", "internal/bytealg.IndexString"], unfollowed := true, recurses := true, named := ["unicode/utf8.first", "unicode/utf8.acceptRanges", "internal/bytealg.MaxLen"], apart := false, laid := [("unicode/utf8.acceptRanges", laid_unicode_utf8_acceptRanges), ("unicode/utf8.first", laid_unicode_utf8_first)] }
def NeedleJoinsSaid : Prop := needleJoinsRow.holds Tryd.pinned (OpenSpec.ofChange needleJoinsSpec)

/-- ITS FALSE NEIGHBOUR: 'it returns false'. Refute it at one input. -/
def needleJoinsWrong : ChangeSpec := { name := "needleJoins", fn := fun _ => fun
  | [d1, d2] => { results := [.lit (.bool false)], args := [d1, d2] }
  | _ => none }
def NeedleJoinsWrongFalsely : Prop := needleJoinsRow.holds Tryd.pinned (OpenSpec.ofChange needleJoinsWrong)

/-- 'sluicegatelaw08.NeedleApart': WHATEVER THE INPUT: true; the input reads as it did. -/
def needleApartSpec : ChangeSpec := { name := "needleApart", fn := fun _ => fun
  | [d1, d2] => { results := [.lit (.bool true)], args := [d1, d2] }
  | _ => none }
def needleApartRow : OpenClaim := { program := "ytpgfafpjfdbjmaadoor", sum := "0d167153ce1071433221e268f17fb96390286a302c733a705064babc63b303f8", func := "sluicegate/sluicegatelaw08.NeedleApart", spec := "needleApart", inPlace := ["internal/abi.NoEscape", "internal/bytealg.MakeNoZero", "internal/bytealg.IndexByteString", "internal/bytealg.IndexString"], unfollowed := true, recurses := true, named := ["unicode/utf8.first", "unicode/utf8.acceptRanges", "internal/bytealg.MaxLen"], apart := false, laid := [("unicode/utf8.acceptRanges", laid_unicode_utf8_acceptRanges), ("unicode/utf8.first", laid_unicode_utf8_first)] }
def NeedleApartSaid : Prop := needleApartRow.holds Tryd.pinned (OpenSpec.ofChange needleApartSpec)

/-- ITS FALSE NEIGHBOUR: 'it returns false'. Refute it at one input. -/
def needleApartWrong : ChangeSpec := { name := "needleApart", fn := fun _ => fun
  | [d1, d2] => { results := [.lit (.bool false)], args := [d1, d2] }
  | _ => none }
def NeedleApartWrongFalsely : Prop := needleApartRow.holds Tryd.pinned (OpenSpec.ofChange needleApartWrong)

/- THE SECOND FORM. 'bulk': how many values and letters a reading holds, each counted each time it is reached (what is shared counts as often as it is met; a slice's spare places count too). A statement '..UptoSaid' is the law's where the arguments, and the package variables that the reading takes, are together of bulk at most 1048576: NARROWER than '..Said'. Prove '..Said' where nothing that the law and all that it calls make is longer than what came in: it says more and counts as full. Else prove '..UptoSaid'. A law counts once. -/
mutual
def uptoBulk {H : Type} : DataW H → Nat
  | .lit (.string bytes) => bytes.length + 1
  | .lit _ => 1
  | .nil => 1
  | .ptr d => uptoBulk d + 1
  | .slice elems spare => uptoBulkAll elems + uptoBulkAll spare + 1
  | .agg parts => uptoBulkAll parts + 1
  | .iface _ d => uptoBulk d + 1
  | .map entries => uptoBulkEntries entries + 1
  | .held _ => 1
def uptoBulkAll {H : Type} : List (DataW H) → Nat
  | [] => 0
  | d :: r => uptoBulk d + uptoBulkAll r
def uptoBulkEntries {H : Type} : List (Lit × DataW H) → Nat
  | [] => 0
  | x :: r => uptoBulkEntry x + uptoBulkEntries r
def uptoBulkEntry {H : Type} : Lit × DataW H → Nat
  | (.string bytes, d) => bytes.length + uptoBulk d + 1
  | (_, d) => uptoBulk d + 1
 end
def uptoSmall : (H : Type) → List (DataW H) → Bool := fun _ ds => decide (uptoBulkAll ds ≤ 1048576)
def OpenSpec.upto (s : _root_.Go.ChangeSpec) : _root_.Go.OpenSpec := { _root_.Go.OpenSpec.ofChange s with cond := some uptoSmall }

/-- 'sluicegatelaw08.NeedleWrites', WHERE WHAT IT READS IS OF BULK AT MOST 1048576: true; the input reads as it did. -/
def needleWritesUptoRow : OpenClaim := { program := "ytpgfafpjfdbjmaadoor", sum := "0d167153ce1071433221e268f17fb96390286a302c733a705064babc63b303f8", func := "sluicegate/sluicegatelaw08.NeedleWrites", spec := "needleWrites", inPlace := ["internal/abi.NoEscape", "internal/bytealg.MakeNoZero", "internal/bytealg.IndexByteString", "internal/bytealg.IndexString"], unfollowed := true, recurses := true, named := ["unicode/utf8.first", "unicode/utf8.acceptRanges", "internal/bytealg.MaxLen"], apart := false, laid := [("unicode/utf8.acceptRanges", laid_unicode_utf8_acceptRanges), ("unicode/utf8.first", laid_unicode_utf8_first)], narrowed := true }
def NeedleWritesUptoSaid : Prop := needleWritesUptoRow.holds Tryd.pinned (OpenSpec.upto needleWritesSpec)

/-- 'sluicegatelaw08.NeedleReads', WHERE WHAT IT READS IS OF BULK AT MOST 1048576: true; the input reads as it did. -/
def needleReadsUptoRow : OpenClaim := { program := "ytpgfafpjfdbjmaadoor", sum := "0d167153ce1071433221e268f17fb96390286a302c733a705064babc63b303f8", func := "sluicegate/sluicegatelaw08.NeedleReads", spec := "needleReads", inPlace := ["internal/abi.NoEscape", "internal/bytealg.MakeNoZero", "internal/bytealg.IndexByteString", "internal/bytealg.IndexString"], unfollowed := true, recurses := true, named := ["unicode/utf8.first", "unicode/utf8.acceptRanges", "internal/bytealg.MaxLen"], apart := false, laid := [("unicode/utf8.acceptRanges", laid_unicode_utf8_acceptRanges), ("unicode/utf8.first", laid_unicode_utf8_first)], narrowed := true }
def NeedleReadsUptoSaid : Prop := needleReadsUptoRow.holds Tryd.pinned (OpenSpec.upto needleReadsSpec)

/-- 'sluicegatelaw08.NeedleShards', WHERE WHAT IT READS IS OF BULK AT MOST 1048576: true; the input reads as it did. -/
def needleShardsUptoRow : OpenClaim := { program := "ytpgfafpjfdbjmaadoor", sum := "0d167153ce1071433221e268f17fb96390286a302c733a705064babc63b303f8", func := "sluicegate/sluicegatelaw08.NeedleShards", spec := "needleShards", inPlace := ["internal/abi.NoEscape", "internal/bytealg.MakeNoZero", "internal/bytealg.IndexByteString", "internal/bytealg.IndexString"], unfollowed := true, recurses := true, named := ["unicode/utf8.first", "unicode/utf8.acceptRanges", "internal/bytealg.MaxLen"], apart := false, laid := [("unicode/utf8.acceptRanges", laid_unicode_utf8_acceptRanges), ("unicode/utf8.first", laid_unicode_utf8_first)], narrowed := true }
def NeedleShardsUptoSaid : Prop := needleShardsUptoRow.holds Tryd.pinned (OpenSpec.upto needleShardsSpec)

/-- 'sluicegatelaw08.NeedleBack', WHERE WHAT IT READS IS OF BULK AT MOST 1048576: true; the input reads as it did. -/
def needleBackUptoRow : OpenClaim := { program := "ytpgfafpjfdbjmaadoor", sum := "0d167153ce1071433221e268f17fb96390286a302c733a705064babc63b303f8", func := "sluicegate/sluicegatelaw08.NeedleBack", spec := "needleBack", inPlace := ["internal/abi.NoEscape", "internal/bytealg.MakeNoZero", "internal/bytealg.IndexByteString", "internal/bytealg.IndexString"], unfollowed := true, recurses := true, named := ["unicode/utf8.first", "unicode/utf8.acceptRanges", "internal/bytealg.MaxLen"], apart := false, laid := [("unicode/utf8.acceptRanges", laid_unicode_utf8_acceptRanges), ("unicode/utf8.first", laid_unicode_utf8_first)], narrowed := true }
def NeedleBackUptoSaid : Prop := needleBackUptoRow.holds Tryd.pinned (OpenSpec.upto needleBackSpec)

/-- 'sluicegatelaw08.NeedleJoins', WHERE WHAT IT READS IS OF BULK AT MOST 1048576: true; the input reads as it did. -/
def needleJoinsUptoRow : OpenClaim := { program := "ytpgfafpjfdbjmaadoor", sum := "0d167153ce1071433221e268f17fb96390286a302c733a705064babc63b303f8", func := "sluicegate/sluicegatelaw08.NeedleJoins", spec := "needleJoins", inPlace := ["internal/abi.NoEscape", "internal/bytealg.MakeNoZero", "internal/bytealg.IndexByteString", "internal/bytealg.IndexString"], unfollowed := true, recurses := true, named := ["unicode/utf8.first", "unicode/utf8.acceptRanges", "internal/bytealg.MaxLen"], apart := false, laid := [("unicode/utf8.acceptRanges", laid_unicode_utf8_acceptRanges), ("unicode/utf8.first", laid_unicode_utf8_first)], narrowed := true }
def NeedleJoinsUptoSaid : Prop := needleJoinsUptoRow.holds Tryd.pinned (OpenSpec.upto needleJoinsSpec)

/-- 'sluicegatelaw08.NeedleApart', WHERE WHAT IT READS IS OF BULK AT MOST 1048576: true; the input reads as it did. -/
def needleApartUptoRow : OpenClaim := { program := "ytpgfafpjfdbjmaadoor", sum := "0d167153ce1071433221e268f17fb96390286a302c733a705064babc63b303f8", func := "sluicegate/sluicegatelaw08.NeedleApart", spec := "needleApart", inPlace := ["internal/abi.NoEscape", "internal/bytealg.MakeNoZero", "internal/bytealg.IndexByteString", "internal/bytealg.IndexString"], unfollowed := true, recurses := true, named := ["unicode/utf8.first", "unicode/utf8.acceptRanges", "internal/bytealg.MaxLen"], apart := false, laid := [("unicode/utf8.acceptRanges", laid_unicode_utf8_acceptRanges), ("unicode/utf8.first", laid_unicode_utf8_first)], narrowed := true }
def NeedleApartUptoSaid : Prop := needleApartUptoRow.holds Tryd.pinned (OpenSpec.upto needleApartSpec)

end Rows
end Go.Proofs.YtpgfafpjfdbjmaaDoor
