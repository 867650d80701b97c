/-
  DERIVED. GIVEN WITH THE SEED: THE CARDS: each row of YtpgfafpjfdbjmaaDoorRows.lean that lists a variable, with what it lists TIED to the program's text (the seventh form; the later family's looks); each row that meets fmt, with fmt's text TOLD by the authors' own Lean function (tested against real Go, not proved from fmt's source: count such statements apart). THE CARD IS WHAT COUNTS. Prove the row's statement (the work); the ties are given (YtpgfafpjfdbjmaaDoorTie.lean); close each card by the builder's one call (the guide's Derived/Test/ToyasCard.lean, 'card_holds'). Laid BY PROGRAM, IN A SANDBOX (cutbox-door.mjs). By AI agents, Wed Nov 11 2026. No macro, syntax, notation, axiom, sorry.
-/
import Derived.Test.YtpgfafpjfdbjmaaDoorRows
import GoSem.ClaimSeven
namespace Go.Proofs.YtpgfafpjfdbjmaaDoor
namespace Rows

/-- THE TIED CARD OF 'sluicegatelaw08.NeedleWrites'. -/
def needleWritesCard : Claim7 := { stood := { row := needleWritesRow, standIns := [], harness := (true, "46e661af36362b1286c7af3f33680ec8e1de646b3ba98a97ffc03af20a4705ce"), looks := false }, kinds := [], alts := [], laidByText := true, laidKinds := [.data, .pinned], laidTests := true, laidLooks := .later }
def NeedleWritesCardSaid : Prop := Claim7.holds Tryd.pinned (.plain (OpenSpec.ofChange needleWritesSpec)) needleWritesCard

/-- THE TIED CARD OF 'sluicegatelaw08.NeedleReads'. -/
def needleReadsCard : Claim7 := { stood := { row := needleReadsRow, standIns := [], harness := (true, "46e661af36362b1286c7af3f33680ec8e1de646b3ba98a97ffc03af20a4705ce"), looks := false }, kinds := [], alts := [], laidByText := true, laidKinds := [.data, .pinned], laidTests := true, laidLooks := .later }
def NeedleReadsCardSaid : Prop := Claim7.holds Tryd.pinned (.plain (OpenSpec.ofChange needleReadsSpec)) needleReadsCard

/-- THE TIED CARD OF 'sluicegatelaw08.NeedleShards'. -/
def needleShardsCard : Claim7 := { stood := { row := needleShardsRow, standIns := [], harness := (true, "46e661af36362b1286c7af3f33680ec8e1de646b3ba98a97ffc03af20a4705ce"), looks := false }, kinds := [], alts := [], laidByText := true, laidKinds := [.data, .pinned], laidTests := true, laidLooks := .later }
def NeedleShardsCardSaid : Prop := Claim7.holds Tryd.pinned (.plain (OpenSpec.ofChange needleShardsSpec)) needleShardsCard

/-- THE TIED CARD OF 'sluicegatelaw08.NeedleBack'. -/
def needleBackCard : Claim7 := { stood := { row := needleBackRow, standIns := [], harness := (true, "46e661af36362b1286c7af3f33680ec8e1de646b3ba98a97ffc03af20a4705ce"), looks := false }, kinds := [], alts := [], laidByText := true, laidKinds := [.data, .pinned], laidTests := true, laidLooks := .later }
def NeedleBackCardSaid : Prop := Claim7.holds Tryd.pinned (.plain (OpenSpec.ofChange needleBackSpec)) needleBackCard

/-- THE TIED CARD OF 'sluicegatelaw08.NeedleJoins'. -/
def needleJoinsCard : Claim7 := { stood := { row := needleJoinsRow, standIns := [], harness := (true, "46e661af36362b1286c7af3f33680ec8e1de646b3ba98a97ffc03af20a4705ce"), looks := false }, kinds := [], alts := [], laidByText := true, laidKinds := [.data, .pinned], laidTests := true, laidLooks := .later }
def NeedleJoinsCardSaid : Prop := Claim7.holds Tryd.pinned (.plain (OpenSpec.ofChange needleJoinsSpec)) needleJoinsCard

/-- THE TIED CARD OF 'sluicegatelaw08.NeedleApart'. -/
def needleApartCard : Claim7 := { stood := { row := needleApartRow, standIns := [], harness := (true, "46e661af36362b1286c7af3f33680ec8e1de646b3ba98a97ffc03af20a4705ce"), looks := false }, kinds := [], alts := [], laidByText := true, laidKinds := [.data, .pinned], laidTests := true, laidLooks := .later }
def NeedleApartCardSaid : Prop := Claim7.holds Tryd.pinned (.plain (OpenSpec.ofChange needleApartSpec)) needleApartCard

/-- THE SECOND FORM's CARD OF 'sluicegatelaw08.NeedleWrites'. -/
def needleWritesUptoCard : Claim7 := { stood := { row := needleWritesUptoRow, standIns := [], harness := (true, "46e661af36362b1286c7af3f33680ec8e1de646b3ba98a97ffc03af20a4705ce"), looks := false }, kinds := [], alts := [], laidByText := true, laidKinds := [.data, .pinned], laidTests := true, laidLooks := .later }
def NeedleWritesUptoCardSaid : Prop := Claim7.holds Tryd.pinned (.plain (OpenSpec.upto needleWritesSpec)) needleWritesUptoCard

/-- THE SECOND FORM's CARD OF 'sluicegatelaw08.NeedleReads'. -/
def needleReadsUptoCard : Claim7 := { stood := { row := needleReadsUptoRow, standIns := [], harness := (true, "46e661af36362b1286c7af3f33680ec8e1de646b3ba98a97ffc03af20a4705ce"), looks := false }, kinds := [], alts := [], laidByText := true, laidKinds := [.data, .pinned], laidTests := true, laidLooks := .later }
def NeedleReadsUptoCardSaid : Prop := Claim7.holds Tryd.pinned (.plain (OpenSpec.upto needleReadsSpec)) needleReadsUptoCard

/-- THE SECOND FORM's CARD OF 'sluicegatelaw08.NeedleShards'. -/
def needleShardsUptoCard : Claim7 := { stood := { row := needleShardsUptoRow, standIns := [], harness := (true, "46e661af36362b1286c7af3f33680ec8e1de646b3ba98a97ffc03af20a4705ce"), looks := false }, kinds := [], alts := [], laidByText := true, laidKinds := [.data, .pinned], laidTests := true, laidLooks := .later }
def NeedleShardsUptoCardSaid : Prop := Claim7.holds Tryd.pinned (.plain (OpenSpec.upto needleShardsSpec)) needleShardsUptoCard

/-- THE SECOND FORM's CARD OF 'sluicegatelaw08.NeedleBack'. -/
def needleBackUptoCard : Claim7 := { stood := { row := needleBackUptoRow, standIns := [], harness := (true, "46e661af36362b1286c7af3f33680ec8e1de646b3ba98a97ffc03af20a4705ce"), looks := false }, kinds := [], alts := [], laidByText := true, laidKinds := [.data, .pinned], laidTests := true, laidLooks := .later }
def NeedleBackUptoCardSaid : Prop := Claim7.holds Tryd.pinned (.plain (OpenSpec.upto needleBackSpec)) needleBackUptoCard

/-- THE SECOND FORM's CARD OF 'sluicegatelaw08.NeedleJoins'. -/
def needleJoinsUptoCard : Claim7 := { stood := { row := needleJoinsUptoRow, standIns := [], harness := (true, "46e661af36362b1286c7af3f33680ec8e1de646b3ba98a97ffc03af20a4705ce"), looks := false }, kinds := [], alts := [], laidByText := true, laidKinds := [.data, .pinned], laidTests := true, laidLooks := .later }
def NeedleJoinsUptoCardSaid : Prop := Claim7.holds Tryd.pinned (.plain (OpenSpec.upto needleJoinsSpec)) needleJoinsUptoCard

/-- THE SECOND FORM's CARD OF 'sluicegatelaw08.NeedleApart'. -/
def needleApartUptoCard : Claim7 := { stood := { row := needleApartUptoRow, standIns := [], harness := (true, "46e661af36362b1286c7af3f33680ec8e1de646b3ba98a97ffc03af20a4705ce"), looks := false }, kinds := [], alts := [], laidByText := true, laidKinds := [.data, .pinned], laidTests := true, laidLooks := .later }
def NeedleApartUptoCardSaid : Prop := Claim7.holds Tryd.pinned (.plain (OpenSpec.upto needleApartSpec)) needleApartUptoCard
end Rows
end Go.Proofs.YtpgfafpjfdbjmaaDoor
