/-
  DERIVED. GIVEN WITH THE SEED: THE CARDS: each row of YtdcfonmjbelgbaaGreatDoorRows.lean that lists a variable, with what it lists TIED to the program's text (the seventh form; the later family's looks); each row that meets fmt, with fmt's text TOLD by the authors' own Lean function (tested against real Go, not proved from fmt's source: count such statements apart). THE CARD IS WHAT COUNTS. Prove the row's statement (the work); the ties are given (YtdcfonmjbelgbaaGreatDoorTie.lean); close each card by the builder's one call (the guide's Derived/Test/ToyasCard.lean, 'card_holds'). Laid BY PROGRAM, IN A SANDBOX (cutbox-door.mjs). By AI agents, Wed Nov 11 2026. No macro, syntax, notation, axiom, sorry.
-/
import Derived.Test.YtdcfonmjbelgbaaGreatDoorRows
import GoSem.ClaimSeven
namespace Go.Proofs.YtdcfonmjbelgbaaGreatDoor
namespace Rows

/-- THE TIED CARD OF 'sluicegatelaw19.StripeWrites'. -/
def stripeWritesCard : Claim7 := { stood := { row := stripeWritesRow, standIns := [], harness := (true, "010525d9a077ac9968a68c3a9cbab5abbec437b6e1857b0afc3e68369dbecded"), looks := false }, kinds := [], alts := [], laidByText := true, laidKinds := [.data, .pinned], laidTests := true, laidLooks := .later }
def StripeWritesCardSaid : Prop := Claim7.holds Tryz.pinned (.plain (OpenSpec.ofChange stripeWritesSpec)) stripeWritesCard

/-- THE TIED CARD OF 'sluicegatelaw19.StripeTexts'. -/
def stripeTextsCard : Claim7 := { stood := { row := stripeTextsRow, standIns := [], harness := (true, "010525d9a077ac9968a68c3a9cbab5abbec437b6e1857b0afc3e68369dbecded"), looks := false }, kinds := [], alts := [], laidByText := true, laidKinds := [.data, .pinned], laidTests := true, laidLooks := .later }
def StripeTextsCardSaid : Prop := Claim7.holds Tryz.pinned (.plain (OpenSpec.ofChange stripeTextsSpec)) stripeTextsCard

/-- THE TIED CARD OF 'sluicegatelaw19.StripeReads'. -/
def stripeReadsCard : Claim7 := { stood := { row := stripeReadsRow, standIns := [], harness := (true, "010525d9a077ac9968a68c3a9cbab5abbec437b6e1857b0afc3e68369dbecded"), looks := false }, kinds := [], alts := [], laidByText := true, laidKinds := [.data, .pinned], laidTests := true, laidLooks := .later }
def StripeReadsCardSaid : Prop := Claim7.holds Tryz.pinned (.plain (OpenSpec.ofChange stripeReadsSpec)) stripeReadsCard

/-- THE SECOND FORM's CARD OF 'sluicegatelaw19.StripeWrites'. -/
def stripeWritesUptoCard : Claim7 := { stood := { row := stripeWritesUptoRow, standIns := [], harness := (true, "010525d9a077ac9968a68c3a9cbab5abbec437b6e1857b0afc3e68369dbecded"), looks := false }, kinds := [], alts := [], laidByText := true, laidKinds := [.data, .pinned], laidTests := true, laidLooks := .later }
def StripeWritesUptoCardSaid : Prop := Claim7.holds Tryz.pinned (.plain (OpenSpec.upto stripeWritesSpec)) stripeWritesUptoCard

/-- THE SECOND FORM's CARD OF 'sluicegatelaw19.StripeTexts'. -/
def stripeTextsUptoCard : Claim7 := { stood := { row := stripeTextsUptoRow, standIns := [], harness := (true, "010525d9a077ac9968a68c3a9cbab5abbec437b6e1857b0afc3e68369dbecded"), looks := false }, kinds := [], alts := [], laidByText := true, laidKinds := [.data, .pinned], laidTests := true, laidLooks := .later }
def StripeTextsUptoCardSaid : Prop := Claim7.holds Tryz.pinned (.plain (OpenSpec.upto stripeTextsSpec)) stripeTextsUptoCard

/-- THE SECOND FORM's CARD OF 'sluicegatelaw19.StripeReads'. -/
def stripeReadsUptoCard : Claim7 := { stood := { row := stripeReadsUptoRow, standIns := [], harness := (true, "010525d9a077ac9968a68c3a9cbab5abbec437b6e1857b0afc3e68369dbecded"), looks := false }, kinds := [], alts := [], laidByText := true, laidKinds := [.data, .pinned], laidTests := true, laidLooks := .later }
def StripeReadsUptoCardSaid : Prop := Claim7.holds Tryz.pinned (.plain (OpenSpec.upto stripeReadsSpec)) stripeReadsUptoCard
end Rows
end Go.Proofs.YtdcfonmjbelgbaaGreatDoor
