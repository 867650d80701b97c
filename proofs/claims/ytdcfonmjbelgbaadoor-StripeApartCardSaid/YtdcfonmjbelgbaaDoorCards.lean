/-
  DERIVED. GIVEN WITH THE SEED: THE CARDS: each row of YtdcfonmjbelgbaaDoorRows.lean that lists a variable, with what it lists TIED to the program's text (the seventh form; the later family's looks); each row that meets fmt, with fmt's text TOLD by the authors' own Lean function (tested against real Go, not proved from fmt's source: count such statements apart). THE CARD IS WHAT COUNTS. Prove the row's statement (the work); the ties are given (YtdcfonmjbelgbaaDoorTie.lean); close each card by the builder's one call (the guide's Derived/Test/ToyasCard.lean, 'card_holds'). Laid BY PROGRAM, IN A SANDBOX (cutbox-door.mjs). By AI agents, Wed Nov 11 2026. No macro, syntax, notation, axiom, sorry.
-/
import Derived.Test.YtdcfonmjbelgbaaDoorRows
import GoSem.ClaimSeven
namespace Go.Proofs.YtdcfonmjbelgbaaDoor
namespace Rows

/-- THE TIED CARD OF 'sluicegatelaw19.StripeBack'. -/
def stripeBackCard : Claim7 := { stood := { row := stripeBackRow, standIns := [], harness := (true, "edad106375111b373c443264dbf8935b411e029e2bb206316aea2779b076d018"), looks := false }, kinds := [], alts := [], laidByText := true, laidKinds := [.data, .pinned], laidTests := true, laidLooks := .later }
def StripeBackCardSaid : Prop := Claim7.holds Tryd.pinned (.plain (OpenSpec.ofChange stripeBackSpec)) stripeBackCard

/-- THE TIED CARD OF 'sluicegatelaw19.StripeEnds'. -/
def stripeEndsCard : Claim7 := { stood := { row := stripeEndsRow, standIns := [], harness := (true, "edad106375111b373c443264dbf8935b411e029e2bb206316aea2779b076d018"), looks := false }, kinds := [], alts := [], laidByText := true, laidKinds := [.data, .pinned], laidTests := true, laidLooks := .later }
def StripeEndsCardSaid : Prop := Claim7.holds Tryd.pinned (.plain (OpenSpec.ofChange stripeEndsSpec)) stripeEndsCard

/-- THE TIED CARD OF 'sluicegatelaw19.StripeApart'. -/
def stripeApartCard : Claim7 := { stood := { row := stripeApartRow, standIns := [], harness := (true, "edad106375111b373c443264dbf8935b411e029e2bb206316aea2779b076d018"), looks := false }, kinds := [], alts := [], laidByText := true, laidKinds := [.data, .pinned], laidTests := true, laidLooks := .later }
def StripeApartCardSaid : Prop := Claim7.holds Tryd.pinned (.plain (OpenSpec.ofChange stripeApartSpec)) stripeApartCard

/-- THE SECOND FORM's CARD OF 'sluicegatelaw19.StripeBack'. -/
def stripeBackUptoCard : Claim7 := { stood := { row := stripeBackUptoRow, standIns := [], harness := (true, "edad106375111b373c443264dbf8935b411e029e2bb206316aea2779b076d018"), looks := false }, kinds := [], alts := [], laidByText := true, laidKinds := [.data, .pinned], laidTests := true, laidLooks := .later }
def StripeBackUptoCardSaid : Prop := Claim7.holds Tryd.pinned (.plain (OpenSpec.upto stripeBackSpec)) stripeBackUptoCard

/-- THE SECOND FORM's CARD OF 'sluicegatelaw19.StripeEnds'. -/
def stripeEndsUptoCard : Claim7 := { stood := { row := stripeEndsUptoRow, standIns := [], harness := (true, "edad106375111b373c443264dbf8935b411e029e2bb206316aea2779b076d018"), looks := false }, kinds := [], alts := [], laidByText := true, laidKinds := [.data, .pinned], laidTests := true, laidLooks := .later }
def StripeEndsUptoCardSaid : Prop := Claim7.holds Tryd.pinned (.plain (OpenSpec.upto stripeEndsSpec)) stripeEndsUptoCard

/-- THE SECOND FORM's CARD OF 'sluicegatelaw19.StripeApart'. -/
def stripeApartUptoCard : Claim7 := { stood := { row := stripeApartUptoRow, standIns := [], harness := (true, "edad106375111b373c443264dbf8935b411e029e2bb206316aea2779b076d018"), looks := false }, kinds := [], alts := [], laidByText := true, laidKinds := [.data, .pinned], laidTests := true, laidLooks := .later }
def StripeApartUptoCardSaid : Prop := Claim7.holds Tryd.pinned (.plain (OpenSpec.upto stripeApartSpec)) stripeApartUptoCard
end Rows
end Go.Proofs.YtdcfonmjbelgbaaDoor
