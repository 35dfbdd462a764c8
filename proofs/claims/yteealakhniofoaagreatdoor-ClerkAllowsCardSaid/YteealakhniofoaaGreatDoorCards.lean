/-
  DERIVED. GIVEN WITH THE SEED: THE CARDS: each row of YteealakhniofoaaGreatDoorRows.lean that lists a variable, with what it lists TIED to the program's text (the seventh form; the later family's looks); each row that meets fmt, with fmt's text TOLD by the authors' own Lean function (tested against real Go, not proved from fmt's source: count such statements apart). THE CARD IS WHAT COUNTS. Prove the row's statement (the work); the ties are given (YteealakhniofoaaGreatDoorTie.lean); close each card by the builder's one call (the guide's Derived/Test/ToyasCard.lean, 'card_holds'). Laid BY PROGRAM, IN A SANDBOX (cutbox-door.mjs). By AI agents, Wed Nov 11 2026. No macro, syntax, notation, axiom, sorry.
-/
import Derived.Test.YteealakhniofoaaGreatDoorRows
import GoSem.ClaimSeven
namespace Go.Proofs.YteealakhniofoaaGreatDoor
namespace Rows

/-- THE TIED CARD OF 'tollhouselaw20.ClerkGifts'. -/
def clerkGiftsCard : Claim7 := { stood := { row := clerkGiftsRow, standIns := [], harness := (true, "3ba69083e5bc9f79dd88937796ccf0ba51c9a2cfb05909d46b9403cbba981755"), looks := false }, kinds := [], alts := [], laidByText := true, laidKinds := [.data], laidTests := true, laidLooks := .later }
def ClerkGiftsCardSaid : Prop := Claim7.holds Tryz.pinned (.plain (OpenSpec.ofChange clerkGiftsSpec)) clerkGiftsCard

/-- THE TIED CARD OF 'tollhouselaw20.ClerkAllows'. -/
def clerkAllowsCard : Claim7 := { stood := { row := clerkAllowsRow, standIns := [], harness := (true, "3ba69083e5bc9f79dd88937796ccf0ba51c9a2cfb05909d46b9403cbba981755"), looks := false }, kinds := [], alts := [], laidByText := true, laidKinds := [.data], laidTests := true, laidLooks := .later }
def ClerkAllowsCardSaid : Prop := Claim7.holds Tryz.pinned (.plain (OpenSpec.ofChange clerkAllowsSpec)) clerkAllowsCard

/-- THE SECOND FORM's CARD OF 'tollhouselaw20.ClerkGifts'. -/
def clerkGiftsUptoCard : Claim7 := { stood := { row := clerkGiftsUptoRow, standIns := [], harness := (true, "3ba69083e5bc9f79dd88937796ccf0ba51c9a2cfb05909d46b9403cbba981755"), looks := false }, kinds := [], alts := [], laidByText := true, laidKinds := [.data], laidTests := true, laidLooks := .later }
def ClerkGiftsUptoCardSaid : Prop := Claim7.holds Tryz.pinned (.plain (OpenSpec.upto clerkGiftsSpec)) clerkGiftsUptoCard

/-- THE SECOND FORM's CARD OF 'tollhouselaw20.ClerkAllows'. -/
def clerkAllowsUptoCard : Claim7 := { stood := { row := clerkAllowsUptoRow, standIns := [], harness := (true, "3ba69083e5bc9f79dd88937796ccf0ba51c9a2cfb05909d46b9403cbba981755"), looks := false }, kinds := [], alts := [], laidByText := true, laidKinds := [.data], laidTests := true, laidLooks := .later }
def ClerkAllowsUptoCardSaid : Prop := Claim7.holds Tryz.pinned (.plain (OpenSpec.upto clerkAllowsSpec)) clerkAllowsUptoCard
end Rows
end Go.Proofs.YteealakhniofoaaGreatDoor
