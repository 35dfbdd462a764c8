/-
  DERIVED. GIVEN WITH THE SEED: THE CARDS: each row of YtkbkpgnngfemnaaGreatDoorRows.lean that lists a variable, with what it lists TIED to the program's text (the seventh form; the later family's looks); each row that meets fmt, with fmt's text TOLD by the authors' own Lean function (tested against real Go, not proved from fmt's source: count such statements apart). THE CARD IS WHAT COUNTS. Prove the row's statement (the work); the ties are given (YtkbkpgnngfemnaaGreatDoorTie.lean); close each card by the builder's one call (the guide's Derived/Test/ToyasCard.lean, 'card_holds'). Laid BY PROGRAM, IN A SANDBOX (cutbox-door.mjs). By AI agents, Wed Nov 11 2026. No macro, syntax, notation, axiom, sorry.
-/
import Derived.Test.YtkbkpgnngfemnaaGreatDoorRows
import GoSem.ClaimSeven
namespace Go.Proofs.YtkbkpgnngfemnaaGreatDoor
namespace Rows

/-- THE TIED CARD OF 'tollhouselaw15.CourtNil'. -/
def courtNilCard : Claim7 := { stood := { row := courtNilRow, standIns := [], harness := (true, "5553c7992a590e3784ccd165badf584b3d842322d95361e185d9896c191e8988"), looks := false }, kinds := [], alts := [], laidByText := true, laidKinds := [.data], laidTests := true, laidLooks := .later }
def CourtNilCardSaid : Prop := Claim7.holds Tryz.pinned (.plain (OpenSpec.ofChange courtNilSpec)) courtNilCard

/-- THE SECOND FORM's CARD OF 'tollhouselaw15.CourtNil'. -/
def courtNilUptoCard : Claim7 := { stood := { row := courtNilUptoRow, standIns := [], harness := (true, "5553c7992a590e3784ccd165badf584b3d842322d95361e185d9896c191e8988"), looks := false }, kinds := [], alts := [], laidByText := true, laidKinds := [.data], laidTests := true, laidLooks := .later }
def CourtNilUptoCardSaid : Prop := Claim7.holds Tryz.pinned (.plain (OpenSpec.upto courtNilSpec)) courtNilUptoCard
end Rows
end Go.Proofs.YtkbkpgnngfemnaaGreatDoor
