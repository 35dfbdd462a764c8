/-
  DERIVED. GIVEN WITH THE SEED: THE CARDS: each row of YtaopfcpeloodbaaDoorRows.lean that lists a variable, with what it lists TIED to the program's text (the seventh form; the later family's looks); each row that meets fmt, with fmt's text TOLD by the authors' own Lean function (tested against real Go, not proved from fmt's source: count such statements apart). THE CARD IS WHAT COUNTS. Prove the row's statement (the work); the ties are given (YtaopfcpeloodbaaDoorTie.lean); close each card by the builder's one call (the guide's Derived/Test/ToyasCard.lean, 'card_holds'). Laid BY PROGRAM, IN A SANDBOX (cutbox-door.mjs). By AI agents, Wed Nov 11 2026. No macro, syntax, notation, axiom, sorry.
-/
import Derived.Test.YtaopfcpeloodbaaDoorRows
import GoSem.ClaimSeven
namespace Go.Proofs.YtaopfcpeloodbaaDoor
namespace Rows

/-- THE TIED CARD OF 'tollhouselaw31.ReportWebs'. -/
def reportWebsCard : Claim7 := { stood := { row := reportWebsRow, standIns := [], harness := (true, "2fa383ee22cf58e65f2e8c8896b43b9184ab41463676d8a67e9d9e7cd4f41ce0"), looks := false }, kinds := [], alts := [], laidByText := true, laidKinds := [.data, .data, .data], laidTests := true, laidLooks := .later }
def ReportWebsCardSaid : Prop := Claim7.holds Tryd.pinned (.plain (OpenSpec.ofChange reportWebsSpec)) reportWebsCard

/-- THE SECOND FORM's CARD OF 'tollhouselaw31.ReportWebs'. -/
def reportWebsUptoCard : Claim7 := { stood := { row := reportWebsUptoRow, standIns := [], harness := (true, "2fa383ee22cf58e65f2e8c8896b43b9184ab41463676d8a67e9d9e7cd4f41ce0"), looks := false }, kinds := [], alts := [], laidByText := true, laidKinds := [.data, .data, .data], laidTests := true, laidLooks := .later }
def ReportWebsUptoCardSaid : Prop := Claim7.holds Tryd.pinned (.plain (OpenSpec.upto reportWebsSpec)) reportWebsUptoCard
end Rows
end Go.Proofs.YtaopfcpeloodbaaDoor
