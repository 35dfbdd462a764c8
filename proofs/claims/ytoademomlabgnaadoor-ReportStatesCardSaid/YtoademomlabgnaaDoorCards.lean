/-
  DERIVED. GIVEN WITH THE SEED: THE CARDS: each row of YtoademomlabgnaaDoorRows.lean that lists a variable, with what it lists TIED to the program's text (the seventh form; the later family's looks); each row that meets fmt, with fmt's text TOLD by the authors' own Lean function (tested against real Go, not proved from fmt's source: count such statements apart). THE CARD IS WHAT COUNTS. Prove the row's statement (the work); the ties are given (YtoademomlabgnaaDoorTie.lean); close each card by the builder's one call (the guide's Derived/Test/ToyasCard.lean, 'card_holds'). Laid BY PROGRAM, IN A SANDBOX (cutbox-door.mjs). By AI agents, Wed Nov 11 2026. No macro, syntax, notation, axiom, sorry.
-/
import Derived.Test.YtoademomlabgnaaDoorRows
import GoSem.ClaimSeven
namespace Go.Proofs.YtoademomlabgnaaDoor
namespace Rows

/-- THE TIED CARD OF 'tollhouselaw31.ReportStates'. -/
def reportStatesCard : Claim7 := { stood := { row := reportStatesRow, standIns := [], harness := (true, "33ebec7dc9d055073cffe676d2463860b66021036713e183daa1bb0459ff5666"), looks := false }, kinds := [], alts := [], laidByText := true, laidKinds := [.data, .data, .data, .widerDeep], laidTests := true, laidLooks := .later }
def ReportStatesCardSaid : Prop := Claim7.holds Tryd.pinned (.plain (OpenSpec.ofChange reportStatesSpec)) reportStatesCard

/-- THE TIED CARD OF 'tollhouselaw31.ReportWebs'. -/
def reportWebsCard : Claim7 := { stood := { row := reportWebsRow, standIns := [], harness := (true, "33ebec7dc9d055073cffe676d2463860b66021036713e183daa1bb0459ff5666"), looks := false }, kinds := [], alts := [], laidByText := true, laidKinds := [.data, .data, .data], laidTests := true, laidLooks := .later }
def ReportWebsCardSaid : Prop := Claim7.holds Tryd.pinned (.plain (OpenSpec.ofChange reportWebsSpec)) reportWebsCard

/-- THE SECOND FORM's CARD OF 'tollhouselaw31.ReportStates'. -/
def reportStatesUptoCard : Claim7 := { stood := { row := reportStatesUptoRow, standIns := [], harness := (true, "33ebec7dc9d055073cffe676d2463860b66021036713e183daa1bb0459ff5666"), looks := false }, kinds := [], alts := [], laidByText := true, laidKinds := [.data, .data, .data, .widerDeep], laidTests := true, laidLooks := .later }
def ReportStatesUptoCardSaid : Prop := Claim7.holds Tryd.pinned (.plain (OpenSpec.upto reportStatesSpec)) reportStatesUptoCard

/-- THE SECOND FORM's CARD OF 'tollhouselaw31.ReportWebs'. -/
def reportWebsUptoCard : Claim7 := { stood := { row := reportWebsUptoRow, standIns := [], harness := (true, "33ebec7dc9d055073cffe676d2463860b66021036713e183daa1bb0459ff5666"), looks := false }, kinds := [], alts := [], laidByText := true, laidKinds := [.data, .data, .data], laidTests := true, laidLooks := .later }
def ReportWebsUptoCardSaid : Prop := Claim7.holds Tryd.pinned (.plain (OpenSpec.upto reportWebsSpec)) reportWebsUptoCard
end Rows
end Go.Proofs.YtoademomlabgnaaDoor
