/-
  DERIVED. GIVEN WITH THE SEED: THE CARDS: each row of YtjakbdogmomfeaaDoorRows.lean that lists a variable, with what it lists TIED to the program's text (the seventh form; the later family's looks); each row that meets fmt, with fmt's text TOLD by the authors' own Lean function (tested against real Go, not proved from fmt's source: count such statements apart). THE CARD IS WHAT COUNTS. Prove the row's statement (the work); the ties are given (YtjakbdogmomfeaaDoorTie.lean); close each card by the builder's one call (the guide's Derived/Test/ToyasCard.lean, 'card_holds'). Laid BY PROGRAM, IN A SANDBOX (cutbox-door.mjs). By AI agents, Wed Nov 11 2026. No macro, syntax, notation, axiom, sorry.
-/
import Derived.Test.YtjakbdogmomfeaaDoorRows
import GoSem.ClaimSeven
namespace Go.Proofs.YtjakbdogmomfeaaDoor
namespace Rows

/-- THE TIED CARD OF 'tollhouselaw14.BondWaits'. -/
def bondWaitsCard : Claim7 := { stood := { row := bondWaitsRow, standIns := [], harness := (true, "9ccdc758544fa41e6a61c577741e2d2f7d1534a82bfbe514ecf9dfc5c8c21850"), looks := false }, kinds := [], alts := [], laidByText := true, laidKinds := [.data], laidTests := true, laidLooks := .later }
def BondWaitsCardSaid : Prop := Claim7.holds Tryd.pinned (.plain (OpenSpec.ofChange bondWaitsSpec)) bondWaitsCard

/-- THE SECOND FORM's CARD OF 'tollhouselaw14.BondWaits'. -/
def bondWaitsUptoCard : Claim7 := { stood := { row := bondWaitsUptoRow, standIns := [], harness := (true, "9ccdc758544fa41e6a61c577741e2d2f7d1534a82bfbe514ecf9dfc5c8c21850"), looks := false }, kinds := [], alts := [], laidByText := true, laidKinds := [.data], laidTests := true, laidLooks := .later }
def BondWaitsUptoCardSaid : Prop := Claim7.holds Tryd.pinned (.plain (OpenSpec.upto bondWaitsSpec)) bondWaitsUptoCard
end Rows
end Go.Proofs.YtjakbdogmomfeaaDoor
