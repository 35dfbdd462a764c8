/-
  DERIVED. GIVEN WITH THE SEED: THE CARDS: each row of YtgkdfggnlpojoaaDoorRows.lean that lists a variable, with what it lists TIED to the program's text (the seventh form; the later family's looks); each row that meets fmt, with fmt's text TOLD by the authors' own Lean function (tested against real Go, not proved from fmt's source: count such statements apart). THE CARD IS WHAT COUNTS. Prove the row's statement (the work); the ties are given (YtgkdfggnlpojoaaDoorTie.lean); close each card by the builder's one call (the guide's Derived/Test/ToyasCard.lean, 'card_holds'). Laid BY PROGRAM, IN A SANDBOX (cutbox-door.mjs). By AI agents, Wed Nov 11 2026. No macro, syntax, notation, axiom, sorry.
-/
import Derived.Test.YtgkdfggnlpojoaaDoorRows
import GoSem.ClaimSeven
namespace Go.Proofs.YtgkdfggnlpojoaaDoor
namespace Rows

/-- THE TIED CARD OF 'tollhouselaw14.BondNews'. -/
def bondNewsCard : Claim7 := { stood := { row := bondNewsRow, standIns := [], harness := (true, "b3e19a7f07e57320273b7360c44100a1c41fe95b65072d00f0642e0b00f9b84d"), looks := false }, kinds := [], alts := [], laidByText := true, laidKinds := [.data], laidTests := true, laidLooks := .later }
def BondNewsCardSaid : Prop := Claim7.holds Tryd.pinned (.plain (OpenSpec.ofChange bondNewsSpec)) bondNewsCard

/-- THE SECOND FORM's CARD OF 'tollhouselaw14.BondNews'. -/
def bondNewsUptoCard : Claim7 := { stood := { row := bondNewsUptoRow, standIns := [], harness := (true, "b3e19a7f07e57320273b7360c44100a1c41fe95b65072d00f0642e0b00f9b84d"), looks := false }, kinds := [], alts := [], laidByText := true, laidKinds := [.data], laidTests := true, laidLooks := .later }
def BondNewsUptoCardSaid : Prop := Claim7.holds Tryd.pinned (.plain (OpenSpec.upto bondNewsSpec)) bondNewsUptoCard
end Rows
end Go.Proofs.YtgkdfggnlpojoaaDoor
