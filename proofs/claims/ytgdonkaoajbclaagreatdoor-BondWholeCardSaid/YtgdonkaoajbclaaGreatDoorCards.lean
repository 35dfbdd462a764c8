/-
  DERIVED. GIVEN WITH THE SEED: THE CARDS: each row of YtgdonkaoajbclaaGreatDoorRows.lean that lists a variable, with what it lists TIED to the program's text (the seventh form; the later family's looks); each row that meets fmt, with fmt's text TOLD by the authors' own Lean function (tested against real Go, not proved from fmt's source: count such statements apart). THE CARD IS WHAT COUNTS. Prove the row's statement (the work); the ties are given (YtgdonkaoajbclaaGreatDoorTie.lean); close each card by the builder's one call (the guide's Derived/Test/ToyasCard.lean, 'card_holds'). Laid BY PROGRAM, IN A SANDBOX (cutbox-door.mjs). By AI agents, Wed Nov 11 2026. No macro, syntax, notation, axiom, sorry.
-/
import Derived.Test.YtgdonkaoajbclaaGreatDoorRows
import GoSem.ClaimSeven
namespace Go.Proofs.YtgdonkaoajbclaaGreatDoor
namespace Rows

/-- THE TIED CARD OF 'tollhouselaw14.BondOlds'. -/
def bondOldsCard : Claim7 := { stood := { row := bondOldsRow, standIns := [], harness := (true, "0cf33b14e52ca86efd7cf7fa20239019be4362bde34284b3762129824b643434"), looks := false }, kinds := [], alts := [], laidByText := true, laidKinds := [.data], laidTests := true, laidLooks := .later }
def BondOldsCardSaid : Prop := Claim7.holds Tryz.pinned (.plain (OpenSpec.ofChange bondOldsSpec)) bondOldsCard

/-- THE TIED CARD OF 'tollhouselaw14.BondPlays'. -/
def bondPlaysCard : Claim7 := { stood := { row := bondPlaysRow, standIns := [], harness := (true, "0cf33b14e52ca86efd7cf7fa20239019be4362bde34284b3762129824b643434"), looks := false }, kinds := [], alts := [], laidByText := true, laidKinds := [.data], laidTests := true, laidLooks := .later }
def BondPlaysCardSaid : Prop := Claim7.holds Tryz.pinned (.plain (OpenSpec.ofChange bondPlaysSpec)) bondPlaysCard

/-- THE TIED CARD OF 'tollhouselaw14.BondWhole'. -/
def bondWholeCard : Claim7 := { stood := { row := bondWholeRow, standIns := [], harness := (true, "0cf33b14e52ca86efd7cf7fa20239019be4362bde34284b3762129824b643434"), looks := false }, kinds := [], alts := [], laidByText := true, laidKinds := [.data], laidTests := true, laidLooks := .later }
def BondWholeCardSaid : Prop := Claim7.holds Tryz.pinned (.plain (OpenSpec.ofChange bondWholeSpec)) bondWholeCard

/-- THE SECOND FORM's CARD OF 'tollhouselaw14.BondOlds'. -/
def bondOldsUptoCard : Claim7 := { stood := { row := bondOldsUptoRow, standIns := [], harness := (true, "0cf33b14e52ca86efd7cf7fa20239019be4362bde34284b3762129824b643434"), looks := false }, kinds := [], alts := [], laidByText := true, laidKinds := [.data], laidTests := true, laidLooks := .later }
def BondOldsUptoCardSaid : Prop := Claim7.holds Tryz.pinned (.plain (OpenSpec.upto bondOldsSpec)) bondOldsUptoCard

/-- THE SECOND FORM's CARD OF 'tollhouselaw14.BondPlays'. -/
def bondPlaysUptoCard : Claim7 := { stood := { row := bondPlaysUptoRow, standIns := [], harness := (true, "0cf33b14e52ca86efd7cf7fa20239019be4362bde34284b3762129824b643434"), looks := false }, kinds := [], alts := [], laidByText := true, laidKinds := [.data], laidTests := true, laidLooks := .later }
def BondPlaysUptoCardSaid : Prop := Claim7.holds Tryz.pinned (.plain (OpenSpec.upto bondPlaysSpec)) bondPlaysUptoCard

/-- THE SECOND FORM's CARD OF 'tollhouselaw14.BondWhole'. -/
def bondWholeUptoCard : Claim7 := { stood := { row := bondWholeUptoRow, standIns := [], harness := (true, "0cf33b14e52ca86efd7cf7fa20239019be4362bde34284b3762129824b643434"), looks := false }, kinds := [], alts := [], laidByText := true, laidKinds := [.data], laidTests := true, laidLooks := .later }
def BondWholeUptoCardSaid : Prop := Claim7.holds Tryz.pinned (.plain (OpenSpec.upto bondWholeSpec)) bondWholeUptoCard
end Rows
end Go.Proofs.YtgdonkaoajbclaaGreatDoor
