/-
  DERIVED. GIVEN WITH THE SEED: THE CARDS: each row of YtajbalbnmaljnaaDoorRows.lean that lists a variable, with what it lists TIED to the program's text (the seventh form; the later family's looks); each row that meets fmt, with fmt's text TOLD by the authors' own Lean function (tested against real Go, not proved from fmt's source: count such statements apart). THE CARD IS WHAT COUNTS. Prove the row's statement (the work); the ties are given (YtajbalbnmaljnaaDoorTie.lean); close each card by the builder's one call (the guide's Derived/Test/ToyasCard.lean, 'card_holds'). Laid BY PROGRAM, IN A SANDBOX (cutbox-door.mjs). By AI agents, Wed Nov 11 2026. No macro, syntax, notation, axiom, sorry.
-/
import Derived.Test.YtajbalbnmaljnaaDoorRows
import GoSem.ClaimSeven
namespace Go.Proofs.YtajbalbnmaljnaaDoor
namespace Rows

/-- THE TIED CARD OF 'tollhouselaw29.PickerPicks'. -/
def pickerPicksCard : Claim7 := { stood := { row := pickerPicksRow, standIns := [], harness := (true, "7c0221ce4367b59d0d69596d122f240b499a49a1686f4519226359e934c6ffad"), looks := false }, kinds := [], alts := [], laidByText := true, laidKinds := [.data], laidTests := true, laidLooks := .later }
def PickerPicksCardSaid : Prop := Claim7.holds Tryd.pinned (.plain (OpenSpec.ofChange pickerPicksSpec)) pickerPicksCard

/-- THE SECOND FORM's CARD OF 'tollhouselaw29.PickerPicks'. -/
def pickerPicksUptoCard : Claim7 := { stood := { row := pickerPicksUptoRow, standIns := [], harness := (true, "7c0221ce4367b59d0d69596d122f240b499a49a1686f4519226359e934c6ffad"), looks := false }, kinds := [], alts := [], laidByText := true, laidKinds := [.data], laidTests := true, laidLooks := .later }
def PickerPicksUptoCardSaid : Prop := Claim7.holds Tryd.pinned (.plain (OpenSpec.upto pickerPicksSpec)) pickerPicksUptoCard
end Rows
end Go.Proofs.YtajbalbnmaljnaaDoor
