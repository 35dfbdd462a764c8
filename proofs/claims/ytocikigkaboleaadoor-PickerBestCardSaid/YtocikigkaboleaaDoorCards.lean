/-
  DERIVED. GIVEN WITH THE SEED: THE CARDS: each row of YtocikigkaboleaaDoorRows.lean that lists a variable, with what it lists TIED to the program's text (the seventh form; the later family's looks); each row that meets fmt, with fmt's text TOLD by the authors' own Lean function (tested against real Go, not proved from fmt's source: count such statements apart). THE CARD IS WHAT COUNTS. Prove the row's statement (the work); the ties are given (YtocikigkaboleaaDoorTie.lean); close each card by the builder's one call (the guide's Derived/Test/ToyasCard.lean, 'card_holds'). Laid BY PROGRAM, IN A SANDBOX (cutbox-door.mjs). By AI agents, Wed Nov 11 2026. No macro, syntax, notation, axiom, sorry.
-/
import Derived.Test.YtocikigkaboleaaDoorRows
import GoSem.ClaimSeven
namespace Go.Proofs.YtocikigkaboleaaDoor
namespace Rows

/-- THE TIED CARD OF 'tollhouselaw29.PickerBest'. -/
def pickerBestCard : Claim7 := { stood := { row := pickerBestRow, standIns := [], harness := (true, "551588e97d1c960901de16feb263ee091da38220964fe9572628851523990163"), looks := false }, kinds := [], alts := [], laidByText := true, laidKinds := [.data], laidTests := true, laidLooks := .later }
def PickerBestCardSaid : Prop := Claim7.holds Tryd.pinned (.plain (OpenSpec.ofChange pickerBestSpec)) pickerBestCard

/-- THE SECOND FORM's CARD OF 'tollhouselaw29.PickerBest'. -/
def pickerBestUptoCard : Claim7 := { stood := { row := pickerBestUptoRow, standIns := [], harness := (true, "551588e97d1c960901de16feb263ee091da38220964fe9572628851523990163"), looks := false }, kinds := [], alts := [], laidByText := true, laidKinds := [.data], laidTests := true, laidLooks := .later }
def PickerBestUptoCardSaid : Prop := Claim7.holds Tryd.pinned (.plain (OpenSpec.upto pickerBestSpec)) pickerBestUptoCard
end Rows
end Go.Proofs.YtocikigkaboleaaDoor
