/-
  DERIVED. GIVEN WITH THE SEED: THE CARDS: each row of YtpemdagggddcfaaGreatDoorRows.lean that lists a variable, with what it lists TIED to the program's text (the seventh form; the later family's looks); each row that meets fmt, with fmt's text TOLD by the authors' own Lean function (tested against real Go, not proved from fmt's source: count such statements apart). THE CARD IS WHAT COUNTS. Prove the row's statement (the work); the ties are given (YtpemdagggddcfaaGreatDoorTie.lean); close each card by the builder's one call (the guide's Derived/Test/ToyasCard.lean, 'card_holds'). Laid BY PROGRAM, IN A SANDBOX (cutbox-door.mjs). By AI agents, Wed Nov 11 2026. No macro, syntax, notation, axiom, sorry.
-/
import Derived.Test.YtpemdagggddcfaaGreatDoorRows
import GoSem.ClaimSeven
namespace Go.Proofs.YtpemdagggddcfaaGreatDoor
namespace Rows

/-- THE TIED CARD OF 'tollhouselaw15.CourtPools'. -/
def courtPoolsCard : Claim7 := { stood := { row := courtPoolsRow, standIns := [], harness := (true, "96cdc12d35380bee542640c2e4410b7cde4c3e1796098c77db4cda7be645365a"), looks := false }, kinds := [], alts := [], laidByText := true, laidKinds := [.data], laidTests := true, laidLooks := .later }
def CourtPoolsCardSaid : Prop := Claim7.holds Tryz.pinned (.plain (OpenSpec.ofChange courtPoolsSpec)) courtPoolsCard

/-- THE TIED CARD OF 'tollhouselaw15.CourtWhole'. -/
def courtWholeCard : Claim7 := { stood := { row := courtWholeRow, standIns := [], harness := (true, "96cdc12d35380bee542640c2e4410b7cde4c3e1796098c77db4cda7be645365a"), looks := false }, kinds := [], alts := [], laidByText := true, laidKinds := [.data], laidTests := true, laidLooks := .later }
def CourtWholeCardSaid : Prop := Claim7.holds Tryz.pinned (.plain (OpenSpec.ofChange courtWholeSpec)) courtWholeCard

/-- THE TIED CARD OF 'tollhouselaw15.CourtFails'. -/
def courtFailsCard : Claim7 := { stood := { row := courtFailsRow, standIns := [], harness := (true, "96cdc12d35380bee542640c2e4410b7cde4c3e1796098c77db4cda7be645365a"), looks := false }, kinds := [], alts := [], laidByText := true, laidKinds := [.data], laidTests := true, laidLooks := .later }
def CourtFailsCardSaid : Prop := Claim7.holds Tryz.pinned (.plain (OpenSpec.ofChange courtFailsSpec)) courtFailsCard

/-- THE SECOND FORM's CARD OF 'tollhouselaw15.CourtPools'. -/
def courtPoolsUptoCard : Claim7 := { stood := { row := courtPoolsUptoRow, standIns := [], harness := (true, "96cdc12d35380bee542640c2e4410b7cde4c3e1796098c77db4cda7be645365a"), looks := false }, kinds := [], alts := [], laidByText := true, laidKinds := [.data], laidTests := true, laidLooks := .later }
def CourtPoolsUptoCardSaid : Prop := Claim7.holds Tryz.pinned (.plain (OpenSpec.upto courtPoolsSpec)) courtPoolsUptoCard

/-- THE SECOND FORM's CARD OF 'tollhouselaw15.CourtWhole'. -/
def courtWholeUptoCard : Claim7 := { stood := { row := courtWholeUptoRow, standIns := [], harness := (true, "96cdc12d35380bee542640c2e4410b7cde4c3e1796098c77db4cda7be645365a"), looks := false }, kinds := [], alts := [], laidByText := true, laidKinds := [.data], laidTests := true, laidLooks := .later }
def CourtWholeUptoCardSaid : Prop := Claim7.holds Tryz.pinned (.plain (OpenSpec.upto courtWholeSpec)) courtWholeUptoCard

/-- THE SECOND FORM's CARD OF 'tollhouselaw15.CourtFails'. -/
def courtFailsUptoCard : Claim7 := { stood := { row := courtFailsUptoRow, standIns := [], harness := (true, "96cdc12d35380bee542640c2e4410b7cde4c3e1796098c77db4cda7be645365a"), looks := false }, kinds := [], alts := [], laidByText := true, laidKinds := [.data], laidTests := true, laidLooks := .later }
def CourtFailsUptoCardSaid : Prop := Claim7.holds Tryz.pinned (.plain (OpenSpec.upto courtFailsSpec)) courtFailsUptoCard
end Rows
end Go.Proofs.YtpemdagggddcfaaGreatDoor
