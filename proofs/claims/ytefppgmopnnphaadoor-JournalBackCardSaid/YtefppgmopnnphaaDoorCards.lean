/-
  DERIVED. GIVEN WITH THE SEED: THE CARDS: each row of YtefppgmopnnphaaDoorRows.lean that lists a variable, with what it lists TIED to the program's text (the seventh form; the later family's looks); each row that meets fmt, with fmt's text TOLD by the authors' own Lean function (tested against real Go, not proved from fmt's source: count such statements apart). THE CARD IS WHAT COUNTS. Prove the row's statement (the work); the ties are given (YtefppgmopnnphaaDoorTie.lean); close each card by the builder's one call (the guide's Derived/Test/ToyasCard.lean, 'card_holds'). Laid BY PROGRAM, IN A SANDBOX (cutbox-door.mjs). By AI agents, Wed Nov 11 2026. No macro, syntax, notation, axiom, sorry.
-/
import Derived.Test.YtefppgmopnnphaaDoorRows
import GoSem.ClaimSeven
namespace Go.Proofs.YtefppgmopnnphaaDoor
namespace Rows

/-- THE TIED CARD OF 'tollhouselaw30.JournalAdds'. -/
def journalAddsCard : Claim7 := { stood := { row := journalAddsRow, standIns := [], harness := (true, "da763055b7488c2080384ff2f0583addc7d49c1456557b0232186b02812dd61a"), looks := true }, kinds := [], alts := [], laidByText := true, laidKinds := [.data, .data, .data], laidTests := true, laidLooks := .later }
def JournalAddsCardSaid : Prop := Claim7.holds Tryd.pinned (.plain (OpenSpec.ofChange journalAddsSpec)) journalAddsCard

/-- THE TIED CARD OF 'tollhouselaw30.JournalRises'. -/
def journalRisesCard : Claim7 := { stood := { row := journalRisesRow, standIns := [], harness := (true, "da763055b7488c2080384ff2f0583addc7d49c1456557b0232186b02812dd61a"), looks := true }, kinds := [], alts := [], laidByText := true, laidKinds := [.data, .data, .data], laidTests := true, laidLooks := .later }
def JournalRisesCardSaid : Prop := Claim7.holds Tryd.pinned (.plain (OpenSpec.ofChange journalRisesSpec)) journalRisesCard

/-- THE TIED CARD OF 'tollhouselaw30.JournalTells'. -/
def journalTellsCard : Claim7 := { stood := { row := journalTellsRow, standIns := [], harness := (true, "da763055b7488c2080384ff2f0583addc7d49c1456557b0232186b02812dd61a"), looks := true }, kinds := [], alts := [], laidByText := true, laidKinds := [.data, .data, .data], laidTests := true, laidLooks := .later }
def JournalTellsCardSaid : Prop := Claim7.holds Tryd.pinned (.plain (OpenSpec.ofChange journalTellsSpec)) journalTellsCard

/-- THE TIED CARD OF 'tollhouselaw30.JournalTexts'. -/
def journalTextsCard : Claim7 := { stood := { row := journalTextsRow, standIns := [], harness := (true, "da763055b7488c2080384ff2f0583addc7d49c1456557b0232186b02812dd61a"), looks := true }, kinds := [], alts := [], laidByText := true, laidKinds := [.data, .data, .data, .data, .sentinel, .sentinel, .pinned], laidTests := true, laidLooks := .later }
def JournalTextsCardSaid : Prop := Claim7.holds Tryd.pinned (.plain (OpenSpec.ofChange journalTextsSpec)) journalTextsCard

/-- THE TIED CARD OF 'tollhouselaw30.JournalBack'. -/
def journalBackCard : Claim7 := { stood := { row := journalBackRow, standIns := [], harness := (true, "da763055b7488c2080384ff2f0583addc7d49c1456557b0232186b02812dd61a"), looks := true }, kinds := [], alts := [], laidByText := true, laidKinds := [.data, .data, .data, .data, .sentinel, .sentinel, .pinned], laidTests := true, laidLooks := .later }
def JournalBackCardSaid : Prop := Claim7.holds Tryd.pinned (.plain (OpenSpec.ofChange journalBackSpec)) journalBackCard

/-- THE SECOND FORM's CARD OF 'tollhouselaw30.JournalAdds'. -/
def journalAddsUptoCard : Claim7 := { stood := { row := journalAddsUptoRow, standIns := [], harness := (true, "da763055b7488c2080384ff2f0583addc7d49c1456557b0232186b02812dd61a"), looks := true }, kinds := [], alts := [], laidByText := true, laidKinds := [.data, .data, .data], laidTests := true, laidLooks := .later }
def JournalAddsUptoCardSaid : Prop := Claim7.holds Tryd.pinned (.plain (OpenSpec.upto journalAddsSpec)) journalAddsUptoCard

/-- THE SECOND FORM's CARD OF 'tollhouselaw30.JournalRises'. -/
def journalRisesUptoCard : Claim7 := { stood := { row := journalRisesUptoRow, standIns := [], harness := (true, "da763055b7488c2080384ff2f0583addc7d49c1456557b0232186b02812dd61a"), looks := true }, kinds := [], alts := [], laidByText := true, laidKinds := [.data, .data, .data], laidTests := true, laidLooks := .later }
def JournalRisesUptoCardSaid : Prop := Claim7.holds Tryd.pinned (.plain (OpenSpec.upto journalRisesSpec)) journalRisesUptoCard

/-- THE SECOND FORM's CARD OF 'tollhouselaw30.JournalTells'. -/
def journalTellsUptoCard : Claim7 := { stood := { row := journalTellsUptoRow, standIns := [], harness := (true, "da763055b7488c2080384ff2f0583addc7d49c1456557b0232186b02812dd61a"), looks := true }, kinds := [], alts := [], laidByText := true, laidKinds := [.data, .data, .data], laidTests := true, laidLooks := .later }
def JournalTellsUptoCardSaid : Prop := Claim7.holds Tryd.pinned (.plain (OpenSpec.upto journalTellsSpec)) journalTellsUptoCard

/-- THE SECOND FORM's CARD OF 'tollhouselaw30.JournalTexts'. -/
def journalTextsUptoCard : Claim7 := { stood := { row := journalTextsUptoRow, standIns := [], harness := (true, "da763055b7488c2080384ff2f0583addc7d49c1456557b0232186b02812dd61a"), looks := true }, kinds := [], alts := [], laidByText := true, laidKinds := [.data, .data, .data, .data, .sentinel, .sentinel, .pinned], laidTests := true, laidLooks := .later }
def JournalTextsUptoCardSaid : Prop := Claim7.holds Tryd.pinned (.plain (OpenSpec.upto journalTextsSpec)) journalTextsUptoCard

/-- THE SECOND FORM's CARD OF 'tollhouselaw30.JournalBack'. -/
def journalBackUptoCard : Claim7 := { stood := { row := journalBackUptoRow, standIns := [], harness := (true, "da763055b7488c2080384ff2f0583addc7d49c1456557b0232186b02812dd61a"), looks := true }, kinds := [], alts := [], laidByText := true, laidKinds := [.data, .data, .data, .data, .sentinel, .sentinel, .pinned], laidTests := true, laidLooks := .later }
def JournalBackUptoCardSaid : Prop := Claim7.holds Tryd.pinned (.plain (OpenSpec.upto journalBackSpec)) journalBackUptoCard
end Rows
end Go.Proofs.YtefppgmopnnphaaDoor
