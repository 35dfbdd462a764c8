/-
  DERIVED. GIVEN WITH THE SEED: THE CARDS: each row of YthbdeooemkejmaaDoorRows.lean that lists a variable, with what it lists TIED to the program's text (the seventh form; the later family's looks); each row that meets fmt, with fmt's text TOLD by the authors' own Lean function (tested against real Go, not proved from fmt's source: count such statements apart). THE CARD IS WHAT COUNTS. Prove the row's statement (the work); the ties are given (YthbdeooemkejmaaDoorTie.lean); close each card by the builder's one call (the guide's Derived/Test/ToyasCard.lean, 'card_holds'). Laid BY PROGRAM, IN A SANDBOX (cutbox-door.mjs). By AI agents, Wed Nov 11 2026. No macro, syntax, notation, axiom, sorry.
-/
import Derived.Test.YthbdeooemkejmaaDoorRows
import GoSem.ClaimSeven
namespace Go.Proofs.YthbdeooemkejmaaDoor
namespace Rows

/-- THE TIED CARD OF 'tollhouselaw11.CodeRuns'. -/
def codeRunsCard : Claim7 := { stood := { row := codeRunsRow, standIns := [], harness := (true, "fd4b7d931d7f170ada6f600a6f7c9aaac6bda0ff3140432f2ce15dcd8c3e506a"), looks := true }, kinds := [], alts := [], laidByText := true, laidKinds := [.data, .data, .data, .data, .sentinel, .sentinel, .data, .pinned], laidTests := true, laidLooks := .later }
def CodeRunsCardSaid : Prop := Claim7.holds Tryd.pinned (.plain (OpenSpec.ofChange codeRunsSpec)) codeRunsCard

/-- THE TIED CARD OF 'tollhouselaw11.CodeGas'. -/
def codeGasCard : Claim7 := { stood := { row := codeGasRow, standIns := [], harness := (true, "fd4b7d931d7f170ada6f600a6f7c9aaac6bda0ff3140432f2ce15dcd8c3e506a"), looks := true }, kinds := [], alts := [], laidByText := true, laidKinds := [.data, .data, .data, .data, .sentinel, .sentinel, .data, .pinned], laidTests := true, laidLooks := .later }
def CodeGasCardSaid : Prop := Claim7.holds Tryd.pinned (.plain (OpenSpec.ofChange codeGasSpec)) codeGasCard

/-- THE TIED CARD OF 'tollhouselaw11.CodeAsks'. -/
def codeAsksCard : Claim7 := { stood := { row := codeAsksRow, standIns := [], harness := (true, "fd4b7d931d7f170ada6f600a6f7c9aaac6bda0ff3140432f2ce15dcd8c3e506a"), looks := true }, kinds := [], alts := [], laidByText := true, laidKinds := [.data, .data, .data, .data, .sentinel, .sentinel, .data, .pinned], laidTests := true, laidLooks := .later }
def CodeAsksCardSaid : Prop := Claim7.holds Tryd.pinned (.plain (OpenSpec.ofChange codeAsksSpec)) codeAsksCard

/-- THE TIED CARD OF 'tollhouselaw11.CodeStacks'. -/
def codeStacksCard : Claim7 := { stood := { row := codeStacksRow, standIns := [], harness := (true, "fd4b7d931d7f170ada6f600a6f7c9aaac6bda0ff3140432f2ce15dcd8c3e506a"), looks := true }, kinds := [], alts := [], laidByText := true, laidKinds := [.data, .data, .data, .data, .sentinel, .sentinel, .data, .pinned], laidTests := true, laidLooks := .later }
def CodeStacksCardSaid : Prop := Claim7.holds Tryd.pinned (.plain (OpenSpec.ofChange codeStacksSpec)) codeStacksCard

/-- THE SECOND FORM's CARD OF 'tollhouselaw11.CodeRuns'. -/
def codeRunsUptoCard : Claim7 := { stood := { row := codeRunsUptoRow, standIns := [], harness := (true, "fd4b7d931d7f170ada6f600a6f7c9aaac6bda0ff3140432f2ce15dcd8c3e506a"), looks := true }, kinds := [], alts := [], laidByText := true, laidKinds := [.data, .data, .data, .data, .sentinel, .sentinel, .data, .pinned], laidTests := true, laidLooks := .later }
def CodeRunsUptoCardSaid : Prop := Claim7.holds Tryd.pinned (.plain (OpenSpec.upto codeRunsSpec)) codeRunsUptoCard

/-- THE SECOND FORM's CARD OF 'tollhouselaw11.CodeGas'. -/
def codeGasUptoCard : Claim7 := { stood := { row := codeGasUptoRow, standIns := [], harness := (true, "fd4b7d931d7f170ada6f600a6f7c9aaac6bda0ff3140432f2ce15dcd8c3e506a"), looks := true }, kinds := [], alts := [], laidByText := true, laidKinds := [.data, .data, .data, .data, .sentinel, .sentinel, .data, .pinned], laidTests := true, laidLooks := .later }
def CodeGasUptoCardSaid : Prop := Claim7.holds Tryd.pinned (.plain (OpenSpec.upto codeGasSpec)) codeGasUptoCard

/-- THE SECOND FORM's CARD OF 'tollhouselaw11.CodeAsks'. -/
def codeAsksUptoCard : Claim7 := { stood := { row := codeAsksUptoRow, standIns := [], harness := (true, "fd4b7d931d7f170ada6f600a6f7c9aaac6bda0ff3140432f2ce15dcd8c3e506a"), looks := true }, kinds := [], alts := [], laidByText := true, laidKinds := [.data, .data, .data, .data, .sentinel, .sentinel, .data, .pinned], laidTests := true, laidLooks := .later }
def CodeAsksUptoCardSaid : Prop := Claim7.holds Tryd.pinned (.plain (OpenSpec.upto codeAsksSpec)) codeAsksUptoCard

/-- THE SECOND FORM's CARD OF 'tollhouselaw11.CodeStacks'. -/
def codeStacksUptoCard : Claim7 := { stood := { row := codeStacksUptoRow, standIns := [], harness := (true, "fd4b7d931d7f170ada6f600a6f7c9aaac6bda0ff3140432f2ce15dcd8c3e506a"), looks := true }, kinds := [], alts := [], laidByText := true, laidKinds := [.data, .data, .data, .data, .sentinel, .sentinel, .data, .pinned], laidTests := true, laidLooks := .later }
def CodeStacksUptoCardSaid : Prop := Claim7.holds Tryd.pinned (.plain (OpenSpec.upto codeStacksSpec)) codeStacksUptoCard
end Rows
end Go.Proofs.YthbdeooemkejmaaDoor
