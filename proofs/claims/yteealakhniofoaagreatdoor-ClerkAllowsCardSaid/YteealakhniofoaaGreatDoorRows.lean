/-
  NARROWER THAN 'FOR EVERY INPUT', by the rows' own cells (each row's printed sentence says how): ClerkGifts: laid · ClerkAllows: laid.
  DERIVED. THE GIVEN ROWS OF THIS SEAT. 2 by the template 'for every input the law returns true; each argument reads behind the call as it read before'; 0 by the template 'total and deterministic' (their statements: YteealakhniofoaaGreatDoorTotals.lean).
  GIVEN WITH THE SEED: the statements are not yours to turn. If you find one false, say at which input.
  Laid BY PROGRAM, IN A SANDBOX (cutbox-rows.mjs): the forced cells as the released guide's own fill.sh prints them over the translation 00de876bb2f91fca… (all of the seat's roots in one cut). By AI agents, Wed Nov 11 2026. No macro, syntax, notation, axiom, sorry.
-/
import Derived.Test.YteealakhniofoaaGreatDoorChecked
import GoSem.Claim
import GoSem.ClaimJoined
import GoSem.ClaimMapViews
import Derived.JoinedTies
import Derived.KernelRfl
namespace Go.Proofs.YteealakhniofoaaGreatDoor
/- THE CELL 'sum', in the pinned program and in every row, IS THE sha256 OF THE DUMP (.gsa) THAT YteealakhniofoaaGreatDoorProg.lean LOADS. Nothing in Lean hashes anything: it is a label: what it is worth is what the hold of that sum in a sandbox is worth. -/
noncomputable def Tryz.pinned : Pinned := { name := "yteealakhniofoaagreatdoor", sum := "00de876bb2f91fca84ab1e3e6b70bc22cc0f512cbbde5643f720e086eb2067d7", checked := Tryz.checked }
namespace Rows
def none {H : Type} : Left H := { results := [], args := [] }

/- WHAT THE LISTED PACKAGE-LEVEL VARIABLES READ AS WHEN THE CALL BEGINS. Each datum BY PROGRAM (the guide's laid-datum.mjs) off the statement by which the dump's own 'gosem.cut.vars' lays the variable. In a bare row this is a premise. The card (YteealakhniofoaaGreatDoorCards.lean) ties it to the program's text. -/
def laid_tollhouse_code_forms {H : Type} : DataW H := .agg [.agg [.lit (.string [104, 97, 108, 116]), .lit (.int .i64 0), .lit (.int .i64 1)], .agg [.lit (.string [112, 117, 115, 104]), .lit (.int .i64 8), .lit (.int .i64 1)], .agg [.lit (.string [108, 111, 97, 100]), .lit (.int .i64 1), .lit (.int .i64 1)], .agg [.lit (.string [97, 100, 100]), .lit (.int .i64 0), .lit (.int .i64 1)], .agg [.lit (.string [115, 117, 98]), .lit (.int .i64 0), .lit (.int .i64 1)], .agg [.lit (.string [109, 117, 108]), .lit (.int .i64 0), .lit (.int .i64 3)], .agg [.lit (.string [108, 101, 115, 115]), .lit (.int .i64 0), .lit (.int .i64 1)], .agg [.lit (.string [115, 97, 109, 101]), .lit (.int .i64 0), .lit (.int .i64 1)], .agg [.lit (.string [110, 111, 116]), .lit (.int .i64 0), .lit (.int .i64 1)], .agg [.lit (.string [98, 111, 116, 104]), .lit (.int .i64 0), .lit (.int .i64 1)], .agg [.lit (.string [97, 110, 121]), .lit (.int .i64 0), .lit (.int .i64 1)], .agg [.lit (.string [106, 117, 109, 112]), .lit (.int .i64 2), .lit (.int .i64 1)], .agg [.lit (.string [105, 102]), .lit (.int .i64 2), .lit (.int .i64 1)], .agg [.lit (.string [116, 119, 105, 99, 101]), .lit (.int .i64 0), .lit (.int .i64 1)], .agg [.lit (.string [115, 119, 97, 112]), .lit (.int .i64 0), .lit (.int .i64 1)], .agg [.lit (.string [100, 114, 111, 112]), .lit (.int .i64 0), .lit (.int .i64 1)], .agg [.lit (.string [112, 97, 105, 100]), .lit (.int .i64 1), .lit (.int .i64 10)], .agg [.lit (.string [110, 111, 119]), .lit (.int .i64 0), .lit (.int .i64 1)]]

/-- 'tollhouselaw20.ClerkGifts': WHATEVER THE INPUT: true; the input reads as it did. -/
def clerkGiftsSpec : ChangeSpec := { name := "clerkGifts", fn := fun _ => fun
  | [d1, d2, d3, d4] => { results := [.lit (.bool true)], args := [d1, d2, d3, d4] }
  | _ => none }
def clerkGiftsRow : OpenClaim := { program := "yteealakhniofoaagreatdoor", sum := "00de876bb2f91fca84ab1e3e6b70bc22cc0f512cbbde5643f720e086eb2067d7", func := "tollhouse/tollhouselaw20.ClerkGifts", spec := "clerkGifts", inPlace := ["math/bits.Add64"], unfollowed := true, recurses := true, named := ["tollhouse/code.forms"], plainKeys := false, apart := false, laid := [("tollhouse/code.forms", laid_tollhouse_code_forms)] }
def ClerkGiftsSaid : Prop := clerkGiftsRow.holds Tryz.pinned (OpenSpec.ofChange clerkGiftsSpec)

/-- ITS FALSE NEIGHBOUR: 'it returns false'. Refute it at one input. -/
def clerkGiftsWrong : ChangeSpec := { name := "clerkGifts", fn := fun _ => fun
  | [d1, d2, d3, d4] => { results := [.lit (.bool false)], args := [d1, d2, d3, d4] }
  | _ => none }
def ClerkGiftsWrongFalsely : Prop := clerkGiftsRow.holds Tryz.pinned (OpenSpec.ofChange clerkGiftsWrong)

/-- 'tollhouselaw20.ClerkAllows': WHATEVER THE INPUT: true; the input reads as it did. -/
def clerkAllowsSpec : ChangeSpec := { name := "clerkAllows", fn := fun _ => fun
  | [d1, d2, d3, d4, d5] => { results := [.lit (.bool true)], args := [d1, d2, d3, d4, d5] }
  | _ => none }
def clerkAllowsRow : OpenClaim := { program := "yteealakhniofoaagreatdoor", sum := "00de876bb2f91fca84ab1e3e6b70bc22cc0f512cbbde5643f720e086eb2067d7", func := "tollhouse/tollhouselaw20.ClerkAllows", spec := "clerkAllows", inPlace := ["math/bits.Add64"], unfollowed := true, recurses := true, named := ["tollhouse/code.forms"], plainKeys := false, apart := false, laid := [("tollhouse/code.forms", laid_tollhouse_code_forms)] }
def ClerkAllowsSaid : Prop := clerkAllowsRow.holds Tryz.pinned (OpenSpec.ofChange clerkAllowsSpec)

/-- ITS FALSE NEIGHBOUR: 'it returns false'. Refute it at one input. -/
def clerkAllowsWrong : ChangeSpec := { name := "clerkAllows", fn := fun _ => fun
  | [d1, d2, d3, d4, d5] => { results := [.lit (.bool false)], args := [d1, d2, d3, d4, d5] }
  | _ => none }
def ClerkAllowsWrongFalsely : Prop := clerkAllowsRow.holds Tryz.pinned (OpenSpec.ofChange clerkAllowsWrong)

/- THE SECOND FORM. 'bulk': how many values and letters a reading holds, each counted each time it is reached (what is shared counts as often as it is met; a slice's spare places count too). A statement '..UptoSaid' is the law's where the arguments, and the package variables that the reading takes, are together of bulk at most 1048576: NARROWER than '..Said'. Prove '..Said' where nothing that the law and all that it calls make is longer than what came in: it says more and counts as full. Else prove '..UptoSaid'. A law counts once. -/
mutual
def uptoBulk {H : Type} : DataW H → Nat
  | .lit (.string bytes) => bytes.length + 1
  | .lit _ => 1
  | .nil => 1
  | .ptr d => uptoBulk d + 1
  | .slice elems spare => uptoBulkAll elems + uptoBulkAll spare + 1
  | .agg parts => uptoBulkAll parts + 1
  | .iface _ d => uptoBulk d + 1
  | .map entries => uptoBulkEntries entries + 1
  | .held _ => 1
def uptoBulkAll {H : Type} : List (DataW H) → Nat
  | [] => 0
  | d :: r => uptoBulk d + uptoBulkAll r
def uptoBulkEntries {H : Type} : List (Lit × DataW H) → Nat
  | [] => 0
  | x :: r => uptoBulkEntry x + uptoBulkEntries r
def uptoBulkEntry {H : Type} : Lit × DataW H → Nat
  | (.string bytes, d) => bytes.length + uptoBulk d + 1
  | (_, d) => uptoBulk d + 1
 end
def uptoSmall : (H : Type) → List (DataW H) → Bool := fun _ ds => decide (uptoBulkAll ds ≤ 1048576)
def OpenSpec.upto (s : _root_.Go.ChangeSpec) : _root_.Go.OpenSpec := { _root_.Go.OpenSpec.ofChange s with cond := some uptoSmall }

/-- 'tollhouselaw20.ClerkGifts', WHERE WHAT IT READS IS OF BULK AT MOST 1048576: true; the input reads as it did. -/
def clerkGiftsUptoRow : OpenClaim := { program := "yteealakhniofoaagreatdoor", sum := "00de876bb2f91fca84ab1e3e6b70bc22cc0f512cbbde5643f720e086eb2067d7", func := "tollhouse/tollhouselaw20.ClerkGifts", spec := "clerkGifts", inPlace := ["math/bits.Add64"], unfollowed := true, recurses := true, named := ["tollhouse/code.forms"], plainKeys := false, apart := false, laid := [("tollhouse/code.forms", laid_tollhouse_code_forms)], narrowed := true }
def ClerkGiftsUptoSaid : Prop := clerkGiftsUptoRow.holds Tryz.pinned (OpenSpec.upto clerkGiftsSpec)

/-- 'tollhouselaw20.ClerkAllows', WHERE WHAT IT READS IS OF BULK AT MOST 1048576: true; the input reads as it did. -/
def clerkAllowsUptoRow : OpenClaim := { program := "yteealakhniofoaagreatdoor", sum := "00de876bb2f91fca84ab1e3e6b70bc22cc0f512cbbde5643f720e086eb2067d7", func := "tollhouse/tollhouselaw20.ClerkAllows", spec := "clerkAllows", inPlace := ["math/bits.Add64"], unfollowed := true, recurses := true, named := ["tollhouse/code.forms"], plainKeys := false, apart := false, laid := [("tollhouse/code.forms", laid_tollhouse_code_forms)], narrowed := true }
def ClerkAllowsUptoSaid : Prop := clerkAllowsUptoRow.holds Tryz.pinned (OpenSpec.upto clerkAllowsSpec)

end Rows
end Go.Proofs.YteealakhniofoaaGreatDoor
