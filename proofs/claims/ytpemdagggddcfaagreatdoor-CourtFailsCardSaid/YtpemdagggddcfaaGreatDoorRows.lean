/-
  NARROWER THAN 'FOR EVERY INPUT', by the rows' own cells (each row's printed sentence says how): CourtPools: laid · CourtWhole: laid · CourtFails: laid.
  DERIVED. THE GIVEN ROWS OF THIS SEAT. 3 by the template 'for every input the law returns true; each argument reads behind the call as it read before'; 0 by the template 'total and deterministic' (their statements: YtpemdagggddcfaaGreatDoorTotals.lean).
  GIVEN WITH THE SEED: the statements are not yours to turn. If you find one false, say at which input.
  Laid BY PROGRAM, IN A SANDBOX (cutbox-rows.mjs): the forced cells as the released guide's own fill.sh prints them over the translation dd8ca23d90857556… (all of the seat's roots in one cut). By AI agents, Wed Nov 11 2026. No macro, syntax, notation, axiom, sorry.
-/
import Derived.Test.YtpemdagggddcfaaGreatDoorChecked
import GoSem.Claim
import GoSem.ClaimJoined
import GoSem.ClaimMapViews
import Derived.JoinedTies
import Derived.KernelRfl
namespace Go.Proofs.YtpemdagggddcfaaGreatDoor
/- THE CELL 'sum', in the pinned program and in every row, IS THE sha256 OF THE DUMP (.gsa) THAT YtpemdagggddcfaaGreatDoorProg.lean LOADS. Nothing in Lean hashes anything: it is a label: what it is worth is what the hold of that sum in a sandbox is worth. -/
noncomputable def Tryz.pinned : Pinned := { name := "ytpemdagggddcfaagreatdoor", sum := "dd8ca23d90857556a5de4e667cd41cbd228610549c4f7fe8368323e9393b4cba", checked := Tryz.checked }
namespace Rows
def none {H : Type} : Left H := { results := [], args := [] }

/- WHAT THE LISTED PACKAGE-LEVEL VARIABLES READ AS WHEN THE CALL BEGINS. Each datum BY PROGRAM (the guide's laid-datum.mjs) off the statement by which the dump's own 'gosem.cut.vars' lays the variable. In a bare row this is a premise. The card (YtpemdagggddcfaaGreatDoorCards.lean) ties it to the program's text. -/
def laid_tollhouse_code_forms {H : Type} : DataW H := .agg [.agg [.lit (.string [104, 97, 108, 116]), .lit (.int .i64 0), .lit (.int .i64 1)], .agg [.lit (.string [112, 117, 115, 104]), .lit (.int .i64 8), .lit (.int .i64 1)], .agg [.lit (.string [108, 111, 97, 100]), .lit (.int .i64 1), .lit (.int .i64 1)], .agg [.lit (.string [97, 100, 100]), .lit (.int .i64 0), .lit (.int .i64 1)], .agg [.lit (.string [115, 117, 98]), .lit (.int .i64 0), .lit (.int .i64 1)], .agg [.lit (.string [109, 117, 108]), .lit (.int .i64 0), .lit (.int .i64 3)], .agg [.lit (.string [108, 101, 115, 115]), .lit (.int .i64 0), .lit (.int .i64 1)], .agg [.lit (.string [115, 97, 109, 101]), .lit (.int .i64 0), .lit (.int .i64 1)], .agg [.lit (.string [110, 111, 116]), .lit (.int .i64 0), .lit (.int .i64 1)], .agg [.lit (.string [98, 111, 116, 104]), .lit (.int .i64 0), .lit (.int .i64 1)], .agg [.lit (.string [97, 110, 121]), .lit (.int .i64 0), .lit (.int .i64 1)], .agg [.lit (.string [106, 117, 109, 112]), .lit (.int .i64 2), .lit (.int .i64 1)], .agg [.lit (.string [105, 102]), .lit (.int .i64 2), .lit (.int .i64 1)], .agg [.lit (.string [116, 119, 105, 99, 101]), .lit (.int .i64 0), .lit (.int .i64 1)], .agg [.lit (.string [115, 119, 97, 112]), .lit (.int .i64 0), .lit (.int .i64 1)], .agg [.lit (.string [100, 114, 111, 112]), .lit (.int .i64 0), .lit (.int .i64 1)], .agg [.lit (.string [112, 97, 105, 100]), .lit (.int .i64 1), .lit (.int .i64 10)], .agg [.lit (.string [110, 111, 119]), .lit (.int .i64 0), .lit (.int .i64 1)]]

/-- 'tollhouselaw15.CourtPools': WHATEVER THE INPUT: true; the input reads as it did. -/
def courtPoolsSpec : ChangeSpec := { name := "courtPools", fn := fun _ => fun
  | [d1, d2] => { results := [.lit (.bool true)], args := [d1, d2] }
  | _ => none }
def courtPoolsRow : OpenClaim := { program := "ytpemdagggddcfaagreatdoor", sum := "dd8ca23d90857556a5de4e667cd41cbd228610549c4f7fe8368323e9393b4cba", func := "tollhouse/tollhouselaw15.CourtPools", spec := "courtPools", inPlace := ["math/bits.Add64"], unfollowed := true, recurses := true, named := ["tollhouse/code.forms"], plainKeys := false, apart := false, laid := [("tollhouse/code.forms", laid_tollhouse_code_forms)] }
def CourtPoolsSaid : Prop := courtPoolsRow.holds Tryz.pinned (OpenSpec.ofChange courtPoolsSpec)

/-- ITS FALSE NEIGHBOUR: 'it returns false'. Refute it at one input. -/
def courtPoolsWrong : ChangeSpec := { name := "courtPools", fn := fun _ => fun
  | [d1, d2] => { results := [.lit (.bool false)], args := [d1, d2] }
  | _ => none }
def CourtPoolsWrongFalsely : Prop := courtPoolsRow.holds Tryz.pinned (OpenSpec.ofChange courtPoolsWrong)

/-- 'tollhouselaw15.CourtWhole': WHATEVER THE INPUT: true; the input reads as it did. -/
def courtWholeSpec : ChangeSpec := { name := "courtWhole", fn := fun _ => fun
  | [d1, d2, d3, d4] => { results := [.lit (.bool true)], args := [d1, d2, d3, d4] }
  | _ => none }
def courtWholeRow : OpenClaim := { program := "ytpemdagggddcfaagreatdoor", sum := "dd8ca23d90857556a5de4e667cd41cbd228610549c4f7fe8368323e9393b4cba", func := "tollhouse/tollhouselaw15.CourtWhole", spec := "courtWhole", inPlace := ["math/bits.Add64"], unfollowed := true, recurses := true, named := ["tollhouse/code.forms"], plainKeys := false, apart := false, laid := [("tollhouse/code.forms", laid_tollhouse_code_forms)] }
def CourtWholeSaid : Prop := courtWholeRow.holds Tryz.pinned (OpenSpec.ofChange courtWholeSpec)

/-- ITS FALSE NEIGHBOUR: 'it returns false'. Refute it at one input. -/
def courtWholeWrong : ChangeSpec := { name := "courtWhole", fn := fun _ => fun
  | [d1, d2, d3, d4] => { results := [.lit (.bool false)], args := [d1, d2, d3, d4] }
  | _ => none }
def CourtWholeWrongFalsely : Prop := courtWholeRow.holds Tryz.pinned (OpenSpec.ofChange courtWholeWrong)

/-- 'tollhouselaw15.CourtFails': WHATEVER THE INPUT: true; the input reads as it did. -/
def courtFailsSpec : ChangeSpec := { name := "courtFails", fn := fun _ => fun
  | [d] => { results := [.lit (.bool true)], args := [d] }
  | _ => none }
def courtFailsRow : OpenClaim := { program := "ytpemdagggddcfaagreatdoor", sum := "dd8ca23d90857556a5de4e667cd41cbd228610549c4f7fe8368323e9393b4cba", func := "tollhouse/tollhouselaw15.CourtFails", spec := "courtFails", inPlace := ["math/bits.Add64"], unfollowed := true, recurses := true, named := ["tollhouse/code.forms"], plainKeys := false, apart := false, laid := [("tollhouse/code.forms", laid_tollhouse_code_forms)] }
def CourtFailsSaid : Prop := courtFailsRow.holds Tryz.pinned (OpenSpec.ofChange courtFailsSpec)

/-- ITS FALSE NEIGHBOUR: 'it returns false'. Refute it at one input. -/
def courtFailsWrong : ChangeSpec := { name := "courtFails", fn := fun _ => fun
  | [d] => { results := [.lit (.bool false)], args := [d] }
  | _ => none }
def CourtFailsWrongFalsely : Prop := courtFailsRow.holds Tryz.pinned (OpenSpec.ofChange courtFailsWrong)

/- THE SECOND FORM. 'bulk': how many values and letters a reading holds, each counted each time it is reached (what is shared counts as often as it is met; a slice's spare places count too). A statement '..UptoSaid' is the law's where the arguments, and the package variables that the reading takes, are together of bulk at most 1048576: NARROWER than '..Said'. Prove '..Said' where nothing that the law and all that it calls make is longer than what came in: it says more and counts as full. Else prove '..UptoSaid'. A law counts once. -/
mutual
def uptoBulk {H : Type} : DataW H → Nat
  | .lit (.string bytes) => bytes.length + 1
  | .lit _ => 1
  | .nil => 1
  | .ptr d => uptoBulk d + 1
  | .slice elems spare => uptoBulkAll elems + uptoBulkAll spare + 1
  | .agg parts => uptoBulkAll parts + 1
  | .iface _ d => uptoBulk d + 1
  | .map entries => uptoBulkEntries entries + 1
  | .held _ => 1
def uptoBulkAll {H : Type} : List (DataW H) → Nat
  | [] => 0
  | d :: r => uptoBulk d + uptoBulkAll r
def uptoBulkEntries {H : Type} : List (Lit × DataW H) → Nat
  | [] => 0
  | x :: r => uptoBulkEntry x + uptoBulkEntries r
def uptoBulkEntry {H : Type} : Lit × DataW H → Nat
  | (.string bytes, d) => bytes.length + uptoBulk d + 1
  | (_, d) => uptoBulk d + 1
 end
def uptoSmall : (H : Type) → List (DataW H) → Bool := fun _ ds => decide (uptoBulkAll ds ≤ 1048576)
def OpenSpec.upto (s : _root_.Go.ChangeSpec) : _root_.Go.OpenSpec := { _root_.Go.OpenSpec.ofChange s with cond := some uptoSmall }

/-- 'tollhouselaw15.CourtPools', WHERE WHAT IT READS IS OF BULK AT MOST 1048576: true; the input reads as it did. -/
def courtPoolsUptoRow : OpenClaim := { program := "ytpemdagggddcfaagreatdoor", sum := "dd8ca23d90857556a5de4e667cd41cbd228610549c4f7fe8368323e9393b4cba", func := "tollhouse/tollhouselaw15.CourtPools", spec := "courtPools", inPlace := ["math/bits.Add64"], unfollowed := true, recurses := true, named := ["tollhouse/code.forms"], plainKeys := false, apart := false, laid := [("tollhouse/code.forms", laid_tollhouse_code_forms)], narrowed := true }
def CourtPoolsUptoSaid : Prop := courtPoolsUptoRow.holds Tryz.pinned (OpenSpec.upto courtPoolsSpec)

/-- 'tollhouselaw15.CourtWhole', WHERE WHAT IT READS IS OF BULK AT MOST 1048576: true; the input reads as it did. -/
def courtWholeUptoRow : OpenClaim := { program := "ytpemdagggddcfaagreatdoor", sum := "dd8ca23d90857556a5de4e667cd41cbd228610549c4f7fe8368323e9393b4cba", func := "tollhouse/tollhouselaw15.CourtWhole", spec := "courtWhole", inPlace := ["math/bits.Add64"], unfollowed := true, recurses := true, named := ["tollhouse/code.forms"], plainKeys := false, apart := false, laid := [("tollhouse/code.forms", laid_tollhouse_code_forms)], narrowed := true }
def CourtWholeUptoSaid : Prop := courtWholeUptoRow.holds Tryz.pinned (OpenSpec.upto courtWholeSpec)

/-- 'tollhouselaw15.CourtFails', WHERE WHAT IT READS IS OF BULK AT MOST 1048576: true; the input reads as it did. -/
def courtFailsUptoRow : OpenClaim := { program := "ytpemdagggddcfaagreatdoor", sum := "dd8ca23d90857556a5de4e667cd41cbd228610549c4f7fe8368323e9393b4cba", func := "tollhouse/tollhouselaw15.CourtFails", spec := "courtFails", inPlace := ["math/bits.Add64"], unfollowed := true, recurses := true, named := ["tollhouse/code.forms"], plainKeys := false, apart := false, laid := [("tollhouse/code.forms", laid_tollhouse_code_forms)], narrowed := true }
def CourtFailsUptoSaid : Prop := courtFailsUptoRow.holds Tryz.pinned (OpenSpec.upto courtFailsSpec)

end Rows
end Go.Proofs.YtpemdagggddcfaaGreatDoor
