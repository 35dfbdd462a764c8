/-
 A framework for runs of Go code over abstract data: what it needs, and that it is sound, part 8.
 Conditions: none.
-/
import Derived.Test.YtefppgmopnnphaaDoorEg
set_option linter.all false
namespace Go.E
open Go
def r9 : Ty := .struct 3 [0, 1, 2] [.str, (.int .u64), .bool]
@[go_sem] theorem y9W : r9.known = true := rfl
@[go_sem] theorem y74 : r9.q0j = true := rfl
@[go_sem] theorem y9X : r9.isAgg = true := rfl
@[go_sem] theorem x0b : r9.size = 3 := rfl
@[go_sem] theorem y9d : r9.q2x = [.str, (.int .u64), .bool] := rfl
@[go_sem] theorem x0c : r9.kids = 3 := rfl
@[go_sem] theorem x0g : r9.H0 = true := by kernel_rfl
@[go_sem] theorem x0f : r9.get 0 = .str := rfl
@[go_sem] theorem y9g : r9.child 0 = some (0, .str) := rfl
@[go_sem] theorem x0e : r9.get 1 = (.int .u64) := rfl
@[go_sem] theorem y9f : r9.child 1 = some (1, (.int .u64)) := rfl
@[go_sem] theorem x0d : r9.get 2 = .bool := rfl
@[go_sem] theorem y9e : r9.child 2 = some (2, .bool) := rfl
@[go_sem] theorem y9V : Q1 r9 = .agg [(.str []), (.int 0), (.bool false)] := rfl
@[go_sem] theorem x0a : j9 r9 = .d r9 (Q1 r9) := rfl
def y5 : Ty := .struct 2 [0, 1] [(.int .u64), (.slice 32 r9)]
@[go_sem] theorem y85 : y5.known = true := rfl
@[go_sem] theorem y6a : y5.q0j = true := rfl
@[go_sem] theorem y86 : y5.isAgg = true := rfl
@[go_sem] theorem y9m : y5.size = 2 := rfl
@[go_sem] theorem y76 : y5.q2x = [(.int .u64), (.slice 32 r9)] := rfl
@[go_sem] theorem y9n : y5.kids = 2 := rfl
@[go_sem] theorem y9q : y5.H0 = true := by kernel_rfl
@[go_sem] theorem y9p : y5.get 0 = (.int .u64) := rfl
@[go_sem] theorem y78 : y5.child 0 = some (0, (.int .u64)) := rfl
@[go_sem] theorem y9o : y5.get 1 = (.slice 32 r9) := rfl
@[go_sem] theorem y77 : y5.child 1 = some (1, (.slice 32 r9)) := rfl
@[go_sem] theorem y84 : Q1 y5 = .agg [(.int 0), (.slice [])] := rfl
@[go_sem] theorem y9l : j9 y5 = .agg y5 [j9 (.int .u64), j9 (.slice 32 r9)] := rfl
def x8 : Ty := .struct 3 [0, 1, 2] [.str, (.int .u64), (.int .u64)]
@[go_sem] theorem y9Z : x8.known = true := rfl
@[go_sem] theorem y75 : x8.q0j = true := rfl
@[go_sem] theorem y90 : x8.isAgg = true := rfl
@[go_sem] theorem x0i : x8.size = 3 := rfl
@[go_sem] theorem y9h : x8.q2x = [.str, (.int .u64), (.int .u64)] := rfl
@[go_sem] theorem x0j : x8.kids = 3 := rfl
@[go_sem] theorem x0n : x8.H0 = true := by kernel_rfl
@[go_sem] theorem x0m : x8.get 0 = .str := rfl
@[go_sem] theorem y9k : x8.child 0 = some (0, .str) := rfl
@[go_sem] theorem x0l : x8.get 1 = (.int .u64) := rfl
@[go_sem] theorem y9j : x8.child 1 = some (1, (.int .u64)) := rfl
@[go_sem] theorem x0k : x8.get 2 = (.int .u64) := rfl
@[go_sem] theorem y9i : x8.child 2 = some (2, (.int .u64)) := rfl
@[go_sem] theorem y9Y : Q1 x8 = .agg [(.str []), (.int 0), (.int 0)] := rfl
@[go_sem] theorem x0h : j9 x8 = .d x8 (Q1 x8) := rfl
end Go.E
