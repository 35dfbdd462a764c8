/-
 A framework for runs of Go code over abstract data: what it needs, and that it is sound, part 8.
 Conditions: none.
-/
import Derived.Test.YtefppgmopnnphaaDoorEg
set_option linter.all false
namespace Go.E
open Go
def c7 : Ty := .struct 3 [0, 1, 2] [.str, (.int .u64), .bool]
@[go_sem] theorem y5p : c7.known = true := rfl
@[go_sem] theorem y3F : c7.U9 = true := rfl
@[go_sem] theorem y5q : c7.isAgg = true := rfl
@[go_sem] theorem y5C : c7.size = 3 := rfl
@[go_sem] theorem y4L : c7.q1s = [.str, (.int .u64), .bool] := rfl
@[go_sem] theorem y5D : c7.kids = 3 := rfl
@[go_sem] theorem y5H : c7.W1 = true := by kernel_rfl
@[go_sem] theorem y5G : c7.get 0 = .str := rfl
@[go_sem] theorem y4O : c7.child 0 = some (0, .str) := rfl
@[go_sem] theorem y5F : c7.get 1 = (.int .u64) := rfl
@[go_sem] theorem y4N : c7.child 1 = some (1, (.int .u64)) := rfl
@[go_sem] theorem y5E : c7.get 2 = .bool := rfl
@[go_sem] theorem y4M : c7.child 2 = some (2, .bool) := rfl
@[go_sem] theorem y5o : Z7 c7 = .agg [(.str []), (.int 0), (.bool false)] := rfl
@[go_sem] theorem y5B : o8 c7 = .d c7 (Z7 c7) := rfl
def w5 : Ty := .struct 2 [0, 1] [(.int .u64), (.slice 32 c7)]
@[go_sem] theorem y4D : w5.known = true := rfl
@[go_sem] theorem y1L : w5.U9 = true := rfl
@[go_sem] theorem y4E : w5.isAgg = true := rfl
@[go_sem] theorem y4U : w5.size = 2 := rfl
@[go_sem] theorem y3H : w5.q1s = [(.int .u64), (.slice 32 c7)] := rfl
@[go_sem] theorem y4V : w5.kids = 2 := rfl
@[go_sem] theorem y4Y : w5.W1 = true := by kernel_rfl
@[go_sem] theorem y4X : w5.get 0 = (.int .u64) := rfl
@[go_sem] theorem y3J : w5.child 0 = some (0, (.int .u64)) := rfl
@[go_sem] theorem y4W : w5.get 1 = (.slice 32 c7) := rfl
@[go_sem] theorem y3I : w5.child 1 = some (1, (.slice 32 c7)) := rfl
@[go_sem] theorem y4C : Z7 w5 = .agg [(.int 0), (.slice [])] := rfl
@[go_sem] theorem y4T : o8 w5 = .agg w5 [o8 (.int .u64), o8 (.slice 32 c7)] := rfl
def x5 : Ty := .struct 3 [0, 1, 2] [.str, (.int .u64), (.int .u64)]
@[go_sem] theorem y5s : x5.known = true := rfl
@[go_sem] theorem y3G : x5.U9 = true := rfl
@[go_sem] theorem y5t : x5.isAgg = true := rfl
@[go_sem] theorem y5J : x5.size = 3 := rfl
@[go_sem] theorem y4P : x5.q1s = [.str, (.int .u64), (.int .u64)] := rfl
@[go_sem] theorem y5K : x5.kids = 3 := rfl
@[go_sem] theorem y5O : x5.W1 = true := by kernel_rfl
@[go_sem] theorem y5N : x5.get 0 = .str := rfl
@[go_sem] theorem y4S : x5.child 0 = some (0, .str) := rfl
@[go_sem] theorem y5M : x5.get 1 = (.int .u64) := rfl
@[go_sem] theorem y4R : x5.child 1 = some (1, (.int .u64)) := rfl
@[go_sem] theorem y5L : x5.get 2 = (.int .u64) := rfl
@[go_sem] theorem y4Q : x5.child 2 = some (2, (.int .u64)) := rfl
@[go_sem] theorem y5r : Z7 x5 = .agg [(.str []), (.int 0), (.int 0)] := rfl
@[go_sem] theorem y5I : o8 x5 = .d x5 (Z7 x5) := rfl
end Go.E
