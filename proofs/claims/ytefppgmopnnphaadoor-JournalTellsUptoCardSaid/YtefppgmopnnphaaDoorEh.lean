/-
 A framework for runs of Go code over abstract data: what it needs, and that it is sound, part 8.
 Conditions: none.
-/
import Derived.Test.YtefppgmopnnphaaDoorEg
set_option linter.all false
namespace Go.E
open Go
def b6 : Ty := .struct 3 [0, 1, 2] [.str, (.int .u64), .bool]
@[go_sem] theorem y6t : b6.known = true := rfl
@[go_sem] theorem y4K : b6.H3 = true := rfl
@[go_sem] theorem y6u : b6.isAgg = true := rfl
@[go_sem] theorem y6G : b6.size = 3 := rfl
@[go_sem] theorem y5P : b6.q1M = [.str, (.int .u64), .bool] := rfl
@[go_sem] theorem y6H : b6.kids = 3 := rfl
@[go_sem] theorem y6L : b6.U2 = true := by kernel_rfl
@[go_sem] theorem y6K : b6.get 0 = .str := rfl
@[go_sem] theorem y5S : b6.child 0 = some (0, .str) := rfl
@[go_sem] theorem y6J : b6.get 1 = (.int .u64) := rfl
@[go_sem] theorem y5R : b6.child 1 = some (1, (.int .u64)) := rfl
@[go_sem] theorem y6I : b6.get 2 = .bool := rfl
@[go_sem] theorem y5Q : b6.child 2 = some (2, .bool) := rfl
@[go_sem] theorem y6s : Y6 b6 = .agg [(.str []), (.int 0), (.bool false)] := rfl
@[go_sem] theorem y6F : j6 b6 = .d b6 (Y6 b6) := rfl
def x9 : Ty := .struct 2 [0, 1] [(.int .u64), (.slice 32 b6)]
@[go_sem] theorem y5H : x9.known = true := rfl
@[go_sem] theorem y2P : x9.H3 = true := rfl
@[go_sem] theorem y5I : x9.isAgg = true := rfl
@[go_sem] theorem y5Y : x9.size = 2 := rfl
@[go_sem] theorem y4M : x9.q1M = [(.int .u64), (.slice 32 b6)] := rfl
@[go_sem] theorem y5Z : x9.kids = 2 := rfl
@[go_sem] theorem y52 : x9.U2 = true := by kernel_rfl
@[go_sem] theorem y51 : x9.get 0 = (.int .u64) := rfl
@[go_sem] theorem y4O : x9.child 0 = some (0, (.int .u64)) := rfl
@[go_sem] theorem y50 : x9.get 1 = (.slice 32 b6) := rfl
@[go_sem] theorem y4N : x9.child 1 = some (1, (.slice 32 b6)) := rfl
@[go_sem] theorem y5G : Y6 x9 = .agg [(.int 0), (.slice [])] := rfl
@[go_sem] theorem y5X : j6 x9 = .agg x9 [j6 (.int .u64), j6 (.slice 32 b6)] := rfl
def y5 : Ty := .struct 3 [0, 1, 2] [.str, (.int .u64), (.int .u64)]
@[go_sem] theorem y6w : y5.known = true := rfl
@[go_sem] theorem y4L : y5.H3 = true := rfl
@[go_sem] theorem y6x : y5.isAgg = true := rfl
@[go_sem] theorem y6N : y5.size = 3 := rfl
@[go_sem] theorem y5T : y5.q1M = [.str, (.int .u64), (.int .u64)] := rfl
@[go_sem] theorem y6O : y5.kids = 3 := rfl
@[go_sem] theorem y6S : y5.U2 = true := by kernel_rfl
@[go_sem] theorem y6R : y5.get 0 = .str := rfl
@[go_sem] theorem y5W : y5.child 0 = some (0, .str) := rfl
@[go_sem] theorem y6Q : y5.get 1 = (.int .u64) := rfl
@[go_sem] theorem y5V : y5.child 1 = some (1, (.int .u64)) := rfl
@[go_sem] theorem y6P : y5.get 2 = (.int .u64) := rfl
@[go_sem] theorem y5U : y5.child 2 = some (2, (.int .u64)) := rfl
@[go_sem] theorem y6v : Y6 y5 = .agg [(.str []), (.int 0), (.int 0)] := rfl
@[go_sem] theorem y6M : j6 y5 = .d y5 (Y6 y5) := rfl
end Go.E
