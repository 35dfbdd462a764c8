/-
  The facts of this program: its types, by their numbers.
  Conditions: none.
-/
import Derived.Test.YtjakbdogmomfeaaDoorEd
import Derived.Test.YtjakbdogmomfeaaDoorRows
set_option linter.all false
namespace Go.Proofs.YtjakbdogmomfeaaDoor
open Go Go.E
set_option maxRecDepth 100000
noncomputable def X0 (gl : Nat → Option (Ty × C)) : Cx := ⟨Tryd.prog, gl⟩
@[go_sem] theorem X0_gl (gl : Nat → Option (Ty × C)) : (X0 gl).gl = gl := rfl
theorem ok0 (gl : Nat → Option (Ty × C)) : allOk (X0 gl).P = true := by
  show allOk Tryd.prog = true
  kernel_rfl
theorem mo (gl : Nat → Option (Ty × C)) : (X0 gl).P.follows .mixedOrders = true := by
  show Tryd.prog.follows .mixedOrders = true
  kernel_rfl
@[go_sem] theorem ty3 (gl : Nat → Option (Ty × C)) : ty (X0 gl).P 3 = (.int .i64) := by
  show ty Tryd.prog 3 = _
  kernel_rfl
@[go_sem] theorem ty4 (gl : Nat → Option (Ty × C)) : ty (X0 gl).P 4 = .bool := by
  show ty Tryd.prog 4 = _
  kernel_rfl
@[go_sem] theorem ty5 (gl : Nat → Option (Ty × C)) : ty (X0 gl).P 5 = (.int .u8) := by
  show ty Tryd.prog 5 = _
  kernel_rfl
@[go_sem] theorem ty22 (gl : Nat → Option (Ty × C)) : ty (X0 gl).P 22 = (.slice 1 (.int .u8)) := by
  show ty Tryd.prog 22 = _
  kernel_rfl
@[go_sem] theorem ty23 (gl : Nat → Option (Ty × C)) : ty (X0 gl).P 23 = (.int .u64) := by
  show ty Tryd.prog 23 = _
  kernel_rfl
@[go_sem] theorem ty32 (gl : Nat → Option (Ty × C)) : ty (X0 gl).P 32 = (.slice 64 tCond) := by
  show ty Tryd.prog 32 = _
  kernel_rfl
@[go_sem] theorem ty37 (gl : Nat → Option (Ty × C)) : ty (X0 gl).P 37 = (.int .i64) := by
  show ty Tryd.prog 37 = _
  kernel_rfl
@[go_sem] theorem ty69 (gl : Nat → Option (Ty × C)) : ty (X0 gl).P 69 = (.slice 8 (.int .u64)) := by
  show ty Tryd.prog 69 = _
  kernel_rfl
@[go_sem] theorem ty99 (gl : Nat → Option (Ty × C)) : ty (X0 gl).P 99 = tForm := by
  show ty Tryd.prog 99 = _
  kernel_rfl
@[go_sem] theorem ty100 (gl : Nat → Option (Ty × C)) : ty (X0 gl).P 100 = (.arr 18 tForm) := by
  show ty Tryd.prog 100 = _
  kernel_rfl
@[go_sem] theorem zb4 (gl : Nat → Option (Ty × C)) : zeroB (X0 gl).P 4 = true := by
  show zeroB Tryd.prog 4 = _
  kernel_rfl
@[go_sem] theorem zb5 (gl : Nat → Option (Ty × C)) : zeroB (X0 gl).P 5 = true := by
  show zeroB Tryd.prog 5 = _
  kernel_rfl
@[go_sem] theorem el22 (gl : Nat → Option (Ty × C)) : elemT (X0 gl).P 22 = 5 := by
  show elemT Tryd.prog 22 = _
  kernel_rfl
@[go_sem] theorem zb23 (gl : Nat → Option (Ty × C)) : zeroB (X0 gl).P 23 = true := by
  show zeroB Tryd.prog 23 = _
  kernel_rfl
@[go_sem] theorem eq23 (gl : Nat → Option (Ty × C)) : eqOk (X0 gl).P 23 = true := by
  show eqOk Tryd.prog 23 = _
  kernel_rfl
@[go_sem] theorem el32 (gl : Nat → Option (Ty × C)) : elemT (X0 gl).P 32 = 95 := by
  show elemT Tryd.prog 32 = _
  kernel_rfl
@[go_sem] theorem el69 (gl : Nat → Option (Ty × C)) : elemT (X0 gl).P 69 = 23 := by
  show elemT Tryd.prog 69 = _
  kernel_rfl
@[go_sem] theorem zb95 (gl : Nat → Option (Ty × C)) : zeroB (X0 gl).P 95 = true := by
  show zeroB Tryd.prog 95 = _
  kernel_rfl
@[go_sem] theorem mt81 (gl : Nat → Option (Ty × C)) : mapT (X0 gl).P 81 = some (23, 4) := by
  show mapT Tryd.prog 81 = _
  kernel_rfl
@[go_sem] theorem ca23 (gl : Nat → Option (Ty × C)) : callable (X0 gl).P 23 = true := by
  show callable Tryd.prog 23 = _
  kernel_rfl
end Go.Proofs.YtjakbdogmomfeaaDoor

