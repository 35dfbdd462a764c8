/-
  The facts of this program: its types, by their numbers.
  Conditions: none.
-/
import Derived.Test.YthbdeooemkejmaaDoorEd
import Derived.Test.YthbdeooemkejmaaDoorRows
set_option linter.all false
namespace Go.Proofs.YthbdeooemkejmaaDoor
open Go Go.E
set_option maxRecDepth 100000
noncomputable def X0 (gl : Nat → Option (Ty × C)) : Cx := ⟨Tryd.prog, gl⟩
@[go_sem] theorem X0_gl (gl : Nat → Option (Ty × C)) : (X0 gl).gl = gl := rfl
theorem ok0 (gl : Nat → Option (Ty × C)) : allOk (X0 gl).P = true := by
  show allOk Tryd.prog = true
  kernel_rfl
theorem mo (gl : Nat → Option (Ty × C)) : (X0 gl).P.follows .mixedOrders = true := by
  show Tryd.prog.follows .mixedOrders = true
  kernel_rfl
@[go_sem] theorem ty3 (gl : Nat → Option (Ty × C)) : ty (X0 gl).P 3 = (.int .i64) := by
  show ty Tryd.prog 3 = _
  kernel_rfl
@[go_sem] theorem ty4 (gl : Nat → Option (Ty × C)) : ty (X0 gl).P 4 = .bool := by
  show ty Tryd.prog 4 = _
  kernel_rfl
@[go_sem] theorem ty5 (gl : Nat → Option (Ty × C)) : ty (X0 gl).P 5 = (.int .u8) := by
  show ty Tryd.prog 5 = _
  kernel_rfl
@[go_sem] theorem ty22 (gl : Nat → Option (Ty × C)) : ty (X0 gl).P 22 = (.slice 1 (.int .u8)) := by
  show ty Tryd.prog 22 = _
  kernel_rfl
@[go_sem] theorem ty23 (gl : Nat → Option (Ty × C)) : ty (X0 gl).P 23 = (.slice 8 (.int .u64)) := by
  show ty Tryd.prog 23 = _
  kernel_rfl
@[go_sem] theorem ty25 (gl : Nat → Option (Ty × C)) : ty (X0 gl).P 25 = (.int .u64) := by
  show ty Tryd.prog 25 = _
  kernel_rfl
@[go_sem] theorem ty30 (gl : Nat → Option (Ty × C)) : ty (X0 gl).P 30 = (.int .i64) := by
  show ty Tryd.prog 30 = _
  kernel_rfl
@[go_sem] theorem ty50 (gl : Nat → Option (Ty × C)) : ty (X0 gl).P 50 = tForm := by
  show ty Tryd.prog 50 = _
  kernel_rfl
@[go_sem] theorem ty51 (gl : Nat → Option (Ty × C)) : ty (X0 gl).P 51 = (.arr 18 tForm) := by
  show ty Tryd.prog 51 = _
  kernel_rfl
@[go_sem] theorem zb4 (gl : Nat → Option (Ty × C)) : zeroB (X0 gl).P 4 = true := by
  show zeroB Tryd.prog 4 = _
  kernel_rfl
@[go_sem] theorem el23 (gl : Nat → Option (Ty × C)) : elemT (X0 gl).P 23 = 25 := by
  show elemT Tryd.prog 23 = _
  kernel_rfl
@[go_sem] theorem zb25 (gl : Nat → Option (Ty × C)) : zeroB (X0 gl).P 25 = true := by
  show zeroB Tryd.prog 25 = _
  kernel_rfl
@[go_sem] theorem eq25 (gl : Nat → Option (Ty × C)) : eqOk (X0 gl).P 25 = true := by
  show eqOk Tryd.prog 25 = _
  kernel_rfl
@[go_sem] theorem mt81 (gl : Nat → Option (Ty × C)) : mapT (X0 gl).P 81 = some (25, 4) := by
  show mapT Tryd.prog 81 = _
  kernel_rfl
@[go_sem] theorem ca13 (gl : Nat → Option (Ty × C)) : callable (X0 gl).P 13 = true := by
  show callable Tryd.prog 13 = _
  kernel_rfl
end Go.Proofs.YthbdeooemkejmaaDoor

