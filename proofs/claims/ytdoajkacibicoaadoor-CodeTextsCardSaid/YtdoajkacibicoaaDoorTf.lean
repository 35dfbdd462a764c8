/-
 The facts of this program: its types, by their numbers.
 Conditions: none.
-/
import Derived.Test.YtdoajkacibicoaaDoorEe
import Derived.Test.YtdoajkacibicoaaDoorRows
set_option linter.all false
namespace Go.Proofs.YtdoajkacibicoaaDoor
open Go Go.E
set_option maxRecDepth 100000
noncomputable def X0 (gl : Nat → Option (Ty × C)) : Cx := ⟨Tryd.prog, gl⟩
@[go_sem] theorem x0E (gl : Nat → Option (Ty × C)) : (X0 gl).gl = gl := rfl
theorem ok0 (gl : Nat → Option (Ty × C)) : u3 (X0 gl).P = true := by
 show u3 Tryd.prog = true
 kernel_rfl
theorem mo (gl : Nat → Option (Ty × C)) : (X0 gl).P.follows .mixedOrders = true := by
 show Tryd.prog.follows .mixedOrders = true
 kernel_rfl
@[go_sem] theorem ty3 (gl : Nat → Option (Ty × C)) : ty (X0 gl).P 3 = (.int .i64) := by
 show ty Tryd.prog 3 = _
 kernel_rfl
@[go_sem] theorem ty4 (gl : Nat → Option (Ty × C)) : ty (X0 gl).P 4 = .bool := by
 show ty Tryd.prog 4 = _
 kernel_rfl
@[go_sem] theorem ty5 (gl : Nat → Option (Ty × C)) : ty (X0 gl).P 5 = (.int .u8) := by
 show ty Tryd.prog 5 = _
 kernel_rfl
@[go_sem] theorem x0M (gl : Nat → Option (Ty × C)) : ty (X0 gl).P 22 = (.slice 1 (.int .u8)) := by
 show ty Tryd.prog 22 = _
 kernel_rfl
@[go_sem] theorem x0L (gl : Nat → Option (Ty × C)) : ty (X0 gl).P 23 = (.int .i64) := by
 show ty Tryd.prog 23 = _
 kernel_rfl
@[go_sem] theorem x0K (gl : Nat → Option (Ty × C)) : ty (X0 gl).P 37 = (.int .u64) := by
 show ty Tryd.prog 37 = _
 kernel_rfl
@[go_sem] theorem x0J (gl : Nat → Option (Ty × C)) : ty (X0 gl).P 41 = q0k := by
 show ty Tryd.prog 41 = _
 kernel_rfl
@[go_sem] theorem x0I (gl : Nat → Option (Ty × C)) : ty (X0 gl).P 42 = (.arr 18 q0k) := by
 show ty Tryd.prog 42 = _
 kernel_rfl
@[go_sem] theorem x0H (gl : Nat → Option (Ty × C)) : ty (X0 gl).P 53 = (.slice 8 (.int .u64)) := by
 show ty Tryd.prog 53 = _
 kernel_rfl
@[go_sem] theorem x0G (gl : Nat → Option (Ty × C)) : ty (X0 gl).P 54 = (.slice 1 .bool) := by
 show ty Tryd.prog 54 = _
 kernel_rfl
@[go_sem] theorem zb4 (gl : Nat → Option (Ty × C)) : Q0 (X0 gl).P 4 = true := by
 show Q0 Tryd.prog 4 = _
 kernel_rfl
@[go_sem] theorem x0F (gl : Nat → Option (Ty × C)) : Q0 (X0 gl).P 37 = true := by
 show Q0 Tryd.prog 37 = _
 kernel_rfl
@[go_sem] theorem x0O (gl : Nat → Option (Ty × C)) : H3 (X0 gl).P 37 = true := by
 show H3 Tryd.prog 37 = _
 kernel_rfl
@[go_sem] theorem x0Q (gl : Nat → Option (Ty × C)) : v7 (X0 gl).P 53 = 37 := by
 show v7 Tryd.prog 53 = _
 kernel_rfl
@[go_sem] theorem x0P (gl : Nat → Option (Ty × C)) : v7 (X0 gl).P 54 = 4 := by
 show v7 Tryd.prog 54 = _
 kernel_rfl
@[go_sem] theorem x0N (gl : Nat → Option (Ty × C)) : q2c (X0 gl).P 57 = some (37, 4) := by
 show q2c Tryd.prog 57 = _
 kernel_rfl
@[go_sem] theorem x0W (gl : Nat → Option (Ty × C)) : W7 (X0 gl).P 12 = true := by
 show W7 Tryd.prog 12 = _
 kernel_rfl
@[go_sem] theorem x0V (gl : Nat → Option (Ty × C)) : W7 (X0 gl).P 15 = true := by
 show W7 Tryd.prog 15 = _
 kernel_rfl
@[go_sem] theorem x0U (gl : Nat → Option (Ty × C)) : W7 (X0 gl).P 17 = true := by
 show W7 Tryd.prog 17 = _
 kernel_rfl
end Go.Proofs.YtdoajkacibicoaaDoor
