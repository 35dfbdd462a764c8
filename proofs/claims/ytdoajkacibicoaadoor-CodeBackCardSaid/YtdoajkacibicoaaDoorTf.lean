/-
 The facts of this program: its types, by their numbers.
 Conditions: none.
-/
import Derived.Test.YtdoajkacibicoaaDoorEg
import Derived.Test.YtdoajkacibicoaaDoorRows
set_option linter.all false
namespace Go.Proofs.YtdoajkacibicoaaDoor
open Go Go.E
set_option maxRecDepth 100000
noncomputable def X0 (gl : Nat → Option (Ty × C)) : Cx := ⟨Tryd.prog, gl⟩
@[go_sem] theorem y8w (gl : Nat → Option (Ty × C)) : (X0 gl).gl = gl := rfl
theorem ok0 (gl : Nat → Option (Ty × C)) : x5 (X0 gl).P = true := by
 show x5 Tryd.prog = true
 kernel_rfl
theorem mo (gl : Nat → Option (Ty × C)) : (X0 gl).P.follows .mixedOrders = true := by
 show Tryd.prog.follows .mixedOrders = true
 kernel_rfl
@[go_sem] theorem ty3 (gl : Nat → Option (Ty × C)) : ty (X0 gl).P 3 = (.int .i64) := by
 show ty Tryd.prog 3 = _
 kernel_rfl
@[go_sem] theorem ty4 (gl : Nat → Option (Ty × C)) : ty (X0 gl).P 4 = .bool := by
 show ty Tryd.prog 4 = _
 kernel_rfl
@[go_sem] theorem ty5 (gl : Nat → Option (Ty × C)) : ty (X0 gl).P 5 = (.int .u8) := by
 show ty Tryd.prog 5 = _
 kernel_rfl
@[go_sem] theorem y8D (gl : Nat → Option (Ty × C)) : ty (X0 gl).P 22 = (.slice 1 (.int .u8)) := by
 show ty Tryd.prog 22 = _
 kernel_rfl
@[go_sem] theorem y8C (gl : Nat → Option (Ty × C)) : ty (X0 gl).P 23 = (.int .i64) := by
 show ty Tryd.prog 23 = _
 kernel_rfl
@[go_sem] theorem y8B (gl : Nat → Option (Ty × C)) : ty (X0 gl).P 37 = (.int .u64) := by
 show ty Tryd.prog 37 = _
 kernel_rfl
@[go_sem] theorem y8A (gl : Nat → Option (Ty × C)) : ty (X0 gl).P 41 = F5 := by
 show ty Tryd.prog 41 = _
 kernel_rfl
@[go_sem] theorem y8z (gl : Nat → Option (Ty × C)) : ty (X0 gl).P 42 = (.arr 18 F5) := by
 show ty Tryd.prog 42 = _
 kernel_rfl
@[go_sem] theorem y8y (gl : Nat → Option (Ty × C)) : ty (X0 gl).P 53 = (.slice 8 (.int .u64)) := by
 show ty Tryd.prog 53 = _
 kernel_rfl
@[go_sem] theorem zb4 (gl : Nat → Option (Ty × C)) : Q4 (X0 gl).P 4 = true := by
 show Q4 Tryd.prog 4 = _
 kernel_rfl
@[go_sem] theorem y8x (gl : Nat → Option (Ty × C)) : Q4 (X0 gl).P 37 = true := by
 show Q4 Tryd.prog 37 = _
 kernel_rfl
@[go_sem] theorem y8F (gl : Nat → Option (Ty × C)) : F1 (X0 gl).P 37 = true := by
 show F1 Tryd.prog 37 = _
 kernel_rfl
@[go_sem] theorem y8G (gl : Nat → Option (Ty × C)) : y8 (X0 gl).P 53 = 37 := by
 show y8 Tryd.prog 53 = _
 kernel_rfl
@[go_sem] theorem y8E (gl : Nat → Option (Ty × C)) : q3r (X0 gl).P 57 = some (37, 4) := by
 show q3r Tryd.prog 57 = _
 kernel_rfl
@[go_sem] theorem y8N (gl : Nat → Option (Ty × C)) : F4 (X0 gl).P 12 = true := by
 show F4 Tryd.prog 12 = _
 kernel_rfl
end Go.Proofs.YtdoajkacibicoaaDoor
