/-
 The facts of this program: its types, by their numbers.
 Conditions: none.
-/
import Derived.Test.YtgdonkaoajbclaaGreatDoorEd
import Derived.Test.YtgdonkaoajbclaaGreatDoorRows
set_option linter.all false
namespace Go.Proofs.YtgdonkaoajbclaaGreatDoor
open Go Go.E
set_option maxRecDepth 100000
noncomputable def X0 (gl : Nat → Option (Ty × C)) : Cx := ⟨Tryz.prog, gl⟩
@[go_sem] theorem x8E (gl : Nat → Option (Ty × C)) : (X0 gl).gl = gl := rfl
theorem ok0 (gl : Nat → Option (Ty × C)) : v9 (X0 gl).P = true := by
 show v9 Tryz.prog = true
 kernel_rfl
theorem mo (gl : Nat → Option (Ty × C)) : (X0 gl).P.follows .mixedOrders = true := by
 show Tryz.prog.follows .mixedOrders = true
 kernel_rfl
@[go_sem] theorem x8G (gl : Nat → Option (Ty × C)) : ty (X0 gl).P 43 = (.slice 1 (.int .u8)) := by
 show ty Tryz.prog 43 = _
 kernel_rfl
@[go_sem] theorem x8F (gl : Nat → Option (Ty × C)) : ty (X0 gl).P 44 = (.slice 64 k9) := by
 show ty Tryz.prog 44 = _
 kernel_rfl
@[go_sem] theorem eq2 (gl : Nat → Option (Ty × C)) : W2 (X0 gl).P 2 = true := by
 show W2 Tryz.prog 2 = _
 kernel_rfl
@[go_sem] theorem eq3 (gl : Nat → Option (Ty × C)) : W2 (X0 gl).P 3 = true := by
 show W2 Tryz.prog 3 = _
 kernel_rfl
@[go_sem] theorem eq4 (gl : Nat → Option (Ty × C)) : W2 (X0 gl).P 4 = true := by
 show W2 Tryz.prog 4 = _
 kernel_rfl
@[go_sem] theorem zb5 (gl : Nat → Option (Ty × C)) : Y0 (X0 gl).P 5 = true := by
 show Y0 Tryz.prog 5 = _
 kernel_rfl
@[go_sem] theorem eq5 (gl : Nat → Option (Ty × C)) : W2 (X0 gl).P 5 = true := by
 show W2 Tryz.prog 5 = _
 kernel_rfl
@[go_sem] theorem eq6 (gl : Nat → Option (Ty × C)) : W2 (X0 gl).P 6 = true := by
 show W2 Tryz.prog 6 = _
 kernel_rfl
@[go_sem] theorem eq7 (gl : Nat → Option (Ty × C)) : W2 (X0 gl).P 7 = true := by
 show W2 Tryz.prog 7 = _
 kernel_rfl
@[go_sem] theorem eq8 (gl : Nat → Option (Ty × C)) : W2 (X0 gl).P 8 = true := by
 show W2 Tryz.prog 8 = _
 kernel_rfl
@[go_sem] theorem eq9 (gl : Nat → Option (Ty × C)) : W2 (X0 gl).P 9 = true := by
 show W2 Tryz.prog 9 = _
 kernel_rfl
@[go_sem] theorem x8I (gl : Nat → Option (Ty × C)) : w8 (X0 gl).P 43 = 5 := by
 show w8 Tryz.prog 43 = _
 kernel_rfl
@[go_sem] theorem x8H (gl : Nat → Option (Ty × C)) : w8 (X0 gl).P 44 = 132 := by
 show w8 Tryz.prog 44 = _
 kernel_rfl
@[go_sem] theorem x8k (gl : Nat → Option (Ty × C)) : Y0 (X0 gl).P 132 = true := by
 show Y0 Tryz.prog 132 = _
 kernel_rfl
end Go.Proofs.YtgdonkaoajbclaaGreatDoor
