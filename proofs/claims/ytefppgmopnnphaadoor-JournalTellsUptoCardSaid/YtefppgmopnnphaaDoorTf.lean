/-
 The facts of this program: its types, by their numbers.
 Conditions: none.
-/
import Derived.Test.YtefppgmopnnphaaDoorEh
import Derived.Test.YtefppgmopnnphaaDoorRows
set_option linter.all false
namespace Go.Proofs.YtefppgmopnnphaaDoor
open Go Go.E
set_option maxRecDepth 100000
noncomputable def X0 (gl : Nat → Option (Ty × C)) : Cx := ⟨Tryd.prog, gl⟩
@[go_sem] theorem y7T (gl : Nat → Option (Ty × C)) : (X0 gl).gl = gl := rfl
theorem ok0 (gl : Nat → Option (Ty × C)) : x6 (X0 gl).P = true := by
 show x6 Tryd.prog = true
 kernel_rfl
theorem mo (gl : Nat → Option (Ty × C)) : (X0 gl).P.follows .mixedOrders = true := by
 show Tryd.prog.follows .mixedOrders = true
 kernel_rfl
@[go_sem] theorem y7X (gl : Nat → Option (Ty × C)) : ty (X0 gl).P 30 = (.slice 32 x9) := by
 show ty Tryd.prog 30 = _
 kernel_rfl
@[go_sem] theorem y7W (gl : Nat → Option (Ty × C)) : ty (X0 gl).P 32 = (.slice 32 b6) := by
 show ty Tryd.prog 32 = _
 kernel_rfl
@[go_sem] theorem y7Z (gl : Nat → Option (Ty × C)) : x4 (X0 gl).P 30 = 34 := by
 show x4 Tryd.prog 30 = _
 kernel_rfl
@[go_sem] theorem y7Y (gl : Nat → Option (Ty × C)) : x4 (X0 gl).P 32 = 70 := by
 show x4 Tryd.prog 32 = _
 kernel_rfl
@[go_sem] theorem y7V (gl : Nat → Option (Ty × C)) : Q1 (X0 gl).P 34 = true := by
 show Q1 Tryd.prog 34 = _
 kernel_rfl
@[go_sem] theorem y7U (gl : Nat → Option (Ty × C)) : Q1 (X0 gl).P 70 = true := by
 show Q1 Tryd.prog 70 = _
 kernel_rfl
end Go.Proofs.YtefppgmopnnphaaDoor
