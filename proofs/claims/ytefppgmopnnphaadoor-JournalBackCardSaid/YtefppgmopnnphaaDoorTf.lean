/-
 The facts of this program: its types, by their numbers.
 Conditions: none.
-/
import Derived.Test.YtefppgmopnnphaaDoorEh
import Derived.Test.YtefppgmopnnphaaDoorRows
set_option linter.all false
namespace Go.Proofs.YtefppgmopnnphaaDoor
open Go Go.E
set_option maxRecDepth 100000
noncomputable def X0 (gl : Nat → Option (Ty × C)) : Cx := ⟨Tryd.prog, gl⟩
@[go_sem] theorem x1u (gl : Nat → Option (Ty × C)) : (X0 gl).gl = gl := rfl
theorem ok0 (gl : Nat → Option (Ty × C)) : x6 (X0 gl).P = true := by
 show x6 Tryd.prog = true
 kernel_rfl
theorem mo (gl : Nat → Option (Ty × C)) : (X0 gl).P.follows .mixedOrders = true := by
 show Tryd.prog.follows .mixedOrders = true
 kernel_rfl
@[go_sem] theorem x1y (gl : Nat → Option (Ty × C)) : ty (X0 gl).P 30 = (.slice 32 y5) := by
 show ty Tryd.prog 30 = _
 kernel_rfl
@[go_sem] theorem x1x (gl : Nat → Option (Ty × C)) : ty (X0 gl).P 32 = (.slice 32 r9) := by
 show ty Tryd.prog 32 = _
 kernel_rfl
@[go_sem] theorem x1A (gl : Nat → Option (Ty × C)) : x4 (X0 gl).P 30 = 34 := by
 show x4 Tryd.prog 30 = _
 kernel_rfl
@[go_sem] theorem x1z (gl : Nat → Option (Ty × C)) : x4 (X0 gl).P 32 = 70 := by
 show x4 Tryd.prog 32 = _
 kernel_rfl
@[go_sem] theorem x1w (gl : Nat → Option (Ty × C)) : Q7 (X0 gl).P 34 = true := by
 show Q7 Tryd.prog 34 = _
 kernel_rfl
@[go_sem] theorem x1v (gl : Nat → Option (Ty × C)) : Q7 (X0 gl).P 70 = true := by
 show Q7 Tryd.prog 70 = _
 kernel_rfl
end Go.Proofs.YtefppgmopnnphaaDoor
