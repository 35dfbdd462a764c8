/-
  The facts of this program: its types, by their numbers.
  Conditions: none.
-/
import Derived.Test.YtefppgmopnnphaaDoorEd
import Derived.Test.YtefppgmopnnphaaDoorRows
set_option linter.all false
namespace Go.Proofs.YtefppgmopnnphaaDoor
open Go Go.E
set_option maxRecDepth 100000
noncomputable def X0 (gl : Nat → Option (Ty × C)) : Cx := ⟨Tryd.prog, gl⟩
@[go_sem] theorem X0_gl (gl : Nat → Option (Ty × C)) : (X0 gl).gl = gl := rfl
theorem ok0 (gl : Nat → Option (Ty × C)) : allOk (X0 gl).P = true := by
  show allOk Tryd.prog = true
  kernel_rfl
theorem mo (gl : Nat → Option (Ty × C)) : (X0 gl).P.follows .mixedOrders = true := by
  show Tryd.prog.follows .mixedOrders = true
  kernel_rfl
@[go_sem] theorem ty30 (gl : Nat → Option (Ty × C)) : ty (X0 gl).P 30 = (.slice 32 tEntry3) := by
  show ty Tryd.prog 30 = _
  kernel_rfl
@[go_sem] theorem ty32 (gl : Nat → Option (Ty × C)) : ty (X0 gl).P 32 = (.slice 32 tPost) := by
  show ty Tryd.prog 32 = _
  kernel_rfl
@[go_sem] theorem el30 (gl : Nat → Option (Ty × C)) : elemT (X0 gl).P 30 = 34 := by
  show elemT Tryd.prog 30 = _
  kernel_rfl
@[go_sem] theorem el32 (gl : Nat → Option (Ty × C)) : elemT (X0 gl).P 32 = 70 := by
  show elemT Tryd.prog 32 = _
  kernel_rfl
@[go_sem] theorem zb34 (gl : Nat → Option (Ty × C)) : zeroB (X0 gl).P 34 = true := by
  show zeroB Tryd.prog 34 = _
  kernel_rfl
@[go_sem] theorem zb70 (gl : Nat → Option (Ty × C)) : zeroB (X0 gl).P 70 = true := by
  show zeroB Tryd.prog 70 = _
  kernel_rfl
end Go.Proofs.YtefppgmopnnphaaDoor

