/-
  The facts of this program: its types, by their numbers.
  Conditions: none.
-/
import Derived.Test.YtnjepbgenciklaaEd
import Derived.Test.YtnjepbgenciklaaRows
set_option linter.all false
namespace Go.Proofs.Ytnjepbgenciklaa
open Go Go.E
set_option maxRecDepth 100000
noncomputable def X0 (gl : Nat → Option (Ty × C)) : Cx := ⟨Try.prog, gl⟩
@[go_sem] theorem X0_gl (gl : Nat → Option (Ty × C)) : (X0 gl).gl = gl := rfl
theorem ok0 (gl : Nat → Option (Ty × C)) : allOk (X0 gl).P = true := by
  show allOk Try.prog = true
  kernel_rfl
theorem mo (gl : Nat → Option (Ty × C)) : (X0 gl).P.follows .mixedOrders = true := by
  show Try.prog.follows .mixedOrders = true
  kernel_rfl
@[go_sem] theorem ty40 (gl : Nat → Option (Ty × C)) : ty (X0 gl).P 40 = (.slice 24 tHop) := by
  show ty Try.prog 40 = _
  kernel_rfl
@[go_sem] theorem ty43 (gl : Nat → Option (Ty × C)) : ty (X0 gl).P 43 = (.slice 112 tWish) := by
  show ty Try.prog 43 = _
  kernel_rfl
@[go_sem] theorem el40 (gl : Nat → Option (Ty × C)) : elemT (X0 gl).P 40 = 111 := by
  show elemT Try.prog 40 = _
  kernel_rfl
@[go_sem] theorem zb42 (gl : Nat → Option (Ty × C)) : zeroB (X0 gl).P 42 = true := by
  show zeroB Try.prog 42 = _
  kernel_rfl
@[go_sem] theorem el43 (gl : Nat → Option (Ty × C)) : elemT (X0 gl).P 43 = 42 := by
  show elemT Try.prog 43 = _
  kernel_rfl
@[go_sem] theorem zb111 (gl : Nat → Option (Ty × C)) : zeroB (X0 gl).P 111 = true := by
  show zeroB Try.prog 111 = _
  kernel_rfl
end Go.Proofs.Ytnjepbgenciklaa

