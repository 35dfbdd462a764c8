/-
 The facts of this program: its types, by their numbers.
 Conditions: none.
-/
import Derived.Test.YteaddgnjddjllaaEg
import Derived.Test.YteaddgnjddjllaaRows
set_option linter.all false
namespace Go.Proofs.Yteaddgnjddjllaa
open Go Go.E
set_option maxRecDepth 100000
noncomputable def X0 (gl : Nat → Option (Ty × C)) : Cx := ⟨Try.prog, gl⟩
@[go_sem] theorem x2Y (gl : Nat → Option (Ty × C)) : (X0 gl).gl = gl := rfl
theorem ok0 (gl : Nat → Option (Ty × C)) : u6 (X0 gl).P = true := by
 show u6 Try.prog = true
 kernel_rfl
theorem mo (gl : Nat → Option (Ty × C)) : (X0 gl).P.follows .mixedOrders = true := by
 show Try.prog.follows .mixedOrders = true
 kernel_rfl
@[go_sem] theorem eq2 (gl : Nat → Option (Ty × C)) : U8 (X0 gl).P 2 = true := by
 show U8 Try.prog 2 = _
 kernel_rfl
@[go_sem] theorem eq3 (gl : Nat → Option (Ty × C)) : U8 (X0 gl).P 3 = true := by
 show U8 Try.prog 3 = _
 kernel_rfl
@[go_sem] theorem eq4 (gl : Nat → Option (Ty × C)) : U8 (X0 gl).P 4 = true := by
 show U8 Try.prog 4 = _
 kernel_rfl
@[go_sem] theorem eq5 (gl : Nat → Option (Ty × C)) : U8 (X0 gl).P 5 = true := by
 show U8 Try.prog 5 = _
 kernel_rfl
@[go_sem] theorem eq6 (gl : Nat → Option (Ty × C)) : U8 (X0 gl).P 6 = true := by
 show U8 Try.prog 6 = _
 kernel_rfl
@[go_sem] theorem eq7 (gl : Nat → Option (Ty × C)) : U8 (X0 gl).P 7 = true := by
 show U8 Try.prog 7 = _
 kernel_rfl
@[go_sem] theorem eq8 (gl : Nat → Option (Ty × C)) : U8 (X0 gl).P 8 = true := by
 show U8 Try.prog 8 = _
 kernel_rfl
@[go_sem] theorem eq9 (gl : Nat → Option (Ty × C)) : U8 (X0 gl).P 9 = true := by
 show U8 Try.prog 9 = _
 kernel_rfl
end Go.Proofs.Yteaddgnjddjllaa
