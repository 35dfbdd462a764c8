/-
 The facts of this program: its types, by their numbers.
 Conditions: none.
-/
import Derived.Test.YtaopfcpeloodbaaDoorEh
import Derived.Test.YtaopfcpeloodbaaDoorRows
set_option linter.all false
namespace Go.Proofs.YtaopfcpeloodbaaDoor
open Go Go.E
set_option maxRecDepth 100000
noncomputable def X0 (gl:Nat→Option (Ty × C)):Cx:=⟨Tryd.prog,gl⟩
@[go_sem] theorem y6R (gl:Nat→Option (Ty × C)):(X0 gl).gl=gl:=rfl
theorem ok0 (gl:Nat→Option (Ty × C)):x4 (X0 gl).P=true:=by
 show x4 Tryd.prog=true
 kernel_rfl
theorem mo (gl:Nat→Option (Ty × C)):(X0 gl).P.follows .mixedOrders=true:=by
 show Tryd.prog.follows .mixedOrders=true
 kernel_rfl
end Go.Proofs.YtaopfcpeloodbaaDoor
