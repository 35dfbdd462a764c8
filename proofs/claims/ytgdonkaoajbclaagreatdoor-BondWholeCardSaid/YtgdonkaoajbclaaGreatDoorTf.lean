/-
 The facts of this program: its types, by their numbers.
Conditions: none.
-/
import Derived.Test.YtgdonkaoajbclaaGreatDoorEh
import Derived.Test.YtgdonkaoajbclaaGreatDoorRows
set_option linter.all false
namespace Go.Proofs.YtgdonkaoajbclaaGreatDoor
open Go Go.E
set_option maxRecDepth 100000
noncomputable def X0 (gl:Nat→Option (Ty × C)):Cx:=⟨Tryz.prog,gl⟩
@[go_sem] theorem z5t (gl:Nat→Option (Ty × C)):(X0 gl).gl=gl:=rfl
theorem ok0 (gl:Nat→Option (Ty × C)):Aq (X0 gl).P=true:=by
 show Aq Tryz.prog=true
 kernel_rfl
theorem mo (gl:Nat→Option (Ty × C)):(X0 gl).P.follows .mixedOrders=true:=by
 show Tryz.prog.follows .mixedOrders=true
 kernel_rfl
@[go_sem] theorem ty3 (gl:Nat→Option (Ty × C)):ty (X0 gl).P 3=(.int .i64):=by
 show ty Tryz.prog 3=_
 kernel_rfl
@[go_sem] theorem z5B (gl:Nat→Option (Ty × C)):ty (X0 gl).P 24=(.int .u64):=by
 show ty Tryz.prog 24=_
 kernel_rfl
@[go_sem] theorem z5C (gl:Nat→Option (Ty × C)):ty (X0 gl).P 43=(.slice 1 (.int .u8)):=by
 show ty Tryz.prog 43=_
 kernel_rfl
@[go_sem] theorem z5D (gl:Nat→Option (Ty × C)):ty (X0 gl).P 44=(.slice 64 DQ):=by
 show ty Tryz.prog 44=_
 kernel_rfl
@[go_sem] theorem z5E (gl:Nat→Option (Ty × C)):ty (X0 gl).P 49=(.int .i64):=by
 show ty Tryz.prog 49=_
 kernel_rfl
@[go_sem] theorem z5A (gl:Nat→Option (Ty × C)):ty (X0 gl).P 106=(.slice 8 (.int .u64)):=by
 show ty Tryz.prog 106=_
 kernel_rfl
@[go_sem] theorem eq2 (gl:Nat→Option (Ty × C)):Cw (X0 gl).P 2=true:=by
 show Cw Tryz.prog 2=_
 kernel_rfl
@[go_sem] theorem zb5 (gl:Nat→Option (Ty × C)):CB (X0 gl).P 5=true:=by
 show CB Tryz.prog 5=_
 kernel_rfl
@[go_sem] theorem z5v (gl:Nat→Option (Ty × C)):Al (X0 gl).P 43=5:=by
 show Al Tryz.prog 43=_
 kernel_rfl
@[go_sem] theorem z5w (gl:Nat→Option (Ty × C)):Al (X0 gl).P 44=132:=by
 show Al Tryz.prog 44=_
 kernel_rfl
@[go_sem] theorem z5S (gl:Nat→Option (Ty × C)):CB (X0 gl).P 132=true:=by
 show CB Tryz.prog 132=_
 kernel_rfl
@[go_sem] theorem z5u (gl:Nat→Option (Ty × C)):Hn (X0 gl).P 37=true:=by
 show Hn Tryz.prog 37=_
 kernel_rfl
end Go.Proofs.YtgdonkaoajbclaaGreatDoor
