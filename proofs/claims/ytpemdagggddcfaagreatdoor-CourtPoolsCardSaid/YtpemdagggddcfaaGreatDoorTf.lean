/-
 The facts of this program: its types, by their numbers.
 Conditions: none.
-/
import Derived.Test.YtpemdagggddcfaaGreatDoorEh
import Derived.Test.YtpemdagggddcfaaGreatDoorRows
set_option linter.all false
namespace Go.Proofs.YtpemdagggddcfaaGreatDoor
open Go Go.E
set_option maxRecDepth 100000
noncomputable def X0 (gl:Nat→Option (Ty × C)):Cx:=⟨Tryz.prog,gl⟩
@[go_sem] theorem q7t (gl:Nat→Option (Ty × C)):(X0 gl).gl=gl:=rfl
theorem ok0 (gl:Nat→Option (Ty × C)):BH (X0 gl).P=true:=by
 show BH Tryz.prog=true
 kernel_rfl
theorem mo (gl:Nat→Option (Ty × C)):(X0 gl).P.follows .mixedOrders=true:=by
 show Tryz.prog.follows .mixedOrders=true
 kernel_rfl
@[go_sem] theorem z2x (gl:Nat→Option (Ty × C)):ty (X0 gl).P 35=(.slice 1 (.int .u8)):=by
 show ty Tryz.prog 35=_
 kernel_rfl
@[go_sem] theorem z2y (gl:Nat→Option (Ty × C)):ty (X0 gl).P 59=(.slice 64 CV):=by
 show ty Tryz.prog 59=_
 kernel_rfl
@[go_sem] theorem z2z (gl:Nat→Option (Ty × C)):ty (X0 gl).P 66=(.slice 32 (.arr 32 (.int .u8))):=by
 show ty Tryz.prog 66=_
 kernel_rfl
@[go_sem] theorem z2A (gl:Nat→Option (Ty × C)):ty (X0 gl).P 75=(.slice 2368 tTx):=by
 show ty Tryz.prog 75=_
 kernel_rfl
@[go_sem] theorem z2B (gl:Nat→Option (Ty × C)):ty (X0 gl).P 81=(.slice 40 AZ):=by
 show ty Tryz.prog 81=_
 kernel_rfl
@[go_sem] theorem z2C (gl:Nat→Option (Ty × C)):ty (X0 gl).P 85=(.slice 8 (.int .u64)):=by
 show ty Tryz.prog 85=_
 kernel_rfl
@[go_sem] theorem eq2 (gl:Nat→Option (Ty × C)):CW (X0 gl).P 2=true:=by
 show CW Tryz.prog 2=_
 kernel_rfl
@[go_sem] theorem eq3 (gl:Nat→Option (Ty × C)):CW (X0 gl).P 3=true:=by
 show CW Tryz.prog 3=_
 kernel_rfl
@[go_sem] theorem eq4 (gl:Nat→Option (Ty × C)):CW (X0 gl).P 4=true:=by
 show CW Tryz.prog 4=_
 kernel_rfl
@[go_sem] theorem zb5 (gl:Nat→Option (Ty × C)):CJ (X0 gl).P 5=true:=by
 show CJ Tryz.prog 5=_
 kernel_rfl
@[go_sem] theorem eq5 (gl:Nat→Option (Ty × C)):CW (X0 gl).P 5=true:=by
 show CW Tryz.prog 5=_
 kernel_rfl
@[go_sem] theorem eq6 (gl:Nat→Option (Ty × C)):CW (X0 gl).P 6=true:=by
 show CW Tryz.prog 6=_
 kernel_rfl
@[go_sem] theorem eq7 (gl:Nat→Option (Ty × C)):CW (X0 gl).P 7=true:=by
 show CW Tryz.prog 7=_
 kernel_rfl
@[go_sem] theorem eq8 (gl:Nat→Option (Ty × C)):CW (X0 gl).P 8=true:=by
 show CW Tryz.prog 8=_
 kernel_rfl
@[go_sem] theorem eq9 (gl:Nat→Option (Ty × C)):CW (X0 gl).P 9=true:=by
 show CW Tryz.prog 9=_
 kernel_rfl
@[go_sem] theorem z2O (gl:Nat→Option (Ty × C)):CJ (X0 gl).P 28=true:=by
 show CJ Tryz.prog 28=_
 kernel_rfl
@[go_sem] theorem q7v (gl:Nat→Option (Ty × C)):Af (X0 gl).P 35=5:=by
 show Af Tryz.prog 35=_
 kernel_rfl
@[go_sem] theorem z2P (gl:Nat→Option (Ty × C)):CJ (X0 gl).P 55=true:=by
 show CJ Tryz.prog 55=_
 kernel_rfl
@[go_sem] theorem q7w (gl:Nat→Option (Ty × C)):Af (X0 gl).P 59=186:=by
 show Af Tryz.prog 59=_
 kernel_rfl
@[go_sem] theorem q7x (gl:Nat→Option (Ty × C)):Af (X0 gl).P 66=55:=by
 show Af Tryz.prog 66=_
 kernel_rfl
@[go_sem] theorem z2Q (gl:Nat→Option (Ty × C)):CJ (X0 gl).P 73=true:=by
 show CJ Tryz.prog 73=_
 kernel_rfl
@[go_sem] theorem q7y (gl:Nat→Option (Ty × C)):Af (X0 gl).P 75=73:=by
 show Af Tryz.prog 75=_
 kernel_rfl
@[go_sem] theorem q7z (gl:Nat→Option (Ty × C)):Af (X0 gl).P 81=130:=by
 show Af Tryz.prog 81=_
 kernel_rfl
@[go_sem] theorem q7A (gl:Nat→Option (Ty × C)):Af (X0 gl).P 85=28:=by
 show Af Tryz.prog 85=_
 kernel_rfl
@[go_sem] theorem z2M (gl:Nat→Option (Ty × C)):CJ (X0 gl).P 130=true:=by
 show CJ Tryz.prog 130=_
 kernel_rfl
@[go_sem] theorem z2N (gl:Nat→Option (Ty × C)):CJ (X0 gl).P 186=true:=by
 show CJ Tryz.prog 186=_
 kernel_rfl
end Go.Proofs.YtpemdagggddcfaaGreatDoor
