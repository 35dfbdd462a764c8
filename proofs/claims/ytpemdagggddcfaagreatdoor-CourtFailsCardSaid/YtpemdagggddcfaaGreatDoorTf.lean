/-
 The facts of this program: its types, by their numbers.
 Conditions: none.
-/
import Derived.Test.YtpemdagggddcfaaGreatDoorEh
import Derived.Test.YtpemdagggddcfaaGreatDoorRows
set_option linter.all false
namespace Go.Proofs.YtpemdagggddcfaaGreatDoor
open Go Go.E
set_option maxRecDepth 100000
noncomputable def X0 (gl:Nat→Option (Ty × C)):Cx:=⟨Tryz.prog,gl⟩
@[go_sem] theorem q8A (gl:Nat→Option (Ty × C)):(X0 gl).gl=gl:=rfl
theorem ok0 (gl:Nat→Option (Ty × C)):Al (X0 gl).P=true:=by
 show Al Tryz.prog=true
 kernel_rfl
theorem mo (gl:Nat→Option (Ty × C)):(X0 gl).P.follows .mixedOrders=true:=by
 show Tryz.prog.follows .mixedOrders=true
 kernel_rfl
@[go_sem] theorem z3B (gl:Nat→Option (Ty × C)):ty (X0 gl).P 35=(.slice 1 (.int .u8)):=by
 show ty Tryz.prog 35=_
 kernel_rfl
@[go_sem] theorem z3C (gl:Nat→Option (Ty × C)):ty (X0 gl).P 59=(.slice 64 Bz):=by
 show ty Tryz.prog 59=_
 kernel_rfl
@[go_sem] theorem z3D (gl:Nat→Option (Ty × C)):ty (X0 gl).P 66=(.slice 32 (.arr 32 (.int .u8))):=by
 show ty Tryz.prog 66=_
 kernel_rfl
@[go_sem] theorem z3E (gl:Nat→Option (Ty × C)):ty (X0 gl).P 81=(.slice 40 AX):=by
 show ty Tryz.prog 81=_
 kernel_rfl
@[go_sem] theorem z3F (gl:Nat→Option (Ty × C)):ty (X0 gl).P 85=(.slice 8 (.int .u64)):=by
 show ty Tryz.prog 85=_
 kernel_rfl
@[go_sem] theorem eq2 (gl:Nat→Option (Ty × C)):CJ (X0 gl).P 2=true:=by
 show CJ Tryz.prog 2=_
 kernel_rfl
@[go_sem] theorem eq3 (gl:Nat→Option (Ty × C)):CJ (X0 gl).P 3=true:=by
 show CJ Tryz.prog 3=_
 kernel_rfl
@[go_sem] theorem eq4 (gl:Nat→Option (Ty × C)):CJ (X0 gl).P 4=true:=by
 show CJ Tryz.prog 4=_
 kernel_rfl
@[go_sem] theorem zb5 (gl:Nat→Option (Ty × C)):CE (X0 gl).P 5=true:=by
 show CE Tryz.prog 5=_
 kernel_rfl
@[go_sem] theorem eq5 (gl:Nat→Option (Ty × C)):CJ (X0 gl).P 5=true:=by
 show CJ Tryz.prog 5=_
 kernel_rfl
@[go_sem] theorem eq6 (gl:Nat→Option (Ty × C)):CJ (X0 gl).P 6=true:=by
 show CJ Tryz.prog 6=_
 kernel_rfl
@[go_sem] theorem eq7 (gl:Nat→Option (Ty × C)):CJ (X0 gl).P 7=true:=by
 show CJ Tryz.prog 7=_
 kernel_rfl
@[go_sem] theorem eq8 (gl:Nat→Option (Ty × C)):CJ (X0 gl).P 8=true:=by
 show CJ Tryz.prog 8=_
 kernel_rfl
@[go_sem] theorem eq9 (gl:Nat→Option (Ty × C)):CJ (X0 gl).P 9=true:=by
 show CJ Tryz.prog 9=_
 kernel_rfl
@[go_sem] theorem z3Q (gl:Nat→Option (Ty × C)):CE (X0 gl).P 28=true:=by
 show CE Tryz.prog 28=_
 kernel_rfl
@[go_sem] theorem q8D (gl:Nat→Option (Ty × C)):Af (X0 gl).P 35=5:=by
 show Af Tryz.prog 35=_
 kernel_rfl
@[go_sem] theorem z3R (gl:Nat→Option (Ty × C)):CE (X0 gl).P 55=true:=by
 show CE Tryz.prog 55=_
 kernel_rfl
@[go_sem] theorem q8E (gl:Nat→Option (Ty × C)):Af (X0 gl).P 59=186:=by
 show Af Tryz.prog 59=_
 kernel_rfl
@[go_sem] theorem q8F (gl:Nat→Option (Ty × C)):Af (X0 gl).P 66=55:=by
 show Af Tryz.prog 66=_
 kernel_rfl
@[go_sem] theorem q8G (gl:Nat→Option (Ty × C)):Af (X0 gl).P 81=130:=by
 show Af Tryz.prog 81=_
 kernel_rfl
@[go_sem] theorem q8H (gl:Nat→Option (Ty × C)):Af (X0 gl).P 85=28:=by
 show Af Tryz.prog 85=_
 kernel_rfl
@[go_sem] theorem z3O (gl:Nat→Option (Ty × C)):CE (X0 gl).P 130=true:=by
 show CE Tryz.prog 130=_
 kernel_rfl
@[go_sem] theorem z3P (gl:Nat→Option (Ty × C)):CE (X0 gl).P 186=true:=by
 show CE Tryz.prog 186=_
 kernel_rfl
end Go.Proofs.YtpemdagggddcfaaGreatDoor
