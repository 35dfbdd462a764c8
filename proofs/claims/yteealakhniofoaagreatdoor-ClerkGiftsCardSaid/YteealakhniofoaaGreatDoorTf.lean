/-
 The facts of this program: its types, by their numbers.
 Conditions: none.
-/
import Derived.Test.YteealakhniofoaaGreatDoorEh
import Derived.Test.YteealakhniofoaaGreatDoorRows
set_option linter.all false
namespace Go.Proofs.YteealakhniofoaaGreatDoor
open Go Go.E
set_option maxRecDepth 100000
noncomputable def X0 (gl:Nat→Option (Ty × C)):Cx:=⟨Tryz.prog,gl⟩
@[go_sem] theorem q9o (gl:Nat→Option (Ty × C)):(X0 gl).gl=gl:=rfl
theorem ok0 (gl:Nat→Option (Ty × C)):BN (X0 gl).P=true:=by
 show BN Tryz.prog=true
 kernel_rfl
theorem mo (gl:Nat→Option (Ty × C)):(X0 gl).P.follows .mixedOrders=true:=by
 show Tryz.prog.follows .mixedOrders=true
 kernel_rfl
@[go_sem] theorem z6g (gl:Nat→Option (Ty × C)):ty (X0 gl).P 28=(.slice 1 (.int .u8)):=by
 show ty Tryz.prog 28=_
 kernel_rfl
@[go_sem] theorem z6h (gl:Nat→Option (Ty × C)):ty (X0 gl).P 44=(.slice 64 Cl):=by
 show ty Tryz.prog 44=_
 kernel_rfl
@[go_sem] theorem z6i (gl:Nat→Option (Ty × C)):ty (X0 gl).P 73=(.slice 112 Fy):=by
 show ty Tryz.prog 73=_
 kernel_rfl
@[go_sem] theorem z6j (gl:Nat→Option (Ty × C)):ty (X0 gl).P 81=(.slice 8 (.int .u64)):=by
 show ty Tryz.prog 81=_
 kernel_rfl
@[go_sem] theorem z6d (gl:Nat→Option (Ty × C)):ty (X0 gl).P 112=(.slice 32 (.arr 32 (.int .u8))):=by
 show ty Tryz.prog 112=_
 kernel_rfl
@[go_sem] theorem z6e (gl:Nat→Option (Ty × C)):ty (X0 gl).P 142=(.slice 24 Dq):=by
 show ty Tryz.prog 142=_
 kernel_rfl
@[go_sem] theorem z6f (gl:Nat→Option (Ty × C)):ty (X0 gl).P 166=(.slice 40 AU):=by
 show ty Tryz.prog 166=_
 kernel_rfl
@[go_sem] theorem eq2 (gl:Nat→Option (Ty × C)):Cq (X0 gl).P 2=true:=by
 show Cq Tryz.prog 2=_
 kernel_rfl
@[go_sem] theorem eq3 (gl:Nat→Option (Ty × C)):Cq (X0 gl).P 3=true:=by
 show Cq Tryz.prog 3=_
 kernel_rfl
@[go_sem] theorem eq4 (gl:Nat→Option (Ty × C)):Cq (X0 gl).P 4=true:=by
 show Cq Tryz.prog 4=_
 kernel_rfl
@[go_sem] theorem zb5 (gl:Nat→Option (Ty × C)):Cb (X0 gl).P 5=true:=by
 show Cb Tryz.prog 5=_
 kernel_rfl
@[go_sem] theorem eq5 (gl:Nat→Option (Ty × C)):Cq (X0 gl).P 5=true:=by
 show Cq Tryz.prog 5=_
 kernel_rfl
@[go_sem] theorem eq6 (gl:Nat→Option (Ty × C)):Cq (X0 gl).P 6=true:=by
 show Cq Tryz.prog 6=_
 kernel_rfl
@[go_sem] theorem eq7 (gl:Nat→Option (Ty × C)):Cq (X0 gl).P 7=true:=by
 show Cq Tryz.prog 7=_
 kernel_rfl
@[go_sem] theorem eq8 (gl:Nat→Option (Ty × C)):Cq (X0 gl).P 8=true:=by
 show Cq Tryz.prog 8=_
 kernel_rfl
@[go_sem] theorem eq9 (gl:Nat→Option (Ty × C)):Cq (X0 gl).P 9=true:=by
 show Cq Tryz.prog 9=_
 kernel_rfl
@[go_sem] theorem z6w (gl:Nat→Option (Ty × C)):Cb (X0 gl).P 22=true:=by
 show Cb Tryz.prog 22=_
 kernel_rfl
@[go_sem] theorem q9t (gl:Nat→Option (Ty × C)):Ai (X0 gl).P 28=5:=by
 show Ai Tryz.prog 28=_
 kernel_rfl
@[go_sem] theorem q9u (gl:Nat→Option (Ty × C)):Ai (X0 gl).P 44=52:=by
 show Ai Tryz.prog 44=_
 kernel_rfl
@[go_sem] theorem z6x (gl:Nat→Option (Ty × C)):Cb (X0 gl).P 52=true:=by
 show Cb Tryz.prog 52=_
 kernel_rfl
@[go_sem] theorem q9v (gl:Nat→Option (Ty × C)):Ai (X0 gl).P 73=144:=by
 show Ai Tryz.prog 73=_
 kernel_rfl
@[go_sem] theorem q9w (gl:Nat→Option (Ty × C)):Ai (X0 gl).P 81=22:=by
 show Ai Tryz.prog 81=_
 kernel_rfl
@[go_sem] theorem z6s (gl:Nat→Option (Ty × C)):Cb (X0 gl).P 103=true:=by
 show Cb Tryz.prog 103=_
 kernel_rfl
@[go_sem] theorem q9q (gl:Nat→Option (Ty × C)):Ai (X0 gl).P 112=103:=by
 show Ai Tryz.prog 112=_
 kernel_rfl
@[go_sem] theorem q9r (gl:Nat→Option (Ty × C)):Ai (X0 gl).P 142=195:=by
 show Ai Tryz.prog 142=_
 kernel_rfl
@[go_sem] theorem z6t (gl:Nat→Option (Ty × C)):Cb (X0 gl).P 144=true:=by
 show Cb Tryz.prog 144=_
 kernel_rfl
@[go_sem] theorem q9s (gl:Nat→Option (Ty × C)):Ai (X0 gl).P 166=212:=by
 show Ai Tryz.prog 166=_
 kernel_rfl
@[go_sem] theorem z6u (gl:Nat→Option (Ty × C)):Cb (X0 gl).P 195=true:=by
 show Cb Tryz.prog 195=_
 kernel_rfl
@[go_sem] theorem z6v (gl:Nat→Option (Ty × C)):Cb (X0 gl).P 212=true:=by
 show Cb Tryz.prog 212=_
 kernel_rfl
end Go.Proofs.YteealakhniofoaaGreatDoor
