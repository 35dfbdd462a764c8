/-
 The facts of this program: its types, by their numbers.
 Conditions: none.
-/
import Derived.Test.YteealakhniofoaaGreatDoorEh
import Derived.Test.YteealakhniofoaaGreatDoorRows
set_option linter.all false
namespace Go.Proofs.YteealakhniofoaaGreatDoor
open Go Go.E
set_option maxRecDepth 100000
noncomputable def X0 (gl:Nat→Option (Ty × C)):Cx:=⟨Tryz.prog,gl⟩
@[go_sem] theorem z0C (gl:Nat→Option (Ty × C)):(X0 gl).gl=gl:=rfl
theorem ok0 (gl:Nat→Option (Ty × C)):BS (X0 gl).P=true:=by
 show BS Tryz.prog=true
 kernel_rfl
theorem mo (gl:Nat→Option (Ty × C)):(X0 gl).P.follows .mixedOrders=true:=by
 show Tryz.prog.follows .mixedOrders=true
 kernel_rfl
@[go_sem] theorem z7N (gl:Nat→Option (Ty × C)):ty (X0 gl).P 28=(.slice 1 (.int .u8)):=by
 show ty Tryz.prog 28=_
 kernel_rfl
@[go_sem] theorem z7O (gl:Nat→Option (Ty × C)):ty (X0 gl).P 44=(.slice 64 CR):=by
 show ty Tryz.prog 44=_
 kernel_rfl
@[go_sem] theorem z7P (gl:Nat→Option (Ty × C)):ty (X0 gl).P 73=(.slice 112 Cy):=by
 show ty Tryz.prog 73=_
 kernel_rfl
@[go_sem] theorem z7Q (gl:Nat→Option (Ty × C)):ty (X0 gl).P 81=(.slice 8 (.int .u64)):=by
 show ty Tryz.prog 81=_
 kernel_rfl
@[go_sem] theorem z7K (gl:Nat→Option (Ty × C)):ty (X0 gl).P 112=(.slice 32 (.arr 32 (.int .u8))):=by
 show ty Tryz.prog 112=_
 kernel_rfl
@[go_sem] theorem z7L (gl:Nat→Option (Ty × C)):ty (X0 gl).P 142=(.slice 24 DJ):=by
 show ty Tryz.prog 142=_
 kernel_rfl
@[go_sem] theorem z7M (gl:Nat→Option (Ty × C)):ty (X0 gl).P 166=(.slice 40 AW):=by
 show ty Tryz.prog 166=_
 kernel_rfl
@[go_sem] theorem eq2 (gl:Nat→Option (Ty × C)):Cr (X0 gl).P 2=true:=by
 show Cr Tryz.prog 2=_
 kernel_rfl
@[go_sem] theorem eq3 (gl:Nat→Option (Ty × C)):Cr (X0 gl).P 3=true:=by
 show Cr Tryz.prog 3=_
 kernel_rfl
@[go_sem] theorem eq4 (gl:Nat→Option (Ty × C)):Cr (X0 gl).P 4=true:=by
 show Cr Tryz.prog 4=_
 kernel_rfl
@[go_sem] theorem zb5 (gl:Nat→Option (Ty × C)):Cb (X0 gl).P 5=true:=by
 show Cb Tryz.prog 5=_
 kernel_rfl
@[go_sem] theorem eq5 (gl:Nat→Option (Ty × C)):Cr (X0 gl).P 5=true:=by
 show Cr Tryz.prog 5=_
 kernel_rfl
@[go_sem] theorem eq6 (gl:Nat→Option (Ty × C)):Cr (X0 gl).P 6=true:=by
 show Cr Tryz.prog 6=_
 kernel_rfl
@[go_sem] theorem eq7 (gl:Nat→Option (Ty × C)):Cr (X0 gl).P 7=true:=by
 show Cr Tryz.prog 7=_
 kernel_rfl
@[go_sem] theorem eq8 (gl:Nat→Option (Ty × C)):Cr (X0 gl).P 8=true:=by
 show Cr Tryz.prog 8=_
 kernel_rfl
@[go_sem] theorem eq9 (gl:Nat→Option (Ty × C)):Cr (X0 gl).P 9=true:=by
 show Cr Tryz.prog 9=_
 kernel_rfl
@[go_sem] theorem z73 (gl:Nat→Option (Ty × C)):Cb (X0 gl).P 22=true:=by
 show Cb Tryz.prog 22=_
 kernel_rfl
@[go_sem] theorem z0H (gl:Nat→Option (Ty × C)):BK (X0 gl).P 28=5:=by
 show BK Tryz.prog 28=_
 kernel_rfl
@[go_sem] theorem z0I (gl:Nat→Option (Ty × C)):BK (X0 gl).P 44=52:=by
 show BK Tryz.prog 44=_
 kernel_rfl
@[go_sem] theorem z74 (gl:Nat→Option (Ty × C)):Cb (X0 gl).P 52=true:=by
 show Cb Tryz.prog 52=_
 kernel_rfl
@[go_sem] theorem z0J (gl:Nat→Option (Ty × C)):BK (X0 gl).P 73=144:=by
 show BK Tryz.prog 73=_
 kernel_rfl
@[go_sem] theorem z0K (gl:Nat→Option (Ty × C)):BK (X0 gl).P 81=22:=by
 show BK Tryz.prog 81=_
 kernel_rfl
@[go_sem] theorem z7Z (gl:Nat→Option (Ty × C)):Cb (X0 gl).P 103=true:=by
 show Cb Tryz.prog 103=_
 kernel_rfl
@[go_sem] theorem z0E (gl:Nat→Option (Ty × C)):BK (X0 gl).P 112=103:=by
 show BK Tryz.prog 112=_
 kernel_rfl
@[go_sem] theorem z0F (gl:Nat→Option (Ty × C)):BK (X0 gl).P 142=195:=by
 show BK Tryz.prog 142=_
 kernel_rfl
@[go_sem] theorem z70 (gl:Nat→Option (Ty × C)):Cb (X0 gl).P 144=true:=by
 show Cb Tryz.prog 144=_
 kernel_rfl
@[go_sem] theorem z0G (gl:Nat→Option (Ty × C)):BK (X0 gl).P 166=212:=by
 show BK Tryz.prog 166=_
 kernel_rfl
@[go_sem] theorem z71 (gl:Nat→Option (Ty × C)):Cb (X0 gl).P 195=true:=by
 show Cb Tryz.prog 195=_
 kernel_rfl
@[go_sem] theorem z72 (gl:Nat→Option (Ty × C)):Cb (X0 gl).P 212=true:=by
 show Cb Tryz.prog 212=_
 kernel_rfl
end Go.Proofs.YteealakhniofoaaGreatDoor
