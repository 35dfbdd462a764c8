/-
 What the last text leans on.
 Conditions: none.
-/
import Derived.Test.YteealakhniofoaaGreatDoorCards
import Derived.Test.YteealakhniofoaaGreatDoorTie
import Derived.Test.YteealakhniofoaaGreatDoorKz
set_option linter.all false
namespace Go.Proofs.YteealakhniofoaaGreatDoor.fnClerkAllows
open Go Go.E Go.ChangeShapes Go.WideShapes Go.RowKit
set_option maxRecDepth 100000
set_option maxHeartbeats 2000000
theorem said:Rows.ClerkAllowsSaid:=
 OpenClaim.holds_of_cond 4 Tryz.f4 rfl rfl rfl rfl rfl rfl rfl ⟨rfl,rfl,rfl,rfl,rfl⟩ rfl rfl rfl rfl rfl (by kernel_rfl) Tryz.func4 (by kernel_rfl)
  (of_decide_eq_true (by kernel_rfl)) (by unfold Func.isWrapper;first|(rw[if_pos (by decide+kernel)];kernel_rfl)|(rw[if_neg (by decide+kernel)];exact⟨rfl,rfl⟩))
  (fun os started H enc _ F=>by rw[OpenClaim.pre_eq_preRow];exact lifted os started H enc F)
end Go.Proofs.YteealakhniofoaaGreatDoor.fnClerkAllows
