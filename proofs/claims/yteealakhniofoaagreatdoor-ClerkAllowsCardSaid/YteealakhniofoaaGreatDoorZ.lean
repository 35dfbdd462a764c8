/-
 ClerkAllows: for every input that the law's row speaks of, the call returns true and the arguments stay as they were.
 Conditions: none beside those that the given statement itself says.
-/
import Derived.Test.YteealakhniofoaaGreatDoorCards
import Derived.Test.YteealakhniofoaaGreatDoorTie
import Derived.Test.YteealakhniofoaaGreatDoorKzz
set_option linter.all false
namespace Go.Proofs.YteealakhniofoaaGreatDoor.fnClerkAllows
open Go Go.E Go.ChangeShapes Go.WideShapes Go.RowKit
set_option maxRecDepth 100000
set_option maxHeartbeats 2000000
theorem plain (f:FuncId) (fn:Func) (hf:Tryz.pinned.checked.prog.funcNamed Rows.clerkAllowsRow.func=some f) (hfn:Tryz.pinned.checked.prog.funcs[f]? =some fn):
  false=Tryz.pinned.checked.prog.looks []∧∀(j:Nat) t,fn.params[j]? =some t→Tryz.pinned.checked.prog.wantsStandIn t=false:=by
 obtain rfl:f=4:=Option.some.inj ((show Tryz.prog.funcNamed Rows.clerkAllowsRow.func=some 4 by kernel_rfl).symm.trans hf) |>.symm
 obtain rfl:fn=Tryz.f4:=(Option.some.inj (Tryz.func4.symm.trans hfn)).symm
 refine⟨by kernel_rfl,fun j t ht=>?_⟩
 have hm:t∈Tryz.f4.params.toList:=by simpa using Array.mem_of_getElem? ht
 have yq:(Tryz.f4.params.toList.all fun u=> !Tryz.prog.wantsStandIn u)=true:=by kernel_rfl
 exact(show Tryz.prog.wantsStandIn t=false by simpa using List.all_eq_true.1 yq t hm)
theorem card:Rows.ClerkAllowsCardSaid:=
 Claim7.holds_tied_plain_at .later [] _ _ _ _ said (fun _ h=>by cases h) (by kernel_rfl) (fun _ h=>by cases h) clerkAllows_row_tie rfl ⟨rfl,rfl⟩ (by kernel_rfl) rfl plain (by kernel_rfl)
end Go.Proofs.YteealakhniofoaaGreatDoor.fnClerkAllows
