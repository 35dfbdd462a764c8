/-
 What the last text leans on, part 3.
 Conditions: none.
-/
import Derived.Test.YteealakhniofoaaGreatDoorCards
import Derived.Test.YteealakhniofoaaGreatDoorTie
import Derived.Test.YteealakhniofoaaGreatDoorKy
set_option linter.all false
set_option maxRecDepth 100000
set_option maxHeartbeats 4000000
open Go.OpenSpec renaming ofChange->lz
namespace Go.Proofs.YteealakhniofoaaGreatDoor.fnClerkAllows
open Go Go.E Go.ChangeShapes Go.WideShapes Go.RowKit
variable {R:Type} (N:Nat)
theorem lifted (os:Os) (started:os.Started) (H:Type) (enc:TypeId × Value->H) (F:Stop.Interp):
  ReturnsInHanded {} Tryz.checked os 4 .any ((lz Rows.clerkAllowsSpec).preRow enc Tryz.prog Tryz.f4 Rows.clerkAllowsRow.domain false Rows.clerkAllowsRow.laid) (((lz Rows.clerkAllowsSpec).at F).post enc Tryz.prog Tryz.f4 false true false false):=by
 obtain⟨places,hx⟩:=reads os enc
 refine returnsInHanded_of_row (C:=Tryz.checked) (s:=lz Rows.clerkAllowsSpec) own started (by as_aux_lemma=>kernel_rfl) Tryz.func4
  (witness_row_at (enc:=enc) (C:=Tryz.checked) false (w0 os) MG rfl (q2C os) (q2B os) (q2A os)
   (OpenSpec.preRow_of_cond 12 hx (by as_aux_lemma=>kernel_rfl) (fun k hk=>by cases hk) (by as_aux_lemma=>kernel_rfl) (met os))) ?_
 intro W base args ds gs before z8M hW _ _ hwt hL _ _;have hg:gs=[]:=by obtain⟨p,q,_,hV,_⟩:=hW;exact(trodVars_none hV).1
 subst hg;refine F4 H enc W base args ds [] before z8M hW ?_ hL;have e:Tryz.f4.params.toList++(lz Rows.clerkAllowsSpec).bare.plain.varTypes Tryz.checked.prog=Tryz.f4.params.toList:=by as_aux_lemma=>kernel_rfl
 rw[e,List.append_nil]at hwt;exact hwt
end Go.Proofs.YteealakhniofoaaGreatDoor.fnClerkAllows
