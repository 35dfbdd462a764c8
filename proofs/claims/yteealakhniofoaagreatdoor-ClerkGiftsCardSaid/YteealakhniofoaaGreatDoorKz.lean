/-
 What the last text leans on, part 3.
 Conditions: none.
-/
import Derived.Test.YteealakhniofoaaGreatDoorCards
import Derived.Test.YteealakhniofoaaGreatDoorTie
import Derived.Test.YteealakhniofoaaGreatDoorKy
set_option linter.all false
set_option maxRecDepth 100000
set_option maxHeartbeats 4000000
open Go.OpenSpec renaming ofChange->mg
namespace Go.Proofs.YteealakhniofoaaGreatDoor.fnClerkGifts
open Go Go.E Go.ChangeShapes Go.WideShapes Go.RowKit
variable {R:Type} (N:Nat)
theorem lifted (os:Os) (started:os.Started) (H:Type) (enc:TypeId × Value->H) (F:Stop.Interp):
  ReturnsInHanded {} Tryz.checked os 3 .any ((mg Rows.clerkGiftsSpec).preRow enc Tryz.prog Tryz.f3 Rows.clerkGiftsRow.domain false Rows.clerkGiftsRow.laid) (((mg Rows.clerkGiftsSpec).at F).post enc Tryz.prog Tryz.f3 false true false false):=by
 obtain⟨places,hx⟩:=reads os enc
 refine returnsInHanded_of_row (C:=Tryz.checked) (s:=mg Rows.clerkGiftsSpec) own started (by as_aux_lemma=>kernel_rfl) Tryz.func3
  (witness_row_at (enc:=enc) (C:=Tryz.checked) false (w0 os) MF rfl (q1M os) (q1L os) (q1K os)
   (OpenSpec.preRow_of_cond 12 hx (by as_aux_lemma=>kernel_rfl) (fun k hk=>by cases hk) (by as_aux_lemma=>kernel_rfl) (met os))) ?_
 intro W base args ds gs before z7f hW _ _ hwt hL _ _;have hg:gs=[]:=by obtain⟨p,q,_,hV,_⟩:=hW;exact(trodVars_none hV).1
 subst hg;refine Y6 H enc W base args ds [] before z7f hW ?_ hL;have e:Tryz.f3.params.toList++(mg Rows.clerkGiftsSpec).bare.plain.varTypes Tryz.checked.prog=Tryz.f3.params.toList:=by as_aux_lemma=>kernel_rfl
 rw[e,List.append_nil]at hwt;exact hwt
end Go.Proofs.YteealakhniofoaaGreatDoor.fnClerkGifts
