/-
 What the last text leans on, part 3.
 Conditions: none.
-/
import Derived.Test.YtpemdagggddcfaaGreatDoorCards
import Derived.Test.YtpemdagggddcfaaGreatDoorTie
import Derived.Test.YtpemdagggddcfaaGreatDoorKy
set_option linter.all false
set_option maxRecDepth 100000
set_option maxHeartbeats 4000000
open Go.OpenSpec renaming ofChange->kx
namespace Go.Proofs.YtpemdagggddcfaaGreatDoor.fnCourtFails
open Go Go.E Go.ChangeShapes Go.WideShapes Go.RowKit
variable {R:Type} (N:Nat)
theorem lifted (os:Os) (started:os.Started) (H:Type) (enc:TypeId × Value->H) (F:Stop.Interp):
  ReturnsInHanded {} Tryz.checked os 5 .any ((kx Rows.courtFailsSpec).preRow enc Tryz.prog Tryz.f5 Rows.courtFailsRow.domain false Rows.courtFailsRow.laid) (((kx Rows.courtFailsSpec).at F).post enc Tryz.prog Tryz.f5 false true false false):=by
 obtain⟨places,hx⟩:=reads os enc
 refine returnsInHanded_of_row (C:=Tryz.checked) (s:=kx Rows.courtFailsSpec) own started (by as_aux_lemma=>kernel_rfl) Tryz.func5
  (witness_row_at (enc:=enc) (C:=Tryz.checked) false (w0 os) LL rfl (q2d os) (q2c os) (q2b os)
   (OpenSpec.preRow_of_cond 12 hx (by as_aux_lemma=>kernel_rfl) (fun k hk=>by cases hk) (by as_aux_lemma=>kernel_rfl) (met os))) ?_
 intro W base args ds gs before zt hW _ _ hwt hL _ _;have hg:gs=[]:=by obtain⟨p,q,_,hV,_⟩:=hW;exact(trodVars_none hV).1
 subst hg;refine X7 H enc W base args ds [] before zt hW ?_ hL;have e:Tryz.f5.params.toList++(kx Rows.courtFailsSpec).bare.plain.varTypes Tryz.checked.prog=Tryz.f5.params.toList:=by as_aux_lemma=>kernel_rfl
 rw[e,List.append_nil]at hwt;exact hwt
end Go.Proofs.YtpemdagggddcfaaGreatDoor.fnCourtFails
