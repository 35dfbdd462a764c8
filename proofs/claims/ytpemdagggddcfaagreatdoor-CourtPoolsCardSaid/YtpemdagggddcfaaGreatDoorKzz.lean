/-
 What the last text leans on.
 Conditions: none.
-/
import Derived.Test.YtpemdagggddcfaaGreatDoorCards
import Derived.Test.YtpemdagggddcfaaGreatDoorTie
import Derived.Test.YtpemdagggddcfaaGreatDoorKz
set_option linter.all false
namespace Go.Proofs.YtpemdagggddcfaaGreatDoor.fnCourtPools
open Go Go.E Go.ChangeShapes Go.WideShapes Go.RowKit
set_option maxRecDepth 100000
set_option maxHeartbeats 2000000
theorem lifted (os:Os) (started:os.Started) (H:Type) (enc:TypeId × Value→H) (F:Stop.Interp):
  ReturnsInHanded {} Tryz.checked os 3 .any ((OpenSpec.ofChange Rows.courtPoolsSpec).preRow enc Tryz.prog Tryz.f3 Rows.courtPoolsRow.domain false Rows.courtPoolsRow.laid) (((OpenSpec.ofChange Rows.courtPoolsSpec).at F).post enc Tryz.prog Tryz.f3 false true false false):=by
 obtain⟨places,hx⟩:=reads os enc
 refine returnsInHanded_of_row (C:=Tryz.checked) (s:=OpenSpec.ofChange Rows.courtPoolsSpec) own started (by as_aux_lemma=>kernel_rfl) Tryz.func3
  (witness_row_at (enc:=enc) (C:=Tryz.checked) false (w0 os) LI rfl (q1m os) (q1l os) (q1k os)
   (OpenSpec.preRow_of_cond 12 hx (by as_aux_lemma=>kernel_rfl) (fun k hk=>by cases hk) (by as_aux_lemma=>kernel_rfl) (met os))) ?_
 intro W base args ds gs before z3s hW _ _ hwt hL _ _
 have hg:gs=[]:=by
  obtain⟨p,q,_,hV,_⟩:=hW
  exact(trodVars_none hV).1
 subst hg
 refine j5 H enc W base args ds [] before z3s hW ?_ hL
 have e:Tryz.f3.params.toList++(OpenSpec.ofChange Rows.courtPoolsSpec).bare.plain.varTypes Tryz.checked.prog=Tryz.f3.params.toList:=by as_aux_lemma=>kernel_rfl
 rw[e,List.append_nil]at hwt
 exact hwt
end Go.Proofs.YtpemdagggddcfaaGreatDoor.fnCourtPools
