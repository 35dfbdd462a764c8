/-
 What the last text leans on, part 1.
 Conditions: none.
-/
import Derived.Test.YtpemdagggddcfaaGreatDoorCards
import Derived.Test.YtpemdagggddcfaaGreatDoorTie
import Derived.Test.YtpemdagggddcfaaGreatDoorKg
set_option linter.all false
set_option maxRecDepth 100000
set_option maxHeartbeats 4000000
namespace Go.Proofs.YtpemdagggddcfaaGreatDoor.fnCourtPools
open Go Go.E Go.ChangeShapes Go.WideShapes Go.RowKit
variable {R:Type} (N:Nat)
theorem own:ownKnob Tryz.prog.godebug=none:=by kernel_rfl
theorem okP:BH Tryz.prog=true:=by kernel_rfl
theorem q1Z:laidOutB Tryz.prog=true:=by kernel_rfl
theorem q2R:mapsRowed Tryz.prog=true:=by kernel_rfl
theorem q5Y:cH Tryz.prog=true:=by kernel_rfl
theorem q4L:Tryz.f3.params.toList.all (fun t=>decide (t<Tryz.prog.types.size)&&(ty Tryz.prog t).dat)=true:=by kernel_rfl
theorem q10:UH Tryz.prog Rows.courtPoolsRow.laid=true:=by kernel_rfl
theorem q5l:Tryz.f3.resultTypes=#[4]:=by kernel_rfl
theorem av:Tryz.prog.underlying 4=some .bool:=by kernel_rfl
def LI:Array Value:=#[Value.slice none 0 0,.slice none 0 0]
def q7f (H:Type):List (DataW H):=[.nil,.nil]
theorem j5 (H:Type) (enc:TypeId × Value->H) (W:World) (base:Nat) (args:Array Value) (ds gs:List (DataW H)) (before:List MemPlace)
  (z3s:∀(j:Nat) t v,Tryz.f3.params[j]? =some t->args[j]? =some v->Value.okWide Tryz.prog W .any base t v)
  (hW:DataW.Whole enc Tryz.prog Tryz.f3.params.toList Rows.courtPoolsSpec.vars false W args.toList ds gs before)
  (hwt:(DataW.weightsEach Tryz.prog Tryz.f3.params.toList ds).all (·<=reachBytes)=true) (hL:laidMetH Tryz.prog Rows.courtPoolsRow.laid W):
  Calls Tryz.prog 3 args W fun e W'=>∃v,e= .returned v/\Rows.courtPoolsSpec.post enc Tryz.prog Tryz.f3 false true false false W args v W':=by
 have hg:gs=[]:=by obtain⟨p,q,_,hV,_⟩:=hW;exact(trodVars_none hV).1
 have hd:ds.length=2:=by obtain⟨p,q,hA,_⟩:=hW;exact(dJ hA).2.trans (by kernel_rfl)
 subst hg
 match ds,hd,hW,hwt with
 | [d0,d1],_,hW,hwt=>
  refine q2v (s:=Rows.courtPoolsSpec) okP q1Z q2R q5Y q4L q5l av rfl z3s hW hwt (q1e (q1d okP q10 (by kernel_rfl) hL) (q1c _ (show _=_ by kernel_rfl))) rfl rfl rfl ?_;rw[show Tryz.f3.params.toList.map (ty Tryz.prog)=[(.slice 2368 tTx),(.slice 8 (.int .i64))] by kernel_rfl];exact q5t (fun _=>none) (cOf d0) (cOf d1)
end Go.Proofs.YtpemdagggddcfaaGreatDoor.fnCourtPools
