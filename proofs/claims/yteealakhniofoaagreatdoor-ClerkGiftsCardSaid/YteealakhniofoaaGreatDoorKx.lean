/-
 What the last text leans on, part 1.
 Conditions: none.
-/
import Derived.Test.YteealakhniofoaaGreatDoorCards
import Derived.Test.YteealakhniofoaaGreatDoorTie
import Derived.Test.YteealakhniofoaaGreatDoorKh
set_option linter.all false
set_option maxRecDepth 100000
set_option maxHeartbeats 4000000
namespace Go.Proofs.YteealakhniofoaaGreatDoor.fnClerkGifts
open Go Go.E Go.ChangeShapes Go.WideShapes Go.RowKit
variable {R:Type} (N:Nat)
theorem own:ownKnob Tryz.prog.godebug=none:=by kernel_rfl
theorem okP:BN Tryz.prog=true:=by kernel_rfl
theorem q2v:laidOutB Tryz.prog=true:=by kernel_rfl
theorem q3d:mapsRowed Tryz.prog=true:=by kernel_rfl
theorem q7F:dN Tryz.prog=true:=by kernel_rfl
theorem q4Z:Tryz.f3.params.toList.all (fun t=>decide (t<Tryz.prog.types.size)&&(ty Tryz.prog t).dat)=true:=by kernel_rfl
theorem q2w:Ur Tryz.prog Rows.clerkGiftsRow.laid=true:=by kernel_rfl
theorem q6N:Tryz.f3.resultTypes=#[4]:=by kernel_rfl
theorem p9:Tryz.prog.underlying 4=some .bool:=by kernel_rfl
def MF:Array Value:=#[Value.agg #[.int .u64 0,.int .u64 0,.int .u64 0,.int .u64 0,.int .u64 0],.agg #[.int .u8 0,.slice none 0 0,.slice none 0 0,.slice none 0 0],.agg #[.int .u32 0,.int .u64 0,.int .u64 0,.int .u64 0,.int .u64 0,.int .u64 0,.slice none 0 0],.int .u8 0]
def q9a (H:Type):List (DataW H):=[.agg [.agg [.lit (.int .u64 0),.lit (.int .u64 0)],.lit (.int .u64 0),.lit (.int .u64 0),.lit (.int .u64 0)],.agg [.lit (.int .u8 0),.nil,.nil,.nil],.agg [.lit (.int .u32 0),.lit (.int .u64 0),.agg [.lit (.int .u64 0),.lit (.int .u64 0)],.agg [.lit (.int .u64 0),.lit (.int .u64 0)],.nil],.lit (.int .u8 0)]
theorem Y6 (H:Type) (enc:TypeId × Value->H) (W:World) (base:Nat) (args:Array Value) (ds gs:List (DataW H)) (before:List MemPlace)
  (z7f:∀(j:Nat) t v,Tryz.f3.params[j]? =some t->args[j]? =some v->Value.okWide Tryz.prog W .any base t v)
  (hW:DataW.Whole enc Tryz.prog Tryz.f3.params.toList Rows.clerkGiftsSpec.vars false W args.toList ds gs before)
  (hwt:(DataW.weightsEach Tryz.prog Tryz.f3.params.toList ds).all (·<=reachBytes)=true) (hL:laidMetH Tryz.prog Rows.clerkGiftsRow.laid W):
  Calls Tryz.prog 3 args W fun e W'=>∃v,e= .returned v/\Rows.clerkGiftsSpec.post enc Tryz.prog Tryz.f3 false true false false W args v W':=by
 have hg:gs=[]:=by obtain⟨p,q,_,hV,_⟩:=hW;exact(trodVars_none hV).1
 have hd:ds.length=4:=by obtain⟨p,q,hA,_⟩:=hW;exact(eK hA).2.trans (by kernel_rfl)
 subst hg
 match ds,hd,hW,hwt with
 | [d0,d1,d2,d3],_,hW,hwt=>
  refine q2P (s:=Rows.clerkGiftsSpec) okP q2v q3d q7F q4Z q6N p9 rfl z7f hW hwt (q1B (q1A okP q2w (by kernel_rfl) hL) (q1z _ (show _=_ by kernel_rfl))) rfl rfl rfl ?_;rw[show Tryz.f3.params.toList.map (ty Tryz.prog)=[De,Dr,Bp,(.int .u8)] by kernel_rfl];exact q7b (fun _=>none) (cOf d0) (cOf d1) (cOf d2) (cOf d3)
end Go.Proofs.YteealakhniofoaaGreatDoor.fnClerkGifts
