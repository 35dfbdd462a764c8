/-
 What the last text leans on, part 1.
 Conditions: none.
-/
import Derived.Test.YteealakhniofoaaGreatDoorCards
import Derived.Test.YteealakhniofoaaGreatDoorTie
import Derived.Test.YteealakhniofoaaGreatDoorKh
set_option linter.all false
set_option maxRecDepth 100000
set_option maxHeartbeats 4000000
namespace Go.Proofs.YteealakhniofoaaGreatDoor.fnClerkAllows
open Go Go.E Go.ChangeShapes Go.WideShapes Go.RowKit
variable {R:Type} (N:Nat)
theorem own:ownKnob Tryz.prog.godebug=none:=by kernel_rfl
theorem okP:BS Tryz.prog=true:=by kernel_rfl
theorem q3k:laidOutB Tryz.prog=true:=by kernel_rfl
theorem q4h:mapsRowed Tryz.prog=true:=by kernel_rfl
theorem q80:eY Tryz.prog=true:=by kernel_rfl
theorem q53:Tryz.f4.params.toList.all (fun t=>decide (t<Tryz.prog.types.size)&&(ty Tryz.prog t).dat)=true:=by kernel_rfl
theorem q3l:VL Tryz.prog Rows.clerkAllowsRow.laid=true:=by kernel_rfl
theorem q8b:Tryz.f4.resultTypes=#[4]:=by kernel_rfl
theorem Y5:Tryz.prog.underlying 4=some .bool:=by kernel_rfl
def MG:Array Value:=#[Value.agg #[.int .u64 0,.int .u64 0,.int .u64 0,.int .u64 0,.int .u64 0],.agg #[.int .u8 0,.slice none 0 0,.slice none 0 0,.slice none 0 0],.agg #[.int .u32 0,.int .u64 0,.int .u64 0,.int .u64 0,.int .u64 0,.int .u64 0,.slice none 0 0],.int .i64 0,.agg #[.int .i64 0,.int .u64 0,.int .u64 0,.int .i64 0,.int .u64 0,.int .u8 0,.int .u8 0,.int .u8 0,.int .u8 0,.int .u8 0,.int .u8 0,.int .u8 0,.int .u8 0,.int .u8 0,.int .u8 0,.int .u8 0,.int .u8 0,.int .u8 0,.int .u8 0,.int .u8 0,.int .u8 0,.int .u8 0,.int .u8 0,.int .u8 0,.int .u8 0,.int .u8 0,.int .u8 0,.int .u8 0,.int .u8 0,.int .u8 0,.int .u8 0,.int .u8 0,.int .u8 0,.int .u8 0,.int .u8 0,.int .u8 0,.int .u8 0,.int .u64 0,.int .u64 0]]
def z0n (H:Type):List (DataW H):=[.agg [.agg [.lit (.int .u64 0),.lit (.int .u64 0)],.lit (.int .u64 0),.lit (.int .u64 0),.lit (.int .u64 0)],.agg [.lit (.int .u8 0),.nil,.nil,.nil],.agg [.lit (.int .u32 0),.lit (.int .u64 0),.agg [.lit (.int .u64 0),.lit (.int .u64 0)],.agg [.lit (.int .u64 0),.lit (.int .u64 0)],.nil],.lit (.int .i64 0),.agg [.lit (.int .i64 0),.lit (.int .u64 0),.agg [.lit (.int .u64 0),.lit (.int .i64 0),.lit (.int .u64 0),.agg [.lit (.int .u8 0),.lit (.int .u8 0),.lit (.int .u8 0),.lit (.int .u8 0),.lit (.int .u8 0),.lit (.int .u8 0),.lit (.int .u8 0),.lit (.int .u8 0),.lit (.int .u8 0),.lit (.int .u8 0),.lit (.int .u8 0),.lit (.int .u8 0),.lit (.int .u8 0),.lit (.int .u8 0),.lit (.int .u8 0),.lit (.int .u8 0),.lit (.int .u8 0),.lit (.int .u8 0),.lit (.int .u8 0),.lit (.int .u8 0),.lit (.int .u8 0),.lit (.int .u8 0),.lit (.int .u8 0),.lit (.int .u8 0),.lit (.int .u8 0),.lit (.int .u8 0),.lit (.int .u8 0),.lit (.int .u8 0),.lit (.int .u8 0),.lit (.int .u8 0),.lit (.int .u8 0),.lit (.int .u8 0)],.lit (.int .u64 0)],.lit (.int .u64 0)]]
theorem F4 (H:Type) (enc:TypeId × Value->H) (W:World) (base:Nat) (args:Array Value) (ds gs:List (DataW H)) (before:List MemPlace)
  (z8M:∀(j:Nat) t v,Tryz.f4.params[j]? =some t->args[j]? =some v->Value.okWide Tryz.prog W .any base t v)
  (hW:DataW.Whole enc Tryz.prog Tryz.f4.params.toList Rows.clerkAllowsSpec.vars false W args.toList ds gs before)
  (hwt:(DataW.weightsEach Tryz.prog Tryz.f4.params.toList ds).all (·<=reachBytes)=true) (hL:laidMetH Tryz.prog Rows.clerkAllowsRow.laid W):
  Calls Tryz.prog 4 args W fun e W'=>∃v,e= .returned v/\Rows.clerkAllowsSpec.post enc Tryz.prog Tryz.f4 false true false false W args v W':=by
 have hg:gs=[]:=by obtain⟨p,q,_,hV,_⟩:=hW;exact(trodVars_none hV).1
 have hd:ds.length=5:=by obtain⟨p,q,hA,_⟩:=hW;exact(fW hA).2.trans (by kernel_rfl)
 subst hg
 match ds,hd,hW,hwt with
 | [d0,J,I,d3,d4],_,hW,hwt=>
  refine q3S (s:=Rows.clerkAllowsSpec) okP q3k q4h q80 q53 q8b Y5 rfl z8M hW hwt (q2r (q2q okP q3l (by kernel_rfl) hL) (q2p _ (show _=_ by kernel_rfl))) rfl rfl rfl ?_;rw[show Tryz.f4.params.toList.map (ty Tryz.prog)=[DT,Dv,Bo,(.int .i64),tOp] by kernel_rfl];exact q8s (fun _=>none) (cOf d0) (cOf J) (cOf I) (cOf d3) (cOf d4)
end Go.Proofs.YteealakhniofoaaGreatDoor.fnClerkAllows
