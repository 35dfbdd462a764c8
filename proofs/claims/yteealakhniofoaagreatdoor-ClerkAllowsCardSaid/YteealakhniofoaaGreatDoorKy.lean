/-
 What the last text leans on, part 2.
 Conditions: none.
-/
import Derived.Test.YteealakhniofoaaGreatDoorCards
import Derived.Test.YteealakhniofoaaGreatDoorTie
import Derived.Test.YteealakhniofoaaGreatDoorKx
set_option linter.all false
noncomputable section
set_option maxRecDepth 100000
set_option maxHeartbeats 4000000
open Bool renaming and_eq_true->bg
open Go.Cell renaming okWideB->xp,okWideRowB->wh
open Go.Input renaming okWideB->tf
open Go.Value renaming okWideB->tp
open List renaming all_eq_true->dv
namespace Go.Proofs.YteealakhniofoaaGreatDoor.fnClerkAllows
open Go Go.E Go.ChangeShapes Go.WideShapes Go.RowKit
variable {R:Type} (N:Nat)
def w0 (os:Os):World:=World.doorLaid Tryz.prog 400 os
theorem reads (os:Os) {H:Type} (enc:TypeId × Value->H):∃places,DataW.whole enc Tryz.prog ((w0 os).forCall (fun _ _=>0) ⟨#[],MG,[]⟩).memory Tryz.f4.params.toList Rows.clerkAllowsSpec.vars false (MG:Array Value).toList 12=some (z0n H,[],places):=
 ⟨[],by kernel_rfl⟩
theorem met (os:Os):laidMetH Tryz.prog Rows.clerkAllowsRow.laid ((w0 os).forCall (fun _ _=>0) ⟨#[],MG,[]⟩).memory:=
 laidMetH_of_parts3 (fuel:=8) (laidMet_of_run' 8 (by kernel_rfl) (by kernel_rfl)) (by kernel_rfl) (by kernel_rfl)
def eE (P:Program) (w:World) (t:TypeId) (cs:Array Value):Bool:=
 match P.cellTypes P.depth t with
 |some ts=>ts.length==cs.toList.length&&(ts.zip cs.toList).all fun p=>xp P w p.1 p.2|none=>false
theorem xL {P:Program} {w:World} {t:TypeId} {cs:Array Value} (h:eE P w t cs=true):wh P w t cs=true:=by
 unfold eE at h;unfold wh;split at h
 ·rename_i ts hts;simp only[bg,beq_iff_eq,dv]at h;obtain⟨hl,hz⟩:=h;have hl':ts.length=cs.size:=by simpa using hl
  simp only[hts,bg,beq_iff_eq,dv,List.mem_range];refine⟨by rw[hl'];exact Nat.mod_self _,fun i hi=>?_⟩;have hi2:i<ts.length:=by omega
  rw[Nat.mod_eq_of_lt hi2,Array.getElem?_eq_getElem hi,List.getElem?_eq_getElem hi2];refine hz (ts[i],cs[i]) ?_;rw[List.mem_iff_getElem];refine⟨i,by simp;omega,?_⟩;simp
 ·cases h
def Xm (P:Program) (w:World) (t:TypeId) (v:Value):Bool:=
 match P.underlying t with
 |some (.struct _)|some (.array _ _)=>
  match v with
  | .agg cs=>cs.size==P.cellsOf t&&eE P w t cs|_=>false
 |_=>xp P w t v
theorem Q1 {P:Program} {w:World} {t:TypeId} {v:Value} (h:Xm P w t v=true):tp P w t v=true:=by unfold Xm at h;unfold tp;split at h;{rename_i fs hu;simp only[hu];cases v <;> simp at h;simp only[bg,beq_iff_eq];exact⟨h.1,xL h.2⟩};{rename_i n e hu;simp only[hu];cases v <;> simp at h;simp only[bg,beq_iff_eq];exact⟨h.1,xL h.2⟩};{rename_i h1 h2;split;{rename_i fs hu;exact absurd hu (h1 fs)};{rename_i n e hu;exact absurd hu (h2 n e)};{exact h}}
def MQ (P:Program) (w:World):List TypeId->List Value->Bool
 | [],[]=>true|t::ts,v::vs=>Xm P w t v&&MQ P w ts vs|_,_=>false
theorem iP {P:Program} {w:World}:∀{ts:List TypeId} {vs:List Value},MQ P w ts vs=true->∀{j:Nat},j<ts.length->∃t v,ts[j]? =some t/\vs[j]? =some v/\tp P w t v=true
 | [],[],_,_,hj=>by simp at hj
 | [],_::_,h,_,_=>by simp[MQ]at h
 |_::_,[],h,_,_=>by simp[MQ]at h
 |t::ts,v::vs,h,0,_=>by simp only[MQ,bg]at h;exact⟨t,v,rfl,rfl,Q1 h.1⟩
 |t::ts,v::vs,h,j+1,hj=>by simp only[MQ,bg]at h;have:=iP h.2 (j:=j) (by simpa using hj);simpa using this
theorem q5L {P:Program} {w:World} {f:FuncId} {fn:Func} {args:Array Value} (hfn:P.funcs[f]? =some fn) (hi:(P.inits.idxOf? f).isNone=true)
  (h1:(fn.body.isSome&& !fn.ours&&fn.nfree==0&&args.size==fn.params.size)=true) (h:MQ P w fn.params.toList args.toList=true):tf P w f ⟨#[],args,[]⟩=true:=by
 unfold tf;simp only[hfn,hi,bg]at h1 ⊢;refine⟨⟨⟨by simp,by simp⟩,trivial⟩,h1,?_⟩;rw[dv];intro j hj;obtain⟨t,v,ht,hv,hk⟩:=iP h (j:=j) (by simpa using hj);rw[Array.getElem?_toList]at ht hv;rw[ht,hv];exact hk
theorem q2C (os:Os):((w0 os).forCall (fun _ _=>0) ⟨#[],MG,[]⟩).variablesB Tryz.checked.prog=true:=by kernel_rfl
theorem q2B (os:Os):((((w0 os).forCall (fun _ _=>0) ⟨#[],MG,[]⟩).heap.toList.drop Tryz.checked.prog.globals.size).take ((begin Tryz.checked.prog (fun _ _=>0) default).world.heap.size-Tryz.checked.prog.globals.size))=
   (begin Tryz.checked.prog (fun _ _=>0) default).world.heap.toList.drop Tryz.checked.prog.globals.size:=by kernel_rfl
theorem q2A (os:Os):tf Tryz.checked.prog ((w0 os).forCall (fun _ _=>0) ⟨#[],MG,[]⟩) 4 ⟨#[],MG,[]⟩=true:=
 q5L Tryz.func4 (by kernel_rfl) (by kernel_rfl) (by kernel_rfl)
end Go.Proofs.YteealakhniofoaaGreatDoor.fnClerkAllows
