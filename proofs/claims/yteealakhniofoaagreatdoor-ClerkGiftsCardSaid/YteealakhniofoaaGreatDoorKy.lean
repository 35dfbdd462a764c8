/-
 What the last text leans on, part 2.
 Conditions: none.
-/
import Derived.Test.YteealakhniofoaaGreatDoorCards
import Derived.Test.YteealakhniofoaaGreatDoorTie
import Derived.Test.YteealakhniofoaaGreatDoorKx
set_option linter.all false
noncomputable section
set_option maxRecDepth 100000
set_option maxHeartbeats 4000000
open Bool renaming and_eq_true->bg
open Go.Cell renaming okWideB->xq,okWideRowB->wi
open Go.Input renaming okWideB->sy
open Go.Value renaming okWideB->tg
open List renaming all_eq_true->dw
namespace Go.Proofs.YteealakhniofoaaGreatDoor.fnClerkGifts
open Go Go.E Go.ChangeShapes Go.WideShapes Go.RowKit
variable {R:Type} (N:Nat)
def w0 (os:Os):World:=World.doorLaid Tryz.prog 400 os
theorem reads (os:Os) {H:Type} (enc:TypeId × Value->H):∃places,DataW.whole enc Tryz.prog ((w0 os).forCall (fun _ _=>0) ⟨#[],MF,[]⟩).memory Tryz.f3.params.toList Rows.clerkGiftsSpec.vars false (MF:Array Value).toList 12=some (q9a H,[],places):=
 ⟨[],by kernel_rfl⟩
theorem met (os:Os):laidMetH Tryz.prog Rows.clerkGiftsRow.laid ((w0 os).forCall (fun _ _=>0) ⟨#[],MF,[]⟩).memory:=
 laidMetH_of_parts3 (fuel:=8) (laidMet_of_run' 8 (by kernel_rfl) (by kernel_rfl)) (by kernel_rfl) (by kernel_rfl)
def cZ (P:Program) (w:World) (t:TypeId) (cs:Array Value):Bool:=
 match P.cellTypes P.depth t with
 |some ts=>ts.length==cs.toList.length&&(ts.zip cs.toList).all fun p=>xq P w p.1 p.2|none=>false
theorem vO {P:Program} {w:World} {t:TypeId} {cs:Array Value} (h:cZ P w t cs=true):wi P w t cs=true:=by
 unfold cZ at h;unfold wi;split at h
 ·rename_i ts hts;simp only[bg,beq_iff_eq,dw]at h;obtain⟨hl,hz⟩:=h;have hl':ts.length=cs.size:=by simpa using hl
  simp only[hts,bg,beq_iff_eq,dw,List.mem_range];refine⟨by rw[hl'];exact Nat.mod_self _,fun i hi=>?_⟩;have hi2:i<ts.length:=by omega
  rw[Nat.mod_eq_of_lt hi2,Array.getElem?_eq_getElem hi,List.getElem?_eq_getElem hi2];refine hz (ts[i],cs[i]) ?_;rw[List.mem_iff_getElem];refine⟨i,by simp;omega,?_⟩;simp
 ·cases h
def XQ (P:Program) (w:World) (t:TypeId) (v:Value):Bool:=
 match P.underlying t with
 |some (.struct _)|some (.array _ _)=>
  match v with
  | .agg cs=>cs.size==P.cellsOf t&&cZ P w t cs|_=>false
 |_=>xq P w t v
theorem z7 {P:Program} {w:World} {t:TypeId} {v:Value} (h:XQ P w t v=true):tg P w t v=true:=by unfold XQ at h;unfold tg;split at h;{rename_i fs hu;simp only[hu];cases v <;> simp at h;simp only[bg,beq_iff_eq];exact⟨h.1,vO h.2⟩};{rename_i n e hu;simp only[hu];cases v <;> simp at h;simp only[bg,beq_iff_eq];exact⟨h.1,vO h.2⟩};{rename_i h1 h2;split;{rename_i fs hu;exact absurd hu (h1 fs)};{rename_i n e hu;exact absurd hu (h2 n e)};{exact h}}
def MQ (P:Program) (w:World):List TypeId->List Value->Bool
 | [],[]=>true|t::ts,v::vs=>XQ P w t v&&MQ P w ts vs|_,_=>false
theorem gH {P:Program} {w:World}:∀{ts:List TypeId} {vs:List Value},MQ P w ts vs=true->∀{j:Nat},j<ts.length->∃t v,ts[j]? =some t/\vs[j]? =some v/\tg P w t v=true
 | [],[],_,_,hj=>by simp at hj
 | [],_::_,h,_,_=>by simp[MQ]at h
 |_::_,[],h,_,_=>by simp[MQ]at h
 |t::ts,v::vs,h,0,_=>by simp only[MQ,bg]at h;exact⟨t,v,rfl,rfl,z7 h.1⟩
 |t::ts,v::vs,h,j+1,hj=>by simp only[MQ,bg]at h;have:=gH h.2 (j:=j) (by simpa using hj);simpa using this
theorem q4H {P:Program} {w:World} {f:FuncId} {fn:Func} {args:Array Value} (hfn:P.funcs[f]? =some fn) (hi:(P.inits.idxOf? f).isNone=true)
  (h1:(fn.body.isSome&& !fn.ours&&fn.nfree==0&&args.size==fn.params.size)=true) (h:MQ P w fn.params.toList args.toList=true):sy P w f ⟨#[],args,[]⟩=true:=by
 unfold sy;simp only[hfn,hi,bg]at h1 ⊢;refine⟨⟨⟨by simp,by simp⟩,trivial⟩,h1,?_⟩;rw[dw];intro j hj;obtain⟨t,v,ht,hv,hk⟩:=gH h (j:=j) (by simpa using hj);rw[Array.getElem?_toList]at ht hv;rw[ht,hv];exact hk
theorem q1M (os:Os):((w0 os).forCall (fun _ _=>0) ⟨#[],MF,[]⟩).variablesB Tryz.checked.prog=true:=by kernel_rfl
theorem q1L (os:Os):((((w0 os).forCall (fun _ _=>0) ⟨#[],MF,[]⟩).heap.toList.drop Tryz.checked.prog.globals.size).take ((begin Tryz.checked.prog (fun _ _=>0) default).world.heap.size-Tryz.checked.prog.globals.size))=
   (begin Tryz.checked.prog (fun _ _=>0) default).world.heap.toList.drop Tryz.checked.prog.globals.size:=by kernel_rfl
theorem q1K (os:Os):sy Tryz.checked.prog ((w0 os).forCall (fun _ _=>0) ⟨#[],MF,[]⟩) 3 ⟨#[],MF,[]⟩=true:=
 q4H Tryz.func3 (by kernel_rfl) (by kernel_rfl) (by kernel_rfl)
end Go.Proofs.YteealakhniofoaaGreatDoor.fnClerkGifts
