/-
 What the last text leans on, part 2.
 Conditions: none.
-/
import Derived.Test.YtpemdagggddcfaaGreatDoorCards
import Derived.Test.YtpemdagggddcfaaGreatDoorTie
import Derived.Test.YtpemdagggddcfaaGreatDoorKx
set_option linter.all false
noncomputable section
set_option maxRecDepth 100000
set_option maxHeartbeats 4000000
open Bool renaming and_eq_true->bz
open Go.Cell renaming okWideB->vq,okWideRowB->um
open Go.Input renaming okWideB->rn
open Go.Value renaming okWideB->rr
open List renaming all_eq_true->eh
namespace Go.Proofs.YtpemdagggddcfaaGreatDoor.fnCourtFails
open Go Go.E Go.ChangeShapes Go.WideShapes Go.RowKit
variable {R:Type} (N:Nat)
def w0 (os:Os):World:=World.doorLaid Tryz.prog 400 os
theorem reads (os:Os) {H:Type} (enc:TypeId × Value->H):∃places,DataW.whole enc Tryz.prog ((w0 os).forCall (fun _ _=>0) ⟨#[],LL,[]⟩).memory Tryz.f5.params.toList Rows.courtFailsSpec.vars false (LL:Array Value).toList 12=some (q8n H,[],places):=
 ⟨[],by kernel_rfl⟩
theorem met (os:Os):laidMetH Tryz.prog Rows.courtFailsRow.laid ((w0 os).forCall (fun _ _=>0) ⟨#[],LL,[]⟩).memory:=
 laidMetH_of_parts3 (fuel:=8) (laidMet_of_run' 8 (by kernel_rfl) (by kernel_rfl)) (by kernel_rfl) (by kernel_rfl)
def cK (P:Program) (w:World) (t:TypeId) (cs:Array Value):Bool:=
 match P.cellTypes P.depth t with
 |some ts=>ts.length==cs.toList.length&&(ts.zip cs.toList).all fun p=>vq P w p.1 p.2|none=>false
theorem vS {P:Program} {w:World} {t:TypeId} {cs:Array Value} (h:cK P w t cs=true):um P w t cs=true:=by
 unfold cK at h;unfold um;split at h
 ·rename_i ts hts;simp only[bz,beq_iff_eq,eh]at h;obtain⟨hl,hz⟩:=h;have hl':ts.length=cs.size:=by simpa using hl
  simp only[hts,bz,beq_iff_eq,eh,List.mem_range];refine⟨by rw[hl'];exact Nat.mod_self _,fun i hi=>?_⟩;have hi2:i<ts.length:=by omega
  rw[Nat.mod_eq_of_lt hi2,Array.getElem?_eq_getElem hi,List.getElem?_eq_getElem hi2];refine hz (ts[i],cs[i]) ?_;rw[List.mem_iff_getElem];refine⟨i,by simp;omega,?_⟩;simp
 ·cases h
def Wh (P:Program) (w:World) (t:TypeId) (v:Value):Bool:=
 match P.underlying t with
 |some (.struct _)|some (.array _ _)=>
  match v with
  | .agg cs=>cs.size==P.cellsOf t&&cK P w t cs|_=>false
 |_=>vq P w t v
theorem aq {P:Program} {w:World} {t:TypeId} {v:Value} (h:Wh P w t v=true):rr P w t v=true:=by unfold Wh at h;unfold rr;split at h;{rename_i fs hu;simp only[hu];cases v <;> simp at h;simp only[bz,beq_iff_eq];exact⟨h.1,vS h.2⟩};{rename_i n e hu;simp only[hu];cases v <;> simp at h;simp only[bz,beq_iff_eq];exact⟨h.1,vS h.2⟩};{rename_i h1 h2;split;{rename_i fs hu;exact absurd hu (h1 fs)};{rename_i n e hu;exact absurd hu (h2 n e)};{exact h}}
def LV (P:Program) (w:World):List TypeId->List Value->Bool
 | [],[]=>true|t::ts,v::vs=>Wh P w t v&&LV P w ts vs|_,_=>false
theorem fV {P:Program} {w:World}:∀{ts:List TypeId} {vs:List Value},LV P w ts vs=true->∀{j:Nat},j<ts.length->∃t v,ts[j]? =some t/\vs[j]? =some v/\rr P w t v=true
 | [],[],_,_,hj=>by simp at hj
 | [],_::_,h,_,_=>by simp[LV]at h
 |_::_,[],h,_,_=>by simp[LV]at h
 |t::ts,v::vs,h,0,_=>by simp only[LV,bz]at h;exact⟨t,v,rfl,rfl,aq h.1⟩
 |t::ts,v::vs,h,j+1,hj=>by simp only[LV,bz]at h;have:=fV h.2 (j:=j) (by simpa using hj);simpa using this
theorem q5i {P:Program} {w:World} {f:FuncId} {fn:Func} {args:Array Value} (hfn:P.funcs[f]? =some fn) (hi:(P.inits.idxOf? f).isNone=true)
  (h1:(fn.body.isSome&& !fn.ours&&fn.nfree==0&&args.size==fn.params.size)=true) (h:LV P w fn.params.toList args.toList=true):rn P w f ⟨#[],args,[]⟩=true:=by
 unfold rn;simp only[hfn,hi,bz]at h1 ⊢;refine⟨⟨⟨by simp,by simp⟩,trivial⟩,h1,?_⟩;rw[eh];intro j hj;obtain⟨t,v,ht,hv,hk⟩:=fV h (j:=j) (by simpa using hj);rw[Array.getElem?_toList]at ht hv;rw[ht,hv];exact hk
theorem q2d (os:Os):((w0 os).forCall (fun _ _=>0) ⟨#[],LL,[]⟩).variablesB Tryz.checked.prog=true:=by kernel_rfl
theorem q2c (os:Os):((((w0 os).forCall (fun _ _=>0) ⟨#[],LL,[]⟩).heap.toList.drop Tryz.checked.prog.globals.size).take ((begin Tryz.checked.prog (fun _ _=>0) default).world.heap.size-Tryz.checked.prog.globals.size))=
   (begin Tryz.checked.prog (fun _ _=>0) default).world.heap.toList.drop Tryz.checked.prog.globals.size:=by kernel_rfl
theorem q2b (os:Os):rn Tryz.checked.prog ((w0 os).forCall (fun _ _=>0) ⟨#[],LL,[]⟩) 5 ⟨#[],LL,[]⟩=true:=
 q5i Tryz.func5 (by kernel_rfl) (by kernel_rfl) (by kernel_rfl)
end Go.Proofs.YtpemdagggddcfaaGreatDoor.fnCourtFails
