/-
 BondWhole: for every input that the law's row speaks of, the call returns true and the arguments stay as they were.
Conditions: none beside those that the given statement itself says.
-/
import Derived.Test.YtgdonkaoajbclaaGreatDoorCards
import Derived.Test.YtgdonkaoajbclaaGreatDoorTie
import Derived.Test.YtgdonkaoajbclaaGreatDoorKh
set_option linter.all false
namespace Go.Proofs.YtgdonkaoajbclaaGreatDoor.fnBondWhole
open Go Go.E Go.ChangeShapes Go.WideShapes Go.RowKit
set_option maxRecDepth 100000
set_option maxHeartbeats 2000000
theorem own:ownKnob Tryz.prog.godebug=none:=by kernel_rfl
theorem okP:Aq Tryz.prog=true:=by kernel_rfl
theorem q7J:laidOutB Tryz.prog=true:=by kernel_rfl
theorem q81:mapsRowed Tryz.prog=true:=by kernel_rfl
theorem z4j:mT Tryz.prog=true:=by kernel_rfl
theorem z03:Tryz.f5.params.toList.all (fun t=>decide (t<Tryz.prog.types.size)&&(ty Tryz.prog t).dat)=true:=by kernel_rfl
theorem q7K:WT Tryz.prog Rows.bondWholeRow.laid=true:=by kernel_rfl
theorem z3m:Tryz.f5.resultTypes=#[4]:=by kernel_rfl
theorem q4b:Tryz.prog.underlying 4=some .bool:=by kernel_rfl
def Lm:Array Value:=#[Value.agg #[.int .u8 0,.int .u8 0,.int .u8 0,.int .u8 0,.int .u8 0,.int .u8 0,.int .u8 0,.int .u8 0,.int .u8 0,.int .u8 0,.int .u8 0,.int .u8 0,.int .u8 0,.int .u8 0,.int .u8 0,.int .u8 0,.int .u8 0,.int .u8 0,.int .u8 0,.int .u8 0,.int .u8 0,.int .u8 0,.int .u8 0,.int .u8 0,.int .u8 0,.int .u8 0,.int .u8 0,.int .u8 0,.int .u8 0,.int .u8 0,.int .u8 0,.int .u8 0],.agg #[.int .u8 0,.int .u8 0,.int .u8 0,.int .u8 0,.int .u8 0,.int .u8 0,.int .u8 0,.int .u8 0,.int .u8 0,.int .u8 0,.int .u8 0,.int .u8 0,.int .u8 0,.int .u8 0,.int .u8 0,.int .u8 0,.int .u8 0,.int .u8 0,.int .u8 0,.int .u8 0,.int .u8 0,.int .u8 0,.int .u8 0,.int .u8 0,.int .u8 0,.int .u8 0,.int .u8 0,.int .u8 0,.int .u8 0,.int .u8 0,.int .u8 0,.int .u8 0],.slice none 0 0,.slice none 0 0]
def z46 (H:Type):List (DataW H):=[.agg [.lit (.int .u8 0),.lit (.int .u8 0),.lit (.int .u8 0),.lit (.int .u8 0),.lit (.int .u8 0),.lit (.int .u8 0),.lit (.int .u8 0),.lit (.int .u8 0),.lit (.int .u8 0),.lit (.int .u8 0),.lit (.int .u8 0),.lit (.int .u8 0),.lit (.int .u8 0),.lit (.int .u8 0),.lit (.int .u8 0),.lit (.int .u8 0),.lit (.int .u8 0),.lit (.int .u8 0),.lit (.int .u8 0),.lit (.int .u8 0),.lit (.int .u8 0),.lit (.int .u8 0),.lit (.int .u8 0),.lit (.int .u8 0),.lit (.int .u8 0),.lit (.int .u8 0),.lit (.int .u8 0),.lit (.int .u8 0),.lit (.int .u8 0),.lit (.int .u8 0),.lit (.int .u8 0),.lit (.int .u8 0)],.agg [.lit (.int .u8 0),.lit (.int .u8 0),.lit (.int .u8 0),.lit (.int .u8 0),.lit (.int .u8 0),.lit (.int .u8 0),.lit (.int .u8 0),.lit (.int .u8 0),.lit (.int .u8 0),.lit (.int .u8 0),.lit (.int .u8 0),.lit (.int .u8 0),.lit (.int .u8 0),.lit (.int .u8 0),.lit (.int .u8 0),.lit (.int .u8 0),.lit (.int .u8 0),.lit (.int .u8 0),.lit (.int .u8 0),.lit (.int .u8 0),.lit (.int .u8 0),.lit (.int .u8 0),.lit (.int .u8 0),.lit (.int .u8 0),.lit (.int .u8 0),.lit (.int .u8 0),.lit (.int .u8 0),.lit (.int .u8 0),.lit (.int .u8 0),.lit (.int .u8 0),.lit (.int .u8 0),.lit (.int .u8 0)],.nil,.nil]
theorem q4U (H:Type) (enc:TypeId × Value→H) (W:World) (base:Nat) (args:Array Value) (ds gs:List (DataW H)) (before:List MemPlace)
  (z8l:∀(j:Nat) t v,Tryz.f5.params[j]? =some t→args[j]? =some v→Value.okWide Tryz.prog W .any base t v)
  (hW:DataW.Whole enc Tryz.prog Tryz.f5.params.toList Rows.bondWholeSpec.vars false W args.toList ds gs before)
  (hwt:(DataW.weightsEach Tryz.prog Tryz.f5.params.toList ds).all (·≤reachBytes)=true) (hL:laidMetH Tryz.prog Rows.bondWholeRow.laid W):
  Calls Tryz.prog 5 args W fun e W'=>∃v,e= .returned v∧Rows.bondWholeSpec.post enc Tryz.prog Tryz.f5 false true false false W args v W':=by
 have hg:gs=[]:=by
  obtain⟨p,q,_,hV,_⟩:=hW
  exact(trodVars_none hV).1
 have hd:ds.length=4:=by
  obtain⟨p,q,hA,_⟩:=hW
  exact(nP hA).2.trans (by kernel_rfl)
 subst hg
 match ds,hd,hW,hwt with
 | [d0,d1,d2,d3],_,hW,hwt=>
  refine q8A (s:=Rows.bondWholeSpec) okP q7J q81 z4j z03 z3m q4b rfl z8l hW hwt (q6Y (q6X okP q7K (by kernel_rfl) hL) (q6W _ (show _=_ by kernel_rfl))) rfl rfl rfl ?_
  rw[show Tryz.f5.params.toList.map (ty Tryz.prog)=[(.arr 32 (.int .u8)),(.arr 32 (.int .u8)),(.slice 1 (.int .u8)),(.slice 136 IW)] by kernel_rfl]
  exact z3Q (fun _=>none) (cOf d0) (cOf d1) (cOf d2) (cOf d3)
noncomputable def w0 (os:Os):World:=World.doorLaid Tryz.prog 400 os
theorem reads (os:Os) {H:Type} (enc:TypeId × Value→H):∃places,DataW.whole enc Tryz.prog ((w0 os).forCall (fun _ _=>0) ⟨#[],Lm,[]⟩).memory Tryz.f5.params.toList Rows.bondWholeSpec.vars false (Lm:Array Value).toList 12=some (z46 H,[],places):=
 ⟨[],by kernel_rfl⟩
theorem met (os:Os):laidMetH Tryz.prog Rows.bondWholeRow.laid ((w0 os).forCall (fun _ _=>0) ⟨#[],Lm,[]⟩).memory:=
 laidMetH_of_parts3 (fuel:=8) (laidMet_of_run' 8 (by kernel_rfl) (by kernel_rfl)) (by kernel_rfl) (by kernel_rfl)
def mH (P:Program) (w:World) (t:TypeId) (cs:Array Value):Bool:=
 match P.cellTypes P.depth t with
 |some ts=>ts.length==cs.toList.length&&(ts.zip cs.toList).all fun p=>Cell.okWideB P w p.1 p.2
 |none=>false
theorem q1n {P:Program} {w:World} {t:TypeId} {cs:Array Value} (h:mH P w t cs=true):Cell.okWideRowB P w t cs=true:=by
 unfold mH at h
 unfold Cell.okWideRowB
 split at h
 ·rename_i ts hts
  simp only[Bool.and_eq_true,beq_iff_eq,List.all_eq_true]at h
  obtain⟨hl,hz⟩:=h
  have hl':ts.length=cs.size:=by simpa using hl
  simp only[hts,Bool.and_eq_true,beq_iff_eq,List.all_eq_true,List.mem_range]
  refine⟨by rw[hl'];exact Nat.mod_self _,fun i hi=>?_⟩
  have hi2:i<ts.length:=by omega
  rw[Nat.mod_eq_of_lt hi2,Array.getElem?_eq_getElem hi,List.getElem?_eq_getElem hi2]
  refine hz (ts[i],cs[i]) ?_
  rw[List.mem_iff_getElem]
  refine⟨i,by simp;omega,?_⟩
  simp
 ·cases h
def ZP (P:Program) (w:World) (t:TypeId) (v:Value):Bool:=
 match P.underlying t with
 |some (.struct _)|some (.array _ _)=>
  match v with
  | .agg cs=>cs.size==P.cellsOf t&&mH P w t cs
  |_=>false
 |_=>Cell.okWideB P w t v
theorem q3B {P:Program} {w:World} {t:TypeId} {v:Value} (h:ZP P w t v=true):Value.okWideB P w t v=true:=by
 unfold ZP at h
 unfold Value.okWideB
 split at h
 ·rename_i fs hu
  simp only[hu]
  cases v <;> simp at h
  simp only[Bool.and_eq_true,beq_iff_eq]
  exact⟨h.1,q1n h.2⟩
 ·rename_i n e hu
  simp only[hu]
  cases v <;> simp at h
  simp only[Bool.and_eq_true,beq_iff_eq]
  exact⟨h.1,q1n h.2⟩
 ·rename_i h1 h2
  split
  ·rename_i fs hu;exact absurd hu (h1 fs)
  ·rename_i n e hu;exact absurd hu (h2 n e)
  ·exact h
def Ly (P:Program) (w:World):List TypeId→List Value→Bool
 | [],[]=>true
 |t::ts,v::vs=>ZP P w t v&&Ly P w ts vs
 |_,_=>false
theorem pS {P:Program} {w:World}:∀{ts:List TypeId} {vs:List Value},Ly P w ts vs=true→∀{j:Nat},j<ts.length→∃t v,ts[j]? =some t∧vs[j]? =some v∧Value.okWideB P w t v=true
 | [],[],_,_,hj=>by simp at hj
 | [],_::_,h,_,_=>by simp[Ly]at h
 |_::_,[],h,_,_=>by simp[Ly]at h
 |t::ts,v::vs,h,0,_=>by
  simp only[Ly,Bool.and_eq_true]at h
  exact⟨t,v,rfl,rfl,q3B h.1⟩
 |t::ts,v::vs,h,j+1,hj=>by
  simp only[Ly,Bool.and_eq_true]at h
  have:=pS h.2 (j:=j) (by simpa using hj)
  simpa using this
theorem z0z {P:Program} {w:World} {f:FuncId} {fn:Func} {args:Array Value} (hfn:P.funcs[f]? =some fn) (hi:(P.inits.idxOf? f).isNone=true)
  (h1:(fn.body.isSome&& !fn.ours&&fn.nfree==0&&args.size==fn.params.size)=true) (h:Ly P w fn.params.toList args.toList=true):Input.okWideB P w f ⟨#[],args,[]⟩=true:=by
 unfold Input.okWideB
 simp only[hfn,hi,Bool.and_eq_true]at h1 ⊢
 refine⟨⟨⟨by simp,by simp⟩,trivial⟩,h1,?_⟩
 rw[List.all_eq_true]
 intro j hj
 obtain⟨t,v,ht,hv,hk⟩:=pS h (j:=j) (by simpa using hj)
 rw[Array.getElem?_toList]at ht hv
 rw[ht,hv]
 exact hk
theorem q7c (os:Os):((w0 os).forCall (fun _ _=>0) ⟨#[],Lm,[]⟩).variablesB Tryz.checked.prog=true:=by kernel_rfl
theorem q7b (os:Os):((((w0 os).forCall (fun _ _=>0) ⟨#[],Lm,[]⟩).heap.toList.drop Tryz.checked.prog.globals.size).take ((begin Tryz.checked.prog (fun _ _=>0) default).world.heap.size-Tryz.checked.prog.globals.size))=
   (begin Tryz.checked.prog (fun _ _=>0) default).world.heap.toList.drop Tryz.checked.prog.globals.size:=by kernel_rfl
theorem q7a (os:Os):Input.okWideB Tryz.checked.prog ((w0 os).forCall (fun _ _=>0) ⟨#[],Lm,[]⟩) 5 ⟨#[],Lm,[]⟩=true:=
 z0z Tryz.func5 (by kernel_rfl) (by kernel_rfl) (by kernel_rfl)
theorem lifted (os:Os) (started:os.Started) (H:Type) (enc:TypeId × Value→H) (F:Stop.Interp):
  ReturnsInHanded {} Tryz.checked os 5 .any ((OpenSpec.ofChange Rows.bondWholeSpec).preRow enc Tryz.prog Tryz.f5 Rows.bondWholeRow.domain false Rows.bondWholeRow.laid) (((OpenSpec.ofChange Rows.bondWholeSpec).at F).post enc Tryz.prog Tryz.f5 false true false false):=by
 obtain⟨places,hx⟩:=reads os enc
 refine returnsInHanded_of_row (C:=Tryz.checked) (s:=OpenSpec.ofChange Rows.bondWholeSpec) own started (by as_aux_lemma=>kernel_rfl) Tryz.func5
  (witness_row_at (enc:=enc) (C:=Tryz.checked) false (w0 os) Lm rfl (q7c os) (q7b os) (q7a os)
   (OpenSpec.preRow_of_cond 12 hx (by as_aux_lemma=>kernel_rfl) (fun k hk=>by cases hk) (by as_aux_lemma=>kernel_rfl) (met os))) ?_
 intro W base args ds gs before z8l hW _ _ hwt hL _ _
 have hg:gs=[]:=by
  obtain⟨p,q,_,hV,_⟩:=hW
  exact(trodVars_none hV).1
 subst hg
 refine q4U H enc W base args ds [] before z8l hW ?_ hL
 have e:Tryz.f5.params.toList++(OpenSpec.ofChange Rows.bondWholeSpec).bare.plain.varTypes Tryz.checked.prog=Tryz.f5.params.toList:=by as_aux_lemma=>kernel_rfl
 rw[e,List.append_nil]at hwt
 exact hwt
theorem said:Rows.BondWholeSaid:=
 OpenClaim.holds_of_cond 5 Tryz.f5 rfl rfl rfl rfl rfl rfl rfl ⟨rfl,rfl,rfl,rfl,rfl⟩ rfl rfl rfl rfl rfl (by kernel_rfl) Tryz.func5 (by kernel_rfl)
  (of_decide_eq_true (by kernel_rfl)) (by unfold Func.isWrapper;first|(rw[if_pos (by decide+kernel)];kernel_rfl)|(rw[if_neg (by decide+kernel)];exact⟨rfl,rfl⟩))
  (fun os started H enc _ F=>by rw[OpenClaim.pre_eq_preRow];exact lifted os started H enc F)
theorem plain (f:FuncId) (fn:Func) (hf:Tryz.pinned.checked.prog.funcNamed Rows.bondWholeRow.func=some f) (hfn:Tryz.pinned.checked.prog.funcs[f]? =some fn):
  false=Tryz.pinned.checked.prog.looks []∧∀(j:Nat) t,fn.params[j]? =some t→Tryz.pinned.checked.prog.wantsStandIn t=false:=by
 obtain rfl:f=5:=Option.some.inj ((show Tryz.prog.funcNamed Rows.bondWholeRow.func=some 5 by kernel_rfl).symm.trans hf) |>.symm
 obtain rfl:fn=Tryz.f5:=(Option.some.inj (Tryz.func5.symm.trans hfn)).symm
 refine⟨by kernel_rfl,fun j t ht=>?_⟩
 have hm:t∈Tryz.f5.params.toList:=by simpa using Array.mem_of_getElem? ht
 have yx:(Tryz.f5.params.toList.all fun u=> !Tryz.prog.wantsStandIn u)=true:=by kernel_rfl
 exact(show Tryz.prog.wantsStandIn t=false by simpa using List.all_eq_true.1 yx t hm)
theorem card:Rows.BondWholeCardSaid:=
 Claim7.holds_tied_plain_at .later [] _ _ _ _ said (fun _ h=>by cases h) (by kernel_rfl) (fun _ h=>by cases h) bondWhole_row_tie rfl ⟨rfl,rfl⟩ (by kernel_rfl) rfl plain (by kernel_rfl)
end Go.Proofs.YtgdonkaoajbclaaGreatDoor.fnBondWhole
