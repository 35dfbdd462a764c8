/-
 ReportWebs: for every input that the law's row speaks of, the call returns true and the arguments stay as they were.
 Conditions: none beside those that the given statement itself says.
-/
import Derived.Test.YtaopfcpeloodbaaDoorCards
import Derived.Test.YtaopfcpeloodbaaDoorTie
import Derived.Test.YtaopfcpeloodbaaDoorKb
set_option linter.all false
namespace Go.Proofs.YtaopfcpeloodbaaDoor.fnReportWebs
open Go Go.E Go.ChangeShapes Go.WideShapes Go.RowKit
set_option maxRecDepth 100000
set_option maxHeartbeats 2000000
theorem own:ownKnob Tryd.prog.godebug=none:=by kernel_rfl
theorem okP:x4 Tryd.prog=true:=by kernel_rfl
theorem y2d:laidOutB Tryd.prog=true:=by kernel_rfl
theorem y5J:mapsRowed Tryd.prog=true:=by kernel_rfl
theorem y3w:z00 Tryd.prog=true:=by kernel_rfl
theorem y10:Tryd.f3.params.toList.all (fun t=>decide (t<Tryd.prog.types.size)&&(ty Tryd.prog t).dat)=true:=by kernel_rfl
theorem y5K:z2f Tryd.prog Rows.reportWebsRow.laid=true:=by kernel_rfl
theorem y6v:Tryd.f3.resultTypes=#[4]:=by kernel_rfl
theorem y5S:Tryd.prog.underlying 4=some .bool:=by kernel_rfl
def q6b:Array Value:=#[Value.agg #[.slice none 0 0,.slice none 0 0],.int .i64 0]
def y5k (H:Type):List (DataW H):=[.agg [.nil,.nil],.lit (.int .i64 0)]
theorem y2J (H:Type) (enc:TypeId × Value→H) (W:World) (base:Nat) (args:Array Value) (ds gs:List (DataW H)) (before:List MemPlace)
  (hval:∀(j:Nat) t v,Tryd.f3.params[j]? =some t→args[j]? =some v→Value.okWide Tryd.prog W .any base t v)
  (hW:DataW.Whole enc Tryd.prog Tryd.f3.params.toList Rows.reportWebsSpec.vars false W args.toList ds gs before)
  (hwt:(DataW.weightsEach Tryd.prog Tryd.f3.params.toList ds).all (·≤reachBytes)=true) (hL:laidMetH Tryd.prog Rows.reportWebsRow.laid W):
  Calls Tryd.prog 3 args W fun e W'=>∃v,e= .returned v∧Rows.reportWebsSpec.post enc Tryd.prog Tryd.f3 false true false false W args v W':=by
 have hg:gs=[]:=by
  obtain⟨p,q,_,hV,_⟩:=hW
  exact(trodVars_none hV).1
 have hd:ds.length=2:=by
  obtain⟨p,q,hA,_⟩:=hW
  exact(q6C hA).2.trans (by kernel_rfl)
 subst hg
 match ds,hd,hW,hwt with
 | [d0,d1],_,hW,hwt=>
  refine z6x (s:=Rows.reportWebsSpec) okP y2d y5J y3w y10 y6v y5S rfl hval hW hwt (y2g (y2h okP y5K (by kernel_rfl) hL) (y3O _ (show _=_ by kernel_rfl))) rfl rfl rfl ?_
  rw[show Tryd.f3.params.toList.map (ty Tryd.prog)=[b7,(.int .i64)] by kernel_rfl]
  exact z26 (fun _=>none) (cOf d0) (cOf d1)
noncomputable def w0 (os:Os):World:=World.doorLaid Tryd.prog 400 os
theorem reads (os:Os) {H:Type} (enc:TypeId × Value→H):∃places,DataW.whole enc Tryd.prog ((w0 os).forCall (fun _ _=>0) ⟨#[],q6b,[]⟩).memory Tryd.f3.params.toList Rows.reportWebsSpec.vars false (q6b:Array Value).toList 12=some (y5k H,[],places):=
 ⟨[],by kernel_rfl⟩
theorem met (os:Os):laidMetH Tryd.prog Rows.reportWebsRow.laid ((w0 os).forCall (fun _ _=>0) ⟨#[],q6b,[]⟩).memory:=
 laidMetH_of_parts3 (fuel:=8) (laidMet_of_run' 8 (by kernel_rfl) (by kernel_rfl)) (by kernel_rfl) (by kernel_rfl)
def y1T (P:Program) (w:World) (t:TypeId) (cs:Array Value):Bool:=
 match P.cellTypes P.depth t with
 |some ts=>ts.length==cs.toList.length&&(ts.zip cs.toList).all fun p=>Cell.okWideB P w p.1 p.2
 |none=>false
theorem z8e {P:Program} {w:World} {t:TypeId} {cs:Array Value} (h:y1T P w t cs=true):Cell.okWideRowB P w t cs=true:=by
 unfold y1T at h
 unfold Cell.okWideRowB
 split at h
 ·rename_i ts hts
  simp only[Bool.and_eq_true,beq_iff_eq,List.all_eq_true]at h
  obtain⟨hl,hz⟩:=h
  have hl':ts.length=cs.size:=by simpa using hl
  simp only[hts,Bool.and_eq_true,beq_iff_eq,List.all_eq_true,List.mem_range]
  refine⟨by rw[hl'];exact Nat.mod_self _,fun i hi=>?_⟩
  have hi2:i<ts.length:=by omega
  rw[Nat.mod_eq_of_lt hi2,Array.getElem?_eq_getElem hi,List.getElem?_eq_getElem hi2]
  refine hz (ts[i],cs[i]) ?_
  rw[List.mem_iff_getElem]
  refine⟨i,by simp;omega,?_⟩
  simp
 ·cases h
def y2S (P:Program) (w:World) (t:TypeId) (v:Value):Bool:=
 match P.underlying t with
 |some (.struct _)|some (.array _ _)=>
  match v with
  | .agg cs=>cs.size==P.cellsOf t&&y1T P w t cs
  |_=>false
 |_=>Cell.okWideB P w t v
theorem y4i {P:Program} {w:World} {t:TypeId} {v:Value} (h:y2S P w t v=true):Value.okWideB P w t v=true:=by
 unfold y2S at h
 unfold Value.okWideB
 split at h
 ·rename_i fs hu
  simp only[hu]
  cases v <;> simp at h
  simp only[Bool.and_eq_true,beq_iff_eq]
  exact⟨h.1,z8e h.2⟩
 ·rename_i n e hu
  simp only[hu]
  cases v <;> simp at h
  simp only[Bool.and_eq_true,beq_iff_eq]
  exact⟨h.1,z8e h.2⟩
 ·rename_i h1 h2
  split
  ·rename_i fs hu;exact absurd hu (h1 fs)
  ·rename_i n e hu;exact absurd hu (h2 n e)
  ·exact h
def q8f (P:Program) (w:World):List TypeId→List Value→Bool
 | [],[]=>true
 |t::ts,v::vs=>y2S P w t v&&q8f P w ts vs
 |_,_=>false
theorem z7p {P:Program} {w:World}:∀{ts:List TypeId} {vs:List Value},q8f P w ts vs=true→∀{j:Nat},j<ts.length→∃t v,ts[j]? =some t∧vs[j]? =some v∧Value.okWideB P w t v=true
 | [],[],_,_,hj=>by simp at hj
 | [],_::_,h,_,_=>by simp[q8f]at h
 |_::_,[],h,_,_=>by simp[q8f]at h
 |t::ts,v::vs,h,0,_=>by
  simp only[q8f,Bool.and_eq_true]at h
  exact⟨t,v,rfl,rfl,y4i h.1⟩
 |t::ts,v::vs,h,j+1,hj=>by
  simp only[q8f,Bool.and_eq_true]at h
  have:=z7p h.2 (j:=j) (by simpa using hj)
  simpa using this
theorem z7I {P:Program} {w:World} {f:FuncId} {fn:Func} {args:Array Value} (hfn:P.funcs[f]? =some fn) (hi:(P.inits.idxOf? f).isNone=true)
  (h1:(fn.body.isSome&& !fn.ours&&fn.nfree==0&&args.size==fn.params.size)=true) (h:q8f P w fn.params.toList args.toList=true):Input.okWideB P w f ⟨#[],args,[]⟩=true:=by
 unfold Input.okWideB
 simp only[hfn,hi,Bool.and_eq_true]at h1 ⊢
 refine⟨⟨⟨by simp,by simp⟩,trivial⟩,h1,?_⟩
 rw[List.all_eq_true]
 intro j hj
 obtain⟨t,v,ht,hv,hk⟩:=z7p h (j:=j) (by simpa using hj)
 rw[Array.getElem?_toList]at ht hv
 rw[ht,hv]
 exact hk
theorem y2e (os:Os):((w0 os).forCall (fun _ _=>0) ⟨#[],q6b,[]⟩).variablesB Tryd.checked.prog=true:=by kernel_rfl
theorem z7U (os:Os):((((w0 os).forCall (fun _ _=>0) ⟨#[],q6b,[]⟩).heap.toList.drop Tryd.checked.prog.globals.size).take ((begin Tryd.checked.prog (fun _ _=>0) default).world.heap.size-Tryd.checked.prog.globals.size))=
   (begin Tryd.checked.prog (fun _ _=>0) default).world.heap.toList.drop Tryd.checked.prog.globals.size:=by kernel_rfl
theorem y2f (os:Os):Input.okWideB Tryd.checked.prog ((w0 os).forCall (fun _ _=>0) ⟨#[],q6b,[]⟩) 3 ⟨#[],q6b,[]⟩=true:=
 z7I Tryd.func3 (by kernel_rfl) (by kernel_rfl) (by kernel_rfl)
theorem lifted (os:Os) (started:os.Started) (H:Type) (enc:TypeId × Value→H) (F:Stop.Interp):
  ReturnsInHanded {} Tryd.checked os 3 .any ((OpenSpec.ofChange Rows.reportWebsSpec).preRow enc Tryd.prog Tryd.f3 Rows.reportWebsRow.domain false Rows.reportWebsRow.laid) (((OpenSpec.ofChange Rows.reportWebsSpec).at F).post enc Tryd.prog Tryd.f3 false true false false):=by
 obtain⟨places,hx⟩:=reads os enc
 refine returnsInHanded_of_row (C:=Tryd.checked) (s:=OpenSpec.ofChange Rows.reportWebsSpec) own started (by as_aux_lemma=>kernel_rfl) Tryd.func3
  (witness_row_at (enc:=enc) (C:=Tryd.checked) false (w0 os) q6b rfl (y2e os) (z7U os) (y2f os)
   (OpenSpec.preRow_of_cond 12 hx (by as_aux_lemma=>kernel_rfl) (fun k hk=>by cases hk) (by as_aux_lemma=>kernel_rfl) (met os))) ?_
 intro W base args ds gs before hval hW _ _ hwt hL _ _
 have hg:gs=[]:=by
  obtain⟨p,q,_,hV,_⟩:=hW
  exact(trodVars_none hV).1
 subst hg
 refine y2J H enc W base args ds [] before hval hW ?_ hL
 have e:Tryd.f3.params.toList++(OpenSpec.ofChange Rows.reportWebsSpec).bare.plain.varTypes Tryd.checked.prog=Tryd.f3.params.toList:=by as_aux_lemma=>kernel_rfl
 rw[e,List.append_nil]at hwt
 exact hwt
theorem said:Rows.ReportWebsSaid:=
 OpenClaim.holds_of_cond 3 Tryd.f3 rfl rfl rfl rfl rfl rfl rfl ⟨rfl,rfl,rfl,rfl,rfl⟩ rfl rfl rfl rfl rfl (by kernel_rfl) Tryd.func3 (by kernel_rfl)
  (of_decide_eq_true (by kernel_rfl)) (by unfold Func.isWrapper;first|(rw[if_pos (by decide+kernel)];kernel_rfl)|(rw[if_neg (by decide+kernel)];exact⟨rfl,rfl⟩))
  (fun os started H enc _ F=>by rw[OpenClaim.pre_eq_preRow];exact lifted os started H enc F)
theorem plain (f:FuncId) (fn:Func) (hf:Tryd.pinned.checked.prog.funcNamed Rows.reportWebsRow.func=some f) (hfn:Tryd.pinned.checked.prog.funcs[f]? =some fn):
  false=Tryd.pinned.checked.prog.looks []∧∀(j:Nat) t,fn.params[j]? =some t→Tryd.pinned.checked.prog.wantsStandIn t=false:=by
 obtain rfl:f=3:=Option.some.inj ((show Tryd.prog.funcNamed Rows.reportWebsRow.func=some 3 by kernel_rfl).symm.trans hf) |>.symm
 obtain rfl:fn=Tryd.f3:=(Option.some.inj (Tryd.func3.symm.trans hfn)).symm
 refine⟨by kernel_rfl,fun j t ht=>?_⟩
 have hm:t∈Tryd.f3.params.toList:=by simpa using Array.mem_of_getElem? ht
 have hall:(Tryd.f3.params.toList.all fun u=> !Tryd.prog.wantsStandIn u)=true:=by kernel_rfl
 exact(show Tryd.prog.wantsStandIn t=false by simpa using List.all_eq_true.1 hall t hm)
theorem card:Rows.ReportWebsCardSaid:=
 Claim7.holds_tied_plain_at .later [] _ _ _ _ said (fun _ h=>by cases h) (by kernel_rfl) (fun _ h=>by cases h) reportWebs_row_tie rfl ⟨rfl,rfl⟩ (by kernel_rfl) rfl plain (by kernel_rfl)
end Go.Proofs.YtaopfcpeloodbaaDoor.fnReportWebs
