/-
 A framework for runs of Go code over abstract data: what it needs, and that it is sound, part 5.
 Conditions: none.
-/
import Derived.Test.YtgdonkaoajbclaaGreatDoorEd
import Derived.ScopeJumps
import Derived.ProofKit
import Derived.LaidMore
import Derived.OpenShut
import Derived.Stop.Joined
import Derived.ChangeStays
import Derived.Deep.DeepHandedRow
import Derived.Lib.LaidTab
import Derived.LoopN
set_option linter.all false
noncomputable section
set_option maxRecDepth 100000
set_option maxHeartbeats 4000000
open Array renaming all_eq_true'->pj,getD->qb,getD_eq_getD_getElem?->il,replicate->nv
open Bool renaming and_eq_true->bg,and_true->jz,eq_iff_iff->ko,false_eq_true->fj,false_or->jt,not_eq_true'->ju,not_true->tc,or_eq_true->tf,or_eq_true_iff->uz,or_false->xx
open Classical renaming byContradiction->qj,choose_spec->rz
open Go.Act renaming put->si
open Go.Addr renaming add->oe
open Go.DataW renaming TrodAll->lh,trod->lx,weights->pk,weightsAll->qk,weightsEach->mq
open Go.DataW.TrodAll renaming lt->sj
open Go.E.C renaming elems->au,eqb->rq
open Go.E.G renaming part->wv
open Go.E.S renaming get->yf,obj->jj,start->kf
open Go.Oper renaming looksAt->ud
open Go.Region renaming binds->ti,ready->nr,wanted->jl
open Go.Value renaming okWide->ua
open Go.World renaming cell?->nu,sameAt->xz
open List renaming all_cons->tg,all_eq_true->ej,cons_append->ji,countP_append->vj,getD_eq_getElem?_getD->bn,getElem?_append_left->fm,getElem?_eq_getElem->bm,getElem?_eq_none->gd,getElem?_eq_some_iff->bz,getElem?_map->di,getElem?_of_mem->um,getElem?_range->iq,getElem?_take->fv,getElem?_toArray->ku,head?_drop->wz,length_append->bx,length_cons->cn,length_nil->df,mapM_cons->uc,map_nil->vq,mem_append->dy,mem_cons->gr,mem_cons_of_mem->fq,mem_filter->mj,mem_filterMap->vk,mem_map->nz,mem_of_getElem?->fg,mem_range->gq,nil_append->fz,range->fi,size_toArray->iu,zipWith->ke
open Nat renaming le_of_lt->qx,le_refl->ca,lt_or_ge->kn,lt_succ_iff_lt_or_eq->ng,strongRecOn->xr,zero_le->dx,zero_mul->gz
open Option renaming bind_eq_some_iff->mz,bind_some->gj,getD_none->qz,getD_some->jh,isSome_none->py,isSome_some->pz,map_eq_some_iff->fa,map_map->ru,map_none->od,map_some->gm
open Option.some renaming injEq->eu
open Prod.mk renaming injEq->gp
namespace Go.E
open Go
section
def dep (ops:List Oper) (i j:Nat):Prop:=∃o,ops[i]? =some o/\∃e∈o.after,ti .any e=true/\e.on=j
inductive Anc (ops:List Oper):Nat->Nat->Prop where
 |one {i j:Nat}:dep ops i j->Anc ops j i
 |step {i j k:Nat}:dep ops i k->Anc ops j k->Anc ops j i
def Anc.closed {ops:List Oper} {D:Nat->Prop} (hD:∀i j,D i->dep ops i j->D j) {i j:Nat} (h:Anc ops j i) (hi:D i):D j:=by
 induction h with
 |one h=>exact hD _ _ hi h
 |step h _ ih=>exact ih (hD _ _ hi h)
structure Res where
 t:Nat
 v:V
 lo:List (Key × O)
 tn:List (Nat × Option Nat)
 s1:S
def om (s:S):Key ⊕ Nat->Option (O ⊕ Option Nat)
 | .inl k=>(s.obj k).map .inl
 | .inr t=>(look s.tk t).map .inr
def Res.om (r:Res):Key ⊕ Nat->Option (O ⊕ Option Nat)
 | .inl k=>(AR r.lo k).map .inl
 | .inr t=>(look r.tn t).map .inr
def S.step (s:S) (o:Oper) (r:Res):S:=
 bif r.t==0 then s.set o.dst r.v else bif r.t==1 then(s.add r.lo r.tn).set o.dst r.v else r.s1.set o.dst r.v
def gK (s:S) (d:Option Nat) (v:V):om (s.set d v)=om s:=by cases d <;> rfl
def Yr (s:S) (d:Option Nat) (v:V):(s.set d v).A=s.A:=by cases d <;> rfl
def j3 (s:S) (lo:List (Key × O)) (tn:List (Nat × Option Nat)) (k:Key ⊕ Nat) {r:Res} (h1:r.lo=lo) (h2:r.tn=tn):om (s.add lo tn) k=match r.om k with|some x=>some x|none=>om s k:=by
 subst h1;subst h2;cases k with
 |inl k=>
  simp only[om,Res.om,S.add,jj,Bt,LB];cases AR r.lo k <;> rfl
 |inr t=>
  simp only[om,Res.om,S.add,MZ];cases look r.tn t <;> rfl
def gL {s:S} {o} {r:Res} (h:r.t=0):om (s.step o r)=om s:=by unfold S.step;rw[h];exact gK _ _ _
def XH {s:S} {o} {r:Res} (h:r.t=1) (k:Key ⊕ Nat):om (s.step o r) k=match r.om k with|some x=>some x|none=>om s k:=by
 unfold S.step;rw[h];exact(congrFun (gK _ _ _) k).trans (j3 s _ _ k rfl rfl)
def j4 {s:S} {o} {r:Res} (h:r.t=2):om (s.step o r)=om r.s1:=by unfold S.step;rw[h];exact gK _ _ _
def q6x {s:S} {o:Oper} {r:Res} (h3:r.t=0\/r.t=1\/r.t=2) (h2:r.t=2->r.s1.env=s.env) (t:Nat):(s.step o r).get t=if o.dst=some t then r.v else s.get t:=by
 unfold S.step;rcases h3 with h|h|h
 ·rw[h];exact Jq _ _ _ _
 ·rw[h];exact Jq _ _ _ _
 ·have e:r.s1.get t=s.get t:=by simp only[yf,h2 h]
  rw[h,<-e];exact Jq _ _ _ _
def q2U {s:S} {o} {r:Res} (h3:r.t=0\/r.t=1\/r.t=2) (h2:r.t=2->r.s1.A=s.A):(s.step o r).A=s.A:=by
 unfold S.step;rcases h3 with h|h|h
 ·rw[h];exact Yr _ _ _
 ·rw[h];exact Yr _ _ _
 ·rw[h,<-h2 h];exact Yr _ _ _
def Ft (ops:Array Oper) (s:S) (o:Oper):Option Bool:=
 match o.guard with
 |none=>some true
 |some (j,want)=>match GJ ops j with
  |none=>none
  |some t=>match s.get t with
   | .d .bool c=>some (c.toBool==want)
   | .tup []=>some false
   |_=>none
def NV (X:Cx) (Q:S->Prop) (o:Oper) (ρ:Operand->V) (v:V):Prop:=
 ∀(Γ:G) (w:World) (a:Act) (s:S),Γ.gl=X.gl->AO Γ w s->Q s->(∀y∈o.op.operands,AG Γ (ρ y) (a.eval y))->Au X.P o a w (BB Γ w s v)
def OkR (X:Cx) (Q:S->Prop) (ops:Array Oper) (base s:S) (o:Oper) (r:Res):Prop:=
 (Ft ops s o=some false/\r.t=0/\r.v= .tup [])\/
 (Ft ops s o=some true/\(
  (r.t=0/\NV X Q o (Ak X.gl s) r.v)\/
  (r.t=1/\Yw X base o (Ak X.gl s) s r.v r.lo r.tn/\Uq s r.lo r.tn)\/
  (r.t=2/\oC X o (Ak X.gl s) s r.v r.s1)))
def OkR.mono {X Q Q' ops base s o r} (h:OkR X Q ops base s o r) (hq:∀s,Q' s->Q s):OkR X Q' ops base s o r:=by
 rcases h with h|⟨h0,h|h|h⟩
 ·exact .inl h
 ·exact .inr ⟨h0,.inl ⟨h.1,fun Γ w a s g c q=>h.2 Γ w a s g c (hq s q)⟩⟩
 ·exact .inr ⟨h0,.inr (.inl h)⟩
 ·exact .inr ⟨h0,.inr (.inr h)⟩
def QC (n:Nat) (c:Nat->S) (s:S):Prop:=∀k o,(∀p,p<=n->(c p).obj k=some o)->s.obj k=some o
def BX (rs:Nat->Res):Nat->Nat
 |0=>0
 |i+1=>if(rs i).t=2 then i+1 else BX rs i
def Hq (rs:Nat->Res):∀i,BX rs i<=i
 |0=>ca _
 |i+1=>by simp only[BX];split;exact ca _;exact Nat.le_succ_of_le (Hq rs i)
def WT (rs:Nat->Res):∀i k,k<i->(rs k).t=2->k<BX rs i
 |0,k,h,_=>by omega
 |i+1,k,h,ht=>by
  simp only[BX];split
  ·exact h
  ·rename_i hi;refine WT rs i k ?_ ht;rcases ng.1 h with h|h
   ·exact h
   ·subst h;exact absurd ht hi
def dI (rs:Nat->Res):∀i,BX rs i=0\/∃k,BX rs i=k+1/\(rs k).t=2
 |0=>.inl rfl
 |i+1=>by
  simp only[BX];split
  ·exact .inr ⟨i,rfl,‹_›⟩
  ·exact dI rs i
structure Canon (X:Cx) (ops:List Oper) (s0:S) (rs:Nat->Res) (c:Nat->S):Prop where
 c0:c 0=s0
 cs:∀i o,ops[i]? =some o->c (i+1)=(c i).step o (rs i)
 ok:∀i o,ops[i]? =some o->OkR X (QC ops.length c) ops.toArray (c (BX rs i)) (c i) o (rs i)
 tri:∀i,(rs i).t=0\/(rs i).t=1\/(rs i).t=2
def writes (ops:List Oper) (j t:Nat):Prop:=∃o,ops[j]? =some o/\o.dst=some t
def looks (ops:List Oper) (i t:Nat):Prop:=∃o,ops[i]? =some o/\t∈o.looksAt ops.toArray
structure Orders (ops:List Oper) (rs:Nat->Res):Prop where
 lt:∀i j,dep ops i j->j<i
 tt:∀i j,i<ops.length->j<ops.length->(rs i).t=2->(rs j).t≠0->j≠i->(j<i/\Anc ops j i)\/(i<j/\Anc ops i j)
 CW:∀i j t,j≠i->writes ops j t->looks ops i t->(j<i/\Anc ops j i)\/(i<j/\Anc ops i j)
 one:∀i j t,writes ops i t->writes ops j t->i=j
def OkR.env {X Q ops} {base s:S} {o} {r:Res} (h:OkR X Q ops base s o r) (ht:r.t=2):r.s1.env=s.env/\r.s1.A=s.A:=by
 rcases h with h|⟨_,h|h|h⟩
 ·omega
 ·omega
 ·omega
 ·exact⟨h.2.2.1,h.2.1⟩
section
variable {X:Cx} {ops:List Oper} {s0:S} {rs:Nat->Res} {c:Nat->S}
def getOp {i:Nat} (h:i<ops.length):∃o,ops[i]? =some o:=⟨_,bm h⟩
def Canon.A (K:Canon X ops s0 rs c):∀i,i<=ops.length->(c i).A=s0.A
 |0,_=>by rw[K.c0]
 |i+1,h=>by
  obtain⟨o,ho⟩:=getOp (ops:=ops) (i:=i) (by omega);rw[K.cs i o ho,q2U (K.tri i) (fun ht=>((K.ok i o ho).env ht).2),K.A i (by omega)]
def Canon.vQ (K:Canon X ops s0 rs c) {i:Nat} {o:Oper} (ho:ops[i]? =some o) (t:Nat):(c (i+1)).get t=if o.dst=some t then(rs i).v else(c i).get t:=by rw[K.cs i o ho];exact q6x (K.tri i) (fun ht=>((K.ok i o ho).env ht).1) t
def Canon.HF (K:Canon X ops s0 rs c) (Od:Orders ops rs) {j t:Nat} (hw:writes ops j t):∀i,j<i->i<=ops.length->(c i).get t=(rs j).v
 |0,h,_=>by omega
 |i+1,h,hi=>by
  obtain⟨o,ho⟩:=getOp (ops:=ops) (i:=i) (by omega);rw[K.vQ ho];by_cases hji:j=i
  ·subst hji;obtain⟨o',h1,h2⟩:=hw;rw[ho]at h1;cases h1;rw[if_pos h2]
  ·have hd:¬o.dst=some t:=fun e=>hji (Od.one j i t hw ⟨o,ho,e⟩);rw[if_neg hd];exact K.HF Od hw i (by omega) (by omega)
def Canon.Vz (K:Canon X ops s0 rs c) {t:Nat}:∀i,i<=ops.length->(∀j,j<i->¬writes ops j t)->(c i).get t=s0.get t
 |0,_,_=>by rw[K.c0]
 |i+1,hi,hw=>by
  obtain⟨o,ho⟩:=getOp (ops:=ops) (i:=i) (by omega);have hd:¬o.dst=some t:=fun e=>hw i (by omega) ⟨o,ho,e⟩;rw[K.vQ ho,if_neg hd];exact K.Vz i (by omega) (fun j hj=>hw j (by omega))
def Canon.fresh (K:Canon X ops s0 rs c) {i:Nat} (hi:i<ops.length) (ht:(rs i).t=1) {k x} (h:(rs i).om k=some x):om (c i) k=none:=by
 obtain⟨o,ho⟩:=getOp hi;rcases K.ok i o ho with h1|⟨_,h1|h1|h1⟩
 ·omega
 ·omega
 ·have hf:=h1.2.2;cases k with
  |inl k=>
   simp only[Res.om,fa]at h;obtain⟨y,h,_⟩:=h;simp only[om,hf.l k y h,od]
  |inr t=>
   simp only[Res.om,fa]at h;obtain⟨y,h,_⟩:=h;have:=hf.t t y h;simp only[S.known]at this;simp only[om];cases hh:look (c i).tk t with
   |none=>rfl
   |some z=>rw[hh]at this;cases this
 ·omega
def Canon.mono (K:Canon X ops s0 rs c) {k x} {i:Nat}:∀j,i<=j->j<=ops.length->(∀m,i<=m->m<j->(rs m).t≠2)->om (c i) k=some x->om (c j) k=some x
 |0,h,_,_,hx=>by have:i=0:=by omega
                 subst this;exact hx
 |j+1,h,hj,hn,hx=>by
  by_cases he:i=j+1
  ·subst he;exact hx
  ·have ih:=K.mono j (by omega) (by omega) (fun m h1 h2=>hn m h1 (by omega)) hx;obtain⟨o,ho⟩:=getOp (ops:=ops) (i:=j) (by omega);rw[K.cs j o ho];rcases K.tri j with h1|h1|h1
   ·rw[gL h1];exact ih
   ·rw[XH h1];cases hr:(rs j).om k with
    |none=>exact ih
    |some y=>have:=K.fresh (by omega) h1 hr;rw[ih]at this;cases this
   ·exact absurd h1 (hn j (by omega) (by omega))
def Canon.obj (K:Canon X ops s0 rs c) (k:Key ⊕ Nat):∀i,i<=ops.length->
  (∀j x,j<i->BX rs i<=j->(rs j).t=1->(rs j).om k=some x->om (c i) k=some x)/\
  ((∀j,j<i->BX rs i<=j->(rs j).t=1->(rs j).om k=none)->om (c i) k=om (c (BX rs i)) k)
 |0,_=>⟨fun j x h=>by omega,fun _=>rfl⟩
 |i+1,hi=>by
  obtain⟨h1,h2⟩:=K.obj k i (by omega);obtain⟨o,ho⟩:=getOp (ops:=ops) (i:=i) (by omega);simp only[BX];rcases K.tri i with ht|ht|ht
  ·rw[if_neg (by omega),K.cs i o ho,gL ht];refine⟨fun j x h3 h4 h5 h6=>?_,fun h3=>h2 fun j h4 h5 h6=>h3 j (by omega) h5 h6⟩;rcases ng.1 h3 with h7|h7
   ·exact h1 j x h7 h4 h5 h6
   ·subst h7;omega
  ·rw[if_neg (by omega),K.cs i o ho,XH ht];refine⟨fun j x h3 h4 h5 h6=>?_,fun h3=>?_⟩
   ·rcases ng.1 h3 with h7|h7
    ·have:=h1 j x h7 h4 h5 h6;cases hr:(rs i).om k with
     |none=>exact this
     |some y=>have h8:=K.fresh (by omega) ht hr;rw[this]at h8;cases h8
    ·subst h7;rw[h6]
   ·rw[h3 i (by omega) (Nat.le_of_lt_succ (Nat.lt_succ_of_le (Hq rs i))) ht];exact h2 fun j h4 h5 h6=>h3 j (by omega) h5 h6
  ·rw[if_pos ht];exact⟨fun j x h3 h4=>by omega,fun _=>rfl⟩
end
end
section
section
variable {X:Cx} {ops:List Oper} {s0:S} {rs:Nat->Res} {c:Nat->S}
def IP (X:Cx) (ops:List Oper) (s0:S) (rs:Nat->Res) (c:Nat->S) (Γ0:G) (n:Nat) (D:Nat->Prop) (a:Act) (w:World):Prop:=
 ∃Γ sD p,GLe Γ0 Γ/\Γ.gl=X.gl/\AO Γ w sD/\AOk s0.A/\a.tmps.size=n/\a.defers=[]/\
  p<=ops.length/\(p=0\/∃k,p=k+1/\(rs k).t=2/\D k)/\(∀k,D k->(rs k).t=2->k<p)/\
  (∀k j x,D j->p<=j->(rs j).t=1->(rs j).om k=some x->om sD k=some x)/\
  (∀k,(∀j,D j->p<=j->(rs j).t=1->(rs j).om k=none)->om sD k=om (c p) k)/\
  (∀j t,D j->writes ops j t->AG Γ (rs j).v (a.tmps.getD t undef))/\
  (∀t,(∀j,D j->¬writes ops j t)->AG Γ (s0.get t) (a.tmps.getD t undef))
def q2C {Γ} {a:Act} {s:S} {o:Oper} {b:Bool} {l} (h:Ft l s o=some b) (hs:∀t,t∈o.looksAt l->AG Γ (s.get t) (a.tmps.getD t undef)):
  jl o (yielded l a.tmps)=b:=by
 unfold Ft at h;split at h
 ·rename_i hg;cases h;simp[jl,hg]
 ·rename_i j want hg;split at h
  ·cases h
  ·rename_i t ht
   have hst:=hs t (by
    simp only[ud,hg,dy];right;simp only[GJ]at ht;rw[ht];simp)
   split at h
   ·rename_i b' hb;cases h;rw[hb]at hst;exact vS hg ht hst
   ·rename_i hb;cases h;rw[hb]at hst;exact vT hg ht hst
   ·cases h
def q58 {Γ:G} {w} {s s':S} {a:Act} (hgl:Γ.gl=X.gl) (c:AO Γ w s') {y} (hy:XJ y=true) (ht:∀t,y= .tmp t->AG Γ (s.get t) (a.tmps.getD t undef)):
  AG Γ (Ak X.gl s y) (a.eval y):=by
 cases y with
 |tmp t=>exact ht t rfl
 |const v=>exact Vn (y:=.const v) (s:=⟨[],[],fun _=>none,[]⟩) hgl c (fun i=>by simp[yf,look,AG]) hy
 |global g=>exact Vn (y:=.global g) (s:=⟨[],[],fun _=>none,[]⟩) (a:=a) hgl c (fun i=>by simp[yf,look,AG]) hy
 |func f=>exact Vn (y:=.func f) (s:=⟨[],[],fun _=>none,[]⟩) (a:=a) hgl c (fun i=>by simp[yf,look,AG]) hy
def W3 {a:Act} {d:Option Nat} {v} {t:Nat} (h:d≠some t):(a.put d v).tmps.getD t undef=a.tmps.getD t undef:=by
 cases d with
 |none=>rfl
 |some e=>
  have:e≠t:=fun he=>h (by rw[he]);simp only[si,il,Array.getElem?_setIfInBounds_ne this]
def z0Q {a:Act} {t:Nat} {v} (h:t<a.tmps.size):(a.put (some t) v).tmps.getD t undef=v:=by simp[si,h]
def z0d {s s':S} (h:∀k,om s' k=om s k) (k:Key):s'.obj k=s.obj k:=by
 have:=h (.inl k);simp only[om]at this;cases h1:s'.obj k <;> cases h2:s.obj k <;> rw[h1,h2]at this
 ·cases this
 ·cases this
 ·cases this;rfl
def j5 {s s':S} (h:∀k,om s' k=om s k) (t:Nat):look s'.tk t=look s.tk t:=by
 have:=h (.inr t);simp only[om]at this;cases h1:look s'.tk t <;> cases h2:look s.tk t <;> rw[h1,h2]at this
 ·cases this
 ·cases this
 ·cases this;rfl
def AO.om {Γ w s s'} (c:AO Γ w s) (h:∀k,Go.E.om s' k=Go.E.om s k):AO Γ w s':=
 c.congr (z0d h) (yN (j5 h)) (fun t ht=>by rw[wW (j5 h)];exact ht)
def XG {s:S} {k o}:om s (.inl k)=some (.inl o)↔s.obj k=some o:=by simp[om]
def gJ {s:S} {k}:om s (.inl k)=none↔s.obj k=none:=by simp[om]
variable {Γ0:G} {n:Nat} {D:Nat->Prop}
theorem z4d (hP:Aq X.P=true) (K:Canon X ops s0 rs c) (Od:Orders ops rs) (hok:∀o∈ops,Hx n o=true) (hDl:∀j,D j->j<ops.length) (hD:∀i j,D i->dep ops i j->D j) {i:Nat} (hi:i<ops.length) (hiD:¬D i) (z7Q:∀j,dep ops i j->D j)
  {a:Act} {w:World} {Q:Exit->Act->World->Prop} (h:IP X ops s0 rs c Γ0 n D a w):wpOp X.P ops.toArray Q i (IP X ops s0 rs c Γ0 n (fun j=>D j\/j=i)) a w:=by
 obtain⟨Γ,sD,p,g1,g3,hc,hA,hn,hf,hp0,hp1,hp2,ob1,ob2,ew,e0⟩:=h;obtain⟨o,ho⟩:=getOp hi
 -- what is before i is done; what is behind i is not
 have hD':∀k j,(D k\/k=i)->dep ops k j->(D j\/j=i):=by
  rintro k j (h|rfl) hd
  ·exact .inl (hD k j h hd)
  ·exact .inl (z7Q j hd)
 have before:∀j,j≠i->Anc ops j i->D j:=fun j hj ha=>(Anc.closed hD' ha (.inr rfl)).resolve_right hj;have behind:∀k,D k->¬Anc ops i k:=fun k hk ha=>hiD (Anc.closed hD ha hk);have later:∀k,D k->(rs k).t=2->i<k->(rs i).t=0:=by
  intro k hk ht hik;by_cases h0:(rs i).t=0
  ·exact h0
  ·rcases Od.tt k i (hDl k hk) hi ht h0 (by omega)with⟨_,ha⟩|⟨h1,_⟩
   ·exact absurd ha (behind k hk)
   ·omega
 have slot:∀t,looks ops i t->AG Γ ((c i).get t) (a.tmps.getD t undef):=by
  intro t ht;by_cases hw:∃j,j≠i/\writes ops j t
  ·obtain⟨j,hj,hw⟩:=hw;rcases Od.CW i j t hj hw ht with⟨hlt,ha⟩|⟨hlt,ha⟩
   ·rw[K.HF Od hw i hlt (by omega)];exact ew j t (before j hj ha) hw
   ·have hDj:¬D j:=fun h=>behind j h ha;have uniq:∀j',writes ops j' t->j'=j:=fun j' h=>Od.one j' j t h hw;rw[K.Vz (t:=t) i (by omega) (fun j' hj' h=>by have:=uniq j' h;omega)];exact e0 t (fun j' hj' h=>hDj (uniq j' h ▸ hj'))
  ·have nw:∀j',writes ops j' t->j'=i:=fun j' h=>qj fun hne=>hw ⟨j',hne,h⟩;rw[K.Vz (t:=t) i (by omega) (fun j' hj' h=>by have:=nw j' h;omega)];exact e0 t (fun j' hj' h=>hiD (nw j' h ▸ hj'))
 have hko:=hok o (fg ho);simp only[Hx,bg,pj]at hko;have hd:∀t,o.dst=some t->t<a.tmps.size:=by
  intro t ht;have h2:=hko.2;rw[ht]at h2;rw[hn];exact of_decide_eq_true h2
 have zj:∀y∈o.op.operands,AG Γ (Ak X.gl (c i) y) (a.eval y):=fun y hy=>q58 g3 hc (hko.1 y hy) fun t ht=>slot t ⟨o,ho,by
  subst ht;simp only[ud,dy,vk];exact .inl ⟨.tmp t,by simpa using hy,rfl⟩⟩
 have wr:∀j t,writes ops j t->j≠i->o.dst≠some t:=fun j t hw hj hdt=>hj (Od.one j i t hw ⟨o,ho,hdt⟩)
 -- what all kinds of operations share
 have fin:∀{u:Value} {w':World} {Γ':G} {sD':S} {p':Nat},GLe Γ Γ'->Γ'.gl=X.gl->AO Γ' w' sD'->p'<=ops.length->(p'=0\/∃k,p'=k+1/\(rs k).t=2/\(D k\/k=i))->
   (∀k,(D k\/k=i)->(rs k).t=2->k<p')->(∀k j x,(D j\/j=i)->p'<=j->(rs j).t=1->(rs j).om k=some x->om sD' k=some x)->
   (∀k,(∀j,(D j\/j=i)->p'<=j->(rs j).t=1->(rs j).om k=none)->om sD' k=om (c p') k)->
   BI Γ Γ'->AG Γ' (rs i).v u->
   IP X ops s0 rs c Γ0 n (fun j=>D j\/j=i) (a.put o.dst u) w':=by
  intro u w' Γ' sD' p' gle z6y c' q0 q1 q2 qo1 qo2 yv hv;refine⟨Γ',sD',p',g1.trans gle,z6y,c',hA,?_,?_,q0,q1,q2,qo1,qo2,?_,?_⟩
  ·cases o.dst <;> simp[si,hn]
  ·cases o.dst <;> simp[si,hf]
  ·rintro j t (hj|rfl) hw
   ·have hji:j≠i:=fun e=>hiD (e ▸ hj);rw[W3 (wr j t hw hji)];exact(ew j t hj hw).BL yv
   ·obtain⟨o',h1,h2⟩:=hw;rw[ho]at h1;cases h1;rw[h2,z0Q (hd t h2)];exact hv
  ·intro t hw;rw[W3 (fun e=>hw i (.inr rfl) ⟨o,ho,e⟩)];exact(e0 t (fun j hj=>hw j (.inl hj))).BL yv
 -- a value alone
 have value:∀{u:Value} {w':World} {Γ':G},(rs i).t=0->GLe Γ Γ'->Γ'.gl=X.gl->AO Γ' w' sD->BI Γ Γ'->AG Γ' (rs i).v u->
   IP X ops s0 rs c Γ0 n (fun j=>D j\/j=i) (a.put o.dst u) w':=by
  intro u w' Γ' ht gle z6y c' yv hv;refine fin gle z6y c' hp0 ?_ ?_ ?_ ?_ yv hv
  ·rcases hp1 with h|⟨k,h1,h2,h3⟩
   ·exact .inl h
   ·exact .inr ⟨k,h1,h2,.inl h3⟩
  ·rintro k (hk|rfl) htk
   ·exact hp2 k hk htk
   ·omega
  ·rintro k j x (hj|rfl) h1 h2 h3
   ·exact ob1 k j x hj h1 h2 h3
   ·omega
  ·exact fun k h=>ob2 k fun j hj h1 h2=>h j (.inl hj) h1 h2
 -- the phase
 have hpL:(rs i).t≠0->p=BX rs i:=by
  intro hti;have hTD:∀k,(rs k).t=2->k<i->D k:=by
   intro k hk hki;rcases Od.tt k i (by omega) hi hk hti (by omega)with⟨h1,_⟩|⟨_,ha⟩
   ·omega
   ·exact before k (by omega) ha
  have h1:p<=BX rs i:=by
   rcases hp1 with h|⟨k,h1,h2,h3⟩
   ·omega
   ·have hki:k<i:=by
     rcases kn k i with h|h
     ·exact h
     ·rcases Nat.lt_or_eq_of_le h with h|h
      ·exact absurd (later k h3 h2 h) hti
      ·subst h;exact absurd h3 hiD
    have:=WT rs i k hki h2;omega
  have h2:BX rs i<=p:=by
   rcases dI rs i with h|⟨k,h3,h4⟩
   ·omega
   ·have:=Hq rs i;have:=hp2 k (hTD k h4 (by omega)) h4;omega
  omega
 have z6z:∀j,D j->(rs j).t≠0->∀m,p<=m->m<j->(rs m).t≠2:=by
  intro j hj ht m hm hmj htm;rcases Od.tt m j (by have:=hDl j hj;omega) (hDl j hj) htm ht (by omega)with⟨h1,_⟩|⟨_,ha⟩
  ·omega
  ·have:=hp2 m (Anc.closed hD ha hj) htm;omega
 have z67:(rs i).t≠0->∀m,p<=m->m<i->(rs m).t≠2:=by
  intro hti m hm hmi htm;have:=WT rs i m hmi htm;have:=hpL hti;omega
 -- a key is one of an operation's that is done, or stands as at the phase's start
 have z5N:∀k,(∃j x,D j/\p<=j/\(rs j).t=1/\(rs j).om k=some x)\/(∀j,D j->p<=j->(rs j).t=1->(rs j).om k=none):=by
  intro k;by_cases h:∃j x,D j/\p<=j/\(rs j).t=1/\(rs j).om k=some x
  ·exact .inl h
  ·refine .inr fun j h1 h2 h3=>?_;cases hr:(rs j).om k with
   |none=>rfl
   |some x=>exact absurd ⟨j,x,h1,h2,h3,hr⟩ h
 simp only[wpOp,ku,ho];have z6l:∀t,t∈o.looksAt ops.toArray->AG Γ ((c i).get t) (a.tmps.getD t undef):=fun t ht=>slot t ⟨o,ho,ht⟩;rcases K.ok i o ho with⟨hw,ht,hv⟩|⟨hw,z7o⟩
 ·rw[q2C hw z6l];simp only[fj,if_false];exact value ht (.refl Γ) g3 hc (.refl Γ) (by rw[hv];exact q0S)
 ·rw[q2C hw z6l];simp only[if_true];left;rcases z7o with⟨ht,hdo⟩|⟨ht,hdo,hfr⟩|⟨ht,hdo⟩
  ·have hQ:QC ops.length c sD:=fun k ob hk=>by
    rcases z5N (.inl k)with⟨j,y,hj,hpj,htj,hy⟩|hB
    ·have:=K.fresh (hDl j hj) htj hy;rw[gJ,hk j (qx (hDl j hj))]at this;cases this
    ·rw[<-XG,ob2 _ hB,XG];exact hk p hp0
   refine hdo Γ w a sD g3 hc hQ zj _ _ ?_;rintro u w' ⟨Γ',gle,kp,c',hv⟩;exact value ht gle (gle.gl.trans g3) c' kp hv
  ·have hne:(rs i).t≠0:=by omega
   have hpl:=hpL hne;have hpi:p<=i:=by rw[hpl];exact Hq rs i
   obtain⟨co1,co2⟩:(∀k j x,j<i->p<=j->(rs j).t=1->(rs j).om k=some x->om (c i) k=some x)/\(∀k,(∀j,j<i->p<=j->(rs j).t=1->(rs j).om k=none)->om (c i) k=om (c p) k):=by
    refine⟨fun k=>?_,fun k=>?_⟩
    ·rw[hpl];exact(K.obj k i (by omega)).1
    ·rw[hpl];exact(K.obj k i (by omega)).2
   have z53:∀k x,(rs i).om k=some x->om sD k=none:=by
    intro k x hx;have hfi:=K.fresh hi ht hx;rcases z5N k with⟨j,y,hj,hpj,htj,hy⟩|hB
    ·exfalso;rcases kn j i with hlt|hge
     ·have:=co1 k j y hlt hpj htj hy;rw[hfi]at this;cases this
     ·have hij:i≠j:=fun e=>hiD (e ▸ hj);have h1:om (c (i+1)) k=some x:=by rw[K.cs i o ho,XH ht,hx]
      have h2:=K.mono j (by omega) (qx (hDl j hj)) (fun m hm hmj=>z6z j hj (by omega) m (by omega) hmj) h1;have h3:=K.fresh (hDl j hj) htj hy;rw[h2]at h3;cases h3
    ·rw[ob2 k hB];cases z54:om (c p) k with
     |none=>rfl
     |some y=>
      have:=K.mono i hpi (by omega) (z67 hne) z54;rw[hfi]at this;cases this
   have z6U:Compat sD (c i) (c (BX rs i)):=by
    rw[<-hpl];refine⟨fun k x hx z68=>?_,fun k x hx=>?_⟩
    ·rw[<-XG]at hx ⊢;rw[Ne,<-gJ]at z68;rcases z5N (.inl k)with⟨j,y,hj,hpj,htj,hy⟩|hB
     ·have hsD:=ob1 _ j y hj hpj htj hy;have hfj:=K.fresh (hDl j hj) htj hy;rcases kn j i with hlt|hge
      ·have h1:=co1 _ j y hlt hpj htj hy;rw[hx]at h1;cases h1;exact hsD
      ·have:=K.mono j hge (qx (hDl j hj)) (fun m hm hmj=>z6z j hj (by omega) m (by omega) hmj) hx;rw[hfj]at this;cases this
     ·have hsD:=ob2 _ hB;cases z54:om (c p) (.inl k)with
      |some y=>
       have:=K.mono i hpi (by omega) (z67 hne) z54;rw[hx]at this;cases this;rw[hsD,z54]
      |none=>rw[z54]at hsD;exact absurd hsD z68
    ·rw[<-XG]at hx ⊢;rcases z5N (.inl k)with⟨j,y,hj,hpj,htj,hy⟩|hB
     ·exfalso;have hfj:=K.fresh (hDl j hj) htj hy;have:=K.mono j hpj (qx (hDl j hj)) (fun m' hm hmj=>z6z j hj (by omega) m' hm hmj) hx;rw[hfj]at this;cases this
     ·rw[ob2 _ hB];exact hx
   have z69:Uq sD (rs i).lo (rs i).tn:=by
    refine⟨fun k x hx=>?_,fun t x hx=>?_⟩
    ·exact gJ.1 (z53 (.inl k) (.inl x) (by simp[Res.om,hx]))
    ·have:=z53 (.inr t) (.inr x) (by simp[Res.om,hx]);simp only[om,Option.map_eq_none_iff]at this;simp[S.known,this]
   refine hdo Γ w a sD g3 hc z6U z69 zj _ _ ?_;rintro u w' ⟨Γ',gle,kp,c',hv⟩;have hom:∀k,om (sD.add (rs i).lo (rs i).tn) k=match(rs i).om k with|some x=>some x|none=>om sD k:=fun k=>j3 sD _ _ k rfl rfl
   refine fin gle (gle.gl.trans g3) c' hp0 ?_ ?_ ?_ ?_ kp hv
   ·rcases hp1 with h|⟨k,h1,h2,h3⟩
    ·exact .inl h
    ·exact .inr ⟨k,h1,h2,.inl h3⟩
   ·rintro k (hk|rfl) htk
    ·exact hp2 k hk htk
    ·omega
   ·rintro k j x (hj|rfl) h1 h2 h3
    ·rw[hom k];have:=ob1 k j x hj h1 h2 h3;cases hr:(rs i).om k with
     |none=>exact this
     |some y=>rw[z53 k y hr]at this;cases this
    ·rw[hom k,h3]
   ·intro k h;rw[hom k,h i (.inr rfl) hpi ht];exact ob2 k fun j hj h1 h2=>h j (.inl hj) h1 h2
  ·have hne:(rs i).t≠0:=by omega
   have hpl:=hpL hne;have hpi:p<=i:=by rw[hpl];exact Hq rs i
   have z6A:∀j,D j->(rs j).t≠0->j<i:=by
    intro j hj htj;rcases Od.tt i j hi (hDl j hj) ht htj (fun e=>hiD (e ▸ hj))with⟨h1,_⟩|⟨_,ha⟩
    ·exact h1
    ·exact absurd ha (behind j hj)
   have hom:∀k,om (c i) k=om sD k:=by
    intro k;rcases z5N k with⟨j,y,hj,hpj,htj,hy⟩|hB
    ·rw[ob1 k j y hj hpj htj hy];refine(K.obj k i (by omega)).1 j y (z6A j hj (by omega)) (by rw[<-hpl];exact hpj) htj hy
    ·rw[ob2 k hB,hpl];refine(K.obj k i (by omega)).2 fun j hj hpj htj=>?_;rw[<-hpl]at hpj;rcases Od.tt i j hi (by omega) ht (by omega) (by omega)with⟨_,ha⟩|⟨h1,_⟩
     ·exact hB j (before j (by omega) ha) hpj htj
     ·omega
   refine hdo.2.2 Γ w a g3 (hc.om hom) zj _ _ ?_;rintro u w' ⟨Γ',gle,kp,c',hv⟩;refine fin (p':=i+1) gle (gle.gl.trans g3) c' (by omega) (.inr ⟨i,rfl,ht,.inr rfl⟩) ?_ ?_ ?_ kp hv
   ·rintro k (hk|rfl) htk
    ·have:=z6A k hk (by omega);omega
    ·omega
   ·rintro k j x (hj|rfl) h1 h2 h3
    ·have:=z6A j hj (by omega);omega
    ·omega
   ·intro k _;rw[K.cs i o ho,j4 ht]
end
end
section
def q4y {p q} {i:Nat} (hi:p i=false) (hq:∀j,q j=(p j||j==i)):∀n,i<n->(fi n).countP q=(fi n).countP p+1:=by
 have low:∀m,m<=i->(fi m).countP q=(fi m).countP p:=by
  intro m hm;apply List.countP_congr;intro j hj;have:j≠i:=by have:=gq.1 hj;omega
  simp[hq j,this]
 intro n hn
 induction n with
 |zero=>omega
 |succ n ih=>
  rw[List.range_succ,vj,vj];by_cases h:i<n
  ·rw[ih h];have:n≠i:=by omega
   simp only[List.countP_singleton,hq n];have hb:(n==i)=false:=by simpa using this
   rw[hb,xx];omega
  ·have:n=i:=by omega
   subst this;rw[low n (ca _)];simp[hq n,hi]
section
variable {X:Cx} {ops:List Oper} {s0:S} {rs:Nat->Res} {c:Nat->S} {Γ0:G} {n:Nat}
def IP.congr {D D'} (h:∀j,D j↔D' j) {a w} (hi:IP X ops s0 rs c Γ0 n D a w):IP X ops s0 rs c Γ0 n D' a w:=by
 have:D=D':=funext fun j=>propext (h j);rw[<-this];exact hi
def U2 {listed:Array Bool} {i:Nat} (hsz:listed.size=ops.length) (h:i∈nr .any ops.toArray listed):
  i<ops.length/\listed.getD i false=false/\∀j,dep ops i j->listed.getD j false=true:=by
 simp only[nr,iu,mj,gq,bg,ju,ku]at h;obtain⟨h1,h2,h3⟩:=h;refine⟨h1,?_,?_⟩
 ·have:i<listed.size:=by omega
  simpa[qb,this]using h2
 ·rintro j ⟨o,ho,e,he,hb,rfl⟩;rw[ho]at h3;simp only[gm,jh,pj]at h3;have:=h3 e he;rw[hb]at this;simpa using this
def z05 (Od:Orders ops rs) {listed:Array Bool} (hsz:listed.size=ops.length) (h:nr .any ops.toArray listed=[]):∀i,i<ops.length->listed.getD i false=true:=by
 intro i
 induction i using xr with
 |_ i ih=>
  intro hi;cases hl:listed.getD i false with
  |true=>rfl
  |false=>
   exfalso;have:i∈nr .any ops.toArray listed:=by
    simp only[nr,iu,mj,gq,bg,ju,ku];have hs:i<listed.size:=by omega
    refine⟨hi,by simpa[qb,hs]using hl,?_⟩;rw[bm hi];simp only[gm,jh,pj];intro e he;cases hb:ti .any e with
    |false=>rfl
    |true=>
     have hd:dep ops i e.on:=⟨_,bm hi,e,he,hb,rfl⟩;have hlt:=Od.lt i e.on hd;simp only[tc,jt];exact ih e.on hlt (by omega)
   rw[h]at this;cases this
def q3b (hP:Aq X.P=true) (K:Canon X ops s0 rs c) (Od:Orders ops rs) (hok:∀o∈ops,Hx n o=true) {Q}
  (hQ:∀a w,IP X ops s0 rs c Γ0 n (fun j=>j<ops.length) a w->Q .normal a w):
  ∀(fuel:Nat) (listed:Array Bool) (a:Act) (w:World),listed.size=ops.length->fuel+(fi ops.length).countP (fun j=>listed.getD j false)=ops.length->
   (∀i j,i<ops.length->listed.getD i false=true->dep ops i j->listed.getD j false=true)->
   IP X ops s0 rs c Γ0 n (fun j=>j<ops.length/\listed.getD j false=true) a w->wpAny X.P .any ops.toArray Q fuel listed a w:=by
 intro fuel
 induction fuel with
 |zero=>
  intro listed a w hsz hc hcl hI;have yx:∀j,j<ops.length->listed.getD j false=true:=by
   have:(fi ops.length).countP (fun j=>listed.getD j false)=(fi ops.length).length:=by rw[List.length_range];omega
   rw[List.countP_eq_length]at this;exact fun j hj=>this j (gq.2 hj)
  refine⟨?_,hQ a w (hI.congr fun j=>⟨fun h=>h.1,fun h=>⟨h,yx j h⟩⟩)⟩;apply List.eq_nil_iff_forall_not_mem.2;intro i hi;obtain⟨h1,h2,_⟩:=U2 hsz hi;rw[yx i h1]at h2;cases h2
 |succ fuel ih=>
  intro listed a w hsz hc hcl hI;refine⟨fun hr=>hQ a w (hI.congr fun j=>⟨fun h=>h.1,fun h=>⟨h,z05 Od hsz hr j h⟩⟩),fun i hi=>?_⟩;obtain⟨h1,h2,h3⟩:=U2 hsz hi
  have hD:∀i j,(i<ops.length/\listed.getD i false=true)->dep ops i j->(j<ops.length/\listed.getD j false=true):=
   fun i j h hd=>⟨by have:=Od.lt i j hd;omega,hcl i j h.1 h.2 hd⟩
  have z7p:=z4d (Q:=Q) hP K Od hok (fun j h=>h.1) hD h1 (fun h=>by rw[h2]at h;cases h.2) (fun j hd=>⟨by have:=Od.lt i j hd;omega,h3 j hd⟩) hI;refine wpOp_mono ?_ z7p;intro a' w' hI';have z5t:∀j,(listed.setIfInBounds i true).getD j false=(listed.getD j false||j==i):=by
   intro j;simp only[il,Array.getElem?_setIfInBounds];by_cases hji:i=j
   ·subst hji;have:i<listed.size:=by omega
    simp[this]
   ·have:(j==i)=false:=by simpa using fun e=>hji e.symm
    simp[hji,this]
  refine ih _ a' w' (by simp[hsz]) ?_ ?_ (hI'.congr fun j=>?_)
  ·have:=q4y (p:=fun j=>listed.getD j false) (q:=fun j=>(listed.setIfInBounds i true).getD j false) (i:=i) h2 z5t ops.length h1;omega
  ·intro k j hk hlk hd;rw[z5t]at hlk ⊢;rcases uz.1 hlk with h|h
   ·rw[hcl k j hk h hd];rfl
   ·have:k=i:=by simpa using h
    subst this;rw[h3 j hd];rfl
  ·rw[z5t];constructor
   ·rintro(h|rfl)
    ·exact⟨h.1,by rw[h.2];rfl⟩
    ·exact⟨h1,by simp⟩
   ·rintro⟨ha,hb⟩;rcases uz.1 hb with h|h
    ·exact .inl ⟨ha,h⟩
    ·exact .inr (by simpa using h)
def q6U (K:Canon X ops s0 rs c) {a w} (h:At X n Γ0 s0 a w):IP X ops s0 rs c Γ0 n (fun j=>j<ops.length/\(nv ops.length false).getD j false=true) a w:=by
 obtain⟨Γ,g1,g3,hc,hs,hn,hf,hA⟩:=h;have no:∀j,¬(j<ops.length/\(nv ops.length false).getD j false=true):=by
  rintro j ⟨h1,h2⟩;simp[qb,h1]at h2
 exact⟨Γ,s0,0,g1,g3,hc,hA,hn,hf,dx _,.inl rfl,fun k h=>absurd h (no k),fun k j x h=>absurd h (no j),fun k _=>by rw[K.c0],fun j t h=>absurd h (no j),fun t _=>hs t⟩
def q6T (K:Canon X ops s0 rs c) (Od:Orders ops rs) {a w} (h:IP X ops s0 rs c Γ0 n (fun j=>j<ops.length) a w):At X n Γ0 (c ops.length) a w:=by
 obtain⟨Γ,sD,p,g1,g3,hc,hA,hn,hf,hp0,hp1,hp2,ob1,ob2,ew,e0⟩:=h;have hpl:p=BX rs ops.length:=by
  have h1:p<=BX rs ops.length:=by
   rcases hp1 with h|⟨k,h1,h2,h3⟩
   ·omega
   ·have:=WT rs ops.length k h3 h2;omega
  have h2:BX rs ops.length<=p:=by
   rcases dI rs ops.length with h|⟨k,h3,h4⟩
   ·omega
   ·have:=Hq rs ops.length;have:=hp2 k (by omega) h4;omega
  omega
 have hom:∀k,om (c ops.length) k=om sD k:=by
  intro k;by_cases h:∃j x,j<ops.length/\p<=j/\(rs j).t=1/\(rs j).om k=some x
  ·obtain⟨j,x,h1,h2,h3,h4⟩:=h;rw[ob1 k j x h1 h2 h3 h4];exact(K.obj k _ (ca _)).1 j x h1 (by rw[<-hpl];exact h2) h3 h4
  ·have hn:∀j,j<ops.length->p<=j->(rs j).t=1->(rs j).om k=none:=by
    intro j h1 h2 h3;cases hr:(rs j).om k with
    |none=>rfl
    |some x=>exact absurd ⟨j,x,h1,h2,h3,hr⟩ h
   rw[ob2 k hn,hpl];exact(K.obj k _ (ca _)).2 fun j h1 h2 h3=>hn j h1 (by rw[hpl];exact h2) h3
 refine⟨Γ,g1,g3,hc.om hom,fun t=>?_,hn,hf,by rw[K.A _ (ca _)];exact hA⟩;by_cases hw:∃j,j<ops.length/\writes ops j t
 ·obtain⟨j,hj,hw⟩:=hw;rw[K.HF Od hw _ hj (ca _)];exact ew j t hj hw
 ·rw[K.Vz (t:=t) _ (ca _) (fun j hj h=>hw ⟨j,hj,h⟩)];exact e0 t (fun j hj h=>hw ⟨j,hj,h⟩)
def rG (hP:Aq X.P=true) (hm:X.P.follows .mixedOrders=true) {id:Nat} {Ψ} (K:Canon X ops s0 rs c) (Od:Orders ops rs) (hok:∀o∈ops,Hx n o=true) (h:Ψ .normal (c ops.length)):
  DC X n (.region id ops.toArray true) s0 Ψ:=by
 intro Γ0 a w hat;obtain⟨Γ,g1,g3,hc,hs,hn,hf⟩:=hat;have z50:At X n Γ0 s0 a {w with drawn:=w.drawn+1}:=by exact⟨Γ,g1,g3,hc.ext (Ext.drew w),hs,hn,hf⟩
 refine wp_region_any hm ?_;refine q3b hP K Od hok (fun a w hI=>⟨c ops.length,h,q6T K Od hI⟩) ops.length (nv ops.length false) a _ (by simp) ?_ ?_ (q6U K z50)
 ·have:(fi ops.length).countP (fun j=>(nv ops.length false).getD j false)=0:=by
   apply List.countP_eq_zero.2;intro j hj;simp[qb,gq.1 hj]
  omega
 ·intro i j hi hl;simp[qb,hi]at hl
end
end
def Nv (o:Oper):List Nat:=(o.after.toList.filter (ti .any)).map (·.on)
def q8E (acc:List Nat) (ds:List Nat):Nat:=ds.foldl (fun m k=>m|||2^k|||acc.getD k 0) 0
def Na:List Oper->List Nat->List Nat
 | [],acc=>acc
 |o::rest,acc=>Na rest (acc++[q8E acc (Nv o)])
def q28 (ops:List Oper) (j i:Nat):Bool:=((Na ops []).getD i 0).testBit j
def q11 (acc:List Nat) (j:Nat):∀(ds:List Nat) (m:Nat),(ds.foldl (fun m k=>m|||2^k|||acc.getD k 0) m).testBit j=true->m.testBit j=true\/∃k∈ds,j=k\/(acc.getD k 0).testBit j=true
 | [],m,h=>.inl h
 |k::ds,m,h=>by
  rcases q11 acc j ds _ h with h1|⟨k',hk,h1⟩
  ·simp only[Nat.testBit_or,tf,Nat.testBit_two_pow,decide_eq_true_eq]at h1;rcases h1 with(h1|h1)|h1
   ·exact .inl h1
   ·exact .inr ⟨k,by simp,.inl h1.symm⟩
   ·exact .inr ⟨k,by simp,.inr h1⟩
  ·exact .inr ⟨k',by simp[hk],h1⟩
def q8J {ops} {i k:Nat} {o} (ho:ops[i]? =some o) (h:k∈Nv o):dep ops i k:=by
 simp only[Nv,nz,mj]at h;obtain⟨e,⟨h1,h2⟩,h3⟩:=h;exact⟨o,ho,e,by simpa using h1,h2,h3⟩
def q4X {ops} {i k:Nat} {o} (ho:ops[i]? =some o) (h:dep ops i k):k∈Nv o:=by
 obtain⟨o',h1,e,h2,h3,h4⟩:=h;rw[ho]at h1;cases h1;simp only[Nv,nz,mj];exact⟨e,⟨by simpa using h2,h3⟩,h4⟩
def oY (ops:List Oper):∀(rest done:List Oper) (acc:List Nat),ops=done++rest->acc.length=done.length->(∀i j,(acc.getD i 0).testBit j=true->Anc ops j i)->
  ∀i j,((Na rest acc).getD i 0).testBit j=true->Anc ops j i
 | [],_,acc,_,_,h=>h
 |o::rest,done,acc,he,hl,h=>by
  refine oY ops rest (done++[o]) _ (by simp[he]) (by simp[hl]) ?_;intro i j hij;have ho:ops[acc.length]? =some o:=by rw[he,hl];simp
  simp only[bn]at hij;by_cases hi:i<acc.length
  ·rw[fm hi]at hij;exact h i j (by simpa[bn]using hij)
  ·by_cases hi2:i=acc.length
   ·subst hi2;simp only[List.getElem?_concat_length,jh]at hij;rcases q11 acc j _ _ hij with h1|⟨k,hk,h1⟩
    ·simp at h1
    ·have hd:=q8J ho hk;rcases h1 with rfl|h1
     ·exact .one hd
     ·exact .step hd (h k j h1)
   ·rw[gd (by simp;omega)]at hij;simp at hij
def oX {ops} {j i:Nat} (h:q28 ops j i=true):Anc ops j i:=
 oY ops ops [] [] rfl rfl (fun i j h=>by simp at h) i j h
def tmpsOf:List Operand->List Nat
 | []=>[]
 | .tmp t::l=>t::tmpsOf l
 |_::l=>tmpsOf l
def lk (ops:Array Oper) (o:Oper):List Nat:=
 tmpsOf o.op.operands.toList++(match o.guard with
  |some (g,_)=>(match GJ ops g with|some t=>[t] |none=>[])
  |none=>[])
def zQ {t:Nat}:∀{l:List Operand},Operand.tmp t∈l->t∈tmpsOf l
 | [],h=>by simp at h
 |y::l,h=>by
  rcases gr.1 h with h1|h1
  ·subst h1;simp[tmpsOf]
  ·have:=zQ h1;cases y <;> simp[tmpsOf,this]
def q8K {ops} {o:Oper} {t:Nat} (h:t∈o.looksAt ops):t∈lk ops o:=by
 simp only[ud,dy,vk]at h;simp only[lk,dy];rcases h with⟨y,hy,ht⟩|h
 ·left;cases y <;> simp at ht;subst ht;exact zQ hy
 ·right;cases hg:o.guard with
  |none=>simp[hg]at h
  |some x=>
   obtain⟨g,b⟩:=x;simp only[hg]at h ⊢;simp only[GJ];cases hs:(ops[g]?).bind (·.dst)with
   |none=>simp[hs]at h
   |some t'=>simpa[hs]using h
def PE (ops:List Oper) (ts:List Nat):Bool:=
 let m:=Na ops []
 let anc:=fun j i=>(m.getD i 0).testBit j
 let ix:=fi ops.length
 let both:=fun i j=>(decide (j<i)&&anc j i)||(decide (i<j)&&anc i j)
 (ix.all fun i=>match ops[i]? with|some o=>(Nv o).all fun k=>decide (k<i)|none=>true)&&
 (ix.all fun i=>ts.getD i 0 != 2||ix.all fun j=>ts.getD j 0==0||j==i||both i j)&&
 (ix.all fun j=>match(ops[j]?).bind (·.dst)with
  |none=>true
  |some t=>ix.all fun i=>j==i||((match(ops[i]?).bind (·.dst)with|some t'=>t' != t|none=>true)&&
    (match ops[i]? with|some o=> !(lk ops.toArray o).contains t||both i j|none=>true)))
def s00:S:=⟨[],[],fun _=>none,[]⟩
def UT (k:Key):s00.obj k=none:=by cases k <;> rfl
def kop (X:Cx) (md:List (Nat × Nat)) (k:Option Nat) (base s:S) (o:Oper) (K0:V->Prop) (K1:V->List (Key × O)->List (Nat × Option Nat)->Prop) (K2:V->S->Prop):Prop:=
 match k with
 |some 0=>iop X md s00 (Aa o) o (Ak X.gl s) s00 (fun v lo tn=>lo=[]/\tn=[]/\K0 v)\/fop X o (Ak X.gl s) K0
 |some 1=>iop X md base (Aa o) o (Ak X.gl s) s K1
 |some 2=>top X md (Aa o) o (Ak X.gl s) s K2
 |_=>False
def vd (X:Cx) (md:List (Nat × Nat)) (ops:Array Oper) (Φ:S->Prop):List Oper->List Nat->S->S->Prop
 | [],_,_,s=>Φ s
 |o::rest,ts,base,s=>
  match o.guard with
  |none=>kop X md ts.head? base s o (fun v=>vd X md ops Φ rest ts.tail base (s.set o.dst v))
    (fun v lo tn=>FK s lo/\FL s tn/\vd X md ops Φ rest ts.tail base ((s.add lo tn).set o.dst v))
    (fun v s'=>vd X md ops Φ rest ts.tail (s'.set o.dst v) (s'.set o.dst v))
  |some (j,want)=>gx (gv ops s j) want (kop X md ts.head? base s o (fun v=>vd X md ops Φ rest ts.tail base (s.set o.dst v))
         (fun v lo tn=>FK s lo/\FL s tn/\vd X md ops Φ rest ts.tail base ((s.add lo tn).set o.dst v))
         (fun v s'=>vd X md ops Φ rest ts.tail (s'.set o.dst v) (s'.set o.dst v)))
     (vd X md ops Φ rest ts.tail base (s.set o.dst (.tup [])))
section
def lN:Res:=⟨0,.any,[],[],s00⟩
def BH (rl:List Res) (i:Nat):Res:=rl.getD i lN
def cst (s0:S) (ops:List Oper) (rl:List Res):Nat->S
 |0=>s0
 |i+1=>match ops[i]? with
  |some o=>(cst s0 ops rl i).step o (BH rl i)
  |none=>cst s0 ops rl i
def YK {rl q:List Res} {i:Nat} (h:i<rl.length):BH (rl++q) i=BH rl i:=by simp only[BH,bn,fm h]
def QA (rl:List Res) (r:Res):BH (rl++[r]) rl.length=r:=by simp[BH,bn]
def MF {s0 ops} {rl q:List Res}:∀i,i<=rl.length->cst s0 ops (rl++q) i=cst s0 ops rl i
 |0,_=>rfl
 |i+1,h=>by
  simp only[cst];rw[MF i (by omega),YK (by omega)]
def Rm {rl q:List Res}:∀i,i<=rl.length->BX (BH (rl++q)) i=BX (BH rl) i
 |0,_=>rfl
 |i+1,h=>by
  simp only[BX];rw[Rm i (by omega),YK (by omega)]
section
variable {X:Cx} {Q:S->Prop} {ops:List Oper} {s0:S} {Φ:S->Prop} {ts0:List Nat} {md:List (Nat × Nat)}
structure Pre (X:Cx) (Q:S->Prop) (ops:List Oper) (s0:S) (ts0:List Nat) (pre:List Res):Prop where
 ok:∀i o,i<pre.length->ops[i]? =some o->OkR X Q ops.toArray (cst s0 ops pre (BX (BH pre) i)) (cst s0 ops pre i) o (BH pre i)
 kind:∀i,i<pre.length->(BH pre i).t=0\/(BH pre i).t=ts0.getD i 0
 tri:∀i,(BH pre i).t=0\/(BH pre i).t=1\/(BH pre i).t=2
def Pre.snoc {pre:List Res} (p:Pre X Q ops s0 ts0 pre) {o} (ho:ops[pre.length]? =some o) {r:Res}
  (hok:OkR X Q ops.toArray (cst s0 ops pre (BX (BH pre) pre.length)) (cst s0 ops pre pre.length) o r) (hk:r.t=0\/r.t=ts0.getD pre.length 0) (z6B:r.t=0\/r.t=1\/r.t=2):Pre X Q ops s0 ts0 (pre++[r]):=by
 have rl:∀i,i<pre.length->BH (pre++[r]) i=BH pre i:=fun i h=>YK h;have cl:∀i,i<=pre.length->cst s0 ops (pre++[r]) i=cst s0 ops pre i:=fun i h=>MF i h;have tl:∀i,i<=pre.length->BX (BH (pre++[r])) i=BX (BH pre) i:=fun i h=>Rm i h;have z5y:BH (pre++[r]) pre.length=r:=QA pre r;have cases_:∀i,i<(pre++[r]).length->i<pre.length\/i=pre.length:=by intro i h;simp at h;omega
 refine⟨?_,?_,?_⟩
 ·intro i o' hi ho';rcases cases_ i hi with h|rfl
  ·rw[rl i h,cl i (by omega),tl i (by omega),cl _ (by have:=Hq (BH pre) i;omega)];exact p.ok i o' h ho'
  ·rw[ho]at ho';cases ho';rw[z5y,cl _ (ca _),tl _ (ca _),cl _ (Hq _ _)];exact hok
 ·intro i hi;rcases cases_ i hi with h|rfl
  ·rw[rl i h];exact p.kind i h
  ·rw[z5y];exact hk
 ·intro i;by_cases h:i<pre.length
  ·rw[rl i h];exact p.tri i
  ·by_cases h2:i=pre.length
   ·subst h2;rw[z5y];exact z6B
   ·left;simp only[BH,bn];rw[gd (by simp;omega)];rfl
def q2k (hP:Aq X.P=true):∀(rest:List Oper) (ts:List Nat) (pre:List Res) (done:List Oper),
  ops=done++rest->pre.length=done.length->ts=ts0.drop pre.length->Pre X Q ops s0 ts0 pre->
  vd X md ops.toArray Φ rest ts (cst s0 ops pre (BX (BH pre) pre.length)) (cst s0 ops pre pre.length)->
  ∃rl,rl.length=ops.length/\Pre X Q ops s0 ts0 rl/\Φ (cst s0 ops rl ops.length)
 | [],ts,pre,done,he,hl,_,p,h=>by
  have:pre.length=ops.length:=by rw[he,hl];simp
  exact⟨pre,this,p,by rw[<-this];simpa[vd]using h⟩
 |o::rest,ts,pre,done,he,hl,hts,p,h=>by
  have ho:ops[pre.length]? =some o:=by rw[he,hl];simp
  have next:∀(r:Res),Pre X Q ops s0 ts0 (pre++[r])->
    vd X md ops.toArray Φ rest ts.tail (if r.t=2 then(cst s0 ops pre pre.length).step o r else cst s0 ops pre (BX (BH pre) pre.length)) ((cst s0 ops pre pre.length).step o r)->
    ∃rl,rl.length=ops.length/\Pre X Q ops s0 ts0 rl/\Φ (cst s0 ops rl ops.length):=by
   intro r p' hv;refine q2k hP rest ts.tail (pre++[r]) (done++[o]) (by simp[he]) (by simp[hl]) ?_ p' ?_
   ·rw[hts];simp
   ·have e1:cst s0 ops (pre++[r]) (pre++[r]).length=(cst s0 ops pre pre.length).step o r:=by
     rw[bx];simp only[cn,df,Nat.zero_add,cst,ho];rw[MF _ (ca _),QA]
    have e2:cst s0 ops (pre++[r]) (BX (BH (pre++[r])) (pre++[r]).length)=if r.t=2 then(cst s0 ops pre pre.length).step o r else cst s0 ops pre (BX (BH pre) pre.length):=by
     have e3:(pre++[r]).length=pre.length+1:=by simp
     rw[e3];simp only[BX,QA];split
     ·rw[<-e3];exact e1
     ·rw[Rm _ (ca _),MF _ (Hq _ _)]
    rw[e1,e2];exact hv
  have kind:∀k,ts.head? =some k->k=ts0.getD pre.length 0:=by
   intro k hk;rw[hts,wz]at hk;simp[bn,hk]
  simp only[vd]at h;generalize hs:cst s0 ops pre pre.length=s at*
  have skip:Ft ops.toArray s o=some false->vd X md ops.toArray Φ rest ts.tail (cst s0 ops pre (BX (BH pre) pre.length)) (s.set o.dst (.tup []))->
    ∃rl,rl.length=ops.length/\Pre X Q ops s0 ts0 rl/\Φ (cst s0 ops rl ops.length):=by
   intro hw hv;exact next ⟨0,.tup [],[],[],s00⟩ (p.snoc ho (.inl ⟨by rw[hs];exact hw,rfl,rfl⟩) (.inl rfl) (.inl rfl)) hv
  have go:Ft ops.toArray s o=some true->kop X md ts.head? (cst s0 ops pre (BX (BH pre) pre.length)) s o
      (fun v=>vd X md ops.toArray Φ rest ts.tail (cst s0 ops pre (BX (BH pre) pre.length)) (s.set o.dst v))
      (fun v lo tn=>FK s lo/\FL s tn/\vd X md ops.toArray Φ rest ts.tail (cst s0 ops pre (BX (BH pre) pre.length)) ((s.add lo tn).set o.dst v))
      (fun v s'=>vd X md ops.toArray Φ rest ts.tail (s'.set o.dst v) (s'.set o.dst v))->∃rl,rl.length=ops.length/\Pre X Q ops s0 ts0 rl/\Φ (cst s0 ops rl ops.length):=by
   intro hw hr;unfold kop at hr;split at hr
   ·rcases hr with hr|hr
    rotate_left
    ·obtain⟨v,hv,hI⟩:=cB hP hr;have hd:NV X Q o (Ak X.gl s) v:=fun Γ w a s' hgl c _ zj=>hI Γ w a s' c zj;exact next ⟨0,v,[],[],s00⟩ (p.snoc ho (.inr ⟨by rw[hs];exact hw,.inl ⟨rfl,by rw[hs];exact hd⟩⟩) (.inl rfl) (.inl rfl)) hv
    obtain⟨v,lo,tn,⟨rfl,rfl,hv⟩,hI⟩:=MR hP hr
    have hd:NV X Q o (Ak X.gl s) v:=fun Γ w a s' hgl c _ zj=>
     hI Γ w a s' hgl c ⟨fun k o h=>(by rw[UT]at h;cases h),fun k o h=>(by rw[UT]at h;cases h)⟩ ⟨fun k o h=>(by simp[AR]at h),fun t x h=>(by simp[look]at h)⟩ zj
    exact next ⟨0,v,[],[],s00⟩ (p.snoc ho (.inr ⟨by rw[hs];exact hw,.inl ⟨rfl,by rw[hs];exact hd⟩⟩) (.inl rfl) (.inl rfl)) hv
   ·rename_i hk;obtain⟨v,lo,tn,⟨hf1,hf2,hv⟩,hI⟩:=MR hP hr;exact next ⟨1,v,lo,tn,s00⟩ (p.snoc ho (.inr ⟨by rw[hs];exact hw,.inr (.inl ⟨rfl,by rw[hs];exact hI,by rw[hs];exact Vw hf1 hf2⟩)⟩) (.inr (kind 1 hk)) (.inr (.inl rfl))) hv
   ·rename_i hk;obtain⟨v,s1,hv,hT⟩:=Ye hP hr;exact next ⟨2,v,[],[],s1⟩ (p.snoc ho (.inr ⟨by rw[hs];exact hw,.inr (.inr ⟨rfl,by rw[hs];exact hT⟩)⟩) (.inr (kind 2 hk)) (.inr (.inr rfl))) hv
   ·exact hr.elim
  split at h
  ·rename_i hg;exact go (by simp[Ft,hg]) h
  ·rename_i j want hg;cases ht:GJ ops.toArray j with
   |none=>simp[gv,ht,gx]at h
   |some t=>
    simp only[gv,ht]at h;unfold gx at h;split at h
    ·rename_i cb hb;by_cases hbw:cb.toBool=want
     ·exact go (by simp[Ft,hg,ht,hb,hbw]) (h.1 hbw)
     ·exact skip (by simp[Ft,hg,ht,hb,hbw]) (h.2 hbw)
    ·rename_i hb;exact skip (by simp[Ft,hg,ht,hb]) h
    ·exact h.elim
end
section
variable {X:Cx} {n:Nat} {s:S} {Ψ:Exit->S->Prop}
def qB {ops} {i j:Nat} (h:((decide (j<i)&&((Na ops []).getD i 0).testBit j)||(decide (i<j)&&((Na ops []).getD j 0).testBit i))=true):(j<i/\Anc ops j i)\/(i<j/\Anc ops i j):=by
 simp only[tf,bg,decide_eq_true_eq]at h;rcases h with⟨h1,h2⟩|⟨h1,h2⟩
 ·exact .inl ⟨h1,oX h2⟩
 ·exact .inr ⟨h1,oX h2⟩
def Q0 {Q} {ops:List Oper} {ts:List Nat} {s0} {rl:List Res} (hl:rl.length=ops.length) (p:Pre X Q ops s0 ts rl) (h:PE ops ts=true):
  Orders ops (BH rl):=by
 simp only[PE,bg,ej,gq]at h;obtain⟨⟨h1,h2⟩,h3⟩:=h;refine⟨?_,?_,?_,?_⟩
 ·intro i j hd;obtain⟨o,ho,_⟩:=id hd;have hi:i<ops.length:=(bz.1 ho).1;have:=h1 i hi;rw[ho]at this;simp only[ej,decide_eq_true_eq]at this;exact this j (q4X ho hd)
 ·intro i j hi hj ht htj hji;have hk:=p.kind i (by omega);have hti:ts.getD i 0=2:=by rcases hk with h|h <;> omega
  have z7R:ts.getD j 0≠0:=by
   rcases p.kind j (by omega)with h|h
   ·exact absurd h htj
   ·rw[<-h];exact htj
  have:=h2 i hi;rw[hti]at this;simp only[bne_self_eq_false,jt,ej,gq]at this;have:=this j hj;have e1:(ts.getD j 0==0)=false:=by simpa using z7R
  have e2:(j==i)=false:=by simpa using hji
  rw[e1,e2]at this;simp only[jt]at this;exact qB this
 ·rintro i j t hji ⟨o,ho,hd⟩ ⟨o',ho',hl'⟩;have hj:j<ops.length:=(bz.1 ho).1;have hi:i<ops.length:=(bz.1 ho').1;have:=h3 j hj;rw[ho]at this;simp only[gj,hd,ej,gq]at this;have:=this i hi;have e2:(j==i)=false:=by simpa using hji
  rw[e2,ho']at this;have e3:(lk ops.toArray o').contains t=true:=by simpa using q8K hl'
  simp only[jt,bg,e3,tc]at this;exact qB this.2
 ·rintro i j t ⟨o,ho,hd⟩ ⟨o',ho',hd'⟩;refine qj fun hne=>?_;have hi:i<ops.length:=(bz.1 ho).1;have hj:j<ops.length:=(bz.1 ho').1;have:=h3 j hj;rw[ho']at this;simp only[gj,hd',ej,gq]at this;have:=this i hi;have e2:(j==i)=false:=by simpa using fun e=>hne e.symm
  rw[e2,ho]at this;simp[hd]at this
def q4B (hP:Aq X.P=true) (hm:X.P.follows .mixedOrders=true) (md:List (Nat × Nat)) {id:Nat} {l:List Oper} (ts:List Nat) (hok:l.all (Hx n)=true) (z6C:PE l ts=true)
  (h:vd X md l.toArray (fun s'=>Ψ .normal s') l ts s s):DC X n (.region id l.toArray true) s Ψ:=by
 have p0:Pre X (fun _=>True) l s ts []:=⟨fun i o h=>by simp at h,fun i h=>by simp at h,fun i=>.inl (by simp[BH,lN])⟩;obtain⟨rl,hl,p,hΦ⟩:=q2k hP l ts [] [] rfl rfl (by simp) p0 h;have K:Canon X l s (BH rl) (cst s l rl):=⟨rfl,fun i o ho=>by simp only[cst,ho],fun i o ho=>(p.ok i o (by rw[hl];exact(bz.1 ho).1) ho).mono fun _ _=>trivial,p.tri⟩;exact rG hP hm K (Q0 hl p z6C) (fun o ho=>ej.1 hok o ho) hΦ
end
end
section
def tK:Nat->Nat
 |3=>2
 |4=>0
 |n=>n
def sF (F:List Key) (s:S):S:=⟨[],F.filterMap fun k=>(s.obj k).map fun o=>(k,o),fun _=>none,[]⟩
def q8x {F:List Key} {s:S} {k o}:AR (F.filterMap fun k=>(s.obj k).map fun o=>(k,o)) k=some o->k∈F/\s.obj k=some o:=by
 induction F with
 |nil=>intro h;simp[AR]at h
 |cons f F ih=>
  intro h;simp only[List.filterMap_cons]at h;cases hf:s.obj f with
  |none=>
   rw[hf]at h;exact⟨fq _ (ih h).1,(ih h).2⟩
  |some o'=>
   rw[hf]at h;simp only[gm,AR]at h;by_cases e:f=k
   ·subst e;simp at h;subst h;exact⟨List.mem_cons_self ..,hf⟩
   ·have:(if f=k then some o' else AR (F.filterMap fun k=>(s.obj k).map fun o=>(k,o)) k)=some o:=by simpa using h
    rw[if_neg e]at this;exact⟨fq _ (ih this).1,(ih this).2⟩
def QF (F:List Key) (s s':S):Prop:=∀k∈F,∀o,s.obj k=some o->s'.obj k=some o
def YO {F} {s:S} {k o} (h:(sF F s).obj k=some o):k∈F/\s.obj k=some o:=by
 unfold jj sF Bt at h;dsimp only at h;cases hl:AR (F.filterMap fun k=>(s.obj k).map fun o=>(k,o)) k with
 |some o'=>
  rw[hl]at h;cases h;exact q8x hl
 |none=>
  rw[hl]at h;cases k <;> cases h
def JS (X:Cx) (F:List Key) (md:List (Nat × Nat)) (k:Option Nat) (base s:S) (o:Oper) (K0:V->Prop) (K1:V->List (Key × O)->List (Nat × Option Nat)->Prop) (K2:V->S->Prop):Prop:=
 match k with
 |some 4=>iop X md (sF F s) (Aa o) o (Ak X.gl s) (sF F s) (fun v lo tn=>lo=[]/\tn=[]/\K0 v)
 |some 3=>top X md (Aa o) o (Ak X.gl s) s fun v s'=>(∀k∈F,s'.obj k=s.obj k)/\K2 v s'
 |some 2=>False
 |k=>kop X md k base s o K0 K1 K2
def vdF (X:Cx) (F:List Key) (md:List (Nat × Nat)) (ops:Array Oper) (Φ:S->Prop):List Oper->List Nat->S->S->Prop
 | [],_,_,s=>Φ s
 |o::rest,ts,base,s=>
  match o.guard with
  |none=>JS X F md ts.head? base s o (fun v=>vdF X F md ops Φ rest ts.tail base (s.set o.dst v))
    (fun v lo tn=>FK s lo/\FL s tn/\vdF X F md ops Φ rest ts.tail base ((s.add lo tn).set o.dst v))
    (fun v s'=>vdF X F md ops Φ rest ts.tail (s'.set o.dst v) (s'.set o.dst v))
  |some (j,want)=>gx (gv ops s j) want (JS X F md ts.head? base s o (fun v=>vdF X F md ops Φ rest ts.tail base (s.set o.dst v))
         (fun v lo tn=>FK s lo/\FL s tn/\vdF X F md ops Φ rest ts.tail base ((s.add lo tn).set o.dst v))
         (fun v s'=>vdF X F md ops Φ rest ts.tail (s'.set o.dst v) (s'.set o.dst v)))
     (vdF X F md ops Φ rest ts.tail base (s.set o.dst (.tup [])))
section
variable {X:Cx} {F:List Key} {ops:List Oper} {s0:S} {Φ:S->Prop} {ts0:List Nat} {md:List (Nat × Nat)}
structure GX (X:Cx) (F:List Key) (ops:List Oper) (s0:S) (ts0:List Nat) (pre:List Res):Prop where
 ok:∀i o,i<pre.length->ops[i]? =some o->OkR X (QF F (cst s0 ops pre i)) ops.toArray (cst s0 ops pre (BX (BH pre) i)) (cst s0 ops pre i) o (BH pre i)
 kind:∀i,i<pre.length->(BH pre i).t=0\/(BH pre i).t=tK (ts0.getD i 0)
 tri:∀i,(BH pre i).t=0\/(BH pre i).t=1\/(BH pre i).t=2
 yv:∀i,i<pre.length->(BH pre i).t=2->∀k∈F,(BH pre i).s1.obj k=(cst s0 ops pre i).obj k
def GX.snoc {pre:List Res} (p:GX X F ops s0 ts0 pre) {o} (ho:ops[pre.length]? =some o) {r:Res}
  (hok:OkR X (QF F (cst s0 ops pre pre.length)) ops.toArray (cst s0 ops pre (BX (BH pre) pre.length)) (cst s0 ops pre pre.length) o r) (hk:r.t=0\/r.t=tK (ts0.getD pre.length 0)) (z6B:r.t=0\/r.t=1\/r.t=2)
  (z7q:r.t=2->∀k∈F,r.s1.obj k=(cst s0 ops pre pre.length).obj k):GX X F ops s0 ts0 (pre++[r]):=by
 have rl:∀i,i<pre.length->BH (pre++[r]) i=BH pre i:=fun i h=>YK h;have cl:∀i,i<=pre.length->cst s0 ops (pre++[r]) i=cst s0 ops pre i:=fun i h=>MF i h;have tl:∀i,i<=pre.length->BX (BH (pre++[r])) i=BX (BH pre) i:=fun i h=>Rm i h;have z5y:BH (pre++[r]) pre.length=r:=QA pre r;have cases_:∀i,i<(pre++[r]).length->i<pre.length\/i=pre.length:=by intro i h;simp at h;omega
 refine⟨?_,?_,?_,?_⟩
 ·intro i o' hi ho';rcases cases_ i hi with h|rfl
  ·rw[rl i h,cl i (by omega),tl i (by omega),cl _ (by have:=Hq (BH pre) i;omega)];exact p.ok i o' h ho'
  ·rw[ho]at ho';cases ho';rw[z5y,cl _ (ca _),tl _ (ca _),cl _ (Hq _ _)];exact hok
 ·intro i hi;rcases cases_ i hi with h|rfl
  ·rw[rl i h];exact p.kind i h
  ·rw[z5y];exact hk
 ·intro i;by_cases h:i<pre.length
  ·rw[rl i h];exact p.tri i
  ·by_cases h2:i=pre.length
   ·subst h2;rw[z5y];exact z6B
   ·left;simp only[BH,bn];rw[gd (by simp;omega)];rfl
 ·intro i hi ht;rcases cases_ i hi with h|rfl
  ·rw[rl i h,cl i (by omega)];rw[rl i h]at ht;exact p.yv i h ht
  ·rw[z5y,cl _ (ca _)];rw[z5y]at ht;exact z7q ht
def q2l (hP:Aq X.P=true):∀(rest:List Oper) (ts:List Nat) (pre:List Res) (done:List Oper),
  ops=done++rest->pre.length=done.length->ts=ts0.drop pre.length->GX X F ops s0 ts0 pre->
  vdF X F md ops.toArray Φ rest ts (cst s0 ops pre (BX (BH pre) pre.length)) (cst s0 ops pre pre.length)->
  ∃rl,rl.length=ops.length/\GX X F ops s0 ts0 rl/\Φ (cst s0 ops rl ops.length)
 | [],ts,pre,done,he,hl,_,p,h=>by
  have:pre.length=ops.length:=by rw[he,hl];simp
  exact⟨pre,this,p,by rw[<-this];simpa[vdF]using h⟩
 |o::rest,ts,pre,done,he,hl,hts,p,h=>by
  have ho:ops[pre.length]? =some o:=by rw[he,hl];simp
  have next:∀(r:Res),GX X F ops s0 ts0 (pre++[r])->
    vdF X F md ops.toArray Φ rest ts.tail (if r.t=2 then(cst s0 ops pre pre.length).step o r else cst s0 ops pre (BX (BH pre) pre.length)) ((cst s0 ops pre pre.length).step o r)->
    ∃rl,rl.length=ops.length/\GX X F ops s0 ts0 rl/\Φ (cst s0 ops rl ops.length):=by
   intro r p' hv;refine q2l hP rest ts.tail (pre++[r]) (done++[o]) (by simp[he]) (by simp[hl]) ?_ p' ?_
   ·rw[hts];simp
   ·have e1:cst s0 ops (pre++[r]) (pre++[r]).length=(cst s0 ops pre pre.length).step o r:=by
     rw[bx];simp only[cn,df,Nat.zero_add,cst,ho];rw[MF _ (ca _),QA]
    have e2:cst s0 ops (pre++[r]) (BX (BH (pre++[r])) (pre++[r]).length)=if r.t=2 then(cst s0 ops pre pre.length).step o r else cst s0 ops pre (BX (BH pre) pre.length):=by
     have e3:(pre++[r]).length=pre.length+1:=by simp
     rw[e3];simp only[BX,QA];split
     ·rw[<-e3];exact e1
     ·rw[Rm _ (ca _),MF _ (Hq _ _)]
    rw[e1,e2];exact hv
  have kind:∀k,ts.head? =some k->k=ts0.getD pre.length 0:=by
   intro k hk;rw[hts,wz]at hk;simp[bn,hk]
  simp only[vdF]at h;generalize hs:cst s0 ops pre pre.length=s at*
  have skip:Ft ops.toArray s o=some false->vdF X F md ops.toArray Φ rest ts.tail (cst s0 ops pre (BX (BH pre) pre.length)) (s.set o.dst (.tup []))->
    ∃rl,rl.length=ops.length/\GX X F ops s0 ts0 rl/\Φ (cst s0 ops rl ops.length):=by
   intro hw hv;exact next ⟨0,.tup [],[],[],s00⟩ (p.snoc ho (.inl ⟨by rw[hs];exact hw,rfl,rfl⟩) (.inl rfl) (.inl rfl) (fun e=>by cases e)) hv
  have go:Ft ops.toArray s o=some true->JS X F md ts.head? (cst s0 ops pre (BX (BH pre) pre.length)) s o
      (fun v=>vdF X F md ops.toArray Φ rest ts.tail (cst s0 ops pre (BX (BH pre) pre.length)) (s.set o.dst v))
      (fun v lo tn=>FK s lo/\FL s tn/\vdF X F md ops.toArray Φ rest ts.tail (cst s0 ops pre (BX (BH pre) pre.length)) ((s.add lo tn).set o.dst v))
      (fun v s'=>vdF X F md ops.toArray Φ rest ts.tail (s'.set o.dst v) (s'.set o.dst v))->∃rl,rl.length=ops.length/\GX X F ops s0 ts0 rl/\Φ (cst s0 ops rl ops.length):=by
   intro hw hr;unfold JS at hr;split at hr
   ·obtain⟨v,lo,tn,⟨rfl,rfl,hv⟩,hI⟩:=MR hP hr
    have hd:NV X (QF F s) o (Ak X.gl s) v:=fun Γ w a s' hgl c hq zj=>
     hI Γ w a s' hgl c ⟨fun k o h _=>hq k (YO h).1 o (YO h).2,fun k o h=>hq k (YO h).1 o (YO h).2⟩ ⟨fun k o h=>(by simp[AR]at h),fun t x h=>(by simp[look]at h)⟩ zj
    exact next ⟨0,v,[],[],s00⟩ (p.snoc ho (.inr ⟨by rw[hs];exact hw,.inl ⟨rfl,by rw[hs];exact hd⟩⟩) (.inl rfl) (.inl rfl) (fun e=>by cases e)) hv
   ·rename_i hk;obtain⟨v,s1,⟨hkp,hv⟩,hT⟩:=Ye hP hr;exact next ⟨2,v,[],[],s1⟩ (p.snoc ho (.inr ⟨by rw[hs];exact hw,.inr (.inr ⟨rfl,by rw[hs];exact hT⟩)⟩) (.inr (by rw[<-kind 3 hk];rfl)) (.inr (.inr rfl)) (fun _ k hk=>by rw[hs];exact hkp k hk)) hv
   ·exact hr.elim
   ·rename_i hn4 hn3 hn2;unfold kop at hr;split at hr
    ·rcases hr with hr|hr
     rotate_left
     ·obtain⟨v,hv,hI⟩:=cB hP hr;have hd:NV X (QF F s) o (Ak X.gl s) v:=fun Γ w a s' hgl c _ zj=>hI Γ w a s' c zj;exact next ⟨0,v,[],[],s00⟩ (p.snoc ho (.inr ⟨by rw[hs];exact hw,.inl ⟨rfl,by rw[hs];exact hd⟩⟩) (.inl rfl) (.inl rfl) (fun e=>by cases e)) hv
     obtain⟨v,lo,tn,⟨rfl,rfl,hv⟩,hI⟩:=MR hP hr
     have hd:NV X (QF F s) o (Ak X.gl s) v:=fun Γ w a s' hgl c _ zj=>
      hI Γ w a s' hgl c ⟨fun k o h=>(by rw[UT]at h;cases h),fun k o h=>(by rw[UT]at h;cases h)⟩ ⟨fun k o h=>(by simp[AR]at h),fun t x h=>(by simp[look]at h)⟩ zj
     exact next ⟨0,v,[],[],s00⟩ (p.snoc ho (.inr ⟨by rw[hs];exact hw,.inl ⟨rfl,by rw[hs];exact hd⟩⟩) (.inl rfl) (.inl rfl) (fun e=>by cases e)) hv
    ·rename_i hk;obtain⟨v,lo,tn,⟨hf1,hf2,hv⟩,hI⟩:=MR hP hr;exact next ⟨1,v,lo,tn,s00⟩ (p.snoc ho (.inr ⟨by rw[hs];exact hw,.inr (.inl ⟨rfl,by rw[hs];exact hI,by rw[hs];exact Vw hf1 hf2⟩)⟩) (.inr (by rw[<-kind 1 hk];rfl)) (.inr (.inl rfl)) (fun e=>by cases e)) hv
    ·rename_i hk;exact absurd hk hn2
    ·exact hr.elim
  split at h
  ·rename_i hg;exact go (by simp[Ft,hg]) h
  ·rename_i j want hg;cases ht:GJ ops.toArray j with
   |none=>simp[gv,ht,gx]at h
   |some t=>
    simp only[gv,ht]at h;unfold gx at h;split at h
    ·rename_i cb hb;by_cases hbw:cb.toBool=want
     ·exact go (by simp[Ft,hg,ht,hb,hbw]) (h.1 hbw)
     ·exact skip (by simp[Ft,hg,ht,hb,hbw]) (h.2 hbw)
    ·rename_i hb;exact skip (by simp[Ft,hg,ht,hb]) h
    ·exact h.elim
def GX.same {rl:List Res} (hl:rl.length=ops.length) (p:GX X F ops s0 ts0 rl) {k} (hk:k∈F) (hs:s0.obj k≠none):∀i,i<=ops.length->(cst s0 ops rl i).obj k=s0.obj k
 |0,_=>rfl
 |i+1,hi=>by
  have ih:=GX.same hl p hk hs i (by omega);obtain⟨o,ho⟩:=getOp (ops:=ops) (i:=i) (by omega);have hc:cst s0 ops rl (i+1)=(cst s0 ops rl i).step o (BH rl i):=by simp only[cst,ho]
  have ob:∀{s s':S},om s' (.inl k)=om s (.inl k)->s'.obj k=s.obj k:=fun{s s'} h=>by
   simp only[om]at h;cases h1:s'.obj k <;> cases h2:s.obj k <;> rw[h1,h2]at h
   ·cases h
   ·cases h
   ·cases h;rfl
  rw[hc];rcases p.tri i with ht|ht|ht
  ·rw[ob (congrFun (gL ht) _)];exact ih
  ·refine Eq.trans (ob ?_) ih;rw[XH ht];cases hr:(BH rl i).om (.inl k)with
   |none=>rfl
   |some x=>
    exfalso;rcases p.ok i o (by omega) ho with h1|⟨_,h1|h1|h1⟩
    ·omega
    ·omega
    ·simp only[Res.om,fa]at hr;obtain⟨y,hr,_⟩:=hr;have:=h1.2.2.l k y hr;rw[ih]at this;exact hs this
    ·omega
  ·rw[ob (congrFun (j4 ht) _),p.yv i (by omega) ht k hk];exact ih
end
def z4s (ts:List Nat) (i:Nat):(ts.map tK).getD i 0=tK (ts.getD i 0):=by
 simp only[bn,di];cases ts[i]? <;> rfl
section
variable {X:Cx} {n:Nat} {s:S} {Ψ:Exit->S->Prop}
def q4C (hP:Aq X.P=true) (hm:X.P.follows .mixedOrders=true) (F:List Key) (md:List (Nat × Nat)) {id:Nat} {l:List Oper} (ts:List Nat) (hok:l.all (Hx n)=true) (z6C:PE l (ts.map tK)=true)
  (hF:∀k∈F,s.obj k≠none) (h:vdF X F md l.toArray (fun s'=>Ψ .normal s') l ts s s):DC X n (.region id l.toArray true) s Ψ:=by
 have p0:GX X F l s ts []:=⟨fun i o h=>by simp at h,fun i h=>by simp at h,fun i=>.inl (by simp[BH,lN]),fun i h=>by simp at h⟩;obtain⟨rl,hl,p,hΦ⟩:∃rl,rl.length=l.length/\GX X F l s ts rl/\Ψ .normal (cst s l rl l.length):=q2l hP l ts [] [] rfl rfl (by simp) p0 h
 have K:Canon X l s (BH rl) (cst s l rl):=⟨rfl,fun i o ho=>by simp only[cst,ho],fun i o ho=>by
  have hi:i<l.length:=(bz.1 ho).1;refine(p.ok i o (by rw[hl];exact hi) ho).mono fun s' hq k hk ob hob=>hq k ob fun q hqn=>?_;rw[p.same hl hk (hF k hk) q hqn];rw[p.same hl hk (hF k hk) i (by omega)]at hob;exact hob,p.tri⟩
 have pq:Pre X (fun _=>False) l s (ts.map tK) rl:=⟨fun i o hi ho=>(p.ok i o hi ho).mono fun _ h=>h.elim,fun i hi=>by rw[z4s];exact p.kind i hi,p.tri⟩;exact rG hP hm K (Q0 hl pq z6C) (fun o ho=>ej.1 hok o ho) hΦ
end
end
section
def iI (P:Program) (T:TypeId) (τ:Ty) (op:BinOp) (x y:V) (K:V->Prop):Prop:=
 match τ with
 | .int k=>x.isInt k/\(if BinOp.Kq op then y.FA/\Mz op k x.toInt y.toInt K else y.isInt k/\Ju op k x.toInt y.toInt K)
 | .bool=>x.isBool/\y.isBool/\(match op with
   | .eql=>K (.d .bool (.bool (x.toBool==y.toBool)))
   | .neq=>K (.d .bool (.bool (!(x.toBool==y.toBool))))
   |_=>False)
 | .str=>x.isStr/\y.isStr/\NC op x.toStr y.toStr K
 | .ptr=>(match op,x.HS,y.HS with
   | .eql,some a,some true=>K (.d .bool (.bool a))
   | .neq,some a,some true=>K (.d .bool (.bool (!a)))
   | .eql,some true,some b=>K (.d .bool (.bool b))
   | .neq,some true,some b=>K (.d .bool (.bool (!b)))
   |_,_,_=>False)
 | .arr n e=>Cq P T=true/\x.DF (.arr n e)/\y.DF (.arr n e)/\Jg op (rq x.toC y.toC) K
 | .struct sz os fs=>Cq P T=true/\x.DF (.struct sz os fs)/\y.DF (.struct sz os fs)/\Jg op (rq x.toC y.toC) K
 | .slice _ _=>(match op,x.SY,y with
   | .eql,some r,.ym=>K (KC r)
   | .neq,some r,.ym=>K (KC (r.map (!·)))
   |_,_,_=>False)
 |_=>False
section
variable {P:Program} {T:TypeId} {x y:V} {K:V->Prop} {op:BinOp}
def z0T:PU P op T x y K=iI P T (ty P T) op x y K:=rfl
def z0R {k}:iI P T (.int k) op x y K=(x.isInt k/\(if BinOp.Kq op then y.FA/\Mz op k x.toInt y.toInt K else y.isInt k/\Ju op k x.toInt y.toInt K)):=rfl
def z0S {eb:Nat} {e} {c:C} {eb':Nat} {e'}:iI P T (.slice eb e) .eql (.d (.slice eb' e') c) .ym K=K (KC (bif c.elems.isEmpty then none else some false)):=rfl
end
def AB (n:Int):(C.int n).toInt=n:=rfl
def Ah (b:Bool):(C.bool b).toBool=b:=rfl
def AJ (cs:List C):(C.slice cs).elems=cs:=rfl
def DQ (cs:List C):(C.agg cs).elems=cs:=rfl
def Fa (cs:List C) (i:Nat):(C.agg cs).get i=cs.getD i .nil:=rfl
def q6v (i j:Nat) (x:V) (e:List (Nat × V)) (l:List (Key × O)) (A:Key->Option O) (tk:List (Nat × Option Nat)):(S.mk ((i,x)::e) l A tk).get j=if i=j then x else(S.mk e l A tk).get j:=by
 simp only[yf,look];split <;> rfl
def z3M (e:List (Nat × V)) (l:List (Key × O)) (A:Key->Option O) (tk:List (Nat × Option Nat)) (d:Nat) (x:V):(S.mk e l A tk).set (some d) x=S.mk (PT e d x) l A tk:=rfl
def q25 (e:List (Nat × V)) (l:List (Key × O)) (A:Key->Option O) (tk:List (Nat × Option Nat)) (lo:List (Key × O)) (tn:List (Nat × Option Nat)):(S.mk e l A tk).add lo tn=S.mk e (lo++l) A (tn++tk):=rfl
def q8q (e:List (Nat × V)) (l:List (Key × O)) (A:Key->Option O) (tk:List (Nat × Option Nat)) (t:Nat):(S.mk e l A tk).live t=Du tk t:=rfl
def q8p (u:Nat) (x:Option Nat) (tk:List (Nat × Option Nat)) (t:Nat):Du ((u,x)::tk) t=if u=t then x else Du tk t:=by
 simp only[Du,look];by_cases h:u=t
 ·simp only[if_pos h];cases x <;> rfl
 ·simp only[if_neg h]
def q7b (e:List (Nat × V)) (l:List (Key × O)) (A:Key->Option O) (t:Nat):(S.mk e l A []).known t=false:=rfl
def z4w (τ:Ty) (c:C):(V.d τ c).toInt=c.toInt:=rfl
def q7a (k:IntKind):(Ty.int k).known=true:=rfl
def q6V (k:IntKind):(Ty.int k).isAgg=false:=rfl
def q6W (n:Nat) (e:Ty):(Ty.slice n e).isAgg=false:=rfl
def q9e (d:Nat):Br [] d=0:=rfl
def vcR (X:Cx) (md:List (Nat × Nat)) (ops:Array Oper) (Φ:S->Prop) (l:List Oper) (s:S):Prop:=vc X md ops Φ l s
def vcN (X:Cx) (md:List (Nat × Nat)) (ops:Array Oper) (Φ:S->Prop):List Unit->List Oper->S->Prop
 |_,[],s=>Φ s
 | [],l,s=>vcR X md ops Φ l s
 |_::n,o::rest,s=>match o.guard with
  |none=>sop X md (Aa o) o s fun v s'=>vcN X md ops Φ n rest (s'.set o.dst v)
  |some (j,want)=>gx (gv ops s j) want (sop X md (Aa o) o s fun v s'=>vcN X md ops Φ n rest (s'.set o.dst v)) (vcN X md ops Φ n rest (s.set o.dst (.tup [])))
section
variable {X:Cx} {md:List (Nat × Nat)} {ops:Array Oper} {Φ:S->Prop} {o:Oper} {rest:List Oper} {s:S}
def Bg.mono {f xs A A' v L} (h:Bg X f xs A v L) (hA:∀k o,A k=some o->A' k=some o):Bg X f xs A' v L:=
 fun A'' Γ w args hAA=>h A'' Γ w args fun k o hk=>hAA k o (hA k o hk)
end
section
variable {X:Cx} {md:List (Nat × Nat)} {ops:Array Oper} {Φ:S->Prop} {o:Oper} {rest:List Oper} {ts:List Nat} {base s:S}
end
end
section
section
variable {X:Cx} {md:List (Nat × Nat)} {ops:Array Oper} {Φ:S->Prop} {n:List Unit} {u:Unit} {o:Oper} {rest:List Oper} {ts:List Nat} {base s s':S} {dst:Option Nat} {lo:List (Key × O)} {tn:List (Nat × Option Nat)} {d:Option Nat} {op:Op} {T:TypeId} {ps:String} {af:Array Edge} {j:Nat} {want:Bool}
def Ew {x} {p q:Prop} (h:x= .d .bool (.bool true)):gx x true p q=p:=by subst h;exact EJ p q
def Ev {x} {p q:Prop} (h:x= .d .bool (.bool true)):gx x false p q=q:=by subst h;exact EI p q
def Eu {x} {p q:Prop} (h:x= .d .bool (.bool false)):gx x true p q=q:=by subst h;exact EH p q
def Er {x} {p q:Prop} (h:x= .d .bool (.bool false)):gx x false p q=p:=by subst h;exact EG p q
def Ey {x} {want:Bool} {p q:Prop} (h:x= .tup []):gx x want p q=q:=by subst h;rfl
def vcK (X:Cx) (md:List (Nat × Nat)) (ops:Array Oper) (Φ:S->Prop) (rest:List Oper) (dst:Option Nat) (v:V) (s:S):Prop:=vc X md ops Φ rest (s.set dst v)
@[go_sem] theorem z5q:vc X md ops Φ [] s=Φ s:=id rfl
@[go_sem] theorem z5p:vc X md ops Φ (⟨d,op,T,ps,af,none⟩::rest) s=sop X md (Aa ⟨d,op,T,ps,af,none⟩) ⟨d,op,T,ps,af,none⟩ s (vcK X md ops Φ rest d):=by simp only[vc];exact id rfl
@[go_sem] theorem z5h (τ:Ty) (c:C):vcK X md ops Φ rest dst (.d τ c) s=vc X md ops Φ rest (s.set dst (.d τ c)):=id rfl
@[go_sem] theorem z5k (eb:Nat) (e:Ty) (cs:List C) (t:Nat):vcK X md ops Φ rest dst (.sl eb e cs t) s=vc X md ops Φ rest (s.set dst (.sl eb e cs t)):=id rfl
@[go_sem] theorem z5i (eb:Nat) (e:Ty):vcK X md ops Φ rest dst (.emp eb e) s=vc X md ops Φ rest (s.set dst (.emp eb e)):=id rfl
@[go_sem] theorem z5j:vcK X md ops Φ rest dst .ym s=vc X md ops Φ rest (s.set dst .ym):=id rfl
@[go_sem] theorem z5g (τ:Ty) (c:C):vcK X md ops Φ rest dst (.yn τ c) s=vc X md ops Φ rest (s.set dst (.yn τ c)):=id rfl
@[go_sem] theorem z5l (τ:Ty):vcK X md ops Φ rest dst (.top τ) s=vc X md ops Φ rest (s.set dst (.top τ)):=id rfl
def nL (X:Cx) (md:List (Nat × Nat)) (ops:Array Oper) (Φ:S->Prop) (n:List Unit) (rest:List Oper) (dst:Option Nat) (v:V) (s:S):Prop:=vcN X md ops Φ n rest (s.set dst v)
@[go_sem] theorem z5n:vcN X md ops Φ n [] s=Φ s:=by simp only[vcN]
@[go_sem] theorem z5o:vcN X md ops Φ [] (o::rest) s=vcR X md ops Φ (o::rest) s:=by simp only[vcN]
@[go_sem] theorem z5m:vcN X md ops Φ (u::n) (⟨d,op,T,ps,af,none⟩::rest) s=sop X md (Aa ⟨d,op,T,ps,af,none⟩) ⟨d,op,T,ps,af,none⟩ s (nL X md ops Φ n rest d):=by simp only[vcN];exact id rfl
@[go_sem] theorem z5e (τ:Ty) (c:C):nL X md ops Φ n rest dst (.d τ c) s=vcN X md ops Φ n rest (s.set dst (.d τ c)):=id rfl
@[go_sem] theorem z5f (vs:List V):nL X md ops Φ n rest dst (.tup vs) s=vcN X md ops Φ n rest (s.set dst (.tup vs)):=id rfl
end
end
section
mutual
def C.wf:Ty->C->Prop
 | .int k,c=>c= .int c.toInt/\k.min<=c.toInt/\c.toInt<=k.max
 | .bool,c=>c= .bool c.toBool
 | .str,c=>c= .str c.toStr/\c.toStr.length<=140737488355328
 | .slice eb e,c=>c= .slice c.elems/\c.elems.length*eb<=140737488355328/\c.elems.length<=9223372036854775807/\∀x∈c.elems,C.wf e x
 | .arr n e,c=>c= .agg c.elems/\c.elems.length=n/\∀x∈c.elems,C.wf e x
 | .struct _ _ fs,c=>c= .agg c.elems/\C.wfs fs c.elems
 | .opq _,_=>False
 | .iface,c=>c= .nil\/c= .bool true
 |_,c=>c= .nil
def C.wfs:List Ty->List C->Prop
 | [],cs=>cs=[]
 |f::fs,cs=>∃c cs',cs=c::cs'/\C.wf f c/\C.wfs fs cs'
end
def C.q2G:∀{fs:List Ty} {cs:List C},C.wfs fs cs->cs.length=fs.length
 | [],_,h=>by simp only[C.wfs]at h;simp[h]
 |f::fs,cs,h=>by
  simp only[C.wfs]at h;obtain⟨c,cs',rfl,_,h⟩:=h;simp[C.q2G h]
def C.q2F:∀{fs:List Ty} {cs:List C} {i:Nat} {f:Ty},C.wfs fs cs->fs[i]? =some f->C.wf f (cs.getD i .nil)
 | [],_,_,_,_,h=>by simp at h
 |g::fs,cs,i,f,h,hi=>by
  simp only[C.wfs]at h;obtain⟨c,cs',rfl,h1,h2⟩:=h;cases i with
  |zero=>simp at hi;subst hi;simpa using h1
  |succ i=>simpa using C.q2F h2 (show fs[i]? =some f by simpa using hi)
def C.Gp {sz:Nat} {os:List Nat} {fs} {c:C} {i:Nat} {f} (h:C.wf (.struct sz os fs) c) (hi:fs[i]? =some f):C.wf f (c.get i):=by
 simp only[C.wf]at h;rw[h.1];exact C.q2F h.2 hi
def C.z4O {eb:Nat} {e} {c:C} {i:Nat} (h:C.wf (.slice eb e) c) (hi:i<c.elems.length):C.wf e (c.elems.getD i .nil):=by
 simp only[C.wf]at h;rw[bn,bm hi];exact h.2.2.2 _ (List.getElem_mem hi)
mutual
def AK.wf {H}:∀{τ:Ty} {vs:List Value} {c:C},AK H τ vs c->C.wf τ c
 | .int k,vs,c,h=>by
  simp only[AK]at h;obtain⟨n,rfl,_,h1,h2⟩:=h;exact⟨rfl,h1,h2⟩
 | .bool,vs,c,h=>by
  simp only[AK]at h;obtain⟨n,rfl,_⟩:=h;rfl
 | .str,vs,c,h=>by
  simp only[AK]at h;obtain⟨n,rfl,_,h1⟩:=h;exact⟨rfl,h1⟩
 | .slice eb e,vs,c,h=>by
  simp only[AK]at h;obtain⟨a,n,cap,cs,rfl,rfl,h1,h2,h3,h4,h5⟩:=h;simp only[C.wf,au];refine⟨trivial,by rw[h1];exact h4,by unfold maxLen at h3;omega,fun x hx=>?_⟩;obtain⟨i,hi⟩:=um hx;rcases h5 with h5|⟨b,off,l,_,_,_,hr⟩
  ·subst h5;have:=(bz.1 hi).1;omega
  ·exact AK.wf (hr i x hi)
 | .arr n e,vs,c,h=>by
  simp only[AK]at h;obtain⟨cs,rfl,h1,h2,h4,h3⟩:=h;simp only[C.wf,au];refine⟨trivial,h1,fun x hx=>?_⟩;obtain⟨i,hi⟩:=um hx;exact AK.wf (h3 i x hi)
 | .struct sz os fs,vs,c,h=>by
  simp only[AK]at h;obtain⟨cs,rfl,_,_,h2⟩:=h;simp only[C.wf,au];exact⟨trivial,BP.wf h2⟩
 | .ptr,vs,c,h| .map,vs,c,h| .func,vs,c,h=>by
  simp only[AK]at h;simp only[C.wf];exact h.1
 | .iface,vs,c,h=>by
  simp only[AK]at h;simp only[C.wf];rcases h with h|h
  ·exact .inl h.1
  ·exact .inr h.1
 | .opq _,_,_,h=>by simp only[AK]at h
def BP.wf {H}:∀{fs:List Ty} {os:List Nat} {vs:List Value} {cs:List C},BP H fs os vs cs->C.wfs fs cs
 | [],_,_,_,h=>by simp only[BP]at h;simp only[C.wfs];exact h
 |f::fs,o::os,vs,cs,h=>by
  simp only[BP]at h;obtain⟨c,cs',rfl,_,h2,h3⟩:=h;simp only[C.wfs];exact⟨c,cs',rfl,AK.wf h2,BP.wf h3⟩
 |_::_,[],_,_,h=>by simp[BP]at h
end
mutual
def V.wf:V->Prop
 | .d τ c=>C.wf τ c
 | .sl eb e cs _=>C.wf (.slice eb e) (.slice cs)
 | .ts eb e cs=>C.wf (.slice eb e) (.slice cs)
 | .sr _ _ _ n _ eb _=>n*eb<=140737488355328/\n<=9223372036854775807
 | .yn τ c=>C.wf τ c
 | .agg _ vs=>V.wfs vs
 |_=>True
def V.wfs:List V->Prop
 | []=>True
 |x::xs=>x.wf/\V.wfs xs
end
mutual
def AA.wf {Γ hm}:∀{x:V} {p:List Nat} {vs:List Value},AA Γ hm p x vs->x.wf
 | .d τ c,_,_,h=>by simp only[AA]at h;exact h.wf
 | .sl eb e cs t,_,_,h=>by simp only[AA]at h;obtain⟨a,n,cap,_,h,_⟩:=h;exact h.wf
 | .ts eb e cs,_,_,h=>by simp only[AA]at h;obtain⟨a,n,cap,k,_,_,h,_⟩:=h;exact h.wf
 | .sr _ _ _ n _ eb _,_,_,h=>by
  simp only[AA]at h;rcases h with⟨_,rfl,_⟩|⟨b,τ0,o,m,cap,_,_,_,_,h1,h2,h3,_⟩
  ·exact⟨by rw[gz];exact dx _,dx _⟩
  exact⟨h3,by unfold maxLen at h2;omega⟩
 | .yn τ c,_,_,h=>by simp only[AA]at h;obtain⟨b,off,l,_,_,_,h⟩:=h;exact h.wf
 | .agg _ vs,_,_,h=>by simp only[AA]at h;exact AZ.wf h.2.2.2.2
 | .emp _ _,_,_,_| .ym,_,_,_| .ptr _ _ _,_,_,_| .mp _,_,_,_| .fn _ _,_,_,_| .tup _,_,_,_| .top _,_,_,_| .any,_,_,_=>by simp only[V.wf]
def AZ.wf {Γ hm}:∀{xs:List V} {p:List Nat} {i:Nat} {τ:Ty} {vs:List Value},AZ Γ hm p i τ xs vs->V.wfs xs
 | [],_,_,_,_,_=>by simp only[V.wfs]
 |x::xs,_,_,_,_,h=>by
  simp only[AZ]at h;obtain⟨⟨o,f,_,_,_,h1⟩,h2⟩:=h;exact⟨AA.wf h1,AZ.wf h2⟩
end
def V.wfT:V->Prop
 | .tup xs=>V.wfs xs
 |x=>x.wf
def BC.wf {Γ}:∀{xs:List V} {vs:List Value},BC Γ xs vs->V.wfs xs
 | [],_,_=>by simp only[V.wfs]
 |x::xs,_,h=>by
  simp only[BC]at h;obtain⟨v,vs',_,h1,_,h2⟩:=h;exact⟨AA.wf h1,BC.wf h2⟩
def AG.wf {Γ} {x:V} {v} (h:AG Γ x v):x.wfT:=by
 cases x
 case any=>simp only[V.wfT,V.wf]
 case tup xs=>obtain⟨vs,_,h⟩:=h;exact h.wf
 all_goals exact AA.wf h.1
def O.wf:O->Prop
 | .box x=>x.wf
 | .map _ _ es=>∀c∈es,c.2.wf
 | .it _ _| .dead _=>True
structure WF (s:S):Prop where
 slot:∀t,(s.get t).wfT
 obj:∀k x,s.obj k=some (.box x)->x.wf
section
variable {X:Cx} {n:Nat} {s:S} {Ψ:Exit->S->Prop} {c:Code}
def At.wf {Γ0 a w} (h:At X n Γ0 s a w):WF s:=by
 obtain⟨Γ,_,_,c,hs,_⟩:=h;refine⟨fun t=>(hs t).wf,fun k x hk=>?_⟩;rcases c.obj k _ hk with⟨_,e,rfl⟩|⟨b,cells,T,_,_,_,_,_,h,_⟩
 ·simp[V.wf,C.wf,au]
 exact h.wf
def WF.at {t:Nat} {x:V} (h:WF s) (ht:s.get t=x):x.wfT:=ht ▸ h.slot t
end
def Lj {k:IntKind} {n:Int} (h1:k.min<=n) (h2:n<=k.max):k.wrap n=n:=by cases k <;> simp[IntKind.wrap,IntKind.min,IntKind.max,IntKind.bits,IntKind.signed]at h1 h2 ⊢ <;> omega
end
section
attribute [go_sem] eq_self gj Option.bind_none gm od tc Bool.not_false decide_true decide_false forall_const true_implies false_implies
attribute [go_sem] implies_true not_true not_false_iff sop iop kop fop sl3 Qf Kp Qk lk List.head?_cons List.tail_cons List.head?_nil
attribute [go_sem] strOf Ty.Rd Op.operands Call.operands FK FL top q9e pv PV PX TF Mm
attribute [go_sem] TE PW PY CB V.Ec cut z0T z0R
attribute [go_sem] z0S KC fj if_true if_false Ju NC Mz Jg BinOp.Kq
attribute [go_sem] Aa Ak aC Ox CW V.slot Fs V.DK V.CV V.tkR kf q6v
attribute [go_sem] z3M q25 q8q q8p
attribute [go_sem] q7b O.ren V.ren V.Ck PT Ko LU XZ Kn UK
attribute [go_sem] E.look AR Nat.zero_ne_one Nat.one_ne_zero CQ DP CE CN GP Dx Jj gOk
attribute [go_sem] tOk S.ret Fk Gh GA dn rk dnL dnT Ds IG Dz
attribute [go_sem] V.sites V.UZ V.Bd V.Hn V.okH V.Sl V.Bh V.Fb GJ jh qz or_false
attribute [go_sem] false_or and_true true_and and_self or_true true_or or_self fz ji List.append_nil V.isInt V.FA
attribute [go_sem] V.isBool V.isStr V.DF z4w AB Ah AJ DQ
attribute [go_sem] Fa V.setAt V.set C.set Gx Bj Ji
attribute [go_sem] MB V.ty V.plain V.Aw V.CC V.HS view views Bl Dn List.map_cons vq
attribute [go_sem] List.getD_cons_zero List.getD_cons_succ List.set_cons_zero List.set_cons_succ tg List.all_nil il ne_eq not_false_eq_true not_true_eq_false Ty.size q7a
attribute [go_sem] q6V q6W
attribute [go_sem] pz py ku List.getElem?_cons_zero
attribute [go_sem] List.getElem?_cons_succ iu cn df Nat.lt_add_one Nat.zero_lt_succ jz Bool.true_and Bool.or_true Bool.true_or xx jt
attribute [go_sem] cond_true cond_false Key.l.injEq Key.g.injEq bg List.contains_nil List.contains_cons Bool.and_self decide_eq_true_eq Nat.not_lt_zero List.replicate List.replicate_zero
@[go_sem] theorem z5s (k:IntKind):AI (.int k)= .int 0:=rfl
attribute [go_sem] Bv V.d.injEq V.emp.injEq
attribute [go_sem] false_and and_false UT EJ EG EI EH gv
attribute [go_sem] Fj FD IU Py Pw EZ Mw KJ IA Gk FW Ir V.BA V.Fg O.BA V.ok V.oks V.DH DM O.okB O.ok Bb BQ List.isEmpty_nil List.isEmpty_cons pz py
section
variable {X:Cx} {n:Nat} {c:Code} {Ψ:Exit->S->Prop} {md:List (Nat × Nat)} {ops:Array Oper} {Φ:S->Prop} {m:List Unit} {l:List Oper} {ts:List Nat} {dst:Nat} {o:Oper} {K:V->S->Prop} {s s' b b':S}
def q5p:((0:Nat)=100)=False:=by simp
attribute [go_sem] lop q5p false_or false_and
end
end
section
section
variable {X:Cx} {n:Nat} {s:S} {Ψ:Exit->S->Prop}
def dX {Γ0} {ι:Type} (I:ι->S) (μ:ι->Nat) {a w} (h:∃i,At X n Γ0 (I i) a w):∃m,∃i,At X n Γ0 (I i) a w/\μ i=m/\∀j,At X n Γ0 (I j) a w->m<=μ j:=by
 obtain⟨i,hi⟩:=h;have:∀m i,μ i=m->At X n Γ0 (I i) a w->∃m,∃i,At X n Γ0 (I i) a w/\μ i=m/\∀j,At X n Γ0 (I j) a w->m<=μ j:=by
  intro m
  induction m using xr with
  |_ m ih=>
   intro i hm hi;by_cases h:∃j,At X n Γ0 (I j) a w/\μ j<m
   ·obtain⟨j,hj,hlt⟩:=h;exact ih _ hlt j rfl hj
   ·exact⟨m,i,hi,hm,fun j hj=>Nat.le_of_not_lt fun hlt=>h ⟨j,hj,hlt⟩⟩
 exact this _ i rfl hi
def q4F {c rest} (l:Nat) (hf:findLabel c l=some rest) {ι:Type} (I:ι->S) (μ:ι->Nat)
  (first:DC X n c s fun e s'=>match e with| .goto l'=>l'=l/\∃i,DL X n s' (I i)|e=>Ψ e s')
  (pass:∀i,DC X n rest (I i) fun e s'=>match e with| .goto l'=>l'=l/\∃j,DL X n s' (I j)/\μ j<μ i|e=>Ψ e s'):DC X n (.scope c) s Ψ:=by
 intro Γ0 a w hat
 open Classical in
 refine wp_scope_jumps l (fun a w=>∃i,At X n Γ0 (I i) a w) (fun a w=>if h:∃i,At X n Γ0 (I i) a w then Classical.choose (dX I μ h)else 0) hf ?_ ?_
 ·refine wp_mono (first Γ0 a w hat) ?_;rintro e a' w' ⟨s',h1,h2⟩;cases e with
  |goto l'=>
   obtain⟨e1,i,hi⟩:=h1;exact⟨e1,i,hi Γ0 a' w' h2⟩
  |normal|exit _|ret|panic _|outgrown=>exact⟨s',h1,h2⟩
 ·intro a w hI;obtain⟨i,hi,hm,hmin⟩:=rz (dX I μ hI);refine wp_mono (pass i Γ0 a w hi) ?_;rintro e a' w' ⟨s',h1,h2⟩;cases e with
  |goto l'=>
   obtain⟨e1,j,hj,hlt⟩:=h1;have z50:=hj Γ0 a' w' h2;have hI':∃i,At X n Γ0 (I i) a' w':=⟨j,z50⟩;refine⟨e1,hI',?_⟩;obtain⟨i',hi',hm',z7r⟩:=rz (dX I μ hI');have:=z7r j z50;rw[dif_pos hI',dif_pos hI];omega
  |normal|exit _|ret|panic _|outgrown=>exact⟨s',h1,h2⟩
def rL {c} (h:DC X n c s fun e s'=>match e with| .goto _=>False|e=>Ψ e s'):DC X n (.scope c) s Ψ:=by
 intro Γ0 a w hat;refine wp_scope_straight (wp_mono (h Γ0 a w hat) ?_);rintro e a' w' ⟨s',h1,h2⟩;cases e with
 |goto l'=>exact h1.elim
 |normal|exit _|ret|panic _|outgrown=>exact⟨s',h1,h2⟩
def rJ {t:Nat} {c c'} (hb:s.get t= .top .bool) (h1:DC X n c s Ψ) (h2:DC X n c' s Ψ):DC X n (.cond (.tmp t) c c') s Ψ:=by
 intro Γ0 a w hat;have key:∃b,a.eval (.tmp t)= .bool b:=by
  obtain⟨Γ,_,_,_,hs,_⟩:=hat;have:=hs t;rw[hb]at this;obtain⟨h1,h2⟩:=(BZ rfl).1 this;rw[CT (by simpa[V.ty,Ty.isAgg]using h2)]at h1;simp only[AA]at h1;obtain⟨b,hv⟩:=h1.2.2 trivial;exact⟨b,by simp only[List.cons.injEq,and_true]at hv;exact hv⟩
 obtain⟨b,hv⟩:=key;refine wp_cond (t:=b) hv ?_;cases b with
 |true=>exact h1 Γ0 a w hat
 |false=>exact h2 Γ0 a w hat
def z4N {t u eb:Nat} {e} (hu:s.known u=false) (ht:s.get t= .ym\/s.get t= .emp eb e):DL X n s (S.set {s with tk:=(u,some 0)::s.tk} (some t) (.sl eb e [] u)):=by
 rintro Γ0 a w ⟨Γ,g1,g3,c,hs,hn,hf,hA⟩;obtain⟨c1,p1,g2⟩:=c.DA hu (x:=none) (L:=0) (fun _ _ _ h=>by cases h);refine⟨Γ.DA u none 0,g1.trans g2,g2.gl.trans g3,Ql c1 _ _,fun i=>?_,hn,hf,hA⟩;rw[Jq];split
 ·rename_i e1;cases e1;have h0:=hs t;obtain⟨a0,ha⟩:∃a0,a.tmps.getD t undef= .slice a0 0 0:=by
   rcases ht with h|h
   ·rw[h]at h0;exact⟨none,FV h0⟩
   ·rw[h]at h0;obtain⟨h1,_⟩:=(Bf rfl rfl).1 h0;simp only[AA]at h1;obtain⟨a0,h1⟩:=h1;exact⟨a0,by simpa using h1⟩
  rw[ha];refine(Bf rfl rfl).2 ⟨?_,rfl⟩;simp only[AA];exact⟨a0,0,0,rfl,Dh rfl (ca _) (dx _) (by rw[gz];exact dx _) (.inl rfl),none,0,by simp[G.DA,BR],ca _,fun _=>rfl⟩
 ·exact(hs i).BL p1
end
attribute [go_sem] Hk tkW CS
end
section
def C.q56 (a b:C):rq a b=rq b a:=by rw[ko,C.GD,C.GD];exact eq_comm
def yW {α:Type}:∀(es:List (C × α)) (c:C) (v:α) (c':C),FE (EC es c v) c'=if rq c' c=true then some v else FE es c'
 | [],c,v,c'=>by simp only[EC,FE]
 |(k,u)::es,c,v,c'=>by
  simp only[EC];by_cases h:rq c k=true
  ·rw[if_pos h];have:=C.GD.1 h;subst this;simp only[FE];split <;> rfl
  ·rw[if_neg h];simp only[FE];by_cases h':rq c' k=true
   ·rw[if_pos h',if_pos h'];have:=C.GD.1 h';subst this;have:rq c' c=false:=by
     cases hh:rq c' c with
     |false=>rfl
     |true=>rw[C.q56]at hh;exact absurd hh h
    rw[this];simp
   ·rw[if_neg h',if_neg h',yW es c v c']
def q2j (nx:C->C) (c v:C):C->C:=fun c'=>if rq c' c=true then v else nx c'
structure QS (P:Program) (et:TypeId) (τ:Ty) (es:List (C × V)) (nx:C->C):Prop where
 look:∀c,HM P et es c= .d τ (nx c)
 all:∀f g,V.DH f g es=true
 dat:DM τ es=true
def o6 {f g}:∀{es:List (C × V)} {c:C} {v:V},V.DH f g es=true->v.ok f g=true->V.DH f g (EC es c v)=true
 | [],c,v,_,hv=>by simp only[EC,V.DH,hv,jz]
 |(k,u)::es,c,v,h,hv=>by
  simp only[V.DH,bg]at h;simp only[EC];split
  ·simp only[V.DH,hv,h.2,jz]
  ·simp only[V.DH,h.1,o6 h.2 hv,jz]
def oU {τ}:∀{es:List (C × V)} {c v:C},DM τ es=true->DM τ (EC es c (.d τ v))=true
 | [],c,v,_=>by simp only[EC,DM,(Ty.beq_iff τ τ).2 rfl,jz]
 |(k,u)::es,c,v,h=>by
  simp only[DM,bg]at h;simp only[EC];split
  ·simp only[DM,(Ty.beq_iff τ τ).2 rfl,h.2,jz]
  ·simp only[DM,h.1,oU h.2,jz]
def QS.put {P} {et:TypeId} {τ es nx} (h:QS P et τ es nx) (c v:C):QS P et τ (EC es c (.d τ v)) (q2j nx c v):=by
 refine⟨fun c'=>?_,fun f g=>o6 (h.all f g) rfl,oU h.dat⟩;have:=h.look c';unfold HM at this ⊢;rw[yW];unfold q2j;by_cases e:rq c' c=true
 ·rw[if_pos e,if_pos e];rfl
 ·rw[if_neg e,if_neg e];exact this
def QS.nil {P} {et:TypeId} {τ} (h:Bv (ty P et)= .d τ (AI τ)):QS P et τ [] (fun _=>AI τ):=⟨fun c=>by
 unfold HM;simp only[FE,qz];exact h,fun _ _=>rfl,rfl⟩
section
variable {X:Cx} {n:Nat} {s:S} {Ψ:Exit->S->Prop}
end
attribute [go_sem] Ty.flat V.Bh V.Fb
end
section
mutual
def V.Dp:V->V
 | .emp eb e=>.ts eb e []
 | .agg τ vs=>.agg τ (V.JL vs)
 |x=>x
def V.JL:List V->List V
 | []=>[]
 |x::xs=>x.Dp::V.JL xs
end
def V.Vi (x:V):x.Dp.ty=x.ty:=by cases x <;> simp[V.Dp,V.ty]
def V.q52 (x:V):x.Dp.plain=x.plain:=by cases x <;> simp[V.Dp,V.plain]
def V.sZ:∀xs:List V,(V.JL xs).length=xs.length
 | []=>rfl
 |x::xs=>by simp[V.JL,V.sZ xs]
mutual
def V.sY:∀x:V,x.Dp.Aw=x.Aw
 | .agg τ vs=>by simp only[V.Dp,V.Aw];exact V.tA vs
 | .emp _ _| .sl _ _ _ _| .ptr _ _ _| .sr _ _ _ _ _ _ _| .mp _| .d _ _| .ts _ _ _| .ym| .yn _ _| .top _| .any| .fn _ _| .tup _=>by simp[V.Dp,V.Aw]
def V.tA:∀xs:List V,V.CC (V.JL xs)=V.CC xs
 | []=>rfl
 |x::xs=>by simp only[V.JL,V.CC,V.sY x,V.tA xs]
end
section
variable {Γ:G} {k:Key}
mutual
def AA.Dp:∀(x:V) {p:List Nat} {vs},AA Γ (some k) p x vs->AA Γ (some k) p x.Dp vs
 | .emp eb e,p,vs,h=>by
  simp only[AA,V.Dp]at h ⊢;obtain⟨a,rfl⟩:=h;exact⟨a,0,0,k,rfl,rfl,Dh rfl (ca _) (dx _) (by rw[gz];exact dx _) (.inl rfl),.inl rfl⟩
 | .agg τ xs,p,vs,h=>by
  simp only[AA,V.Dp]at h ⊢;exact⟨h.1,h.2.1,by rw[V.sZ];exact h.2.2.1,h.2.2.2.1,AZ.Dp xs h.2.2.2.2⟩
 | .sl _ _ _ _,_,_,h| .ptr _ _ _,_,_,h| .sr _ _ _ _ _ _ _,_,_,h| .mp _,_,_,h| .d _ _,_,_,h| .ts _ _ _,_,_,h| .ym,_,_,h| .yn _ _,_,_,h| .top _,_,_,h| .any,_,_,h| .fn _ _,_,_,h| .tup _,_,_,h=>h
def AZ.Dp:∀(xs:List V) {p:List Nat} {i:Nat} {τ:Ty} {vs:List Value},AZ Γ (some k) p i τ xs vs->AZ Γ (some k) p i τ (V.JL xs) vs
 | [],_,_,_,_,_=>by simp only[V.JL,AZ]
 |x::xs,_,_,_,_,h=>by
  simp only[AZ,V.JL,V.Vi]at h ⊢;obtain⟨⟨o,f,h1,h2,h3,h4⟩,h5⟩:=h;exact⟨⟨o,f,h1,h2,h3,AA.Dp x h4⟩,AZ.Dp xs h5⟩
end
end
def z4K {X} {n:Nat} {s:S} {k} {x:V} (h:s.obj k=some (.box x)):DL X n s (s.put k (.box x.Dp)):=by
 rintro Γ0 a w ⟨Γ,g1,g3,c,hs,hn,hf,hA⟩;refine⟨Γ,g1,g3,⟨c.hH,c.hZ,c.hκ,fun j o hj=>?_,fun j hj=>?_,c.Jt (fun j hj=>?_),c.tok,c.zc,c.hgl,c.hoo,c.hσ⟩,hs,hn,hf,hA⟩
 ·rw[DG]at hj;split at hj
  ·rename_i e;subst e;cases hj;rcases c.obj _ _ h with⟨hn,e,rfl⟩|⟨b,cells,T,h1,h2,h3,h4,h5,h6,h7,h8⟩
   ·exact .inl ⟨hn,e,rfl⟩
   exact .inr ⟨b,cells,T,by rw[V.Vi];exact h1,h2,h3,h4,by rw[V.Vi];exact h5,by rw[V.Vi];exact AA.Dp x h6,by rw[V.q52];exact h7,by rw[V.sY];exact h8⟩
  ·exact c.obj j o hj
 ·rw[DG];split
  ·simp
  ·exact c.dom j hj
 ·unfold S.BW at hj ⊢;rw[DG];split
  ·rename_i e;subst e;rw[h]at hj;cases hj
  ·exact hj
attribute [go_sem] V.Dp V.JL
end
def z4x {X:Cx} {n:Nat} {s s':S} {Γ0 Γ:G} {a:Act} {w} (g1:GLe Γ0 Γ) (g3:Γ.gl=X.gl) (c:AO Γ w s) (hs:Fv Γ s a.tmps) (hn:a.tmps.size=n) (hf:a.defers=[]) (zk:AOk s.A) (hA:s'.A=s.A) (z5I:Fj s s'.loc) (z5U:FD (Bb s'.loc) (CS s'.tk) s'.loc=true) (hg:IU s'.loc s.A s.loc)
  (htk:tkW s s'.tk) (zq:Hk (Bb s'.loc) (CS s'.tk) s s'.env):GLe Γ0 (Γ.part (Bb s'.loc) (CS s'.tk))/\(Γ.part (Bb s'.loc) (CS s'.tk)).gl=X.gl/\AO (Γ.part (Bb s'.loc) (CS s'.tk)) w s'/\Fv (Γ.part (Bb s'.loc) (CS s'.tk)) s' a.tmps/\a.tmps.size=n/\a.defers=[]/\AOk s'.A:=by
 have sub:Sub Γ (Γ.part (Bb s'.loc) (CS s'.tk)) (Bb s'.loc) (CS s'.tk):=
  ⟨rfl,rfl,rfl,rfl,rfl,fun _=>rfl,fun n h=>by simp[wv,h],fun t h=>by simp[wv,h],fun _ _ _ _ _=>rfl⟩
 refine⟨⟨g1.H,g1.Z,g1.ZH,g1.g,g1.gl,g1.oo,g1.σ,g1.gn⟩,g3,c.sub sub rfl (fun n h=>by simp[wv,h]) hA zk z5I z5U hg (fun b o sz h=>⟨o,h,fun _ h=>h⟩) (fun t L h=>?_) (fun t h=>?_),fun i=>?_,hn,hf,by rw[hA];exact zk⟩
 ·unfold S.live Du at h;cases hl:look s'.tk t with
  |none=>simp[hl]at h
  |some x=>
   cases x with
   |none=>simp[hl]at h
   |some M=>
    simp[hl]at h;subst h;have z5G:s.live t=some M:=mZ htk hl;obtain⟨x,a1,a2⟩:=c.tok t M z5G;exact⟨x,by simp[wv,CS,hl,a1],fun b pos sz hx=>a2 b pos sz hx⟩
 ·cases hh:CS s'.tk t with
  |true=>exact hh
  |false=>simp[wv,hh]at h
 ·cases hl:look s'.env i with
  |none=>simp[yf,hl,AG]
  |some x=>
   obtain⟨e1,e2,e3⟩:=bJ zq hl;have z5H:s'.get i=x:=by simp[yf,hl]
   rw[z5H];by_cases hx:x= .any
   ·subst hx;trivial
   ·have hr:=hs i;have e3:=e3.resolve_left hx;refine AG.sub sub e2 ?_;cases hsi:s.get i with
    |any=>
     rw[hsi]at e1;cases x <;> simp[V.BA,Bl]at e1 hx
    |tup us=>
     rw[hsi]at e1 hr;cases x <;> simp[V.BA,Bl]at e1 hx;subst e1;exact hr
    |_=>
     rw[hsi]at e1 hr e3;have hpl:AA Γ none [] _ (a.tmps.getD i undef).cells.toList/\_:=hr;obtain⟨r1,r2⟩:=AA.BA x _ e1 hpl.1;have hxp:=V.TA r1 hx;exact(BZ hxp).2 ⟨r1,by rw[e3];exact hpl.2⟩
def z4L {X} {n:Nat} {s s':S} {t j:Nat} {τ} {x:V} {cc} (z7s:s.get t= .ptr (.l j) [] τ) (yr:s.obj (.l j)=some (.box x)) (hcl:Bl x=some cc) (hτ:x.ty=τ) (hj:Bb s'.loc j=false)
  (hA:s'.A=s.A) (z5I:Fj s s'.loc) (z5U:FD (Bb s'.loc) (CS s'.tk) s'.loc=true) (hg:IU s'.loc s.A s.loc)
  (htk:tkW s s'.tk) (zq:Hk (Bb s'.loc) (CS s'.tk) s s'.env):DL X n s (s'.set (some t) (.yn τ cc)):=by
 rintro Γ0 a w ⟨Γ,g1,g3,c,hs,hn,hf,zk⟩;obtain⟨p1,p2,p3,p4,p5,p6,p7⟩:=z4x (X:=X) (n:=n) (s':=s') g1 g3 c hs hn hf zk hA z5I z5U hg htk zq;have hst:=hs t;rw[z7s]at hst;obtain⟨b,τ0,off,e1,i2,hv⟩:=Gj hst;obtain⟨b2,cells,T,i1,e2,e3,e4,e5,e6,e7,e8⟩:=c.own e1 yr;rw[e1]at i1;cases i1;simp only[Ty.walk,eu,gp]at i2;obtain⟨rfl,_⟩:=i2;have hdl:∀k o,s'.obj k=some o->s.BW k=true->o.EK=true:=by
  intro k o ho hd;unfold jj Bt at ho;cases hl:AR s'.loc k with
  |some o1=>
   rw[hl]at ho;cases ho;obtain⟨o0,h1,h2⟩:=Wh z5I hl;rw[EV h1]at hd;exact O.wG h2 hd
  |none=>
   cases k with
   |l n=>rw[hl]at ho;cases ho
   |g k=>
    have:=XA hA hg hl;unfold S.BW at hd;rw[<-this]at hd;have h2:jj s' (.g k)=some o:=by unfold jj Bt;exact ho
    rw[h2]at hd;exact hd
 have hno:∀k τ o,(Γ.part (Bb s'.loc) (CS s'.tk)).ι k=some (b,τ)->s'.obj k=some o->o.EK=true:=by
  intro k τ' o hk hko;have hk':Γ.ι k=some (b,τ')/\k≠.l j:=by
   cases k with
   |g k=>exact⟨hk,by simp⟩
   |l m=>
    simp only[wv]at hk;split at hk
    ·rename_i hm;refine⟨hk,fun e=>?_⟩;cases e;rw[hj]at hm;cases hm
    ·cases hk
  rcases c.inj k (.l j) b _ _ hk'.1 e1 with e|⟨e|e,_⟩
  ·exact absurd e hk'.2
  ·exact hdl k o hko e
  ·rw[EV yr]at e;cases e
 obtain⟨q1,q2,q3⟩:=p3.freeze e4 e2 hno;have hrc:AK Γ.H x.ty (chunk cells.toList 0 x.ty.size) cc:=Kc _ e6 hcl;refine⟨_,⟨Hp.le_trans p1.H q3,p1.Z,fun b' hb'=>?_,p1.g,p1.gl,p1.oo,p1.σ,p1.gn⟩,p2,Ql q1 _ _,fun i=>?_,p5,p6,p7⟩
 ·refine(Ea _ _ fun e=>?_).trans (p1.ZH b' hb');subst e;exact hb' (by rw[<-g1.Z];exact e3)
 ·rw[Jq];split
  ·rename_i e;cases e;rw[hv];refine Mv (l:=cells.toList) (Cb _ _ _) (by rw[<-hτ];simpa using e5) ?_;rw[<-hτ];exact hrc.mono q3
  ·exact(p4 i).BL q2
def C.q8n:∀(cs:List C) (n:Nat),cs.length=n->cs=(fi n).map fun i=>cs.getD i .nil:=by
 intro cs n h;subst h;refine List.ext_getElem (by simp) fun i h1 h2=>?_;simp[bm h1]
def C.q2E {sz:Nat} {os:List Nat} {fs:List Ty} {c:C} (h:C.wf (.struct sz os fs) c): .agg ((fi fs.length).map c.get)=c:=by
 simp only[C.wf]at h;obtain⟨h1,h2⟩:=h;have hl:=C.q2G h2;rw[h1];congr 1;rw[<-hl];exact(C.q8n c.elems _ rfl).symm
section
open Go Go.ChangeShapes Go.WideShapes
def HG (w:World):Hp:=fun b=>match w.heap[b]? with
 |some (.cells c _ _)=>some c.toList
 |_=>none
def cX {w:World} {a:Addr} {v} (h:w.cell? a=some v):∃l,HG w a.block=some l/\l[a.off]? =some v/\a.spot=none:=by
 unfold nu at h;unfold HG;split at h
 ·rename_i c _ _ hc;split at h
  ·cases h
  ·rename_i hs;refine⟨c.toList,by simp[hc],by simpa using h,?_⟩;cases hh:a.spot <;> simp_all
 ·cases h
mutual
def Ty.dat:Ty->Bool
 | .int _| .bool| .str=>true
 | .slice _ e=>e.dat&&decide (0<e.size)
 | .arr _ e=>e.dat&&decide (0<e.size)
 | .struct sz os fs=>Ty.Qo fs&&decide (os.length=fs.length)&&(fi sz).all fun i=>(fi fs.length).any fun j=>match os[j]?,fs[j]? with|some o,some f=>decide (o<=i)&&decide (i<o+f.size)|_,_=>false
 |_=>false
def Ty.Qo:List Ty->Bool
 | []=>true
 |f::fs=>f.dat&&Ty.Qo fs
end
def rF:∀{fs:List Ty} {i:Nat} {f:Ty},Ty.Qo fs=true->fs[i]? =some f->f.dat=true
 | [],_,_,_,h=>by simp at h
 |g::fs,0,f,hd,h=>by simp[Ty.Qo]at hd h;rw[<-h];exact hd.1
 |g::fs,i+1,f,hd,h=>by simp[Ty.Qo]at hd;exact rF hd.2 (by simpa using h)
def Om {α β:Type} {f}:∀{l:List α} {r:List β},l.mapM f=some r->∀i:Nat,l[i]?.bind f=r[i]?
 | [],r,h,i=>by simp at h;subst h;simp
 |x::l,r,h,i=>by
  rw[uc]at h;cases hx:f x with
  |none=>simp[hx]at h
  |some y=>
   cases hl:l.mapM f with
   |none=>simp[hx,hl]at h
   |some ys=>
    simp[hx,hl]at h;subst h;cases i with
    |zero=>simp[hx]
    |succ i=>simpa using Om hl i
def SF {α β:Type} {f}:∀{l:List α} {r:List β},l.mapM f=some r->r.length=l.length
 | [],r,h=>by simp at h;subst h;rfl
 |x::l,r,h=>by
  rw[uc]at h;cases hx:f x with
  |none=>simp[hx]at h
  |some y=>
   cases hl:l.mapM f with
   |none=>simp[hx,hl]at h
   |some ys=>
    simp[hx,hl]at h;subst h;simp[SF hl]
def qK {w:World} {base:Nat} {a:Addr} {n:Nat} {cs} (h:w.cells? base a n=some cs) (hn:0<n):
  ∃l,HG w a.block=some l/\a.spot=none/\a.off+n<=l.length/\cs=chunk l a.off n:=by
 unfold World.cells? at h;split at h
 ·have hl:=SF h;simp at hl;have hg:=Om h;have h0:=hg 0;cases hc:cs[0]? with
  |none=>simp at hc;subst hc;simp at hl;omega
  |some v0=>
   rw[hc]at h0;simp[iq hn]at h0;have e0:a.add 0=a:=by simp[oe]
   rw[e0]at h0;obtain⟨l,h1,h2,h3⟩:=cX h0;refine⟨l,h1,h3,?_,?_⟩
   ·have z6e:=hg (n-1);cases hc':cs[n-1]? with
    |none=>simp at hc';omega
    |some v1=>
     rw[hc']at z6e;simp[iq (show n-1<n by omega)]at z6e;obtain⟨l',g1,g2,_⟩:=cX z6e;have eb:(a.add (n-1)).block=a.block:=by unfold oe;split <;> rfl
     have eo:(a.add (n-1)).off=a.off+(n-1):=by unfold oe;split <;> simp_all
     rw[eb,h1]at g1;cases g1;rw[eo]at g2;have:=(bz.1 g2).1;omega
   ·apply List.ext_getElem?;intro i;by_cases hi:i<n
    ·have:=hg i;simp[iq hi]at this;cases hc':cs[i]? with
     |none=>simp at hc';omega
     |some v1=>
      rw[hc']at this;obtain⟨l',g1,g2,_⟩:=cX this;have eb:(a.add i).block=a.block:=by unfold oe;split <;> rfl
      have eo:(a.add i).off=a.off+i:=by unfold oe;split <;> simp_all
      rw[eb,h1]at g1;cases g1;rw[eo]at g2;simp[chunk,fv,hi,g2]
    ·rw[gd (by omega)];simp[chunk,fv,hi]
 ·cases h
def QV {a b:List Nat} (h:(a++b).all (·<=reachBytes)=true):a.all (·<=reachBytes)=true/\b.all (·<=reachBytes)=true:=by simpa[List.all_append]using h
def nS {H:Type} {P} {e:TypeId}:∀{l:List (DataW H)} {i:Nat} {d:DataW H},l[i]? =some d->(qk P e l).all (·<=reachBytes)=true->(d.weights P e).all (·<=reachBytes)=true
 | [],i,d,h,_=>by simp at h
 |x::l,0,d,h,hw=>by
  simp at h;subst h;simp only[qk]at hw;exact(QV hw).1
 |x::l,i+1,d,h,hw=>by
  simp only[qk]at hw;exact nS (by simpa using h) (QV hw).2
def nT {H:Type} {P}:∀{ts:List TypeId} {l:List (DataW H)} {i:Nat} {t:TypeId} {d:DataW H},ts[i]? =some t->l[i]? =some d->(mq P ts l).all (·<=reachBytes)=true->(d.weights P t).all (·<=reachBytes)=true
 | [],_,i,t,d,h,_,_=>by simp at h
 |_::_,[],i,t,d,_,h,_=>by simp at h
 |t::ts,x::l,0,t',d,ht,h,hw=>by
  simp at ht h;subst ht;subst h;simp only[mq]at hw;exact(QV hw).1
 |t::ts,x::l,i+1,t',d,ht,h,hw=>by
  simp only[mq]at hw;exact nT (by simpa using ht) (by simpa using h) (QV hw).2
def j7 {vs:List Value} (h:∀i:Nat,i<vs.length->∃o m,o<=i/\i<o+m/\Cm (chunk vs o m)):Cm vs:=by
 intro v hv;obtain⟨i,hi,rfl⟩:=List.getElem_of_mem hv;obtain⟨o,m,h1,h2,h3⟩:=h i hi;refine h3 _ ?_;refine fg (i:=i-o) ?_;simp only[chunk,fv,List.getElem?_drop];rw[if_pos (by omega),show o+(i-o)=i by omega,bm hi]
mutual
def cOf {H:Type}:DataW H->C
 | .lit (.bool b)=>.bool b
 | .lit (.int _ n)=>.int n
 | .lit (.string l)=>.str l
 | .nil=>.slice []
 | .slice es _=>.slice (JE es)
 | .agg ps=>.agg (JE ps)
 |_=>.nil
def JE {H:Type}:List (DataW H)->List C
 | []=>[]
 |d::ds=>cOf d::JE ds
end
def VM {H:Type}:∀{ds:List (DataW H)} {i:Nat},(JE ds)[i]? =(ds[i]?).map cOf
 | [],i=>by simp[JE]
 |d::ds,0=>by simp[JE]
 |d::ds,i+1=>by simp[JE,VM]
def VN {H:Type}:∀{ds:List (DataW H)},(JE ds).length=ds.length
 | []=>rfl
 |d::ds=>by simp[JE,VN]
section
variable {H:Type} {enc:TypeId × Value->H} {P:Program} {w:World}
def UJ (hP:Aq P=true) {base:Nat} {held:Bool} {sp} (hsp:∀b,sp b=true):∀(fuel f:Nat) {t:TypeId} {cs:List Value} {d:DataW H} {ps:List MemPlace},t<P.types.size->(tyF P f t).dat=true->
  lx enc P w base sp held fuel t cs=some (d,ps)->(d.weights P t).all (·<=reachBytes)=true->AK (HG w) (tyF P f t) cs (cOf d)
 |0,f,t,cs,d,ps,_,_,h,_=>by simp[lx]at h
 |fuel+1,0,t,cs,d,ps,_,hf,h,_=>by simp[tyF,Ty.dat]at hf
 |fuel+1,f+1,t,cs,d,ps,ht,hf,h,hw=>by
  have hok:=Ii hP ht;unfold okT at hok;unfold tyF at hf ⊢;rw[if_pos ht]at hf ⊢;cases hu:P.underlying t with
  |none=>simp[hu,Ty.dat]at hf
  |some desc=>
   simp only[hu]at hf hok ⊢;cases desc with
   |bool=>
    unfold lx at h;simp only[hu]at h;split at h <;> simp_all;rw[<-h.1];simp[AK,cOf]
   |int k=>
    unfold lx at h;simp only[hu]at h;split at h <;> simp_all;obtain⟨⟨rfl,hh⟩,hd,_⟩:=h;simp[Lit.wf]at hh;rw[<-hd];simp[AK,cOf];omega
   |string=>
    unfold lx at h;simp only[hu]at h;split at h <;> simp_all;obtain⟨hh,rfl,_⟩:=h;simp[pk,reachBytes]at hw;simp only[AK,cOf];exact⟨_,rfl,by simp,by simp;omega⟩
   |slice e=>
    simp only[Ty.dat,bg,decide_eq_true_eq]at hf;simp only[bg,beq_iff_eq,decide_eq_true_eq]at hok;have hsz:(tyF P f e).size=P.cellsOf e:=Cf hP f e;unfold lx at h;simp only[hu]at h;split at h <;> try (simp_all;done)
    ·simp only[eu,gp]at h;rw[<-h.1];simp only[AK,cOf];exact⟨none,0,0,[],rfl,rfl,rfl,ca _,by simp[maxLen],by simp,.inl rfl⟩
    ·rename_i e' a len cap he;simp at he;subst he;split at h
     ·rename_i hc;simp only[mz,fa]at h;obtain⟨elems,he1,rest,he2,he3⟩:=h;simp only[gp]at he3;obtain⟨rfl,_⟩:=he3;simp only[pk,hu,tg,bg,decide_eq_true_eq]at hw;obtain⟨hw1,hw2⟩:=hw;obtain⟨hw2,hw3⟩:=QV hw2;have hl:=SF he1;simp at hl;have hbound:len*P.bytesOf e<=140737488355328:=by
       have:len*P.bytesOf e<=(elems.length+rest.length)*P.bytesOf e:=Nat.mul_le_mul_right _ (by omega);simp[reachBytes]at hw1;omega
      by_cases hz:len=0
      ·subst hz;have:elems=[]:=by cases elems <;> simp_all
       subst this;simp only[AK,cOf,vq,JE];exact⟨some a,0,cap,[],rfl,rfl,rfl,dx _,hc.2.2,by simp,.inl rfl⟩
      ·have key:∀i,i<len->∃l,HG w a.block=some l/\a.spot=none/\(a.off+i*P.cellsOf e)+P.cellsOf e<=l.length/\∀x,elems[i]? =some x->AK (HG w) (tyF P f e) (chunk l (a.off+i*P.cellsOf e) (P.cellsOf e)) (cOf x.1):=by
        intro i hi;have hg:=Om he1 i;rw[iq hi]at hg;have hi':i<elems.length:=by omega
        rw[bm hi']at hg;simp only[gj,mz]at hg;obtain⟨cs,hc1,hc2⟩:=hg;obtain⟨l,q1,q2,q3,q4⟩:=qK hc1 (by rw[<-hsz];exact hf.2);have eb:(a.add (i*P.cellsOf e)).block=a.block:=by unfold oe;split <;> rfl
        have eo:(a.add (i*P.cellsOf e)).off=a.off+i*P.cellsOf e:=by unfold oe;split <;> simp_all
        have h0:a.spot=none:=by
         have hg0:=Om he1 0;rw[iq (by omega),bm (by omega)]at hg0;simp only[gj,mz]at hg0;obtain⟨cs0,z7S,_⟩:=hg0;obtain⟨_,_,q,_⟩:=qK z7S (by rw[<-hsz];exact hf.2);simpa[oe]using q
        rw[eb]at q1;rw[eo]at q3 q4;subst q4;have hcr:=UJ hP hsp fuel f hok.2 hf.1 hc2 (nS (i:=i) (by simp[di,bm hi']) hw2);exact⟨l,q1,h0,q3,fun x hx=>by rw[bm hi']at hx;cases hx;exact hcr⟩
       obtain⟨l,hl1,hl2,_,_⟩:=key 0 (by omega);simp only[AK,cOf];refine⟨some a,len,cap,_,rfl,rfl,by simp[VN,hl],hc.2.1,hc.2.2,hbound,.inr ⟨a.block,a.off,l,?_,hl1,?_,fun i c hi=>?_⟩⟩
       ·cases a;simp_all
       ·rw[hsz];obtain⟨l',q1,_,q3,_⟩:=key (len-1) (by omega);rw[hl1]at q1;cases q1;have:len*P.cellsOf e=(len-1)*P.cellsOf e+P.cellsOf e:=by rw[<-Nat.succ_mul];congr 1;omega
        omega
       ·simp only[VM,di,ru,fa]at hi;obtain⟨x,hx,rfl⟩:=hi;have hi':i<len:=by
         have:=(bz.1 hx).1;omega
        rw[hsz];obtain⟨l',q1,_,_,q4⟩:=key i hi';rw[hl1]at q1;cases q1;exact q4 x hx
     ·cases h
   |array n e=>
    simp only[Ty.dat,bg,decide_eq_true_eq]at hf;simp only[bg,beq_iff_eq,decide_eq_true_eq]at hok;have hsz:(tyF P f e).size=P.cellsOf e:=Cf hP f e;unfold lx at h;simp only[hu]at h;split at h
    ·rename_i hlen;simp only[fa]at h;obtain⟨elems,he1,he3⟩:=h;simp only[gp]at he3;obtain⟨rfl,_⟩:=he3;simp only[pk,hu]at hw;have hl:=SF he1;simp at hl;have key:∀i x,elems[i]? =some x->AK (HG w) (tyF P f e) (chunk cs (i*P.cellsOf e) (P.cellsOf e)) (cOf x.1):=by
      intro i x hx;have hg:=Om he1 i;have hi:i<n:=by have:=(bz.1 hx).1;omega
      rw[iq hi,hx]at hg;simp only[gj]at hg;exact UJ hP hsp fuel f hok.2 hf.1 hg (nS (i:=i) (by simp[di,hx]) hw)
     simp only[AK,cOf];refine⟨_,rfl,by simp[VN,hl],by rw[hsz,hlen,hok.1],j7 fun i hi=>?_,fun i c hi=>?_⟩
     ·have hi2:i / P.cellsOf e<n:=by
       rw[Nat.div_lt_iff_lt_mul (by omega)];omega
      have hc:=key (i / P.cellsOf e) _ (bm (by omega));refine⟨_,_,?_,?_,hc.one⟩
      ·exact Nat.div_mul_le_self _ _
      ·have:=Nat.lt_div_mul_add (a:=i) (b:=P.cellsOf e) (by omega);omega
     ·simp only[VM,di,ru,fa]at hi;obtain⟨x,hx,rfl⟩:=hi;rw[hsz];exact key i x hx
    ·cases h
   |struct fs=>
    simp only[Ty.dat,bg,decide_eq_true_eq,ej,List.any_eq_true,gq]at hf;simp only[ej,bg,decide_eq_true_eq]at hok;obtain⟨⟨hf1,hf2⟩,hf3⟩:=hf;unfold lx at h;simp only[hu]at h;split at h
    ·rename_i hlen;simp only[fa]at h;obtain⟨elems,he1,he3⟩:=h;simp only[gp]at he3;obtain⟨rfl,_⟩:=he3;simp only[pk,hu]at hw;have hl:=SF he1;have key:∀(i:Nat) g x,fs.toList[i]? =some g->elems[i]? =some x->AK (HG w) (tyF P f g.type) (chunk cs g.offset (P.cellsOf g.type)) (cOf x.1):=by
      intro i g x hi he;have hg:=Om he1 i;rw[hi,he]at hg;simp only[gj]at hg
      exact UJ hP hsp fuel f (hok g (fg hi)).1 (rF (i:=i) hf1 (by simp only[di,hi,gm])) hg
        (nT (i:=i) (by simp only[di,hi,gm]) (by simp only[di,he,gm]) hw)
     simp only[AK,cOf];refine⟨_,rfl,hlen,j7 fun i hi=>?_,BP.LK (by simp[VN,hl]) fun i F c hF hc=>?_⟩
     ·obtain⟨j,hj,hj2⟩:=hf3 i (by omega);split at hj2
      ·rename_i o F ho hF;simp at hj2;simp only[di,fa]at ho hF;obtain⟨g,hg,rfl⟩:=ho;obtain⟨g',hg',rfl⟩:=hF;rw[hg]at hg';cases hg';have hjl:=(bz.1 hg).1;have hc:=key j g _ hg (bm (by omega));rw[Cf hP]at hj2;exact⟨_,_,hj2.1,hj2.2,hc.one⟩
      ·cases hj2
     ·simp only[di,VM,ru,fa]at hF hc;obtain⟨g,hg,rfl⟩:=hF;obtain⟨x,hx,rfl⟩:=hc;refine⟨g.offset,by simp only[di,hg,gm],?_,?_⟩
      ·rw[Cf hP,hlen];exact(hok g (fg hg)).2
      ·rw[Cf hP];exact key i g x hg hx
    ·cases h
   |_=>simp[Ty.dat]at hf
end
end
section
open Go Go.ChangeShapes Go.WideShapes Go.RowKit
def mK (P:Program):Bool:=(fi P.types.size).all fun t=>match P.underlying t with
 |some (.slice e)=>decide (0<P.cellsOf e)
 |_=>true
def NT (w:World) (gl:Nat->Option (Ty × C)):Prop:=∀g τ c,gl g=some (τ,c)->∃l,HG w g=some l/\τ.size<=l.length/\AK (HG w) τ (chunk l 0 τ.size) c
def Ra (P:Program):List (String × DataW Unit)->Nat->Option (Ty × C)
 | [],_=>none
 |(n,d)::r,g=>if P.globalNamed n=some g then(match(P.globals[g]?).map (·.type)with|some t=>some (ty P t,cOf d)|none=>none)else Ra P r g
def WQ (P:Program) (l:List (String × DataW Unit)):Bool:=l.all fun x=>match P.globalNamed x.1 with
 |some g=>match(P.globals[g]?).map (·.type)with
  |some t=>decide (t<P.types.size)&&(ty P t).dat&&(x.2.weights P t).all (·<=reachBytes)
  |none=>false
 |none=>false
def vR {P} (hP:Aq P=true) {w}:∀{l:List (String × DataW Unit)} {ps:List MemPlace},WQ P l=true->DataW.LaidVars P w l ps->NT w (Ra P l)
 | [],_,_,_=>fun g τ c h=>by simp[Ra]at h
 |(n,d)::r,ps,hk,h=>by
  obtain⟨g0,t,cs,fuel,p,q,hg,ht,hv,hd,hr,_⟩:=h;simp only[WQ,tg,bg,hg,ht,decide_eq_true_eq]at hk;obtain⟨⟨⟨k1,k2⟩,k3⟩,k4⟩:=hk;intro g τ c h;simp only[Ra]at h;split at h
  ·rename_i e;rw[hg]at e;cases e;rw[ht]at h;simp at h;obtain⟨rfl,rfl⟩:=h;have za:=UJ hP (fun _=>rfl) fuel 12 k1 k2 hd k3;simp only[World.var?,hg,gj]at hv;split at hv
   ·rename_i c T fr hc;cases hv;have hl:=za.length;refine⟨cs.toList,by simp[HG,hc],by show(tyF P 12 t).size<=_;omega,?_⟩;have:chunk cs.toList 0 (ty P t).size=cs.toList:=by
     show chunk cs.toList 0 (tyF P 12 t).size=_;rw[<-hl];exact MC _
    rw[this];exact za
   ·cases hv
  ·exact vR hP k4 hr g τ c h
def q6z {P} (hP:Aq P=true) {w} {l:List (String × DataW Unit)} (hk:WQ P l=true) (hn:(l.all fun x=>x.2.handleName?.isNone)=true) (h:laidMetH P l w):NT w (Ra P l):=by
 rw[MakeChecks.laidMetH_plain _ _ _ hn]at h;obtain⟨ps,h1,_⟩:=h;exact vR hP hk h1
def G.start (w:World) (gl:Nat->Option (Ty × C)):G:=
 {H:=HG w,Z:=fun b=>w.heap[b]?,ι:=fun _=>none,τ:=fun _=>none,κ:=fun _=>none,gl:=gl,oo:=oof w,σ:=fun _=>none}
def v7 (n:Nat):∀(ts:List Ty) (cs:List C),Fs n (ke V.d ts cs)=[]
 | [],_=>by simp[Fs]
 |_::_,[]=>by simp[Fs]
 |t::ts,c::cs=>by simp[Fs,V.DK,v7 (n+1) ts cs]
def q1E (n:Nat):∀(ts:List Ty) (cs:List C),CW n (ke V.d ts cs)=ke V.d ts cs
 | [],_=>by simp[CW]
 |_::_,[]=>by simp[CW]
 |t::ts,c::cs=>by simp[CW,V.slot,q1E (n+1) ts cs]
def q4s {w gl} (h:NT w gl) (ts:List Ty) (cs:List C):AO (G.start w gl) w (kf (ke V.d ts cs) fun _=>none):=by
 refine⟨fun b l hb=>?_,fun b o hb=>hb,fun b o sz hb=>by simp[G.start]at hb,fun k o hk=>?_,fun k hk=>absurd rfl hk,fun k k' b τ τ' hk=>by simp[G.start]at hk,fun t L ht=>?_,fun t ht=>absurd rfl ht,h,rfl,fun b sz hb=>by simp[G.start]at hb⟩
 ·simp only[G.start,HG]at hb;split at hb
  ·rename_i c T fr hc;cases hb;exact⟨c,T,fr,[],hc,by simp⟩
  ·cases hb
 ·cases k <;> simp[kf,jj,Bt,AR]at hk
 ·simp[kf,S.live,v7,Du,look]at ht
def nC {H:Type} {enc:TypeId × Value->H} {P w} {base:Nat} {sp} {held:Bool}:∀{ts:List TypeId} {vs:List Value} {ds:List (DataW H)} {ps:List MemPlace},
  lh enc P w base sp held ts vs ds ps->vs.length=ts.length/\ds.length=ts.length
 | [],vs,ds,ps,h=>by obtain⟨rfl,rfl,rfl⟩:=trodAll_nil h;simp
 |t::ts,vs,ds,ps,h=>by
  obtain⟨v,vs,d,ds,p,q,rfl,rfl,rfl,h1,h2⟩:=trodAll_cons h;have:=nC h2;simp[this]
def q2b {H:Type} {enc:TypeId × Value->H} {P w} {base:Nat} {sp} {held:Bool}:∀{ts:List TypeId} {vs:List Value} {ds:List (DataW H)} {ps:List MemPlace} {i:Nat} {t:TypeId} {v:Value} {d:DataW H},
  lh enc P w base sp held ts vs ds ps->ts[i]? =some t->vs[i]? =some v->ds[i]? =some d->∃p,DataW.Trod enc P w base sp held t v d p
 | [],vs,ds,ps,i,t,v,d,h,ht,_,_=>by simp at ht
 |t::ts,vs,ds,ps,i,t',v',d',h,ht,hv,hd=>by
  obtain⟨v,vs,d,ds,p,q,rfl,rfl,rfl,h1,h2⟩:=trodAll_cons h;cases i with
  |zero=>simp at ht hv hd;subst ht;subst hv;subst hd;exact⟨p,h1⟩
  |succ i=>exact q2b h2 (by simpa using ht) (by simpa using hv) (by simpa using hd)
def q2c {H:Type} {enc:TypeId × Value->H} {P:Program} (hl:laidOutB P=true) (hm:mapsRowed P=true) (hz:mK P=true) {w w':World} (hh:∀b,b<w.heap.size->w'.heap[b]? =w.heap[b]?) {sp}:
  ∀{ts:List TypeId} {vs:List Value} {ds:List (DataW H)} {ps:List MemPlace},(∀t∈ts,t<P.types.size)->lh enc P w 0 (fun _=>true) true ts vs ds ps->(∀p∈ps,sp p.block=true)->lh enc P w' 0 sp true ts vs ds ps
 | [],vs,ds,ps,_,h,_=>by obtain⟨rfl,rfl,rfl⟩:=trodAll_nil h;exact trodAll_mk0
 |t::ts,vs,ds,ps,hts,h,hs=>by
  have hlt:=sj h;obtain⟨v,vs,d,ds,p,q,rfl,rfl,rfl,⟨n,h1⟩,h2⟩:=trodAll_cons h
  refine⟨p,q,⟨n,DataW.trod_stays (kids_rows hl hm) (fun{t e} ht hu=>?_) (fun h=>by cases h) (hts t (by simp)) h1 (fun x hx=>?_) (fun x hx=>hs x (by simp[hx]))⟩,
   q2c hl hm hz hh (fun t ht=>hts t (by simp[ht])) h2 (fun x hx=>hs x (by simp[hx])),rfl⟩
  ·have:=ej.1 hz t (gq.2 ht);simp only[hu]at this;simpa using this
  ·have:=hlt x (by simp;exact .inl hx);cases x with
   |cell b off=>simp only[xz,nu];rw[hh b this]
   |map b=>simp only[xz];rw[hh b this]
def z0a {P W} {base:Nat} {t:TypeId} {v} (hd:(ty P t).dat=true) (h:ua P W .any base t v):BJ v=(ty P t).isAgg:=by
 unfold ty tyF at hd ⊢;split at hd
 ·rename_i ht;rw[if_pos ht];unfold ua at h;cases hu:P.underlying t with
  |none=>simp[hu,Ty.dat]at hd
  |some d=>
   rw[hu]at h;cases d <;> simp only[hu,Ty.dat,Ty.isAgg,fj]at hd h ⊢
   case struct=>obtain⟨cs,rfl,_⟩:=h;rfl
   case array=>obtain⟨cs,rfl,_⟩:=h;rfl
   all_goals
    unfold Cell.okWide at h;rw[hu]at h;cases v <;> simp[Cell.ok,hu]at h <;> rfl
 ·simp[Ty.dat]at hd
section
variable {H:Type} {enc:TypeId × Value->H} {P:Program}
def q8d (hP:Aq P=true) (hl:laidOutB P=true) (hm:mapsRowed P=true) (hz:mK P=true) {f} {fn:Func} {s:ChangeSpec} {W} {base:Nat} {args:Array Value} {ds gs:List (DataW H)} {before} {apart fresh handsOn again:Bool}
  (hp:fn.params.toList.all (fun t=>decide (t<P.types.size)&&(ty P t).dat)=true) {tb:TypeId} (hr:fn.resultTypes=#[tb]) (hb:P.underlying tb=some .bool) (z6f:s.vars=[])
  (z7T:∀(j:Nat) t v,fn.params[j]? =some t->args[j]? =some v->ua P W .any base t v)
  (hW:DataW.Whole enc P fn.params.toList s.vars apart W args.toList ds gs before)
  (hwt:(mq P fn.params.toList ds).all (·<=reachBytes)=true) {gl:Nat->Option (Ty × C)} (hgl:NT W gl)
  (hfr:(s.fn H (ds++gs)).results=[.lit (.bool true)]) (hfa:(s.fn H (ds++gs)).args=ds) (hfv:(s.fn H (ds++gs)).vars=[])
  (law:Bg ⟨P,gl⟩ f (ke V.d (fn.params.toList.map (ty P)) (ds.map cOf)) (fun _=>none) (.d .bool (.bool true)) []):
  Calls P f args W fun e W'=>∃v,e= .returned v/\s.post enc P fn apart fresh handsOn again W args v W':=by
 have hW':=hW;obtain⟨p,q,hA,hV,rfl,hfz,hnd⟩:=hW;rw[z6f]at hV;obtain⟨rfl,rfl⟩:=trodVars_none hV;have z6Q:=nC hA;have z7a:∀t∈fn.params.toList,t<P.types.size/\(ty P t).dat=true:=by
  intro t ht;have:=ej.1 hp t ht;simpa using this
 refine(law (fun _=>none) (G.start W gl) W args (fun _ _ h=>h) rfl ⟨q4s hgl _ _,fun _ _ h=>nomatch h⟩ ?_ ?_).mono ?_
 ·simp only[List.length_zipWith,List.length_map,z6Q.2];have:=z6Q.1;simp at this ⊢;omega
 ·intro i x u hx hu;rw[q1E,List.getElem?_zipWith]at hx;split at hx
  ·rename_i τ c hτ hc;cases hx;simp only[di,fa]at hτ hc;obtain⟨t,ht,rfl⟩:=hτ;obtain⟨d,hd,rfl⟩:=hc;have hu':args.toList[i]? =some u:=by simpa using hu
   obtain⟨ps,fuel,htr⟩:=q2b hA ht hu' hd;have hm:=z7a t (fg ht);have hv:=z7T i t u (by simpa using ht) hu;refine(BZ rfl).2 ⟨?_,?_⟩
   ·simp only[AA];exact UJ hP (fun _=>rfl) fuel 12 hm.1 hm.2 htr (nT ht hd hwt)
   ·simp only[V.ty];exact z0a hm.2 hv
  ·cases hx
 ·rintro e W' ⟨u,Γ',rfl,gle,c',hu⟩;have hu':u= .bool true:=(FU hu).1;subst hu';refine⟨_,rfl,?_⟩;have hold:∀b,b<W.heap.size->W'.heap[b]? =W.heap[b]?:=by
   intro b hb;have:Γ'.Z b=some W.heap[b]:=by rw[gle.Z];simp[G.start,hb]
   rw[c'.hZ b _ this];simp[hb]
  have hoo:oof W'=oof W:=by rw[c'.hoo,gle.oo];rfl
  have hpl:∀t∈fn.params.toList,t<P.types.size:=fun t ht=>(z7a t ht).1;have z7b:∀x∈p,x.block<W.heap.size:=sj hA;have z51:∀(b:Nat) (sp:Nat->Bool) (hd:Bool),lh enc P W' b sp hd fn.resultTypes.toList ((Value.bool true).resultList fn.resultTypes.size) [.lit (.bool true)] []:=by
   intro b sp hd;rw[hr];exact trodAll_mk1 (shut_bool hb _)
  have z6R:∀sp:Nat->Bool,(∀x∈p,sp x.block=true)->lh enc P W' 0 sp true fn.params.toList args.toList ds p:=fun sp hs=>q2c hl hm hz hold hpl hA hs;refine⟨ds,[],p++[],[],p,[],hW',?_,?_,?_,?_,fun _=>⟨?_,[.lit (.bool true)]++ds,[],([]++p)++[],⟨[]++p,[],trodAll_append (z6R _ (fun _ _=>rfl)) (z51 _ _ _),by rw[z6f];rfl,rfl,?_,?_⟩,?_⟩⟩
  ·rw[hfr];exact z51 _ _ _
  ·rw[hfa];exact z6R _ (fun x hx=>by simpa using z7b x hx)
  ·rw[hfv,z6f];rfl
  ·refine⟨congrArg Prod.fst hoo,congrArg Prod.snd hoo,fun i hi=>?_⟩;rw[hold i hi];cases hc:W.heap[i]? with
   |none=>rfl
   |some o=>cases o <;> simp
  ·intro j t r hj hrr;rw[hr]at hj hrr;cases j with
   |zero=>
    simp at hj;subst hj;have:r= .bool true:=by simpa[Value.resultList]using hrr.symm
    subst this;exact okWide_bool_mk hb _
   |succ j=>simp at hj
  ·intro b off hx;have hx':MemPlace.cell b off∈p:=by simpa using hx
   have:=hfz b off (by simpa using hx');unfold World.frozen? at this ⊢;rw[hold b (z7b _ hx')];exact this
  ·intro ha;simpa using hnd ha
  ·intro x hx _;simpa using hx
end
end
section
section
variable {X:Cx} {md:List (Nat × Nat)} {ops:Array Oper} {Φ:S->Prop} {rest:List Oper} {ts:List Nat} {o:Oper} {base s:S}
end
end
mutual
def C.beq:C->C->Bool
 | .int a,.int b=>decide (a=b)
 | .bool a,.bool b=>a==b
 | .str a,.str b=>decide (a=b)
 | .agg a,.agg b=>C.Ga a b
 | .slice a,.slice b=>C.Ga a b
 | .nil,.nil=>true
 |_,_=>false
def C.Ga:List C->List C->Bool
 | [],[]=>true
 |x::xs,y::ys=>C.beq x y&&C.Ga xs ys
 |_,_=>false
end
mutual
def C.beq_iff:∀(a b:C),C.beq a b=true↔a=b
 | .int a,b=>by cases b <;> simp[C.beq]
 | .bool a,b=>by cases b <;> simp[C.beq]
 | .str a,b=>by cases b <;> simp[C.beq]
 | .agg a,b=>by cases b <;> simp[C.beq,C.Nh a]
 | .slice a,b=>by cases b <;> simp[C.beq,C.Nh a]
 | .nil,b=>by cases b <;> simp[C.beq]
def C.Nh:∀(a b:List C),C.Ga a b=true↔a=b
 | [],b=>by cases b <;> simp[C.Ga]
 |x::xs,[]=>by simp[C.Ga]
 |x::xs,y::ys=>by simp[C.Ga,C.beq_iff x,C.Nh xs]
end
instance:DecidableEq C:=fun a b=>decidable_of_iff _ (C.beq_iff a b)
def C.Vm (a b:C):rq a b=C.beq a b:=by rw[ko,C.GD,C.beq_iff]
def V.isAny:V->Bool
 | .any=>true
 |_=>false
def V.Oa {x:V} (h:x.isAny=false):x≠.any:=by intro e;subst e;cases h
instance (k:IntKind) (x:V):Decidable (x.isInt k):=by unfold V.isInt;split <;> infer_instance
instance (x:V):Decidable x.isBool:=by unfold V.isBool;split <;> infer_instance
instance (x:V):Decidable x.isStr:=by unfold V.isStr;split <;> infer_instance
instance (x:V):Decidable x.FA:=by unfold V.FA;split <;> infer_instance
instance (τ:Ty) (x:V):Decidable (x.DF τ):=by unfold V.DF;split <;> infer_instance
def S.wA (s:S) (A:Key->Option O):S:={s with A:=A}
def leA (A A':Key->Option O):Prop:=∀k o,A k=some o->A' k=some o
def Cs {s:S} {A'} (hA:leA s.A A') {k o} (h:s.obj k=some o):(s.wA A').obj k=some o:=by
 simp only[jj,Bt,S.wA]at h ⊢;cases hl:AR s.loc k with
 |some x=>rw[hl]at h;exact h
 |none=>
  rw[hl]at h;cases k with
  |l n=>cases h
  |g k=>exact hA _ _ h
def LI (s:S) (A':Key->Option O) (n:Nat):(s.wA A').obj (.l n)=s.obj (.l n):=rfl
def Ei (gl:Nat->Option (Ty × C)) (s:S) (A':Key->Option O):Ak gl (s.wA A')=Ak gl s:=by funext y;cases y <;> rfl
def nK {s:S} {A'} (hA:leA s.A A'):leA s.up (s.wA A').up:=by
 intro k o h;simp only[S.up,fa]at h ⊢;obtain⟨x,h1,h2⟩:=h;exact⟨x,Cs hA h1,h2⟩
def q8r (s:S) (A':Key->Option O) (t:Nat):(s.wA A').live t=s.live t:=rfl
def sX {s:S} {A'} (hA:leA s.A A') {x r} (h:Dz s x=some r):Dz (s.wA A') x=some r:=by
 cases x <;> simp only[Dz]at h ⊢ <;> try exact h
 split at h
 ·rename_i y hy;rw[Cs hA hy];exact h
 ·cases h
def VL (τ:Ty):V->List (Nat × V)->Bool
 |_,[]=>true
 |x,(i,v)::rest=>(τ.child i).isSome&&decide ((Bj (τ.get i) v).ty=τ.get i)&&(Bj (τ.get i) v).plain&& !(x.at [i]).isAny&&VL τ (x.setAt [i] (Bj (τ.get i) v)) rest
def qC {τ}:∀{l:List (Nat × V)} {x:V},VL τ x l=true->MB τ x l
 | [],_,_=>trivial
 |(i,v)::rest,x,h=>by
  simp only[VL,bg,decide_eq_true_eq,ju]at h;exact⟨h.1.1.1.1,h.1.1.1.2,h.1.1.2,V.Oa h.1.2,qC h.2⟩
abbrev RI:=V × List (Key × O) × List (Nat × Option Nat)
def Gg {α:Type}:List (C × α)->C->α->List (C × α)
 | [],c,v=>[(c,v)]
 |(k,u)::es,c,v=>if C.beq c k=true then(k,v)::es else(k,u)::Gg es c v
def W1 {α:Type} (c:C) (v:α):∀(es:List (C × α)),Gg es c v=EC es c v
 | []=>rfl
 |(k,u)::es=>by simp only[Gg,EC,C.Vm,W1 c v es]
def z4k {P} {s:S} {A'} (hA:leA s.A A') {src dst:TypeId} {x ys} (h:strOf P s src dst x=some ys):strOf P (s.wA A') src dst x=some ys:=by
 cases hel:Dz s x with
 |some r=>
  rw[<-h];unfold strOf;rw[hel,sX hA hel]
 |none=>
  unfold strOf at h ⊢;rw[hel]at h;split at h
  ·split at h
   ·rename_i h0;rw[if_pos h0];split at h
    ·exact h
    ·cases h
   ·cases h
  ·cases h
def z4j {P s} {src dst:TypeId} {x ys K} (h:strOf P s src dst x=some ys):¬Mm P src dst x K:=by
 unfold strOf at h;split at h
 ·rename_i ht hd;unfold Mm;rw[ht,hd];exact id
 ·cases h
def WM (A':Key->Option O):∀(σ:List (Nat × List Nat)) (s:S),Ds σ (s.wA A')=(Ds σ s).wA A'
 | [],_=>rfl
 |(t,_)::σ,s=>by simp only[Ds];exact WM A' σ (s.tok t none)
def X9 (A':Key->Option O) (d:Nat):∀(L:List (Key × O)) (s:S),Fk d L (s.wA A')=(Fk d L s).wA A'
 | [],_=>rfl
 |(k,o)::L,s=>by simp only[Fk,X9 A' d L s];rfl
def W2 (A':Key->Option O) (d:Nat):∀(L:List (Nat × Option Nat)) (s:S),Gh d L (s.wA A')=(Gh d L s).wA A'
 | [],_=>rfl
 |(k,o)::L,s=>by simp only[Gh,W2 A' d L s];rfl
def rW (A':Key->Option O):∀(L:List Nat) (s:S),GA L (s.wA A')=(GA L s).wA A'
 | [],_=>rfl
 |t::L,s=>by simp only[GA,rW A' L s];rfl
def q3j (A':Key->Option O) (tip:Bool) (s:S) (x:V):CE tip (s.wA A') x=CE tip s x:=rfl
def iE (A':Key->Option O) (tip:Bool) (s:S):∀(ys:List V),CN tip (s.wA A') ys=CN tip s ys
 | []=>rfl
 |y::ys=>by simp only[CN,iE A' tip s ys,q3j]
def pD (A':Key->Option O) (P:Program) (tip:Bool) (s:S):∀(Ts:List TypeId) (ys:List V),CQ P tip (s.wA A') Ts ys=CQ P tip s Ts ys
 | [],_=>rfl
 |_::_,[]=>rfl
 |T::Ts,y::ys=>by
  simp only[CQ,pD A' P tip s Ts ys];rfl
def lQ (A':Key->Option O) (s:S) (tip:Bool) (ys:List V) (d:Nat) (v:V) (L:List (Key × O)):(s.wA A').ret tip ys d v L=(s.ret tip ys d v L).wA A':=by simp only[S.ret,iE,X9,rW,W2]
def HC (s:S) (d:Nat):List (Key × O)->Bool
 | []=>true
 |(.g k,_)::L=>(s.obj k).isSome&&HC s d L
 |(.l j,_)::L=>(s.obj (.l (rk d j))).isNone&&HC s d L
def Vy {s:S} {A'} (hA:leA s.A A') {d:Nat}:∀{L:List (Key × O)},HC s d L=true->gOk (s.wA A') d L
 | [],_=>trivial
 |(.g k,_)::L,h=>by
  simp only[HC,bg]at h;obtain⟨o,ho⟩:=Option.isSome_iff_exists.1 h.1;exact⟨by rw[Cs hA ho];rfl,Vy hA h.2⟩
 |(.l j,_)::L,h=>by
  simp only[HC,bg]at h;exact⟨by rw[LI];simpa using h.1,Vy hA h.2⟩
def Iv (s:S) (d:Nat):List (Nat × Option Nat)->Bool
 | []=>true
 |(m,_)::l=> !s.known (rk d m)&&Iv s d l
def mW {s:S} {A'} {d:Nat}:∀{L:List (Nat × Option Nat)},Iv s d L=true->tOk (s.wA A') d L
 | [],_=>trivial
 |(m,_)::L,h=>by
  simp only[Iv,bg,ju]at h;exact⟨h.1,mW h.2⟩
def Eo (s:S):List (Key × O)->Bool
 | []=>true
 |(.l n,_)::l=>(s.obj (.l n)).isNone&&Eo s l
 |(.g _,_)::_=>false
def RW {s:S} {A'}:∀{L:List (Key × O)},Eo s L=true->FK (s.wA A') L
 | [],_=>trivial
 |(.l n,_)::L,h=>by
  simp only[Eo,bg]at h;exact⟨by rw[LI];simpa using h.1,RW h.2⟩
 |(.g _,_)::_,h=>by simp[Eo]at h
def Kk (s:S):List (Nat × Option Nat)->Bool
 | []=>true
 |(t,_)::l=> !s.known t&&Kk s l
def RX {s:S} {A'}:∀{L:List (Nat × Option Nat)},Kk s L=true->FL (s.wA A') L
 | [],_=>trivial
 |(t,_)::L,h=>by
  simp only[Kk,bg,ju]at h;exact⟨h.1,RX h.2⟩
abbrev KW:=FuncId->List V->(Key->Option O)->Option (V × List (Key × O))
abbrev KX:=FuncId->List V->Option V
def NP (X:Cx) (call:KW):Prop:=∀f xs A v L,call f xs A=some (v,L)->Bg X f xs A v L
def NS (X:Cx) (ext:KX):Prop:=∀f xs v,ext f xs=some v->NR X f xs v
section
def z47 (ext:KX) (o:Oper) (ρ:Operand->V):Option V:=
 match o.op with
 | .call c=>(match c.callee with
  | .value fo=>(match ρ fo with
   | .fn f []=>ext f (c.args.toList.map ρ)
   |_=>none)
  |_=>none)
 |_=>none
def z46 (X:Cx) (call:KW) (o:Oper) (ρ:Operand->V) (s:S):Option (V × List (Key × O)):=
 match o.op with
 | .call c=>(match c.callee with
  | .value fo=>(match ρ fo with
   | .fn f yp=>if Hh X.P f=true/\c.argTypes.toList.length=c.args.toList.length then
      call f (CQ X.P false s (Jj c.argTypes.toList yp) (Dx (c.args.toList.map ρ) yp)) s.up else none
   |_=>none)
  |_=>none)
 |_=>none
def Ed (o:Oper) (ρ:Operand->V):List V:=
 match o.op with
 | .call c=>(match c.callee with
  | .value fo=>(match ρ fo with
   | .fn _ yp=>Dx (c.args.toList.map ρ) yp
   |_=>[])
  |_=>[])
 |_=>[]
def VB:List Oper->List Nat
 | []=>[]
 |o::l=>(match o.op with
  | .call c=>(match c.callee,c.args.toList with
   | .builtin .append,(.tmp t)::_=>[t]
   |_,_=>[])
  |_=>[])++VB l
def SI:Nat->List Nat->Bool
 |_,[]=>false
 |i,j::l=>Nat.beq i j||SI i l
def CM (yq:List Nat) (tbl:List (Nat × Nat)) (o:Oper) (ρ:Operand->V) (s:S):Nat:=
 match look tbl (Aa o)with
 |some m=>m
 |none=>(match o.op with
  | .load _ x=>if SI (Aa o) yq=true then(match ρ x with
    | .ptr k q _=>(match s.obj k with
     |some (.box y)=>(match y.at q with
      | .ts _ _ _=>1
      |_=>0)
     |_=>0)
    |_=>0)else 0
  |_=>0)
def cZ (o:Oper):Bool:=
 match o.op with
 | .call c=>(match c.callee with| .value _=>true|_=>false)
 |_=>false
section
variable {X:Cx} {call:KW} {ext:KX} (hc:NP X call) (he:NS X ext)
include hc he
end
def cS (ops:Array Oper) (s:S) (A':Key->Option O) (j:Nat):gv ops (s.wA A') j=gv ops s j:=by unfold gv;split <;> rfl
def Iq (s:S) (A':Key->Option O) (d:Option Nat) (v:V):(s.wA A').set d v=(s.set d v).wA A':=by cases d <;> rfl
def CZ (s:S) (d:Option Nat) (v:V):(s.set d v).A=s.A:=by cases d <;> rfl
section
variable {X:Cx} {call:KW} {ext:KX} (hc:NP X call) (he:NS X ext)
include hc he
end
end
section
def LG {α β:Type} (l:List α) (l':List β):Bool:=l.isEmpty&&l'.isEmpty
inductive RD where
 |k0 (v:V)|k1 (v:V) (lo:List (Key × O)) (tn:List (Nat × Option Nat))|k2 (v:V) (s:S)
def RD.kind:RD->Nat
 | .k0 _=>0
 | .k1 _ _ _=>1
 | .k2 _ _=>2
def RD.post (s:S) (A':Key->Option O) (K0:V->Prop) (K1:V->List (Key × O)->List (Nat × Option Nat)->Prop) (K2:V->S->Prop):RD->Prop
 | .k0 v=>K0 v
 | .k1 v lo tn=>FK (s.wA A') lo->FL (s.wA A') tn->Eo s lo=true->K1 v lo tn
 | .k2 v s1=>K2 v (s1.wA A')
def Hw (s:S) (d:Option Nat) (v:V) (k:Key):(s.set d v).obj k=s.obj k:=by cases d <;> rfl
def gB {s:S} {lo tn} (h:Eo s lo=true) {k o} (hk:s.obj k=some o):(s.add lo tn).obj k=some o:=by
 have key:∀{lo:List (Key × O)},Eo s lo=true->AR lo k=none:=by
  intro lo
  induction lo with
  |nil=>intro _;rfl
  |cons x lo ih=>
   obtain⟨j,y⟩:=x;cases j with
   |g j=>intro h;simp[Eo]at h
   |l n=>
    intro h;simp only[Eo,bg]at h;simp only[AR];rw[if_neg,ih h.2];intro e;rw[e,hk]at h;simp at h
 have e:=key h;simp only[jj,Bt,S.add]at hk ⊢;rw[LB,e];exact hk
section
variable {X:Cx} {call:KW} {ext:KX} (hc:NP X call) (he:NS X ext)
include hc he
end
end
section
mutual
def V.MQ:∀(x:V),V.BA x x
 | .d _ _=>by simp[V.BA,Bl,V.ty]
 | .emp _ _=>.inl rfl
 | .agg _ vs=>⟨rfl,V.wJ vs⟩
 | .any=>trivial
 | .sl _ _ _ _| .ts _ _ _| .ym| .ptr _ _ _| .yn _ _| .sr _ _ _ _ _ _ _| .mp _| .fn _ _| .tup _| .top _=>by simp[V.BA]
def V.wJ:∀(xs:List V),V.Fg xs xs
 | []=>trivial
 |x::xs=>⟨V.MQ x,rfl,V.wJ xs⟩
end
def O.dB:O->Bool
 | .box y=>y.plain&&y.Aw
 | .map _ _ _=>true
 | .it _ _| .dead _=>true
def O.MQ {o:O} (h:o.dB=true):O.BA o o:=by
 cases o with
 |box y=>
  simp only[O.dB,bg]at h;exact⟨V.MQ y,rfl,h.1,h.2⟩
 |map=>exact⟨rfl,rfl,rfl⟩
 |it=>exact⟨rfl,rfl⟩
 |dead=>exact(rfl:_=_)
mutual
def V.keys:V->List Nat
 | .ptr (.l k) _ _| .mp (.l k)| .sr (.l k) _ _ _ _ _ _=>[k]
 | .agg _ vs| .fn _ vs| .tup vs=>V.JR vs
 |_=>[]
def V.JR:List V->List Nat
 | []=>[]
 |x::xs=>x.keys++V.JR xs
end
mutual
def V.q19:V->List Nat
 | .sl _ _ _ t=>[t]
 | .agg _ vs| .fn _ vs| .tup vs=>V.q2a vs
 |_=>[]
def V.q2a:List V->List Nat
 | []=>[]
 |x::xs=>x.q19++V.q2a xs
end
def O.keys:O->List Nat
 | .box x=>x.keys
 | .map _ _ es=>V.JR (es.map (·.2))
 | .it _ _| .dead _=>[]
def reach (loc:List (Key × O)):Nat->List Nat->List Nat->List Nat
 |0,_,acc=>acc
 |_,[],acc=>acc
 |f+1,k::ks,acc=>if SI k acc=true then reach loc f ks acc else match AR loc (.l k)with
  |some o=>reach loc f (o.keys++ks) (k::acc)
  |none=>reach loc f ks acc
def JP:List (Key × O)->List Nat
 | []=>[]
 |(.g _,o)::l=>o.keys++JP l
 |(.l _,_)::l=>JP l
def GN (loc:List (Key × O)) (ks:List Nat):List (Key × O)
 ->List (Key × O)
 | []=>[]
 |(.g k,_)::l=>(match AR loc (.g k)with|some o=>[(.g k,o)] |none=>[])++GN loc ks l
 |(.l k,_)::l=>(if SI k ks=true then(match AR loc (.l k)with|some o=>[(.l k,o)] |none=>[])else[])++GN loc ks l
def Ka:List (Key × O)->Bool
 | []=>true
 |(_,o)::l=>o.dB&&Ka l
def IV (L:List (Key × O)):List (Key × O)->Bool
 | []=>true
 |(.g k,_)::l=>(AR L (.g k)).isSome&&IV L l
 |(.l _,_)::l=>IV L l
def NY {L A}:∀{l:List (Key × O)},IV L l=true->IU L A l
 | [],_=>trivial
 |(.g k,_)::l,h=>by
  simp only[IV,bg]at h;exact⟨.inl h.1,NY h.2⟩
 |(.l _,_)::l,h=>NY (l:=l) h
def Wz {s:S} {k o} (h:AR s.loc k=some o):s.obj k=some o:=by simp only[jj,Bt,h]
def Kz {s:S} (ks:List Nat):∀{l:List (Key × O)},Ka (GN s.loc ks l)=true->Fj s (GN s.loc ks l)
 | [],_=>trivial
 |(.g k,_)::l,h=>by
  simp only[GN]at h ⊢;cases hl:AR s.loc (.g k)with
  |none=>rw[hl]at h;exact Kz ks h
  |some o=>
   rw[hl]at h;simp only[ji,fz,Ka,bg]at h ⊢;refine⟨?_,Kz ks h.2⟩;rw[Wz hl];exact O.MQ h.1
 |(.l k,_)::l,h=>by
  simp only[GN]at h ⊢;by_cases hk:SI k ks=true
  ·rw[if_pos hk]at h ⊢;cases hl:AR s.loc (.l k)with
   |none=>rw[hl]at h;exact Kz ks h
   |some o=>
    rw[hl]at h;simp only[ji,fz,Ka,bg]at h ⊢;refine⟨?_,Kz ks h.2⟩;rw[Wz hl];exact O.MQ h.1
  ·rw[if_neg hk]at h ⊢;exact Kz ks h
def Eh (s:S):List Nat->List (Nat × V)
 | []=>[]
 |i::l=>(i,s.get i)::Eh s l
def JC (f g:Nat->Bool):List (Nat × V)->Bool
 | []=>true
 |(_,x)::l=>x.ok f g&&JC f g l
def bK {s f g}:∀{l:List Nat},JC f g (Eh s l)=true->Hk f g s (Eh s l)
 | [],_=>trivial
 |i::l,h=>by
  simp only[Eh,JC,bg]at h;exact⟨V.MQ _,h.1,.inr rfl,bK h.2⟩
def DK (s:S):List Nat->List (Nat × Option Nat)
 | []=>[]
 |t::l=>(match look s.tk t with|some x=>[(t,x)] |none=>[])++DK s l
def Yc {s}:∀{l:List Nat},tkW s (DK s l)
 | []=>trivial
 |t::l=>by
  simp only[DK];cases hl:look s.tk t with
  |none=>exact Yc
  |some x=>
   refine⟨?_,Yc⟩;cases x with
   |none=>simp[S.known,hl]
   |some L=>simp[S.live,Du,hl]
def tE:List (Nat × V)->List Nat
 | []=>[]
 |(_,x)::l=>x.keys++tE l
def bI:List (Nat × V)->List Nat
 | []=>[]
 |(_,x)::l=>x.q19++bI l
def gcS (yv:List Nat) (s:S):S:=
 ⟨Eh s yv,GN s.loc (reach s.loc 100000 (tE (Eh s yv)++JP s.loc) []) s.loc,s.A,DK s (bI (Eh s yv))⟩
def gcB (yv:List Nat) (s:S):Bool:=
 Ka (gcS yv s).loc&&FD (Bb (gcS yv s).loc) (CS (gcS yv s).tk) (gcS yv s).loc&&IV (gcS yv s).loc s.loc&&JC (Bb (gcS yv s).loc) (CS (gcS yv s).tk) (Eh s yv)
def q6s {X} {n:Nat} {yv:List Nat} {s:S} (A':Key->Option O) (h:gcB yv s=true):DL X n (s.wA A') ((gcS yv s).wA A'):=by
 simp only[gcB,bg]at h;obtain⟨⟨⟨h1,h2⟩,h3⟩,h4⟩:=h;refine q2D rfl ?_ h2 (NY h3) ?_ ?_
 ·exact Kz (s:=s.wA A') _ h1
 ·have:∀l,DK (s.wA A') l=DK s l:=by
   intro l
   induction l with
   |nil=>rfl
   |cons i l ih=>simp only[DK,ih];rfl
  show tkW (s.wA A') (DK s (bI (Eh s yv)));rw[<-this];exact Yc
 ·have:Eh (s.wA A') yv=Eh s yv:=by
   generalize yv=l
   induction l with
   |nil=>rfl
   |cons i l ih=>simp only[Eh,ih];rfl
  show Hk _ _ (s.wA A') (Eh s yv);rw[<-this]at h4 ⊢;exact bK h4
def Ou (ml:List (Nat × Nat)):List (Nat × Nat)->Bool
 | []=>true
 |(d,m)::l=>Nat.beq (Br ml d) m&&Ou ml l
def Wp {ml}:∀{l:List (Nat × Nat)},Ou ml l=true->∀p∈l,Br ml p.1=p.2
 |(d,m)::l,h,p,hp=>by
  simp only[Ou,bg]at h;rcases gr.1 hp with rfl|hp
  ·exact Nat.eq_of_beq_eq_true h.1
  ·exact Wp h.2 p hp
def slotsOf:List (Nat × V)->List Nat
 | []=>[]
 |(i,_)::l=>i::slotsOf l
section
variable {X:Cx} {call:KW} {ext:KX} (hP:Aq X.P=true) (hmo:X.P.follows .mixedOrders=true) (hc:NP X call) (he:NS X ext)
include hP hmo hc he
end
end
end Go.E
